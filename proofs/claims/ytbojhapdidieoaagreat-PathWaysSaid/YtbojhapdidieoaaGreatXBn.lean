/- Contracts of functions and laws of this seat, each for every input that it names: lemmas of the proof. -/
import Derived.Test.YtbojhapdidieoaaGreatXBj
set_option linter.unusedSimpArgs false
set_option linter.unusedVariables false
set_option linter.unusedSimpArgs false
set_option linter.unusedVariables false
namespace Go.Proofs.YtbojhapdidieoaaGreat
open Go.PL
def awX : Ln := ⟨1, ⟨1, [], [110, 111, 116, 101]⟩, [109, 101, 109, 111], [], 0, default, [], []⟩
def awA : Eg := ⟨⟨1, 1⟩, default, awX⟩
def awB : Eg := ⟨⟨2, 1⟩, default, awX⟩
theorem okAw : OkLn awX := ⟨by decide, by decide, by decide⟩
theorem putA : putM [] awA = ([awA], 0) := by decide +kernel
theorem putB : putM [awA] awB = ([awA, awB], 0) := by decide +kernel
theorem okA : OkM [awA] := by have := okPut okM_nil (e := awA) okAw; rw [putA] at this; exact this
theorem okB : OkM [awA, awB] := by have := okPut okA (e := awB) okAw; rw [putB] at this; exact this
theorem pathAB : pathM [awA, awB] ⟨1, 1⟩ ⟨2, 1⟩ = ([⟨⟨1, 1⟩, false⟩, ⟨⟨2, 1⟩, true⟩], 0) := by decide +kernel
theorem nomap_legsc (x : List Lg × Int) : (legsc x).nomap = true := by simp only [legsc, lgs, PV.nomap, PV.nomapL, nomapL_map lg (fun _ => rfl), Bool.and_self]
set_option maxRecDepth 20000 in
set_option maxHeartbeats 16000000 in
theorem awake18_pure : PL.Pure Tryz.prog 7 [] (.bool true) := by
  have h1 := put_wr [] awA okM_nil okAw
  have h2 := put_wr [awA] awB okA okAw
  have hP := Path_pure [awA, awB] ⟨1, 1⟩ ⟨2, 1⟩ okB
  rw [putA] at h1
  rw [putB] at h2
  rw [pathAB] at hP
  refine PL.Pure.of_vs Tryz.func7 (by decide) rfl Tryz.ntmps7 Tryz.results7 (by simp) rfl ?_
  simp only [go_sem, reduceIte, Nat.reduceEqDiff, reduceCtorEq, Nat.reduceLT, Nat.reduceAdd, Nat.reduceSub, Nat.reduceMul, Nat.reduceLeDiff, Int.reduceLT, Int.reduceLE, Int.reduceToNat, Int.reduceEq, Int.reduceAdd, Int.reduceSub, Int.reduceNeg, Int.reduceBNe, Int.reduceBEq]
  refine vCall_mk mk_new ?_ ?_ (fun b hb => ?_)
  · simp only [go_sem, reduceIte, Nat.reduceEqDiff, reduceCtorEq, Nat.reduceLT, Nat.reduceAdd, Nat.reduceSub, Nat.reduceMul, Nat.reduceLeDiff, Int.reduceLT, Int.reduceLE, Int.reduceToNat, Int.reduceEq, Int.reduceAdd, Int.reduceSub, Int.reduceNeg, Int.reduceBNe, Int.reduceBEq]
  · simp only [go_sem, reduceIte, Nat.reduceEqDiff, reduceCtorEq, Nat.reduceLT, Nat.reduceAdd, Nat.reduceSub, Nat.reduceMul, Nat.reduceLeDiff, Int.reduceLT, Int.reduceLE, Int.reduceToNat, Int.reduceEq, Int.reduceAdd, Int.reduceSub, Int.reduceNeg, Int.reduceBNe, Int.reduceBEq]
  simp only [go_sem, reduceIte, Nat.reduceEqDiff, reduceCtorEq, Nat.reduceLT, Nat.reduceAdd, Nat.reduceSub, Nat.reduceMul, Nat.reduceLeDiff, Int.reduceLT, Int.reduceLE, Int.reduceToNat, Int.reduceEq, Int.reduceAdd, Int.reduceSub, Int.reduceNeg, Int.reduceBNe, Int.reduceBEq]
  refine vCall_wr b h1 ?_ ?_ ?_ ?_
  · simp only [go_sem, reduceIte, Nat.reduceEqDiff, reduceCtorEq, Nat.reduceLT, Nat.reduceAdd, Nat.reduceSub, Nat.reduceMul, Nat.reduceLeDiff, Int.reduceLT, Int.reduceLE, Int.reduceToNat, Int.reduceEq, Int.reduceAdd, Int.reduceSub, Int.reduceNeg, Int.reduceBNe, Int.reduceBEq]
  · simp only [go_sem, reduceIte, Nat.reduceEqDiff, reduceCtorEq, Nat.reduceLT, Nat.reduceAdd, Nat.reduceSub, Nat.reduceMul, Nat.reduceLeDiff, Int.reduceLT, Int.reduceLE, Int.reduceToNat, Int.reduceEq, Int.reduceAdd, Int.reduceSub, Int.reduceNeg, Int.reduceBNe, Int.reduceBEq]
    rfl
  · simp [upd]; rfl
  simp only [go_sem, reduceIte, Nat.reduceEqDiff, reduceCtorEq, Nat.reduceLT, Nat.reduceAdd, Nat.reduceSub, Nat.reduceMul, Nat.reduceLeDiff, Int.reduceLT, Int.reduceLE, Int.reduceToNat, Int.reduceEq, Int.reduceAdd, Int.reduceSub, Int.reduceNeg, Int.reduceBNe, Int.reduceBEq]
  refine vCall_wr b h2 ?_ ?_ ?_ ?_
  · simp only [go_sem, reduceIte, Nat.reduceEqDiff, reduceCtorEq, Nat.reduceLT, Nat.reduceAdd, Nat.reduceSub, Nat.reduceMul, Nat.reduceLeDiff, Int.reduceLT, Int.reduceLE, Int.reduceToNat, Int.reduceEq, Int.reduceAdd, Int.reduceSub, Int.reduceNeg, Int.reduceBNe, Int.reduceBEq]
  · simp only [go_sem, reduceIte, Nat.reduceEqDiff, reduceCtorEq, Nat.reduceLT, Nat.reduceAdd, Nat.reduceSub, Nat.reduceMul, Nat.reduceLeDiff, Int.reduceLT, Int.reduceLE, Int.reduceToNat, Int.reduceEq, Int.reduceAdd, Int.reduceSub, Int.reduceNeg, Int.reduceBNe, Int.reduceBEq]
    rfl
  · simp [upd]
  simp only [go_sem, reduceIte, Nat.reduceEqDiff, reduceCtorEq, Nat.reduceLT, Nat.reduceAdd, Nat.reduceSub, Nat.reduceMul, Nat.reduceLeDiff, Int.reduceLT, Int.reduceLE, Int.reduceToNat, Int.reduceEq, Int.reduceAdd, Int.reduceSub, Int.reduceNeg, Int.reduceBNe, Int.reduceBEq]
  refine vCall_sl hP (nomap_legsc _) ?_ ?_ ?_
  · simp only [go_sem, reduceIte, Nat.reduceEqDiff, reduceCtorEq, Nat.reduceLT, Nat.reduceAdd, Nat.reduceSub, Nat.reduceMul, Nat.reduceLeDiff, Int.reduceLT, Int.reduceLE, Int.reduceToNat, Int.reduceEq, Int.reduceAdd, Int.reduceSub, Int.reduceNeg, Int.reduceBNe, Int.reduceBEq]
  · simp only [go_sem, reduceIte, Nat.reduceEqDiff, reduceCtorEq, Nat.reduceLT, Nat.reduceAdd, Nat.reduceSub, Nat.reduceMul, Nat.reduceLeDiff, Int.reduceLT, Int.reduceLE, Int.reduceToNat, Int.reduceEq, Int.reduceAdd, Int.reduceSub, Int.reduceNeg, Int.reduceBNe, Int.reduceBEq, mc]
    rfl
  simp only [go_sem, reduceIte, Nat.reduceEqDiff, reduceCtorEq, Nat.reduceLT, Nat.reduceAdd, Nat.reduceSub, Nat.reduceMul, Nat.reduceLeDiff, Int.reduceLT, Int.reduceLE, Int.reduceToNat, Int.reduceEq, Int.reduceAdd, Int.reduceSub, Int.reduceNeg, Int.reduceBNe, Int.reduceBEq, legsc, lgs, lg, List.map_cons, List.map_nil, List.length_cons, List.length_nil]
  exact ⟨_, rfl, rfl⟩
theorem legs_len (m : List Eg) (a b : Tg) (hm : OkM m) : (pathM m a b).1.length ≤ 80 := by
  unfold pathM
  split
  · simp
  · rename_i h
    have h := pathC_zero.1 (by simpa using h)
    have w1 := (live_way h.1).1.len
    have w2 := (live_way h.2).1.len
    have := hm.n
    simp only [legsW, List.length_append, List.length_map, List.length_reverse, List.length_drop]
    omega
theorem okL {l : List Eg} (h : heavyE l 50 = false) : l.length ≤ 50 ∧ ∀ e ∈ l, OkLn e.ln := by
  simp only [heavyE, Bool.or_eq_false_iff, decide_eq_false_iff_not, List.any_eq_false] at h
  exact ⟨by omega, fun e he => okOfHeavy (by simpa using h.2 e he)⟩
end Go.Proofs.YtbojhapdidieoaaGreat

set_option linter.unusedSimpArgs false
set_option linter.unusedVariables false
set_option linter.unusedSimpArgs false
set_option linter.unusedVariables false
namespace Go.Proofs.YtbojhapdidieoaaGreat
open Go.PL
theorem rightLn_kind {x : Ln} (h : rightLn x = true) : (x.kind = 1 ∨ x.kind = 2 ∨ x.kind = 3 ∨ x.kind = 4 ∨ x.kind = 5 ∨ x.kind = 6 ∨ x.kind = 7 ∨ x.kind = 8 ∨ x.kind = 9 ∨ x.kind = 10) ∧ (x.kind ≠ 8 → x.fo = [] ∧ x.ba = []) := by
  unfold rightLn at h
  split at h
  · rename_i hk
    simp only [Bool.and_eq_true, Bool.not_eq_true'] at h
    exact ⟨by omega, fun _ => tablesB_false.1 h.2.2.2.2.1⟩
  · simp only [Bool.and_eq_true] at h
    obtain ⟨_, h⟩ := h
    split at h
    · rename_i hk; exact ⟨by omega, fun hn => absurd hk hn⟩
    · simp only [Bool.and_eq_true, Bool.not_eq_true'] at h
      refine ⟨?_, fun _ => tablesB_false.1 h.1⟩
      have h := h.2
      split at h
      · omega
      · simp only [Bool.and_eq_true] at h
        have h := h.2
        split at h
        · omega
        · simp only [Bool.and_eq_true] at h
          have h := h.2
          split at h
          · omega
          · split at h
            · omega
            · simp only [Bool.and_eq_true, decide_eq_true_eq] at h
              omega
def otherM (k : Int) : Int := if k = 2 ∨ k = 3 then 5 - k else if k = 4 ∨ k = 5 then 9 - k else if k = 6 ∨ k = 9 then 15 - k else if k = 7 ∨ k = 10 then 17 - k else k
set_option maxRecDepth 20000 in
set_option maxHeartbeats 8000000 in
theorem other_pure (k : Int) (h : k = 1 ∨ k = 2 ∨ k = 3 ∨ k = 4 ∨ k = 5 ∨ k = 6 ∨ k = 7 ∨ k = 8 ∨ k = 9 ∨ k = 10) : PL.Pure Tryz.prog 144 [.int .i64 k] (.int .i64 (otherM k)) := by
  rcases h with rfl | rfl | rfl | rfl | rfl | rfl | rfl | rfl | rfl | rfl
  all_goals
    refine PL.Pure.of_v Tryz.func144 (by decide) rfl Tryz.ntmps144 Tryz.results144 (by simp) rfl ?_
    simp only [go_sem, reduceIte, Nat.reduceEqDiff, reduceCtorEq, Nat.reduceLT, Nat.reduceAdd, Nat.reduceSub, Nat.reduceMul, Nat.reduceLeDiff, Int.reduceLT, Int.reduceLE, Int.reduceToNat, Int.reduceEq, Int.reduceAdd, Int.reduceSub, Int.reduceNeg, Int.reduceBNe, Int.reduceBEq]
    rfl
set_option maxRecDepth 20000 in
set_option maxHeartbeats 16000000 in
theorem RInverse_pure (x : Ln) (hx : OkLn x) : PL.Pure Tryz.prog 94 [lns x] (lnc (invM x)) := by
  have hR := RLRight_pure x hx
  unfold invM
  cases hlr : rightLn x
  · rw [hlr] at hR
    refine PL.Pure.of_v Tryz.func94 (by decide) rfl Tryz.ntmps94 Tryz.results94 (by simp) (lnc_dids _) ?_
    simp only [go_sem, reduceIte, Nat.reduceEqDiff, reduceCtorEq, Nat.reduceLT, Nat.reduceAdd, Nat.reduceSub, Nat.reduceMul, Nat.reduceLeDiff, Int.reduceLT, Int.reduceLE, Int.reduceToNat, Int.reduceEq, Int.reduceAdd, Int.reduceSub, Int.reduceNeg, Int.reduceBNe, Int.reduceBEq, lns]
    refine vCall_of (hR) ?_ ?_ ?_; (focus simp only [go_sem, reduceIte, Nat.reduceEqDiff, reduceCtorEq, lns]); (focus simp only [go_sem, reduceIte, Nat.reduceEqDiff, reduceCtorEq, lns])
    simp only [go_sem, reduceIte, Nat.reduceEqDiff, reduceCtorEq, Nat.reduceLT, Nat.reduceAdd, Nat.reduceSub, Nat.reduceMul, Nat.reduceLeDiff, Int.reduceLT, Int.reduceLE, Int.reduceToNat, Int.reduceEq, Int.reduceAdd, Int.reduceSub, Int.reduceNeg, Int.reduceBNe, Int.reduceBEq, if_true, lnc, lns_default]
  rw [hlr] at hR
  obtain ⟨hk, ht⟩ := rightLn_kind hlr
  have hO := other_pure x.kind hk
  simp only [Bool.true_eq_false, if_false]
  obtain ⟨kind, at', nm, ot, fac, fd, fo, ba⟩ := x
  simp only at hk ht hO
  clear hx hlr
  by_cases h8 : kind = 8
  · subst h8
    refine PL.Pure.of_v Tryz.func94 (by decide) rfl Tryz.ntmps94 Tryz.results94 (by simp) (lnc_dids _) ?_
    simp only [go_sem, reduceIte, Nat.reduceEqDiff, reduceCtorEq, Nat.reduceLT, Nat.reduceAdd, Nat.reduceSub, Nat.reduceMul, Nat.reduceLeDiff, Int.reduceLT, Int.reduceLE, Int.reduceToNat, Int.reduceEq, Int.reduceAdd, Int.reduceSub, Int.reduceNeg, Int.reduceBNe, Int.reduceBEq, lns]
    refine vCall_of (hR) ?_ ?_ ?_; (focus simp only [go_sem, reduceIte, Nat.reduceEqDiff, reduceCtorEq, lns]); (focus simp only [go_sem, reduceIte, Nat.reduceEqDiff, reduceCtorEq, lns])
    simp only [go_sem, reduceIte, Nat.reduceEqDiff, reduceCtorEq, Nat.reduceLT, Nat.reduceAdd, Nat.reduceSub, Nat.reduceMul, Nat.reduceLeDiff, Int.reduceLT, Int.reduceLE, Int.reduceToNat, Int.reduceEq, Int.reduceAdd, Int.reduceSub, Int.reduceNeg, Int.reduceBNe, Int.reduceBEq, lns]
    refine vDrawQ (by kernel_rfl) (by kernel_rfl) ?_
    simp only [go_sem, reduceIte, Nat.reduceEqDiff, reduceCtorEq, Nat.reduceLT, Nat.reduceAdd, Nat.reduceSub, Nat.reduceMul, Nat.reduceLeDiff, Int.reduceLT, Int.reduceLE, Int.reduceToNat, Int.reduceEq, Int.reduceAdd, Int.reduceSub, Int.reduceNeg, Int.reduceBNe, Int.reduceBEq]
    refine vCall_of (hO) ?_ ?_ ?_; (focus simp only [go_sem, reduceIte, Nat.reduceEqDiff, reduceCtorEq, lns]); (focus simp only [go_sem, reduceIte, Nat.reduceEqDiff, reduceCtorEq, lns])
    simp only [go_sem, reduceIte, Nat.reduceEqDiff, reduceCtorEq, Nat.reduceLT, Nat.reduceAdd, Nat.reduceSub, Nat.reduceMul, Nat.reduceLeDiff, Int.reduceLT, Int.reduceLE, Int.reduceToNat, Int.reduceEq, Int.reduceAdd, Int.reduceSub, Int.reduceNeg, Int.reduceBNe, Int.reduceBEq, lnc, lns, invR]
    rfl
  obtain ⟨rfl, rfl⟩ := ht h8
  rcases hk with rfl | rfl | rfl | rfl | rfl | rfl | rfl | rfl | rfl | rfl
  all_goals first
    | (exact absurd rfl h8)
    | (refine PL.Pure.of_v Tryz.func94 (by decide) rfl Tryz.ntmps94 Tryz.results94 (by simp) (lnc_dids _) ?_
       simp only [go_sem, reduceIte, Nat.reduceEqDiff, reduceCtorEq, Nat.reduceLT, Nat.reduceAdd, Nat.reduceSub, Nat.reduceMul, Nat.reduceLeDiff, Int.reduceLT, Int.reduceLE, Int.reduceToNat, Int.reduceEq, Int.reduceAdd, Int.reduceSub, Int.reduceNeg, Int.reduceBNe, Int.reduceBEq, lns]
       refine vCall_of (hR) ?_ ?_ ?_; (focus simp only [go_sem, reduceIte, Nat.reduceEqDiff, reduceCtorEq, lns]); (focus simp only [go_sem, reduceIte, Nat.reduceEqDiff, reduceCtorEq, lns])
       simp only [go_sem, reduceIte, Nat.reduceEqDiff, reduceCtorEq, Nat.reduceLT, Nat.reduceAdd, Nat.reduceSub, Nat.reduceMul, Nat.reduceLeDiff, Int.reduceLT, Int.reduceLE, Int.reduceToNat, Int.reduceEq, Int.reduceAdd, Int.reduceSub, Int.reduceNeg, Int.reduceBNe, Int.reduceBEq, lns]
       refine vDrawQ (by kernel_rfl) (by kernel_rfl) ?_
       simp only [go_sem, reduceIte, Nat.reduceEqDiff, reduceCtorEq, Nat.reduceLT, Nat.reduceAdd, Nat.reduceSub, Nat.reduceMul, Nat.reduceLeDiff, Int.reduceLT, Int.reduceLE, Int.reduceToNat, Int.reduceEq, Int.reduceAdd, Int.reduceSub, Int.reduceNeg, Int.reduceBNe, Int.reduceBEq]
       refine vCall_of (hO) ?_ ?_ ?_; (focus simp only [go_sem, reduceIte, Nat.reduceEqDiff, reduceCtorEq, lns]); (focus simp only [go_sem, reduceIte, Nat.reduceEqDiff, reduceCtorEq, lns])
       simp only [go_sem, reduceIte, Nat.reduceEqDiff, reduceCtorEq, Nat.reduceLT, Nat.reduceAdd, Nat.reduceSub, Nat.reduceMul, Nat.reduceLeDiff, Int.reduceLT, Int.reduceLE, Int.reduceToNat, Int.reduceEq, Int.reduceAdd, Int.reduceSub, Int.reduceNeg, Int.reduceBNe, Int.reduceBEq, lnc, lns, invR]
       rfl)
def lensM (m : List Eg) (x : Lg) : Ln × Int := match findE m x.id with | none => (default, 6) | some e => if x.down = true then (e.ln, 0) else (invR e.ln, 0)
structure RightM (m : List Eg) : Prop where
  r : ∀ e ∈ m, edgeB e = true
theorem edge_right {e : Eg} (h : edgeB e = true) : rightLn e.ln = true := by
  simp only [edgeB, Bool.and_eq_true] at h; exact h.2.2.2.2
theorem rightPut {m : List Eg} (h : RightM m) (e : Eg) : RightM (putM m e).1 := by
  unfold putM
  split
  · exact h
  · rename_i hb
    split
    · split <;> exact h
    · split
      · exact h
      · refine ⟨fun x hx => ?_⟩
        rcases List.mem_append.1 hx with hx | hx
        · exact h.r x hx
        · rw [List.mem_singleton.1 hx]; simpa using hb
theorem rightGrown : ∀ (l : List Eg) {m : List Eg}, RightM m → RightM (l.foldl (fun m e => (putM m e).1) m)
  | [], m, h => h
  | e :: l, m, h => rightGrown l (rightPut h e)
theorem right_nil : RightM [] := ⟨fun e h => by cases h⟩
set_option maxRecDepth 20000 in
set_option maxHeartbeats 16000000 in
theorem TLens_pure (m : List Eg) (x : Lg) (hm : OkM m) (hr : RightM m) : PL.Pure Tryz.prog 52 [tr (treeOf m), lg x] (lnc (lensM m x)) := by
  have hF := TFind_pure m x.id hm
  unfold findTM at hF
  unfold lensM
  cases hf : findE m x.id with
  | none =>
    rw [hf] at hF
    simp only at hF ⊢
    refine PL.Pure.of_v Tryz.func52 (by decide) rfl Tryz.ntmps52 Tryz.results52 (by simp) (lnc_dids _) ?_
    simp only [go_sem, reduceIte, Nat.reduceEqDiff, reduceCtorEq, Nat.reduceLT, Nat.reduceAdd, Nat.reduceSub, Nat.reduceMul, Nat.reduceLeDiff, Int.reduceLT, Int.reduceLE, Int.reduceToNat, Int.reduceEq, Int.reduceAdd, Int.reduceSub, Int.reduceNeg, Int.reduceBNe, Int.reduceBEq, tr, lg]
    refine vCall_of (hF) ?_ ?_ ?_; (focus simp only [go_sem, reduceIte, Nat.reduceEqDiff, reduceCtorEq, tr, tg]); (focus simp only [go_sem, reduceIte, Nat.reduceEqDiff, reduceCtorEq, tr, tg])
    simp only [go_sem, reduceIte, Nat.reduceEqDiff, reduceCtorEq, Nat.reduceLT, Nat.reduceAdd, Nat.reduceSub, Nat.reduceMul, Nat.reduceLeDiff, Int.reduceLT, Int.reduceLE, Int.reduceToNat, Int.reduceEq, Int.reduceAdd, Int.reduceSub, Int.reduceNeg, Int.reduceBNe, Int.reduceBEq, edc, eg_default, lnc, lns_default]
  | some e =>
    rw [hf] at hF
    simp only at hF ⊢
    have hem := (findE_id hf).2
    have hO := LOwn_pure e.ln (hm.l e hem)
    have hI := Inverse_pure e.ln (hm.l e hem)
    have hi : invM e.ln = (invR e.ln, 0) := by unfold invM; rw [edge_right (hr.r e hem)]; rfl
    rw [hi] at hI
    obtain ⟨id, down⟩ := x
    cases down
    · refine PL.Pure.of_v Tryz.func52 (by decide) rfl Tryz.ntmps52 Tryz.results52 (by simp) (lnc_dids _) ?_
      simp only [go_sem, reduceIte, Nat.reduceEqDiff, reduceCtorEq, Nat.reduceLT, Nat.reduceAdd, Nat.reduceSub, Nat.reduceMul, Nat.reduceLeDiff, Int.reduceLT, Int.reduceLE, Int.reduceToNat, Int.reduceEq, Int.reduceAdd, Int.reduceSub, Int.reduceNeg, Int.reduceBNe, Int.reduceBEq, tr, lg]
      refine vCall_of (hF) ?_ ?_ ?_; (focus simp only [go_sem, reduceIte, Nat.reduceEqDiff, reduceCtorEq, tr, tg]); (focus simp only [go_sem, reduceIte, Nat.reduceEqDiff, reduceCtorEq, tr, tg])
      simp only [go_sem, reduceIte, Nat.reduceEqDiff, reduceCtorEq, Nat.reduceLT, Nat.reduceAdd, Nat.reduceSub, Nat.reduceMul, Nat.reduceLeDiff, Int.reduceLT, Int.reduceLE, Int.reduceToNat, Int.reduceEq, Int.reduceAdd, Int.reduceSub, Int.reduceNeg, Int.reduceBNe, Int.reduceBEq, edc, eg]
      refine vCall_of (hI) ?_ ?_ ?_; (focus simp only [go_sem, reduceIte, Nat.reduceEqDiff, reduceCtorEq, lns]); (focus simp only [go_sem, reduceIte, Nat.reduceEqDiff, reduceCtorEq, lns])
      simp only [go_sem, reduceIte, Nat.reduceEqDiff, reduceCtorEq, Nat.reduceLT, Nat.reduceAdd, Nat.reduceSub, Nat.reduceMul, Nat.reduceLeDiff, Int.reduceLT, Int.reduceLE, Int.reduceToNat, Int.reduceEq, Int.reduceAdd, Int.reduceSub, Int.reduceNeg, Int.reduceBNe, Int.reduceBEq, lnc, lns, Bool.false_eq_true, if_false]
    · refine PL.Pure.of_v Tryz.func52 (by decide) rfl Tryz.ntmps52 Tryz.results52 (by simp) (lnc_dids _) ?_
      simp only [go_sem, reduceIte, Nat.reduceEqDiff, reduceCtorEq, Nat.reduceLT, Nat.reduceAdd, Nat.reduceSub, Nat.reduceMul, Nat.reduceLeDiff, Int.reduceLT, Int.reduceLE, Int.reduceToNat, Int.reduceEq, Int.reduceAdd, Int.reduceSub, Int.reduceNeg, Int.reduceBNe, Int.reduceBEq, tr, lg]
      refine vCall_of (hF) ?_ ?_ ?_; (focus simp only [go_sem, reduceIte, Nat.reduceEqDiff, reduceCtorEq, tr, tg]); (focus simp only [go_sem, reduceIte, Nat.reduceEqDiff, reduceCtorEq, tr, tg])
      simp only [go_sem, reduceIte, Nat.reduceEqDiff, reduceCtorEq, Nat.reduceLT, Nat.reduceAdd, Nat.reduceSub, Nat.reduceMul, Nat.reduceLeDiff, Int.reduceLT, Int.reduceLE, Int.reduceToNat, Int.reduceEq, Int.reduceAdd, Int.reduceSub, Int.reduceNeg, Int.reduceBNe, Int.reduceBEq, edc, eg]
      refine vCall_of (hO) ?_ ?_ ?_; (focus simp only [go_sem, reduceIte, Nat.reduceEqDiff, reduceCtorEq, lns]); (focus simp only [go_sem, reduceIte, Nat.reduceEqDiff, reduceCtorEq, lns])
      simp only [go_sem, reduceIte, Nat.reduceEqDiff, reduceCtorEq, Nat.reduceLT, Nat.reduceAdd, Nat.reduceSub, Nat.reduceMul, Nat.reduceLeDiff, Int.reduceLT, Int.reduceLE, Int.reduceToNat, Int.reduceEq, Int.reduceAdd, Int.reduceSub, Int.reduceNeg, Int.reduceBNe, Int.reduceBEq, lnc, lns, if_true]
set_option maxRecDepth 20000 in
set_option maxHeartbeats 16000000 in
theorem RLens_pure (m : List Eg) (x : Lg) (hm : OkM m) (hr : RightM m) : PL.Pure Tryz.prog 53 [egs m, lg x] (lnc (lensM m x)) := by
  have hA := RAtE_pure m x.id (by rw [maxLen_eq]; have := hm.n; omega)
  unfold lensM
  rcases idx_find (m := m) (id := x.id) with ⟨h1, h2⟩ | ⟨i, hi, h1, h2⟩
  · rw [h1] at hA
    rw [h2]
    refine PL.Pure.of_v Tryz.func53 (by decide) rfl Tryz.ntmps53 Tryz.results53 (by simp) (lnc_dids _) ?_
    simp only [go_sem, reduceIte, Nat.reduceEqDiff, reduceCtorEq, Nat.reduceLT, Nat.reduceAdd, Nat.reduceSub, Nat.reduceMul, Nat.reduceLeDiff, Int.reduceLT, Int.reduceLE, Int.reduceToNat, Int.reduceEq, Int.reduceAdd, Int.reduceSub, Int.reduceNeg, Int.reduceBNe, Int.reduceBEq, egs, lg]
    refine vCall_of (hA) ?_ ?_ ?_; (focus simp only [go_sem, reduceIte, Nat.reduceEqDiff, reduceCtorEq, egs, tg]); (focus simp only [go_sem, reduceIte, Nat.reduceEqDiff, reduceCtorEq, egs, tg])
    simp only [go_sem, reduceIte, Nat.reduceEqDiff, reduceCtorEq, Nat.reduceLT, Nat.reduceAdd, Nat.reduceSub, Nat.reduceMul, Nat.reduceLeDiff, Int.reduceLT, Int.reduceLE, Int.reduceToNat, Int.reduceEq, Int.reduceAdd, Int.reduceSub, Int.reduceNeg, Int.reduceBNe, Int.reduceBEq, lnc, lns_default]
  · rw [h1] at hA
    rw [h2]
    simp only
    have hem : m.getD i default ∈ m := getD_mem hi
    have hI := RInverse_pure (m.getD i default).ln (hm.l _ hem)
    have hv : invM (m.getD i default).ln = (invR (m.getD i default).ln, 0) := by unfold invM; rw [edge_right (hr.r _ hem)]; rfl
    rw [hv] at hI
    have n1 : ¬ (i : Int) < 0 := by omega
    have i0 : (0 : Int) ≤ (i : Int) := by omega
    have i1 : (i : Int) < (m.length : Int) := by omega
    obtain ⟨id, down⟩ := x
    cases down
    · refine PL.Pure.of_v Tryz.func53 (by decide) rfl Tryz.ntmps53 Tryz.results53 (by simp) (lnc_dids _) ?_
      simp only [go_sem, reduceIte, Nat.reduceEqDiff, reduceCtorEq, Nat.reduceLT, Nat.reduceAdd, Nat.reduceSub, Nat.reduceMul, Nat.reduceLeDiff, Int.reduceLT, Int.reduceLE, Int.reduceToNat, Int.reduceEq, Int.reduceAdd, Int.reduceSub, Int.reduceNeg, Int.reduceBNe, Int.reduceBEq, egs, lg]
      refine vCall_of (hA) ?_ ?_ ?_; (focus simp only [go_sem, reduceIte, Nat.reduceEqDiff, reduceCtorEq, egs, tg]); (focus simp only [go_sem, reduceIte, Nat.reduceEqDiff, reduceCtorEq, egs, tg])
      simp only [go_sem, reduceIte, Nat.reduceEqDiff, reduceCtorEq, Nat.reduceLT, Nat.reduceAdd, Nat.reduceSub, Nat.reduceMul, Nat.reduceLeDiff, Int.reduceLT, Int.reduceLE, Int.reduceToNat, Int.reduceEq, Int.reduceAdd, Int.reduceSub, Int.reduceNeg, Int.reduceBNe, Int.reduceBEq, n1, i0, i1, getD_eg hi, eg]
      refine vCall_of (hI) ?_ ?_ ?_; (focus simp only [go_sem, reduceIte, Nat.reduceEqDiff, reduceCtorEq, lns]); (focus simp only [go_sem, reduceIte, Nat.reduceEqDiff, reduceCtorEq, lns])
      simp only [go_sem, reduceIte, Nat.reduceEqDiff, reduceCtorEq, Nat.reduceLT, Nat.reduceAdd, Nat.reduceSub, Nat.reduceMul, Nat.reduceLeDiff, Int.reduceLT, Int.reduceLE, Int.reduceToNat, Int.reduceEq, Int.reduceAdd, Int.reduceSub, Int.reduceNeg, Int.reduceBNe, Int.reduceBEq, lnc, lns, Bool.false_eq_true, if_false]
    · refine PL.Pure.of_v Tryz.func53 (by decide) rfl Tryz.ntmps53 Tryz.results53 (by simp) (lnc_dids _) ?_
      simp only [go_sem, reduceIte, Nat.reduceEqDiff, reduceCtorEq, Nat.reduceLT, Nat.reduceAdd, Nat.reduceSub, Nat.reduceMul, Nat.reduceLeDiff, Int.reduceLT, Int.reduceLE, Int.reduceToNat, Int.reduceEq, Int.reduceAdd, Int.reduceSub, Int.reduceNeg, Int.reduceBNe, Int.reduceBEq, egs, lg]
      refine vCall_of (hA) ?_ ?_ ?_; (focus simp only [go_sem, reduceIte, Nat.reduceEqDiff, reduceCtorEq, egs, tg]); (focus simp only [go_sem, reduceIte, Nat.reduceEqDiff, reduceCtorEq, egs, tg])
      simp only [go_sem, reduceIte, Nat.reduceEqDiff, reduceCtorEq, Nat.reduceLT, Nat.reduceAdd, Nat.reduceSub, Nat.reduceMul, Nat.reduceLeDiff, Int.reduceLT, Int.reduceLE, Int.reduceToNat, Int.reduceEq, Int.reduceAdd, Int.reduceSub, Int.reduceNeg, Int.reduceBNe, Int.reduceBEq, n1, i0, i1, getD_eg hi, eg, lnc, lns, if_true]
theorem okInv {x : Ln} (h : OkLn x) : OkLn (invR x) := by
  unfold invR
  repeat' split
  all_goals first | exact ⟨h.c, h.f, h.b⟩ | exact ⟨h.c, h.b, h.f⟩
theorem okLens {m : List Eg} (hm : OkM m) (x : Lg) : OkLn (lensM m x).1 := by
  unfold lensM
  split
  · exact ⟨by decide, by decide, by decide⟩
  · rename_i e he
    have := hm.l e (findE_id he).2
    split
    · exact this
    · exact okInv this
end Go.Proofs.YtbojhapdidieoaaGreat

set_option linter.unusedSimpArgs false
set_option linter.unusedVariables false
set_option linter.unusedSimpArgs false
set_option linter.unusedVariables false
namespace Go.Proofs.YtbojhapdidieoaaGreat
open Go.PL
theorem upL_split (u v : List Eg) : upL (u ++ v) = v.reverse.map (·.id) ++ upL u := by simp [upL]
/-- where two ways part -/
def meetT (p q : List Eg) : Tg := (upL (p.take (lcp p q))).getD 0 default
theorem upL_cons (u : List Eg) : upL u = (upL u).getD 0 default :: (upL u).tail := by
  cases h : upL u with
  | nil => have := upL_len u; rw [h] at this; simp at this
  | cons a l => rfl
def stopsW (p q : List Eg) : List Tg := (p.drop (lcp p q)).reverse.map (·.id) ++ [meetT p q] ++ (q.drop (lcp p q)).map (·.id)
theorem upL_take1 (p q : List Eg) : (upL p).take (p.length - lcp p q + 1) = (p.drop (lcp p q)).reverse.map (·.id) ++ [meetT p q] := by
  have h := upL_split (p.take (lcp p q)) (p.drop (lcp p q))
  rw [List.take_append_drop] at h
  rw [h, List.take_append]
  have hl : ((p.drop (lcp p q)).reverse.map (·.id)).length = p.length - lcp p q := by simp
  rw [hl, List.take_of_length_le (by omega), show p.length - lcp p q + 1 - (p.length - lcp p q) = 1 by omega, upL_cons (p.take (lcp p q))]
  rfl
theorem upL_at (p q : List Eg) : (upL p).getD (p.length - lcp p q) default = meetT p q := by
  have h := upL_split (p.take (lcp p q)) (p.drop (lcp p q))
  rw [List.take_append_drop] at h
  have hl : ((p.drop (lcp p q)).reverse.map (·.id)).length = p.length - lcp p q := by simp
  rw [h, getD_append_right (by omega), hl, Nat.sub_self]
  rfl
def stopsM (m : List Eg) (a b : Tg) : List Tg × Int := if pathC m a b ≠ 0 then ([], pathC m a b) else (stopsW (wayD m a) (wayD m b), 0)
def meetM (m : List Eg) (a b : Tg) : Tg × Int := if pathC m a b ≠ 0 then (default, pathC m a b) else (meetT (wayD m a) (wayD m b), 0)
def tgc (x : Tg × Int) : PV := .tup [tg x.1, .int .i64 x.2]
theorem tgc_dids (x : Tg × Int) : (tgc x).dids = [] := by simp only [tgc, PV.dids, PV.didsL, tg_dids, List.append_nil]
theorem tg_default : tg default = .agg [.int .i64 0, .int .i64 0] := rfl
set_option maxRecDepth 20000 in
set_option maxHeartbeats 16000000 in
theorem Meet_pure (m : List Eg) (a b : Tg) (hm : OkM m) : PL.Pure Tryz.prog 12 [tr (treeOf m), tg a, tg b] (tgc (meetM m a b)) := by
  have hW := ways_pure m a b hm
  unfold meetM
  by_cases hc : pathC m a b = 0
  · rw [waysM_good hc] at hW
    simp only [hc, ne_eq, not_true_eq_false, if_false]
    generalize wayD m a = p at *
    generalize wayD m b = q at *
    have hup : (upL p).length = p.length + 1 := upL_len p
    have k1 : p.length - lcp p q < (upL p).length := by omega
    have v1 := upL_at p q
    have b1 : (0 : Int) ≤ ((p.length - lcp p q : Nat) : Int) := by omega
    have b2 : ((p.length - lcp p q : Nat) : Int) < ((upL p).length : Int) := by omega
    refine PL.Pure.of_v Tryz.func12 (by decide) rfl Tryz.ntmps12 Tryz.results12 (by simp) (tgc_dids _) ?_
    simp only [go_sem, reduceIte, Nat.reduceEqDiff, reduceCtorEq, Nat.reduceLT, Nat.reduceAdd, Nat.reduceSub, Nat.reduceMul, Nat.reduceLeDiff, Int.reduceLT, Int.reduceLE, Int.reduceToNat, Int.reduceEq, Int.reduceAdd, Int.reduceSub, Int.reduceNeg, Int.reduceBNe, Int.reduceBEq, tr, tg]
    refine vCall_of (hW) ?_ ?_ ?_; (focus simp only [go_sem, reduceIte, Nat.reduceEqDiff, reduceCtorEq, tr, tg]); (focus simp only [go_sem, reduceIte, Nat.reduceEqDiff, reduceCtorEq, tr, tg])
    simp only [go_sem, reduceIte, Nat.reduceEqDiff, reduceCtorEq, Nat.reduceLT, Nat.reduceAdd, Nat.reduceSub, Nat.reduceMul, Nat.reduceLeDiff, Int.reduceLT, Int.reduceLE, Int.reduceToNat, Int.reduceEq, Int.reduceAdd, Int.reduceSub, Int.reduceNeg, Int.reduceBNe, Int.reduceBEq, wayv, tgs, getD_tg k1, v1, b1, b2, tg, tgc]
  · have hc' : (pathC m a b != 0) = true := by simpa using hc
    rw [waysM_bad hc] at hW
    simp only [ne_eq, hc, not_false_eq_true, if_true]
    refine PL.Pure.of_v Tryz.func12 (by decide) rfl Tryz.ntmps12 Tryz.results12 (by simp) (tgc_dids _) ?_
    simp only [go_sem, reduceIte, Nat.reduceEqDiff, reduceCtorEq, Nat.reduceLT, Nat.reduceAdd, Nat.reduceSub, Nat.reduceMul, Nat.reduceLeDiff, Int.reduceLT, Int.reduceLE, Int.reduceToNat, Int.reduceEq, Int.reduceAdd, Int.reduceSub, Int.reduceNeg, Int.reduceBNe, Int.reduceBEq, tr, tg]
    refine vCall_of (hW) ?_ ?_ ?_; (focus simp only [go_sem, reduceIte, Nat.reduceEqDiff, reduceCtorEq, tr, tg]); (focus simp only [go_sem, reduceIte, Nat.reduceEqDiff, reduceCtorEq, tr, tg])
    simp only [go_sem, reduceIte, Nat.reduceEqDiff, reduceCtorEq, Nat.reduceLT, Nat.reduceAdd, Nat.reduceSub, Nat.reduceMul, Nat.reduceLeDiff, Int.reduceLT, Int.reduceLE, Int.reduceToNat, Int.reduceEq, Int.reduceAdd, Int.reduceSub, Int.reduceNeg, Int.reduceBNe, Int.reduceBEq, wayv, tgs, hc', tgc, tg_default]
set_option maxRecDepth 20000 in
set_option maxHeartbeats 16000000 in
theorem Stops_pure (m : List Eg) (a b : Tg) (hm : OkM m) : PL.Pure Tryz.prog 17 [tr (treeOf m), tg a, tg b] (tgsc (stopsM m a b)) := by
  have hW := ways_pure m a b hm
  unfold stopsM
  by_cases hc : pathC m a b = 0
  · rw [waysM_good hc] at hW
    obtain ⟨ha, hb⟩ := pathC_zero.1 hc
    obtain ⟨wa, _, _⟩ := live_way ha
    obtain ⟨wb, _, _⟩ := live_way hb
    simp only [hc, ne_eq, not_true_eq_false, if_false]
    generalize wayD m a = p at *
    generalize wayD m b = q at *
    have hlc := lcp_le p q
    have hpl : p.length ≤ 40 := by have := wa.len; have := hm.n; omega
    have hql : q.length ≤ 40 := by have := wb.len; have := hm.n; omega
    unfold stopsW
    have hut := upL_take1 p q
    have hql' : (q.drop (lcp p q)).length = q.length - lcp p q := by simp
    generalize hids : (p.drop (lcp p q)).reverse.map (·.id) ++ [meetT p q] = ids at *
    have hidl : ids.length = p.length - lcp p q + 1 := by rw [← hids]; simp
    have s0 : IntKind.i64.wrap (((p.length - lcp p q : Nat) : Int) + ((q.length - lcp p q : Nat) : Int)) = ((p.length - lcp p q + (q.length - lcp p q) : Nat) : Int) := by rw [w64 (by omega)]; omega
    have s1 : IntKind.i64.wrap (((p.length - lcp p q + (q.length - lcp p q) : Nat) : Int) + 1) = ((p.length - lcp p q + (q.length - lcp p q) + 1 : Nat) : Int) := by rw [w64 (by omega)]; omega
    have s2 : IntKind.i64.wrap (((p.length - lcp p q : Nat) : Int) + 1) = ((p.length - lcp p q + 1 : Nat) : Int) := by rw [w64 (by omega)]; omega
    have hup : (upL p).length = p.length + 1 := upL_len p
    have htt : PL.cut (List.map tg (upL p)) 0 ((p.length - lcp p q + 1 : Nat) : Int) = ids.map tg := by simp [PL.cut, ← List.map_take, hut]
    have hr0 := room1 (show ids.length ≤ 1000000 by omega) (show 16 ≤ 1000 by omega)
    refine PL.Pure.of_v Tryz.func17 (by decide) rfl Tryz.ntmps17 Tryz.results17 (by simp) (tgsc_dids _) ?_
    simp only [go_sem, reduceIte, Nat.reduceEqDiff, reduceCtorEq, Nat.reduceLT, Nat.reduceAdd, Nat.reduceSub, Nat.reduceMul, Nat.reduceLeDiff, Int.reduceLT, Int.reduceLE, Int.reduceToNat, Int.reduceEq, Int.reduceAdd, Int.reduceSub, Int.reduceNeg, Int.reduceBNe, Int.reduceBEq, tr, tg]
    refine vScopeM (ι := { s : Nat // s ≤ q.length - lcp p q }) 50 (fun x => [(9, tgs (upL q)), (11, .int .i64 ((q.length - lcp p q - x.1 : Nat) : Int)), (13, .sl (.row 48) ((ids ++ ((q.drop (lcp p q)).take x.1).map (·.id)).map tg))]) (fun x => []) (fun x => [(48, .live (ids.length + x.1) 2 24)]) (fun x => q.length - lcp p q - x.1) 0 _ (by exact rfl)
      (fun x => ⟨forall_cons rfl (forall_cons rfl (forall_cons (by simp [PV.ids, refInM]) forall_nil)), forall_nil⟩) (fun x => ?_) (fun cut => ?_)
    · obtain ⟨s, hs⟩ := x
      simp only
      by_cases hlt : s < q.length - lcp p q
      · have c1 : (0 : Int) < ((q.length - lcp p q - s : Nat) : Int) := by omega
        have w1 : IntKind.i64.wrap (((q.length - lcp p q - s : Nat) : Int) - 1) = ((q.length - (lcp p q + s) - 1 : Nat) : Int) := by rw [w64 (by omega)]; omega
        have k1 : q.length - (lcp p q + s) - 1 < (upL q).length := by rw [upL_len]; omega
        have b1 : (0 : Int) ≤ ((q.length - (lcp p q + s) - 1 : Nat) : Int) := by omega
        have b2 : ((q.length - (lcp p q + s) - 1 : Nat) : Int) < ((upL q).length : Int) := by omega
        have v1 := upL_get q (lcp p q + s) (by omega)
        have hrm := room1 (show ids.length + s + 1 ≤ 1000000 by omega) (show 16 ≤ 1000 by omega)
        have hsl : (ids ++ ((q.drop (lcp p q)).take s).map (·.id)).length = ids.length + s := by simp; omega
        have hnx := drop_take_snoc (q := q) (c := lcp p q) (s := s) (by omega)
        simp only [go_sem, reduceIte, Nat.reduceEqDiff, reduceCtorEq, Nat.reduceLT, Nat.reduceAdd, Nat.reduceSub, Nat.reduceMul, Nat.reduceLeDiff, Int.reduceLT, Int.reduceLE, Int.reduceToNat, Int.reduceEq, Int.reduceAdd, Int.reduceSub, Int.reduceNeg, Int.reduceBNe, Int.reduceBEq, tgs, c1, w1, getD_tg k1, v1, tg, b1, b2, sized_tg, hsl, List.length_map, hrm]
        refine ⟨⟨s + 1, by omega⟩, by show q.length - lcp p q - (s + 1) < q.length - lcp p q - s; omega, ⟨rfl, forall_cons rfl (forall_cons ?_ (forall_cons ?_ forall_nil)), forall_nil, forall_cons ?_ forall_nil⟩⟩
        · show PV.int .i64 _ = PV.int .i64 _
          congr 2
          simp only
          omega
        · show PV.sl (.row 48) _ = PV.sl (.row 48) _
          simp [hnx, tg]
        · rfl
      · obtain rfl : s = q.length - lcp p q := by omega
        have c1 : ¬ (0 : Int) < ((q.length - lcp p q - (q.length - lcp p q) : Nat) : Int) := by omega
        have htk : (q.drop (lcp p q)).take (q.length - lcp p q) = q.drop (lcp p q) := List.take_of_length_le (by omega)
        simp only [go_sem, reduceIte, Nat.reduceEqDiff, reduceCtorEq, Nat.reduceLT, Nat.reduceAdd, Nat.reduceSub, Nat.reduceMul, Nat.reduceLeDiff, Int.reduceLT, Int.reduceLE, Int.reduceToNat, Int.reduceEq, Int.reduceAdd, Int.reduceSub, Int.reduceNeg, Int.reduceBNe, Int.reduceBEq, tgs, c1, tgsc, tgs, htk]
    · simp only [go_sem, reduceIte, Nat.reduceEqDiff, reduceCtorEq, Nat.reduceLT, Nat.reduceAdd, Nat.reduceSub, Nat.reduceMul, Nat.reduceLeDiff, Int.reduceLT, Int.reduceLE, Int.reduceToNat, Int.reduceEq, Int.reduceAdd, Int.reduceSub, Int.reduceNeg, Int.reduceBNe, Int.reduceBEq]
      refine vCall_of (hW) ?_ ?_ ?_; (focus simp only [go_sem, reduceIte, Nat.reduceEqDiff, reduceCtorEq, tr, tg]); (focus simp only [go_sem, reduceIte, Nat.reduceEqDiff, reduceCtorEq, tr, tg])
      simp only [go_sem, reduceIte, Nat.reduceEqDiff, reduceCtorEq, Nat.reduceLT, Nat.reduceAdd, Nat.reduceSub, Nat.reduceMul, Nat.reduceLeDiff, Int.reduceLT, Int.reduceLE, Int.reduceToNat, Int.reduceEq, Int.reduceAdd, Int.reduceSub, Int.reduceNeg, Int.reduceBNe, Int.reduceBEq, wayv, tgs, s0, s1, s2]
      repeat ((with_reducible refine And.intro ?_ ?_); (focus ((repeat' (with_reducible apply And.intro)) <;> (first | omega | exact room_small (by omega) (by omega) | exact room_small (by simp; omega) (by omega) | exact sized_str _ | (simp; done) | (simp; omega)))))
      refine ⟨⟨by omega, by omega, sized_tg _⟩, ?_⟩
      simp only [go_sem, reduceIte, Nat.reduceEqDiff, reduceCtorEq, Nat.reduceLT, Nat.reduceAdd, Nat.reduceSub, Nat.reduceMul, Nat.reduceLeDiff, Int.reduceLT, Int.reduceLE, Int.reduceToNat, Int.reduceEq, Int.reduceAdd, Int.reduceSub, Int.reduceNeg, Int.reduceBNe, Int.reduceBEq, htt, sized_tg, atoms_tg, List.length_map, hr0]
      refine awp_moveRow 13 37 48 ids.length 2 24 (ids.map tg) rfl rfl rfl ?_
      exact awp_label_seq (cut ⟨0, Nat.zero_le _⟩ _ ⟨rfl, forall_cons rfl (forall_cons rfl (forall_cons (by simp [upd, St.with]) forall_nil)), forall_nil, forall_cons (by simp [upd, Hp.setq, St.with]) forall_nil⟩)
  · have hc' : (pathC m a b != 0) = true := by simpa using hc
    rw [waysM_bad hc] at hW
    simp only [ne_eq, hc, not_false_eq_true, if_true]
    refine PL.Pure.of_v Tryz.func17 (by decide) rfl Tryz.ntmps17 Tryz.results17 (by simp) (tgsc_dids _) ?_
    simp only [go_sem, reduceIte, Nat.reduceEqDiff, reduceCtorEq, Nat.reduceLT, Nat.reduceAdd, Nat.reduceSub, Nat.reduceMul, Nat.reduceLeDiff, Int.reduceLT, Int.reduceLE, Int.reduceToNat, Int.reduceEq, Int.reduceAdd, Int.reduceSub, Int.reduceNeg, Int.reduceBNe, Int.reduceBEq, tr, tg]
    refine vScope0 ?_
    simp only [go_sem, reduceIte, Nat.reduceEqDiff, reduceCtorEq, Nat.reduceLT, Nat.reduceAdd, Nat.reduceSub, Nat.reduceMul, Nat.reduceLeDiff, Int.reduceLT, Int.reduceLE, Int.reduceToNat, Int.reduceEq, Int.reduceAdd, Int.reduceSub, Int.reduceNeg, Int.reduceBNe, Int.reduceBEq]
    refine vCall_of (hW) ?_ ?_ ?_; (focus simp only [go_sem, reduceIte, Nat.reduceEqDiff, reduceCtorEq, tr, tg]); (focus simp only [go_sem, reduceIte, Nat.reduceEqDiff, reduceCtorEq, tr, tg])
    simp only [go_sem, reduceIte, Nat.reduceEqDiff, reduceCtorEq, Nat.reduceLT, Nat.reduceAdd, Nat.reduceSub, Nat.reduceMul, Nat.reduceLeDiff, Int.reduceLT, Int.reduceLE, Int.reduceToNat, Int.reduceEq, Int.reduceAdd, Int.reduceSub, Int.reduceNeg, Int.reduceBNe, Int.reduceBEq, wayv, tgs, hc', tgsc, tgs, List.map_nil]
end Go.Proofs.YtbojhapdidieoaaGreat

set_option linter.unusedSimpArgs false
set_option linter.unusedVariables false
set_option linter.unusedSimpArgs false
set_option linter.unusedVariables false
namespace Go.Proofs.YtbojhapdidieoaaGreat
open Go.PL
theorem legs_in {m : List Eg} {a b : Tg} (h : pathC m a b = 0) (ha : Apart m) : ∀ x ∈ legsW (wayD m a) (wayD m b), ∃ e, e ∈ m ∧ findE m x.id = some e ∧ x.id = e.id := by
  obtain ⟨h1, h2⟩ := pathC_zero.1 h
  obtain ⟨wa, _, _⟩ := live_way h1
  obtain ⟨wb, _, _⟩ := live_way h2
  intro x hx
  have key : ∀ e ∈ m, ∃ e', e' ∈ m ∧ findE m e.id = some e' ∧ e.id = e'.id := fun e he => ⟨e, he, ha.find he, rfl⟩
  unfold legsW at hx
  rcases List.mem_append.1 hx with hx | hx
  · obtain ⟨e, he, rfl⟩ := List.mem_map.1 hx
    exact key e (wa.mem e (List.mem_of_mem_drop (List.mem_reverse.1 he)))
  · obtain ⟨e, he, rfl⟩ := List.mem_map.1 hx
    exact key e (wb.mem e (List.mem_of_mem_drop he))
def lenses (m : List Eg) (l : List Lg) : List Ln := l.map fun x => (lensM m x).1
def rowM (m : List Eg) (a b : Tg) : List Ln × Int := if pathC m a b ≠ 0 then ([], pathC m a b) else (lenses m (legsW (wayD m a) (wayD m b)), 0)
def lnss (l : List Ln) : PV := .sl .no (l.map lns)
def lnsc (x : List Ln × Int) : PV := .tup [lnss x.1, .int .i64 x.2]
theorem lnss_dids (l : List Ln) : (lnss l).dids = [] := by
  unfold lnss
  simp only [PV.dids]
  induction l with
  | nil => rfl
  | cons e l ih => simp only [List.map_cons, PV.didsL, ih, lns_dids, List.append_nil]
theorem lnsc_dids (x : List Ln × Int) : (lnsc x).dids = [] := by simp only [lnsc, PV.dids, PV.didsL, lnss_dids, List.append_nil]
theorem sized_ln (l : List Ln) : Sized 16 (l.map lns) := fun e he => by
  obtain ⟨x, _, rfl⟩ := List.mem_map.1 he; rfl
theorem getD_ln {l : List Ln} {i : Nat} (h : i < l.length) : (l.map lns).getD i .any = lns (l.getD i default) := getD_map h
set_option maxRecDepth 20000 in
set_option maxHeartbeats 16000000 in
theorem Row_pure (m : List Eg) (a b : Tg) (hm : OkM m) (hr : RightM m) : PL.Pure Tryz.prog 19 [tr (treeOf m), tg a, tg b] (lnsc (rowM m a b)) := by
  have hP := Path_pure m a b hm
  have hll := legs_len m a b hm
  unfold rowM
  unfold pathM at hP hll
  by_cases hc : pathC m a b = 0
  · have hin := legs_in hc hm.a
    simp only [hc, ne_eq, not_true_eq_false, if_false] at hP hll ⊢
    generalize legsW (wayD m a) (wayD m b) = legs at *
    have hlm : legs.length ≤ maxLen := by rw [maxLen_eq]; omega
    refine PL.Pure.of_v Tryz.func19 (by decide) rfl Tryz.ntmps19 Tryz.results19 (by simp) (lnsc_dids _) ?_
    simp only [go_sem, reduceIte, Nat.reduceEqDiff, reduceCtorEq, Nat.reduceLT, Nat.reduceAdd, Nat.reduceSub, Nat.reduceMul, Nat.reduceLeDiff, Int.reduceLT, Int.reduceLE, Int.reduceToNat, Int.reduceEq, Int.reduceAdd, Int.reduceSub, Int.reduceNeg, Int.reduceBNe, Int.reduceBEq, tr, tg]
    refine vCall_of (hP) ?_ ?_ ?_; (focus simp only [go_sem, reduceIte, Nat.reduceEqDiff, reduceCtorEq, tr, tg]); (focus simp only [go_sem, reduceIte, Nat.reduceEqDiff, reduceCtorEq, tr, tg])
    simp only [go_sem, reduceIte, Nat.reduceEqDiff, reduceCtorEq, Nat.reduceLT, Nat.reduceAdd, Nat.reduceSub, Nat.reduceMul, Nat.reduceLeDiff, Int.reduceLT, Int.reduceLE, Int.reduceToNat, Int.reduceEq, Int.reduceAdd, Int.reduceSub, Int.reduceNeg, Int.reduceBNe, Int.reduceBEq, legsc, lgs, List.length_map]
    repeat ((with_reducible refine And.intro ?_ ?_); (focus ((repeat' (with_reducible apply And.intro)) <;> (first | omega | exact room_small (by omega) (by omega) | exact room_small (by simp; omega) (by omega) | exact sized_str _ | (simp; done) | (simp; omega)))))
    refine awp_moveRow 10 27 46 0 16 60 [] rfl rfl rfl ?_
    refine vLoopM (ι := { x : Nat // x ≤ (legs).length }) 49 (fun x => [(0, tr (treeOf m)), (10, .sl (.row 46) ((lenses m (legs.take x.1)).map lns)), (28, lgs legs), (29, .int .i64 (legs.length : Int)), (30, .int .i64 (x.1 : Int))]) (fun x => []) (fun x => [(46, .live (x.1) (16) (60))]) (fun x => (legs).length - x.1) ⟨0, Nat.zero_le _⟩ ⟨rfl, (forall_cons rfl (forall_cons rfl (forall_cons rfl (forall_cons rfl (forall_cons rfl forall_nil))))), forall_nil, (forall_cons rfl forall_nil)⟩ (fun x => ⟨(forall_cons rfl (forall_cons (by simp [PV.ids, refInM]) (forall_cons rfl (forall_cons rfl (forall_cons rfl forall_nil))))), forall_nil⟩) (fun x => ?_); obtain ⟨k, hk⟩ := x; simp only at hk ⊢
    by_cases h : (k : Int) < (legs.length : Int)
    · (have hka : k < (legs).length := by omega); (have w1 := w64s hka (hlm)); (have i1 : (0 : Int) ≤ (k : Int) := by omega)
      obtain ⟨e, he, hfe, _⟩ := hin _ (getD_mem (d := default) hka)
      have hL := TLens_pure m (legs.getD k default) hm hr
      have hz : (lensM m (legs.getD k default)).2 = 0 := by unfold lensM; rw [hfe]; simp only; split <;> rfl
      have hts : legs.take (k + 1) = legs.take k ++ [legs.getD k default] := by rw [List.take_add_one, getD_lt hka]; simp [hka]
      have hkl : (lenses m (legs.take k)).length = k := by simp [lenses]; omega
      have hrm := room1 (show k + 1 ≤ 1000000 by omega) (show 232 ≤ 1000 by omega)
      simp only [go_sem, reduceIte, Nat.reduceEqDiff, reduceCtorEq, Nat.reduceLT, Nat.reduceAdd, Nat.reduceSub, Nat.reduceMul, Nat.reduceLeDiff, Int.reduceLT, Int.reduceLE, Int.reduceToNat, Int.reduceEq, Int.reduceAdd, Int.reduceSub, Int.reduceNeg, Int.reduceBNe, Int.reduceBEq, tr, h, lgs, getD_lg hka, lg, i1]
      refine vCall_of (hL) ?_ ?_ ?_; (focus simp only [go_sem, reduceIte, Nat.reduceEqDiff, reduceCtorEq, tr, lg]); (focus simp only [go_sem, reduceIte, Nat.reduceEqDiff, reduceCtorEq, tr, lg])
      simp only [go_sem, reduceIte, Nat.reduceEqDiff, reduceCtorEq, Nat.reduceLT, Nat.reduceAdd, Nat.reduceSub, Nat.reduceMul, Nat.reduceLeDiff, Int.reduceLT, Int.reduceLE, Int.reduceToNat, Int.reduceEq, Int.reduceAdd, Int.reduceSub, Int.reduceNeg, Int.reduceBNe, Int.reduceBEq, lnc, hz, lns, sized_ln, List.length_map, hkl, hrm, w1]
      exact ⟨⟨k + 1, by (try simp only); omega⟩, by show (legs).length - (k + 1) < (legs).length - k; omega, ⟨rfl, (forall_cons rfl (forall_cons (by (show PV.sl _ _ = PV.sl _ _; simp [hts, lenses, lns])) (forall_cons rfl (forall_cons rfl (forall_cons rfl forall_nil))))), forall_nil, (forall_cons rfl forall_nil)⟩⟩
    · obtain rfl : k = legs.length := by omega
      have htk : legs.take legs.length = legs := List.take_length
      simp only [go_sem, reduceIte, Nat.reduceEqDiff, reduceCtorEq, Nat.reduceLT, Nat.reduceAdd, Nat.reduceSub, Nat.reduceMul, Nat.reduceLeDiff, Int.reduceLT, Int.reduceLE, Int.reduceToNat, Int.reduceEq, Int.reduceAdd, Int.reduceSub, Int.reduceNeg, Int.reduceBNe, Int.reduceBEq, h, htk, lnsc, lnss]
  · have hc' : (pathC m a b != 0) = true := by simpa using hc
    simp only [ne_eq, hc, not_false_eq_true, if_true] at hP ⊢
    refine PL.Pure.of_v Tryz.func19 (by decide) rfl Tryz.ntmps19 Tryz.results19 (by simp) (lnsc_dids _) ?_
    simp only [go_sem, reduceIte, Nat.reduceEqDiff, reduceCtorEq, Nat.reduceLT, Nat.reduceAdd, Nat.reduceSub, Nat.reduceMul, Nat.reduceLeDiff, Int.reduceLT, Int.reduceLE, Int.reduceToNat, Int.reduceEq, Int.reduceAdd, Int.reduceSub, Int.reduceNeg, Int.reduceBNe, Int.reduceBEq, tr, tg]
    refine vCall_of (hP) ?_ ?_ ?_; (focus simp only [go_sem, reduceIte, Nat.reduceEqDiff, reduceCtorEq, tr, tg]); (focus simp only [go_sem, reduceIte, Nat.reduceEqDiff, reduceCtorEq, tr, tg])
    simp only [go_sem, reduceIte, Nat.reduceEqDiff, reduceCtorEq, Nat.reduceLT, Nat.reduceAdd, Nat.reduceSub, Nat.reduceMul, Nat.reduceLeDiff, Int.reduceLT, Int.reduceLE, Int.reduceToNat, Int.reduceEq, Int.reduceAdd, Int.reduceSub, Int.reduceNeg, Int.reduceBNe, Int.reduceBEq, legsc, lgs, hc', lnsc, lnss, List.map_nil]
end Go.Proofs.YtbojhapdidieoaaGreat
