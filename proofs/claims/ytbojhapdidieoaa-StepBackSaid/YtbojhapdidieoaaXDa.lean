/- Contracts of functions and laws of this seat, each for every input that it names: lemmas of the proof. -/
import Derived.Test.YtbojhapdidieoaaXCd
import Derived.Test.YtbojhapdidieoaaXCe
set_option linter.unusedSimpArgs false
set_option linter.unusedVariables false
namespace Go.Proofs.Ytbojhapdidieoaa
open Go.PL
theorem all_true {α : Type} {p : α → Bool} {l : List α} {d : α} (h : ∀ j, j < l.length → p (l.getD j d) = true) : l.all p = true := by
  rw [List.all_eq_true]
  intro x hx
  obtain ⟨j, hj, rfl⟩ := List.getElem_of_mem hx
  have := h j hj
  simpa [List.getD_eq_getElem?_getD, hj] using this
theorem all_false {α : Type} {p : α → Bool} {l : List α} {k : Nat} {d : α} (hk : k < l.length) (h : p (l.getD k d) = false) : l.all p = false := by
  rw [List.all_eq_false]
  exact ⟨l.getD k d, getD_mem' hk, by rw [h]; simp⟩
set_option maxHeartbeats 1000000 in
theorem REqTg_pure (a b : List Tg) (ha : a.length ≤ maxLen) (hb : b.length ≤ maxLen) : PL.Pure Try.prog 79 [tgs a, tgs b] (.bool (decide (a = b))) := by
  by_cases hl : a.length = b.length
  · have hl' : ((a.length : Int) != (b.length : Int)) = false := by rw [hl]; exact bne_self_eq_false _
    refine PL.Pure.of_v Try.func79 (by decide) rfl Try.ntmps79 Try.results79 (by simp) rfl ?_
    simp only [go_sem, reduceIte, Nat.reduceEqDiff, reduceCtorEq, Nat.reduceLT, Nat.reduceAdd, Nat.reduceSub, Nat.reduceMul, Nat.reduceLeDiff, Int.reduceLT, Int.reduceLE, Int.reduceToNat, Int.reduceEq, Int.reduceAdd, Int.reduceSub, Int.reduceNeg, Int.reduceBNe, Int.reduceBEq, tgs, hl']
    refine vLoopM (ι := { x : Nat // x ≤ (a).length ∧ (∀ j, j < x → a.getD j default = b.getD j default) }) 26 (fun x => [(0, tgs a), (1, tgs b), (5, .int .i64 (x.1 : Int))]) (fun x => []) (fun x => []) (fun x => (a).length - x.1) ⟨0, Nat.zero_le _, fun j hj => absurd hj (Nat.not_lt_zero j)⟩ ⟨rfl, (forall_cons rfl (forall_cons rfl (forall_cons rfl forall_nil))), forall_nil, forall_nil⟩ (fun x => ⟨(forall_cons rfl (forall_cons rfl (forall_cons rfl forall_nil))), forall_nil⟩) (fun x => ?_); obtain ⟨k, hk, hI⟩ := x; simp only at hk hI ⊢
    by_cases h : (k : Int) < (a.length : Int)
    · (have hka : k < (a).length := by omega); (have w1 := w64s hka (ha)); (have i1 : (0 : Int) ≤ (k : Int) := by omega)
      have hkb : k < b.length := by omega
      have i2 : (k : Int) < (b.length : Int) := by omega
      by_cases he : a.getD k default = b.getD k default
      · have he' : decide (a.getD k default = b.getD k default) = true := decide_eq_true he
        simp only [go_sem, reduceIte, Nat.reduceEqDiff, reduceCtorEq, Nat.reduceLT, Nat.reduceAdd, Nat.reduceSub, Nat.reduceMul, Nat.reduceLeDiff, Int.reduceLT, Int.reduceLE, Int.reduceToNat, Int.reduceEq, Int.reduceAdd, Int.reduceSub, Int.reduceNeg, Int.reduceBNe, Int.reduceBEq, tgs, h]
        refine vDrawQ (by kernel_rfl) (by kernel_rfl) ?_
        simp only [go_sem, reduceIte, Nat.reduceEqDiff, reduceCtorEq, Nat.reduceLT, Nat.reduceAdd, Nat.reduceSub, Nat.reduceMul, Nat.reduceLeDiff, Int.reduceLT, Int.reduceLE, Int.reduceToNat, Int.reduceEq, Int.reduceAdd, Int.reduceSub, Int.reduceNeg, Int.reduceBNe, Int.reduceBEq, getD_tg hka, getD_tg hkb, h, i1, i2, tg, tg_fold, he', w1]
        exact ⟨⟨k + 1, by (try simp only); omega, below_succ hI he⟩, by show (a).length - (k + 1) < (a).length - k; omega, ⟨rfl, (forall_cons rfl (forall_cons rfl (forall_cons rfl forall_nil))), forall_nil, forall_nil⟩⟩
      · have he' : decide (a.getD k default = b.getD k default) = false := decide_eq_false he
        have hab : ¬ a = b := ne_of_getD he
        simp only [go_sem, reduceIte, Nat.reduceEqDiff, reduceCtorEq, Nat.reduceLT, Nat.reduceAdd, Nat.reduceSub, Nat.reduceMul, Nat.reduceLeDiff, Int.reduceLT, Int.reduceLE, Int.reduceToNat, Int.reduceEq, Int.reduceAdd, Int.reduceSub, Int.reduceNeg, Int.reduceBNe, Int.reduceBEq, tgs, h]
        refine vDrawQ (by kernel_rfl) (by kernel_rfl) ?_
        simp only [go_sem, reduceIte, Nat.reduceEqDiff, reduceCtorEq, Nat.reduceLT, Nat.reduceAdd, Nat.reduceSub, Nat.reduceMul, Nat.reduceLeDiff, Int.reduceLT, Int.reduceLE, Int.reduceToNat, Int.reduceEq, Int.reduceAdd, Int.reduceSub, Int.reduceNeg, Int.reduceBNe, Int.reduceBEq, getD_tg hka, getD_tg hkb, h, i1, i2, tg, tg_fold, he', hab]
    · have hab : decide (a = b) = true := decide_eq_true (eq_of_getD (d := default) hl fun j hj => hI j (by omega))
      simp only [go_sem, reduceIte, Nat.reduceEqDiff, reduceCtorEq, Nat.reduceLT, Nat.reduceAdd, Nat.reduceSub, Nat.reduceMul, Nat.reduceLeDiff, Int.reduceLT, Int.reduceLE, Int.reduceToNat, Int.reduceEq, Int.reduceAdd, Int.reduceSub, Int.reduceNeg, Int.reduceBNe, Int.reduceBEq, tgs, h, hab]
  · have hl' : ((a.length : Int) != (b.length : Int)) = true := bne_iff_ne.2 (by omega)
    have hab : ¬ a = b := fun e => hl (by rw [e])
    refine PL.Pure.of_v Try.func79 (by decide) rfl Try.ntmps79 Try.results79 (by simp) rfl ?_
    simp only [go_sem, reduceIte, Nat.reduceEqDiff, reduceCtorEq, Nat.reduceLT, Nat.reduceAdd, Nat.reduceSub, Nat.reduceMul, Nat.reduceLeDiff, Int.reduceLT, Int.reduceLE, Int.reduceToNat, Int.reduceEq, Int.reduceAdd, Int.reduceSub, Int.reduceNeg, Int.reduceBNe, Int.reduceBEq, tgs, hl', hab]
theorem has_froms (l : List Pr) (s : Str) : (fromsM l).any (· == s) = hasFr l s := by
  simp [fromsM, hasFr, List.any_map, Function.comp_def]
theorem atoms_pr (l : List Pr) : Atoms (l.map pr) := fun e he => by
  obtain ⟨x, _, rfl⟩ := List.mem_map.1 he; rfl
set_option maxHeartbeats 4000000 in
theorem LOwn_pure (x : Ln) (hx : OkLn x) : PL.Pure Try.prog 52 [lns x] (lns x) := by
  have hF := FOwn_pure x.fd hx.c
  have r1 := room1 hx.f (show 32 ≤ 1000 by omega)
  have r2 := room1 hx.b (show 32 ≤ 1000 by omega)
  refine PL.Pure.of_v Try.func52 (by decide) rfl Try.ntmps52 Try.results52 (by simp) (lns_dids _) ?_
  simp only [go_sem, reduceIte, Nat.reduceEqDiff, reduceCtorEq, Nat.reduceLT, Nat.reduceAdd, Nat.reduceSub, Nat.reduceMul, Nat.reduceLeDiff, Int.reduceLT, Int.reduceLE, Int.reduceToNat, Int.reduceEq, Int.reduceAdd, Int.reduceSub, Int.reduceNeg, Int.reduceBNe, Int.reduceBEq, lns]
  refine vCall_of (hF) ?_ ?_ ?_; (focus simp only [go_sem, reduceIte, Nat.reduceEqDiff, reduceCtorEq, fld]); (focus simp only [go_sem, reduceIte, Nat.reduceEqDiff, reduceCtorEq, fld])
  simp only [go_sem, reduceIte, Nat.reduceEqDiff, reduceCtorEq, Nat.reduceLT, Nat.reduceAdd, Nat.reduceSub, Nat.reduceMul, Nat.reduceLeDiff, Int.reduceLT, Int.reduceLE, Int.reduceToNat, Int.reduceEq, Int.reduceAdd, Int.reduceSub, Int.reduceNeg, Int.reduceBNe, Int.reduceBEq, fld, lns, sized_pr, atoms_pr, r1, r2]
theorem lns_default : lns default = .agg [.int .i64 0, .int .i64 0, .str [], .str [], .str [], .str [], .int .i64 0, .int .i64 0, .str [], .str [], .int .i64 0, .str [], .sl .no [], .int .i64 0, .sl .no [], .sl .no []] := rfl
set_option maxHeartbeats 4000000 in
theorem round_pure (fo ba : List Pr) (hf : fo.length ≤ maxLen) (hb : ba.length ≤ maxLen) : PL.Pure Try.prog 78 [prs fo, prs ba] (.bool (roundM fo ba)) := by
  refine PL.Pure.of_v Try.func78 (by decide) rfl Try.ntmps78 Try.results78 (by simp) rfl ?_
  simp only [go_sem, reduceIte, Nat.reduceEqDiff, reduceCtorEq, Nat.reduceLT, Nat.reduceAdd, Nat.reduceSub, Nat.reduceMul, Nat.reduceLeDiff, Int.reduceLT, Int.reduceLE, Int.reduceToNat, Int.reduceEq, Int.reduceAdd, Int.reduceSub, Int.reduceNeg, Int.reduceBNe, Int.reduceBEq, prs]
  refine vLoopM (ι := { x : Nat // x ≤ (fo).length ∧ (∀ j, j < x → roundP fo ba (fo.getD j default) = true) }) 40 (fun x => [(0, prs fo), (1, prs ba), (10, prs fo), (11, .int .i64 (fo.length : Int)), (12, .int .i64 (x.1 : Int))]) (fun x => []) (fun x => []) (fun x => (fo).length - x.1) ⟨0, Nat.zero_le _, fun j hj => absurd hj (Nat.not_lt_zero j)⟩ ⟨rfl, (forall_cons rfl (forall_cons rfl (forall_cons rfl (forall_cons rfl (forall_cons rfl forall_nil))))), forall_nil, forall_nil⟩ (fun x => ⟨(forall_cons rfl (forall_cons rfl (forall_cons rfl (forall_cons rfl (forall_cons rfl forall_nil))))), forall_nil⟩) (fun x => ?_); obtain ⟨k, hk, hI⟩ := x; simp only at hk hI ⊢
  by_cases h : (k : Int) < (fo.length : Int)
  · (have hka : k < (fo).length := by omega); (have w1 := w64s hka (hf)); (have i1 : (0 : Int) ≤ (k : Int) := by omega)
    have h1 := Case_pure fo (fo.getD k default).fr' hf
    have h2 := Case_pure ba (caseM fo (fo.getD k default).fr').1 hb
    cases hr : roundP fo ba (fo.getD k default)
    · have hz := all_false (p := roundP fo ba) hka hr
      unfold roundP at hr
      generalize caseM fo (fo.getD k default).fr' = c at *
      generalize caseM ba c.1 = d at *
      obtain ⟨c1, c2⟩ := c
      obtain ⟨d1, d2⟩ := d
      simp only at hr h2
      simp only [go_sem, reduceIte, Nat.reduceEqDiff, reduceCtorEq, Nat.reduceLT, Nat.reduceAdd, Nat.reduceSub, Nat.reduceMul, Nat.reduceLeDiff, Int.reduceLT, Int.reduceLE, Int.reduceToNat, Int.reduceEq, Int.reduceAdd, Int.reduceSub, Int.reduceNeg, Int.reduceBNe, Int.reduceBEq, prs, h, i1, getD_pr hka, pr]
      refine vCall_of (h1) ?_ ?_ ?_; (focus simp only [go_sem, reduceIte, Nat.reduceEqDiff, reduceCtorEq, prs]); (focus simp only [go_sem, reduceIte, Nat.reduceEqDiff, reduceCtorEq, prs])
      simp only [go_sem, reduceIte, Nat.reduceEqDiff, reduceCtorEq, Nat.reduceLT, Nat.reduceAdd, Nat.reduceSub, Nat.reduceMul, Nat.reduceLeDiff, Int.reduceLT, Int.reduceLE, Int.reduceToNat, Int.reduceEq, Int.reduceAdd, Int.reduceSub, Int.reduceNeg, Int.reduceBNe, Int.reduceBEq, strb]
      cases c2
      · simp only [go_sem, reduceIte, Nat.reduceEqDiff, reduceCtorEq, Nat.reduceLT, Nat.reduceAdd, Nat.reduceSub, Nat.reduceMul, Nat.reduceLeDiff, Int.reduceLT, Int.reduceLE, Int.reduceToNat, Int.reduceEq, Int.reduceAdd, Int.reduceSub, Int.reduceNeg, Int.reduceBNe, Int.reduceBEq, roundM, hz]
      · simp only [go_sem, reduceIte, Nat.reduceEqDiff, reduceCtorEq, Nat.reduceLT, Nat.reduceAdd, Nat.reduceSub, Nat.reduceMul, Nat.reduceLeDiff, Int.reduceLT, Int.reduceLE, Int.reduceToNat, Int.reduceEq, Int.reduceAdd, Int.reduceSub, Int.reduceNeg, Int.reduceBNe, Int.reduceBEq, prs]
        refine vCall_of (h2) ?_ ?_ ?_; (focus simp only [go_sem, reduceIte, Nat.reduceEqDiff, reduceCtorEq, prs]); (focus simp only [go_sem, reduceIte, Nat.reduceEqDiff, reduceCtorEq, prs])
        simp only [go_sem, reduceIte, Nat.reduceEqDiff, reduceCtorEq, Nat.reduceLT, Nat.reduceAdd, Nat.reduceSub, Nat.reduceMul, Nat.reduceLeDiff, Int.reduceLT, Int.reduceLE, Int.reduceToNat, Int.reduceEq, Int.reduceAdd, Int.reduceSub, Int.reduceNeg, Int.reduceBNe, Int.reduceBEq, strb]
        cases d2
        · simp only [go_sem, reduceIte, Nat.reduceEqDiff, reduceCtorEq, Nat.reduceLT, Nat.reduceAdd, Nat.reduceSub, Nat.reduceMul, Nat.reduceLeDiff, Int.reduceLT, Int.reduceLE, Int.reduceToNat, Int.reduceEq, Int.reduceAdd, Int.reduceSub, Int.reduceNeg, Int.reduceBNe, Int.reduceBEq, roundM, hz]
        · simp only [Bool.true_and] at hr
          simp only [go_sem, reduceIte, Nat.reduceEqDiff, reduceCtorEq, Nat.reduceLT, Nat.reduceAdd, Nat.reduceSub, Nat.reduceMul, Nat.reduceLeDiff, Int.reduceLT, Int.reduceLE, Int.reduceToNat, Int.reduceEq, Int.reduceAdd, Int.reduceSub, Int.reduceNeg, Int.reduceBNe, Int.reduceBEq, hr, roundM, hz]
    · have hr0 := hr
      unfold roundP at hr
      generalize caseM fo (fo.getD k default).fr' = c at *
      generalize caseM ba c.1 = d at *
      obtain ⟨c1, c2⟩ := c
      obtain ⟨d1, d2⟩ := d
      simp only [Bool.and_eq_true] at hr h2
      obtain ⟨rfl, rfl, hr⟩ := hr
      simp only [go_sem, reduceIte, Nat.reduceEqDiff, reduceCtorEq, Nat.reduceLT, Nat.reduceAdd, Nat.reduceSub, Nat.reduceMul, Nat.reduceLeDiff, Int.reduceLT, Int.reduceLE, Int.reduceToNat, Int.reduceEq, Int.reduceAdd, Int.reduceSub, Int.reduceNeg, Int.reduceBNe, Int.reduceBEq, prs, h, i1, getD_pr hka, pr]
      refine vCall_of (h1) ?_ ?_ ?_; (focus simp only [go_sem, reduceIte, Nat.reduceEqDiff, reduceCtorEq, prs]); (focus simp only [go_sem, reduceIte, Nat.reduceEqDiff, reduceCtorEq, prs])
      simp only [go_sem, reduceIte, Nat.reduceEqDiff, reduceCtorEq, Nat.reduceLT, Nat.reduceAdd, Nat.reduceSub, Nat.reduceMul, Nat.reduceLeDiff, Int.reduceLT, Int.reduceLE, Int.reduceToNat, Int.reduceEq, Int.reduceAdd, Int.reduceSub, Int.reduceNeg, Int.reduceBNe, Int.reduceBEq, strb, prs]
      refine vCall_of (h2) ?_ ?_ ?_; (focus simp only [go_sem, reduceIte, Nat.reduceEqDiff, reduceCtorEq, prs]); (focus simp only [go_sem, reduceIte, Nat.reduceEqDiff, reduceCtorEq, prs])
      simp only [go_sem, reduceIte, Nat.reduceEqDiff, reduceCtorEq, Nat.reduceLT, Nat.reduceAdd, Nat.reduceSub, Nat.reduceMul, Nat.reduceLeDiff, Int.reduceLT, Int.reduceLE, Int.reduceToNat, Int.reduceEq, Int.reduceAdd, Int.reduceSub, Int.reduceNeg, Int.reduceBNe, Int.reduceBEq, strb, hr, w1]
      exact ⟨⟨k + 1, by (try simp only); omega, below_succ hI hr0⟩, by show (fo).length - (k + 1) < (fo).length - k; omega, ⟨rfl, (forall_cons rfl (forall_cons rfl (forall_cons rfl (forall_cons rfl (forall_cons rfl forall_nil))))), forall_nil, forall_nil⟩⟩
  · have hz := all_true (p := roundP fo ba) (d := default) (l := fo) (fun j hj => hI j (by omega))
    simp only [go_sem, reduceIte, Nat.reduceEqDiff, reduceCtorEq, Nat.reduceLT, Nat.reduceAdd, Nat.reduceSub, Nat.reduceMul, Nat.reduceLeDiff, Int.reduceLT, Int.reduceLE, Int.reduceToNat, Int.reduceEq, Int.reduceAdd, Int.reduceSub, Int.reduceNeg, Int.reduceBNe, Int.reduceBEq, prs, h, roundM, hz]
set_option maxRecDepth 20000 in
set_option maxHeartbeats 8000000 in
theorem Kept_pure (x : Ln) (r : Rf) (hx : OkLn x) : PL.Pure Try.prog 37 [lns x, ref r] (.bool (keptM x r)) := by
  have hR := LRight_pure x hx
  have hG := Goes_pure x hx
  unfold keptM
  cases hlr : rightLn x
  · rw [hlr] at hR
    refine PL.Pure.of_v Try.func37 (by decide) rfl Try.ntmps37 Try.results37 (by simp) rfl ?_
    simp only [go_sem, reduceIte, Nat.reduceEqDiff, reduceCtorEq, Nat.reduceLT, Nat.reduceAdd, Nat.reduceSub, Nat.reduceMul, Nat.reduceLeDiff, Int.reduceLT, Int.reduceLE, Int.reduceToNat, Int.reduceEq, Int.reduceAdd, Int.reduceSub, Int.reduceNeg, Int.reduceBNe, Int.reduceBEq, lns, ref]
    refine vCall_of (hR) ?_ ?_ ?_; (focus simp only [go_sem, reduceIte, Nat.reduceEqDiff, reduceCtorEq, lns]); (focus simp only [go_sem, reduceIte, Nat.reduceEqDiff, reduceCtorEq, lns])
    simp only [go_sem, reduceIte, Nat.reduceEqDiff, reduceCtorEq, Nat.reduceLT, Nat.reduceAdd, Nat.reduceSub, Nat.reduceMul, Nat.reduceLeDiff, Int.reduceLT, Int.reduceLE, Int.reduceToNat, Int.reduceEq, Int.reduceAdd, Int.reduceSub, Int.reduceNeg, Int.reduceBNe, Int.reduceBEq, if_true]
  rw [hlr] at hR
  have hg : goesM x = goesR x := by simp [goesM, hlr]
  rw [hg] at hG
  have hI := IdxRef_pure (goesR x) r (by have := goesR_len x; rw [maxLen_eq]; omega)
  have hO := round_pure x.fo x.ba (by have := hx.f; rw [maxLen_eq]; omega) (by have := hx.b; rw [maxLen_eq]; omega)
  generalize idx (fun a => decide (r = a)) (goesR x) = i at *
  refine PL.Pure.of_v Try.func37 (by decide) rfl Try.ntmps37 Try.results37 (by simp) rfl ?_
  simp only [go_sem, reduceIte, Nat.reduceEqDiff, reduceCtorEq, Nat.reduceLT, Nat.reduceAdd, Nat.reduceSub, Nat.reduceMul, Nat.reduceLeDiff, Int.reduceLT, Int.reduceLE, Int.reduceToNat, Int.reduceEq, Int.reduceAdd, Int.reduceSub, Int.reduceNeg, Int.reduceBNe, Int.reduceBEq, lns, ref]
  refine vCall_of (hR) ?_ ?_ ?_; (focus simp only [go_sem, reduceIte, Nat.reduceEqDiff, reduceCtorEq, lns]); (focus simp only [go_sem, reduceIte, Nat.reduceEqDiff, reduceCtorEq, lns])
  simp only [go_sem, reduceIte, Nat.reduceEqDiff, reduceCtorEq, Nat.reduceLT, Nat.reduceAdd, Nat.reduceSub, Nat.reduceMul, Nat.reduceLeDiff, Int.reduceLT, Int.reduceLE, Int.reduceToNat, Int.reduceEq, Int.reduceAdd, Int.reduceSub, Int.reduceNeg, Int.reduceBNe, Int.reduceBEq, lns]
  repeat' (first | (refine vGuard_t (fun h => ?_) (fun h => ?_) <;> (try simp only [go_sem, reduceIte, Nat.reduceEqDiff, reduceCtorEq, Nat.reduceLT, Nat.reduceAdd, Nat.reduceSub, Nat.reduceMul, Nat.reduceLeDiff, Int.reduceLT, Int.reduceLE, Int.reduceToNat, Int.reduceEq, Int.reduceAdd, Int.reduceSub, Int.reduceNeg, Int.reduceBNe, Int.reduceBEq, h, refs, ref])) | (refine vGuard_f (fun h => ?_) (fun h => ?_) <;> (try simp only [go_sem, reduceIte, Nat.reduceEqDiff, reduceCtorEq, Nat.reduceLT, Nat.reduceAdd, Nat.reduceSub, Nat.reduceMul, Nat.reduceLeDiff, Int.reduceLT, Int.reduceLE, Int.reduceToNat, Int.reduceEq, Int.reduceAdd, Int.reduceSub, Int.reduceNeg, Int.reduceBNe, Int.reduceBEq, h, refs, ref])) | (refine vCond_b (fun h => ?_) (fun h => ?_) <;> (try simp only [go_sem, reduceIte, Nat.reduceEqDiff, reduceCtorEq, Nat.reduceLT, Nat.reduceAdd, Nat.reduceSub, Nat.reduceMul, Nat.reduceLeDiff, Int.reduceLT, Int.reduceLE, Int.reduceToNat, Int.reduceEq, Int.reduceAdd, Int.reduceSub, Int.reduceNeg, Int.reduceBNe, Int.reduceBEq, h, refs, ref])) | ((refine vCall_of (hG) ?_ ?_ ?_); (focus simp only [go_sem, reduceIte, Nat.reduceEqDiff, reduceCtorEq, Nat.reduceLT, Nat.reduceAdd, Nat.reduceSub, Nat.reduceMul, Nat.reduceLeDiff, Int.reduceLT, Int.reduceLE, Int.reduceToNat, Int.reduceEq, Int.reduceAdd, Int.reduceSub, Int.reduceNeg, Int.reduceBNe, Int.reduceBEq, lns, refs, ref, prs]); (focus exact rfl); (try simp only [go_sem, reduceIte, Nat.reduceEqDiff, reduceCtorEq, Nat.reduceLT, Nat.reduceAdd, Nat.reduceSub, Nat.reduceMul, Nat.reduceLeDiff, Int.reduceLT, Int.reduceLE, Int.reduceToNat, Int.reduceEq, Int.reduceAdd, Int.reduceSub, Int.reduceNeg, Int.reduceBNe, Int.reduceBEq, refs, ref])) | ((refine vCall_of (hI) ?_ ?_ ?_); (focus simp only [go_sem, reduceIte, Nat.reduceEqDiff, reduceCtorEq, Nat.reduceLT, Nat.reduceAdd, Nat.reduceSub, Nat.reduceMul, Nat.reduceLeDiff, Int.reduceLT, Int.reduceLE, Int.reduceToNat, Int.reduceEq, Int.reduceAdd, Int.reduceSub, Int.reduceNeg, Int.reduceBNe, Int.reduceBEq, lns, refs, ref, prs]); (focus exact rfl); (try simp only [go_sem, reduceIte, Nat.reduceEqDiff, reduceCtorEq, Nat.reduceLT, Nat.reduceAdd, Nat.reduceSub, Nat.reduceMul, Nat.reduceLeDiff, Int.reduceLT, Int.reduceLE, Int.reduceToNat, Int.reduceEq, Int.reduceAdd, Int.reduceSub, Int.reduceNeg, Int.reduceBNe, Int.reduceBEq, refs, ref])) | ((refine vCall_of (hO) ?_ ?_ ?_); (focus simp only [go_sem, reduceIte, Nat.reduceEqDiff, reduceCtorEq, Nat.reduceLT, Nat.reduceAdd, Nat.reduceSub, Nat.reduceMul, Nat.reduceLeDiff, Int.reduceLT, Int.reduceLE, Int.reduceToNat, Int.reduceEq, Int.reduceAdd, Int.reduceSub, Int.reduceNeg, Int.reduceBNe, Int.reduceBEq, lns, refs, ref, prs]); (focus exact rfl); (try simp only [go_sem, reduceIte, Nat.reduceEqDiff, reduceCtorEq, Nat.reduceLT, Nat.reduceAdd, Nat.reduceSub, Nat.reduceMul, Nat.reduceLeDiff, Int.reduceLT, Int.reduceLE, Int.reduceToNat, Int.reduceEq, Int.reduceAdd, Int.reduceSub, Int.reduceNeg, Int.reduceBNe, Int.reduceBEq, refs, ref])) | ((refine vDrawQ (by kernel_rfl) (by kernel_rfl) ?_); (try simp only [go_sem, reduceIte, Nat.reduceEqDiff, reduceCtorEq, Nat.reduceLT, Nat.reduceAdd, Nat.reduceSub, Nat.reduceMul, Nat.reduceLeDiff, Int.reduceLT, Int.reduceLE, Int.reduceToNat, Int.reduceEq, Int.reduceAdd, Int.reduceSub, Int.reduceNeg, Int.reduceBNe, Int.reduceBEq, refs, ref])))
  all_goals (clear hR hG hI hO hx; simp_all <;> (intro; omega))
def invR (x : Ln) : Ln :=
  if x.kind = 1 then ⟨1, ⟨x.at'.sc, x.at'.gr, x.nm⟩, x.at'.nm, x.ot, x.fac, x.fd, x.fo, x.ba⟩
  else if x.kind = 2 then ⟨3, x.at', x.nm, x.ot, x.fac, x.fd, x.fo, x.ba⟩
  else if x.kind = 3 then ⟨2, x.at', x.nm, x.ot, x.fac, x.fd, x.fo, x.ba⟩
  else if x.kind = 4 then ⟨5, ⟨x.at'.sc, [], x.at'.nm⟩, x.at'.gr, x.ot, x.fac, x.fd, x.fo, x.ba⟩
  else if x.kind = 5 then ⟨4, ⟨x.at'.sc, x.nm, x.at'.nm⟩, [], x.ot, x.fac, x.fd, x.fo, x.ba⟩
  else if x.kind = 6 then ⟨9, x.at', x.nm, x.ot, x.fac, x.fd, x.fo, x.ba⟩
  else if x.kind = 9 then ⟨6, x.at', x.nm, x.ot, x.fac, x.fd, x.fo, x.ba⟩
  else if x.kind = 7 then ⟨10, x.at', x.nm, x.ot, x.fac, x.fd, x.fo, x.ba⟩
  else if x.kind = 10 then ⟨7, x.at', x.nm, x.ot, x.fac, x.fd, x.fo, x.ba⟩
  else if x.kind = 8 then ⟨8, x.at', x.ot, x.nm, x.fac, x.fd, x.ba, x.fo⟩ else x
def lnc (x : Ln × Int) : PV := .tup [lns x.1, .int .i64 x.2]
theorem lnc_dids (x : Ln × Int) : (lnc x).dids = [] := by simp only [lnc, PV.dids, PV.didsL, lns_dids, List.append_nil]
def invM (x : Ln) : Ln × Int := if rightLn x = false then (default, 5) else (invR x, 0)
set_option maxRecDepth 20000 in
set_option maxHeartbeats 8000000 in
theorem Inverse_pure (x : Ln) (hx : OkLn x) : PL.Pure Try.prog 36 [lns x] (lnc (invM x)) := by
  have hR := LRight_pure x hx
  have hO := LOwn_pure x hx
  unfold invM
  cases hlr : rightLn x
  · rw [hlr] at hR
    refine PL.Pure.of_v Try.func36 (by decide) rfl Try.ntmps36 Try.results36 (by simp) (lnc_dids _) ?_
    simp only [go_sem, reduceIte, Nat.reduceEqDiff, reduceCtorEq, Nat.reduceLT, Nat.reduceAdd, Nat.reduceSub, Nat.reduceMul, Nat.reduceLeDiff, Int.reduceLT, Int.reduceLE, Int.reduceToNat, Int.reduceEq, Int.reduceAdd, Int.reduceSub, Int.reduceNeg, Int.reduceBNe, Int.reduceBEq, lns]
    refine vCall_of (hR) ?_ ?_ ?_; (focus simp only [go_sem, reduceIte, Nat.reduceEqDiff, reduceCtorEq, lns]); (focus simp only [go_sem, reduceIte, Nat.reduceEqDiff, reduceCtorEq, lns])
    simp only [go_sem, reduceIte, Nat.reduceEqDiff, reduceCtorEq, Nat.reduceLT, Nat.reduceAdd, Nat.reduceSub, Nat.reduceMul, Nat.reduceLeDiff, Int.reduceLT, Int.reduceLE, Int.reduceToNat, Int.reduceEq, Int.reduceAdd, Int.reduceSub, Int.reduceNeg, Int.reduceBNe, Int.reduceBEq, if_true, lnc, lns_default]
  rw [hlr] at hR
  refine PL.Pure.of_v Try.func36 (by decide) rfl Try.ntmps36 Try.results36 (by simp) (lnc_dids _) ?_
  simp only [go_sem, reduceIte, Nat.reduceEqDiff, reduceCtorEq, Nat.reduceLT, Nat.reduceAdd, Nat.reduceSub, Nat.reduceMul, Nat.reduceLeDiff, Int.reduceLT, Int.reduceLE, Int.reduceToNat, Int.reduceEq, Int.reduceAdd, Int.reduceSub, Int.reduceNeg, Int.reduceBNe, Int.reduceBEq, lns]
  refine vCall_of (hR) ?_ ?_ ?_; (focus simp only [go_sem, reduceIte, Nat.reduceEqDiff, reduceCtorEq, lns]); (focus simp only [go_sem, reduceIte, Nat.reduceEqDiff, reduceCtorEq, lns])
  simp only [go_sem, reduceIte, Nat.reduceEqDiff, reduceCtorEq, Nat.reduceLT, Nat.reduceAdd, Nat.reduceSub, Nat.reduceMul, Nat.reduceLeDiff, Int.reduceLT, Int.reduceLE, Int.reduceToNat, Int.reduceEq, Int.reduceAdd, Int.reduceSub, Int.reduceNeg, Int.reduceBNe, Int.reduceBEq, lns]
  refine vCall_of (hO) ?_ ?_ ?_; (focus simp only [go_sem, reduceIte, Nat.reduceEqDiff, reduceCtorEq, lns]); (focus simp only [go_sem, reduceIte, Nat.reduceEqDiff, reduceCtorEq, lns])
  simp only [go_sem, reduceIte, Nat.reduceEqDiff, reduceCtorEq, Nat.reduceLT, Nat.reduceAdd, Nat.reduceSub, Nat.reduceMul, Nat.reduceLeDiff, Int.reduceLT, Int.reduceLE, Int.reduceToNat, Int.reduceEq, Int.reduceAdd, Int.reduceSub, Int.reduceNeg, Int.reduceBNe, Int.reduceBEq, lns]
  repeat' (first | (refine vGuard_t (fun h => ?_) (fun h => ?_) <;> (try simp only [go_sem, reduceIte, Nat.reduceEqDiff, reduceCtorEq, Nat.reduceLT, Nat.reduceAdd, Nat.reduceSub, Nat.reduceMul, Nat.reduceLeDiff, Int.reduceLT, Int.reduceLE, Int.reduceToNat, Int.reduceEq, Int.reduceAdd, Int.reduceSub, Int.reduceNeg, Int.reduceBNe, Int.reduceBEq, h])) | (refine vGuard_f (fun h => ?_) (fun h => ?_) <;> (try simp only [go_sem, reduceIte, Nat.reduceEqDiff, reduceCtorEq, Nat.reduceLT, Nat.reduceAdd, Nat.reduceSub, Nat.reduceMul, Nat.reduceLeDiff, Int.reduceLT, Int.reduceLE, Int.reduceToNat, Int.reduceEq, Int.reduceAdd, Int.reduceSub, Int.reduceNeg, Int.reduceBNe, Int.reduceBEq, h])) | (refine vCond_b (fun h => ?_) (fun h => ?_) <;> (try simp only [go_sem, reduceIte, Nat.reduceEqDiff, reduceCtorEq, Nat.reduceLT, Nat.reduceAdd, Nat.reduceSub, Nat.reduceMul, Nat.reduceLeDiff, Int.reduceLT, Int.reduceLE, Int.reduceToNat, Int.reduceEq, Int.reduceAdd, Int.reduceSub, Int.reduceNeg, Int.reduceBNe, Int.reduceBEq, h])) | ((refine vDrawS [(1, 4)] (by kernel_rfl) (by kernel_rfl) (by exact rfl) ?_); (try simp only [go_sem, reduceIte, Nat.reduceEqDiff, reduceCtorEq, Nat.reduceLT, Nat.reduceAdd, Nat.reduceSub, Nat.reduceMul, Nat.reduceLeDiff, Int.reduceLT, Int.reduceLE, Int.reduceToNat, Int.reduceEq, Int.reduceAdd, Int.reduceSub, Int.reduceNeg, Int.reduceBNe, Int.reduceBEq])) | ((refine vDrawQ (by kernel_rfl) (by kernel_rfl) ?_); (try simp only [go_sem, reduceIte, Nat.reduceEqDiff, reduceCtorEq, Nat.reduceLT, Nat.reduceAdd, Nat.reduceSub, Nat.reduceMul, Nat.reduceLeDiff, Int.reduceLT, Int.reduceLE, Int.reduceToNat, Int.reduceEq, Int.reduceAdd, Int.reduceSub, Int.reduceNeg, Int.reduceBNe, Int.reduceBEq])))
  all_goals (simp only [beq_iff_eq, beq_eq_false_iff_ne, ne_eq] at *; clear hR hO hx; simp [invR, lnc, lns, *])
theorem okInv {x : Ln} (h : OkLn x) : OkLn (invR x) := by
  unfold invR
  repeat' split
  all_goals first | exact ⟨h.c, h.f, h.b⟩ | exact ⟨h.c, h.b, h.f⟩
theorem right_inv {x : Ln} (h : rightLn x = true) (hk : x.kind = 1 ∨ x.kind = 2 ∨ x.kind = 3 ∨ x.kind = 4 ∨ x.kind = 5 ∨ x.kind = 6 ∨ x.kind = 7 ∨ x.kind = 8 ∨ x.kind = 9 ∨ x.kind = 10) : rightLn (invR x) = true := by
  obtain ⟨kind, ⟨sc, gr, n0⟩, nm, ot, fac, fd, fo, ba⟩ := x
  simp only at hk
  rcases hk with rfl | rfl | rfl | rfl | rfl | rfl | rfl | rfl | rfl | rfl
  all_goals
    simp [rightLn, invR, placeB, tablesB] at h ⊢
    (try (simp_all; done))
    (try (obtain ⟨h1, h2⟩ := h; simp_all; done))
  obtain ⟨⟨⟨g1, g2, g3⟩, g4⟩, g5, g6, g7, g8, g9⟩ := h
  exact ⟨⟨⟨g1, g2, .inr g9⟩, g4⟩, g5, g6, g7, fun e => by subst e; exact absurd g9 (by decide)⟩
theorem arr_places {l cs : List Fd} {x : Ln} (hk : x.kind = 1 ∨ x.kind = 2 ∨ x.kind = 3 ∨ x.kind = 4 ∨ x.kind = 5 ∨ x.kind = 6 ∨ x.kind = 7 ∨ x.kind = 8 ∨ x.kind = 9 ∨ x.kind = 10) (h : arrM l x = (cs, true)) : cs.map (·.at') = comesR x := by
  obtain ⟨kind, at0, nm, ot, fac, fd, fo, ba⟩ := x
  simp only at hk
  rcases hk with rfl | rfl | rfl | rfl | rfl | rfl | rfl | rfl | rfl | rfl
  all_goals
    simp only [arrM, mergedM, comesR, Int.reduceEq, if_false, if_true, List.getD_cons_zero] at h ⊢
    (repeat' split at h)
    all_goals
      simp only [Prod.mk.injEq, Bool.false_eq_true, and_false, reduceCtorEq] at h
      try (rw [← h.1]; rfl)
set_option maxRecDepth 20000 in
set_option maxHeartbeats 8000000 in
theorem ROSame_pure (a b : Opn) (ha : a.drops.length ≤ maxLen) (hb : b.drops.length ≤ maxLen) : PL.Pure Try.prog 39 [opv a, opv b] (.bool (decide (a = b))) := by
  have hE := REqTg_pure a.drops b.drops ha hb
  refine PL.Pure.of_v Try.func39 (by decide) rfl Try.ntmps39 Try.results39 (by simp) rfl ?_
  simp only [go_sem, reduceIte, Nat.reduceEqDiff, reduceCtorEq, Nat.reduceLT, Nat.reduceAdd, Nat.reduceSub, Nat.reduceMul, Nat.reduceLeDiff, Int.reduceLT, Int.reduceLE, Int.reduceToNat, Int.reduceEq, Int.reduceAdd, Int.reduceSub, Int.reduceNeg, Int.reduceBNe, Int.reduceBEq, opv, ref_fold, tg_fold, List.append_eq, List.cons_append]
  repeat' (first | (refine vGuard_t (fun h => ?_) (fun h => ?_) <;> (try simp only [go_sem, reduceIte, Nat.reduceEqDiff, reduceCtorEq, Nat.reduceLT, Nat.reduceAdd, Nat.reduceSub, Nat.reduceMul, Nat.reduceLeDiff, Int.reduceLT, Int.reduceLE, Int.reduceToNat, Int.reduceEq, Int.reduceAdd, Int.reduceSub, Int.reduceNeg, Int.reduceBNe, Int.reduceBEq, h, ref_fold, tg_fold])) | (refine vGuard_f (fun h => ?_) (fun h => ?_) <;> (try simp only [go_sem, reduceIte, Nat.reduceEqDiff, reduceCtorEq, Nat.reduceLT, Nat.reduceAdd, Nat.reduceSub, Nat.reduceMul, Nat.reduceLeDiff, Int.reduceLT, Int.reduceLE, Int.reduceToNat, Int.reduceEq, Int.reduceAdd, Int.reduceSub, Int.reduceNeg, Int.reduceBNe, Int.reduceBEq, h, ref_fold, tg_fold])) | (refine vCond_b (fun h => ?_) (fun h => ?_) <;> (try simp only [go_sem, reduceIte, Nat.reduceEqDiff, reduceCtorEq, Nat.reduceLT, Nat.reduceAdd, Nat.reduceSub, Nat.reduceMul, Nat.reduceLeDiff, Int.reduceLT, Int.reduceLE, Int.reduceToNat, Int.reduceEq, Int.reduceAdd, Int.reduceSub, Int.reduceNeg, Int.reduceBNe, Int.reduceBEq, h, ref_fold, tg_fold])) | ((refine vCall_of (hE) ?_ ?_ ?_); (focus simp only [go_sem, reduceIte, Nat.reduceEqDiff, reduceCtorEq, Nat.reduceLT, Nat.reduceAdd, Nat.reduceSub, Nat.reduceMul, Nat.reduceLeDiff, Int.reduceLT, Int.reduceLE, Int.reduceToNat, Int.reduceEq, Int.reduceAdd, Int.reduceSub, Int.reduceNeg, Int.reduceBNe, Int.reduceBEq, tgs]); (focus exact rfl); (try simp only [go_sem, reduceIte, Nat.reduceEqDiff, reduceCtorEq, Nat.reduceLT, Nat.reduceAdd, Nat.reduceSub, Nat.reduceMul, Nat.reduceLeDiff, Int.reduceLT, Int.reduceLE, Int.reduceToNat, Int.reduceEq, Int.reduceAdd, Int.reduceSub, Int.reduceNeg, Int.reduceBNe, Int.reduceBEq, ref_fold, tg_fold])) | ((refine vDrawQ (by kernel_rfl) (by kernel_rfl) ?_); (try simp only [go_sem, reduceIte, Nat.reduceEqDiff, reduceCtorEq, Nat.reduceLT, Nat.reduceAdd, Nat.reduceSub, Nat.reduceMul, Nat.reduceLeDiff, Int.reduceLT, Int.reduceLE, Int.reduceToNat, Int.reduceEq, Int.reduceAdd, Int.reduceSub, Int.reduceNeg, Int.reduceBNe, Int.reduceBEq, ref_fold, tg_fold])))
  all_goals (clear hE ha hb; (cases a; cases b; simp_all) <;> rfl)
theorem placeI_cases (l : List Rf) (r : Rf) : placeI l r = -1 ∨ ∃ g : Nat, g < l.length ∧ placeI l r = (g : Int) := idx_cases _ _
set_option maxHeartbeats 2000000 in
theorem inv_places {x : Ln} (hx : rightLn x = true) : goesR (invR x) = comesR x ∧ comesR (invR x) = goesR x := by
  have hk := (rightLn_kind hx).1
  obtain ⟨kind, ⟨sc, gr, n0⟩, nm, ot, fac, fd, fo, ba⟩ := x
  simp only at hk
  rcases hk with rfl | rfl | rfl | rfl | rfl | rfl | rfl | rfl | rfl | rfl
  all_goals simp [goesR, comesR, invR, named, rightLn] at hx ⊢
  all_goals simp_all
theorem placeI_self (c : Rf) (cs : List Rf) : placeI (c :: cs) c = 0 := by
  unfold placeI idx
  simp [List.findIdx?_cons]
theorem placeI_not {l : List Rf} {r : Rf} (h : r ∉ l) : placeI l r = -1 := by
  rcases placeI_cases l r with e | ⟨g, hg, e⟩
  · exact e
  · obtain ⟨g', _, h2, h3⟩ := placeI_pos (l := l) (r := r) (by omega)
    exact absurd (h3 ▸ getD_mem h2) h
theorem over_placed {x : Ln} {o : Opn} (hx : rightLn x = true) (hp : placedB o = true) : overM x o = if placeI (goesR x) o.at' < 0 then (o, true) else if (becomeM x o).2 = false then (default, false) else (movedO (becomeM x o).1 ((comesR x).getD 0 default), true) := by
  unfold overM
  have : ¬ (o.kind ≠ 3 ∧ o.kind ≠ 4) := by
    simp [placedB] at hp
    omega
  rw [if_neg (by rw [hx]; simp), if_neg this]
theorem moved_back (o : Opn) (r : Rf) : movedO (movedO o r) o.at' = o := by cases o; rfl
theorem fits_counter {l : List Fd} {o : Opn} {f : Fd} (hf : fitsO l o = true) (hp : placedB o = true) (he : findF l o.at' = (f, 0)) (hk : f.kind = 1) : o.kind = 3 := by
  obtain ⟨_, _, h2, h3⟩ := fitsO_place hf hp
  rw [he] at h2 h3
  refine Decidable.byContradiction fun h => ?_
  cases hh : o.has
  · have := h3 h hh; simp only at this; omega
  · have := h2 h hh; simp [fitsF, hk] at this
theorem fits_text {l : List Fd} {o : Opn} {f : Fd} (hf : fitsO l o = true) (hp : placedB o = true) (he : findF l o.at' = (f, 0)) (hk : f.kind ≠ 1) : o.kind = 4 := by
  obtain ⟨_, h1, _, _⟩ := fitsO_place hf hp
  rw [he] at h1
  simp [placedB] at hp
  rcases hp with h | h
  · exact absurd (h1 h) hk
  · exact h
theorem round_at {fo ba : List Pr} (h : roundM fo ba = true) {s : Str} (hs : hasFr fo s = true) : (caseM fo s).2 = true ∧ caseM ba (caseM fo s).1 = (s, true) := by
  unfold hasFr at hs
  rw [List.any_eq_true] at hs
  obtain ⟨q, hq, e⟩ := hs
  have e : q.fr' = s := by simpa using e
  unfold roundM at h
  have := List.all_eq_true.1 h q hq
  simp only [roundP, e, Bool.and_eq_true, beq_iff_eq] at this
  exact ⟨this.1, Prod.ext this.2.2 this.2.1⟩
set_option maxHeartbeats 4000000 in
theorem step_back {l m : List Fd} {x : Ln} {o : Opn} (ha : applyM l x = (m, 0)) (hf : fitsO l o = true) (hp : placedB o = true) :
    (∃ p, overM x o = (p, true) ∧ On m p.at' ∧ (keptM x o.at' = true → overM (invR x) p = (o, true))) ∨ (overM x o = (default, false) ∧ keptM x o.at' = false) := by
  obtain ⟨hl, hx, cs, l1, e1, e2, e3⟩ := apply_fwd ha
  obtain ⟨a1, a2, a3, a4, a5⟩ := go_fwd hl e2
  obtain ⟨b1, b2, b3, b4, b5⟩ := come_fwd a1 e3
  have hk := (rightLn_kind hx).1
  have hy := right_inv hx hk
  obtain ⟨i1, i2⟩ := inv_places hx
  have hpl := arr_places hk e1
  obtain ⟨f0, _, _, _⟩ := fitsO_place hf hp
  have hfe : findF l o.at' = ((findF l o.at').1, 0) := Prod.ext rfl f0
  have hfl := find_zero f0
  generalize (findF l o.at').1 = f at *
  obtain ⟨fm, fa⟩ := hfl
  have fr := (right_iff.1 hl).2.2 f fm
  have hov := over_placed hx hp
  have hkk : keptM x o.at' = if placeI (goesR x) o.at' < 0 then true else if x.kind = 1 ∨ x.kind = 4 ∨ x.kind = 5 ∨ x.kind = 6 ∨ x.kind = 7 ∨ x.kind = 10 then true
      else if x.kind = 9 then placeI (goesR x) o.at' == 0 else if x.kind = 8 then roundM x.fo x.ba else false := by
    unfold keptM
    rw [if_neg (by rw [hx]; simp)]
    rfl
  by_cases hg : placeI (goesR x) o.at' < 0
  · rw [if_pos hg] at hov
    left
    have hf1 : f ∈ l1 := (a2 f).2 ⟨fm, by rw [fa]; exact placeI_neg hg⟩
    refine ⟨o, hov, ⟨f, (b2 f).2 (.inl hf1), fa⟩, fun _ => ?_⟩
    rw [over_placed hy hp, i1, if_pos]
    rw [placeI_not]
    · omega
    · intro hc
      rw [← hpl] at hc
      obtain ⟨c, hc1, hc2⟩ := List.mem_map.1 hc
      exact (b3 c hc1).2 f hf1 (by rw [fa, hc2])
  · rw [if_neg hg] at hov
    rw [if_neg hg] at hkk
    have onC : ∀ r cs', comesR x = r :: cs' → On m r := fun r cs' hc => by
      have : r ∈ cs.map (·.at') := by rw [hpl, hc]; simp
      obtain ⟨c, hc1, hc2⟩ := List.mem_map.1 this
      exact ⟨c, (b2 c).2 (.inr hc1), hc2⟩
    have back : ∀ (p : Opn) (c0 : Rf) (cs' : List Rf), comesR x = c0 :: cs' → p.at' = c0 → placedB p = true → becomeM (invR x) p = (p, true) → overM (invR x) p = (movedO p ((goesR x).getD 0 default), true) := fun p c0 cs' hc hpa hpp hb => by
      rw [over_placed hy hpp, i1, i2, hc, hpa, placeI_self, if_neg (by omega), hb]
      simp
    have pm : ∀ r, placedB (movedO o r) = true := fun r => hp
    obtain ⟨kind, at', nm, ot, fac, fd, fo, ba⟩ := x
    simp only at hk
    rcases hk with rfl | rfl | rfl | rfl | rfl | rfl | rfl | rfl | rfl | rfl
    · have hat : at' = o.at' := placeI_one (by simpa [goesR] using hg)
      subst hat
      left
      have hc : comesR ⟨1, o.at', nm, ot, fac, fd, fo, ba⟩ = [named o.at' nm] := by simp [comesR]
      refine ⟨movedO o (named o.at' nm), by rw [hov]; simp [becomeM, hc], onC _ _ hc, fun _ => ?_⟩
      rw [back (movedO o (named o.at' nm)) _ _ hc rfl (pm _) (by simp [becomeM, invR])]
      simp [goesR, moved_back]
    · exact absurd (show placeI (goesR ⟨2, at', nm, ot, fac, fd, fo, ba⟩) o.at' < 0 from (by decide : (-1 : Int) < 0)) hg
    · right
      exact ⟨by rw [hov]; simp [becomeM], by rw [hkk]; simp⟩
    · have hat : at' = o.at' := placeI_one (by simpa [goesR] using hg)
      subst hat
      left
      have hc : comesR ⟨4, o.at', nm, ot, fac, fd, fo, ba⟩ = [⟨o.at'.sc, [], o.at'.nm⟩] := by simp [comesR]
      refine ⟨movedO o ⟨o.at'.sc, [], o.at'.nm⟩, by rw [hov]; simp [becomeM, hc], onC _ _ hc, fun _ => ?_⟩
      rw [back (movedO o ⟨o.at'.sc, [], o.at'.nm⟩) _ _ hc rfl (pm _) (by simp [becomeM, invR])]
      simp [goesR, moved_back]
    · have hat : at' = o.at' := placeI_one (by simpa [goesR] using hg)
      subst hat
      left
      have hc : comesR ⟨5, o.at', nm, ot, fac, fd, fo, ba⟩ = [⟨o.at'.sc, nm, o.at'.nm⟩] := by simp [comesR]
      refine ⟨movedO o ⟨o.at'.sc, nm, o.at'.nm⟩, by rw [hov]; simp [becomeM, hc], onC _ _ hc, fun _ => ?_⟩
      rw [back (movedO o ⟨o.at'.sc, nm, o.at'.nm⟩) _ _ hc rfl (pm _) (by simp [becomeM, invR])]
      simp [goesR, moved_back]
    · have hat : at' = o.at' := placeI_one (by simpa [goesR] using hg)
      subst hat
      simp [arrM, hfe] at e1
      have k3 := fits_counter hf hp hfe e1.2
      left
      have hc : comesR ⟨6, o.at', nm, ot, fac, fd, fo, ba⟩ = [named o.at' nm, named o.at' ot] := by simp [comesR]
      refine ⟨movedO o (named o.at' nm), by rw [hov]; simp [becomeM, hc, k3], onC _ _ hc, fun _ => ?_⟩
      have hb : becomeM (invR ⟨6, o.at', nm, ot, fac, fd, fo, ba⟩) (movedO o (named o.at' nm)) = (movedO o (named o.at' nm), true) := by
        have hpi : placeI (goesR (invR ⟨6, o.at', nm, ot, fac, fd, fo, ba⟩)) (movedO o (named o.at' nm)).at' = 0 := by rw [i1, hc]; exact placeI_self _ _
        unfold becomeM
        rw [hpi]
        simp [invR, mergeD, movedO, deltaO, k3]
      rw [back (movedO o (named o.at' nm)) _ _ hc rfl (pm _) hb]
      simp [goesR, moved_back]
    · have hat : at' = o.at' := placeI_one (by simpa [goesR] using hg)
      subst hat
      simp [arrM, hfe] at e1
      have k4 := fits_text hf hp hfe (by omega)
      left
      have hc : comesR ⟨7, o.at', nm, ot, fac, fd, fo, ba⟩ = [o.at'] := by simp [comesR]
      refine ⟨movedO o o.at', by rw [hov]; simp [becomeM, hc, k4], onC _ _ hc, fun _ => ?_⟩
      rw [back (movedO o o.at') _ _ hc rfl (pm _) (by simp [becomeM, invR, movedO, k4])]
      simp [goesR, moved_back]
    · have hat : at' = o.at' := placeI_one (by simpa [goesR] using hg)
      subst hat
      simp [arrM, hfe] at e1
      have k4 := fits_text hf hp hfe (by rw [e1.2]; simp)
      obtain ⟨_, _, h2, h3⟩ := fitsO_place hf hp
      rw [hfe] at h2 h3
      have hh : o.has = true := by
        cases hh : o.has
        · have := h3 (by omega) hh; rw [e1.2] at this; simp at this
        · rfl
      have hfit := h2 (by omega) hh
      rw [e1.2] at hfit
      have hfr : hasFr fo o.text = true := by
        rw [← has_froms]
        simp [fitsF] at hfit
        simpa using hfit.2
      have hcs : (caseM fo o.text).2 = true := by rw [caseM_snd]; exact hfr
      have hcv : convT o fo = caseM fo o.text := by unfold convT; rw [if_neg (by omega), if_neg (by rw [hh]; simp)]
      have hc : comesR ⟨8, o.at', nm, ot, fac, fd, fo, ba⟩ = [o.at'] := by simp [comesR]
      left
      refine ⟨movedO (textO o (caseM fo o.text).1) o.at', by rw [hov]; simp [becomeM, hc, hcv, hcs], onC _ _ hc, fun hkp => ?_⟩
      rw [hkk] at hkp
      have hkp : roundM fo ba = true := by simpa using hkp
      obtain ⟨_, hr⟩ := round_at hkp hfr
      have hb : becomeM (invR ⟨8, o.at', nm, ot, fac, fd, fo, ba⟩) (movedO (textO o (caseM fo o.text).1) o.at') = (textO (movedO (textO o (caseM fo o.text).1) o.at') o.text, true) := by
        have : convT (movedO (textO o (caseM fo o.text).1) o.at') ba = (o.text, true) := by
          unfold convT
          rw [if_neg (by simp [movedO, textO, k4]), if_neg (by simp [movedO, textO, hh])]
          exact hr
        simp [becomeM, invR, this]
      rw [over_placed hy (by exact hp), i1, i2, hc, hb]
      have hpi : placeI [o.at'] (movedO (textO o (caseM fo o.text).1) o.at').at' = 0 := placeI_self _ _
      rw [hpi, if_neg (by omega)]
      simp [goesR]
      cases o; rfl
    · simp [arrM, mergedM] at e1
      have hgo : goesR ⟨9, at', nm, ot, fac, fd, fo, ba⟩ = [named at' nm, named at' ot] := by simp [goesR]
      have hc : comesR ⟨9, at', nm, ot, fac, fd, fo, ba⟩ = [at'] := by simp [comesR]
      rw [hgo] at hg hkk
      obtain ⟨g, hg1, hg2, hg3⟩ := placeI_pos hg
      split at e1
      · simp at e1
      split at e1
      · simp at e1
      · rename_i u1 u2
        simp only [not_or, Decidable.not_not] at u1 u2
        have hg01 : g = 0 ∨ g = 1 := by simp at hg2; omega
        have hf1 : f.kind = 1 := by
          rcases hg01 with rfl | rfl
          · have hat : named at' nm = o.at' := by simpa using hg3
            have := u1.2; rw [hat, hfe] at this; exact this
          · have hat : named at' ot = o.at' := by simpa using hg3
            have := u2.2.1; rw [hat, hfe] at this; exact this
        have k3 := fits_counter hf hp hfe hf1
        have hb2 : becomeM ⟨9, at', nm, ot, fac, fd, fo, ba⟩ o = (deltaO o (mergeD o (g : Int) fac).1, (mergeD o (g : Int) fac).2) := by
          simp only [becomeM, hgo, hg1]; simp
        rcases hg01 with rfl | rfl
        · have hat : named at' nm = o.at' := by simpa using hg3
          left
          have hmd : mergeD o ((0 : Nat) : Int) fac = (o.delta, true) := by simp [mergeD, k3]
          rw [hmd] at hb2
          have hd0 : deltaO o o.delta = o := by cases o; rfl
          simp only at hb2
          rw [hd0] at hb2
          refine ⟨movedO o at', by rw [hov, hb2]; simp [hc], onC _ _ hc, fun _ => ?_⟩
          rw [back (movedO o at') _ _ hc rfl (pm _) (by simp [becomeM, invR, movedO, k3])]
          rw [hgo]
          simp only [List.getD_cons_zero]
          rw [hat, moved_back]
        · have hk0 : keptM ⟨9, at', nm, ot, fac, fd, fo, ba⟩ o.at' = false := by rw [hkk, hg1]; simp
          rw [hb2] at hov
          simp only at hov
          by_cases hm2 : (mergeD o ((1 : Nat) : Int) fac).2 = false
          · right
            rw [if_pos hm2] at hov
            exact ⟨hov, hk0⟩
          · left
            rw [if_neg hm2] at hov
            refine ⟨_, hov, ?_, fun h => by rw [hk0] at h; cases h⟩
            rw [hc]
            exact onC _ _ hc
    · have hat : at' = o.at' := placeI_one (by simpa [goesR] using hg)
      subst hat
      simp [arrM, hfe] at e1
      have k4 := fits_text hf hp hfe (by omega)
      left
      have hc : comesR ⟨10, o.at', nm, ot, fac, fd, fo, ba⟩ = [o.at'] := by simp [comesR]
      refine ⟨movedO o o.at', by rw [hov]; simp [becomeM, hc, k4], onC _ _ hc, fun _ => ?_⟩
      rw [back (movedO o o.at') _ _ hc rfl (pm _) (by simp [becomeM, invR, movedO, k4])]
      simp [goesR, moved_back]
theorem over_ids {x : Ln} {o p : Opn} (h : overM x o = (p, true)) : p.id = o.id ∧ p.time = o.time ∧ p.kind = o.kind := by
  have key : ∀ q : Opn × Bool, q = overM x o → q.2 = true → q.1.id = o.id ∧ q.1.time = o.time ∧ q.1.kind = o.kind := by
    intro q hq hq2
    subst hq
    revert hq2
    unfold overM becomeM
    repeat' split
    all_goals first | (intro _; exact ⟨rfl, rfl, rfl⟩) | (intro h; exact absurd h (by simp))
  exact key (p, true) h.symm rfl
def atI (l : List Fd) (r : Rf) : Int := idx (fun x => decide (x.at' = r)) l
theorem atI_yes {l : List Fd} {r : Rf} (h : On l r) : 0 ≤ atI l r := by
  obtain ⟨f, hf, e⟩ := h
  unfold atI idx
  cases hi : l.findIdx? fun x => decide (x.at' = r) with
  | none => rw [List.findIdx?_eq_none_iff] at hi; have := hi f hf; simp [e] at this
  | some i => simp
theorem RAtI_pure (l : List Fd) (r : Rf) (hl : l.length ≤ maxLen) : PL.Pure Try.prog 38 [flds l, ref r] (.int .i64 (atI l r)) := RAt_pure l r hl
theorem over_plain {x : Ln} {o : Opn} (hx : rightLn x = true) (hp : placedB o = false) : overM x o = (o, true) := by
  unfold overM
  have : o.kind ≠ 3 ∧ o.kind ≠ 4 := by simpa [placedB] using hp
  rw [if_neg (by rw [hx]; simp), if_pos this]
theorem okInvLn {x : Ln} (h : OkLn x) : OkLn (invR x) := okInv h
set_option maxRecDepth 20000 in
set_option maxHeartbeats 32000000 in
theorem StepBack_pure (l : List Fd) (x : Ln) (o : Opn) (hl : l.length ≤ maxLen) (hl' : ∀ f ∈ l, f.cases'.length ≤ maxLen) (hx : LenLn x) (ho : o.drops.length ≤ maxLen) : PL.Pure Try.prog 8 [flds l, lns x, opv o] (.bool true) := by
  have h1 := RHeavyL_pure l hl hl'
  have h2 := RHeavyLn_pure x hx
  have h3 := RHeavyO_pure o
  cases hh1 : heavyL l
  rotate_left
  · rw [hh1] at h1
    refine PL.Pure.of_v Try.func8 (by decide) rfl Try.ntmps8 Try.results8 (by simp) rfl ?_
    simp only [go_sem, reduceIte, Nat.reduceEqDiff, reduceCtorEq, Nat.reduceLT, Nat.reduceAdd, Nat.reduceSub, Nat.reduceMul, Nat.reduceLeDiff, Int.reduceLT, Int.reduceLE, Int.reduceToNat, Int.reduceEq, Int.reduceAdd, Int.reduceSub, Int.reduceNeg, Int.reduceBNe, Int.reduceBEq, flds, lns, opv]
    refine vCall_of (awake21_pure) ?_ ?_ ?_; (focus simp only [go_sem, reduceIte, Nat.reduceEqDiff, reduceCtorEq]); (focus simp only [go_sem, reduceIte, Nat.reduceEqDiff, reduceCtorEq])
    simp only [go_sem, reduceIte, Nat.reduceEqDiff, reduceCtorEq, Nat.reduceLT, Nat.reduceAdd, Nat.reduceSub, Nat.reduceMul, Nat.reduceLeDiff, Int.reduceLT, Int.reduceLE, Int.reduceToNat, Int.reduceEq, Int.reduceAdd, Int.reduceSub, Int.reduceNeg, Int.reduceBNe, Int.reduceBEq]
    refine vCall_of (h1) ?_ ?_ ?_; (focus simp only [go_sem, reduceIte, Nat.reduceEqDiff, reduceCtorEq, flds]); (focus simp only [go_sem, reduceIte, Nat.reduceEqDiff, reduceCtorEq, flds])
    simp only [go_sem, reduceIte, Nat.reduceEqDiff, reduceCtorEq, Nat.reduceLT, Nat.reduceAdd, Nat.reduceSub, Nat.reduceMul, Nat.reduceLeDiff, Int.reduceLT, Int.reduceLE, Int.reduceToNat, Int.reduceEq, Int.reduceAdd, Int.reduceSub, Int.reduceNeg, Int.reduceBNe, Int.reduceBEq]
  rw [hh1] at h1
  cases hh2 : heavyLn x
  rotate_left
  · rw [hh2] at h2
    refine PL.Pure.of_v Try.func8 (by decide) rfl Try.ntmps8 Try.results8 (by simp) rfl ?_
    simp only [go_sem, reduceIte, Nat.reduceEqDiff, reduceCtorEq, Nat.reduceLT, Nat.reduceAdd, Nat.reduceSub, Nat.reduceMul, Nat.reduceLeDiff, Int.reduceLT, Int.reduceLE, Int.reduceToNat, Int.reduceEq, Int.reduceAdd, Int.reduceSub, Int.reduceNeg, Int.reduceBNe, Int.reduceBEq, flds, lns, opv]
    refine vCall_of (awake21_pure) ?_ ?_ ?_; (focus simp only [go_sem, reduceIte, Nat.reduceEqDiff, reduceCtorEq]); (focus simp only [go_sem, reduceIte, Nat.reduceEqDiff, reduceCtorEq])
    simp only [go_sem, reduceIte, Nat.reduceEqDiff, reduceCtorEq, Nat.reduceLT, Nat.reduceAdd, Nat.reduceSub, Nat.reduceMul, Nat.reduceLeDiff, Int.reduceLT, Int.reduceLE, Int.reduceToNat, Int.reduceEq, Int.reduceAdd, Int.reduceSub, Int.reduceNeg, Int.reduceBNe, Int.reduceBEq]
    refine vCall_of (h1) ?_ ?_ ?_; (focus simp only [go_sem, reduceIte, Nat.reduceEqDiff, reduceCtorEq, flds]); (focus simp only [go_sem, reduceIte, Nat.reduceEqDiff, reduceCtorEq, flds])
    simp only [go_sem, reduceIte, Nat.reduceEqDiff, reduceCtorEq, Nat.reduceLT, Nat.reduceAdd, Nat.reduceSub, Nat.reduceMul, Nat.reduceLeDiff, Int.reduceLT, Int.reduceLE, Int.reduceToNat, Int.reduceEq, Int.reduceAdd, Int.reduceSub, Int.reduceNeg, Int.reduceBNe, Int.reduceBEq]
    refine vCall_of (h2) ?_ ?_ ?_; (focus simp only [go_sem, reduceIte, Nat.reduceEqDiff, reduceCtorEq, lns]); (focus simp only [go_sem, reduceIte, Nat.reduceEqDiff, reduceCtorEq, lns])
    simp only [go_sem, reduceIte, Nat.reduceEqDiff, reduceCtorEq, Nat.reduceLT, Nat.reduceAdd, Nat.reduceSub, Nat.reduceMul, Nat.reduceLeDiff, Int.reduceLT, Int.reduceLE, Int.reduceToNat, Int.reduceEq, Int.reduceAdd, Int.reduceSub, Int.reduceNeg, Int.reduceBNe, Int.reduceBEq]
  rw [hh2] at h2
  cases hh3 : heavyO o
  rotate_left
  · rw [hh3] at h3
    refine PL.Pure.of_v Try.func8 (by decide) rfl Try.ntmps8 Try.results8 (by simp) rfl ?_
    simp only [go_sem, reduceIte, Nat.reduceEqDiff, reduceCtorEq, Nat.reduceLT, Nat.reduceAdd, Nat.reduceSub, Nat.reduceMul, Nat.reduceLeDiff, Int.reduceLT, Int.reduceLE, Int.reduceToNat, Int.reduceEq, Int.reduceAdd, Int.reduceSub, Int.reduceNeg, Int.reduceBNe, Int.reduceBEq, flds, lns, opv]
    refine vCall_of (awake21_pure) ?_ ?_ ?_; (focus simp only [go_sem, reduceIte, Nat.reduceEqDiff, reduceCtorEq]); (focus simp only [go_sem, reduceIte, Nat.reduceEqDiff, reduceCtorEq])
    simp only [go_sem, reduceIte, Nat.reduceEqDiff, reduceCtorEq, Nat.reduceLT, Nat.reduceAdd, Nat.reduceSub, Nat.reduceMul, Nat.reduceLeDiff, Int.reduceLT, Int.reduceLE, Int.reduceToNat, Int.reduceEq, Int.reduceAdd, Int.reduceSub, Int.reduceNeg, Int.reduceBNe, Int.reduceBEq]
    refine vCall_of (h1) ?_ ?_ ?_; (focus simp only [go_sem, reduceIte, Nat.reduceEqDiff, reduceCtorEq, flds]); (focus simp only [go_sem, reduceIte, Nat.reduceEqDiff, reduceCtorEq, flds])
    simp only [go_sem, reduceIte, Nat.reduceEqDiff, reduceCtorEq, Nat.reduceLT, Nat.reduceAdd, Nat.reduceSub, Nat.reduceMul, Nat.reduceLeDiff, Int.reduceLT, Int.reduceLE, Int.reduceToNat, Int.reduceEq, Int.reduceAdd, Int.reduceSub, Int.reduceNeg, Int.reduceBNe, Int.reduceBEq]
    refine vCall_of (h2) ?_ ?_ ?_; (focus simp only [go_sem, reduceIte, Nat.reduceEqDiff, reduceCtorEq, lns]); (focus simp only [go_sem, reduceIte, Nat.reduceEqDiff, reduceCtorEq, lns])
    simp only [go_sem, reduceIte, Nat.reduceEqDiff, reduceCtorEq, Nat.reduceLT, Nat.reduceAdd, Nat.reduceSub, Nat.reduceMul, Nat.reduceLeDiff, Int.reduceLT, Int.reduceLE, Int.reduceToNat, Int.reduceEq, Int.reduceAdd, Int.reduceSub, Int.reduceNeg, Int.reduceBNe, Int.reduceBEq]
    refine vCall_of (h3) ?_ ?_ ?_; (focus simp only [go_sem, reduceIte, Nat.reduceEqDiff, reduceCtorEq, opv]); (focus simp only [go_sem, reduceIte, Nat.reduceEqDiff, reduceCtorEq, opv])
    simp only [go_sem, reduceIte, Nat.reduceEqDiff, reduceCtorEq, Nat.reduceLT, Nat.reduceAdd, Nat.reduceSub, Nat.reduceMul, Nat.reduceLeDiff, Int.reduceLT, Int.reduceLE, Int.reduceToNat, Int.reduceEq, Int.reduceAdd, Int.reduceSub, Int.reduceNeg, Int.reduceBNe, Int.reduceBEq]
  rw [hh3] at h3
  have okl := okFsOfHeavy hh1
  have okx := okOfHeavy hh2
  have oko := OkOfHeavy o hh3
  have hA := Apply_pure l x okl okx
  have hI := Inverse_pure x okx
  have hF := OFits_pure l o okl ho
  have okm := okApply okl okx
  by_cases hc : (applyM l x).2 = 0
  rotate_left
  · have ec : ((applyM l x).2 != 0) = true := by simpa using hc
    generalize applyM l x = y at *
    obtain ⟨m, c⟩ := y
    generalize invM x = z at *
    obtain ⟨z, d⟩ := z
    simp only at ec
    refine PL.Pure.of_v Try.func8 (by decide) rfl Try.ntmps8 Try.results8 (by simp) rfl ?_
    simp only [go_sem, reduceIte, Nat.reduceEqDiff, reduceCtorEq, Nat.reduceLT, Nat.reduceAdd, Nat.reduceSub, Nat.reduceMul, Nat.reduceLeDiff, Int.reduceLT, Int.reduceLE, Int.reduceToNat, Int.reduceEq, Int.reduceAdd, Int.reduceSub, Int.reduceNeg, Int.reduceBNe, Int.reduceBEq, flds, lns, opv]
    refine vCall_of (awake21_pure) ?_ ?_ ?_; (focus simp only [go_sem, reduceIte, Nat.reduceEqDiff, reduceCtorEq]); (focus simp only [go_sem, reduceIte, Nat.reduceEqDiff, reduceCtorEq])
    simp only [go_sem, reduceIte, Nat.reduceEqDiff, reduceCtorEq, Nat.reduceLT, Nat.reduceAdd, Nat.reduceSub, Nat.reduceMul, Nat.reduceLeDiff, Int.reduceLT, Int.reduceLE, Int.reduceToNat, Int.reduceEq, Int.reduceAdd, Int.reduceSub, Int.reduceNeg, Int.reduceBNe, Int.reduceBEq]
    refine vCall_of (h1) ?_ ?_ ?_; (focus simp only [go_sem, reduceIte, Nat.reduceEqDiff, reduceCtorEq, flds]); (focus simp only [go_sem, reduceIte, Nat.reduceEqDiff, reduceCtorEq, flds])
    simp only [go_sem, reduceIte, Nat.reduceEqDiff, reduceCtorEq, Nat.reduceLT, Nat.reduceAdd, Nat.reduceSub, Nat.reduceMul, Nat.reduceLeDiff, Int.reduceLT, Int.reduceLE, Int.reduceToNat, Int.reduceEq, Int.reduceAdd, Int.reduceSub, Int.reduceNeg, Int.reduceBNe, Int.reduceBEq]
    refine vCall_of (h2) ?_ ?_ ?_; (focus simp only [go_sem, reduceIte, Nat.reduceEqDiff, reduceCtorEq, lns]); (focus simp only [go_sem, reduceIte, Nat.reduceEqDiff, reduceCtorEq, lns])
    simp only [go_sem, reduceIte, Nat.reduceEqDiff, reduceCtorEq, Nat.reduceLT, Nat.reduceAdd, Nat.reduceSub, Nat.reduceMul, Nat.reduceLeDiff, Int.reduceLT, Int.reduceLE, Int.reduceToNat, Int.reduceEq, Int.reduceAdd, Int.reduceSub, Int.reduceNeg, Int.reduceBNe, Int.reduceBEq]
    refine vCall_of (h3) ?_ ?_ ?_; (focus simp only [go_sem, reduceIte, Nat.reduceEqDiff, reduceCtorEq, opv]); (focus simp only [go_sem, reduceIte, Nat.reduceEqDiff, reduceCtorEq, opv])
    simp only [go_sem, reduceIte, Nat.reduceEqDiff, reduceCtorEq, Nat.reduceLT, Nat.reduceAdd, Nat.reduceSub, Nat.reduceMul, Nat.reduceLeDiff, Int.reduceLT, Int.reduceLE, Int.reduceToNat, Int.reduceEq, Int.reduceAdd, Int.reduceSub, Int.reduceNeg, Int.reduceBNe, Int.reduceBEq, flds, lns]
    refine vCall_of (hA) ?_ ?_ ?_; (focus simp only [go_sem, reduceIte, Nat.reduceEqDiff, reduceCtorEq, flds, lns]); (focus simp only [go_sem, reduceIte, Nat.reduceEqDiff, reduceCtorEq, flds, lns])
    simp only [go_sem, reduceIte, Nat.reduceEqDiff, reduceCtorEq, Nat.reduceLT, Nat.reduceAdd, Nat.reduceSub, Nat.reduceMul, Nat.reduceLeDiff, Int.reduceLT, Int.reduceLE, Int.reduceToNat, Int.reduceEq, Int.reduceAdd, Int.reduceSub, Int.reduceNeg, Int.reduceBNe, Int.reduceBEq, fldsc, flds, lns]
    refine vCall_of (hI) ?_ ?_ ?_; (focus simp only [go_sem, reduceIte, Nat.reduceEqDiff, reduceCtorEq, lns]); (focus simp only [go_sem, reduceIte, Nat.reduceEqDiff, reduceCtorEq, lns])
    simp only [go_sem, reduceIte, Nat.reduceEqDiff, reduceCtorEq, Nat.reduceLT, Nat.reduceAdd, Nat.reduceSub, Nat.reduceMul, Nat.reduceLeDiff, Int.reduceLT, Int.reduceLE, Int.reduceToNat, Int.reduceEq, Int.reduceAdd, Int.reduceSub, Int.reduceNeg, Int.reduceBNe, Int.reduceBEq, lnc, lns, ec]
  have ec : ((applyM l x).2 != 0) = false := by simpa using hc
  have hap : applyM l x = ((applyM l x).1, 0) := Prod.ext rfl hc
  have hrx := (apply_fwd hap).2.1
  have hiv : invM x = (invR x, 0) := by unfold invM; rw [if_neg (by rw [hrx]; simp)]
  rw [hiv] at hI
  rw [hap] at hA
  have e0 : ((0 : Int) != 0) = false := rfl
  have ec : ((0 : Int) != 0) = false := rfl
  have hry := right_inv hrx (rightLn_kind hrx).1
  have oky := okInvLn okx
  generalize hy : invR x = y at *
  generalize (applyM l x).1 = m at *
  have hml := okm.n
  cases hfi : fitsO l o
  · rw [hfi] at hF
    refine PL.Pure.of_v Try.func8 (by decide) rfl Try.ntmps8 Try.results8 (by simp) rfl ?_
    simp only [go_sem, reduceIte, Nat.reduceEqDiff, reduceCtorEq, Nat.reduceLT, Nat.reduceAdd, Nat.reduceSub, Nat.reduceMul, Nat.reduceLeDiff, Int.reduceLT, Int.reduceLE, Int.reduceToNat, Int.reduceEq, Int.reduceAdd, Int.reduceSub, Int.reduceNeg, Int.reduceBNe, Int.reduceBEq, flds, lns, opv]
    refine vCall_of (awake21_pure) ?_ ?_ ?_; (focus simp only [go_sem, reduceIte, Nat.reduceEqDiff, reduceCtorEq]); (focus simp only [go_sem, reduceIte, Nat.reduceEqDiff, reduceCtorEq])
    simp only [go_sem, reduceIte, Nat.reduceEqDiff, reduceCtorEq, Nat.reduceLT, Nat.reduceAdd, Nat.reduceSub, Nat.reduceMul, Nat.reduceLeDiff, Int.reduceLT, Int.reduceLE, Int.reduceToNat, Int.reduceEq, Int.reduceAdd, Int.reduceSub, Int.reduceNeg, Int.reduceBNe, Int.reduceBEq]
    refine vCall_of (h1) ?_ ?_ ?_; (focus simp only [go_sem, reduceIte, Nat.reduceEqDiff, reduceCtorEq, flds]); (focus simp only [go_sem, reduceIte, Nat.reduceEqDiff, reduceCtorEq, flds])
    simp only [go_sem, reduceIte, Nat.reduceEqDiff, reduceCtorEq, Nat.reduceLT, Nat.reduceAdd, Nat.reduceSub, Nat.reduceMul, Nat.reduceLeDiff, Int.reduceLT, Int.reduceLE, Int.reduceToNat, Int.reduceEq, Int.reduceAdd, Int.reduceSub, Int.reduceNeg, Int.reduceBNe, Int.reduceBEq]
    refine vCall_of (h2) ?_ ?_ ?_; (focus simp only [go_sem, reduceIte, Nat.reduceEqDiff, reduceCtorEq, lns]); (focus simp only [go_sem, reduceIte, Nat.reduceEqDiff, reduceCtorEq, lns])
    simp only [go_sem, reduceIte, Nat.reduceEqDiff, reduceCtorEq, Nat.reduceLT, Nat.reduceAdd, Nat.reduceSub, Nat.reduceMul, Nat.reduceLeDiff, Int.reduceLT, Int.reduceLE, Int.reduceToNat, Int.reduceEq, Int.reduceAdd, Int.reduceSub, Int.reduceNeg, Int.reduceBNe, Int.reduceBEq]
    refine vCall_of (h3) ?_ ?_ ?_; (focus simp only [go_sem, reduceIte, Nat.reduceEqDiff, reduceCtorEq, opv]); (focus simp only [go_sem, reduceIte, Nat.reduceEqDiff, reduceCtorEq, opv])
    simp only [go_sem, reduceIte, Nat.reduceEqDiff, reduceCtorEq, Nat.reduceLT, Nat.reduceAdd, Nat.reduceSub, Nat.reduceMul, Nat.reduceLeDiff, Int.reduceLT, Int.reduceLE, Int.reduceToNat, Int.reduceEq, Int.reduceAdd, Int.reduceSub, Int.reduceNeg, Int.reduceBNe, Int.reduceBEq, flds, lns]
    refine vCall_of (hA) ?_ ?_ ?_; (focus simp only [go_sem, reduceIte, Nat.reduceEqDiff, reduceCtorEq, flds, lns]); (focus simp only [go_sem, reduceIte, Nat.reduceEqDiff, reduceCtorEq, flds, lns])
    simp only [go_sem, reduceIte, Nat.reduceEqDiff, reduceCtorEq, Nat.reduceLT, Nat.reduceAdd, Nat.reduceSub, Nat.reduceMul, Nat.reduceLeDiff, Int.reduceLT, Int.reduceLE, Int.reduceToNat, Int.reduceEq, Int.reduceAdd, Int.reduceSub, Int.reduceNeg, Int.reduceBNe, Int.reduceBEq, fldsc, flds, lns]
    refine vCall_of (hI) ?_ ?_ ?_; (focus simp only [go_sem, reduceIte, Nat.reduceEqDiff, reduceCtorEq, lns]); (focus simp only [go_sem, reduceIte, Nat.reduceEqDiff, reduceCtorEq, lns])
    simp only [go_sem, reduceIte, Nat.reduceEqDiff, reduceCtorEq, Nat.reduceLT, Nat.reduceAdd, Nat.reduceSub, Nat.reduceMul, Nat.reduceLeDiff, Int.reduceLT, Int.reduceLE, Int.reduceToNat, Int.reduceEq, Int.reduceAdd, Int.reduceSub, Int.reduceNeg, Int.reduceBNe, Int.reduceBEq, lnc, lns, ec, e0, opv]
    refine vCall_of (hF) ?_ ?_ ?_; (focus simp only [go_sem, reduceIte, Nat.reduceEqDiff, reduceCtorEq, flds, opv]); (focus simp only [go_sem, reduceIte, Nat.reduceEqDiff, reduceCtorEq, flds, opv])
    simp only [go_sem, reduceIte, Nat.reduceEqDiff, reduceCtorEq, Nat.reduceLT, Nat.reduceAdd, Nat.reduceSub, Nat.reduceMul, Nat.reduceLeDiff, Int.reduceLT, Int.reduceLE, Int.reduceToNat, Int.reduceEq, Int.reduceAdd, Int.reduceSub, Int.reduceNeg, Int.reduceBNe, Int.reduceBEq, Bool.not_false]
  rw [hfi] at hF
  have hO := Over_pure x o okx oko
  cases hp : placedB o
  · have p1 : (o.kind != 3) = true := by simp [placedB] at hp; simpa using hp.1
    have p2 : (o.kind != 4) = true := by simp [placedB] at hp; simpa using hp.2
    rw [over_plain hrx hp] at hO
    have hQ := Over_pure y o oky oko
    rw [over_plain hry hp] at hQ
    have hS := ROSame_pure o o ho ho
    rw [decide_eq_true rfl] at hS
    refine PL.Pure.of_v Try.func8 (by decide) rfl Try.ntmps8 Try.results8 (by simp) rfl ?_
    simp only [go_sem, reduceIte, Nat.reduceEqDiff, reduceCtorEq, Nat.reduceLT, Nat.reduceAdd, Nat.reduceSub, Nat.reduceMul, Nat.reduceLeDiff, Int.reduceLT, Int.reduceLE, Int.reduceToNat, Int.reduceEq, Int.reduceAdd, Int.reduceSub, Int.reduceNeg, Int.reduceBNe, Int.reduceBEq, flds, lns, opv]
    refine vCall_of (awake21_pure) ?_ ?_ ?_; (focus simp only [go_sem, reduceIte, Nat.reduceEqDiff, reduceCtorEq]); (focus simp only [go_sem, reduceIte, Nat.reduceEqDiff, reduceCtorEq])
    simp only [go_sem, reduceIte, Nat.reduceEqDiff, reduceCtorEq, Nat.reduceLT, Nat.reduceAdd, Nat.reduceSub, Nat.reduceMul, Nat.reduceLeDiff, Int.reduceLT, Int.reduceLE, Int.reduceToNat, Int.reduceEq, Int.reduceAdd, Int.reduceSub, Int.reduceNeg, Int.reduceBNe, Int.reduceBEq]
    refine vCall_of (h1) ?_ ?_ ?_; (focus simp only [go_sem, reduceIte, Nat.reduceEqDiff, reduceCtorEq, flds]); (focus simp only [go_sem, reduceIte, Nat.reduceEqDiff, reduceCtorEq, flds])
    simp only [go_sem, reduceIte, Nat.reduceEqDiff, reduceCtorEq, Nat.reduceLT, Nat.reduceAdd, Nat.reduceSub, Nat.reduceMul, Nat.reduceLeDiff, Int.reduceLT, Int.reduceLE, Int.reduceToNat, Int.reduceEq, Int.reduceAdd, Int.reduceSub, Int.reduceNeg, Int.reduceBNe, Int.reduceBEq]
    refine vCall_of (h2) ?_ ?_ ?_; (focus simp only [go_sem, reduceIte, Nat.reduceEqDiff, reduceCtorEq, lns]); (focus simp only [go_sem, reduceIte, Nat.reduceEqDiff, reduceCtorEq, lns])
    simp only [go_sem, reduceIte, Nat.reduceEqDiff, reduceCtorEq, Nat.reduceLT, Nat.reduceAdd, Nat.reduceSub, Nat.reduceMul, Nat.reduceLeDiff, Int.reduceLT, Int.reduceLE, Int.reduceToNat, Int.reduceEq, Int.reduceAdd, Int.reduceSub, Int.reduceNeg, Int.reduceBNe, Int.reduceBEq]
    refine vCall_of (h3) ?_ ?_ ?_; (focus simp only [go_sem, reduceIte, Nat.reduceEqDiff, reduceCtorEq, opv]); (focus simp only [go_sem, reduceIte, Nat.reduceEqDiff, reduceCtorEq, opv])
    simp only [go_sem, reduceIte, Nat.reduceEqDiff, reduceCtorEq, Nat.reduceLT, Nat.reduceAdd, Nat.reduceSub, Nat.reduceMul, Nat.reduceLeDiff, Int.reduceLT, Int.reduceLE, Int.reduceToNat, Int.reduceEq, Int.reduceAdd, Int.reduceSub, Int.reduceNeg, Int.reduceBNe, Int.reduceBEq, flds, lns]
    refine vCall_of (hA) ?_ ?_ ?_; (focus simp only [go_sem, reduceIte, Nat.reduceEqDiff, reduceCtorEq, flds, lns]); (focus simp only [go_sem, reduceIte, Nat.reduceEqDiff, reduceCtorEq, flds, lns])
    simp only [go_sem, reduceIte, Nat.reduceEqDiff, reduceCtorEq, Nat.reduceLT, Nat.reduceAdd, Nat.reduceSub, Nat.reduceMul, Nat.reduceLeDiff, Int.reduceLT, Int.reduceLE, Int.reduceToNat, Int.reduceEq, Int.reduceAdd, Int.reduceSub, Int.reduceNeg, Int.reduceBNe, Int.reduceBEq, fldsc, flds, lns]
    refine vCall_of (hI) ?_ ?_ ?_; (focus simp only [go_sem, reduceIte, Nat.reduceEqDiff, reduceCtorEq, lns]); (focus simp only [go_sem, reduceIte, Nat.reduceEqDiff, reduceCtorEq, lns])
    simp only [go_sem, reduceIte, Nat.reduceEqDiff, reduceCtorEq, Nat.reduceLT, Nat.reduceAdd, Nat.reduceSub, Nat.reduceMul, Nat.reduceLeDiff, Int.reduceLT, Int.reduceLE, Int.reduceToNat, Int.reduceEq, Int.reduceAdd, Int.reduceSub, Int.reduceNeg, Int.reduceBNe, Int.reduceBEq, lnc, lns, ec, e0, opv]
    refine vCall_of (hF) ?_ ?_ ?_; (focus simp only [go_sem, reduceIte, Nat.reduceEqDiff, reduceCtorEq, flds, opv]); (focus simp only [go_sem, reduceIte, Nat.reduceEqDiff, reduceCtorEq, flds, opv])
    simp only [go_sem, reduceIte, Nat.reduceEqDiff, reduceCtorEq, Nat.reduceLT, Nat.reduceAdd, Nat.reduceSub, Nat.reduceMul, Nat.reduceLeDiff, Int.reduceLT, Int.reduceLE, Int.reduceToNat, Int.reduceEq, Int.reduceAdd, Int.reduceSub, Int.reduceNeg, Int.reduceBNe, Int.reduceBEq, Bool.not_true, p1, p2, lns, opv]
    refine vCall_of (hO) ?_ ?_ ?_; (focus simp only [go_sem, reduceIte, Nat.reduceEqDiff, reduceCtorEq, lns, opv]); (focus simp only [go_sem, reduceIte, Nat.reduceEqDiff, reduceCtorEq, lns, opv])
    simp only [go_sem, reduceIte, Nat.reduceEqDiff, reduceCtorEq, Nat.reduceLT, Nat.reduceAdd, Nat.reduceSub, Nat.reduceMul, Nat.reduceLeDiff, Int.reduceLT, Int.reduceLE, Int.reduceToNat, Int.reduceEq, Int.reduceAdd, Int.reduceSub, Int.reduceNeg, Int.reduceBNe, Int.reduceBEq, opb, opv, Bool.not_true, lns]
    refine vCall_of (hQ) ?_ ?_ ?_; (focus simp only [go_sem, reduceIte, Nat.reduceEqDiff, reduceCtorEq, lns, opv]); (focus simp only [go_sem, reduceIte, Nat.reduceEqDiff, reduceCtorEq, lns, opv])
    simp only [go_sem, reduceIte, Nat.reduceEqDiff, reduceCtorEq, Nat.reduceLT, Nat.reduceAdd, Nat.reduceSub, Nat.reduceMul, Nat.reduceLeDiff, Int.reduceLT, Int.reduceLE, Int.reduceToNat, Int.reduceEq, Int.reduceAdd, Int.reduceSub, Int.reduceNeg, Int.reduceBNe, Int.reduceBEq, opb, opv]
    refine vCall_of (hS) ?_ ?_ ?_; (focus simp only [go_sem, reduceIte, Nat.reduceEqDiff, reduceCtorEq, opv]); (focus simp only [go_sem, reduceIte, Nat.reduceEqDiff, reduceCtorEq, opv])
    simp only [go_sem, reduceIte, Nat.reduceEqDiff, reduceCtorEq, Nat.reduceLT, Nat.reduceAdd, Nat.reduceSub, Nat.reduceMul, Nat.reduceLeDiff, Int.reduceLT, Int.reduceLE, Int.reduceToNat, Int.reduceEq, Int.reduceAdd, Int.reduceSub, Int.reduceNeg, Int.reduceBNe, Int.reduceBEq]
  have plc : (o.kind != 3) = false ∨ ((o.kind != 3) = true ∧ (o.kind != 4) = false) := by
    simp [placedB] at hp
    rcases hp with h | h
    · left; simpa using h
    · by_cases h3 : o.kind = 3
      · left; simpa using h3
      · right; exact ⟨by simpa using h3, by simpa using h⟩
  have hK := Kept_pure x o.at' okx
  rcases step_back hap hfi hp with ⟨p, hov, hon, hback⟩ | ⟨hov, hk⟩
  · rw [hy] at hback
    rw [hov] at hO
    have okp : OkOp p := by have := over_okD (x := x) oko; rw [hov] at this; exact this
    have hAt := RAtI_pure m p.at' (by rw [maxLen_eq]; omega)
    have hat0 := atI_yes hon
    have n1 : ¬ atI m p.at' < 0 := by omega
    have hQ := Over_pure y p oky okp
    cases hk : keptM x o.at'
    · rw [hk] at hK
      generalize hov2 : overM y p = q at *
      obtain ⟨q, b⟩ := q
      cases b
      · rcases plc with e3 | ⟨e3, e4⟩
        · refine PL.Pure.of_v Try.func8 (by decide) rfl Try.ntmps8 Try.results8 (by simp) rfl ?_
          simp only [go_sem, reduceIte, Nat.reduceEqDiff, reduceCtorEq, Nat.reduceLT, Nat.reduceAdd, Nat.reduceSub, Nat.reduceMul, Nat.reduceLeDiff, Int.reduceLT, Int.reduceLE, Int.reduceToNat, Int.reduceEq, Int.reduceAdd, Int.reduceSub, Int.reduceNeg, Int.reduceBNe, Int.reduceBEq, flds, lns, opv]
          refine vCall_of (awake21_pure) ?_ ?_ ?_; (focus simp only [go_sem, reduceIte, Nat.reduceEqDiff, reduceCtorEq]); (focus simp only [go_sem, reduceIte, Nat.reduceEqDiff, reduceCtorEq])
          simp only [go_sem, reduceIte, Nat.reduceEqDiff, reduceCtorEq, Nat.reduceLT, Nat.reduceAdd, Nat.reduceSub, Nat.reduceMul, Nat.reduceLeDiff, Int.reduceLT, Int.reduceLE, Int.reduceToNat, Int.reduceEq, Int.reduceAdd, Int.reduceSub, Int.reduceNeg, Int.reduceBNe, Int.reduceBEq]
          refine vCall_of (h1) ?_ ?_ ?_; (focus simp only [go_sem, reduceIte, Nat.reduceEqDiff, reduceCtorEq, flds]); (focus simp only [go_sem, reduceIte, Nat.reduceEqDiff, reduceCtorEq, flds])
          simp only [go_sem, reduceIte, Nat.reduceEqDiff, reduceCtorEq, Nat.reduceLT, Nat.reduceAdd, Nat.reduceSub, Nat.reduceMul, Nat.reduceLeDiff, Int.reduceLT, Int.reduceLE, Int.reduceToNat, Int.reduceEq, Int.reduceAdd, Int.reduceSub, Int.reduceNeg, Int.reduceBNe, Int.reduceBEq]
          refine vCall_of (h2) ?_ ?_ ?_; (focus simp only [go_sem, reduceIte, Nat.reduceEqDiff, reduceCtorEq, lns]); (focus simp only [go_sem, reduceIte, Nat.reduceEqDiff, reduceCtorEq, lns])
          simp only [go_sem, reduceIte, Nat.reduceEqDiff, reduceCtorEq, Nat.reduceLT, Nat.reduceAdd, Nat.reduceSub, Nat.reduceMul, Nat.reduceLeDiff, Int.reduceLT, Int.reduceLE, Int.reduceToNat, Int.reduceEq, Int.reduceAdd, Int.reduceSub, Int.reduceNeg, Int.reduceBNe, Int.reduceBEq]
          refine vCall_of (h3) ?_ ?_ ?_; (focus simp only [go_sem, reduceIte, Nat.reduceEqDiff, reduceCtorEq, opv]); (focus simp only [go_sem, reduceIte, Nat.reduceEqDiff, reduceCtorEq, opv])
          simp only [go_sem, reduceIte, Nat.reduceEqDiff, reduceCtorEq, Nat.reduceLT, Nat.reduceAdd, Nat.reduceSub, Nat.reduceMul, Nat.reduceLeDiff, Int.reduceLT, Int.reduceLE, Int.reduceToNat, Int.reduceEq, Int.reduceAdd, Int.reduceSub, Int.reduceNeg, Int.reduceBNe, Int.reduceBEq, flds, lns]
          refine vCall_of (hA) ?_ ?_ ?_; (focus simp only [go_sem, reduceIte, Nat.reduceEqDiff, reduceCtorEq, flds, lns]); (focus simp only [go_sem, reduceIte, Nat.reduceEqDiff, reduceCtorEq, flds, lns])
          simp only [go_sem, reduceIte, Nat.reduceEqDiff, reduceCtorEq, Nat.reduceLT, Nat.reduceAdd, Nat.reduceSub, Nat.reduceMul, Nat.reduceLeDiff, Int.reduceLT, Int.reduceLE, Int.reduceToNat, Int.reduceEq, Int.reduceAdd, Int.reduceSub, Int.reduceNeg, Int.reduceBNe, Int.reduceBEq, fldsc, flds, lns]
          refine vCall_of (hI) ?_ ?_ ?_; (focus simp only [go_sem, reduceIte, Nat.reduceEqDiff, reduceCtorEq, lns]); (focus simp only [go_sem, reduceIte, Nat.reduceEqDiff, reduceCtorEq, lns])
          simp only [go_sem, reduceIte, Nat.reduceEqDiff, reduceCtorEq, Nat.reduceLT, Nat.reduceAdd, Nat.reduceSub, Nat.reduceMul, Nat.reduceLeDiff, Int.reduceLT, Int.reduceLE, Int.reduceToNat, Int.reduceEq, Int.reduceAdd, Int.reduceSub, Int.reduceNeg, Int.reduceBNe, Int.reduceBEq, lnc, lns, ec, e0, opv]
          refine vCall_of (hF) ?_ ?_ ?_; (focus simp only [go_sem, reduceIte, Nat.reduceEqDiff, reduceCtorEq, flds, opv]); (focus simp only [go_sem, reduceIte, Nat.reduceEqDiff, reduceCtorEq, flds, opv])
          simp only [go_sem, reduceIte, Nat.reduceEqDiff, reduceCtorEq, Nat.reduceLT, Nat.reduceAdd, Nat.reduceSub, Nat.reduceMul, Nat.reduceLeDiff, Int.reduceLT, Int.reduceLE, Int.reduceToNat, Int.reduceEq, Int.reduceAdd, Int.reduceSub, Int.reduceNeg, Int.reduceBNe, Int.reduceBEq, Bool.not_true, e3, lns, opv]
          refine vCall_of (hO) ?_ ?_ ?_; (focus simp only [go_sem, reduceIte, Nat.reduceEqDiff, reduceCtorEq, lns, opv]); (focus simp only [go_sem, reduceIte, Nat.reduceEqDiff, reduceCtorEq, lns, opv])
          simp only [go_sem, reduceIte, Nat.reduceEqDiff, reduceCtorEq, Nat.reduceLT, Nat.reduceAdd, Nat.reduceSub, Nat.reduceMul, Nat.reduceLeDiff, Int.reduceLT, Int.reduceLE, Int.reduceToNat, Int.reduceEq, Int.reduceAdd, Int.reduceSub, Int.reduceNeg, Int.reduceBNe, Int.reduceBEq, opb, opv, Bool.not_true, Bool.not_false, flds]
          refine vCall_of (hAt) ?_ ?_ ?_; (focus simp only [go_sem, reduceIte, Nat.reduceEqDiff, reduceCtorEq, flds, ref]); (focus simp only [go_sem, reduceIte, Nat.reduceEqDiff, reduceCtorEq, flds, ref])
          simp only [go_sem, reduceIte, Nat.reduceEqDiff, reduceCtorEq, Nat.reduceLT, Nat.reduceAdd, Nat.reduceSub, Nat.reduceMul, Nat.reduceLeDiff, Int.reduceLT, Int.reduceLE, Int.reduceToNat, Int.reduceEq, Int.reduceAdd, Int.reduceSub, Int.reduceNeg, Int.reduceBNe, Int.reduceBEq, n1, lns, opv]
          refine vCall_of (hQ) ?_ ?_ ?_; (focus simp only [go_sem, reduceIte, Nat.reduceEqDiff, reduceCtorEq, lns, opv]); (focus simp only [go_sem, reduceIte, Nat.reduceEqDiff, reduceCtorEq, lns, opv])
          simp only [go_sem, reduceIte, Nat.reduceEqDiff, reduceCtorEq, Nat.reduceLT, Nat.reduceAdd, Nat.reduceSub, Nat.reduceMul, Nat.reduceLeDiff, Int.reduceLT, Int.reduceLE, Int.reduceToNat, Int.reduceEq, Int.reduceAdd, Int.reduceSub, Int.reduceNeg, Int.reduceBNe, Int.reduceBEq, opb, opv, lns]
          refine vCall_of (hK) ?_ ?_ ?_; (focus simp only [go_sem, reduceIte, Nat.reduceEqDiff, reduceCtorEq, lns, ref]); (focus simp only [go_sem, reduceIte, Nat.reduceEqDiff, reduceCtorEq, lns, ref])
          simp only [go_sem, reduceIte, Nat.reduceEqDiff, reduceCtorEq, Nat.reduceLT, Nat.reduceAdd, Nat.reduceSub, Nat.reduceMul, Nat.reduceLeDiff, Int.reduceLT, Int.reduceLE, Int.reduceToNat, Int.reduceEq, Int.reduceAdd, Int.reduceSub, Int.reduceNeg, Int.reduceBNe, Int.reduceBEq, Bool.not_false]
        · refine PL.Pure.of_v Try.func8 (by decide) rfl Try.ntmps8 Try.results8 (by simp) rfl ?_
          simp only [go_sem, reduceIte, Nat.reduceEqDiff, reduceCtorEq, Nat.reduceLT, Nat.reduceAdd, Nat.reduceSub, Nat.reduceMul, Nat.reduceLeDiff, Int.reduceLT, Int.reduceLE, Int.reduceToNat, Int.reduceEq, Int.reduceAdd, Int.reduceSub, Int.reduceNeg, Int.reduceBNe, Int.reduceBEq, flds, lns, opv]
          refine vCall_of (awake21_pure) ?_ ?_ ?_; (focus simp only [go_sem, reduceIte, Nat.reduceEqDiff, reduceCtorEq]); (focus simp only [go_sem, reduceIte, Nat.reduceEqDiff, reduceCtorEq])
          simp only [go_sem, reduceIte, Nat.reduceEqDiff, reduceCtorEq, Nat.reduceLT, Nat.reduceAdd, Nat.reduceSub, Nat.reduceMul, Nat.reduceLeDiff, Int.reduceLT, Int.reduceLE, Int.reduceToNat, Int.reduceEq, Int.reduceAdd, Int.reduceSub, Int.reduceNeg, Int.reduceBNe, Int.reduceBEq]
          refine vCall_of (h1) ?_ ?_ ?_; (focus simp only [go_sem, reduceIte, Nat.reduceEqDiff, reduceCtorEq, flds]); (focus simp only [go_sem, reduceIte, Nat.reduceEqDiff, reduceCtorEq, flds])
          simp only [go_sem, reduceIte, Nat.reduceEqDiff, reduceCtorEq, Nat.reduceLT, Nat.reduceAdd, Nat.reduceSub, Nat.reduceMul, Nat.reduceLeDiff, Int.reduceLT, Int.reduceLE, Int.reduceToNat, Int.reduceEq, Int.reduceAdd, Int.reduceSub, Int.reduceNeg, Int.reduceBNe, Int.reduceBEq]
          refine vCall_of (h2) ?_ ?_ ?_; (focus simp only [go_sem, reduceIte, Nat.reduceEqDiff, reduceCtorEq, lns]); (focus simp only [go_sem, reduceIte, Nat.reduceEqDiff, reduceCtorEq, lns])
          simp only [go_sem, reduceIte, Nat.reduceEqDiff, reduceCtorEq, Nat.reduceLT, Nat.reduceAdd, Nat.reduceSub, Nat.reduceMul, Nat.reduceLeDiff, Int.reduceLT, Int.reduceLE, Int.reduceToNat, Int.reduceEq, Int.reduceAdd, Int.reduceSub, Int.reduceNeg, Int.reduceBNe, Int.reduceBEq]
          refine vCall_of (h3) ?_ ?_ ?_; (focus simp only [go_sem, reduceIte, Nat.reduceEqDiff, reduceCtorEq, opv]); (focus simp only [go_sem, reduceIte, Nat.reduceEqDiff, reduceCtorEq, opv])
          simp only [go_sem, reduceIte, Nat.reduceEqDiff, reduceCtorEq, Nat.reduceLT, Nat.reduceAdd, Nat.reduceSub, Nat.reduceMul, Nat.reduceLeDiff, Int.reduceLT, Int.reduceLE, Int.reduceToNat, Int.reduceEq, Int.reduceAdd, Int.reduceSub, Int.reduceNeg, Int.reduceBNe, Int.reduceBEq, flds, lns]
          refine vCall_of (hA) ?_ ?_ ?_; (focus simp only [go_sem, reduceIte, Nat.reduceEqDiff, reduceCtorEq, flds, lns]); (focus simp only [go_sem, reduceIte, Nat.reduceEqDiff, reduceCtorEq, flds, lns])
          simp only [go_sem, reduceIte, Nat.reduceEqDiff, reduceCtorEq, Nat.reduceLT, Nat.reduceAdd, Nat.reduceSub, Nat.reduceMul, Nat.reduceLeDiff, Int.reduceLT, Int.reduceLE, Int.reduceToNat, Int.reduceEq, Int.reduceAdd, Int.reduceSub, Int.reduceNeg, Int.reduceBNe, Int.reduceBEq, fldsc, flds, lns]
          refine vCall_of (hI) ?_ ?_ ?_; (focus simp only [go_sem, reduceIte, Nat.reduceEqDiff, reduceCtorEq, lns]); (focus simp only [go_sem, reduceIte, Nat.reduceEqDiff, reduceCtorEq, lns])
          simp only [go_sem, reduceIte, Nat.reduceEqDiff, reduceCtorEq, Nat.reduceLT, Nat.reduceAdd, Nat.reduceSub, Nat.reduceMul, Nat.reduceLeDiff, Int.reduceLT, Int.reduceLE, Int.reduceToNat, Int.reduceEq, Int.reduceAdd, Int.reduceSub, Int.reduceNeg, Int.reduceBNe, Int.reduceBEq, lnc, lns, ec, e0, opv]
          refine vCall_of (hF) ?_ ?_ ?_; (focus simp only [go_sem, reduceIte, Nat.reduceEqDiff, reduceCtorEq, flds, opv]); (focus simp only [go_sem, reduceIte, Nat.reduceEqDiff, reduceCtorEq, flds, opv])
          simp only [go_sem, reduceIte, Nat.reduceEqDiff, reduceCtorEq, Nat.reduceLT, Nat.reduceAdd, Nat.reduceSub, Nat.reduceMul, Nat.reduceLeDiff, Int.reduceLT, Int.reduceLE, Int.reduceToNat, Int.reduceEq, Int.reduceAdd, Int.reduceSub, Int.reduceNeg, Int.reduceBNe, Int.reduceBEq, Bool.not_true, e3, e4, lns, opv]
          refine vCall_of (hO) ?_ ?_ ?_; (focus simp only [go_sem, reduceIte, Nat.reduceEqDiff, reduceCtorEq, lns, opv]); (focus simp only [go_sem, reduceIte, Nat.reduceEqDiff, reduceCtorEq, lns, opv])
          simp only [go_sem, reduceIte, Nat.reduceEqDiff, reduceCtorEq, Nat.reduceLT, Nat.reduceAdd, Nat.reduceSub, Nat.reduceMul, Nat.reduceLeDiff, Int.reduceLT, Int.reduceLE, Int.reduceToNat, Int.reduceEq, Int.reduceAdd, Int.reduceSub, Int.reduceNeg, Int.reduceBNe, Int.reduceBEq, opb, opv, Bool.not_true, Bool.not_false, flds]
          refine vCall_of (hAt) ?_ ?_ ?_; (focus simp only [go_sem, reduceIte, Nat.reduceEqDiff, reduceCtorEq, flds, ref]); (focus simp only [go_sem, reduceIte, Nat.reduceEqDiff, reduceCtorEq, flds, ref])
          simp only [go_sem, reduceIte, Nat.reduceEqDiff, reduceCtorEq, Nat.reduceLT, Nat.reduceAdd, Nat.reduceSub, Nat.reduceMul, Nat.reduceLeDiff, Int.reduceLT, Int.reduceLE, Int.reduceToNat, Int.reduceEq, Int.reduceAdd, Int.reduceSub, Int.reduceNeg, Int.reduceBNe, Int.reduceBEq, n1, lns, opv]
          refine vCall_of (hQ) ?_ ?_ ?_; (focus simp only [go_sem, reduceIte, Nat.reduceEqDiff, reduceCtorEq, lns, opv]); (focus simp only [go_sem, reduceIte, Nat.reduceEqDiff, reduceCtorEq, lns, opv])
          simp only [go_sem, reduceIte, Nat.reduceEqDiff, reduceCtorEq, Nat.reduceLT, Nat.reduceAdd, Nat.reduceSub, Nat.reduceMul, Nat.reduceLeDiff, Int.reduceLT, Int.reduceLE, Int.reduceToNat, Int.reduceEq, Int.reduceAdd, Int.reduceSub, Int.reduceNeg, Int.reduceBNe, Int.reduceBEq, opb, opv, lns]
          refine vCall_of (hK) ?_ ?_ ?_; (focus simp only [go_sem, reduceIte, Nat.reduceEqDiff, reduceCtorEq, lns, ref]); (focus simp only [go_sem, reduceIte, Nat.reduceEqDiff, reduceCtorEq, lns, ref])
          simp only [go_sem, reduceIte, Nat.reduceEqDiff, reduceCtorEq, Nat.reduceLT, Nat.reduceAdd, Nat.reduceSub, Nat.reduceMul, Nat.reduceLeDiff, Int.reduceLT, Int.reduceLE, Int.reduceToNat, Int.reduceEq, Int.reduceAdd, Int.reduceSub, Int.reduceNeg, Int.reduceBNe, Int.reduceBEq, Bool.not_false]
      · obtain ⟨i1, i2, i3⟩ := over_ids hov
        obtain ⟨j1, j2, j3⟩ := over_ids hov2
        have q1 : decide (q.id = o.id) = true := by rw [j1, i1]; simp
        have q2 : (q.time == o.time) = true := by rw [j2, i2]; simp
        have q3 : (q.kind == o.kind) = true := by rw [j3, i3]; simp
        rcases plc with e3 | ⟨e3, e4⟩
        · refine PL.Pure.of_v Try.func8 (by decide) rfl Try.ntmps8 Try.results8 (by simp) rfl ?_
          simp only [go_sem, reduceIte, Nat.reduceEqDiff, reduceCtorEq, Nat.reduceLT, Nat.reduceAdd, Nat.reduceSub, Nat.reduceMul, Nat.reduceLeDiff, Int.reduceLT, Int.reduceLE, Int.reduceToNat, Int.reduceEq, Int.reduceAdd, Int.reduceSub, Int.reduceNeg, Int.reduceBNe, Int.reduceBEq, flds, lns, opv]
          refine vCall_of (awake21_pure) ?_ ?_ ?_; (focus simp only [go_sem, reduceIte, Nat.reduceEqDiff, reduceCtorEq]); (focus simp only [go_sem, reduceIte, Nat.reduceEqDiff, reduceCtorEq])
          simp only [go_sem, reduceIte, Nat.reduceEqDiff, reduceCtorEq, Nat.reduceLT, Nat.reduceAdd, Nat.reduceSub, Nat.reduceMul, Nat.reduceLeDiff, Int.reduceLT, Int.reduceLE, Int.reduceToNat, Int.reduceEq, Int.reduceAdd, Int.reduceSub, Int.reduceNeg, Int.reduceBNe, Int.reduceBEq]
          refine vCall_of (h1) ?_ ?_ ?_; (focus simp only [go_sem, reduceIte, Nat.reduceEqDiff, reduceCtorEq, flds]); (focus simp only [go_sem, reduceIte, Nat.reduceEqDiff, reduceCtorEq, flds])
          simp only [go_sem, reduceIte, Nat.reduceEqDiff, reduceCtorEq, Nat.reduceLT, Nat.reduceAdd, Nat.reduceSub, Nat.reduceMul, Nat.reduceLeDiff, Int.reduceLT, Int.reduceLE, Int.reduceToNat, Int.reduceEq, Int.reduceAdd, Int.reduceSub, Int.reduceNeg, Int.reduceBNe, Int.reduceBEq]
          refine vCall_of (h2) ?_ ?_ ?_; (focus simp only [go_sem, reduceIte, Nat.reduceEqDiff, reduceCtorEq, lns]); (focus simp only [go_sem, reduceIte, Nat.reduceEqDiff, reduceCtorEq, lns])
          simp only [go_sem, reduceIte, Nat.reduceEqDiff, reduceCtorEq, Nat.reduceLT, Nat.reduceAdd, Nat.reduceSub, Nat.reduceMul, Nat.reduceLeDiff, Int.reduceLT, Int.reduceLE, Int.reduceToNat, Int.reduceEq, Int.reduceAdd, Int.reduceSub, Int.reduceNeg, Int.reduceBNe, Int.reduceBEq]
          refine vCall_of (h3) ?_ ?_ ?_; (focus simp only [go_sem, reduceIte, Nat.reduceEqDiff, reduceCtorEq, opv]); (focus simp only [go_sem, reduceIte, Nat.reduceEqDiff, reduceCtorEq, opv])
          simp only [go_sem, reduceIte, Nat.reduceEqDiff, reduceCtorEq, Nat.reduceLT, Nat.reduceAdd, Nat.reduceSub, Nat.reduceMul, Nat.reduceLeDiff, Int.reduceLT, Int.reduceLE, Int.reduceToNat, Int.reduceEq, Int.reduceAdd, Int.reduceSub, Int.reduceNeg, Int.reduceBNe, Int.reduceBEq, flds, lns]
          refine vCall_of (hA) ?_ ?_ ?_; (focus simp only [go_sem, reduceIte, Nat.reduceEqDiff, reduceCtorEq, flds, lns]); (focus simp only [go_sem, reduceIte, Nat.reduceEqDiff, reduceCtorEq, flds, lns])
          simp only [go_sem, reduceIte, Nat.reduceEqDiff, reduceCtorEq, Nat.reduceLT, Nat.reduceAdd, Nat.reduceSub, Nat.reduceMul, Nat.reduceLeDiff, Int.reduceLT, Int.reduceLE, Int.reduceToNat, Int.reduceEq, Int.reduceAdd, Int.reduceSub, Int.reduceNeg, Int.reduceBNe, Int.reduceBEq, fldsc, flds, lns]
          refine vCall_of (hI) ?_ ?_ ?_; (focus simp only [go_sem, reduceIte, Nat.reduceEqDiff, reduceCtorEq, lns]); (focus simp only [go_sem, reduceIte, Nat.reduceEqDiff, reduceCtorEq, lns])
          simp only [go_sem, reduceIte, Nat.reduceEqDiff, reduceCtorEq, Nat.reduceLT, Nat.reduceAdd, Nat.reduceSub, Nat.reduceMul, Nat.reduceLeDiff, Int.reduceLT, Int.reduceLE, Int.reduceToNat, Int.reduceEq, Int.reduceAdd, Int.reduceSub, Int.reduceNeg, Int.reduceBNe, Int.reduceBEq, lnc, lns, ec, e0, opv]
          refine vCall_of (hF) ?_ ?_ ?_; (focus simp only [go_sem, reduceIte, Nat.reduceEqDiff, reduceCtorEq, flds, opv]); (focus simp only [go_sem, reduceIte, Nat.reduceEqDiff, reduceCtorEq, flds, opv])
          simp only [go_sem, reduceIte, Nat.reduceEqDiff, reduceCtorEq, Nat.reduceLT, Nat.reduceAdd, Nat.reduceSub, Nat.reduceMul, Nat.reduceLeDiff, Int.reduceLT, Int.reduceLE, Int.reduceToNat, Int.reduceEq, Int.reduceAdd, Int.reduceSub, Int.reduceNeg, Int.reduceBNe, Int.reduceBEq, Bool.not_true, e3, lns, opv]
          refine vCall_of (hO) ?_ ?_ ?_; (focus simp only [go_sem, reduceIte, Nat.reduceEqDiff, reduceCtorEq, lns, opv]); (focus simp only [go_sem, reduceIte, Nat.reduceEqDiff, reduceCtorEq, lns, opv])
          simp only [go_sem, reduceIte, Nat.reduceEqDiff, reduceCtorEq, Nat.reduceLT, Nat.reduceAdd, Nat.reduceSub, Nat.reduceMul, Nat.reduceLeDiff, Int.reduceLT, Int.reduceLE, Int.reduceToNat, Int.reduceEq, Int.reduceAdd, Int.reduceSub, Int.reduceNeg, Int.reduceBNe, Int.reduceBEq, opb, opv, Bool.not_true, Bool.not_false, flds]
          refine vCall_of (hAt) ?_ ?_ ?_; (focus simp only [go_sem, reduceIte, Nat.reduceEqDiff, reduceCtorEq, flds, ref]); (focus simp only [go_sem, reduceIte, Nat.reduceEqDiff, reduceCtorEq, flds, ref])
          simp only [go_sem, reduceIte, Nat.reduceEqDiff, reduceCtorEq, Nat.reduceLT, Nat.reduceAdd, Nat.reduceSub, Nat.reduceMul, Nat.reduceLeDiff, Int.reduceLT, Int.reduceLE, Int.reduceToNat, Int.reduceEq, Int.reduceAdd, Int.reduceSub, Int.reduceNeg, Int.reduceBNe, Int.reduceBEq, n1, lns, opv]
          refine vCall_of (hQ) ?_ ?_ ?_; (focus simp only [go_sem, reduceIte, Nat.reduceEqDiff, reduceCtorEq, lns, opv]); (focus simp only [go_sem, reduceIte, Nat.reduceEqDiff, reduceCtorEq, lns, opv])
          simp only [go_sem, reduceIte, Nat.reduceEqDiff, reduceCtorEq, Nat.reduceLT, Nat.reduceAdd, Nat.reduceSub, Nat.reduceMul, Nat.reduceLeDiff, Int.reduceLT, Int.reduceLE, Int.reduceToNat, Int.reduceEq, Int.reduceAdd, Int.reduceSub, Int.reduceNeg, Int.reduceBNe, Int.reduceBEq, opb, opv, lns]
          refine vCall_of (hK) ?_ ?_ ?_; (focus simp only [go_sem, reduceIte, Nat.reduceEqDiff, reduceCtorEq, lns, ref]); (focus simp only [go_sem, reduceIte, Nat.reduceEqDiff, reduceCtorEq, lns, ref])
          simp only [go_sem, reduceIte, Nat.reduceEqDiff, reduceCtorEq, Nat.reduceLT, Nat.reduceAdd, Nat.reduceSub, Nat.reduceMul, Nat.reduceLeDiff, Int.reduceLT, Int.reduceLE, Int.reduceToNat, Int.reduceEq, Int.reduceAdd, Int.reduceSub, Int.reduceNeg, Int.reduceBNe, Int.reduceBEq, Bool.not_true, tg_fold, q1, q2, q3]
        · refine PL.Pure.of_v Try.func8 (by decide) rfl Try.ntmps8 Try.results8 (by simp) rfl ?_
          simp only [go_sem, reduceIte, Nat.reduceEqDiff, reduceCtorEq, Nat.reduceLT, Nat.reduceAdd, Nat.reduceSub, Nat.reduceMul, Nat.reduceLeDiff, Int.reduceLT, Int.reduceLE, Int.reduceToNat, Int.reduceEq, Int.reduceAdd, Int.reduceSub, Int.reduceNeg, Int.reduceBNe, Int.reduceBEq, flds, lns, opv]
          refine vCall_of (awake21_pure) ?_ ?_ ?_; (focus simp only [go_sem, reduceIte, Nat.reduceEqDiff, reduceCtorEq]); (focus simp only [go_sem, reduceIte, Nat.reduceEqDiff, reduceCtorEq])
          simp only [go_sem, reduceIte, Nat.reduceEqDiff, reduceCtorEq, Nat.reduceLT, Nat.reduceAdd, Nat.reduceSub, Nat.reduceMul, Nat.reduceLeDiff, Int.reduceLT, Int.reduceLE, Int.reduceToNat, Int.reduceEq, Int.reduceAdd, Int.reduceSub, Int.reduceNeg, Int.reduceBNe, Int.reduceBEq]
          refine vCall_of (h1) ?_ ?_ ?_; (focus simp only [go_sem, reduceIte, Nat.reduceEqDiff, reduceCtorEq, flds]); (focus simp only [go_sem, reduceIte, Nat.reduceEqDiff, reduceCtorEq, flds])
          simp only [go_sem, reduceIte, Nat.reduceEqDiff, reduceCtorEq, Nat.reduceLT, Nat.reduceAdd, Nat.reduceSub, Nat.reduceMul, Nat.reduceLeDiff, Int.reduceLT, Int.reduceLE, Int.reduceToNat, Int.reduceEq, Int.reduceAdd, Int.reduceSub, Int.reduceNeg, Int.reduceBNe, Int.reduceBEq]
          refine vCall_of (h2) ?_ ?_ ?_; (focus simp only [go_sem, reduceIte, Nat.reduceEqDiff, reduceCtorEq, lns]); (focus simp only [go_sem, reduceIte, Nat.reduceEqDiff, reduceCtorEq, lns])
          simp only [go_sem, reduceIte, Nat.reduceEqDiff, reduceCtorEq, Nat.reduceLT, Nat.reduceAdd, Nat.reduceSub, Nat.reduceMul, Nat.reduceLeDiff, Int.reduceLT, Int.reduceLE, Int.reduceToNat, Int.reduceEq, Int.reduceAdd, Int.reduceSub, Int.reduceNeg, Int.reduceBNe, Int.reduceBEq]
          refine vCall_of (h3) ?_ ?_ ?_; (focus simp only [go_sem, reduceIte, Nat.reduceEqDiff, reduceCtorEq, opv]); (focus simp only [go_sem, reduceIte, Nat.reduceEqDiff, reduceCtorEq, opv])
          simp only [go_sem, reduceIte, Nat.reduceEqDiff, reduceCtorEq, Nat.reduceLT, Nat.reduceAdd, Nat.reduceSub, Nat.reduceMul, Nat.reduceLeDiff, Int.reduceLT, Int.reduceLE, Int.reduceToNat, Int.reduceEq, Int.reduceAdd, Int.reduceSub, Int.reduceNeg, Int.reduceBNe, Int.reduceBEq, flds, lns]
          refine vCall_of (hA) ?_ ?_ ?_; (focus simp only [go_sem, reduceIte, Nat.reduceEqDiff, reduceCtorEq, flds, lns]); (focus simp only [go_sem, reduceIte, Nat.reduceEqDiff, reduceCtorEq, flds, lns])
          simp only [go_sem, reduceIte, Nat.reduceEqDiff, reduceCtorEq, Nat.reduceLT, Nat.reduceAdd, Nat.reduceSub, Nat.reduceMul, Nat.reduceLeDiff, Int.reduceLT, Int.reduceLE, Int.reduceToNat, Int.reduceEq, Int.reduceAdd, Int.reduceSub, Int.reduceNeg, Int.reduceBNe, Int.reduceBEq, fldsc, flds, lns]
          refine vCall_of (hI) ?_ ?_ ?_; (focus simp only [go_sem, reduceIte, Nat.reduceEqDiff, reduceCtorEq, lns]); (focus simp only [go_sem, reduceIte, Nat.reduceEqDiff, reduceCtorEq, lns])
          simp only [go_sem, reduceIte, Nat.reduceEqDiff, reduceCtorEq, Nat.reduceLT, Nat.reduceAdd, Nat.reduceSub, Nat.reduceMul, Nat.reduceLeDiff, Int.reduceLT, Int.reduceLE, Int.reduceToNat, Int.reduceEq, Int.reduceAdd, Int.reduceSub, Int.reduceNeg, Int.reduceBNe, Int.reduceBEq, lnc, lns, ec, e0, opv]
          refine vCall_of (hF) ?_ ?_ ?_; (focus simp only [go_sem, reduceIte, Nat.reduceEqDiff, reduceCtorEq, flds, opv]); (focus simp only [go_sem, reduceIte, Nat.reduceEqDiff, reduceCtorEq, flds, opv])
          simp only [go_sem, reduceIte, Nat.reduceEqDiff, reduceCtorEq, Nat.reduceLT, Nat.reduceAdd, Nat.reduceSub, Nat.reduceMul, Nat.reduceLeDiff, Int.reduceLT, Int.reduceLE, Int.reduceToNat, Int.reduceEq, Int.reduceAdd, Int.reduceSub, Int.reduceNeg, Int.reduceBNe, Int.reduceBEq, Bool.not_true, e3, e4, lns, opv]
          refine vCall_of (hO) ?_ ?_ ?_; (focus simp only [go_sem, reduceIte, Nat.reduceEqDiff, reduceCtorEq, lns, opv]); (focus simp only [go_sem, reduceIte, Nat.reduceEqDiff, reduceCtorEq, lns, opv])
          simp only [go_sem, reduceIte, Nat.reduceEqDiff, reduceCtorEq, Nat.reduceLT, Nat.reduceAdd, Nat.reduceSub, Nat.reduceMul, Nat.reduceLeDiff, Int.reduceLT, Int.reduceLE, Int.reduceToNat, Int.reduceEq, Int.reduceAdd, Int.reduceSub, Int.reduceNeg, Int.reduceBNe, Int.reduceBEq, opb, opv, Bool.not_true, Bool.not_false, flds]
          refine vCall_of (hAt) ?_ ?_ ?_; (focus simp only [go_sem, reduceIte, Nat.reduceEqDiff, reduceCtorEq, flds, ref]); (focus simp only [go_sem, reduceIte, Nat.reduceEqDiff, reduceCtorEq, flds, ref])
          simp only [go_sem, reduceIte, Nat.reduceEqDiff, reduceCtorEq, Nat.reduceLT, Nat.reduceAdd, Nat.reduceSub, Nat.reduceMul, Nat.reduceLeDiff, Int.reduceLT, Int.reduceLE, Int.reduceToNat, Int.reduceEq, Int.reduceAdd, Int.reduceSub, Int.reduceNeg, Int.reduceBNe, Int.reduceBEq, n1, lns, opv]
          refine vCall_of (hQ) ?_ ?_ ?_; (focus simp only [go_sem, reduceIte, Nat.reduceEqDiff, reduceCtorEq, lns, opv]); (focus simp only [go_sem, reduceIte, Nat.reduceEqDiff, reduceCtorEq, lns, opv])
          simp only [go_sem, reduceIte, Nat.reduceEqDiff, reduceCtorEq, Nat.reduceLT, Nat.reduceAdd, Nat.reduceSub, Nat.reduceMul, Nat.reduceLeDiff, Int.reduceLT, Int.reduceLE, Int.reduceToNat, Int.reduceEq, Int.reduceAdd, Int.reduceSub, Int.reduceNeg, Int.reduceBNe, Int.reduceBEq, opb, opv, lns]
          refine vCall_of (hK) ?_ ?_ ?_; (focus simp only [go_sem, reduceIte, Nat.reduceEqDiff, reduceCtorEq, lns, ref]); (focus simp only [go_sem, reduceIte, Nat.reduceEqDiff, reduceCtorEq, lns, ref])
          simp only [go_sem, reduceIte, Nat.reduceEqDiff, reduceCtorEq, Nat.reduceLT, Nat.reduceAdd, Nat.reduceSub, Nat.reduceMul, Nat.reduceLeDiff, Int.reduceLT, Int.reduceLE, Int.reduceToNat, Int.reduceEq, Int.reduceAdd, Int.reduceSub, Int.reduceNeg, Int.reduceBNe, Int.reduceBEq, Bool.not_true, tg_fold, q1, q2, q3]
    · rw [hk] at hK
      rw [hback hk] at hQ
      have hS := ROSame_pure o o ho ho
      rw [decide_eq_true rfl] at hS
      rcases plc with e3 | ⟨e3, e4⟩
      · refine PL.Pure.of_v Try.func8 (by decide) rfl Try.ntmps8 Try.results8 (by simp) rfl ?_
        simp only [go_sem, reduceIte, Nat.reduceEqDiff, reduceCtorEq, Nat.reduceLT, Nat.reduceAdd, Nat.reduceSub, Nat.reduceMul, Nat.reduceLeDiff, Int.reduceLT, Int.reduceLE, Int.reduceToNat, Int.reduceEq, Int.reduceAdd, Int.reduceSub, Int.reduceNeg, Int.reduceBNe, Int.reduceBEq, flds, lns, opv]
        refine vCall_of (awake21_pure) ?_ ?_ ?_; (focus simp only [go_sem, reduceIte, Nat.reduceEqDiff, reduceCtorEq]); (focus simp only [go_sem, reduceIte, Nat.reduceEqDiff, reduceCtorEq])
        simp only [go_sem, reduceIte, Nat.reduceEqDiff, reduceCtorEq, Nat.reduceLT, Nat.reduceAdd, Nat.reduceSub, Nat.reduceMul, Nat.reduceLeDiff, Int.reduceLT, Int.reduceLE, Int.reduceToNat, Int.reduceEq, Int.reduceAdd, Int.reduceSub, Int.reduceNeg, Int.reduceBNe, Int.reduceBEq]
        refine vCall_of (h1) ?_ ?_ ?_; (focus simp only [go_sem, reduceIte, Nat.reduceEqDiff, reduceCtorEq, flds]); (focus simp only [go_sem, reduceIte, Nat.reduceEqDiff, reduceCtorEq, flds])
        simp only [go_sem, reduceIte, Nat.reduceEqDiff, reduceCtorEq, Nat.reduceLT, Nat.reduceAdd, Nat.reduceSub, Nat.reduceMul, Nat.reduceLeDiff, Int.reduceLT, Int.reduceLE, Int.reduceToNat, Int.reduceEq, Int.reduceAdd, Int.reduceSub, Int.reduceNeg, Int.reduceBNe, Int.reduceBEq]
        refine vCall_of (h2) ?_ ?_ ?_; (focus simp only [go_sem, reduceIte, Nat.reduceEqDiff, reduceCtorEq, lns]); (focus simp only [go_sem, reduceIte, Nat.reduceEqDiff, reduceCtorEq, lns])
        simp only [go_sem, reduceIte, Nat.reduceEqDiff, reduceCtorEq, Nat.reduceLT, Nat.reduceAdd, Nat.reduceSub, Nat.reduceMul, Nat.reduceLeDiff, Int.reduceLT, Int.reduceLE, Int.reduceToNat, Int.reduceEq, Int.reduceAdd, Int.reduceSub, Int.reduceNeg, Int.reduceBNe, Int.reduceBEq]
        refine vCall_of (h3) ?_ ?_ ?_; (focus simp only [go_sem, reduceIte, Nat.reduceEqDiff, reduceCtorEq, opv]); (focus simp only [go_sem, reduceIte, Nat.reduceEqDiff, reduceCtorEq, opv])
        simp only [go_sem, reduceIte, Nat.reduceEqDiff, reduceCtorEq, Nat.reduceLT, Nat.reduceAdd, Nat.reduceSub, Nat.reduceMul, Nat.reduceLeDiff, Int.reduceLT, Int.reduceLE, Int.reduceToNat, Int.reduceEq, Int.reduceAdd, Int.reduceSub, Int.reduceNeg, Int.reduceBNe, Int.reduceBEq, flds, lns]
        refine vCall_of (hA) ?_ ?_ ?_; (focus simp only [go_sem, reduceIte, Nat.reduceEqDiff, reduceCtorEq, flds, lns]); (focus simp only [go_sem, reduceIte, Nat.reduceEqDiff, reduceCtorEq, flds, lns])
        simp only [go_sem, reduceIte, Nat.reduceEqDiff, reduceCtorEq, Nat.reduceLT, Nat.reduceAdd, Nat.reduceSub, Nat.reduceMul, Nat.reduceLeDiff, Int.reduceLT, Int.reduceLE, Int.reduceToNat, Int.reduceEq, Int.reduceAdd, Int.reduceSub, Int.reduceNeg, Int.reduceBNe, Int.reduceBEq, fldsc, flds, lns]
        refine vCall_of (hI) ?_ ?_ ?_; (focus simp only [go_sem, reduceIte, Nat.reduceEqDiff, reduceCtorEq, lns]); (focus simp only [go_sem, reduceIte, Nat.reduceEqDiff, reduceCtorEq, lns])
        simp only [go_sem, reduceIte, Nat.reduceEqDiff, reduceCtorEq, Nat.reduceLT, Nat.reduceAdd, Nat.reduceSub, Nat.reduceMul, Nat.reduceLeDiff, Int.reduceLT, Int.reduceLE, Int.reduceToNat, Int.reduceEq, Int.reduceAdd, Int.reduceSub, Int.reduceNeg, Int.reduceBNe, Int.reduceBEq, lnc, lns, ec, e0, opv]
        refine vCall_of (hF) ?_ ?_ ?_; (focus simp only [go_sem, reduceIte, Nat.reduceEqDiff, reduceCtorEq, flds, opv]); (focus simp only [go_sem, reduceIte, Nat.reduceEqDiff, reduceCtorEq, flds, opv])
        simp only [go_sem, reduceIte, Nat.reduceEqDiff, reduceCtorEq, Nat.reduceLT, Nat.reduceAdd, Nat.reduceSub, Nat.reduceMul, Nat.reduceLeDiff, Int.reduceLT, Int.reduceLE, Int.reduceToNat, Int.reduceEq, Int.reduceAdd, Int.reduceSub, Int.reduceNeg, Int.reduceBNe, Int.reduceBEq, Bool.not_true, e3, lns, opv]
        refine vCall_of (hO) ?_ ?_ ?_; (focus simp only [go_sem, reduceIte, Nat.reduceEqDiff, reduceCtorEq, lns, opv]); (focus simp only [go_sem, reduceIte, Nat.reduceEqDiff, reduceCtorEq, lns, opv])
        simp only [go_sem, reduceIte, Nat.reduceEqDiff, reduceCtorEq, Nat.reduceLT, Nat.reduceAdd, Nat.reduceSub, Nat.reduceMul, Nat.reduceLeDiff, Int.reduceLT, Int.reduceLE, Int.reduceToNat, Int.reduceEq, Int.reduceAdd, Int.reduceSub, Int.reduceNeg, Int.reduceBNe, Int.reduceBEq, opb, opv, Bool.not_true, Bool.not_false, flds]
        refine vCall_of (hAt) ?_ ?_ ?_; (focus simp only [go_sem, reduceIte, Nat.reduceEqDiff, reduceCtorEq, flds, ref]); (focus simp only [go_sem, reduceIte, Nat.reduceEqDiff, reduceCtorEq, flds, ref])
        simp only [go_sem, reduceIte, Nat.reduceEqDiff, reduceCtorEq, Nat.reduceLT, Nat.reduceAdd, Nat.reduceSub, Nat.reduceMul, Nat.reduceLeDiff, Int.reduceLT, Int.reduceLE, Int.reduceToNat, Int.reduceEq, Int.reduceAdd, Int.reduceSub, Int.reduceNeg, Int.reduceBNe, Int.reduceBEq, n1, lns, opv]
        refine vCall_of (hQ) ?_ ?_ ?_; (focus simp only [go_sem, reduceIte, Nat.reduceEqDiff, reduceCtorEq, lns, opv]); (focus simp only [go_sem, reduceIte, Nat.reduceEqDiff, reduceCtorEq, lns, opv])
        simp only [go_sem, reduceIte, Nat.reduceEqDiff, reduceCtorEq, Nat.reduceLT, Nat.reduceAdd, Nat.reduceSub, Nat.reduceMul, Nat.reduceLeDiff, Int.reduceLT, Int.reduceLE, Int.reduceToNat, Int.reduceEq, Int.reduceAdd, Int.reduceSub, Int.reduceNeg, Int.reduceBNe, Int.reduceBEq, opb, opv, lns]
        refine vCall_of (hK) ?_ ?_ ?_; (focus simp only [go_sem, reduceIte, Nat.reduceEqDiff, reduceCtorEq, lns, ref]); (focus simp only [go_sem, reduceIte, Nat.reduceEqDiff, reduceCtorEq, lns, ref])
        simp only [go_sem, reduceIte, Nat.reduceEqDiff, reduceCtorEq, Nat.reduceLT, Nat.reduceAdd, Nat.reduceSub, Nat.reduceMul, Nat.reduceLeDiff, Int.reduceLT, Int.reduceLE, Int.reduceToNat, Int.reduceEq, Int.reduceAdd, Int.reduceSub, Int.reduceNeg, Int.reduceBNe, Int.reduceBEq, opv]
        refine vCall_of (hS) ?_ ?_ ?_; (focus simp only [go_sem, reduceIte, Nat.reduceEqDiff, reduceCtorEq, opv]); (focus simp only [go_sem, reduceIte, Nat.reduceEqDiff, reduceCtorEq, opv])
        simp only [go_sem, reduceIte, Nat.reduceEqDiff, reduceCtorEq, Nat.reduceLT, Nat.reduceAdd, Nat.reduceSub, Nat.reduceMul, Nat.reduceLeDiff, Int.reduceLT, Int.reduceLE, Int.reduceToNat, Int.reduceEq, Int.reduceAdd, Int.reduceSub, Int.reduceNeg, Int.reduceBNe, Int.reduceBEq]
      · refine PL.Pure.of_v Try.func8 (by decide) rfl Try.ntmps8 Try.results8 (by simp) rfl ?_
        simp only [go_sem, reduceIte, Nat.reduceEqDiff, reduceCtorEq, Nat.reduceLT, Nat.reduceAdd, Nat.reduceSub, Nat.reduceMul, Nat.reduceLeDiff, Int.reduceLT, Int.reduceLE, Int.reduceToNat, Int.reduceEq, Int.reduceAdd, Int.reduceSub, Int.reduceNeg, Int.reduceBNe, Int.reduceBEq, flds, lns, opv]
        refine vCall_of (awake21_pure) ?_ ?_ ?_; (focus simp only [go_sem, reduceIte, Nat.reduceEqDiff, reduceCtorEq]); (focus simp only [go_sem, reduceIte, Nat.reduceEqDiff, reduceCtorEq])
        simp only [go_sem, reduceIte, Nat.reduceEqDiff, reduceCtorEq, Nat.reduceLT, Nat.reduceAdd, Nat.reduceSub, Nat.reduceMul, Nat.reduceLeDiff, Int.reduceLT, Int.reduceLE, Int.reduceToNat, Int.reduceEq, Int.reduceAdd, Int.reduceSub, Int.reduceNeg, Int.reduceBNe, Int.reduceBEq]
        refine vCall_of (h1) ?_ ?_ ?_; (focus simp only [go_sem, reduceIte, Nat.reduceEqDiff, reduceCtorEq, flds]); (focus simp only [go_sem, reduceIte, Nat.reduceEqDiff, reduceCtorEq, flds])
        simp only [go_sem, reduceIte, Nat.reduceEqDiff, reduceCtorEq, Nat.reduceLT, Nat.reduceAdd, Nat.reduceSub, Nat.reduceMul, Nat.reduceLeDiff, Int.reduceLT, Int.reduceLE, Int.reduceToNat, Int.reduceEq, Int.reduceAdd, Int.reduceSub, Int.reduceNeg, Int.reduceBNe, Int.reduceBEq]
        refine vCall_of (h2) ?_ ?_ ?_; (focus simp only [go_sem, reduceIte, Nat.reduceEqDiff, reduceCtorEq, lns]); (focus simp only [go_sem, reduceIte, Nat.reduceEqDiff, reduceCtorEq, lns])
        simp only [go_sem, reduceIte, Nat.reduceEqDiff, reduceCtorEq, Nat.reduceLT, Nat.reduceAdd, Nat.reduceSub, Nat.reduceMul, Nat.reduceLeDiff, Int.reduceLT, Int.reduceLE, Int.reduceToNat, Int.reduceEq, Int.reduceAdd, Int.reduceSub, Int.reduceNeg, Int.reduceBNe, Int.reduceBEq]
        refine vCall_of (h3) ?_ ?_ ?_; (focus simp only [go_sem, reduceIte, Nat.reduceEqDiff, reduceCtorEq, opv]); (focus simp only [go_sem, reduceIte, Nat.reduceEqDiff, reduceCtorEq, opv])
        simp only [go_sem, reduceIte, Nat.reduceEqDiff, reduceCtorEq, Nat.reduceLT, Nat.reduceAdd, Nat.reduceSub, Nat.reduceMul, Nat.reduceLeDiff, Int.reduceLT, Int.reduceLE, Int.reduceToNat, Int.reduceEq, Int.reduceAdd, Int.reduceSub, Int.reduceNeg, Int.reduceBNe, Int.reduceBEq, flds, lns]
        refine vCall_of (hA) ?_ ?_ ?_; (focus simp only [go_sem, reduceIte, Nat.reduceEqDiff, reduceCtorEq, flds, lns]); (focus simp only [go_sem, reduceIte, Nat.reduceEqDiff, reduceCtorEq, flds, lns])
        simp only [go_sem, reduceIte, Nat.reduceEqDiff, reduceCtorEq, Nat.reduceLT, Nat.reduceAdd, Nat.reduceSub, Nat.reduceMul, Nat.reduceLeDiff, Int.reduceLT, Int.reduceLE, Int.reduceToNat, Int.reduceEq, Int.reduceAdd, Int.reduceSub, Int.reduceNeg, Int.reduceBNe, Int.reduceBEq, fldsc, flds, lns]
        refine vCall_of (hI) ?_ ?_ ?_; (focus simp only [go_sem, reduceIte, Nat.reduceEqDiff, reduceCtorEq, lns]); (focus simp only [go_sem, reduceIte, Nat.reduceEqDiff, reduceCtorEq, lns])
        simp only [go_sem, reduceIte, Nat.reduceEqDiff, reduceCtorEq, Nat.reduceLT, Nat.reduceAdd, Nat.reduceSub, Nat.reduceMul, Nat.reduceLeDiff, Int.reduceLT, Int.reduceLE, Int.reduceToNat, Int.reduceEq, Int.reduceAdd, Int.reduceSub, Int.reduceNeg, Int.reduceBNe, Int.reduceBEq, lnc, lns, ec, e0, opv]
        refine vCall_of (hF) ?_ ?_ ?_; (focus simp only [go_sem, reduceIte, Nat.reduceEqDiff, reduceCtorEq, flds, opv]); (focus simp only [go_sem, reduceIte, Nat.reduceEqDiff, reduceCtorEq, flds, opv])
        simp only [go_sem, reduceIte, Nat.reduceEqDiff, reduceCtorEq, Nat.reduceLT, Nat.reduceAdd, Nat.reduceSub, Nat.reduceMul, Nat.reduceLeDiff, Int.reduceLT, Int.reduceLE, Int.reduceToNat, Int.reduceEq, Int.reduceAdd, Int.reduceSub, Int.reduceNeg, Int.reduceBNe, Int.reduceBEq, Bool.not_true, e3, e4, lns, opv]
        refine vCall_of (hO) ?_ ?_ ?_; (focus simp only [go_sem, reduceIte, Nat.reduceEqDiff, reduceCtorEq, lns, opv]); (focus simp only [go_sem, reduceIte, Nat.reduceEqDiff, reduceCtorEq, lns, opv])
        simp only [go_sem, reduceIte, Nat.reduceEqDiff, reduceCtorEq, Nat.reduceLT, Nat.reduceAdd, Nat.reduceSub, Nat.reduceMul, Nat.reduceLeDiff, Int.reduceLT, Int.reduceLE, Int.reduceToNat, Int.reduceEq, Int.reduceAdd, Int.reduceSub, Int.reduceNeg, Int.reduceBNe, Int.reduceBEq, opb, opv, Bool.not_true, Bool.not_false, flds]
        refine vCall_of (hAt) ?_ ?_ ?_; (focus simp only [go_sem, reduceIte, Nat.reduceEqDiff, reduceCtorEq, flds, ref]); (focus simp only [go_sem, reduceIte, Nat.reduceEqDiff, reduceCtorEq, flds, ref])
        simp only [go_sem, reduceIte, Nat.reduceEqDiff, reduceCtorEq, Nat.reduceLT, Nat.reduceAdd, Nat.reduceSub, Nat.reduceMul, Nat.reduceLeDiff, Int.reduceLT, Int.reduceLE, Int.reduceToNat, Int.reduceEq, Int.reduceAdd, Int.reduceSub, Int.reduceNeg, Int.reduceBNe, Int.reduceBEq, n1, lns, opv]
        refine vCall_of (hQ) ?_ ?_ ?_; (focus simp only [go_sem, reduceIte, Nat.reduceEqDiff, reduceCtorEq, lns, opv]); (focus simp only [go_sem, reduceIte, Nat.reduceEqDiff, reduceCtorEq, lns, opv])
        simp only [go_sem, reduceIte, Nat.reduceEqDiff, reduceCtorEq, Nat.reduceLT, Nat.reduceAdd, Nat.reduceSub, Nat.reduceMul, Nat.reduceLeDiff, Int.reduceLT, Int.reduceLE, Int.reduceToNat, Int.reduceEq, Int.reduceAdd, Int.reduceSub, Int.reduceNeg, Int.reduceBNe, Int.reduceBEq, opb, opv, lns]
        refine vCall_of (hK) ?_ ?_ ?_; (focus simp only [go_sem, reduceIte, Nat.reduceEqDiff, reduceCtorEq, lns, ref]); (focus simp only [go_sem, reduceIte, Nat.reduceEqDiff, reduceCtorEq, lns, ref])
        simp only [go_sem, reduceIte, Nat.reduceEqDiff, reduceCtorEq, Nat.reduceLT, Nat.reduceAdd, Nat.reduceSub, Nat.reduceMul, Nat.reduceLeDiff, Int.reduceLT, Int.reduceLE, Int.reduceToNat, Int.reduceEq, Int.reduceAdd, Int.reduceSub, Int.reduceNeg, Int.reduceBNe, Int.reduceBEq, opv]
        refine vCall_of (hS) ?_ ?_ ?_; (focus simp only [go_sem, reduceIte, Nat.reduceEqDiff, reduceCtorEq, opv]); (focus simp only [go_sem, reduceIte, Nat.reduceEqDiff, reduceCtorEq, opv])
        simp only [go_sem, reduceIte, Nat.reduceEqDiff, reduceCtorEq, Nat.reduceLT, Nat.reduceAdd, Nat.reduceSub, Nat.reduceMul, Nat.reduceLeDiff, Int.reduceLT, Int.reduceLE, Int.reduceToNat, Int.reduceEq, Int.reduceAdd, Int.reduceSub, Int.reduceNeg, Int.reduceBNe, Int.reduceBEq]
  · rw [hov] at hO
    rw [hk] at hK
    rcases plc with e3 | ⟨e3, e4⟩
    · refine PL.Pure.of_v Try.func8 (by decide) rfl Try.ntmps8 Try.results8 (by simp) rfl ?_
      simp only [go_sem, reduceIte, Nat.reduceEqDiff, reduceCtorEq, Nat.reduceLT, Nat.reduceAdd, Nat.reduceSub, Nat.reduceMul, Nat.reduceLeDiff, Int.reduceLT, Int.reduceLE, Int.reduceToNat, Int.reduceEq, Int.reduceAdd, Int.reduceSub, Int.reduceNeg, Int.reduceBNe, Int.reduceBEq, flds, lns, opv]
      refine vCall_of (awake21_pure) ?_ ?_ ?_; (focus simp only [go_sem, reduceIte, Nat.reduceEqDiff, reduceCtorEq]); (focus simp only [go_sem, reduceIte, Nat.reduceEqDiff, reduceCtorEq])
      simp only [go_sem, reduceIte, Nat.reduceEqDiff, reduceCtorEq, Nat.reduceLT, Nat.reduceAdd, Nat.reduceSub, Nat.reduceMul, Nat.reduceLeDiff, Int.reduceLT, Int.reduceLE, Int.reduceToNat, Int.reduceEq, Int.reduceAdd, Int.reduceSub, Int.reduceNeg, Int.reduceBNe, Int.reduceBEq]
      refine vCall_of (h1) ?_ ?_ ?_; (focus simp only [go_sem, reduceIte, Nat.reduceEqDiff, reduceCtorEq, flds]); (focus simp only [go_sem, reduceIte, Nat.reduceEqDiff, reduceCtorEq, flds])
      simp only [go_sem, reduceIte, Nat.reduceEqDiff, reduceCtorEq, Nat.reduceLT, Nat.reduceAdd, Nat.reduceSub, Nat.reduceMul, Nat.reduceLeDiff, Int.reduceLT, Int.reduceLE, Int.reduceToNat, Int.reduceEq, Int.reduceAdd, Int.reduceSub, Int.reduceNeg, Int.reduceBNe, Int.reduceBEq]
      refine vCall_of (h2) ?_ ?_ ?_; (focus simp only [go_sem, reduceIte, Nat.reduceEqDiff, reduceCtorEq, lns]); (focus simp only [go_sem, reduceIte, Nat.reduceEqDiff, reduceCtorEq, lns])
      simp only [go_sem, reduceIte, Nat.reduceEqDiff, reduceCtorEq, Nat.reduceLT, Nat.reduceAdd, Nat.reduceSub, Nat.reduceMul, Nat.reduceLeDiff, Int.reduceLT, Int.reduceLE, Int.reduceToNat, Int.reduceEq, Int.reduceAdd, Int.reduceSub, Int.reduceNeg, Int.reduceBNe, Int.reduceBEq]
      refine vCall_of (h3) ?_ ?_ ?_; (focus simp only [go_sem, reduceIte, Nat.reduceEqDiff, reduceCtorEq, opv]); (focus simp only [go_sem, reduceIte, Nat.reduceEqDiff, reduceCtorEq, opv])
      simp only [go_sem, reduceIte, Nat.reduceEqDiff, reduceCtorEq, Nat.reduceLT, Nat.reduceAdd, Nat.reduceSub, Nat.reduceMul, Nat.reduceLeDiff, Int.reduceLT, Int.reduceLE, Int.reduceToNat, Int.reduceEq, Int.reduceAdd, Int.reduceSub, Int.reduceNeg, Int.reduceBNe, Int.reduceBEq, flds, lns]
      refine vCall_of (hA) ?_ ?_ ?_; (focus simp only [go_sem, reduceIte, Nat.reduceEqDiff, reduceCtorEq, flds, lns]); (focus simp only [go_sem, reduceIte, Nat.reduceEqDiff, reduceCtorEq, flds, lns])
      simp only [go_sem, reduceIte, Nat.reduceEqDiff, reduceCtorEq, Nat.reduceLT, Nat.reduceAdd, Nat.reduceSub, Nat.reduceMul, Nat.reduceLeDiff, Int.reduceLT, Int.reduceLE, Int.reduceToNat, Int.reduceEq, Int.reduceAdd, Int.reduceSub, Int.reduceNeg, Int.reduceBNe, Int.reduceBEq, fldsc, flds, lns]
      refine vCall_of (hI) ?_ ?_ ?_; (focus simp only [go_sem, reduceIte, Nat.reduceEqDiff, reduceCtorEq, lns]); (focus simp only [go_sem, reduceIte, Nat.reduceEqDiff, reduceCtorEq, lns])
      simp only [go_sem, reduceIte, Nat.reduceEqDiff, reduceCtorEq, Nat.reduceLT, Nat.reduceAdd, Nat.reduceSub, Nat.reduceMul, Nat.reduceLeDiff, Int.reduceLT, Int.reduceLE, Int.reduceToNat, Int.reduceEq, Int.reduceAdd, Int.reduceSub, Int.reduceNeg, Int.reduceBNe, Int.reduceBEq, lnc, lns, ec, e0, opv]
      refine vCall_of (hF) ?_ ?_ ?_; (focus simp only [go_sem, reduceIte, Nat.reduceEqDiff, reduceCtorEq, flds, opv]); (focus simp only [go_sem, reduceIte, Nat.reduceEqDiff, reduceCtorEq, flds, opv])
      simp only [go_sem, reduceIte, Nat.reduceEqDiff, reduceCtorEq, Nat.reduceLT, Nat.reduceAdd, Nat.reduceSub, Nat.reduceMul, Nat.reduceLeDiff, Int.reduceLT, Int.reduceLE, Int.reduceToNat, Int.reduceEq, Int.reduceAdd, Int.reduceSub, Int.reduceNeg, Int.reduceBNe, Int.reduceBEq, Bool.not_true, e3, lns, opv]
      refine vCall_of (hO) ?_ ?_ ?_; (focus simp only [go_sem, reduceIte, Nat.reduceEqDiff, reduceCtorEq, lns, opv]); (focus simp only [go_sem, reduceIte, Nat.reduceEqDiff, reduceCtorEq, lns, opv])
      simp only [go_sem, reduceIte, Nat.reduceEqDiff, reduceCtorEq, Nat.reduceLT, Nat.reduceAdd, Nat.reduceSub, Nat.reduceMul, Nat.reduceLeDiff, Int.reduceLT, Int.reduceLE, Int.reduceToNat, Int.reduceEq, Int.reduceAdd, Int.reduceSub, Int.reduceNeg, Int.reduceBNe, Int.reduceBEq, opb, opv_default, Bool.not_true, Bool.not_false, lns]
      refine vCall_of (hK) ?_ ?_ ?_; (focus simp only [go_sem, reduceIte, Nat.reduceEqDiff, reduceCtorEq, lns, ref]); (focus simp only [go_sem, reduceIte, Nat.reduceEqDiff, reduceCtorEq, lns, ref])
      simp only [go_sem, reduceIte, Nat.reduceEqDiff, reduceCtorEq, Nat.reduceLT, Nat.reduceAdd, Nat.reduceSub, Nat.reduceMul, Nat.reduceLeDiff, Int.reduceLT, Int.reduceLE, Int.reduceToNat, Int.reduceEq, Int.reduceAdd, Int.reduceSub, Int.reduceNeg, Int.reduceBNe, Int.reduceBEq, Bool.not_false]
    · refine PL.Pure.of_v Try.func8 (by decide) rfl Try.ntmps8 Try.results8 (by simp) rfl ?_
      simp only [go_sem, reduceIte, Nat.reduceEqDiff, reduceCtorEq, Nat.reduceLT, Nat.reduceAdd, Nat.reduceSub, Nat.reduceMul, Nat.reduceLeDiff, Int.reduceLT, Int.reduceLE, Int.reduceToNat, Int.reduceEq, Int.reduceAdd, Int.reduceSub, Int.reduceNeg, Int.reduceBNe, Int.reduceBEq, flds, lns, opv]
      refine vCall_of (awake21_pure) ?_ ?_ ?_; (focus simp only [go_sem, reduceIte, Nat.reduceEqDiff, reduceCtorEq]); (focus simp only [go_sem, reduceIte, Nat.reduceEqDiff, reduceCtorEq])
      simp only [go_sem, reduceIte, Nat.reduceEqDiff, reduceCtorEq, Nat.reduceLT, Nat.reduceAdd, Nat.reduceSub, Nat.reduceMul, Nat.reduceLeDiff, Int.reduceLT, Int.reduceLE, Int.reduceToNat, Int.reduceEq, Int.reduceAdd, Int.reduceSub, Int.reduceNeg, Int.reduceBNe, Int.reduceBEq]
      refine vCall_of (h1) ?_ ?_ ?_; (focus simp only [go_sem, reduceIte, Nat.reduceEqDiff, reduceCtorEq, flds]); (focus simp only [go_sem, reduceIte, Nat.reduceEqDiff, reduceCtorEq, flds])
      simp only [go_sem, reduceIte, Nat.reduceEqDiff, reduceCtorEq, Nat.reduceLT, Nat.reduceAdd, Nat.reduceSub, Nat.reduceMul, Nat.reduceLeDiff, Int.reduceLT, Int.reduceLE, Int.reduceToNat, Int.reduceEq, Int.reduceAdd, Int.reduceSub, Int.reduceNeg, Int.reduceBNe, Int.reduceBEq]
      refine vCall_of (h2) ?_ ?_ ?_; (focus simp only [go_sem, reduceIte, Nat.reduceEqDiff, reduceCtorEq, lns]); (focus simp only [go_sem, reduceIte, Nat.reduceEqDiff, reduceCtorEq, lns])
      simp only [go_sem, reduceIte, Nat.reduceEqDiff, reduceCtorEq, Nat.reduceLT, Nat.reduceAdd, Nat.reduceSub, Nat.reduceMul, Nat.reduceLeDiff, Int.reduceLT, Int.reduceLE, Int.reduceToNat, Int.reduceEq, Int.reduceAdd, Int.reduceSub, Int.reduceNeg, Int.reduceBNe, Int.reduceBEq]
      refine vCall_of (h3) ?_ ?_ ?_; (focus simp only [go_sem, reduceIte, Nat.reduceEqDiff, reduceCtorEq, opv]); (focus simp only [go_sem, reduceIte, Nat.reduceEqDiff, reduceCtorEq, opv])
      simp only [go_sem, reduceIte, Nat.reduceEqDiff, reduceCtorEq, Nat.reduceLT, Nat.reduceAdd, Nat.reduceSub, Nat.reduceMul, Nat.reduceLeDiff, Int.reduceLT, Int.reduceLE, Int.reduceToNat, Int.reduceEq, Int.reduceAdd, Int.reduceSub, Int.reduceNeg, Int.reduceBNe, Int.reduceBEq, flds, lns]
      refine vCall_of (hA) ?_ ?_ ?_; (focus simp only [go_sem, reduceIte, Nat.reduceEqDiff, reduceCtorEq, flds, lns]); (focus simp only [go_sem, reduceIte, Nat.reduceEqDiff, reduceCtorEq, flds, lns])
      simp only [go_sem, reduceIte, Nat.reduceEqDiff, reduceCtorEq, Nat.reduceLT, Nat.reduceAdd, Nat.reduceSub, Nat.reduceMul, Nat.reduceLeDiff, Int.reduceLT, Int.reduceLE, Int.reduceToNat, Int.reduceEq, Int.reduceAdd, Int.reduceSub, Int.reduceNeg, Int.reduceBNe, Int.reduceBEq, fldsc, flds, lns]
      refine vCall_of (hI) ?_ ?_ ?_; (focus simp only [go_sem, reduceIte, Nat.reduceEqDiff, reduceCtorEq, lns]); (focus simp only [go_sem, reduceIte, Nat.reduceEqDiff, reduceCtorEq, lns])
      simp only [go_sem, reduceIte, Nat.reduceEqDiff, reduceCtorEq, Nat.reduceLT, Nat.reduceAdd, Nat.reduceSub, Nat.reduceMul, Nat.reduceLeDiff, Int.reduceLT, Int.reduceLE, Int.reduceToNat, Int.reduceEq, Int.reduceAdd, Int.reduceSub, Int.reduceNeg, Int.reduceBNe, Int.reduceBEq, lnc, lns, ec, e0, opv]
      refine vCall_of (hF) ?_ ?_ ?_; (focus simp only [go_sem, reduceIte, Nat.reduceEqDiff, reduceCtorEq, flds, opv]); (focus simp only [go_sem, reduceIte, Nat.reduceEqDiff, reduceCtorEq, flds, opv])
      simp only [go_sem, reduceIte, Nat.reduceEqDiff, reduceCtorEq, Nat.reduceLT, Nat.reduceAdd, Nat.reduceSub, Nat.reduceMul, Nat.reduceLeDiff, Int.reduceLT, Int.reduceLE, Int.reduceToNat, Int.reduceEq, Int.reduceAdd, Int.reduceSub, Int.reduceNeg, Int.reduceBNe, Int.reduceBEq, Bool.not_true, e3, e4, lns, opv]
      refine vCall_of (hO) ?_ ?_ ?_; (focus simp only [go_sem, reduceIte, Nat.reduceEqDiff, reduceCtorEq, lns, opv]); (focus simp only [go_sem, reduceIte, Nat.reduceEqDiff, reduceCtorEq, lns, opv])
      simp only [go_sem, reduceIte, Nat.reduceEqDiff, reduceCtorEq, Nat.reduceLT, Nat.reduceAdd, Nat.reduceSub, Nat.reduceMul, Nat.reduceLeDiff, Int.reduceLT, Int.reduceLE, Int.reduceToNat, Int.reduceEq, Int.reduceAdd, Int.reduceSub, Int.reduceNeg, Int.reduceBNe, Int.reduceBEq, opb, opv_default, Bool.not_true, Bool.not_false, lns]
      refine vCall_of (hK) ?_ ?_ ?_; (focus simp only [go_sem, reduceIte, Nat.reduceEqDiff, reduceCtorEq, lns, ref]); (focus simp only [go_sem, reduceIte, Nat.reduceEqDiff, reduceCtorEq, lns, ref])
      simp only [go_sem, reduceIte, Nat.reduceEqDiff, reduceCtorEq, Nat.reduceLT, Nat.reduceAdd, Nat.reduceSub, Nat.reduceMul, Nat.reduceLeDiff, Int.reduceLT, Int.reduceLE, Int.reduceToNat, Int.reduceEq, Int.reduceAdd, Int.reduceSub, Int.reduceNeg, Int.reduceBNe, Int.reduceBEq, Bool.not_false]
end Go.Proofs.Ytbojhapdidieoaa
