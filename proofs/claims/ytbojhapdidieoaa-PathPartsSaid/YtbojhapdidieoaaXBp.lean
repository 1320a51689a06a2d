/- Contracts of functions and laws of this seat, each for every input that it names: lemmas of the proof. -/
import Derived.Test.YtbojhapdidieoaaXBj
import Derived.Test.YtbojhapdidieoaaXAz
set_option linter.unusedSimpArgs false
set_option linter.unusedVariables false
set_option linter.unusedSimpArgs false
set_option linter.unusedVariables false
namespace Go.Proofs.Ytbojhapdidieoaa
open Go.PL
theorem upL_split (u v : List Eg) : upL (u ++ v) = v.reverse.map (·.id) ++ upL u := by simp [upL]
/-- where two ways part -/
def meetT (p q : List Eg) : Tg := (upL (p.take (lcp p q))).getD 0 default
theorem upL_cons (u : List Eg) : upL u = (upL u).getD 0 default :: (upL u).tail := by
  cases h : upL u with
  | nil => have := upL_len u; rw [h] at this; simp at this
  | cons a l => rfl
def stopsW (p q : List Eg) : List Tg := (p.drop (lcp p q)).reverse.map (·.id) ++ [meetT p q] ++ (q.drop (lcp p q)).map (·.id)
theorem upL_take1 (p q : List Eg) : (upL p).take (p.length - lcp p q + 1) = (p.drop (lcp p q)).reverse.map (·.id) ++ [meetT p q] := by
  have h := upL_split (p.take (lcp p q)) (p.drop (lcp p q))
  rw [List.take_append_drop] at h
  rw [h, List.take_append]
  have hl : ((p.drop (lcp p q)).reverse.map (·.id)).length = p.length - lcp p q := by simp
  rw [hl, List.take_of_length_le (by omega), show p.length - lcp p q + 1 - (p.length - lcp p q) = 1 by omega, upL_cons (p.take (lcp p q))]
  rfl
def stopsM (m : List Eg) (a b : Tg) : List Tg × Int := if pathC m a b ≠ 0 then ([], pathC m a b) else (stopsW (wayD m a) (wayD m b), 0)
set_option maxRecDepth 20000 in
set_option maxHeartbeats 16000000 in
theorem Stops_pure (m : List Eg) (a b : Tg) (hm : OkM m) : PL.Pure Try.prog 15 [tr (treeOf m), tg a, tg b] (tgsc (stopsM m a b)) := by
  have hW := ways_pure m a b hm
  unfold stopsM
  by_cases hc : pathC m a b = 0
  · rw [waysM_good hc] at hW
    obtain ⟨ha, hb⟩ := pathC_zero.1 hc
    obtain ⟨wa, _, _⟩ := live_way ha
    obtain ⟨wb, _, _⟩ := live_way hb
    simp only [hc, ne_eq, not_true_eq_false, if_false]
    generalize wayD m a = p at *
    generalize wayD m b = q at *
    have hlc := lcp_le p q
    have hpl : p.length ≤ 40 := by have := wa.len; have := hm.n; omega
    have hql : q.length ≤ 40 := by have := wb.len; have := hm.n; omega
    unfold stopsW
    have hut := upL_take1 p q
    have hql' : (q.drop (lcp p q)).length = q.length - lcp p q := by simp
    generalize hids : (p.drop (lcp p q)).reverse.map (·.id) ++ [meetT p q] = ids at *
    have hidl : ids.length = p.length - lcp p q + 1 := by rw [← hids]; simp
    have s0 : IntKind.i64.wrap (((p.length - lcp p q : Nat) : Int) + ((q.length - lcp p q : Nat) : Int)) = ((p.length - lcp p q + (q.length - lcp p q) : Nat) : Int) := by rw [w64 (by omega)]; omega
    have s1 : IntKind.i64.wrap (((p.length - lcp p q + (q.length - lcp p q) : Nat) : Int) + 1) = ((p.length - lcp p q + (q.length - lcp p q) + 1 : Nat) : Int) := by rw [w64 (by omega)]; omega
    have s2 : IntKind.i64.wrap (((p.length - lcp p q : Nat) : Int) + 1) = ((p.length - lcp p q + 1 : Nat) : Int) := by rw [w64 (by omega)]; omega
    have hup : (upL p).length = p.length + 1 := upL_len p
    have htt : PL.cut (List.map tg (upL p)) 0 ((p.length - lcp p q + 1 : Nat) : Int) = ids.map tg := by simp [PL.cut, ← List.map_take, hut]
    have hr0 := room1 (show ids.length ≤ 1000000 by omega) (show 16 ≤ 1000 by omega)
    refine PL.Pure.of_v Try.func15 (by decide) rfl Try.ntmps15 Try.results15 (by simp) (tgsc_dids _) ?_
    simp only [go_sem, reduceIte, Nat.reduceEqDiff, reduceCtorEq, Nat.reduceLT, Nat.reduceAdd, Nat.reduceSub, Nat.reduceMul, Nat.reduceLeDiff, Int.reduceLT, Int.reduceLE, Int.reduceToNat, Int.reduceEq, Int.reduceAdd, Int.reduceSub, Int.reduceNeg, Int.reduceBNe, Int.reduceBEq, tr, tg]
    refine vScopeM (ι := { s : Nat // s ≤ q.length - lcp p q }) 50 (fun x => [(9, tgs (upL q)), (11, .int .i64 ((q.length - lcp p q - x.1 : Nat) : Int)), (13, .sl (.row 48) ((ids ++ ((q.drop (lcp p q)).take x.1).map (·.id)).map tg))]) (fun x => []) (fun x => [(48, .live (ids.length + x.1) 2 24)]) (fun x => q.length - lcp p q - x.1) 0 _ (by exact rfl)
      (fun x => ⟨forall_cons rfl (forall_cons rfl (forall_cons (by simp [PV.ids, refInM]) forall_nil)), forall_nil⟩) (fun x => ?_) (fun cut => ?_)
    · obtain ⟨s, hs⟩ := x
      simp only
      by_cases hlt : s < q.length - lcp p q
      · have c1 : (0 : Int) < ((q.length - lcp p q - s : Nat) : Int) := by omega
        have w1 : IntKind.i64.wrap (((q.length - lcp p q - s : Nat) : Int) - 1) = ((q.length - (lcp p q + s) - 1 : Nat) : Int) := by rw [w64 (by omega)]; omega
        have k1 : q.length - (lcp p q + s) - 1 < (upL q).length := by rw [upL_len]; omega
        have b1 : (0 : Int) ≤ ((q.length - (lcp p q + s) - 1 : Nat) : Int) := by omega
        have b2 : ((q.length - (lcp p q + s) - 1 : Nat) : Int) < ((upL q).length : Int) := by omega
        have v1 := upL_get q (lcp p q + s) (by omega)
        have hrm := room1 (show ids.length + s + 1 ≤ 1000000 by omega) (show 16 ≤ 1000 by omega)
        have hsl : (ids ++ ((q.drop (lcp p q)).take s).map (·.id)).length = ids.length + s := by simp; omega
        have hnx := drop_take_snoc (q := q) (c := lcp p q) (s := s) (by omega)
        simp only [go_sem, reduceIte, Nat.reduceEqDiff, reduceCtorEq, Nat.reduceLT, Nat.reduceAdd, Nat.reduceSub, Nat.reduceMul, Nat.reduceLeDiff, Int.reduceLT, Int.reduceLE, Int.reduceToNat, Int.reduceEq, Int.reduceAdd, Int.reduceSub, Int.reduceNeg, Int.reduceBNe, Int.reduceBEq, tgs, c1, w1, getD_tg k1, v1, tg, b1, b2, sized_tg, hsl, List.length_map, hrm]
        refine ⟨⟨s + 1, by omega⟩, by show q.length - lcp p q - (s + 1) < q.length - lcp p q - s; omega, ⟨rfl, forall_cons rfl (forall_cons ?_ (forall_cons ?_ forall_nil)), forall_nil, forall_cons ?_ forall_nil⟩⟩
        · show PV.int .i64 _ = PV.int .i64 _
          congr 2
          simp only
          omega
        · show PV.sl (.row 48) _ = PV.sl (.row 48) _
          simp [hnx, tg]
        · rfl
      · obtain rfl : s = q.length - lcp p q := by omega
        have c1 : ¬ (0 : Int) < ((q.length - lcp p q - (q.length - lcp p q) : Nat) : Int) := by omega
        have htk : (q.drop (lcp p q)).take (q.length - lcp p q) = q.drop (lcp p q) := List.take_of_length_le (by omega)
        simp only [go_sem, reduceIte, Nat.reduceEqDiff, reduceCtorEq, Nat.reduceLT, Nat.reduceAdd, Nat.reduceSub, Nat.reduceMul, Nat.reduceLeDiff, Int.reduceLT, Int.reduceLE, Int.reduceToNat, Int.reduceEq, Int.reduceAdd, Int.reduceSub, Int.reduceNeg, Int.reduceBNe, Int.reduceBEq, tgs, c1, tgsc, tgs, htk]
    · simp only [go_sem, reduceIte, Nat.reduceEqDiff, reduceCtorEq, Nat.reduceLT, Nat.reduceAdd, Nat.reduceSub, Nat.reduceMul, Nat.reduceLeDiff, Int.reduceLT, Int.reduceLE, Int.reduceToNat, Int.reduceEq, Int.reduceAdd, Int.reduceSub, Int.reduceNeg, Int.reduceBNe, Int.reduceBEq]
      refine vCall_of (hW) ?_ ?_ ?_; (focus simp only [go_sem, reduceIte, Nat.reduceEqDiff, reduceCtorEq, tr, tg]); (focus simp only [go_sem, reduceIte, Nat.reduceEqDiff, reduceCtorEq, tr, tg])
      simp only [go_sem, reduceIte, Nat.reduceEqDiff, reduceCtorEq, Nat.reduceLT, Nat.reduceAdd, Nat.reduceSub, Nat.reduceMul, Nat.reduceLeDiff, Int.reduceLT, Int.reduceLE, Int.reduceToNat, Int.reduceEq, Int.reduceAdd, Int.reduceSub, Int.reduceNeg, Int.reduceBNe, Int.reduceBEq, wayv, tgs, s0, s1, s2]
      repeat ((with_reducible refine And.intro ?_ ?_); (focus ((repeat' (with_reducible apply And.intro)) <;> (first | omega | exact room_small (by omega) (by omega) | exact room_small (by simp; omega) (by omega) | exact sized_str _ | (simp; done) | (simp; omega)))))
      refine ⟨⟨by omega, by omega, sized_tg _⟩, ?_⟩
      simp only [go_sem, reduceIte, Nat.reduceEqDiff, reduceCtorEq, Nat.reduceLT, Nat.reduceAdd, Nat.reduceSub, Nat.reduceMul, Nat.reduceLeDiff, Int.reduceLT, Int.reduceLE, Int.reduceToNat, Int.reduceEq, Int.reduceAdd, Int.reduceSub, Int.reduceNeg, Int.reduceBNe, Int.reduceBEq, htt, sized_tg, atoms_tg, List.length_map, hr0]
      refine awp_moveRow 13 37 48 ids.length 2 24 (ids.map tg) rfl rfl rfl ?_
      exact awp_label_seq (cut ⟨0, Nat.zero_le _⟩ _ ⟨rfl, forall_cons rfl (forall_cons rfl (forall_cons (by simp [upd, St.with]) forall_nil)), forall_nil, forall_cons (by simp [upd, Hp.setq, St.with]) forall_nil⟩)
  · have hc' : (pathC m a b != 0) = true := by simpa using hc
    rw [waysM_bad hc] at hW
    simp only [ne_eq, hc, not_false_eq_true, if_true]
    refine PL.Pure.of_v Try.func15 (by decide) rfl Try.ntmps15 Try.results15 (by simp) (tgsc_dids _) ?_
    simp only [go_sem, reduceIte, Nat.reduceEqDiff, reduceCtorEq, Nat.reduceLT, Nat.reduceAdd, Nat.reduceSub, Nat.reduceMul, Nat.reduceLeDiff, Int.reduceLT, Int.reduceLE, Int.reduceToNat, Int.reduceEq, Int.reduceAdd, Int.reduceSub, Int.reduceNeg, Int.reduceBNe, Int.reduceBEq, tr, tg]
    refine vScope0 ?_
    simp only [go_sem, reduceIte, Nat.reduceEqDiff, reduceCtorEq, Nat.reduceLT, Nat.reduceAdd, Nat.reduceSub, Nat.reduceMul, Nat.reduceLeDiff, Int.reduceLT, Int.reduceLE, Int.reduceToNat, Int.reduceEq, Int.reduceAdd, Int.reduceSub, Int.reduceNeg, Int.reduceBNe, Int.reduceBEq]
    refine vCall_of (hW) ?_ ?_ ?_; (focus simp only [go_sem, reduceIte, Nat.reduceEqDiff, reduceCtorEq, tr, tg]); (focus simp only [go_sem, reduceIte, Nat.reduceEqDiff, reduceCtorEq, tr, tg])
    simp only [go_sem, reduceIte, Nat.reduceEqDiff, reduceCtorEq, Nat.reduceLT, Nat.reduceAdd, Nat.reduceSub, Nat.reduceMul, Nat.reduceLeDiff, Int.reduceLT, Int.reduceLE, Int.reduceToNat, Int.reduceEq, Int.reduceAdd, Int.reduceSub, Int.reduceNeg, Int.reduceBNe, Int.reduceBEq, wayv, tgs, hc', tgsc, tgs, List.map_nil]
end Go.Proofs.Ytbojhapdidieoaa

set_option linter.unusedSimpArgs false
set_option linter.unusedVariables false
set_option linter.unusedSimpArgs false
set_option linter.unusedVariables false
namespace Go.Proofs.Ytbojhapdidieoaa
open Go.PL
end Go.Proofs.Ytbojhapdidieoaa

set_option linter.unusedSimpArgs false
set_option linter.unusedVariables false
set_option linter.unusedSimpArgs false
set_option linter.unusedVariables false
namespace Go.Proofs.Ytbojhapdidieoaa
open Go.PL
/-! the order of places -/
end Go.Proofs.Ytbojhapdidieoaa

set_option linter.unusedSimpArgs false
set_option linter.unusedVariables false
set_option linter.unusedSimpArgs false
set_option linter.unusedVariables false
namespace Go.Proofs.Ytbojhapdidieoaa
open Go.PL
end Go.Proofs.Ytbojhapdidieoaa

set_option linter.unusedSimpArgs false
set_option linter.unusedVariables false
set_option linter.unusedSimpArgs false
set_option linter.unusedVariables false
namespace Go.Proofs.Ytbojhapdidieoaa
open Go.PL
end Go.Proofs.Ytbojhapdidieoaa

set_option linter.unusedSimpArgs false
set_option linter.unusedVariables false
set_option linter.unusedSimpArgs false
set_option linter.unusedVariables false
namespace Go.Proofs.Ytbojhapdidieoaa
open Go.PL
structure ChT where
  l : List Fd
  n : Nat
  c : Int
def chainA : List Fd → List Ln → Nat → ChT
  | fs, [], i => ⟨fs, i, 0⟩
  | fs, x :: xs, i => if (applyM fs x).2 ≠ 0 then ⟨[], i, (applyM fs x).2⟩ else chainA (applyM fs x).1 xs (i + 1)
structure ChS (l : List Fd) (row : List Ln) where
  k : Nat
  fs : List Fd
  hk : k ≤ row.length
  ok : OkFs fs
  h : chainA fs (row.drop k) k = chainA l row 0
end Go.Proofs.Ytbojhapdidieoaa

set_option linter.unusedSimpArgs false
set_option linter.unusedVariables false
set_option linter.unusedSimpArgs false
set_option linter.unusedVariables false
namespace Go.Proofs.Ytbojhapdidieoaa
open Go.PL
theorem foldA_split {w : List Eg} {fs gs : List Fd} (c : Nat) (h : foldA w fs = some gs) : ∃ ms, foldA (w.take c) fs = some ms ∧ foldA (w.drop c) ms = some gs := by
  rw [← List.take_append_drop c w, foldA_append] at h
  cases h1 : foldA (w.take c) fs with
  | none => rw [h1] at h; cases h
  | some ms => rw [h1] at h; exact ⟨ms, rfl, h⟩
theorem stops_eq (p q : List Eg) : stopsW p q = (upL p).take (p.length - lcp p q + 1) ++ (q.drop (lcp p q)).map (·.id) := by rw [upL_take1]; rfl
theorem stops_len (p q : List Eg) : (stopsW p q).length = p.length - lcp p q + (q.length - lcp p q) + 1 := by simp [stopsW]; omega
end Go.Proofs.Ytbojhapdidieoaa

set_option linter.unusedSimpArgs false
set_option linter.unusedVariables false
set_option linter.unusedSimpArgs false
set_option linter.unusedVariables false
namespace Go.Proofs.Ytbojhapdidieoaa
open Go.PL
end Go.Proofs.Ytbojhapdidieoaa

set_option linter.unusedSimpArgs false
set_option linter.unusedVariables false
set_option linter.unusedSimpArgs false
set_option linter.unusedVariables false
namespace Go.Proofs.Ytbojhapdidieoaa
open Go.PL
/-- the state of a tag, and its schema, by its way -/
def stateM (m : List Eg) (id : Tg) : Int × List Fd :=
  if id ≠ default ∧ findE m id = none then (0, []) else match wayM m id with
    | none => (1, [])
    | some w => match foldA w rootL with
      | none => (3, [])
      | some fs => (2, fs)
theorem sch_state (m : List Eg) (id : Tg) : schM (treeOf m) id = if (stateM m id).1 = 3 then ([], 16) else if (stateM m id).1 ≠ 2 then ([], 13) else ((stateM m id).2, 0) := by
  unfold stateM schM
  by_cases hd : id = default
  · subst hd
    have h1 : wayM m default = some [] := wayM_iff.2 .root
    simp [atN, rootN, h1, foldA]
  · rw [atN_tree m id hd]
    cases hf : findE m id with
    | none =>
      have hn : id ≠ default ∧ (none : Option Eg) = none := ⟨hd, rfl⟩
      rw [if_pos hn]
      rfl
    | some e =>
      obtain ⟨h1, h2⟩ := findE_id hf
      have hn : ¬ (id ≠ default ∧ (some e : Option Eg) = none) := fun h => by cases h.2
      rw [if_neg hn]
      simp only [Option.map_some, Option.getD_some, nodeOf, ← h1]
      have key : ∀ (w : Option (List Eg)), (if (nodeW e w).st = 2 then ((nodeW e w).sch, (0 : Int)) else if (nodeW e w).st = 3 then ([], 16) else ([], 13)) =
          (fun s : Int × List Fd => if s.1 = 3 then (([] : List Fd), (16 : Int)) else if s.1 ≠ 2 then ([], 13) else (s.2, 0)) (match w with | none => (1, []) | some w => match foldA w rootL with | none => (3, []) | some fs => (2, fs)) := by
        intro w
        cases w with
        | none => rfl
        | some w =>
          have k2 : ∀ F : Option (List Fd), (fun (n : Nd) (s : Int × List Fd) => (if n.st = 2 then (n.sch, (0 : Int)) else if n.st = 3 then ([], 16) else ([], 13)) = (if s.1 = 3 then (([] : List Fd), (16 : Int)) else if s.1 ≠ 2 then ([], 13) else (s.2, 0)))
              (match F with | none => ⟨e, 3, [], 0⟩ | some fs => ⟨e, 2, fs, w.length⟩) (match F with | none => (3, []) | some fs => (2, fs)) := by
            intro F
            cases F <;> rfl
          exact k2 (foldA w rootL)
      exact key (wayM m id)
end Go.Proofs.Ytbojhapdidieoaa

set_option linter.unusedSimpArgs false
set_option linter.unusedVariables false
set_option linter.unusedSimpArgs false
set_option linter.unusedVariables false
namespace Go.Proofs.Ytbojhapdidieoaa
open Go.PL
set_option maxRecDepth 20000 in
set_option maxHeartbeats 16000000 in
theorem Path_rw (m : List Eg) (a b : Tg) (hm : OkM m) (hc : pathC m a b = 0) : PL.Rw Try.prog 14 [tr (treeOf m), tg a, tg b] (fun d => .tup [.sl (.row d) ((legsW (wayD m a) (wayD m b)).map lg), .int .i64 0]) ((legsW (wayD m a) (wayD m b)).map lg).length 3 35 := by
  have hW := ways_pure m a b hm
  · rw [waysM_good hc] at hW
    obtain ⟨ha, hb⟩ := pathC_zero.1 hc
    obtain ⟨wa, _, _⟩ := live_way ha
    obtain ⟨wb, _, _⟩ := live_way hb
    generalize wayD m a = p at *
    generalize wayD m b = q at *
    have hlc := lcp_le p q
    have hpl : p.length ≤ 40 := by have := wa.len; have := hm.n; omega
    have hql : q.length ≤ 40 := by have := wb.len; have := hm.n; omega
    unfold legsW
    have hut := upL_take p (lcp p q) hlc.1
    have hdl : (p.drop (lcp p q)).length = p.length - lcp p q := by simp
    have hql' : (q.drop (lcp p q)).length = q.length - lcp p q := by simp
    generalize hids : (p.drop (lcp p q)).reverse.map (·.id) = ids at *
    have hidl : ids.length = p.length - lcp p q := by rw [← hids]; simp
    have hfst : ((p.drop (lcp p q)).reverse.map fun e => upg e.id) = ids.map upg := by rw [← hids, List.map_map]; rfl
    rw [hfst]
    have hlen : ids.length ≤ maxLen := by rw [maxLen_eq]; omega
    have s0 : IntKind.i64.wrap (((p.length - lcp p q : Nat) : Int) + ((q.length - lcp p q : Nat) : Int)) = ((p.length - lcp p q + (q.length - lcp p q) : Nat) : Int) := by rw [w64 (by omega)]; omega
    have hup : (upL p).length = p.length + 1 := upL_len p
    have htot : (ids.map upg ++ (q.drop (lcp p q)).map dn).length = ids.length + (q.length - lcp p q) := by simp
    refine PL.Rw.of_v Try.func14 (by decide) rfl Try.ntmps14 Try.results14 (by simp) rfl ?_
    simp only [go_sem, reduceIte, Nat.reduceEqDiff, reduceCtorEq, Nat.reduceLT, Nat.reduceAdd, Nat.reduceSub, Nat.reduceMul, Nat.reduceLeDiff, Int.reduceLT, Int.reduceLE, Int.reduceToNat, Int.reduceEq, Int.reduceAdd, Int.reduceSub, Int.reduceNeg, Int.reduceBNe, Int.reduceBEq, tr, tg]
    refine vScopeM (ι := { s : Nat // s ≤ q.length - lcp p q }) 60 (fun x => [(9, tgs (upL q)), (11, .int .i64 ((q.length - lcp p q - x.1 : Nat) : Int)), (13, .sl (.row 58) ((ids.map upg ++ ((q.drop (lcp p q)).take x.1).map dn).map lg))]) (fun x => []) (fun x => [(58, .live (ids.length + x.1) 3 35)]) (fun x => q.length - lcp p q - x.1) 0 _ (by exact rfl)
      (fun x => ⟨forall_cons rfl (forall_cons rfl (forall_cons (by simp [PV.ids, refInM]) forall_nil)), forall_nil⟩) (fun x => ?_) (fun cut => ?_)
    · obtain ⟨s, hs⟩ := x
      simp only
      by_cases hlt : s < q.length - lcp p q
      · have c1 : (0 : Int) < ((q.length - lcp p q - s : Nat) : Int) := by omega
        have w1 : IntKind.i64.wrap (((q.length - lcp p q - s : Nat) : Int) - 1) = ((q.length - (lcp p q + s) - 1 : Nat) : Int) := by rw [w64 (by omega)]; omega
        have k1 : q.length - (lcp p q + s) - 1 < (upL q).length := by rw [upL_len]; omega
        have b1 : (0 : Int) ≤ ((q.length - (lcp p q + s) - 1 : Nat) : Int) := by omega
        have b2 : ((q.length - (lcp p q + s) - 1 : Nat) : Int) < ((upL q).length : Int) := by omega
        have v1 := upL_get q (lcp p q + s) (by omega)
        have hrm := room1 (show ids.length + s + 1 ≤ 1000000 by omega) (show 24 ≤ 1000 by omega)
        have hsl : (ids.map upg ++ ((q.drop (lcp p q)).take s).map dn).length = ids.length + s := by simp; omega
        have hnx := drop_take_snoc (q := q) (c := lcp p q) (s := s) (by omega)
        simp only [go_sem, reduceIte, Nat.reduceEqDiff, reduceCtorEq, Nat.reduceLT, Nat.reduceAdd, Nat.reduceSub, Nat.reduceMul, Nat.reduceLeDiff, Int.reduceLT, Int.reduceLE, Int.reduceToNat, Int.reduceEq, Int.reduceAdd, Int.reduceSub, Int.reduceNeg, Int.reduceBNe, Int.reduceBEq, tgs, c1, w1, getD_tg k1, v1, tg, b1, b2, sized_lg, hsl, List.length_map, hrm]
        refine ⟨⟨s + 1, by omega⟩, by show q.length - lcp p q - (s + 1) < q.length - lcp p q - s; omega, ⟨rfl, forall_cons rfl (forall_cons ?_ (forall_cons ?_ forall_nil)), forall_nil, forall_cons ?_ forall_nil⟩⟩
        · show PV.int .i64 _ = PV.int .i64 _
          congr 2
          simp only
          omega
        · show PV.sl (.row 58) _ = PV.sl (.row 58) _
          simp [hnx, dn, lg]
        · rfl
      · obtain rfl : s = q.length - lcp p q := by omega
        have c1 : ¬ (0 : Int) < ((q.length - lcp p q - (q.length - lcp p q) : Nat) : Int) := by omega
        have htk : (q.drop (lcp p q)).take (q.length - lcp p q) = q.drop (lcp p q) := List.take_of_length_le (by omega)
        simp only [go_sem, reduceIte, Nat.reduceEqDiff, reduceCtorEq, Nat.reduceLT, Nat.reduceAdd, Nat.reduceSub, Nat.reduceMul, Nat.reduceLeDiff, Int.reduceLT, Int.reduceLE, Int.reduceToNat, Int.reduceEq, Int.reduceAdd, Int.reduceSub, Int.reduceNeg, Int.reduceBNe, Int.reduceBEq, tgs, c1, htk]
        exact ⟨58, rfl, by simp [hidl]⟩
    · simp only [go_sem, reduceIte, Nat.reduceEqDiff, reduceCtorEq, Nat.reduceLT, Nat.reduceAdd, Nat.reduceSub, Nat.reduceMul, Nat.reduceLeDiff, Int.reduceLT, Int.reduceLE, Int.reduceToNat, Int.reduceEq, Int.reduceAdd, Int.reduceSub, Int.reduceNeg, Int.reduceBNe, Int.reduceBEq]
      refine vCall_of (hW) ?_ ?_ ?_; (focus simp only [go_sem, reduceIte, Nat.reduceEqDiff, reduceCtorEq, tr, tg]); (focus simp only [go_sem, reduceIte, Nat.reduceEqDiff, reduceCtorEq, tr, tg])
      simp only [go_sem, reduceIte, Nat.reduceEqDiff, reduceCtorEq, Nat.reduceLT, Nat.reduceAdd, Nat.reduceSub, Nat.reduceMul, Nat.reduceLeDiff, Int.reduceLT, Int.reduceLE, Int.reduceToNat, Int.reduceEq, Int.reduceAdd, Int.reduceSub, Int.reduceNeg, Int.reduceBNe, Int.reduceBEq, wayv, tgs, s0]
      repeat ((with_reducible refine And.intro ?_ ?_); (focus ((repeat' (with_reducible apply And.intro)) <;> (first | omega | exact room_small (by omega) (by omega) | exact room_small (by simp; omega) (by omega) | exact sized_str _ | (simp; done) | (simp; omega)))))
      have htt : PL.cut (List.map tg (upL p)) 0 ((p.length - lcp p q : Nat) : Int) = ids.map tg := by simp [PL.cut, ← List.map_take, hut]
      refine ⟨⟨by omega, by omega, sized_tg _⟩, ?_⟩
      simp only [go_sem, reduceIte, Nat.reduceEqDiff, reduceCtorEq, Nat.reduceLT, Nat.reduceAdd, Nat.reduceSub, Nat.reduceMul, Nat.reduceLeDiff, Int.reduceLT, Int.reduceLE, Int.reduceToNat, Int.reduceEq, Int.reduceAdd, Int.reduceSub, Int.reduceNeg, Int.reduceBNe, Int.reduceBEq, htt, List.length_map]
      refine awp_moveRow 13 32 45 0 3 35 [] rfl rfl rfl ?_
      refine vLoopM (ι := { x : Nat // x ≤ (ids).length }) 60 (fun x => [(9, tgs (upL q)), (11, .int .i64 ((q.length - lcp p q : Nat) : Int)), (13, .sl (.row 45) (((ids.take x.1).map upg).map lg)), (35, tgs ids), (36, .int .i64 (ids.length : Int)), (37, .int .i64 (x.1 : Int))]) (fun x => []) (fun x => [(45, .live (x.1) (3) (35))]) (fun x => (ids).length - x.1) ⟨0, Nat.zero_le _⟩ ⟨rfl, (forall_cons rfl (forall_cons rfl (forall_cons rfl (forall_cons rfl (forall_cons rfl (forall_cons rfl forall_nil)))))), forall_nil, (forall_cons rfl forall_nil)⟩ (fun x => ⟨(forall_cons rfl (forall_cons rfl (forall_cons (by simp [PV.ids, refInM]) (forall_cons rfl (forall_cons rfl (forall_cons rfl forall_nil)))))), forall_nil⟩) (fun x => ?_); obtain ⟨k, hk⟩ := x; simp only at hk ⊢
      by_cases h : (k : Int) < (ids.length : Int)
      · (have hka : k < (ids).length := by omega); (have w1 := w64s hka (hlen)); (have i1 : (0 : Int) ≤ (k : Int) := by omega)
        have hts : ids.take (k + 1) = ids.take k ++ [ids.getD k default] := by rw [List.take_add_one, getD_lt hka]; simp [hka]
        have hkl : (ids.take k).length = k := by simp; omega
        have hrm := room1 (show k + 1 ≤ 1000000 by omega) (show 24 ≤ 1000 by omega)
        simp only [go_sem, reduceIte, Nat.reduceEqDiff, reduceCtorEq, Nat.reduceLT, Nat.reduceAdd, Nat.reduceSub, Nat.reduceMul, Nat.reduceLeDiff, Int.reduceLT, Int.reduceLE, Int.reduceToNat, Int.reduceEq, Int.reduceAdd, Int.reduceSub, Int.reduceNeg, Int.reduceBNe, Int.reduceBEq, h, tgs, getD_tg hka, tg, i1, w1, sized_lg, List.length_map, hkl, hrm]
        exact ⟨⟨k + 1, by (try simp only); omega⟩, by show (ids).length - (k + 1) < (ids).length - k; omega, ⟨rfl, (forall_cons rfl (forall_cons rfl (forall_cons (by (show PV.sl _ _ = PV.sl _ _; simp [hts, upg, lg])) (forall_cons rfl (forall_cons rfl (forall_cons rfl forall_nil)))))), forall_nil, (forall_cons rfl forall_nil)⟩⟩
      · obtain rfl : k = ids.length := by omega
        have htk : ids.take ids.length = ids := List.take_length
        simp only [go_sem, reduceIte, Nat.reduceEqDiff, reduceCtorEq, Nat.reduceLT, Nat.reduceAdd, Nat.reduceSub, Nat.reduceMul, Nat.reduceLeDiff, Int.reduceLT, Int.reduceLE, Int.reduceToNat, Int.reduceEq, Int.reduceAdd, Int.reduceSub, Int.reduceNeg, Int.reduceBNe, Int.reduceBEq, h, htk]
        refine awp_moveRow 13 45 58 ids.length 3 35 ((ids.map upg).map lg) rfl rfl rfl ?_
        exact awp_label_seq (cut ⟨0, Nat.zero_le _⟩ _ ⟨rfl, forall_cons rfl (forall_cons rfl (forall_cons (by simp [upd, St.with]) forall_nil)), forall_nil, forall_cons (by simp [upd, Hp.setq, St.with]) forall_nil⟩)
end Go.Proofs.Ytbojhapdidieoaa

set_option linter.unusedSimpArgs false
set_option linter.unusedVariables false
set_option linter.unusedSimpArgs false
set_option linter.unusedVariables false
namespace Go.Proofs.Ytbojhapdidieoaa
open Go.PL
theorem lcp_takeL : ∀ (p q : List Eg) (t : Nat), lcp (p.take t) q = min t (lcp p q)
  | [], q, t => by simp [lcp]
  | a :: p, [], t => by cases t <;> simp [lcp]
  | a :: p, b :: q, 0 => by simp [lcp]
  | a :: p, b :: q, t + 1 => by
    simp only [List.take_succ_cons, lcp]
    split
    · rw [lcp_takeL p q t]; omega
    · simp
theorem lcp_self : ∀ (p : List Eg), lcp p p = p.length
  | [] => rfl
  | a :: p => by simp [lcp, lcp_self p]
theorem parts_up (p q : List Eg) {t : Nat} (h1 : lcp p q ≤ t) (h2 : t ≤ p.length) : legsW p q = legsW p (p.take t) ++ legsW (p.take t) q := by
  have e1 : lcp p (p.take t) = t := by rw [lcp_comm, lcp_takeL, lcp_self]; omega
  have e2 : lcp (p.take t) q = lcp p q := by rw [lcp_takeL]; omega
  have e3 : p.drop (lcp p q) = (p.take t).drop (lcp p q) ++ p.drop t := by
    generalize lcp p q = c at *
    conv => lhs; rw [← List.take_append_drop t p]
    rw [List.drop_append_of_le_length (by rw [List.length_take]; omega)]
  unfold legsW
  rw [e1, e2, e3]
  have e4 : (p.take t).drop t = [] := List.drop_eq_nil_of_le (by rw [List.length_take]; omega)
  rw [e4]
  simp
theorem parts_down (p q : List Eg) {t : Nat} (h1 : lcp p q ≤ t) (h2 : t ≤ q.length) : legsW p q = legsW p (q.take t) ++ legsW (q.take t) q := by
  have e1 : lcp p (q.take t) = lcp p q := by rw [lcp_comm, lcp_takeL, lcp_comm q p]; omega
  have e2 : lcp (q.take t) q = t := by rw [lcp_takeL, lcp_self]; omega
  have e3 : q.drop (lcp p q) = (q.take t).drop (lcp p q) ++ q.drop t := by
    generalize lcp p q = c at *
    conv => lhs; rw [← List.take_append_drop t q]
    rw [List.drop_append_of_le_length (by rw [List.length_take]; omega)]
  unfold legsW
  rw [e1, e2, e3]
  have e4 : (q.take t).drop t = [] := List.drop_eq_nil_of_le (by rw [List.length_take]; omega)
  rw [e4]
  simp
theorem atoms_lg (l : List Lg) : Atoms (l.map lg) := fun e he => by
  obtain ⟨t, _, rfl⟩ := List.mem_map.1 he
  rfl
theorem way_up {m : List Eg} {id : Tg} {w : List Eg} (h : Way m id w) {fs : List Fd} (hf : foldA w rootL = some fs) : upC m id = 0 ∧ wayD m id = w := by
  have hw := wayM_iff.2 h
  refine ⟨?_, by unfold wayD; rw [hw]; rfl⟩
  unfold upC
  rw [sch_state]
  have hn : ¬ (id ≠ default ∧ findE m id = none) := by
    rintro ⟨h1, h2⟩
    cases h with
    | root => exact h1 rfl
    | step _ he _ => rw [h2] at he; cases he
  unfold stateM
  rw [if_neg hn, hw]
  simp only [hf]
  simp
theorem way_pre {m : List Eg} {id : Tg} {w : List Eg} (h : Way m id w) {fs : List Fd} (hf : foldA w rootL = some fs) {t : Nat} (ht : t ≤ w.length) : ∃ i, Way m i (w.take t) ∧ i = (upL (w.take t)).getD 0 default ∧ ∃ gs, foldA (w.take t) rootL = some gs := by
  obtain ⟨ms, h1, _⟩ := foldA_split t hf
  cases t with
  | zero => exact ⟨default, by rw [List.take_zero]; exact .root, by simp [upL], ms, h1⟩
  | succ t =>
    have hw := h.take t (by omega)
    refine ⟨_, hw, ?_, ms, h1⟩
    have e : w.take (t + 1) = w.take t ++ [w[t]] := by rw [List.take_add_one]; simp [show t < w.length by omega]
    rw [e, upL_snoc]
    rfl
/-- the path by one of its stops -/
theorem path_parts {m : List Eg} {a b : Tg} (hc : pathC m a b = 0) {j : Nat} (hj : j < (stopsW (wayD m a) (wayD m b)).length) :
    pathC m a ((stopsW (wayD m a) (wayD m b)).getD j default) = 0 ∧ pathC m ((stopsW (wayD m a) (wayD m b)).getD j default) b = 0 ∧
    legsW (wayD m a) (wayD m b) = legsW (wayD m a) (wayD m ((stopsW (wayD m a) (wayD m b)).getD j default)) ++ legsW (wayD m ((stopsW (wayD m a) (wayD m b)).getD j default)) (wayD m b) := by
  obtain ⟨ca, cb⟩ := pathC_zero.1 hc
  obtain ⟨wa, fa, _⟩ := live_way ca
  obtain ⟨wb, fb, _⟩ := live_way cb
  generalize wayD m a = p at *
  generalize wayD m b = q at *
  have lc := lcp_le p q
  rw [stops_len] at hj
  rw [stops_eq]
  have hl : ((upL p).take (p.length - lcp p q + 1)).length = p.length - lcp p q + 1 := by rw [List.length_take, upL_len]; omega
  have fin : ∀ (r : List Eg) (i : Tg), Way m i r → (∃ gs, foldA r rootL = some gs) → legsW p q = legsW p r ++ legsW r q → pathC m a i = 0 ∧ pathC m i b = 0 ∧ legsW p q = legsW p (wayD m i) ++ legsW (wayD m i) q := by
    intro r i hr ⟨gs, hg⟩ hl
    obtain ⟨u1, u2⟩ := way_up hr hg
    rw [u2]
    exact ⟨pathC_zero.2 ⟨ca, u1⟩, pathC_zero.2 ⟨u1, cb⟩, hl⟩
  by_cases hlt : j < p.length - lcp p q + 1
  · rw [getD_append_left (by omega), getD_take hlt]
    obtain ⟨i, hi, hid, hg⟩ := way_pre wa fa (t := p.length - j) (by omega)
    have hs := upL_split (p.take (p.length - j)) (p.drop (p.length - j))
    rw [List.take_append_drop] at hs
    have hl2 : ((p.drop (p.length - j)).reverse.map (·.id)).length = j := by simp; omega
    have he : (upL p).getD j default = i := by
      rw [hs, getD_append_right (by omega), hl2, Nat.sub_self, hid]
    rw [he]
    exact fin _ i hi hg (parts_up p q (by omega) (by omega))
  · have hjq : j - (p.length - lcp p q + 1) < q.length - lcp p q := by omega
    rw [getD_append_right (by omega), hl]
    generalize hk : j - (p.length - lcp p q + 1) = k at *
    obtain ⟨i, hi, hid, hg⟩ := way_pre wb fb (t := lcp p q + k + 1) (by omega)
    have he : ((q.drop (lcp p q)).map (·.id)).getD k default = i := by
      rw [hid, getD_lt (by simp; omega)]
      have e : q.take (lcp p q + k + 1) = q.take (lcp p q + k) ++ [q[lcp p q + k]'(by omega)] := by rw [List.take_add_one]; simp [show lcp p q + k < q.length by omega]
      rw [e, upL_snoc]
      simp
    rw [he]
    exact fin _ i hi hg (parts_down p q (by omega) (by omega))
set_option maxRecDepth 20000 in
set_option maxHeartbeats 16000000 in
theorem PathParts_pure (l : List Eg) (a b : Tg) (at' : Int) (hl : l.length ≤ maxLen) (hx : ∀ e ∈ l, LenLn e.ln) (h1 : -9223372036854775808 ≤ at') (h2 : at' ≤ 9223372036854775807) : PL.Pure Try.prog 4 [egs l, tg a, tg b, .int .i64 at'] (.bool true) := by
  have hH := RHeavyE_pure l 50 hl hx
  cases hh : heavyE l 50
  · rw [hh] at hH
    by_cases hneg : at' < 0
    · refine PL.Pure.of_v Try.func4 (by decide) rfl Try.ntmps4 Try.results4 (by simp) rfl ?_
      simp only [go_sem, reduceIte, Nat.reduceEqDiff, reduceCtorEq, Nat.reduceLT, Nat.reduceAdd, Nat.reduceSub, Nat.reduceMul, Nat.reduceLeDiff, Int.reduceLT, Int.reduceLE, Int.reduceToNat, Int.reduceEq, Int.reduceAdd, Int.reduceSub, Int.reduceNeg, Int.reduceBNe, Int.reduceBEq, egs, tg]
      refine vCall_of (awake18_pure) ?_ ?_ ?_; (focus simp only [go_sem, reduceIte, Nat.reduceEqDiff, reduceCtorEq]); (focus simp only [go_sem, reduceIte, Nat.reduceEqDiff, reduceCtorEq])
      simp only [go_sem, reduceIte, Nat.reduceEqDiff, reduceCtorEq, Nat.reduceLT, Nat.reduceAdd, Nat.reduceSub, Nat.reduceMul, Nat.reduceLeDiff, Int.reduceLT, Int.reduceLE, Int.reduceToNat, Int.reduceEq, Int.reduceAdd, Int.reduceSub, Int.reduceNeg, Int.reduceBNe, Int.reduceBEq]
      refine vCall_of (hH) ?_ ?_ ?_; (focus simp only [go_sem, reduceIte, Nat.reduceEqDiff, reduceCtorEq, egs]); (focus simp only [go_sem, reduceIte, Nat.reduceEqDiff, reduceCtorEq, egs])
      simp only [go_sem, reduceIte, Nat.reduceEqDiff, reduceCtorEq, Nat.reduceLT, Nat.reduceAdd, Nat.reduceSub, Nat.reduceMul, Nat.reduceLeDiff, Int.reduceLT, Int.reduceLE, Int.reduceToNat, Int.reduceEq, Int.reduceAdd, Int.reduceSub, Int.reduceNeg, Int.reduceBNe, Int.reduceBEq, hneg]
    obtain ⟨o1, o2⟩ := okL hh
    have hG := Grown_pure l (by omega) o2
    have hm : OkM (grownM l) := okGrown _ okM_nil o2
    generalize grownM l = m at *
    have hS := Stops_pure m a b hm
    unfold stopsM at hS
    by_cases hc : pathC m a b = 0
    · rw [if_neg (fun h => h hc)] at hS
      have hll := stops_len (wayD m a) (wayD m b)
      obtain ⟨ca, cb⟩ := pathC_zero.1 hc
      have wla := (live_way ca).1.len
      have wlb := (live_way cb).1.len
      have hmn := hm.n
      have hsl : (stopsW (wayD m a) (wayD m b)).length ≤ 100 := by rw [hll]; omega
      have hpos : 0 < (stopsW (wayD m a) (wayD m b)).length := by rw [hll]; omega
      have t1 : 0 ≤ at'.tmod ((stopsW (wayD m a) (wayD m b)).length : Int) := Int.tmod_nonneg _ (by omega)
      have t2 : at'.tmod ((stopsW (wayD m a) (wayD m b)).length : Int) < ((stopsW (wayD m a) (wayD m b)).length : Int) := Int.tmod_lt_of_pos _ (by omega)
      obtain ⟨j, hj⟩ : ∃ j : Nat, at'.tmod ((stopsW (wayD m a) (wayD m b)).length : Int) = (j : Int) := ⟨_, (Int.toNat_of_nonneg t1).symm⟩
      have hjl : j < (stopsW (wayD m a) (wayD m b)).length := by omega
      obtain ⟨c1, c2, hparts⟩ := path_parts hc hjl
      have hP := Path_pure m a b hm
      have hX := Path_rw m a ((stopsW (wayD m a) (wayD m b)).getD j default) hm c1
      have hY := Path_pure m ((stopsW (wayD m a) (wayD m b)).getD j default) b hm
      unfold pathM at hP hY
      rw [if_neg (fun h => h hc)] at hP
      rw [if_neg (fun h => h c2)] at hY
      have lx := legs_len m a ((stopsW (wayD m a) (wayD m b)).getD j default) hm
      have ly := legs_len m ((stopsW (wayD m a) (wayD m b)).getD j default) b hm
      unfold pathM at lx ly
      rw [if_neg (fun h => h c1)] at lx
      rw [if_neg (fun h => h c2)] at ly
      generalize hst : stopsW (wayD m a) (wayD m b) = st at *
      generalize hmid : st.getD j default = mid at *
      simp only at lx ly
      rw [hparts] at hP
      generalize legsW (wayD m a) (wayD m mid) = xs at *
      generalize legsW (wayD m mid) (wayD m b) = ys at *
      have hE := REqLg_pure (xs ++ ys) (xs ++ ys) (by rw [maxLen_eq]; simp; omega) (by rw [maxLen_eq]; simp; omega)
      rw [decide_eq_true rfl] at hE
      generalize hq : at'.tmod (st.length : Int) = jj at *
      subst hj
      have hne : ¬ (st.length : Int) = 0 := by omega
      have hnb : ((st.length : Int) == 0) = false := beq_eq_false_iff_ne.2 hne
      have hgm : (List.map tg st).getD j PV.any = tg mid := by rw [getD_map (d := default) hjl, hmid]
      have b1 : (0 : Int) ≤ (j : Int) := by omega
      have b2 : (j : Int) < (st.length : Int) := by omega
      refine PL.Pure.of_v Try.func4 (by decide) rfl Try.ntmps4 Try.results4 (by simp) rfl ?_
      simp only [go_sem, reduceIte, Nat.reduceEqDiff, reduceCtorEq, Nat.reduceLT, Nat.reduceAdd, Nat.reduceSub, Nat.reduceMul, Nat.reduceLeDiff, Int.reduceLT, Int.reduceLE, Int.reduceToNat, Int.reduceEq, Int.reduceAdd, Int.reduceSub, Int.reduceNeg, Int.reduceBNe, Int.reduceBEq, egs, tg]
      refine vCall_of (awake18_pure) ?_ ?_ ?_; (focus simp only [go_sem, reduceIte, Nat.reduceEqDiff, reduceCtorEq]); (focus simp only [go_sem, reduceIte, Nat.reduceEqDiff, reduceCtorEq])
      simp only [go_sem, reduceIte, Nat.reduceEqDiff, reduceCtorEq, Nat.reduceLT, Nat.reduceAdd, Nat.reduceSub, Nat.reduceMul, Nat.reduceLeDiff, Int.reduceLT, Int.reduceLE, Int.reduceToNat, Int.reduceEq, Int.reduceAdd, Int.reduceSub, Int.reduceNeg, Int.reduceBNe, Int.reduceBEq]
      refine vCall_of (hH) ?_ ?_ ?_; (focus simp only [go_sem, reduceIte, Nat.reduceEqDiff, reduceCtorEq, egs]); (focus simp only [go_sem, reduceIte, Nat.reduceEqDiff, reduceCtorEq, egs])
      simp only [go_sem, reduceIte, Nat.reduceEqDiff, reduceCtorEq, Nat.reduceLT, Nat.reduceAdd, Nat.reduceSub, Nat.reduceMul, Nat.reduceLeDiff, Int.reduceLT, Int.reduceLE, Int.reduceToNat, Int.reduceEq, Int.reduceAdd, Int.reduceSub, Int.reduceNeg, Int.reduceBNe, Int.reduceBEq, hneg]
      refine vCall_of (hG) ?_ ?_ ?_; (focus simp only [go_sem, reduceIte, Nat.reduceEqDiff, reduceCtorEq, egs]); (focus simp only [go_sem, reduceIte, Nat.reduceEqDiff, reduceCtorEq, egs])
      simp only [go_sem, reduceIte, Nat.reduceEqDiff, reduceCtorEq, Nat.reduceLT, Nat.reduceAdd, Nat.reduceSub, Nat.reduceMul, Nat.reduceLeDiff, Int.reduceLT, Int.reduceLE, Int.reduceToNat, Int.reduceEq, Int.reduceAdd, Int.reduceSub, Int.reduceNeg, Int.reduceBNe, Int.reduceBEq, grv]
      refine vCall_of (hS) ?_ ?_ ?_; (focus simp only [go_sem, reduceIte, Nat.reduceEqDiff, reduceCtorEq, tr, tg]); (focus simp only [go_sem, reduceIte, Nat.reduceEqDiff, reduceCtorEq, tr, tg])
      simp only [go_sem, reduceIte, Nat.reduceEqDiff, reduceCtorEq, Nat.reduceLT, Nat.reduceAdd, Nat.reduceSub, Nat.reduceMul, Nat.reduceLeDiff, Int.reduceLT, Int.reduceLE, Int.reduceToNat, Int.reduceEq, Int.reduceAdd, Int.reduceSub, Int.reduceNeg, Int.reduceBNe, Int.reduceBEq, tgsc, tgs, hnb, hne, hq, b1, b2, hgm, tg]
      refine vCall_of (hP) ?_ ?_ ?_; (focus simp only [go_sem, reduceIte, Nat.reduceEqDiff, reduceCtorEq, tr, tg]); (focus simp only [go_sem, reduceIte, Nat.reduceEqDiff, reduceCtorEq, tr, tg])
      simp only [go_sem, reduceIte, Nat.reduceEqDiff, reduceCtorEq, Nat.reduceLT, Nat.reduceAdd, Nat.reduceSub, Nat.reduceMul, Nat.reduceLeDiff, Int.reduceLT, Int.reduceLE, Int.reduceToNat, Int.reduceEq, Int.reduceAdd, Int.reduceSub, Int.reduceNeg, Int.reduceBNe, Int.reduceBEq, legsc, lgs]
      refine vCall_rw 200 hX ?_ ?_ ?_ ?_; (focus simp only [go_sem, reduceIte, Nat.reduceEqDiff, reduceCtorEq, tr, tg]); (focus simp only [go_sem, reduceIte, Nat.reduceEqDiff, reduceCtorEq, tr, tg]); (focus simp only [go_sem, reduceIte, Nat.reduceEqDiff, reduceCtorEq])
      simp only [go_sem, reduceIte, Nat.reduceEqDiff, reduceCtorEq, Nat.reduceLT, Nat.reduceAdd, Nat.reduceSub, Nat.reduceMul, Nat.reduceLeDiff, Int.reduceLT, Int.reduceLE, Int.reduceToNat, Int.reduceEq, Int.reduceAdd, Int.reduceSub, Int.reduceNeg, Int.reduceBNe, Int.reduceBEq]
      refine vCall_of (hY) ?_ ?_ ?_; (focus simp only [go_sem, reduceIte, Nat.reduceEqDiff, reduceCtorEq, tr, tg]); (focus simp only [go_sem, reduceIte, Nat.reduceEqDiff, reduceCtorEq, tr, tg])
      simp only [go_sem, reduceIte, Nat.reduceEqDiff, reduceCtorEq, Nat.reduceLT, Nat.reduceAdd, Nat.reduceSub, Nat.reduceMul, Nat.reduceLeDiff, Int.reduceLT, Int.reduceLE, Int.reduceToNat, Int.reduceEq, Int.reduceAdd, Int.reduceSub, Int.reduceNeg, Int.reduceBNe, Int.reduceBEq, legsc, lgs]
      refine ⟨⟨sized_lg _, sized_lg _, atoms_lg _, room_small (by omega) (by omega)⟩, ?_⟩
      refine vCall_of (hE) ?_ ?_ ?_; (focus simp only [go_sem, reduceIte, Nat.reduceEqDiff, reduceCtorEq, lgs, List.map_append]); (focus simp only [go_sem, reduceIte, Nat.reduceEqDiff, reduceCtorEq, lgs, List.map_append])
      simp only [go_sem, reduceIte, Nat.reduceEqDiff, reduceCtorEq, Nat.reduceLT, Nat.reduceAdd, Nat.reduceSub, Nat.reduceMul, Nat.reduceLeDiff, Int.reduceLT, Int.reduceLE, Int.reduceToNat, Int.reduceEq, Int.reduceAdd, Int.reduceSub, Int.reduceNeg, Int.reduceBNe, Int.reduceBEq]
    · rw [if_pos hc] at hS
      have hc' : (pathC m a b != 0) = true := by simpa using hc
      refine PL.Pure.of_v Try.func4 (by decide) rfl Try.ntmps4 Try.results4 (by simp) rfl ?_
      simp only [go_sem, reduceIte, Nat.reduceEqDiff, reduceCtorEq, Nat.reduceLT, Nat.reduceAdd, Nat.reduceSub, Nat.reduceMul, Nat.reduceLeDiff, Int.reduceLT, Int.reduceLE, Int.reduceToNat, Int.reduceEq, Int.reduceAdd, Int.reduceSub, Int.reduceNeg, Int.reduceBNe, Int.reduceBEq, egs, tg]
      refine vCall_of (awake18_pure) ?_ ?_ ?_; (focus simp only [go_sem, reduceIte, Nat.reduceEqDiff, reduceCtorEq]); (focus simp only [go_sem, reduceIte, Nat.reduceEqDiff, reduceCtorEq])
      simp only [go_sem, reduceIte, Nat.reduceEqDiff, reduceCtorEq, Nat.reduceLT, Nat.reduceAdd, Nat.reduceSub, Nat.reduceMul, Nat.reduceLeDiff, Int.reduceLT, Int.reduceLE, Int.reduceToNat, Int.reduceEq, Int.reduceAdd, Int.reduceSub, Int.reduceNeg, Int.reduceBNe, Int.reduceBEq]
      refine vCall_of (hH) ?_ ?_ ?_; (focus simp only [go_sem, reduceIte, Nat.reduceEqDiff, reduceCtorEq, egs]); (focus simp only [go_sem, reduceIte, Nat.reduceEqDiff, reduceCtorEq, egs])
      simp only [go_sem, reduceIte, Nat.reduceEqDiff, reduceCtorEq, Nat.reduceLT, Nat.reduceAdd, Nat.reduceSub, Nat.reduceMul, Nat.reduceLeDiff, Int.reduceLT, Int.reduceLE, Int.reduceToNat, Int.reduceEq, Int.reduceAdd, Int.reduceSub, Int.reduceNeg, Int.reduceBNe, Int.reduceBEq, hneg]
      refine vCall_of (hG) ?_ ?_ ?_; (focus simp only [go_sem, reduceIte, Nat.reduceEqDiff, reduceCtorEq, egs]); (focus simp only [go_sem, reduceIte, Nat.reduceEqDiff, reduceCtorEq, egs])
      simp only [go_sem, reduceIte, Nat.reduceEqDiff, reduceCtorEq, Nat.reduceLT, Nat.reduceAdd, Nat.reduceSub, Nat.reduceMul, Nat.reduceLeDiff, Int.reduceLT, Int.reduceLE, Int.reduceToNat, Int.reduceEq, Int.reduceAdd, Int.reduceSub, Int.reduceNeg, Int.reduceBNe, Int.reduceBEq, grv]
      refine vCall_of (hS) ?_ ?_ ?_; (focus simp only [go_sem, reduceIte, Nat.reduceEqDiff, reduceCtorEq, tr, tg]); (focus simp only [go_sem, reduceIte, Nat.reduceEqDiff, reduceCtorEq, tr, tg])
      simp only [go_sem, reduceIte, Nat.reduceEqDiff, reduceCtorEq, Nat.reduceLT, Nat.reduceAdd, Nat.reduceSub, Nat.reduceMul, Nat.reduceLeDiff, Int.reduceLT, Int.reduceLE, Int.reduceToNat, Int.reduceEq, Int.reduceAdd, Int.reduceSub, Int.reduceNeg, Int.reduceBNe, Int.reduceBEq, tgsc, hc', tgs, List.map_nil]
  · rw [hh] at hH
    refine PL.Pure.of_v Try.func4 (by decide) rfl Try.ntmps4 Try.results4 (by simp) rfl ?_
    simp only [go_sem, reduceIte, Nat.reduceEqDiff, reduceCtorEq, Nat.reduceLT, Nat.reduceAdd, Nat.reduceSub, Nat.reduceMul, Nat.reduceLeDiff, Int.reduceLT, Int.reduceLE, Int.reduceToNat, Int.reduceEq, Int.reduceAdd, Int.reduceSub, Int.reduceNeg, Int.reduceBNe, Int.reduceBEq, egs, tg]
    refine vCall_of (awake18_pure) ?_ ?_ ?_; (focus simp only [go_sem, reduceIte, Nat.reduceEqDiff, reduceCtorEq]); (focus simp only [go_sem, reduceIte, Nat.reduceEqDiff, reduceCtorEq])
    simp only [go_sem, reduceIte, Nat.reduceEqDiff, reduceCtorEq, Nat.reduceLT, Nat.reduceAdd, Nat.reduceSub, Nat.reduceMul, Nat.reduceLeDiff, Int.reduceLT, Int.reduceLE, Int.reduceToNat, Int.reduceEq, Int.reduceAdd, Int.reduceSub, Int.reduceNeg, Int.reduceBNe, Int.reduceBEq]
    refine vCall_of (hH) ?_ ?_ ?_; (focus simp only [go_sem, reduceIte, Nat.reduceEqDiff, reduceCtorEq, egs]); (focus simp only [go_sem, reduceIte, Nat.reduceEqDiff, reduceCtorEq, egs])
    simp only [go_sem, reduceIte, Nat.reduceEqDiff, reduceCtorEq, Nat.reduceLT, Nat.reduceAdd, Nat.reduceSub, Nat.reduceMul, Nat.reduceLeDiff, Int.reduceLT, Int.reduceLE, Int.reduceToNat, Int.reduceEq, Int.reduceAdd, Int.reduceSub, Int.reduceNeg, Int.reduceBNe, Int.reduceBEq]
end Go.Proofs.Ytbojhapdidieoaa
