/- Contracts of functions and laws of this seat, each for every input that it names: lemmas of the proof. -/
import Derived.Test.YtbojhapdidieoaaFh
set_option linter.unusedSimpArgs false
set_option linter.unusedVariables false
set_option linter.unusedSimpArgs false
set_option linter.unusedVariables false
namespace Go.Proofs.Ytbojhapdidieoaa
open Go.PL
/-- the way up of a tag, from the way down to it -/
def upL (w : List Eg) : List Tg := (w.reverse.map (·.id)) ++ [default]
def upC (m : List Eg) (id : Tg) : Int := (schM (treeOf m) id).2
def wayD (m : List Eg) (id : Tg) : List Eg := (wayM m id).getD []
theorem atN_tree (m : List Eg) (id : Tg) (h : id ≠ default) : atN (treeOf m) id = ((findE m id).map (nodeOf m)).getD default := by
  simp only [atN, h, if_false, find_tree]
/-- what a tag whose code is fine has -/
theorem live_way {m : List Eg} {id : Tg} (h : upC m id = 0) : Way m id (wayD m id) ∧ foldA (wayD m id) rootL = some (schM (treeOf m) id).1 ∧ depM (treeOf m) id = ((wayD m id).length : Int) := by
  have hst : (atN (treeOf m) id).st = 2 := by
    unfold upC schM at h
    split at h
    · assumption
    · split at h <;> cases h
  have hs : (schM (treeOf m) id).1 = (atN (treeOf m) id).sch := by simp only [schM, hst, if_true]
  have hdp : depM (treeOf m) id = (atN (treeOf m) id).dep := by simp only [depM, hst, if_true]
  rw [hs, hdp]
  by_cases hd : id = default
  · subst hd
    have hw : wayD m default = [] := by
      have := wayM_iff.2 (Way.root (m := m))
      simp [wayD, this]
    rw [hw]
    exact ⟨.root, by simp [foldA, atN, rootN], by simp [atN, rootN]⟩
  · rw [atN_tree m id hd] at hst ⊢
    cases hf : findE m id with
    | none => rw [hf] at hst; cases hst
    | some e =>
      rw [hf] at hst
      simp only [Option.map_some, Option.getD_some] at hst ⊢
      have hid := (findE_id hf).1
      unfold nodeOf nodeW at hst ⊢
      rw [← hid] at hst ⊢
      cases hw : wayM m id with
      | none => rw [hw] at hst; cases hst
      | some w =>
        have hwd : wayD m id = w := by simp [wayD, hw]
        rw [hw] at hst
        rw [hwd]
        simp only at hst ⊢
        cases hfa : foldA w rootL with
        | none => rw [hfa] at hst; cases hst
        | some fs => exact ⟨wayM_iff.1 hw, rfl, rfl⟩
theorem upL_snoc (w : List Eg) (e : Eg) : upL (w ++ [e]) = e.id :: upL w := by simp [upL]
theorem upL_len (w : List Eg) : (upL w).length = w.length + 1 := by simp [upL]
theorem upL_get (w : List Eg) (t : Nat) (ht : t < w.length) : (upL w).getD (w.length - t - 1) default = (w.getD t default).id := by
  unfold upL
  rw [getD_append_left (by simp; omega)]
  rw [getD_lt (by simp; omega), getD_lt ht]
  simp only [List.getElem_map, List.getElem_reverse]
  congr 2
  omega
theorem upL_head {m : List Eg} {id : Tg} {w : List Eg} (h : Way m id w) : upL w = id :: (upL w).tail := by
  cases h with
  | root => rfl
  | step hn he hw => rw [upL_snoc, (findE_id he).1]; rfl
def tgsc (x : List Tg × Int) : PV := .tup [tgs x.1, .int .i64 x.2]
theorem tgs_dids (l : List Tg) : (tgs l).dids = [] := by simp only [tgs, PV.dids, didsL_tg]
theorem tgsc_dids (x : List Tg × Int) : (tgsc x).dids = [] := by simp only [tgsc, PV.dids, PV.didsL, tgs_dids, List.append_nil]
def upM (m : List Eg) (id : Tg) : List Tg × Int := if upC m id ≠ 0 then ([], upC m id) else (upL (wayD m id), 0)
structure UpS (m : List Eg) (w : List Eg) where
  id : Tg
  r : List Eg
  acc : List Tg
  hw : Way m id r
  hx : acc ++ (upL r).tail = upL w
theorem tgd (t : Tg) : (t.r == 0 && t.n == 0) = decide (t = default) := tg_fold t default
set_option maxRecDepth 20000 in
set_option maxHeartbeats 16000000 in
theorem Up_pure (m : List Eg) (id : Tg) (hm : OkM m) : PL.Pure Try.prog 94 [tr (treeOf m), tg id] (tgsc (upM m id)) := by
  have hS := Schema_pure m id hm
  unfold upM
  by_cases hc : upC m id = 0
  · obtain ⟨hw, _, _⟩ := live_way hc
    simp only [hc, ne_eq, not_true_eq_false, if_false]
    have hc' : (schM (treeOf m) id).2 = 0 := hc
    generalize wayD m id = w at *
    have hwl : w.length ≤ 40 := by have := hw.len; have := hm.n; omega
    refine PL.Pure.of_v Try.func94 (by decide) rfl Try.ntmps94 Try.results94 (by simp) (tgsc_dids _) ?_
    simp only [go_sem, reduceIte, Nat.reduceEqDiff, reduceCtorEq, Nat.reduceLT, Nat.reduceAdd, Nat.reduceSub, Nat.reduceMul, Nat.reduceLeDiff, Int.reduceLT, Int.reduceLE, Int.reduceToNat, Int.reduceEq, Int.reduceAdd, Int.reduceSub, Int.reduceNeg, Int.reduceBNe, Int.reduceBEq, tr, tg]
    refine vCall_of (hS) ?_ ?_ ?_; (focus simp only [go_sem, reduceIte, Nat.reduceEqDiff, reduceCtorEq, Nat.reduceLT, Nat.reduceAdd, Nat.reduceSub, Nat.reduceMul, Nat.reduceLeDiff, Int.reduceLT, Int.reduceLE, Int.reduceToNat, Int.reduceEq, Int.reduceAdd, Int.reduceSub, Int.reduceNeg, Int.reduceBNe, Int.reduceBEq, tr, tg]); (focus simp only [go_sem, reduceIte, Nat.reduceEqDiff, reduceCtorEq, Nat.reduceLT, Nat.reduceAdd, Nat.reduceSub, Nat.reduceMul, Nat.reduceLeDiff, Int.reduceLT, Int.reduceLE, Int.reduceToNat, Int.reduceEq, Int.reduceAdd, Int.reduceSub, Int.reduceNeg, Int.reduceBNe, Int.reduceBEq, tr, tg])
    simp only [go_sem, reduceIte, Nat.reduceEqDiff, reduceCtorEq, Nat.reduceLT, Nat.reduceAdd, Nat.reduceSub, Nat.reduceMul, Nat.reduceLeDiff, Int.reduceLT, Int.reduceLE, Int.reduceToNat, Int.reduceEq, Int.reduceAdd, Int.reduceSub, Int.reduceNeg, Int.reduceBNe, Int.reduceBEq, fldsc, hc']
    refine awp_moveRow 8 21 39 1 2 24 [tg id] rfl rfl rfl ?_
    refine vLoopM (ι := UpS m w) 41 (fun x => [(0, tr (treeOf m)), (3, .ptr 3 0), (8, .sl (.row 39) (x.acc.map tg))]) (fun x => [(3, [.int .i64 x.id.r, .int .i64 x.id.n], false)]) (fun x => [(39, .live x.acc.length 2 24)]) (fun x => x.r.length) ⟨id, w, [id], hw, by rw [upL_head hw]; rfl⟩
      ⟨rfl, (forall_cons rfl (forall_cons rfl (forall_cons rfl (forall_nil)))), forall_cons ⟨rfl, rfl⟩ forall_nil, forall_cons rfl forall_nil⟩ (fun x => ⟨forall_cons rfl (forall_cons rfl (forall_cons (by simp [PV.ids, refInM]) forall_nil)), (forall_cons rfl (forall_nil))⟩) (fun x => ?_)
    obtain ⟨id', r, acc, hr, hx⟩ := x
    simp only
    have hal : acc.length ≤ 41 := by
      have := congrArg List.length hx
      rw [List.length_append, upL_len] at this
      omega
    have hrm := room1 (show acc.length + 1 ≤ 1000000 by omega) (show 16 ≤ 1000 by omega)
    by_cases hd : id' = default
    · have hb : decide (id' = default) = true := by simpa using hd
      have hacc : acc = upL w := by
        rw [← hx]
        subst hd
        cases hr with
        | root => simp [upL]
        | step hn _ _ => exact absurd rfl hn
      simp only [go_sem, reduceIte, Nat.reduceEqDiff, reduceCtorEq, Nat.reduceLT, Nat.reduceAdd, Nat.reduceSub, Nat.reduceMul, Nat.reduceLeDiff, Int.reduceLT, Int.reduceLE, Int.reduceToNat, Int.reduceEq, Int.reduceAdd, Int.reduceSub, Int.reduceNeg, Int.reduceBNe, Int.reduceBEq, tgd, hb, Bool.not_true, tgsc, tgs, hacc]
    · have hb : decide (id' = default) = false := by simpa using hd
      have hF := TFind_pure m id' hm
      cases hr with
      | root => exact absurd rfl hd
      | step hn he hw' =>
        rename_i e u
        have hfm : findTM m id' = (e, 0) := by simp [findTM, he]
        rw [hfm] at hF
        have hx' : (acc ++ [e.par]) ++ (upL u).tail = upL w := by
          rw [← hx, upL_snoc, List.tail_cons, upL_head hw']; simp
        simp only [go_sem, reduceIte, Nat.reduceEqDiff, reduceCtorEq, Nat.reduceLT, Nat.reduceAdd, Nat.reduceSub, Nat.reduceMul, Nat.reduceLeDiff, Int.reduceLT, Int.reduceLE, Int.reduceToNat, Int.reduceEq, Int.reduceAdd, Int.reduceSub, Int.reduceNeg, Int.reduceBNe, Int.reduceBEq, tr, tgd, hb, Bool.not_false]
        refine vCall_of (hF) ?_ ?_ ?_; (focus simp only [go_sem, reduceIte, Nat.reduceEqDiff, reduceCtorEq, Nat.reduceLT, Nat.reduceAdd, Nat.reduceSub, Nat.reduceMul, Nat.reduceLeDiff, Int.reduceLT, Int.reduceLE, Int.reduceToNat, Int.reduceEq, Int.reduceAdd, Int.reduceSub, Int.reduceNeg, Int.reduceBNe, Int.reduceBEq, tr, tg]); (focus simp only [go_sem, reduceIte, Nat.reduceEqDiff, reduceCtorEq, Nat.reduceLT, Nat.reduceAdd, Nat.reduceSub, Nat.reduceMul, Nat.reduceLeDiff, Int.reduceLT, Int.reduceLE, Int.reduceToNat, Int.reduceEq, Int.reduceAdd, Int.reduceSub, Int.reduceNeg, Int.reduceBNe, Int.reduceBEq, tr, tg])
        simp only [go_sem, reduceIte, Nat.reduceEqDiff, reduceCtorEq, Nat.reduceLT, Nat.reduceAdd, Nat.reduceSub, Nat.reduceMul, Nat.reduceLeDiff, Int.reduceLT, Int.reduceLE, Int.reduceToNat, Int.reduceEq, Int.reduceAdd, Int.reduceSub, Int.reduceNeg, Int.reduceBNe, Int.reduceBEq, edc, eg, sized_tg, hrm, List.length_map]
        exact ⟨⟨e.par, u, acc ++ [e.par], hw', hx'⟩, by show u.length < (u ++ [e]).length; simp, ⟨rfl, forall_cons rfl (forall_cons rfl (forall_cons (by simp [upd, tg]) forall_nil)), forall_cons ⟨rfl, rfl⟩ forall_nil, forall_cons (by simp [upd]) forall_nil⟩⟩
  · have hc' : ((schM (treeOf m) id).2 != 0) = true := by have h : (schM (treeOf m) id).2 ≠ 0 := hc; simpa using h
    simp only [ne_eq, hc, not_false_eq_true, if_true]
    refine PL.Pure.of_v Try.func94 (by decide) rfl Try.ntmps94 Try.results94 (by simp) (tgsc_dids _) ?_
    simp only [go_sem, reduceIte, Nat.reduceEqDiff, reduceCtorEq, Nat.reduceLT, Nat.reduceAdd, Nat.reduceSub, Nat.reduceMul, Nat.reduceLeDiff, Int.reduceLT, Int.reduceLE, Int.reduceToNat, Int.reduceEq, Int.reduceAdd, Int.reduceSub, Int.reduceNeg, Int.reduceBNe, Int.reduceBEq, tr, tg]
    refine vCall_of (hS) ?_ ?_ ?_; (focus simp only [go_sem, reduceIte, Nat.reduceEqDiff, reduceCtorEq, Nat.reduceLT, Nat.reduceAdd, Nat.reduceSub, Nat.reduceMul, Nat.reduceLeDiff, Int.reduceLT, Int.reduceLE, Int.reduceToNat, Int.reduceEq, Int.reduceAdd, Int.reduceSub, Int.reduceNeg, Int.reduceBNe, Int.reduceBEq, tr, tg]); (focus simp only [go_sem, reduceIte, Nat.reduceEqDiff, reduceCtorEq, Nat.reduceLT, Nat.reduceAdd, Nat.reduceSub, Nat.reduceMul, Nat.reduceLeDiff, Int.reduceLT, Int.reduceLE, Int.reduceToNat, Int.reduceEq, Int.reduceAdd, Int.reduceSub, Int.reduceNeg, Int.reduceBNe, Int.reduceBEq, tr, tg])
    simp only [go_sem, reduceIte, Nat.reduceEqDiff, reduceCtorEq, Nat.reduceLT, Nat.reduceAdd, Nat.reduceSub, Nat.reduceMul, Nat.reduceLeDiff, Int.reduceLT, Int.reduceLE, Int.reduceToNat, Int.reduceEq, Int.reduceAdd, Int.reduceSub, Int.reduceNeg, Int.reduceBNe, Int.reduceBEq, fldsc, hc', tgsc, tgs, List.map_nil, upC]
end Go.Proofs.Ytbojhapdidieoaa
