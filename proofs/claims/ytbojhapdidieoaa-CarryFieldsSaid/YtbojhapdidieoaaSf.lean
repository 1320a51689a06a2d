/- Contracts of functions and laws of this seat, each for every input that it names: lemmas of the proof. -/
import Derived.Test.YtbojhapdidieoaaSa
set_option linter.unusedSimpArgs false
set_option linter.unusedVariables false
set_option linter.unusedSimpArgs false
set_option linter.unusedVariables false
namespace Go.Proofs.Ytbojhapdidieoaa
open Go.PL
def traceL : List Ln → Rf → Rf × Bool
  | [], r => (r, true)
  | x :: xs, r => if (traceM x r).2 = false then (default, false) else traceL xs (traceM x r).1
def keptL : List Ln → Rf → Bool
  | [], r => true
  | x :: xs, r => if keptM x r = false then false else if (traceM x r).2 = false then false else keptL xs (traceM x r).1
theorem traceL_cons (x : Ln) (xs : List Ln) (r : Rf) : traceL (x :: xs) r = if (traceM x r).2 = false then (default, false) else traceL xs (traceM x r).1 := rfl
theorem keptL_cons (x : Ln) (xs : List Ln) (r : Rf) : keptL (x :: xs) r = if keptM x r = false then false else if (traceM x r).2 = false then false else keptL xs (traceM x r).1 := rfl
def traceT (m : List Eg) (a b : Tg) (r : Rf) : Rf × Bool := if pathC m a b ≠ 0 then (default, false) else traceL (rowM m a b).1 r
def keptT (m : List Eg) (a b : Tg) (r : Rf) : Bool := if pathC m a b ≠ 0 then false else keptL (rowM m a b).1 r
def trc (x : Rf × Bool) (c : Int) : PV := .tup [ref x.1, .bool x.2, .int .i64 c]
theorem trc_dids (x : Rf × Bool) (c : Int) : (trc x c).dids = [] := by simp only [trc, PV.dids, PV.didsL, ref_dids, List.append_nil]
structure TrS (row : List Ln) (f : List Ln → Rf → Rf × Bool) (r0 : Rf) where
  k : Nat
  r : Rf
  hk : k ≤ row.length
  h : f (row.drop k) r = f row r0
structure KpS (row : List Ln) (r0 : Rf) where
  k : Nat
  r : Rf
  hk : k ≤ row.length
  h : keptL (row.drop k) r = keptL row r0
theorem row_ok {m : List Eg} {a b : Tg} (hm : OkM m) : (rowM m a b).1.length ≤ 1000 ∧ ∀ x ∈ (rowM m a b).1, OkLn x := by
  unfold rowM
  split
  · simp
  · rename_i h
    have hl := legs_len m a b hm
    unfold pathM at hl
    rw [if_neg h] at hl
    refine ⟨by simp only at hl; simp [lenses]; omega, fun x hx => ?_⟩
    obtain ⟨y, _, rfl⟩ := List.mem_map.1 hx
    exact okLens hm y
set_option maxRecDepth 20000 in
set_option maxHeartbeats 16000000 in
theorem TraceTo_pure (m : List Eg) (a b : Tg) (r : Rf) (hm : OkM m) (hr : RightM m) : PL.Pure Try.prog 41 [tr (treeOf m), tg a, tg b, ref r] (trc (traceT m a b r) (pathC m a b)) := by
  have hR := Row_pure m a b hm hr
  obtain ⟨hrl, hro⟩ := row_ok (a := a) (b := b) hm
  have hc2 : (rowM m a b).2 = pathC m a b := by unfold rowM; split <;> simp_all
  unfold traceT
  by_cases hc : pathC m a b = 0
  · rw [if_neg (fun h => h hc)]
    rw [hc] at hc2
    generalize hrow : rowM m a b = rw0 at *
    obtain ⟨row, c0⟩ := rw0
    simp only at hc2 hrl hro ⊢
    subst hc2
    rw [hc]
    refine PL.Pure.of_v Try.func41 (by decide) rfl Try.ntmps41 Try.results41 (by simp) (trc_dids _ _) ?_
    simp only [go_sem, reduceIte, Nat.reduceEqDiff, reduceCtorEq, Nat.reduceLT, Nat.reduceAdd, Nat.reduceSub, Nat.reduceMul, Nat.reduceLeDiff, Int.reduceLT, Int.reduceLE, Int.reduceToNat, Int.reduceEq, Int.reduceAdd, Int.reduceSub, Int.reduceNeg, Int.reduceBNe, Int.reduceBEq, tr, tg, ref]
    refine vScopeM (ι := TrS row traceL r) 47 (fun x => [(7, .ptr 7 0), (8, .ptr 8 0), (11, lnss row), (13, .int .i64 (x.k : Int))]) (fun x => [(7, [.int .i64 x.r.sc, .str x.r.gr, .str x.r.nm], false), (8, [.int .i64 0, .str [], .str []], false)]) (fun x => []) (fun x => row.length - x.k) 0 _ (by exact rfl) (fun x => ⟨(forall_cons rfl (forall_cons rfl (forall_cons rfl (forall_cons rfl (forall_nil))))), forall_cons rfl (forall_cons rfl forall_nil)⟩) (fun x => ?_) (fun cut => ?_)
    · obtain ⟨k, r1, hk, h⟩ := x
      simp only
      by_cases he : k = row.length
      · have hb : ((k : Int) == (row.length : Int)) = true := by simp [he]
        have hd : traceL row r = (r1, true) := by rw [← h, he, List.drop_length]; rfl
        simp only [go_sem, reduceIte, Nat.reduceEqDiff, reduceCtorEq, Nat.reduceLT, Nat.reduceAdd, Nat.reduceSub, Nat.reduceMul, Nat.reduceLeDiff, Int.reduceLT, Int.reduceLE, Int.reduceToNat, Int.reduceEq, Int.reduceAdd, Int.reduceSub, Int.reduceNeg, Int.reduceBNe, Int.reduceBEq, lnss, List.length_map, hb, hd, trc, ref]
      · have hb : ((k : Int) == (row.length : Int)) = false := by simp; omega
        have hka : k < row.length := by omega
        have i0 : (0 : Int) ≤ (k : Int) := by omega
        have i1 : (k : Int) < (row.length : Int) := by omega
        have w1 : IntKind.i64.wrap ((k : Int) + 1) = ((k + 1 : Nat) : Int) := by rw [w64 (by omega)]; rfl
        have hT := Trace_pure (row.getD k default) r1 (hro _ (getD_mem (d := default) hka))
        rw [drop_ln hka, traceL_cons] at h
        cases hz : (traceM (row.getD k default) r1).2
        · rw [if_pos hz] at h
          simp only [go_sem, reduceIte, Nat.reduceEqDiff, reduceCtorEq, Nat.reduceLT, Nat.reduceAdd, Nat.reduceSub, Nat.reduceMul, Nat.reduceLeDiff, Int.reduceLT, Int.reduceLE, Int.reduceToNat, Int.reduceEq, Int.reduceAdd, Int.reduceSub, Int.reduceNeg, Int.reduceBNe, Int.reduceBEq, lnss, List.length_map, hb]
          refine vDrawQ (by kernel_rfl) (by kernel_rfl) ?_
          simp only [go_sem, reduceIte, Nat.reduceEqDiff, reduceCtorEq, Nat.reduceLT, Nat.reduceAdd, Nat.reduceSub, Nat.reduceMul, Nat.reduceLeDiff, Int.reduceLT, Int.reduceLE, Int.reduceToNat, Int.reduceEq, Int.reduceAdd, Int.reduceSub, Int.reduceNeg, Int.reduceBNe, Int.reduceBEq, getD_ln hka, lns, i0, i1]
          refine vCall_of (hT) ?_ ?_ ?_; (focus simp only [go_sem, reduceIte, Nat.reduceEqDiff, reduceCtorEq, Nat.reduceLT, Nat.reduceAdd, Nat.reduceSub, Nat.reduceMul, Nat.reduceLeDiff, Int.reduceLT, Int.reduceLE, Int.reduceToNat, Int.reduceEq, Int.reduceAdd, Int.reduceSub, Int.reduceNeg, Int.reduceBNe, Int.reduceBEq, lns, ref]); (focus simp only [go_sem, reduceIte, Nat.reduceEqDiff, reduceCtorEq, Nat.reduceLT, Nat.reduceAdd, Nat.reduceSub, Nat.reduceMul, Nat.reduceLeDiff, Int.reduceLT, Int.reduceLE, Int.reduceToNat, Int.reduceEq, Int.reduceAdd, Int.reduceSub, Int.reduceNeg, Int.reduceBNe, Int.reduceBEq, lns, ref])
          simp only [go_sem, reduceIte, Nat.reduceEqDiff, reduceCtorEq, Nat.reduceLT, Nat.reduceAdd, Nat.reduceSub, Nat.reduceMul, Nat.reduceLeDiff, Int.reduceLT, Int.reduceLE, Int.reduceToNat, Int.reduceEq, Int.reduceAdd, Int.reduceSub, Int.reduceNeg, Int.reduceBNe, Int.reduceBEq, refb, ref, hz, ← h, trc]
          rfl
        · rw [if_neg (by rw [hz]; simp)] at h
          simp only [go_sem, reduceIte, Nat.reduceEqDiff, reduceCtorEq, Nat.reduceLT, Nat.reduceAdd, Nat.reduceSub, Nat.reduceMul, Nat.reduceLeDiff, Int.reduceLT, Int.reduceLE, Int.reduceToNat, Int.reduceEq, Int.reduceAdd, Int.reduceSub, Int.reduceNeg, Int.reduceBNe, Int.reduceBEq, lnss, List.length_map, hb]
          refine vDrawQ (by kernel_rfl) (by kernel_rfl) ?_
          simp only [go_sem, reduceIte, Nat.reduceEqDiff, reduceCtorEq, Nat.reduceLT, Nat.reduceAdd, Nat.reduceSub, Nat.reduceMul, Nat.reduceLeDiff, Int.reduceLT, Int.reduceLE, Int.reduceToNat, Int.reduceEq, Int.reduceAdd, Int.reduceSub, Int.reduceNeg, Int.reduceBNe, Int.reduceBEq, getD_ln hka, lns, i0, i1]
          refine vCall_of (hT) ?_ ?_ ?_; (focus simp only [go_sem, reduceIte, Nat.reduceEqDiff, reduceCtorEq, Nat.reduceLT, Nat.reduceAdd, Nat.reduceSub, Nat.reduceMul, Nat.reduceLeDiff, Int.reduceLT, Int.reduceLE, Int.reduceToNat, Int.reduceEq, Int.reduceAdd, Int.reduceSub, Int.reduceNeg, Int.reduceBNe, Int.reduceBEq, lns, ref]); (focus simp only [go_sem, reduceIte, Nat.reduceEqDiff, reduceCtorEq, Nat.reduceLT, Nat.reduceAdd, Nat.reduceSub, Nat.reduceMul, Nat.reduceLeDiff, Int.reduceLT, Int.reduceLE, Int.reduceToNat, Int.reduceEq, Int.reduceAdd, Int.reduceSub, Int.reduceNeg, Int.reduceBNe, Int.reduceBEq, lns, ref])
          simp only [go_sem, reduceIte, Nat.reduceEqDiff, reduceCtorEq, Nat.reduceLT, Nat.reduceAdd, Nat.reduceSub, Nat.reduceMul, Nat.reduceLeDiff, Int.reduceLT, Int.reduceLE, Int.reduceToNat, Int.reduceEq, Int.reduceAdd, Int.reduceSub, Int.reduceNeg, Int.reduceBNe, Int.reduceBEq, refb, ref, hz, w1]
          exact ⟨⟨k + 1, (traceM (row.getD k default) r1).1, by omega, h⟩, by show row.length - (k + 1) < row.length - k; omega, ⟨rfl, (forall_cons rfl (forall_cons rfl (forall_cons rfl (forall_cons rfl (forall_nil))))), forall_cons ⟨rfl, rfl⟩ (forall_cons ⟨rfl, rfl⟩ forall_nil), forall_nil⟩⟩
    · simp only [go_sem, reduceIte, Nat.reduceEqDiff, reduceCtorEq, Nat.reduceLT, Nat.reduceAdd, Nat.reduceSub, Nat.reduceMul, Nat.reduceLeDiff, Int.reduceLT, Int.reduceLE, Int.reduceToNat, Int.reduceEq, Int.reduceAdd, Int.reduceSub, Int.reduceNeg, Int.reduceBNe, Int.reduceBEq]
      refine vCall_of (hR) ?_ ?_ ?_; (focus simp only [go_sem, reduceIte, Nat.reduceEqDiff, reduceCtorEq, Nat.reduceLT, Nat.reduceAdd, Nat.reduceSub, Nat.reduceMul, Nat.reduceLeDiff, Int.reduceLT, Int.reduceLE, Int.reduceToNat, Int.reduceEq, Int.reduceAdd, Int.reduceSub, Int.reduceNeg, Int.reduceBNe, Int.reduceBEq, tr, tg]); (focus simp only [go_sem, reduceIte, Nat.reduceEqDiff, reduceCtorEq, Nat.reduceLT, Nat.reduceAdd, Nat.reduceSub, Nat.reduceMul, Nat.reduceLeDiff, Int.reduceLT, Int.reduceLE, Int.reduceToNat, Int.reduceEq, Int.reduceAdd, Int.reduceSub, Int.reduceNeg, Int.reduceBNe, Int.reduceBEq, tr, tg])
      simp only [go_sem, reduceIte, Nat.reduceEqDiff, reduceCtorEq, Nat.reduceLT, Nat.reduceAdd, Nat.reduceSub, Nat.reduceMul, Nat.reduceLeDiff, Int.reduceLT, Int.reduceLE, Int.reduceToNat, Int.reduceEq, Int.reduceAdd, Int.reduceSub, Int.reduceNeg, Int.reduceBNe, Int.reduceBEq, lnsc]
      exact awp_label_seq (cut ⟨0, r, Nat.zero_le _, rfl⟩ _ ⟨rfl, (forall_cons rfl (forall_cons rfl (forall_cons rfl (forall_cons rfl (forall_nil))))), forall_cons ⟨rfl, rfl⟩ (forall_cons ⟨rfl, rfl⟩ forall_nil), forall_nil⟩)
  · rw [if_pos hc]
    have hc' : (pathC m a b != 0) = true := by simpa using hc
    have hcr : rowM m a b = ([], pathC m a b) := by unfold rowM; rw [if_pos hc]
    rw [hcr] at hR
    refine PL.Pure.of_v Try.func41 (by decide) rfl Try.ntmps41 Try.results41 (by simp) (trc_dids _ _) ?_
    simp only [go_sem, reduceIte, Nat.reduceEqDiff, reduceCtorEq, Nat.reduceLT, Nat.reduceAdd, Nat.reduceSub, Nat.reduceMul, Nat.reduceLeDiff, Int.reduceLT, Int.reduceLE, Int.reduceToNat, Int.reduceEq, Int.reduceAdd, Int.reduceSub, Int.reduceNeg, Int.reduceBNe, Int.reduceBEq, tr, tg, ref]
    refine vScope0 ?_
    simp only [go_sem, reduceIte, Nat.reduceEqDiff, reduceCtorEq, Nat.reduceLT, Nat.reduceAdd, Nat.reduceSub, Nat.reduceMul, Nat.reduceLeDiff, Int.reduceLT, Int.reduceLE, Int.reduceToNat, Int.reduceEq, Int.reduceAdd, Int.reduceSub, Int.reduceNeg, Int.reduceBNe, Int.reduceBEq]
    refine vCall_of (hR) ?_ ?_ ?_; (focus simp only [go_sem, reduceIte, Nat.reduceEqDiff, reduceCtorEq, Nat.reduceLT, Nat.reduceAdd, Nat.reduceSub, Nat.reduceMul, Nat.reduceLeDiff, Int.reduceLT, Int.reduceLE, Int.reduceToNat, Int.reduceEq, Int.reduceAdd, Int.reduceSub, Int.reduceNeg, Int.reduceBNe, Int.reduceBEq, tr, tg]); (focus simp only [go_sem, reduceIte, Nat.reduceEqDiff, reduceCtorEq, Nat.reduceLT, Nat.reduceAdd, Nat.reduceSub, Nat.reduceMul, Nat.reduceLeDiff, Int.reduceLT, Int.reduceLE, Int.reduceToNat, Int.reduceEq, Int.reduceAdd, Int.reduceSub, Int.reduceNeg, Int.reduceBNe, Int.reduceBEq, tr, tg])
    simp only [go_sem, reduceIte, Nat.reduceEqDiff, reduceCtorEq, Nat.reduceLT, Nat.reduceAdd, Nat.reduceSub, Nat.reduceMul, Nat.reduceLeDiff, Int.reduceLT, Int.reduceLE, Int.reduceToNat, Int.reduceEq, Int.reduceAdd, Int.reduceSub, Int.reduceNeg, Int.reduceBNe, Int.reduceBEq, lnsc, lnss, hc', trc, ref]
    rfl
def kpc (x : Bool) (c : Int) : PV := .tup [.bool x, .int .i64 c]
theorem kpc_dids (x : Bool) (c : Int) : (kpc x c).dids = [] := rfl
set_option maxRecDepth 20000 in
set_option maxHeartbeats 16000000 in
theorem KeptTo_pure (m : List Eg) (a b : Tg) (r : Rf) (hm : OkM m) (hr : RightM m) : PL.Pure Try.prog 42 [tr (treeOf m), tg a, tg b, ref r] (kpc (keptT m a b r) (pathC m a b)) := by
  have hR := Row_pure m a b hm hr
  obtain ⟨hrl, hro⟩ := row_ok (a := a) (b := b) hm
  have hc2 : (rowM m a b).2 = pathC m a b := by unfold rowM; split <;> simp_all
  unfold keptT
  by_cases hc : pathC m a b = 0
  · rw [if_neg (fun h => h hc)]
    rw [hc] at hc2
    generalize hrow : rowM m a b = rw0 at *
    obtain ⟨row, c0⟩ := rw0
    simp only at hc2 hrl hro ⊢
    subst hc2
    rw [hc]
    refine PL.Pure.of_v Try.func42 (by decide) rfl Try.ntmps42 Try.results42 (by simp) (kpc_dids _ _) ?_
    simp only [go_sem, reduceIte, Nat.reduceEqDiff, reduceCtorEq, Nat.reduceLT, Nat.reduceAdd, Nat.reduceSub, Nat.reduceMul, Nat.reduceLeDiff, Int.reduceLT, Int.reduceLE, Int.reduceToNat, Int.reduceEq, Int.reduceAdd, Int.reduceSub, Int.reduceNeg, Int.reduceBNe, Int.reduceBEq, tr, tg, ref]
    refine vScopeM (ι := KpS row r) 50 (fun x => [(7, .ptr 7 0), (10, lnss row), (12, .int .i64 (x.k : Int))]) (fun x => [(7, [.int .i64 x.r.sc, .str x.r.gr, .str x.r.nm], false)]) (fun x => []) (fun x => row.length - x.k) 0 _ (by exact rfl) (fun x => ⟨(forall_cons rfl (forall_cons rfl (forall_cons rfl (forall_nil)))), forall_cons rfl forall_nil⟩) (fun x => ?_) (fun cut => ?_)
    · obtain ⟨k, r1, hk, h⟩ := x
      simp only
      by_cases he : k = row.length
      · have hb : ((k : Int) == (row.length : Int)) = true := by simp [he]
        have hd : keptL row r = true := by rw [← h, he, List.drop_length]; rfl
        simp only [go_sem, reduceIte, Nat.reduceEqDiff, reduceCtorEq, Nat.reduceLT, Nat.reduceAdd, Nat.reduceSub, Nat.reduceMul, Nat.reduceLeDiff, Int.reduceLT, Int.reduceLE, Int.reduceToNat, Int.reduceEq, Int.reduceAdd, Int.reduceSub, Int.reduceNeg, Int.reduceBNe, Int.reduceBEq, lnss, List.length_map, hb, hd, kpc]
      · have hb : ((k : Int) == (row.length : Int)) = false := by simp; omega
        have hka : k < row.length := by omega
        have i0 : (0 : Int) ≤ (k : Int) := by omega
        have i1 : (k : Int) < (row.length : Int) := by omega
        have w1 : IntKind.i64.wrap ((k : Int) + 1) = ((k + 1 : Nat) : Int) := by rw [w64 (by omega)]; rfl
        have hT := Trace_pure (row.getD k default) r1 (hro _ (getD_mem (d := default) hka))
        have hK := Kept_pure (row.getD k default) r1 (hro _ (getD_mem (d := default) hka))
        rw [drop_ln hka, keptL_cons] at h
        cases hy : keptM (row.getD k default) r1
        · rw [if_pos hy] at h
          rw [hy] at hK
          simp only [go_sem, reduceIte, Nat.reduceEqDiff, reduceCtorEq, Nat.reduceLT, Nat.reduceAdd, Nat.reduceSub, Nat.reduceMul, Nat.reduceLeDiff, Int.reduceLT, Int.reduceLE, Int.reduceToNat, Int.reduceEq, Int.reduceAdd, Int.reduceSub, Int.reduceNeg, Int.reduceBNe, Int.reduceBEq, lnss, List.length_map, hb]
          refine vDrawQ (by kernel_rfl) (by kernel_rfl) ?_
          simp only [go_sem, reduceIte, Nat.reduceEqDiff, reduceCtorEq, Nat.reduceLT, Nat.reduceAdd, Nat.reduceSub, Nat.reduceMul, Nat.reduceLeDiff, Int.reduceLT, Int.reduceLE, Int.reduceToNat, Int.reduceEq, Int.reduceAdd, Int.reduceSub, Int.reduceNeg, Int.reduceBNe, Int.reduceBEq, getD_ln hka, lns, i0, i1]
          refine vCall_of (hK) ?_ ?_ ?_; (focus simp only [go_sem, reduceIte, Nat.reduceEqDiff, reduceCtorEq, Nat.reduceLT, Nat.reduceAdd, Nat.reduceSub, Nat.reduceMul, Nat.reduceLeDiff, Int.reduceLT, Int.reduceLE, Int.reduceToNat, Int.reduceEq, Int.reduceAdd, Int.reduceSub, Int.reduceNeg, Int.reduceBNe, Int.reduceBEq, lns, ref]); (focus simp only [go_sem, reduceIte, Nat.reduceEqDiff, reduceCtorEq, Nat.reduceLT, Nat.reduceAdd, Nat.reduceSub, Nat.reduceMul, Nat.reduceLeDiff, Int.reduceLT, Int.reduceLE, Int.reduceToNat, Int.reduceEq, Int.reduceAdd, Int.reduceSub, Int.reduceNeg, Int.reduceBNe, Int.reduceBEq, lns, ref])
          simp only [go_sem, reduceIte, Nat.reduceEqDiff, reduceCtorEq, Nat.reduceLT, Nat.reduceAdd, Nat.reduceSub, Nat.reduceMul, Nat.reduceLeDiff, Int.reduceLT, Int.reduceLE, Int.reduceToNat, Int.reduceEq, Int.reduceAdd, Int.reduceSub, Int.reduceNeg, Int.reduceBNe, Int.reduceBEq, ← h, kpc]
        rw [if_neg (by rw [hy]; simp)] at h
        rw [hy] at hK
        cases hz : (traceM (row.getD k default) r1).2
        · rw [if_pos hz] at h
          simp only [go_sem, reduceIte, Nat.reduceEqDiff, reduceCtorEq, Nat.reduceLT, Nat.reduceAdd, Nat.reduceSub, Nat.reduceMul, Nat.reduceLeDiff, Int.reduceLT, Int.reduceLE, Int.reduceToNat, Int.reduceEq, Int.reduceAdd, Int.reduceSub, Int.reduceNeg, Int.reduceBNe, Int.reduceBEq, lnss, List.length_map, hb]
          refine vDrawQ (by kernel_rfl) (by kernel_rfl) ?_
          simp only [go_sem, reduceIte, Nat.reduceEqDiff, reduceCtorEq, Nat.reduceLT, Nat.reduceAdd, Nat.reduceSub, Nat.reduceMul, Nat.reduceLeDiff, Int.reduceLT, Int.reduceLE, Int.reduceToNat, Int.reduceEq, Int.reduceAdd, Int.reduceSub, Int.reduceNeg, Int.reduceBNe, Int.reduceBEq, getD_ln hka, lns, i0, i1]
          refine vCall_of (hK) ?_ ?_ ?_; (focus simp only [go_sem, reduceIte, Nat.reduceEqDiff, reduceCtorEq, Nat.reduceLT, Nat.reduceAdd, Nat.reduceSub, Nat.reduceMul, Nat.reduceLeDiff, Int.reduceLT, Int.reduceLE, Int.reduceToNat, Int.reduceEq, Int.reduceAdd, Int.reduceSub, Int.reduceNeg, Int.reduceBNe, Int.reduceBEq, lns, ref]); (focus simp only [go_sem, reduceIte, Nat.reduceEqDiff, reduceCtorEq, Nat.reduceLT, Nat.reduceAdd, Nat.reduceSub, Nat.reduceMul, Nat.reduceLeDiff, Int.reduceLT, Int.reduceLE, Int.reduceToNat, Int.reduceEq, Int.reduceAdd, Int.reduceSub, Int.reduceNeg, Int.reduceBNe, Int.reduceBEq, lns, ref])
          simp only [go_sem, reduceIte, Nat.reduceEqDiff, reduceCtorEq, Nat.reduceLT, Nat.reduceAdd, Nat.reduceSub, Nat.reduceMul, Nat.reduceLeDiff, Int.reduceLT, Int.reduceLE, Int.reduceToNat, Int.reduceEq, Int.reduceAdd, Int.reduceSub, Int.reduceNeg, Int.reduceBNe, Int.reduceBEq]
          refine vDrawQ (by kernel_rfl) (by kernel_rfl) ?_
          simp only [go_sem, reduceIte, Nat.reduceEqDiff, reduceCtorEq, Nat.reduceLT, Nat.reduceAdd, Nat.reduceSub, Nat.reduceMul, Nat.reduceLeDiff, Int.reduceLT, Int.reduceLE, Int.reduceToNat, Int.reduceEq, Int.reduceAdd, Int.reduceSub, Int.reduceNeg, Int.reduceBNe, Int.reduceBEq, getD_ln hka, lns, i0, i1, List.length_map]
          refine vCall_of (hT) ?_ ?_ ?_; (focus simp only [go_sem, reduceIte, Nat.reduceEqDiff, reduceCtorEq, Nat.reduceLT, Nat.reduceAdd, Nat.reduceSub, Nat.reduceMul, Nat.reduceLeDiff, Int.reduceLT, Int.reduceLE, Int.reduceToNat, Int.reduceEq, Int.reduceAdd, Int.reduceSub, Int.reduceNeg, Int.reduceBNe, Int.reduceBEq, lns, ref]); (focus simp only [go_sem, reduceIte, Nat.reduceEqDiff, reduceCtorEq, Nat.reduceLT, Nat.reduceAdd, Nat.reduceSub, Nat.reduceMul, Nat.reduceLeDiff, Int.reduceLT, Int.reduceLE, Int.reduceToNat, Int.reduceEq, Int.reduceAdd, Int.reduceSub, Int.reduceNeg, Int.reduceBNe, Int.reduceBEq, lns, ref])
          simp only [go_sem, reduceIte, Nat.reduceEqDiff, reduceCtorEq, Nat.reduceLT, Nat.reduceAdd, Nat.reduceSub, Nat.reduceMul, Nat.reduceLeDiff, Int.reduceLT, Int.reduceLE, Int.reduceToNat, Int.reduceEq, Int.reduceAdd, Int.reduceSub, Int.reduceNeg, Int.reduceBNe, Int.reduceBEq, refb, ref, hz, ← h, kpc]
        · rw [if_neg (by rw [hz]; simp)] at h
          simp only [go_sem, reduceIte, Nat.reduceEqDiff, reduceCtorEq, Nat.reduceLT, Nat.reduceAdd, Nat.reduceSub, Nat.reduceMul, Nat.reduceLeDiff, Int.reduceLT, Int.reduceLE, Int.reduceToNat, Int.reduceEq, Int.reduceAdd, Int.reduceSub, Int.reduceNeg, Int.reduceBNe, Int.reduceBEq, lnss, List.length_map, hb]
          refine vDrawQ (by kernel_rfl) (by kernel_rfl) ?_
          simp only [go_sem, reduceIte, Nat.reduceEqDiff, reduceCtorEq, Nat.reduceLT, Nat.reduceAdd, Nat.reduceSub, Nat.reduceMul, Nat.reduceLeDiff, Int.reduceLT, Int.reduceLE, Int.reduceToNat, Int.reduceEq, Int.reduceAdd, Int.reduceSub, Int.reduceNeg, Int.reduceBNe, Int.reduceBEq, getD_ln hka, lns, i0, i1]
          refine vCall_of (hK) ?_ ?_ ?_; (focus simp only [go_sem, reduceIte, Nat.reduceEqDiff, reduceCtorEq, Nat.reduceLT, Nat.reduceAdd, Nat.reduceSub, Nat.reduceMul, Nat.reduceLeDiff, Int.reduceLT, Int.reduceLE, Int.reduceToNat, Int.reduceEq, Int.reduceAdd, Int.reduceSub, Int.reduceNeg, Int.reduceBNe, Int.reduceBEq, lns, ref]); (focus simp only [go_sem, reduceIte, Nat.reduceEqDiff, reduceCtorEq, Nat.reduceLT, Nat.reduceAdd, Nat.reduceSub, Nat.reduceMul, Nat.reduceLeDiff, Int.reduceLT, Int.reduceLE, Int.reduceToNat, Int.reduceEq, Int.reduceAdd, Int.reduceSub, Int.reduceNeg, Int.reduceBNe, Int.reduceBEq, lns, ref])
          simp only [go_sem, reduceIte, Nat.reduceEqDiff, reduceCtorEq, Nat.reduceLT, Nat.reduceAdd, Nat.reduceSub, Nat.reduceMul, Nat.reduceLeDiff, Int.reduceLT, Int.reduceLE, Int.reduceToNat, Int.reduceEq, Int.reduceAdd, Int.reduceSub, Int.reduceNeg, Int.reduceBNe, Int.reduceBEq]
          refine vDrawQ (by kernel_rfl) (by kernel_rfl) ?_
          simp only [go_sem, reduceIte, Nat.reduceEqDiff, reduceCtorEq, Nat.reduceLT, Nat.reduceAdd, Nat.reduceSub, Nat.reduceMul, Nat.reduceLeDiff, Int.reduceLT, Int.reduceLE, Int.reduceToNat, Int.reduceEq, Int.reduceAdd, Int.reduceSub, Int.reduceNeg, Int.reduceBNe, Int.reduceBEq, getD_ln hka, lns, i0, i1, List.length_map]
          refine vCall_of (hT) ?_ ?_ ?_; (focus simp only [go_sem, reduceIte, Nat.reduceEqDiff, reduceCtorEq, Nat.reduceLT, Nat.reduceAdd, Nat.reduceSub, Nat.reduceMul, Nat.reduceLeDiff, Int.reduceLT, Int.reduceLE, Int.reduceToNat, Int.reduceEq, Int.reduceAdd, Int.reduceSub, Int.reduceNeg, Int.reduceBNe, Int.reduceBEq, lns, ref]); (focus simp only [go_sem, reduceIte, Nat.reduceEqDiff, reduceCtorEq, Nat.reduceLT, Nat.reduceAdd, Nat.reduceSub, Nat.reduceMul, Nat.reduceLeDiff, Int.reduceLT, Int.reduceLE, Int.reduceToNat, Int.reduceEq, Int.reduceAdd, Int.reduceSub, Int.reduceNeg, Int.reduceBNe, Int.reduceBEq, lns, ref])
          simp only [go_sem, reduceIte, Nat.reduceEqDiff, reduceCtorEq, Nat.reduceLT, Nat.reduceAdd, Nat.reduceSub, Nat.reduceMul, Nat.reduceLeDiff, Int.reduceLT, Int.reduceLE, Int.reduceToNat, Int.reduceEq, Int.reduceAdd, Int.reduceSub, Int.reduceNeg, Int.reduceBNe, Int.reduceBEq, refb, ref, hz, w1]
          exact ⟨⟨k + 1, (traceM (row.getD k default) r1).1, by omega, h⟩, by show row.length - (k + 1) < row.length - k; omega, ⟨rfl, (forall_cons rfl (forall_cons rfl (forall_cons rfl (forall_nil)))), forall_cons ⟨rfl, rfl⟩ forall_nil, forall_nil⟩⟩
    · simp only [go_sem, reduceIte, Nat.reduceEqDiff, reduceCtorEq, Nat.reduceLT, Nat.reduceAdd, Nat.reduceSub, Nat.reduceMul, Nat.reduceLeDiff, Int.reduceLT, Int.reduceLE, Int.reduceToNat, Int.reduceEq, Int.reduceAdd, Int.reduceSub, Int.reduceNeg, Int.reduceBNe, Int.reduceBEq]
      refine vCall_of (hR) ?_ ?_ ?_; (focus simp only [go_sem, reduceIte, Nat.reduceEqDiff, reduceCtorEq, Nat.reduceLT, Nat.reduceAdd, Nat.reduceSub, Nat.reduceMul, Nat.reduceLeDiff, Int.reduceLT, Int.reduceLE, Int.reduceToNat, Int.reduceEq, Int.reduceAdd, Int.reduceSub, Int.reduceNeg, Int.reduceBNe, Int.reduceBEq, tr, tg]); (focus simp only [go_sem, reduceIte, Nat.reduceEqDiff, reduceCtorEq, Nat.reduceLT, Nat.reduceAdd, Nat.reduceSub, Nat.reduceMul, Nat.reduceLeDiff, Int.reduceLT, Int.reduceLE, Int.reduceToNat, Int.reduceEq, Int.reduceAdd, Int.reduceSub, Int.reduceNeg, Int.reduceBNe, Int.reduceBEq, tr, tg])
      simp only [go_sem, reduceIte, Nat.reduceEqDiff, reduceCtorEq, Nat.reduceLT, Nat.reduceAdd, Nat.reduceSub, Nat.reduceMul, Nat.reduceLeDiff, Int.reduceLT, Int.reduceLE, Int.reduceToNat, Int.reduceEq, Int.reduceAdd, Int.reduceSub, Int.reduceNeg, Int.reduceBNe, Int.reduceBEq, lnsc]
      exact awp_label_seq (cut ⟨0, r, Nat.zero_le _, rfl⟩ _ ⟨rfl, (forall_cons rfl (forall_cons rfl (forall_cons rfl (forall_nil)))), forall_cons ⟨rfl, rfl⟩ forall_nil, forall_nil⟩)
  · rw [if_pos hc]
    have hc' : (pathC m a b != 0) = true := by simpa using hc
    have hcr : rowM m a b = ([], pathC m a b) := by unfold rowM; rw [if_pos hc]
    rw [hcr] at hR
    refine PL.Pure.of_v Try.func42 (by decide) rfl Try.ntmps42 Try.results42 (by simp) (kpc_dids _ _) ?_
    simp only [go_sem, reduceIte, Nat.reduceEqDiff, reduceCtorEq, Nat.reduceLT, Nat.reduceAdd, Nat.reduceSub, Nat.reduceMul, Nat.reduceLeDiff, Int.reduceLT, Int.reduceLE, Int.reduceToNat, Int.reduceEq, Int.reduceAdd, Int.reduceSub, Int.reduceNeg, Int.reduceBNe, Int.reduceBEq, tr, tg, ref]
    refine vScope0 ?_
    simp only [go_sem, reduceIte, Nat.reduceEqDiff, reduceCtorEq, Nat.reduceLT, Nat.reduceAdd, Nat.reduceSub, Nat.reduceMul, Nat.reduceLeDiff, Int.reduceLT, Int.reduceLE, Int.reduceToNat, Int.reduceEq, Int.reduceAdd, Int.reduceSub, Int.reduceNeg, Int.reduceBNe, Int.reduceBEq]
    refine vCall_of (hR) ?_ ?_ ?_; (focus simp only [go_sem, reduceIte, Nat.reduceEqDiff, reduceCtorEq, Nat.reduceLT, Nat.reduceAdd, Nat.reduceSub, Nat.reduceMul, Nat.reduceLeDiff, Int.reduceLT, Int.reduceLE, Int.reduceToNat, Int.reduceEq, Int.reduceAdd, Int.reduceSub, Int.reduceNeg, Int.reduceBNe, Int.reduceBEq, tr, tg]); (focus simp only [go_sem, reduceIte, Nat.reduceEqDiff, reduceCtorEq, Nat.reduceLT, Nat.reduceAdd, Nat.reduceSub, Nat.reduceMul, Nat.reduceLeDiff, Int.reduceLT, Int.reduceLE, Int.reduceToNat, Int.reduceEq, Int.reduceAdd, Int.reduceSub, Int.reduceNeg, Int.reduceBNe, Int.reduceBEq, tr, tg])
    simp only [go_sem, reduceIte, Nat.reduceEqDiff, reduceCtorEq, Nat.reduceLT, Nat.reduceAdd, Nat.reduceSub, Nat.reduceMul, Nat.reduceLeDiff, Int.reduceLT, Int.reduceLE, Int.reduceToNat, Int.reduceEq, Int.reduceAdd, Int.reduceSub, Int.reduceNeg, Int.reduceBNe, Int.reduceBEq, lnsc, lnss, hc', kpc]
end Go.Proofs.Ytbojhapdidieoaa

set_option linter.unusedSimpArgs false
set_option linter.unusedVariables false
set_option linter.unusedSimpArgs false
set_option linter.unusedVariables false
namespace Go.Proofs.Ytbojhapdidieoaa
open Go.PL
theorem arr_places {l cs : List Fd} {x : Ln} (hk : x.kind = 1 ∨ x.kind = 2 ∨ x.kind = 3 ∨ x.kind = 4 ∨ x.kind = 5 ∨ x.kind = 6 ∨ x.kind = 7 ∨ x.kind = 8 ∨ x.kind = 9 ∨ x.kind = 10) (h : arrM l x = (cs, true)) : cs.map (·.at') = comesR x := by
  obtain ⟨kind, at0, nm, ot, fac, fd, fo, ba⟩ := x
  simp only at hk
  rcases hk with rfl | rfl | rfl | rfl | rfl | rfl | rfl | rfl | rfl | rfl
  all_goals
    simp only [arrM, mergedM, comesR, Int.reduceEq, if_false, if_true, List.getD_cons_zero] at h ⊢
    (repeat' split at h)
    all_goals
      simp only [Prod.mk.injEq, Bool.false_eq_true, and_false, reduceCtorEq] at h
      try (rw [← h.1]; rfl)
/-- two lenses that lead to and back between two schemas -/
structure Pair (l m : List Fd) (x y : Ln) : Prop where
  a : applyM l x = (m, 0)
  b : applyM m y = (l, 0)
  g : goesR y = comesR x
  c : comesR y = goesR x
theorem Pair.back {l m : List Fd} {x y : Ln} (h : Pair l m x y) : Pair m l y x := ⟨h.b, h.a, h.c.symm, h.g.symm⟩
theorem pair_inv {l m : List Fd} {x : Ln} (hk : x.kind ≤ 8) (h : applyM l x = (m, 0)) : Pair l m x (invR x) := by
  obtain ⟨hl, hx, _⟩ := apply_fwd h
  have hkind : x.kind = 1 ∨ x.kind = 2 ∨ x.kind = 3 ∨ x.kind = 4 ∨ x.kind = 5 ∨ x.kind = 6 ∨ x.kind = 7 ∨ x.kind = 8 := by
    have := (rightLn_kind hx).1
    omega
  have hi := apply_inv hk h
  have hg : goesR (invR x) = comesR x ∧ comesR (invR x) = goesR x := by
    clear h hi hl
    obtain ⟨kind, ⟨sc, gr, n0⟩, nm, ot, fac, fd, fo, ba⟩ := x
    simp only at hkind
    rcases hkind with rfl | rfl | rfl | rfl | rfl | rfl | rfl | rfl
    all_goals simp [goesR, comesR, invR, named, rightLn] at hx ⊢
    all_goals simp_all
  exact ⟨h, hi, hg.1, hg.2⟩
def On (l : List Fd) (r : Rf) : Prop := ∃ f ∈ l, f.at' = r
theorem any_goes {l : List Rf} {r : Rf} : (l.any fun a => decide (r = a)) = true ↔ r ∈ l := by
  simp [List.any_eq_true]
theorem Pair.right {l m : List Fd} {x y : Ln} (h : Pair l m x y) : rightLn x = true := (apply_fwd h.a).2.1
/-- what comes is on the far side -/
theorem Pair.comes {l m : List Fd} {x y : Ln} (h : Pair l m x y) : ∀ r ∈ comesR x, On m r := by
  obtain ⟨hm, hy, cs, l1, h1, h2, h3⟩ := apply_fwd h.b
  obtain ⟨a1, a2, a3, a4, a5⟩ := go_fwd hm h2
  rw [← h.g]; exact a3
/-- what does not go stays, and is none of those that come -/
theorem Pair.stays {l m : List Fd} {x y : Ln} (h : Pair l m x y) {r : Rf} (hr : On l r) (hg : r ∉ goesR x) : On m r ∧ r ∉ comesR x := by
  obtain ⟨hl, hx, cs, l1, h1, h2, h3⟩ := apply_fwd h.a
  obtain ⟨a1, a2, a3, a4, a5⟩ := go_fwd hl h2
  obtain ⟨b1, b2, b3, b4, b5⟩ := come_fwd a1 h3
  obtain ⟨f, hf, rfl⟩ := hr
  have hf1 : f ∈ l1 := (a2 f).2 ⟨hf, hg⟩
  refine ⟨⟨f, (b2 f).2 (.inl hf1), rfl⟩, fun hc => ?_⟩
  rw [← arr_places (rightLn_kind hx).1 h1] at hc
  obtain ⟨c, hc1, hc2⟩ := List.mem_map.1 hc
  exact (b3 c hc1).2 f hf1 hc2.symm
theorem trace_stay {x : Ln} {r : Rf} (hx : rightLn x = true) (h : r ∉ goesR x) : traceM x r = (r, true) := by
  have : ((goesR x).any fun a => decide (r = a)) = false := by
    rw [Bool.eq_false_iff]; exact fun e => h (any_goes.1 e)
  unfold traceM
  rw [hx, if_neg (by simp), if_pos this]
theorem trace_go {x : Ln} {r : Rf} (hx : rightLn x = true) (h : r ∈ goesR x) : traceM x r = if (comesR x).length = 0 then (default, false) else ((comesR x).getD 0 default, true) := by
  unfold traceM
  rw [hx, if_neg (by simp), if_neg (by rw [any_goes.2 h]; simp)]
theorem Pair.trace {l m : List Fd} {x y : Ln} (h : Pair l m x y) {r : Rf} (hr : On l r) (ht : (traceM x r).2 = true) : On m (traceM x r).1 := by
  by_cases hg : r ∈ goesR x
  · rw [trace_go h.right hg] at ht ⊢
    split at ht
    · cases ht
    · rename_i hz
      rw [if_neg hz]
      exact h.comes _ (getD_mem (by omega))
  · rw [trace_stay h.right hg]
    exact (h.stays hr hg).1
theorem kept_goes {x : Ln} {r : Rf} (hx : rightLn x = true) (h : r ∈ goesR x) (hk : keptM x r = true) : (goesR x).getD 0 default = r ∧ comesR x ≠ [] := by
  have hkind := (rightLn_kind hx).1
  unfold keptM at hk
  rw [hx, if_neg (by simp)] at hk
  have h0 : ¬ idx (fun a => decide (r = a)) (goesR x) < 0 := by
    unfold idx
    cases hf : (goesR x).findIdx? fun a => decide (r = a) with
    | none => rw [List.findIdx?_eq_none_iff] at hf; have := hf r h; simp at this
    | some i => simp
  rw [if_neg h0] at hk
  clear h0 hx
  obtain ⟨kind, at0, nm, ot, fac, fd, fo, ba⟩ := x
  simp only at hkind
  rcases hkind with rfl | rfl | rfl | rfl | rfl | rfl | rfl | rfl | rfl | rfl
  all_goals simp [goesR, comesR, idx, List.findIdx?_cons] at h hk ⊢
  all_goals try (simp_all; done)
  by_cases e : r = named at0 nm
  · exact e.symm
  · rw [if_neg e] at hk
    by_cases e2 : r = named at0 ot
    · rw [if_pos e2] at hk; simp at hk
    · rw [if_neg e2] at hk; simp at hk
theorem Pair.kept {l m : List Fd} {x y : Ln} (h : Pair l m x y) {r : Rf} (hr : On l r) (hk : keptM x r = true) : (traceM x r).2 = true ∧ traceM y (traceM x r).1 = (r, true) := by
  by_cases hg : r ∈ goesR x
  · obtain ⟨k1, k2⟩ := kept_goes h.right hg hk
    have hl : 0 < (comesR x).length := List.length_pos_iff.2 k2
    rw [trace_go h.right hg, if_neg (by omega)]
    refine ⟨rfl, ?_⟩
    have hm : (comesR x).getD 0 default ∈ goesR y := by rw [h.g]; exact getD_mem hl
    have hgl : 0 < (goesR x).length := List.length_pos_of_mem hg
    rw [trace_go h.back.right hm, h.c, if_neg (by omega), k1]
  · rw [trace_stay h.right hg]
    refine ⟨rfl, trace_stay h.back.right ?_⟩
    rw [h.g]; exact (h.stays hr hg).2
/-- a row of lenses with those that lead back -/
inductive Pairs : List Fd → List Fd → List Ln → List Ln → Prop
  | nil (l : List Fd) : Pairs l l [] []
  | cons {l m n : List Fd} {x y : Ln} {xs ys : List Ln} (h : Pair l m x y) (hs : Pairs m n xs ys) : Pairs l n (x :: xs) (ys ++ [y])
theorem Pairs.append {l m n : List Fd} {xs ys us vs : List Ln} (h1 : Pairs l m xs ys) (h2 : Pairs m n us vs) : Pairs l n (xs ++ us) (vs ++ ys) := by
  induction h1 with
  | nil => simpa using h2
  | cons h hs ih => rw [← List.append_assoc]; exact .cons h (ih h2)
theorem Pairs.back {l m : List Fd} {xs ys : List Ln} (h : Pairs l m xs ys) : Pairs m l ys xs := by
  induction h with
  | nil => exact .nil _
  | cons h hs ih => exact ih.append (.cons h.back (.nil _))
theorem Pairs.trace {l m : List Fd} {xs ys : List Ln} (h : Pairs l m xs ys) : ∀ {r : Rf}, On l r → (traceL xs r).2 = true → On m (traceL xs r).1 := by
  induction h with
  | nil => intro r hr _; exact hr
  | cons h hs ih =>
    intro r hr ht
    rw [traceL_cons] at ht ⊢
    split at ht
    · cases ht
    · rename_i hz
      rw [if_neg hz]
      exact ih (h.trace hr (by simpa using hz)) ht
theorem traceL_append (xs ys : List Ln) (r : Rf) : traceL (xs ++ ys) r = if (traceL xs r).2 = false then (default, false) else traceL ys (traceL xs r).1 := by
  induction xs generalizing r with
  | nil => simp [traceL]
  | cons x xs ih =>
    rw [List.cons_append, traceL_cons, traceL_cons]
    split
    · simp
    · exact ih _
theorem Pairs.kept {l m : List Fd} {xs ys : List Ln} (h : Pairs l m xs ys) : ∀ {r : Rf}, On l r → keptL xs r = true → (traceL xs r).2 = true ∧ traceL ys (traceL xs r).1 = (r, true) := by
  induction h with
  | nil => intro r _ _; exact ⟨rfl, rfl⟩
  | @cons l m n x y xs ys h hs ih =>
    intro r hr hk
    rw [keptL_cons] at hk
    split at hk
    · cases hk
    · rename_i hz
      obtain ⟨t1, t2⟩ := h.kept hr (by simpa using hz)
      rw [if_neg (by rw [t1]; simp)] at hk
      obtain ⟨u1, u2⟩ := ih (h.trace hr t1) hk
      rw [traceL_cons, if_neg (by rw [t1]; simp)]
      refine ⟨u1, ?_⟩
      rw [traceL_append, u2]
      simp only [Bool.true_eq_false, if_false]
      rw [traceL_cons, t2]
      rfl
theorem pairs_down : ∀ (w : List Eg) {fs gs : List Fd}, (∀ e ∈ w, e.ln.kind ≤ 8) → foldA w fs = some gs → Pairs fs gs (w.map (·.ln)) (w.reverse.map fun e => invR e.ln)
  | [], fs, gs, _, h => by cases h; exact .nil _
  | e :: w, fs, gs, hk, h => by
    obtain ⟨f1, ha, hw⟩ := foldA_cons h
    rw [List.reverse_cons, List.map_append]
    exact .cons (pair_inv (hk e (by simp)) ha) (pairs_down w (fun x hx => hk x (by simp [hx])) hw)
theorem pairs_way {m : List Eg} (ha : Apart m) (hr : RightM m) {p q : List Eg} (hp : ∀ e ∈ p, e ∈ m) (hq : ∀ e ∈ q, e ∈ m) {A B : List Fd} (h1 : foldA p rootL = some A) (h2 : foldA q rootL = some B) : Pairs A B (lenses m (legsW p q)) (lenses m (legsW q p)) := by
  have kp : ∀ e ∈ p, e.ln.kind ≤ 8 := fun e he => edge_kind (hr.r e (hp e he))
  have kq : ∀ e ∈ q, e.ln.kind ≤ 8 := fun e he => edge_kind (hr.r e (hq e he))
  obtain ⟨ms, a1, a2⟩ := foldA_split (lcp p q) h1
  obtain ⟨ns, b1, b2⟩ := foldA_split (lcp p q) h2
  rw [lcp_take, b1] at a1
  cases a1
  rw [lenses_way ha hp hq, lenses_way ha hq hp, lcp_comm q p]
  exact (pairs_down _ (fun e he => kp e (List.mem_of_mem_drop he)) a2).back.append (pairs_down _ (fun e he => kq e (List.mem_of_mem_drop he)) b2)
end Go.Proofs.Ytbojhapdidieoaa

set_option linter.unusedSimpArgs false
set_option linter.unusedVariables false
set_option linter.unusedSimpArgs false
set_option linter.unusedVariables false
namespace Go.Proofs.Ytbojhapdidieoaa
open Go.PL
def awL : Ln := ⟨6, ⟨1, [], [113, 116, 121]⟩, [117, 110, 105, 116], [98, 111, 120], 12, default, [], []⟩
theorem okAwL : OkLn awL := ⟨by decide, by decide, by decide⟩
set_option maxRecDepth 20000 in
set_option maxHeartbeats 8000000 in
theorem awake19_pure : PL.Pure Try.prog 40 [] (.bool true) := by
  have h1 := Trace_pure awL ⟨1, [], [113, 116, 121]⟩ okAwL
  have h2 := Kept_pure awL ⟨1, [], [113, 116, 121]⟩ okAwL
  have h3 := Sure_pure awL ⟨1, [], [117, 110, 105, 116]⟩ okAwL
  rw [show traceM awL ⟨1, [], [113, 116, 121]⟩ = (⟨1, [], [117, 110, 105, 116]⟩, true) by decide] at h1
  rw [show keptM awL ⟨1, [], [113, 116, 121]⟩ = true by decide] at h2
  rw [show sureM awL ⟨1, [], [117, 110, 105, 116]⟩ = false by decide] at h3
  refine PL.Pure.of_v Try.func40 (by decide) rfl Try.ntmps40 Try.results40 (by simp) rfl ?_
  simp only [go_sem, reduceIte, Nat.reduceEqDiff, reduceCtorEq, Nat.reduceLT, Nat.reduceAdd, Nat.reduceSub, Nat.reduceMul, Nat.reduceLeDiff, Int.reduceLT, Int.reduceLE, Int.reduceToNat, Int.reduceEq, Int.reduceAdd, Int.reduceSub, Int.reduceNeg, Int.reduceBNe, Int.reduceBEq]
  refine vCall_of h1 ?_ ?_ ?_
  · simp only [go_sem, reduceIte, Nat.reduceEqDiff, reduceCtorEq, Nat.reduceLT, Nat.reduceAdd, Nat.reduceSub, Nat.reduceMul, Nat.reduceLeDiff, Int.reduceLT, Int.reduceLE, Int.reduceToNat, Int.reduceEq, Int.reduceAdd, Int.reduceSub, Int.reduceNeg, Int.reduceBNe, Int.reduceBEq]
  · rfl
  simp only [go_sem, reduceIte, Nat.reduceEqDiff, reduceCtorEq, Nat.reduceLT, Nat.reduceAdd, Nat.reduceSub, Nat.reduceMul, Nat.reduceLeDiff, Int.reduceLT, Int.reduceLE, Int.reduceToNat, Int.reduceEq, Int.reduceAdd, Int.reduceSub, Int.reduceNeg, Int.reduceBNe, Int.reduceBEq, refb, ref]
  refine vCall_of h2 ?_ ?_ ?_
  · simp only [go_sem, reduceIte, Nat.reduceEqDiff, reduceCtorEq, Nat.reduceLT, Nat.reduceAdd, Nat.reduceSub, Nat.reduceMul, Nat.reduceLeDiff, Int.reduceLT, Int.reduceLE, Int.reduceToNat, Int.reduceEq, Int.reduceAdd, Int.reduceSub, Int.reduceNeg, Int.reduceBNe, Int.reduceBEq]
  · rfl
  simp only [go_sem, reduceIte, Nat.reduceEqDiff, reduceCtorEq, Nat.reduceLT, Nat.reduceAdd, Nat.reduceSub, Nat.reduceMul, Nat.reduceLeDiff, Int.reduceLT, Int.reduceLE, Int.reduceToNat, Int.reduceEq, Int.reduceAdd, Int.reduceSub, Int.reduceNeg, Int.reduceBNe, Int.reduceBEq]
  refine vCall_of h3 ?_ ?_ ?_
  · simp only [go_sem, reduceIte, Nat.reduceEqDiff, reduceCtorEq, Nat.reduceLT, Nat.reduceAdd, Nat.reduceSub, Nat.reduceMul, Nat.reduceLeDiff, Int.reduceLT, Int.reduceLE, Int.reduceToNat, Int.reduceEq, Int.reduceAdd, Int.reduceSub, Int.reduceNeg, Int.reduceBNe, Int.reduceBEq]
  · rfl
  simp only [go_sem, reduceIte, Nat.reduceEqDiff, reduceCtorEq, Nat.reduceLT, Nat.reduceAdd, Nat.reduceSub, Nat.reduceMul, Nat.reduceLeDiff, Int.reduceLT, Int.reduceLE, Int.reduceToNat, Int.reduceEq, Int.reduceAdd, Int.reduceSub, Int.reduceNeg, Int.reduceBNe, Int.reduceBEq]
end Go.Proofs.Ytbojhapdidieoaa
