/- Contracts of functions and laws of this seat, each for every input that it names: lemmas of the proof. -/
import Derived.Test.YthlekjgfnldbjaaRc
set_option linter.unusedSimpArgs false
set_option linter.unusedVariables false
set_option linter.unusedSimpArgs false
set_option linter.unusedVariables false
namespace Go.Proofs.Ythlekjgfnldbjaa
open Go.PL
theorem vec_at {v : List Int} (hv : v.length = 6) (hr : rightB v = true) {i : Nat} (hi : i < 6) : 0 ≤ v.getD i 0 ∧ v.getD i 0 ≤ 400 := by
  simp only [rightB, List.all_eq_true, Bool.and_eq_true, decide_eq_true_eq] at hr
  rw [List.getD_eq_getElem?_getD, List.getElem?_eq_getElem (by omega)]
  exact hr _ (List.getElem_mem _)
set_option maxHeartbeats 1000000 in
theorem RefRight_pure (v : List Int) (hv : v.length = 6) : PL.Pure Try.prog 12 [vec v] (.bool (rightB v)) := by
  refine PL.Pure.of_v Try.func12 (by decide) rfl Try.ntmps12 Try.results12 (by simp) rfl ?_
  simp only [go_sem, reduceIte, Nat.reduceEqDiff, reduceCtorEq, Nat.reduceLT, Nat.reduceAdd, Nat.reduceSub, Nat.reduceMul, Nat.reduceLeDiff, Int.reduceLT, Int.reduceLE, Int.reduceToNat, Int.reduceEq, Int.reduceAdd, Int.reduceSub, Int.reduceNeg, Int.reduceBNe, Int.reduceBEq, vec, hv, take_vec hv]
  refine vLoop (ι := { i : Nat // i ≤ 6 ∧ ∀ j, j < i → 0 ≤ v.getD j 0 ∧ v.getD j 0 ≤ 400 }) [4, 5, 6, 7, 8, 9, 10, 11, 12, 13, 14, 15, 16, 17, 18] (fun i => [(3, .int .i64 (i.1 : Int))]) (fun _ => []) (fun _ => []) (fun i => 6 - i.1) ⟨0, by omega, fun j hj => by omega⟩
    (Meets.plain rfl (forall_cons rfl (forall_nil)) (by repeat (first | exact FrEq.refl _ _ | refine FrEq.upd rfl ?_)) rfl) (fun i => RefsL.plain (forall_cons rfl (forall_nil))) (fun i => ?_)
  obtain ⟨i, hi, hall⟩ := i
  simp only [go_sem, reduceIte, Nat.reduceEqDiff, reduceCtorEq, Nat.reduceLT, Nat.reduceAdd, Nat.reduceSub, Nat.reduceMul, Nat.reduceLeDiff, Int.reduceLT, Int.reduceLE, Int.reduceToNat, Int.reduceEq, Int.reduceAdd, Int.reduceSub, Int.reduceNeg, Int.reduceBNe, Int.reduceBEq, hv]
  refine vCond_b (fun h => ?_) (fun h => ?_)
  · have hi6 : i < v.length := by have := of_decide_eq_true h; omega
    have ew : IntKind.i64.wrap ((i : Int) + 1) = ((i + 1 : Nat) : Int) := by rw [w64 (by omega)]; rfl
    simp only [go_sem, reduceIte, Nat.reduceEqDiff, reduceCtorEq, Nat.reduceLT, Nat.reduceAdd, Nat.reduceSub, Nat.reduceMul, Nat.reduceLeDiff, Int.reduceLT, Int.reduceLE, Int.reduceToNat, Int.reduceEq, Int.reduceAdd, Int.reduceSub, Int.reduceNeg, Int.reduceBNe, Int.reduceBEq, h, hv, getD_vec hi6]
    repeat ((with_reducible refine And.intro ?_ ?_); (focus (first | omega | (simp; done))))
    refine vGuard_f (fun h1 => ?_) (fun h1 => ?_)
    · simp only [go_sem, reduceIte, Nat.reduceEqDiff, reduceCtorEq, Nat.reduceLT, Nat.reduceAdd, Nat.reduceSub, Nat.reduceMul, Nat.reduceLeDiff, Int.reduceLT, Int.reduceLE, Int.reduceToNat, Int.reduceEq, Int.reduceAdd, Int.reduceSub, Int.reduceNeg, Int.reduceBNe, Int.reduceBEq, h1, hv]
      exact (rightB_false hi6 (by have := of_decide_eq_true h1; omega))
    · simp only [go_sem, reduceIte, Nat.reduceEqDiff, reduceCtorEq, Nat.reduceLT, Nat.reduceAdd, Nat.reduceSub, Nat.reduceMul, Nat.reduceLeDiff, Int.reduceLT, Int.reduceLE, Int.reduceToNat, Int.reduceEq, Int.reduceAdd, Int.reduceSub, Int.reduceNeg, Int.reduceBNe, Int.reduceBEq, h1, hv, getD_vec hi6]
      repeat ((with_reducible refine And.intro ?_ ?_); (focus (first | omega | (simp; done))))
      refine vCond_b (fun h2 => ?_) (fun h2 => ?_)
      · simp only [go_sem, reduceIte, Nat.reduceEqDiff, reduceCtorEq, Nat.reduceLT, Nat.reduceAdd, Nat.reduceSub, Nat.reduceMul, Nat.reduceLeDiff, Int.reduceLT, Int.reduceLE, Int.reduceToNat, Int.reduceEq, Int.reduceAdd, Int.reduceSub, Int.reduceNeg, Int.reduceBNe, Int.reduceBEq, h2]
        exact (rightB_false hi6 (by have := of_decide_eq_true h2; omega))
      · simp only [go_sem, reduceIte, Nat.reduceEqDiff, reduceCtorEq, Nat.reduceLT, Nat.reduceAdd, Nat.reduceSub, Nat.reduceMul, Nat.reduceLeDiff, Int.reduceLT, Int.reduceLE, Int.reduceToNat, Int.reduceEq, Int.reduceAdd, Int.reduceSub, Int.reduceNeg, Int.reduceBNe, Int.reduceBEq, h2, ew]
        have h3 := of_decide_eq_false h1
        have h4 := of_decide_eq_false h2
        refine ⟨⟨i + 1, by omega, fun j hj => ?_⟩, by show 6 - (i+1) < 6 - i; omega, Meets.plain rfl (forall_cons rfl (forall_nil)) (by repeat (first | exact FrEq.refl _ _ | refine FrEq.upd rfl ?_)) rfl⟩
        rcases Nat.lt_or_ge j i with hlt | hge
        · exact hall j hlt
        · obtain rfl : j = i := by omega
          omega
  · simp only [go_sem, reduceIte, Nat.reduceEqDiff, reduceCtorEq, Nat.reduceLT, Nat.reduceAdd, Nat.reduceSub, Nat.reduceMul, Nat.reduceLeDiff, Int.reduceLT, Int.reduceLE, Int.reduceToNat, Int.reduceEq, Int.reduceAdd, Int.reduceSub, Int.reduceNeg, Int.reduceBNe, Int.reduceBEq, h]
    exact (rightB_true (by rw [hv]; intro j hj; exact hall j (by have := of_decide_eq_false h; omega)))
set_option maxHeartbeats 1000000 in
theorem RefCovers_pure (a b : List Int) (ha : a.length = 6) (hb : b.length = 6) : PL.Pure Try.prog 18 [vec a, vec b] (.bool (coversB a b)) := by
  have key : coversB a b = true ↔ ∀ j, j < 6 → b.getD j 0 ≤ a.getD j 0 := by
    simp only [coversB, beq_iff_eq]
    constructor
    · intro h j hj
      have : (joinV a b).getD j 0 = a.getD j 0 := by rw [h]
      simp [joinV, List.getD_eq_getElem?_getD, ha, hb, hj] at this ⊢
      omega
    · intro h
      apply List.ext_getElem (by rw [joinV_len ha hb, ha])
      intro k h1 h2
      have := h k (by omega)
      simp [joinV, List.getD_eq_getElem?_getD, ha, hb, show k < 6 by omega] at this ⊢
      omega
  refine PL.Pure.of_v Try.func18 (by decide) rfl Try.ntmps18 Try.results18 (by simp) rfl ?_
  simp only [go_sem, reduceIte, Nat.reduceEqDiff, reduceCtorEq, Nat.reduceLT, Nat.reduceAdd, Nat.reduceSub, Nat.reduceMul, Nat.reduceLeDiff, Int.reduceLT, Int.reduceLE, Int.reduceToNat, Int.reduceEq, Int.reduceAdd, Int.reduceSub, Int.reduceNeg, Int.reduceBNe, Int.reduceBEq, vec, ha, hb]
  refine vLoop (ι := { i : Nat // i ≤ 6 ∧ ∀ j, j < i → b.getD j 0 ≤ a.getD j 0 }) [6, 7, 8, 9, 10, 11, 12, 13, 14, 15, 16] (fun i => [(5, .int .i64 (i.1 : Int))]) (fun _ => []) (fun _ => []) (fun i => 6 - i.1) ⟨0, by omega, fun j hj => by omega⟩
    (Meets.plain rfl (forall_cons rfl (forall_nil)) (by repeat (first | exact FrEq.refl _ _ | refine FrEq.upd rfl ?_)) rfl) (fun i => RefsL.plain (forall_cons rfl (forall_nil))) (fun i => ?_)
  obtain ⟨i, hi, hall⟩ := i
  simp only [go_sem, reduceIte, Nat.reduceEqDiff, reduceCtorEq, Nat.reduceLT, Nat.reduceAdd, Nat.reduceSub, Nat.reduceMul, Nat.reduceLeDiff, Int.reduceLT, Int.reduceLE, Int.reduceToNat, Int.reduceEq, Int.reduceAdd, Int.reduceSub, Int.reduceNeg, Int.reduceBNe, Int.reduceBEq]
  refine vCond_b (fun h => ?_) (fun h => ?_)
  · have hi6 : i < 6 := by have := of_decide_eq_true h; omega
    have ew : IntKind.i64.wrap ((i : Int) + 1) = ((i + 1 : Nat) : Int) := by rw [w64 (by omega)]; rfl
    simp only [go_sem, reduceIte, Nat.reduceEqDiff, reduceCtorEq, Nat.reduceLT, Nat.reduceAdd, Nat.reduceSub, Nat.reduceMul, Nat.reduceLeDiff, Int.reduceLT, Int.reduceLE, Int.reduceToNat, Int.reduceEq, Int.reduceAdd, Int.reduceSub, Int.reduceNeg, Int.reduceBNe, Int.reduceBEq, h]
    refine vDrawQ (by kernel_rfl) (by kernel_rfl) ?_
    simp only [go_sem, reduceIte, Nat.reduceEqDiff, reduceCtorEq, Nat.reduceLT, Nat.reduceAdd, Nat.reduceSub, Nat.reduceMul, Nat.reduceLeDiff, Int.reduceLT, Int.reduceLE, Int.reduceToNat, Int.reduceEq, Int.reduceAdd, Int.reduceSub, Int.reduceNeg, Int.reduceBNe, Int.reduceBEq, ha, hb, hi6, getD_vec]
    repeat ((with_reducible refine And.intro ?_ ?_); (focus (first | omega | (simp; done))))
    refine vCond_b (fun h2 => ?_) (fun h2 => ?_)
    · simp only [go_sem, reduceIte, Nat.reduceEqDiff, reduceCtorEq, Nat.reduceLT, Nat.reduceAdd, Nat.reduceSub, Nat.reduceMul, Nat.reduceLeDiff, Int.reduceLT, Int.reduceLE, Int.reduceToNat, Int.reduceEq, Int.reduceAdd, Int.reduceSub, Int.reduceNeg, Int.reduceBNe, Int.reduceBEq, h2]
      rw [Bool.eq_false_iff, ne_eq, key]
      intro hh
      have := hh i hi6
      have := of_decide_eq_true h2
      omega
    · simp only [go_sem, reduceIte, Nat.reduceEqDiff, reduceCtorEq, Nat.reduceLT, Nat.reduceAdd, Nat.reduceSub, Nat.reduceMul, Nat.reduceLeDiff, Int.reduceLT, Int.reduceLE, Int.reduceToNat, Int.reduceEq, Int.reduceAdd, Int.reduceSub, Int.reduceNeg, Int.reduceBNe, Int.reduceBEq, h2, ew]
      refine ⟨⟨i + 1, by omega, fun j hj => ?_⟩, by show 6 - (i+1) < 6 - i; omega, Meets.plain rfl (forall_cons rfl (forall_nil)) (by repeat (first | exact FrEq.refl _ _ | refine FrEq.upd rfl ?_)) rfl⟩
      rcases Nat.lt_or_ge j i with hlt | hge
      · exact hall j hlt
      · obtain rfl : j = i := by omega
        have := of_decide_eq_false h2
        omega
  · simp only [go_sem, reduceIte, Nat.reduceEqDiff, reduceCtorEq, Nat.reduceLT, Nat.reduceAdd, Nat.reduceSub, Nat.reduceMul, Nat.reduceLeDiff, Int.reduceLT, Int.reduceLE, Int.reduceToNat, Int.reduceEq, Int.reduceAdd, Int.reduceSub, Int.reduceNeg, Int.reduceBNe, Int.reduceBEq, h]
    rw [key]
    intro j hj
    exact hall j (by have := of_decide_eq_false h; omega)
