/- Contracts of functions and laws of this seat, each for every input that it names: lemmas of the proof. -/
import Derived.Test.YthlekjgfnldbjaaTypes
set_option linter.unusedSimpArgs false
set_option linter.unusedVariables false
set_option linter.unusedSimpArgs false
set_option linter.unusedVariables false
namespace Go.Proofs.Ythlekjgfnldbjaa
open Go.PL
attribute [go_sem] true_or or_true List.getElem?_cons_zero List.getElem?_cons_succ List.getElem?_nil decide_true decide_false Bool.not_true Bool.not_false imp_self false_implies true_implies List.all_cons List.all_nil Bool.and_true Bool.false_eq_true Nat.zero_add Nat.add_zero Option.some.injEq true_and and_true List.getD_cons_zero List.getD_cons_succ List.length_cons List.length_nil ne_eq not_false_eq_true implies_true and_self List.take List.drop List.map_cons List.map_nil List.reverse_cons List.reverse_nil List.nil_append PV.bool.injEq List.length_map Int.toNat_natCast Nat.mul_one
def vec (v : List Int) : PV := .agg (v.map (.int .i64))
def rightB (v : List Int) : Bool := v.all fun n => decide (0 ≤ n) && decide (n ≤ 400)
theorem getD_vec {v : List Int} {i : Nat} (h : i < v.length) : (v.map (PV.int .i64)).getD i .any = .int .i64 (v.getD i 0) := by
  simp [List.getD_eq_getElem?_getD, h]
theorem take_vec {v : List Int} (h : v.length = 6) : List.take 6 (v.map (PV.int .i64)) = v.map (PV.int .i64) := List.take_of_length_le (by simp [h])
theorem rightB_false {v : List Int} {i : Nat} (h : i < v.length) (hn : ¬ (0 ≤ v.getD i 0 ∧ v.getD i 0 ≤ 400)) : rightB v = false := by
  rw [Bool.eq_false_iff]; intro hr
  simp only [rightB, List.all_eq_true, Bool.and_eq_true, decide_eq_true_eq] at hr
  apply hn
  rw [List.getD_eq_getElem?_getD, List.getElem?_eq_getElem h]
  exact hr _ (List.getElem_mem h)
theorem rightB_true {v : List Int} (h : ∀ j, j < v.length → 0 ≤ v.getD j 0 ∧ v.getD j 0 ≤ 400) : rightB v = true := by
  simp only [rightB, List.all_eq_true, Bool.and_eq_true, decide_eq_true_eq]
  intro x hx
  obtain ⟨i, hi, rfl⟩ := List.getElem_of_mem hx
  have := h i hi
  rwa [List.getD_eq_getElem?_getD, List.getElem?_eq_getElem hi] at this
set_option maxHeartbeats 1000000 in
theorem Right_pure (v : List Int) (hv : v.length = 6) : PL.Pure Try.prog 11 [vec v] (.bool (rightB v)) := by
  refine PL.Pure.of_v Try.func11 (by decide) rfl Try.ntmps11 Try.results11 (by simp) rfl ?_
  simp only [go_sem, reduceIte, Nat.reduceEqDiff, reduceCtorEq, Nat.reduceLT, Nat.reduceAdd, Nat.reduceSub, Nat.reduceMul, Nat.reduceLeDiff, Int.reduceLT, Int.reduceLE, Int.reduceToNat, Int.reduceEq, Int.reduceAdd, Int.reduceSub, Int.reduceNeg, Int.reduceBNe, Int.reduceBEq, vec, hv, take_vec hv]
  refine vLoop (ι := { i : Nat // i ≤ 6 ∧ ∀ j, j < i → 0 ≤ v.getD j 0 ∧ v.getD j 0 ≤ 400 }) [4, 7, 8, 9, 10, 11, 12, 13, 14, 15] (fun i => [(6, .int .i64 (i.1 : Int))]) (fun _ => []) (fun _ => []) (fun i => 6 - i.1) ⟨0, by omega, fun j hj => by omega⟩
    (Meets.plain rfl (by simp only [List.mem_singleton, forall_eq]; rfl) (FrEq.refl _ _) rfl) (fun i => RefsL.plain (by simp only [List.mem_singleton, forall_eq]; rfl)) (fun i => ?_)
  obtain ⟨i, hi, hall⟩ := i
  simp only [go_sem, reduceIte, Nat.reduceEqDiff, reduceCtorEq, Nat.reduceLT, Nat.reduceAdd, Nat.reduceSub, Nat.reduceMul, Nat.reduceLeDiff, Int.reduceLT, Int.reduceLE, Int.reduceToNat, Int.reduceEq, Int.reduceAdd, Int.reduceSub, Int.reduceNeg, Int.reduceBNe, Int.reduceBEq, hv]
  refine vCond_b (fun h => ?_) (fun h => ?_)
  · have hi6 : i < v.length := by have := of_decide_eq_true h; omega
    simp only [go_sem, reduceIte, Nat.reduceEqDiff, reduceCtorEq, Nat.reduceLT, Nat.reduceAdd, Nat.reduceSub, Nat.reduceMul, Nat.reduceLeDiff, Int.reduceLT, Int.reduceLE, Int.reduceToNat, Int.reduceEq, Int.reduceAdd, Int.reduceSub, Int.reduceNeg, Int.reduceBNe, Int.reduceBEq, h, hv, getD_vec hi6]
    refine ⟨⟨by omega, by omega, by omega⟩, ?_⟩
    refine vGuard_f (fun h1 => ?_) (fun h1 => ?_)
    · simp only [go_sem, reduceIte, Nat.reduceEqDiff, reduceCtorEq, Nat.reduceLT, Nat.reduceAdd, Nat.reduceSub, Nat.reduceMul, Nat.reduceLeDiff, Int.reduceLT, Int.reduceLE, Int.reduceToNat, Int.reduceEq, Int.reduceAdd, Int.reduceSub, Int.reduceNeg, Int.reduceBNe, Int.reduceBEq, h1, hv]
      exact (rightB_false hi6 (by have := of_decide_eq_true h1; omega))
    · simp only [go_sem, reduceIte, Nat.reduceEqDiff, reduceCtorEq, Nat.reduceLT, Nat.reduceAdd, Nat.reduceSub, Nat.reduceMul, Nat.reduceLeDiff, Int.reduceLT, Int.reduceLE, Int.reduceToNat, Int.reduceEq, Int.reduceAdd, Int.reduceSub, Int.reduceNeg, Int.reduceBNe, Int.reduceBEq, h1, hv]
      refine vCond_b (fun h2 => ?_) (fun h2 => ?_)
      · simp only [go_sem, reduceIte, Nat.reduceEqDiff, reduceCtorEq, Nat.reduceLT, Nat.reduceAdd, Nat.reduceSub, Nat.reduceMul, Nat.reduceLeDiff, Int.reduceLT, Int.reduceLE, Int.reduceToNat, Int.reduceEq, Int.reduceAdd, Int.reduceSub, Int.reduceNeg, Int.reduceBNe, Int.reduceBEq, h2]
        exact (rightB_false hi6 (by have := of_decide_eq_true h2; omega))
      · simp only [go_sem, reduceIte, Nat.reduceEqDiff, reduceCtorEq, Nat.reduceLT, Nat.reduceAdd, Nat.reduceSub, Nat.reduceMul, Nat.reduceLeDiff, Int.reduceLT, Int.reduceLE, Int.reduceToNat, Int.reduceEq, Int.reduceAdd, Int.reduceSub, Int.reduceNeg, Int.reduceBNe, Int.reduceBEq, h2]
        have h3 := of_decide_eq_false h1
        have h4 := of_decide_eq_false h2
        rw [IntWalk.i64_in _ (by omega)]
        refine ⟨⟨i + 1, by omega, fun j hj => ?_⟩, by show 6 - (i+1) < 6 - i; omega, Meets.plain rfl (by simp only [List.mem_singleton, forall_eq]; rfl) (by repeat (first | exact FrEq.refl _ _ | refine FrEq.upd rfl ?_)) rfl⟩
        rcases Nat.lt_or_ge j i with hlt | hge
        · exact hall j hlt
        · obtain rfl : j = i := by omega
          omega
  · simp only [go_sem, reduceIte, Nat.reduceEqDiff, reduceCtorEq, Nat.reduceLT, Nat.reduceAdd, Nat.reduceSub, Nat.reduceMul, Nat.reduceLeDiff, Int.reduceLT, Int.reduceLE, Int.reduceToNat, Int.reduceEq, Int.reduceAdd, Int.reduceSub, Int.reduceNeg, Int.reduceBNe, Int.reduceBEq, h]
    exact (rightB_true (by rw [hv]; intro j hj; exact hall j (by have := of_decide_eq_false h; omega)))
