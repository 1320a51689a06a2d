/- Contracts of functions and laws of this seat, each for every input that it names: lemmas of the proof. -/
import Derived.Test.YtbojhapdidieoaaDh
set_option linter.unusedSimpArgs false
set_option linter.unusedVariables false
set_option linter.unusedSimpArgs false
set_option linter.unusedVariables false
namespace Go.Proofs.Ytbojhapdidieoaa
open Go.PL
set_option maxRecDepth 20000 in
set_option maxHeartbeats 4000000 in
theorem RName_pure (s : Str) : PL.Pure Try.prog 137 [.str s] (.bool (nameB s)) := by
  by_cases h1 : (s.length : Int) < 1
  · have hx : nameB s = false := by simp only [nameB, show ¬ (1 ≤ s.length ∧ s.length ≤ 12) by omega, decide_false, Bool.false_and]
    refine PL.Pure.of_v Try.func137 (by decide) rfl Try.ntmps137 Try.results137 (by simp) rfl ?_
    simp only [go_sem, reduceIte, Nat.reduceEqDiff, reduceCtorEq, Nat.reduceLT, Nat.reduceAdd, Nat.reduceSub, Nat.reduceMul, Nat.reduceLeDiff, Int.reduceLT, Int.reduceLE, Int.reduceToNat, Int.reduceEq, Int.reduceAdd, Int.reduceSub, Int.reduceNeg, Int.reduceBNe, Int.reduceBEq, h1, hx]
  · by_cases h2 : (12 : Int) < (s.length : Int)
    · have hx : nameB s = false := by simp only [nameB, show ¬ (1 ≤ s.length ∧ s.length ≤ 12) by omega, decide_false, Bool.false_and]
      refine PL.Pure.of_v Try.func137 (by decide) rfl Try.ntmps137 Try.results137 (by simp) rfl ?_
      simp only [go_sem, reduceIte, Nat.reduceEqDiff, reduceCtorEq, Nat.reduceLT, Nat.reduceAdd, Nat.reduceSub, Nat.reduceMul, Nat.reduceLeDiff, Int.reduceLT, Int.reduceLE, Int.reduceToNat, Int.reduceEq, Int.reduceAdd, Int.reduceSub, Int.reduceNeg, Int.reduceBNe, Int.reduceBEq, h1, h2, hx]
    · have hn : nameB s = (List.range s.length).all (okAt s) := by simp only [nameB, show (1 ≤ s.length ∧ s.length ≤ 12) by omega, and_self, decide_true, Bool.true_and]
      refine PL.Pure.of_v Try.func137 (by decide) rfl Try.ntmps137 Try.results137 (by simp) rfl ?_
      simp only [go_sem, reduceIte, Nat.reduceEqDiff, reduceCtorEq, Nat.reduceLT, Nat.reduceAdd, Nat.reduceSub, Nat.reduceMul, Nat.reduceLeDiff, Int.reduceLT, Int.reduceLE, Int.reduceToNat, Int.reduceEq, Int.reduceAdd, Int.reduceSub, Int.reduceNeg, Int.reduceBNe, Int.reduceBEq, h1, h2]
      refine vLoopM (ι := { k : Nat // k ≤ s.length ∧ ∀ j, j < k → okAt s j = true }) 50 (fun x => [(0, .str s), (3, .int .i64 (x.1 : Int))]) (fun x => []) (fun x => []) (fun x => s.length - x.1) ⟨0, by omega, fun j hj => by omega⟩
        ⟨rfl, (forall_cons rfl (forall_cons rfl (forall_nil))), forall_nil, forall_nil⟩ (fun x => ⟨(forall_cons rfl (forall_cons rfl (forall_nil))), forall_nil⟩) (fun x => ?_)
      obtain ⟨k, hk, hall⟩ := x
      simp only
      by_cases h : (k : Int) < (s.length : Int)
      · have hka : k < s.length := by omega
        have w1 : IntKind.i64.wrap ((k : Int) + 1) = ((k + 1 : Nat) : Int) := by rw [w64 (by omega)]; rfl
        have i1 : (0 : Int) ≤ (k : Int) := by omega
        cases ho : okAt s k
        · have hx : nameB s = false := by
            rw [hn, List.all_eq_false]
            exact ⟨k, by simpa using hka, by simp [ho]⟩
          simp only [okAt, Bool.or_eq_false_iff, decide_eq_false_iff_not, Bool.and_eq_false_iff] at ho
          by_cases g1 : 97 ≤ nm s k
          · have g2 : ¬ nm s k ≤ 122 := by omega
            have g3 : 48 ≤ nm s k := by omega
            have g4 : ¬ nm s k ≤ 57 := by omega
            simp only [go_sem, reduceIte, Nat.reduceEqDiff, reduceCtorEq, Nat.reduceLT, Nat.reduceAdd, Nat.reduceSub, Nat.reduceMul, Nat.reduceLeDiff, Int.reduceLT, Int.reduceLE, Int.reduceToNat, Int.reduceEq, Int.reduceAdd, Int.reduceSub, Int.reduceNeg, Int.reduceBNe, Int.reduceBEq, h, i1, nm_fold, g1, g2, g3, g4, hx]
          · by_cases g3 : 48 ≤ nm s k
            · by_cases g4 : nm s k ≤ 57
              · have hk0 : ((k : Int) == 0) = true := by
                  rw [beq_iff_eq]
                  rcases ho.2 with h' | h' <;> omega
                simp only [go_sem, reduceIte, Nat.reduceEqDiff, reduceCtorEq, Nat.reduceLT, Nat.reduceAdd, Nat.reduceSub, Nat.reduceMul, Nat.reduceLeDiff, Int.reduceLT, Int.reduceLE, Int.reduceToNat, Int.reduceEq, Int.reduceAdd, Int.reduceSub, Int.reduceNeg, Int.reduceBNe, Int.reduceBEq, h, i1, nm_fold, g1, g3, g4, hk0, hx]
              · simp only [go_sem, reduceIte, Nat.reduceEqDiff, reduceCtorEq, Nat.reduceLT, Nat.reduceAdd, Nat.reduceSub, Nat.reduceMul, Nat.reduceLeDiff, Int.reduceLT, Int.reduceLE, Int.reduceToNat, Int.reduceEq, Int.reduceAdd, Int.reduceSub, Int.reduceNeg, Int.reduceBNe, Int.reduceBEq, h, i1, nm_fold, g1, g3, g4, hx]
            · simp only [go_sem, reduceIte, Nat.reduceEqDiff, reduceCtorEq, Nat.reduceLT, Nat.reduceAdd, Nat.reduceSub, Nat.reduceMul, Nat.reduceLeDiff, Int.reduceLT, Int.reduceLE, Int.reduceToNat, Int.reduceEq, Int.reduceAdd, Int.reduceSub, Int.reduceNeg, Int.reduceBNe, Int.reduceBEq, h, i1, nm_fold, g1, g3, hx]
        · have nx : ∀ j, j < k + 1 → okAt s j = true := below_succ hall ho
          simp only [okAt, Bool.or_eq_true, decide_eq_true_eq, Bool.and_eq_true] at ho
          by_cases g1 : 97 ≤ nm s k
          · have g2 : nm s k ≤ 122 := by omega
            have g3 : 48 ≤ nm s k := by omega
            have g4 : ¬ nm s k ≤ 57 := by omega
            simp only [go_sem, reduceIte, Nat.reduceEqDiff, reduceCtorEq, Nat.reduceLT, Nat.reduceAdd, Nat.reduceSub, Nat.reduceMul, Nat.reduceLeDiff, Int.reduceLT, Int.reduceLE, Int.reduceToNat, Int.reduceEq, Int.reduceAdd, Int.reduceSub, Int.reduceNeg, Int.reduceBNe, Int.reduceBEq, h, i1, nm_fold, g1, g2, g3, g4, w1]
            exact ⟨⟨k + 1, by omega, nx⟩, by show s.length - (k + 1) < s.length - k; omega, ⟨rfl, (forall_cons rfl (forall_cons rfl (forall_nil))), forall_nil, forall_nil⟩⟩
          · have g3 : 48 ≤ nm s k := by omega
            have g4 : nm s k ≤ 57 := by omega
            have hk0 : ((k : Int) == 0) = false := beq_eq_false_iff_ne.2 (by omega)
            simp only [go_sem, reduceIte, Nat.reduceEqDiff, reduceCtorEq, Nat.reduceLT, Nat.reduceAdd, Nat.reduceSub, Nat.reduceMul, Nat.reduceLeDiff, Int.reduceLT, Int.reduceLE, Int.reduceToNat, Int.reduceEq, Int.reduceAdd, Int.reduceSub, Int.reduceNeg, Int.reduceBNe, Int.reduceBEq, h, i1, nm_fold, g1, g3, g4, hk0, w1]
            exact ⟨⟨k + 1, by omega, nx⟩, by show s.length - (k + 1) < s.length - k; omega, ⟨rfl, (forall_cons rfl (forall_cons rfl (forall_nil))), forall_nil, forall_nil⟩⟩
      · have hx : nameB s = true := by
          rw [hn, List.all_eq_true]
          intro j hj
          exact hall j (by have := List.mem_range.1 hj; omega)
        simp only [go_sem, reduceIte, Nat.reduceEqDiff, reduceCtorEq, Nat.reduceLT, Nat.reduceAdd, Nat.reduceSub, Nat.reduceMul, Nat.reduceLeDiff, Int.reduceLT, Int.reduceLE, Int.reduceToNat, Int.reduceEq, Int.reduceAdd, Int.reduceSub, Int.reduceNeg, Int.reduceBNe, Int.reduceBEq, h, hx]
theorem place_alt (r : Rf) : placeB r = (decide (0 ≤ r.sc) && (decide (r.sc ≤ 1) && (nameB r.nm && (decide (r.gr = []) || nameB r.gr)))) := by
  have : (decide (r.sc = 0) || decide (r.sc = 1)) = (decide (0 ≤ r.sc) && decide (r.sc ≤ 1)) := by
    rw [Bool.eq_iff_iff]; simp; omega
  rw [placeB, this, Bool.and_assoc]
set_option maxRecDepth 20000 in
set_option maxHeartbeats 4000000 in
theorem RPlace_pure (r : Rf) : PL.Pure Try.prog 133 [ref r] (.bool (placeB r)) := by
  rw [place_alt]
  have hN := RName_pure r.nm
  have hG := RName_pure r.gr
  refine PL.Pure.of_v Try.func133 (by decide) rfl Try.ntmps133 Try.results133 (by simp) rfl ?_
  simp only [go_sem, reduceIte, Nat.reduceEqDiff, reduceCtorEq, Nat.reduceLT, Nat.reduceAdd, Nat.reduceSub, Nat.reduceMul, Nat.reduceLeDiff, Int.reduceLT, Int.reduceLE, Int.reduceToNat, Int.reduceEq, Int.reduceAdd, Int.reduceSub, Int.reduceNeg, Int.reduceBNe, Int.reduceBEq, ref]
  repeat' (first | (refine vGuard_t (fun h => ?_) (fun h => ?_) <;> (try simp only [go_sem, reduceIte, Nat.reduceEqDiff, reduceCtorEq, Nat.reduceLT, Nat.reduceAdd, Nat.reduceSub, Nat.reduceMul, Nat.reduceLeDiff, Int.reduceLT, Int.reduceLE, Int.reduceToNat, Int.reduceEq, Int.reduceAdd, Int.reduceSub, Int.reduceNeg, Int.reduceBNe, Int.reduceBEq, h])) | (refine vGuard_f (fun h => ?_) (fun h => ?_) <;> (try simp only [go_sem, reduceIte, Nat.reduceEqDiff, reduceCtorEq, Nat.reduceLT, Nat.reduceAdd, Nat.reduceSub, Nat.reduceMul, Nat.reduceLeDiff, Int.reduceLT, Int.reduceLE, Int.reduceToNat, Int.reduceEq, Int.reduceAdd, Int.reduceSub, Int.reduceNeg, Int.reduceBNe, Int.reduceBEq, h])) | (refine vCond_b (fun h => ?_) (fun h => ?_) <;> (try simp only [go_sem, reduceIte, Nat.reduceEqDiff, reduceCtorEq, Nat.reduceLT, Nat.reduceAdd, Nat.reduceSub, Nat.reduceMul, Nat.reduceLeDiff, Int.reduceLT, Int.reduceLE, Int.reduceToNat, Int.reduceEq, Int.reduceAdd, Int.reduceSub, Int.reduceNeg, Int.reduceBNe, Int.reduceBEq, h])) | ((refine vCall_of (hN) ?_ ?_ ?_); (focus simp only [go_sem, reduceIte, Nat.reduceEqDiff, reduceCtorEq, Nat.reduceLT, Nat.reduceAdd, Nat.reduceSub, Nat.reduceMul, Nat.reduceLeDiff, Int.reduceLT, Int.reduceLE, Int.reduceToNat, Int.reduceEq, Int.reduceAdd, Int.reduceSub, Int.reduceNeg, Int.reduceBNe, Int.reduceBEq]); (focus exact rfl); (try simp only [go_sem, reduceIte, Nat.reduceEqDiff, reduceCtorEq, Nat.reduceLT, Nat.reduceAdd, Nat.reduceSub, Nat.reduceMul, Nat.reduceLeDiff, Int.reduceLT, Int.reduceLE, Int.reduceToNat, Int.reduceEq, Int.reduceAdd, Int.reduceSub, Int.reduceNeg, Int.reduceBNe, Int.reduceBEq])) | ((refine vCall_of (hG) ?_ ?_ ?_); (focus simp only [go_sem, reduceIte, Nat.reduceEqDiff, reduceCtorEq, Nat.reduceLT, Nat.reduceAdd, Nat.reduceSub, Nat.reduceMul, Nat.reduceLeDiff, Int.reduceLT, Int.reduceLE, Int.reduceToNat, Int.reduceEq, Int.reduceAdd, Int.reduceSub, Int.reduceNeg, Int.reduceBNe, Int.reduceBEq]); (focus exact rfl); (try simp only [go_sem, reduceIte, Nat.reduceEqDiff, reduceCtorEq, Nat.reduceLT, Nat.reduceAdd, Nat.reduceSub, Nat.reduceMul, Nat.reduceLeDiff, Int.reduceLT, Int.reduceLE, Int.reduceToNat, Int.reduceEq, Int.reduceAdd, Int.reduceSub, Int.reduceNeg, Int.reduceBNe, Int.reduceBEq])) | ((refine vDrawQ (by kernel_rfl) (by kernel_rfl) ?_); (try simp only [go_sem, reduceIte, Nat.reduceEqDiff, reduceCtorEq, Nat.reduceLT, Nat.reduceAdd, Nat.reduceSub, Nat.reduceMul, Nat.reduceLeDiff, Int.reduceLT, Int.reduceLE, Int.reduceToNat, Int.reduceEq, Int.reduceAdd, Int.reduceSub, Int.reduceNeg, Int.reduceBNe, Int.reduceBEq])))
  all_goals (simp_all)
set_option maxHeartbeats 1000000 in
theorem RHas_pure (l : List Str) (s : Str) (hl : l.length ≤ maxLen) : PL.Pure Try.prog 155 [strs l, .str s] (.bool (l.any (· == s))) := by
  refine PL.Pure.of_v Try.func155 (by decide) rfl Try.ntmps155 Try.results155 (by simp) rfl ?_
  simp only [go_sem, reduceIte, Nat.reduceEqDiff, reduceCtorEq, Nat.reduceLT, Nat.reduceAdd, Nat.reduceSub, Nat.reduceMul, Nat.reduceLeDiff, Int.reduceLT, Int.reduceLE, Int.reduceToNat, Int.reduceEq, Int.reduceAdd, Int.reduceSub, Int.reduceNeg, Int.reduceBNe, Int.reduceBEq, strs]
  refine vLoopM (ι := { k : Nat // k ≤ l.length ∧ ∀ j, j < k → (l.getD j [] == s) = false }) 18 (fun x => [(0, strs l), (1, .str s), (5, .int .i64 (x.1 : Int))]) (fun x => []) (fun x => []) (fun x => l.length - x.1) ⟨0, by omega, fun j hj => by omega⟩
    ⟨rfl, (forall_cons rfl (forall_cons rfl (forall_cons rfl (forall_nil)))), forall_nil, forall_nil⟩ (fun x => ⟨(forall_cons rfl (forall_cons rfl (forall_cons rfl (forall_nil)))), forall_nil⟩) (fun x => ?_)
  obtain ⟨k, hk, hall⟩ := x
  simp only
  by_cases h : (k : Int) < (l.length : Int)
  · have hka : k < l.length := by omega
    have w1 := w64s hka hl
    have i1 : (0 : Int) ≤ (k : Int) := by omega
    cases he : (l.getD k [] == s)
    · simp only [go_sem, reduceIte, Nat.reduceEqDiff, reduceCtorEq, Nat.reduceLT, Nat.reduceAdd, Nat.reduceSub, Nat.reduceMul, Nat.reduceLeDiff, Int.reduceLT, Int.reduceLE, Int.reduceToNat, Int.reduceEq, Int.reduceAdd, Int.reduceSub, Int.reduceNeg, Int.reduceBNe, Int.reduceBEq, strs, h, getD_str hka, i1, he, w1]
      exact ⟨⟨k + 1, by omega, below_succ hall he⟩, by show l.length - (k + 1) < l.length - k; omega, ⟨rfl, (forall_cons rfl (forall_cons rfl (forall_cons rfl (forall_nil)))), forall_nil, forall_nil⟩⟩
    · have hx := any_true (p := (· == s)) hka he
      simp only [go_sem, reduceIte, Nat.reduceEqDiff, reduceCtorEq, Nat.reduceLT, Nat.reduceAdd, Nat.reduceSub, Nat.reduceMul, Nat.reduceLeDiff, Int.reduceLT, Int.reduceLE, Int.reduceToNat, Int.reduceEq, Int.reduceAdd, Int.reduceSub, Int.reduceNeg, Int.reduceBNe, Int.reduceBEq, strs, h, getD_str hka, i1, he, hx]
  · have hx := any_false (p := (· == s)) (d := []) (l := l) (fun j hj => hall j (by omega))
    simp only [go_sem, reduceIte, Nat.reduceEqDiff, reduceCtorEq, Nat.reduceLT, Nat.reduceAdd, Nat.reduceSub, Nat.reduceMul, Nat.reduceLeDiff, Int.reduceLT, Int.reduceLE, Int.reduceToNat, Int.reduceEq, Int.reduceAdd, Int.reduceSub, Int.reduceNeg, Int.reduceBNe, Int.reduceBEq, strs, h, hx]
def lessB (a b : Rf) : Bool := if a.sc ≠ b.sc then decide (a.sc < b.sc) else if a.gr ≠ b.gr then bytesLt a.gr b.gr else bytesLt a.nm b.nm