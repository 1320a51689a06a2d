/- Contracts of functions and laws of this seat, each for every input that it names: lemmas of the proof. -/
import Derived.Test.YtbojhapdidieoaaDf
set_option linter.unusedSimpArgs false
set_option linter.unusedVariables false
set_option linter.unusedSimpArgs false
set_option linter.unusedVariables false
namespace Go.Proofs.Ytbojhapdidieoaa
open Go.PL
@[go_sem] theorem cast0 : ((0 : Nat) : Int) = 0 := rfl
@[go_sem] theorem cast1 : ((1 : Nat) : Int) = 1 := rfl
attribute [go_sem] Int.cast_ofNat_Int
def nm (s : Str) (i : Nat) : Int := ((s.getD i 0).toNat : Int)
def okAt (s : Str) (i : Nat) : Bool := decide (97 ≤ nm s i ∧ nm s i ≤ 122) || (decide (48 ≤ nm s i ∧ nm s i ≤ 57) && decide (i ≠ 0))
def nameB (s : Str) : Bool := decide (1 ≤ s.length ∧ s.length ≤ 12) && (List.range s.length).all (okAt s)
theorem nm_fold (s : Str) (i : Nat) : ((s.getD i 0).toNat : Int) = nm s i := rfl
set_option maxRecDepth 20000 in
set_option maxHeartbeats 4000000 in
theorem Name_pure (s : Str) : PL.Pure Try.prog 107 [.str s] (.bool (nameB s)) := by
  by_cases h1 : (s.length : Int) < 1
  · have hx : nameB s = false := by simp only [nameB, show ¬ (1 ≤ s.length ∧ s.length ≤ 12) by omega, decide_false, Bool.false_and]
    refine PL.Pure.of_v Try.func107 (by decide) rfl Try.ntmps107 Try.results107 (by simp) rfl ?_
    simp only [go_sem, reduceIte, Nat.reduceEqDiff, reduceCtorEq, Nat.reduceLT, Nat.reduceAdd, Nat.reduceSub, Nat.reduceMul, Nat.reduceLeDiff, Int.reduceLT, Int.reduceLE, Int.reduceToNat, Int.reduceEq, Int.reduceAdd, Int.reduceSub, Int.reduceNeg, Int.reduceBNe, Int.reduceBEq, h1, hx]
  · by_cases h2 : (12 : Int) < (s.length : Int)
    · have hx : nameB s = false := by simp only [nameB, show ¬ (1 ≤ s.length ∧ s.length ≤ 12) by omega, decide_false, Bool.false_and]
      refine PL.Pure.of_v Try.func107 (by decide) rfl Try.ntmps107 Try.results107 (by simp) rfl ?_
      simp only [go_sem, reduceIte, Nat.reduceEqDiff, reduceCtorEq, Nat.reduceLT, Nat.reduceAdd, Nat.reduceSub, Nat.reduceMul, Nat.reduceLeDiff, Int.reduceLT, Int.reduceLE, Int.reduceToNat, Int.reduceEq, Int.reduceAdd, Int.reduceSub, Int.reduceNeg, Int.reduceBNe, Int.reduceBEq, h1, h2, hx]
    · have hn : nameB s = (List.range s.length).all (okAt s) := by simp only [nameB, show (1 ≤ s.length ∧ s.length ≤ 12) by omega, and_self, decide_true, Bool.true_and]
      refine PL.Pure.of_v Try.func107 (by decide) rfl Try.ntmps107 Try.results107 (by simp) rfl ?_
      simp only [go_sem, reduceIte, Nat.reduceEqDiff, reduceCtorEq, Nat.reduceLT, Nat.reduceAdd, Nat.reduceSub, Nat.reduceMul, Nat.reduceLeDiff, Int.reduceLT, Int.reduceLE, Int.reduceToNat, Int.reduceEq, Int.reduceAdd, Int.reduceSub, Int.reduceNeg, Int.reduceBNe, Int.reduceBEq, h1, h2]
      refine vLoopM (ι := { k : Nat // k ≤ s.length ∧ ∀ j, j < k → okAt s j = true }) 50 (fun x => [(0, .str s), (15, .int .i64 (s.length : Int)), (16, .int .i64 (x.1 : Int))]) (fun x => []) (fun x => []) (fun x => s.length - x.1) ⟨0, by omega, fun j hj => by omega⟩
        ⟨rfl, (forall_cons rfl (forall_cons rfl (forall_cons rfl (forall_nil)))), forall_nil, forall_nil⟩ (fun x => ⟨(forall_cons rfl (forall_cons rfl (forall_cons rfl (forall_nil)))), forall_nil⟩) (fun x => ?_)
      obtain ⟨k, hk, hall⟩ := x
      simp only
      by_cases h : (k : Int) < (s.length : Int)
      · have hka : k < s.length := by omega
        have w1 : IntKind.i64.wrap ((k : Int) + 1) = ((k + 1 : Nat) : Int) := by rw [w64 (by omega)]; rfl
        have i1 : (0 : Int) ≤ (k : Int) := by omega
        cases ho : okAt s k
        · have hx : nameB s = false := by
            rw [hn, List.all_eq_false]
            exact ⟨k, by simpa using hka, by simp [ho]⟩
          simp only [okAt, Bool.or_eq_false_iff, decide_eq_false_iff_not, Bool.and_eq_false_iff] at ho
          by_cases g1 : 97 ≤ nm s k
          · have g2 : ¬ nm s k ≤ 122 := by omega
            have g3 : 48 ≤ nm s k := by omega
            have g4 : ¬ nm s k ≤ 57 := by omega
            simp only [go_sem, reduceIte, Nat.reduceEqDiff, reduceCtorEq, Nat.reduceLT, Nat.reduceAdd, Nat.reduceSub, Nat.reduceMul, Nat.reduceLeDiff, Int.reduceLT, Int.reduceLE, Int.reduceToNat, Int.reduceEq, Int.reduceAdd, Int.reduceSub, Int.reduceNeg, Int.reduceBNe, Int.reduceBEq, h, i1, nm_fold, g1, g2, g3, g4, hx]
          · by_cases g3 : 48 ≤ nm s k
            · by_cases g4 : nm s k ≤ 57
              · have hk0 : ((k : Int) == 0) = true := by
                  rw [beq_iff_eq]
                  rcases ho.2 with h' | h' <;> omega
                simp only [go_sem, reduceIte, Nat.reduceEqDiff, reduceCtorEq, Nat.reduceLT, Nat.reduceAdd, Nat.reduceSub, Nat.reduceMul, Nat.reduceLeDiff, Int.reduceLT, Int.reduceLE, Int.reduceToNat, Int.reduceEq, Int.reduceAdd, Int.reduceSub, Int.reduceNeg, Int.reduceBNe, Int.reduceBEq, h, i1, nm_fold, g1, g3, g4, hk0, hx]
              · simp only [go_sem, reduceIte, Nat.reduceEqDiff, reduceCtorEq, Nat.reduceLT, Nat.reduceAdd, Nat.reduceSub, Nat.reduceMul, Nat.reduceLeDiff, Int.reduceLT, Int.reduceLE, Int.reduceToNat, Int.reduceEq, Int.reduceAdd, Int.reduceSub, Int.reduceNeg, Int.reduceBNe, Int.reduceBEq, h, i1, nm_fold, g1, g3, g4, hx]
            · simp only [go_sem, reduceIte, Nat.reduceEqDiff, reduceCtorEq, Nat.reduceLT, Nat.reduceAdd, Nat.reduceSub, Nat.reduceMul, Nat.reduceLeDiff, Int.reduceLT, Int.reduceLE, Int.reduceToNat, Int.reduceEq, Int.reduceAdd, Int.reduceSub, Int.reduceNeg, Int.reduceBNe, Int.reduceBEq, h, i1, nm_fold, g1, g3, hx]
        · have nx : ∀ j, j < k + 1 → okAt s j = true := below_succ hall ho
          simp only [okAt, Bool.or_eq_true, decide_eq_true_eq, Bool.and_eq_true] at ho
          by_cases g1 : 97 ≤ nm s k
          · have g2 : nm s k ≤ 122 := by omega
            have g3 : 48 ≤ nm s k := by omega
            have g4 : ¬ nm s k ≤ 57 := by omega
            simp only [go_sem, reduceIte, Nat.reduceEqDiff, reduceCtorEq, Nat.reduceLT, Nat.reduceAdd, Nat.reduceSub, Nat.reduceMul, Nat.reduceLeDiff, Int.reduceLT, Int.reduceLE, Int.reduceToNat, Int.reduceEq, Int.reduceAdd, Int.reduceSub, Int.reduceNeg, Int.reduceBNe, Int.reduceBEq, h, i1, nm_fold, g1, g2, g3, g4, w1]
            exact ⟨⟨k + 1, by omega, nx⟩, by show s.length - (k + 1) < s.length - k; omega, ⟨rfl, (forall_cons rfl (forall_cons rfl (forall_cons rfl (forall_nil)))), forall_nil, forall_nil⟩⟩
          · have g3 : 48 ≤ nm s k := by omega
            have g4 : nm s k ≤ 57 := by omega
            have hk0 : ((k : Int) == 0) = false := beq_eq_false_iff_ne.2 (by omega)
            simp only [go_sem, reduceIte, Nat.reduceEqDiff, reduceCtorEq, Nat.reduceLT, Nat.reduceAdd, Nat.reduceSub, Nat.reduceMul, Nat.reduceLeDiff, Int.reduceLT, Int.reduceLE, Int.reduceToNat, Int.reduceEq, Int.reduceAdd, Int.reduceSub, Int.reduceNeg, Int.reduceBNe, Int.reduceBEq, h, i1, nm_fold, g1, g3, g4, hk0, w1]
            exact ⟨⟨k + 1, by omega, nx⟩, by show s.length - (k + 1) < s.length - k; omega, ⟨rfl, (forall_cons rfl (forall_cons rfl (forall_cons rfl (forall_nil)))), forall_nil, forall_nil⟩⟩
      · have hx : nameB s = true := by
          rw [hn, List.all_eq_true]
          intro j hj
          exact hall j (by have := List.mem_range.1 hj; omega)
        simp only [go_sem, reduceIte, Nat.reduceEqDiff, reduceCtorEq, Nat.reduceLT, Nat.reduceAdd, Nat.reduceSub, Nat.reduceMul, Nat.reduceLeDiff, Int.reduceLT, Int.reduceLE, Int.reduceToNat, Int.reduceEq, Int.reduceAdd, Int.reduceSub, Int.reduceNeg, Int.reduceBNe, Int.reduceBEq, h, hx]
def placeB (r : Rf) : Bool := (decide (r.sc = 0) || decide (r.sc = 1)) && (nameB r.nm && (decide (r.gr = []) || nameB r.gr))
set_option maxRecDepth 20000 in
set_option maxHeartbeats 4000000 in
theorem Place_pure (r : Rf) : PL.Pure Try.prog 106 [ref r] (.bool (placeB r)) := by
  have hN := Name_pure r.nm
  have hG := Name_pure r.gr
  by_cases hs : r.sc = 0 ∨ r.sc = 1
  · have hs' : (decide (r.sc = 0) || decide (r.sc = 1)) = true := by simpa using hs
    have key : PL.Pure Try.prog 106 [ref r] (.bool (nameB r.nm && (decide (r.gr = []) || nameB r.gr))) := by
      cases hn : nameB r.nm
      · rw [hn] at hN
        rcases hs with h0 | h1
        · have q : (r.sc != 0) = false := by rw [h0]; rfl
          refine PL.Pure.of_v Try.func106 (by decide) rfl Try.ntmps106 Try.results106 (by simp) rfl ?_
          simp only [go_sem, reduceIte, Nat.reduceEqDiff, reduceCtorEq, Nat.reduceLT, Nat.reduceAdd, Nat.reduceSub, Nat.reduceMul, Nat.reduceLeDiff, Int.reduceLT, Int.reduceLE, Int.reduceToNat, Int.reduceEq, Int.reduceAdd, Int.reduceSub, Int.reduceNeg, Int.reduceBNe, Int.reduceBEq, ref, q]
          refine vCall_of (hN) ?_ ?_ ?_; (focus simp only [go_sem, reduceIte, Nat.reduceEqDiff, reduceCtorEq, Nat.reduceLT, Nat.reduceAdd, Nat.reduceSub, Nat.reduceMul, Nat.reduceLeDiff, Int.reduceLT, Int.reduceLE, Int.reduceToNat, Int.reduceEq, Int.reduceAdd, Int.reduceSub, Int.reduceNeg, Int.reduceBNe, Int.reduceBEq]); (focus simp only [go_sem, reduceIte, Nat.reduceEqDiff, reduceCtorEq, Nat.reduceLT, Nat.reduceAdd, Nat.reduceSub, Nat.reduceMul, Nat.reduceLeDiff, Int.reduceLT, Int.reduceLE, Int.reduceToNat, Int.reduceEq, Int.reduceAdd, Int.reduceSub, Int.reduceNeg, Int.reduceBNe, Int.reduceBEq])
          simp only [go_sem, reduceIte, Nat.reduceEqDiff, reduceCtorEq, Nat.reduceLT, Nat.reduceAdd, Nat.reduceSub, Nat.reduceMul, Nat.reduceLeDiff, Int.reduceLT, Int.reduceLE, Int.reduceToNat, Int.reduceEq, Int.reduceAdd, Int.reduceSub, Int.reduceNeg, Int.reduceBNe, Int.reduceBEq, Bool.false_and]
        · have q : (r.sc != 0) = true := by rw [h1]; rfl
          have q1 : (r.sc != 1) = false := by rw [h1]; rfl
          refine PL.Pure.of_v Try.func106 (by decide) rfl Try.ntmps106 Try.results106 (by simp) rfl ?_
          simp only [go_sem, reduceIte, Nat.reduceEqDiff, reduceCtorEq, Nat.reduceLT, Nat.reduceAdd, Nat.reduceSub, Nat.reduceMul, Nat.reduceLeDiff, Int.reduceLT, Int.reduceLE, Int.reduceToNat, Int.reduceEq, Int.reduceAdd, Int.reduceSub, Int.reduceNeg, Int.reduceBNe, Int.reduceBEq, ref, q, q1]
          refine vCall_of (hN) ?_ ?_ ?_; (focus simp only [go_sem, reduceIte, Nat.reduceEqDiff, reduceCtorEq, Nat.reduceLT, Nat.reduceAdd, Nat.reduceSub, Nat.reduceMul, Nat.reduceLeDiff, Int.reduceLT, Int.reduceLE, Int.reduceToNat, Int.reduceEq, Int.reduceAdd, Int.reduceSub, Int.reduceNeg, Int.reduceBNe, Int.reduceBEq]); (focus simp only [go_sem, reduceIte, Nat.reduceEqDiff, reduceCtorEq, Nat.reduceLT, Nat.reduceAdd, Nat.reduceSub, Nat.reduceMul, Nat.reduceLeDiff, Int.reduceLT, Int.reduceLE, Int.reduceToNat, Int.reduceEq, Int.reduceAdd, Int.reduceSub, Int.reduceNeg, Int.reduceBNe, Int.reduceBEq])
          simp only [go_sem, reduceIte, Nat.reduceEqDiff, reduceCtorEq, Nat.reduceLT, Nat.reduceAdd, Nat.reduceSub, Nat.reduceMul, Nat.reduceLeDiff, Int.reduceLT, Int.reduceLE, Int.reduceToNat, Int.reduceEq, Int.reduceAdd, Int.reduceSub, Int.reduceNeg, Int.reduceBNe, Int.reduceBEq, Bool.false_and]
      · rw [hn] at hN
        by_cases hg : r.gr = []
        · have hg' := beq_nil hg
          rcases hs with h0 | h1
          · have q : (r.sc != 0) = false := by rw [h0]; rfl
            refine PL.Pure.of_v Try.func106 (by decide) rfl Try.ntmps106 Try.results106 (by simp) rfl ?_
            simp only [go_sem, reduceIte, Nat.reduceEqDiff, reduceCtorEq, Nat.reduceLT, Nat.reduceAdd, Nat.reduceSub, Nat.reduceMul, Nat.reduceLeDiff, Int.reduceLT, Int.reduceLE, Int.reduceToNat, Int.reduceEq, Int.reduceAdd, Int.reduceSub, Int.reduceNeg, Int.reduceBNe, Int.reduceBEq, ref, q]
            refine vCall_of (hN) ?_ ?_ ?_; (focus simp only [go_sem, reduceIte, Nat.reduceEqDiff, reduceCtorEq, Nat.reduceLT, Nat.reduceAdd, Nat.reduceSub, Nat.reduceMul, Nat.reduceLeDiff, Int.reduceLT, Int.reduceLE, Int.reduceToNat, Int.reduceEq, Int.reduceAdd, Int.reduceSub, Int.reduceNeg, Int.reduceBNe, Int.reduceBEq]); (focus simp only [go_sem, reduceIte, Nat.reduceEqDiff, reduceCtorEq, Nat.reduceLT, Nat.reduceAdd, Nat.reduceSub, Nat.reduceMul, Nat.reduceLeDiff, Int.reduceLT, Int.reduceLE, Int.reduceToNat, Int.reduceEq, Int.reduceAdd, Int.reduceSub, Int.reduceNeg, Int.reduceBNe, Int.reduceBEq])
            simp only [go_sem, reduceIte, Nat.reduceEqDiff, reduceCtorEq, Nat.reduceLT, Nat.reduceAdd, Nat.reduceSub, Nat.reduceMul, Nat.reduceLeDiff, Int.reduceLT, Int.reduceLE, Int.reduceToNat, Int.reduceEq, Int.reduceAdd, Int.reduceSub, Int.reduceNeg, Int.reduceBNe, Int.reduceBEq, Bool.true_and, hg', decide_eq_true hg, Bool.true_or]
          · have q : (r.sc != 0) = true := by rw [h1]; rfl
            have q1 : (r.sc != 1) = false := by rw [h1]; rfl
            refine PL.Pure.of_v Try.func106 (by decide) rfl Try.ntmps106 Try.results106 (by simp) rfl ?_
            simp only [go_sem, reduceIte, Nat.reduceEqDiff, reduceCtorEq, Nat.reduceLT, Nat.reduceAdd, Nat.reduceSub, Nat.reduceMul, Nat.reduceLeDiff, Int.reduceLT, Int.reduceLE, Int.reduceToNat, Int.reduceEq, Int.reduceAdd, Int.reduceSub, Int.reduceNeg, Int.reduceBNe, Int.reduceBEq, ref, q, q1]
            refine vCall_of (hN) ?_ ?_ ?_; (focus simp only [go_sem, reduceIte, Nat.reduceEqDiff, reduceCtorEq, Nat.reduceLT, Nat.reduceAdd, Nat.reduceSub, Nat.reduceMul, Nat.reduceLeDiff, Int.reduceLT, Int.reduceLE, Int.reduceToNat, Int.reduceEq, Int.reduceAdd, Int.reduceSub, Int.reduceNeg, Int.reduceBNe, Int.reduceBEq]); (focus simp only [go_sem, reduceIte, Nat.reduceEqDiff, reduceCtorEq, Nat.reduceLT, Nat.reduceAdd, Nat.reduceSub, Nat.reduceMul, Nat.reduceLeDiff, Int.reduceLT, Int.reduceLE, Int.reduceToNat, Int.reduceEq, Int.reduceAdd, Int.reduceSub, Int.reduceNeg, Int.reduceBNe, Int.reduceBEq])
            simp only [go_sem, reduceIte, Nat.reduceEqDiff, reduceCtorEq, Nat.reduceLT, Nat.reduceAdd, Nat.reduceSub, Nat.reduceMul, Nat.reduceLeDiff, Int.reduceLT, Int.reduceLE, Int.reduceToNat, Int.reduceEq, Int.reduceAdd, Int.reduceSub, Int.reduceNeg, Int.reduceBNe, Int.reduceBEq, Bool.true_and, hg', decide_eq_true hg, Bool.true_or]
        · have hg' := beq_nil' hg
          rcases hs with h0 | h1
          · have q : (r.sc != 0) = false := by rw [h0]; rfl
            refine PL.Pure.of_v Try.func106 (by decide) rfl Try.ntmps106 Try.results106 (by simp) rfl ?_
            simp only [go_sem, reduceIte, Nat.reduceEqDiff, reduceCtorEq, Nat.reduceLT, Nat.reduceAdd, Nat.reduceSub, Nat.reduceMul, Nat.reduceLeDiff, Int.reduceLT, Int.reduceLE, Int.reduceToNat, Int.reduceEq, Int.reduceAdd, Int.reduceSub, Int.reduceNeg, Int.reduceBNe, Int.reduceBEq, ref, q]
            refine vCall_of (hN) ?_ ?_ ?_; (focus simp only [go_sem, reduceIte, Nat.reduceEqDiff, reduceCtorEq, Nat.reduceLT, Nat.reduceAdd, Nat.reduceSub, Nat.reduceMul, Nat.reduceLeDiff, Int.reduceLT, Int.reduceLE, Int.reduceToNat, Int.reduceEq, Int.reduceAdd, Int.reduceSub, Int.reduceNeg, Int.reduceBNe, Int.reduceBEq]); (focus simp only [go_sem, reduceIte, Nat.reduceEqDiff, reduceCtorEq, Nat.reduceLT, Nat.reduceAdd, Nat.reduceSub, Nat.reduceMul, Nat.reduceLeDiff, Int.reduceLT, Int.reduceLE, Int.reduceToNat, Int.reduceEq, Int.reduceAdd, Int.reduceSub, Int.reduceNeg, Int.reduceBNe, Int.reduceBEq])
            simp only [go_sem, reduceIte, Nat.reduceEqDiff, reduceCtorEq, Nat.reduceLT, Nat.reduceAdd, Nat.reduceSub, Nat.reduceMul, Nat.reduceLeDiff, Int.reduceLT, Int.reduceLE, Int.reduceToNat, Int.reduceEq, Int.reduceAdd, Int.reduceSub, Int.reduceNeg, Int.reduceBNe, Int.reduceBEq, hg']
            refine vCall_of (hG) ?_ ?_ ?_; (focus simp only [go_sem, reduceIte, Nat.reduceEqDiff, reduceCtorEq, Nat.reduceLT, Nat.reduceAdd, Nat.reduceSub, Nat.reduceMul, Nat.reduceLeDiff, Int.reduceLT, Int.reduceLE, Int.reduceToNat, Int.reduceEq, Int.reduceAdd, Int.reduceSub, Int.reduceNeg, Int.reduceBNe, Int.reduceBEq]); (focus simp only [go_sem, reduceIte, Nat.reduceEqDiff, reduceCtorEq, Nat.reduceLT, Nat.reduceAdd, Nat.reduceSub, Nat.reduceMul, Nat.reduceLeDiff, Int.reduceLT, Int.reduceLE, Int.reduceToNat, Int.reduceEq, Int.reduceAdd, Int.reduceSub, Int.reduceNeg, Int.reduceBNe, Int.reduceBEq])
            simp only [go_sem, reduceIte, Nat.reduceEqDiff, reduceCtorEq, Nat.reduceLT, Nat.reduceAdd, Nat.reduceSub, Nat.reduceMul, Nat.reduceLeDiff, Int.reduceLT, Int.reduceLE, Int.reduceToNat, Int.reduceEq, Int.reduceAdd, Int.reduceSub, Int.reduceNeg, Int.reduceBNe, Int.reduceBEq, Bool.true_and, decide_eq_false hg, Bool.false_or]
          · have q : (r.sc != 0) = true := by rw [h1]; rfl
            have q1 : (r.sc != 1) = false := by rw [h1]; rfl
            refine PL.Pure.of_v Try.func106 (by decide) rfl Try.ntmps106 Try.results106 (by simp) rfl ?_
            simp only [go_sem, reduceIte, Nat.reduceEqDiff, reduceCtorEq, Nat.reduceLT, Nat.reduceAdd, Nat.reduceSub, Nat.reduceMul, Nat.reduceLeDiff, Int.reduceLT, Int.reduceLE, Int.reduceToNat, Int.reduceEq, Int.reduceAdd, Int.reduceSub, Int.reduceNeg, Int.reduceBNe, Int.reduceBEq, ref, q, q1]
            refine vCall_of (hN) ?_ ?_ ?_; (focus simp only [go_sem, reduceIte, Nat.reduceEqDiff, reduceCtorEq, Nat.reduceLT, Nat.reduceAdd, Nat.reduceSub, Nat.reduceMul, Nat.reduceLeDiff, Int.reduceLT, Int.reduceLE, Int.reduceToNat, Int.reduceEq, Int.reduceAdd, Int.reduceSub, Int.reduceNeg, Int.reduceBNe, Int.reduceBEq]); (focus simp only [go_sem, reduceIte, Nat.reduceEqDiff, reduceCtorEq, Nat.reduceLT, Nat.reduceAdd, Nat.reduceSub, Nat.reduceMul, Nat.reduceLeDiff, Int.reduceLT, Int.reduceLE, Int.reduceToNat, Int.reduceEq, Int.reduceAdd, Int.reduceSub, Int.reduceNeg, Int.reduceBNe, Int.reduceBEq])
            simp only [go_sem, reduceIte, Nat.reduceEqDiff, reduceCtorEq, Nat.reduceLT, Nat.reduceAdd, Nat.reduceSub, Nat.reduceMul, Nat.reduceLeDiff, Int.reduceLT, Int.reduceLE, Int.reduceToNat, Int.reduceEq, Int.reduceAdd, Int.reduceSub, Int.reduceNeg, Int.reduceBNe, Int.reduceBEq, hg']
            refine vCall_of (hG) ?_ ?_ ?_; (focus simp only [go_sem, reduceIte, Nat.reduceEqDiff, reduceCtorEq, Nat.reduceLT, Nat.reduceAdd, Nat.reduceSub, Nat.reduceMul, Nat.reduceLeDiff, Int.reduceLT, Int.reduceLE, Int.reduceToNat, Int.reduceEq, Int.reduceAdd, Int.reduceSub, Int.reduceNeg, Int.reduceBNe, Int.reduceBEq]); (focus simp only [go_sem, reduceIte, Nat.reduceEqDiff, reduceCtorEq, Nat.reduceLT, Nat.reduceAdd, Nat.reduceSub, Nat.reduceMul, Nat.reduceLeDiff, Int.reduceLT, Int.reduceLE, Int.reduceToNat, Int.reduceEq, Int.reduceAdd, Int.reduceSub, Int.reduceNeg, Int.reduceBNe, Int.reduceBEq])
            simp only [go_sem, reduceIte, Nat.reduceEqDiff, reduceCtorEq, Nat.reduceLT, Nat.reduceAdd, Nat.reduceSub, Nat.reduceMul, Nat.reduceLeDiff, Int.reduceLT, Int.reduceLE, Int.reduceToNat, Int.reduceEq, Int.reduceAdd, Int.reduceSub, Int.reduceNeg, Int.reduceBNe, Int.reduceBEq, Bool.true_and, decide_eq_false hg, Bool.false_or]
    simp only [placeB, hs', Bool.true_and]
    exact key
  · have q : (r.sc != 0) = true := bne_iff_ne.2 (by omega)
    have q1 : (r.sc != 1) = true := bne_iff_ne.2 (by omega)
    have hx : placeB r = false := by
      have : (decide (r.sc = 0) || decide (r.sc = 1)) = false := by simp; omega
      simp only [placeB, this, Bool.false_and]
    refine PL.Pure.of_v Try.func106 (by decide) rfl Try.ntmps106 Try.results106 (by simp) rfl ?_
    simp only [go_sem, reduceIte, Nat.reduceEqDiff, reduceCtorEq, Nat.reduceLT, Nat.reduceAdd, Nat.reduceSub, Nat.reduceMul, Nat.reduceLeDiff, Int.reduceLT, Int.reduceLE, Int.reduceToNat, Int.reduceEq, Int.reduceAdd, Int.reduceSub, Int.reduceNeg, Int.reduceBNe, Int.reduceBEq, ref, q, q1, hx]
def prefixM (r : Rf) : Str := (if r.sc = 1 then [108, 105, 110, 101] else [104, 101, 97, 100]) ++ (if r.gr = [] then [] else [46] ++ r.gr)
def printM (r : Rf) : Str := if placeB r = true then prefixM r ++ [46] ++ r.nm else [63]
theorem name_len {s : Str} (h : nameB s = true) : 1 ≤ s.length ∧ s.length ≤ 12 := by
  simp only [nameB, Bool.and_eq_true, decide_eq_true_eq] at h
  exact h.1
set_option maxHeartbeats 1000000 in
theorem Text_pure (s : Str) : PL.Pure Try.prog 109 [.str s] (.bool (decide ((s.length : Int) ≤ 40))) := by
  refine PL.Pure.of_v Try.func109 (by decide) rfl Try.ntmps109 Try.results109 (by simp) rfl ?_
  simp only [go_sem, reduceIte, Nat.reduceEqDiff, reduceCtorEq, Nat.reduceLT, Nat.reduceAdd, Nat.reduceSub, Nat.reduceMul, Nat.reduceLeDiff, Int.reduceLT, Int.reduceLE, Int.reduceToNat, Int.reduceEq, Int.reduceAdd, Int.reduceSub, Int.reduceNeg, Int.reduceBNe, Int.reduceBEq]
