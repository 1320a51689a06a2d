/- Contracts of functions and laws of this seat, each for every input that it names: lemmas of the proof. -/
import Derived.Test.YtbojhapdidieoaaGreatXAj
set_option linter.unusedSimpArgs false
set_option linter.unusedVariables false
set_option linter.unusedSimpArgs false
set_option linter.unusedVariables false
namespace Go.Proofs.YtbojhapdidieoaaGreat
open Go.PL
def fldTop (f : Fd) : Bool := longB 200 f.at'.gr || (longB 200 f.at'.nm || (longB 200 f.df || decide (20 < (f.cases'.length : Int))))
def heavyF (f : Fd) : Bool := fldTop f || f.cases'.any (longB 200)
set_option maxRecDepth 20000 in
set_option maxHeartbeats 8000000 in
theorem RHeavyF_pure (f : Fd) (hl : f.cases'.length ≤ maxLen) : PL.Pure Tryz.prog 56 [fld f] (.bool (heavyF f)) := by
  have top : ∀ b, fldTop f = b → (∀ (_ : b = true), heavyF f = true) := fun b hb h => by simp only [heavyF, hb, h, Bool.true_or]
  cases ht : fldTop f
  · have hx : heavyF f = f.cases'.any (longB 200) := by simp only [heavyF, ht, Bool.false_or]
    rw [hx]
    simp only [fldTop, longB, Bool.or_eq_false_iff, decide_eq_false_iff_not] at ht
    obtain ⟨t1, t2, t3, t4⟩ := ht
    have t1 : ¬ (200 : Int) < (f.at'.gr.length : Int) := by omega
    have t2 : ¬ (200 : Int) < (f.at'.nm.length : Int) := by omega
    have t3 : ¬ (200 : Int) < (f.df.length : Int) := by omega
    refine PL.Pure.of_v Tryz.func56 (by decide) rfl Tryz.ntmps56 Tryz.results56 (by simp) rfl ?_
    simp only [go_sem, reduceIte, Nat.reduceEqDiff, reduceCtorEq, Nat.reduceLT, Nat.reduceAdd, Nat.reduceSub, Nat.reduceMul, Nat.reduceLeDiff, Int.reduceLT, Int.reduceLE, Int.reduceToNat, Int.reduceEq, Int.reduceAdd, Int.reduceSub, Int.reduceNeg, Int.reduceBNe, Int.reduceBEq, fld, t1, t2, t3, t4]
    refine vLoopM (ι := { k : Nat // k ≤ f.cases'.length ∧ ∀ j, j < k → longB 200 (f.cases'.getD j []) = false }) 42 (fun x => [(1, .ptr 1 0), (3, .int .i64 (x.1 : Int))]) (fun x => [(1, [.int .i64 f.at'.sc, .str f.at'.gr, .str f.at'.nm, .int .i64 f.kind, .str f.df, .sl .no (f.cases'.map .str), .int .i64 f.worth], false)]) (fun x => []) (fun x => f.cases'.length - x.1) ⟨0, by omega, fun j hj => by omega⟩
      ⟨rfl, (forall_cons rfl (forall_cons rfl (forall_nil))), forall_cons ⟨rfl, rfl⟩ forall_nil, forall_nil⟩ (fun x => ⟨(forall_cons rfl (forall_cons rfl (forall_nil))), (forall_cons rfl (forall_nil))⟩) (fun x => ?_)
    obtain ⟨k, hk, hall⟩ := x
    simp only
    by_cases h : (k : Int) < (f.cases'.length : Int)
    · have hka : k < f.cases'.length := by omega
      have w1 := w64s hka hl
      have i1 : (0 : Int) ≤ (k : Int) := by omega
      by_cases g : (200 : Int) < ((f.cases'.getD k []).length : Int)
      · have hz := any_true (p := longB 200) hka (d := []) (by simp only [longB, decide_eq_true_eq]; omega)
        simp only [go_sem, reduceIte, Nat.reduceEqDiff, reduceCtorEq, Nat.reduceLT, Nat.reduceAdd, Nat.reduceSub, Nat.reduceMul, Nat.reduceLeDiff, Int.reduceLT, Int.reduceLE, Int.reduceToNat, Int.reduceEq, Int.reduceAdd, Int.reduceSub, Int.reduceNeg, Int.reduceBNe, Int.reduceBEq, h, getD_str hka, i1, g, hz]
      · simp only [go_sem, reduceIte, Nat.reduceEqDiff, reduceCtorEq, Nat.reduceLT, Nat.reduceAdd, Nat.reduceSub, Nat.reduceMul, Nat.reduceLeDiff, Int.reduceLT, Int.reduceLE, Int.reduceToNat, Int.reduceEq, Int.reduceAdd, Int.reduceSub, Int.reduceNeg, Int.reduceBNe, Int.reduceBEq, h, getD_str hka, i1, g, w1]
        exact ⟨⟨k + 1, by omega, below_succ hall (by simp only [longB, decide_eq_false_iff_not]; omega)⟩, by show f.cases'.length - (k + 1) < f.cases'.length - k; omega, ⟨rfl, (forall_cons rfl (forall_cons rfl (forall_nil))), forall_cons ⟨rfl, rfl⟩ forall_nil, forall_nil⟩⟩
    · have hz := any_false (p := longB 200) (d := []) (l := f.cases') (fun j hj => hall j (by omega))
      simp only [go_sem, reduceIte, Nat.reduceEqDiff, reduceCtorEq, Nat.reduceLT, Nat.reduceAdd, Nat.reduceSub, Nat.reduceMul, Nat.reduceLeDiff, Int.reduceLT, Int.reduceLE, Int.reduceToNat, Int.reduceEq, Int.reduceAdd, Int.reduceSub, Int.reduceNeg, Int.reduceBNe, Int.reduceBEq, h, hz]
  · have hx := top _ ht rfl
    rw [hx]
    simp only [fldTop, longB, Bool.or_eq_true, decide_eq_true_eq] at ht
    by_cases t1 : (200 : Int) < (f.at'.gr.length : Int)
    · refine PL.Pure.of_v Tryz.func56 (by decide) rfl Tryz.ntmps56 Tryz.results56 (by simp) rfl ?_
      simp only [go_sem, reduceIte, Nat.reduceEqDiff, reduceCtorEq, Nat.reduceLT, Nat.reduceAdd, Nat.reduceSub, Nat.reduceMul, Nat.reduceLeDiff, Int.reduceLT, Int.reduceLE, Int.reduceToNat, Int.reduceEq, Int.reduceAdd, Int.reduceSub, Int.reduceNeg, Int.reduceBNe, Int.reduceBEq, fld, t1]
    · by_cases t2 : (200 : Int) < (f.at'.nm.length : Int)
      · refine PL.Pure.of_v Tryz.func56 (by decide) rfl Tryz.ntmps56 Tryz.results56 (by simp) rfl ?_
        simp only [go_sem, reduceIte, Nat.reduceEqDiff, reduceCtorEq, Nat.reduceLT, Nat.reduceAdd, Nat.reduceSub, Nat.reduceMul, Nat.reduceLeDiff, Int.reduceLT, Int.reduceLE, Int.reduceToNat, Int.reduceEq, Int.reduceAdd, Int.reduceSub, Int.reduceNeg, Int.reduceBNe, Int.reduceBEq, fld, t1, t2]
      · by_cases t3 : (200 : Int) < (f.df.length : Int)
        · refine PL.Pure.of_v Tryz.func56 (by decide) rfl Tryz.ntmps56 Tryz.results56 (by simp) rfl ?_
          simp only [go_sem, reduceIte, Nat.reduceEqDiff, reduceCtorEq, Nat.reduceLT, Nat.reduceAdd, Nat.reduceSub, Nat.reduceMul, Nat.reduceLeDiff, Int.reduceLT, Int.reduceLE, Int.reduceToNat, Int.reduceEq, Int.reduceAdd, Int.reduceSub, Int.reduceNeg, Int.reduceBNe, Int.reduceBEq, fld, t1, t2, t3]
        · have t4 : (20 : Int) < (f.cases'.length : Int) := by omega
          refine PL.Pure.of_v Tryz.func56 (by decide) rfl Tryz.ntmps56 Tryz.results56 (by simp) rfl ?_
          simp only [go_sem, reduceIte, Nat.reduceEqDiff, reduceCtorEq, Nat.reduceLT, Nat.reduceAdd, Nat.reduceSub, Nat.reduceMul, Nat.reduceLeDiff, Int.reduceLT, Int.reduceLE, Int.reduceToNat, Int.reduceEq, Int.reduceAdd, Int.reduceSub, Int.reduceNeg, Int.reduceBNe, Int.reduceBEq, fld, t1, t2, t3, t4]
end Go.Proofs.YtbojhapdidieoaaGreat

set_option linter.unusedSimpArgs false
set_option linter.unusedVariables false
set_option linter.unusedSimpArgs false
set_option linter.unusedVariables false
namespace Go.Proofs.YtbojhapdidieoaaGreat
open Go.PL
end Go.Proofs.YtbojhapdidieoaaGreat
