/- Contracts of functions and laws of this seat, each for every input that it names: lemmas of the proof. -/
import Derived.Test.YtbojhapdidieoaaGreatXAb
set_option linter.unusedSimpArgs false
set_option linter.unusedVariables false
set_option linter.unusedSimpArgs false
set_option linter.unusedVariables false
namespace Go.Proofs.YtbojhapdidieoaaGreat
open Go.PL
set_option maxRecDepth 20000 in
set_option maxHeartbeats 4000000 in
theorem RName_pure (s : Str) : PL.Pure Tryz.prog 115 [.str s] (.bool (nameB s)) := by
  by_cases h1 : (s.length : Int) < 1
  · have hx : nameB s = false := by simp only [nameB, show ¬ (1 ≤ s.length ∧ s.length ≤ 12) by omega, decide_false, Bool.false_and]
    refine PL.Pure.of_v Tryz.func115 (by decide) rfl Tryz.ntmps115 Tryz.results115 (by simp) rfl ?_
    simp only [go_sem, reduceIte, Nat.reduceEqDiff, reduceCtorEq, Nat.reduceLT, Nat.reduceAdd, Nat.reduceSub, Nat.reduceMul, Nat.reduceLeDiff, Int.reduceLT, Int.reduceLE, Int.reduceToNat, Int.reduceEq, Int.reduceAdd, Int.reduceSub, Int.reduceNeg, Int.reduceBNe, Int.reduceBEq, h1, hx]
  · by_cases h2 : (12 : Int) < (s.length : Int)
    · have hx : nameB s = false := by simp only [nameB, show ¬ (1 ≤ s.length ∧ s.length ≤ 12) by omega, decide_false, Bool.false_and]
      refine PL.Pure.of_v Tryz.func115 (by decide) rfl Tryz.ntmps115 Tryz.results115 (by simp) rfl ?_
      simp only [go_sem, reduceIte, Nat.reduceEqDiff, reduceCtorEq, Nat.reduceLT, Nat.reduceAdd, Nat.reduceSub, Nat.reduceMul, Nat.reduceLeDiff, Int.reduceLT, Int.reduceLE, Int.reduceToNat, Int.reduceEq, Int.reduceAdd, Int.reduceSub, Int.reduceNeg, Int.reduceBNe, Int.reduceBEq, h1, h2, hx]
    · have hn : nameB s = (List.range s.length).all (okAt s) := by simp only [nameB, show (1 ≤ s.length ∧ s.length ≤ 12) by omega, and_self, decide_true, Bool.true_and]
      refine PL.Pure.of_v Tryz.func115 (by decide) rfl Tryz.ntmps115 Tryz.results115 (by simp) rfl ?_
      simp only [go_sem, reduceIte, Nat.reduceEqDiff, reduceCtorEq, Nat.reduceLT, Nat.reduceAdd, Nat.reduceSub, Nat.reduceMul, Nat.reduceLeDiff, Int.reduceLT, Int.reduceLE, Int.reduceToNat, Int.reduceEq, Int.reduceAdd, Int.reduceSub, Int.reduceNeg, Int.reduceBNe, Int.reduceBEq, h1, h2]
      refine vLoopM (ι := { k : Nat // k ≤ s.length ∧ ∀ j, j < k → okAt s j = true }) 50 (fun x => [(0, .str s), (3, .int .i64 (x.1 : Int))]) (fun x => []) (fun x => []) (fun x => s.length - x.1) ⟨0, by omega, fun j hj => by omega⟩
        ⟨rfl, (forall_cons rfl (forall_cons rfl (forall_nil))), forall_nil, forall_nil⟩ (fun x => ⟨(forall_cons rfl (forall_cons rfl (forall_nil))), forall_nil⟩) (fun x => ?_)
      obtain ⟨k, hk, hall⟩ := x
      simp only
      by_cases h : (k : Int) < (s.length : Int)
      · have hka : k < s.length := by omega
        have w1 : IntKind.i64.wrap ((k : Int) + 1) = ((k + 1 : Nat) : Int) := by rw [w64 (by omega)]; rfl
        have i1 : (0 : Int) ≤ (k : Int) := by omega
        cases ho : okAt s k
        · have hx : nameB s = false := by
            rw [hn, List.all_eq_false]
            exact ⟨k, by simpa using hka, by simp [ho]⟩
          simp only [okAt, Bool.or_eq_false_iff, decide_eq_false_iff_not, Bool.and_eq_false_iff] at ho
          by_cases g1 : 97 ≤ nm s k
          · have g2 : ¬ nm s k ≤ 122 := by omega
            have g3 : 48 ≤ nm s k := by omega
            have g4 : ¬ nm s k ≤ 57 := by omega
            simp only [go_sem, reduceIte, Nat.reduceEqDiff, reduceCtorEq, Nat.reduceLT, Nat.reduceAdd, Nat.reduceSub, Nat.reduceMul, Nat.reduceLeDiff, Int.reduceLT, Int.reduceLE, Int.reduceToNat, Int.reduceEq, Int.reduceAdd, Int.reduceSub, Int.reduceNeg, Int.reduceBNe, Int.reduceBEq, h, i1, nm_fold, g1, g2, g3, g4, hx]
          · by_cases g3 : 48 ≤ nm s k
            · by_cases g4 : nm s k ≤ 57
              · have hk0 : ((k : Int) == 0) = true := by
                  rw [beq_iff_eq]
                  rcases ho.2 with h' | h' <;> omega
                simp only [go_sem, reduceIte, Nat.reduceEqDiff, reduceCtorEq, Nat.reduceLT, Nat.reduceAdd, Nat.reduceSub, Nat.reduceMul, Nat.reduceLeDiff, Int.reduceLT, Int.reduceLE, Int.reduceToNat, Int.reduceEq, Int.reduceAdd, Int.reduceSub, Int.reduceNeg, Int.reduceBNe, Int.reduceBEq, h, i1, nm_fold, g1, g3, g4, hk0, hx]
              · simp only [go_sem, reduceIte, Nat.reduceEqDiff, reduceCtorEq, Nat.reduceLT, Nat.reduceAdd, Nat.reduceSub, Nat.reduceMul, Nat.reduceLeDiff, Int.reduceLT, Int.reduceLE, Int.reduceToNat, Int.reduceEq, Int.reduceAdd, Int.reduceSub, Int.reduceNeg, Int.reduceBNe, Int.reduceBEq, h, i1, nm_fold, g1, g3, g4, hx]
            · simp only [go_sem, reduceIte, Nat.reduceEqDiff, reduceCtorEq, Nat.reduceLT, Nat.reduceAdd, Nat.reduceSub, Nat.reduceMul, Nat.reduceLeDiff, Int.reduceLT, Int.reduceLE, Int.reduceToNat, Int.reduceEq, Int.reduceAdd, Int.reduceSub, Int.reduceNeg, Int.reduceBNe, Int.reduceBEq, h, i1, nm_fold, g1, g3, hx]
        · have nx : ∀ j, j < k + 1 → okAt s j = true := below_succ hall ho
          simp only [okAt, Bool.or_eq_true, decide_eq_true_eq, Bool.and_eq_true] at ho
          by_cases g1 : 97 ≤ nm s k
          · have g2 : nm s k ≤ 122 := by omega
            have g3 : 48 ≤ nm s k := by omega
            have g4 : ¬ nm s k ≤ 57 := by omega
            simp only [go_sem, reduceIte, Nat.reduceEqDiff, reduceCtorEq, Nat.reduceLT, Nat.reduceAdd, Nat.reduceSub, Nat.reduceMul, Nat.reduceLeDiff, Int.reduceLT, Int.reduceLE, Int.reduceToNat, Int.reduceEq, Int.reduceAdd, Int.reduceSub, Int.reduceNeg, Int.reduceBNe, Int.reduceBEq, h, i1, nm_fold, g1, g2, g3, g4, w1]
            exact ⟨⟨k + 1, by omega, nx⟩, by show s.length - (k + 1) < s.length - k; omega, ⟨rfl, (forall_cons rfl (forall_cons rfl (forall_nil))), forall_nil, forall_nil⟩⟩
          · have g3 : 48 ≤ nm s k := by omega
            have g4 : nm s k ≤ 57 := by omega
            have hk0 : ((k : Int) == 0) = false := beq_eq_false_iff_ne.2 (by omega)
            simp only [go_sem, reduceIte, Nat.reduceEqDiff, reduceCtorEq, Nat.reduceLT, Nat.reduceAdd, Nat.reduceSub, Nat.reduceMul, Nat.reduceLeDiff, Int.reduceLT, Int.reduceLE, Int.reduceToNat, Int.reduceEq, Int.reduceAdd, Int.reduceSub, Int.reduceNeg, Int.reduceBNe, Int.reduceBEq, h, i1, nm_fold, g1, g3, g4, hk0, w1]
            exact ⟨⟨k + 1, by omega, nx⟩, by show s.length - (k + 1) < s.length - k; omega, ⟨rfl, (forall_cons rfl (forall_cons rfl (forall_nil))), forall_nil, forall_nil⟩⟩
      · have hx : nameB s = true := by
          rw [hn, List.all_eq_true]
          intro j hj
          exact hall j (by have := List.mem_range.1 hj; omega)
        simp only [go_sem, reduceIte, Nat.reduceEqDiff, reduceCtorEq, Nat.reduceLT, Nat.reduceAdd, Nat.reduceSub, Nat.reduceMul, Nat.reduceLeDiff, Int.reduceLT, Int.reduceLE, Int.reduceToNat, Int.reduceEq, Int.reduceAdd, Int.reduceSub, Int.reduceNeg, Int.reduceBNe, Int.reduceBEq, h, hx]
theorem place_alt (r : Rf) : placeB r = (decide (0 ≤ r.sc) && (decide (r.sc ≤ 1) && (nameB r.nm && (decide (r.gr = []) || nameB r.gr)))) := by
  have : (decide (r.sc = 0) || decide (r.sc = 1)) = (decide (0 ≤ r.sc) && decide (r.sc ≤ 1)) := by
    rw [Bool.eq_iff_iff]; simp; omega
  rw [placeB, this, Bool.and_assoc]
set_option maxRecDepth 20000 in
set_option maxHeartbeats 4000000 in
theorem RPlace_pure (r : Rf) : PL.Pure Tryz.prog 156 [ref r] (.bool (placeB r)) := by
  rw [place_alt]
  have hN := RName_pure r.nm
  have hG := RName_pure r.gr
  refine PL.Pure.of_v Tryz.func156 (by decide) rfl Tryz.ntmps156 Tryz.results156 (by simp) rfl ?_
  simp only [go_sem, reduceIte, Nat.reduceEqDiff, reduceCtorEq, Nat.reduceLT, Nat.reduceAdd, Nat.reduceSub, Nat.reduceMul, Nat.reduceLeDiff, Int.reduceLT, Int.reduceLE, Int.reduceToNat, Int.reduceEq, Int.reduceAdd, Int.reduceSub, Int.reduceNeg, Int.reduceBNe, Int.reduceBEq, ref]
  repeat' (first | (refine vGuard_t (fun h => ?_) (fun h => ?_) <;> (try simp only [go_sem, reduceIte, Nat.reduceEqDiff, reduceCtorEq, Nat.reduceLT, Nat.reduceAdd, Nat.reduceSub, Nat.reduceMul, Nat.reduceLeDiff, Int.reduceLT, Int.reduceLE, Int.reduceToNat, Int.reduceEq, Int.reduceAdd, Int.reduceSub, Int.reduceNeg, Int.reduceBNe, Int.reduceBEq, h])) | (refine vGuard_f (fun h => ?_) (fun h => ?_) <;> (try simp only [go_sem, reduceIte, Nat.reduceEqDiff, reduceCtorEq, Nat.reduceLT, Nat.reduceAdd, Nat.reduceSub, Nat.reduceMul, Nat.reduceLeDiff, Int.reduceLT, Int.reduceLE, Int.reduceToNat, Int.reduceEq, Int.reduceAdd, Int.reduceSub, Int.reduceNeg, Int.reduceBNe, Int.reduceBEq, h])) | (refine vCond_b (fun h => ?_) (fun h => ?_) <;> (try simp only [go_sem, reduceIte, Nat.reduceEqDiff, reduceCtorEq, Nat.reduceLT, Nat.reduceAdd, Nat.reduceSub, Nat.reduceMul, Nat.reduceLeDiff, Int.reduceLT, Int.reduceLE, Int.reduceToNat, Int.reduceEq, Int.reduceAdd, Int.reduceSub, Int.reduceNeg, Int.reduceBNe, Int.reduceBEq, h])) | ((refine vCall_of (hN) ?_ ?_ ?_); (focus simp only [go_sem, reduceIte, Nat.reduceEqDiff, reduceCtorEq, Nat.reduceLT, Nat.reduceAdd, Nat.reduceSub, Nat.reduceMul, Nat.reduceLeDiff, Int.reduceLT, Int.reduceLE, Int.reduceToNat, Int.reduceEq, Int.reduceAdd, Int.reduceSub, Int.reduceNeg, Int.reduceBNe, Int.reduceBEq]); (focus exact rfl); (try simp only [go_sem, reduceIte, Nat.reduceEqDiff, reduceCtorEq, Nat.reduceLT, Nat.reduceAdd, Nat.reduceSub, Nat.reduceMul, Nat.reduceLeDiff, Int.reduceLT, Int.reduceLE, Int.reduceToNat, Int.reduceEq, Int.reduceAdd, Int.reduceSub, Int.reduceNeg, Int.reduceBNe, Int.reduceBEq])) | ((refine vCall_of (hG) ?_ ?_ ?_); (focus simp only [go_sem, reduceIte, Nat.reduceEqDiff, reduceCtorEq, Nat.reduceLT, Nat.reduceAdd, Nat.reduceSub, Nat.reduceMul, Nat.reduceLeDiff, Int.reduceLT, Int.reduceLE, Int.reduceToNat, Int.reduceEq, Int.reduceAdd, Int.reduceSub, Int.reduceNeg, Int.reduceBNe, Int.reduceBEq]); (focus exact rfl); (try simp only [go_sem, reduceIte, Nat.reduceEqDiff, reduceCtorEq, Nat.reduceLT, Nat.reduceAdd, Nat.reduceSub, Nat.reduceMul, Nat.reduceLeDiff, Int.reduceLT, Int.reduceLE, Int.reduceToNat, Int.reduceEq, Int.reduceAdd, Int.reduceSub, Int.reduceNeg, Int.reduceBNe, Int.reduceBEq])) | ((refine vDrawQ (by kernel_rfl) (by kernel_rfl) ?_); (try simp only [go_sem, reduceIte, Nat.reduceEqDiff, reduceCtorEq, Nat.reduceLT, Nat.reduceAdd, Nat.reduceSub, Nat.reduceMul, Nat.reduceLeDiff, Int.reduceLT, Int.reduceLE, Int.reduceToNat, Int.reduceEq, Int.reduceAdd, Int.reduceSub, Int.reduceNeg, Int.reduceBNe, Int.reduceBEq])))
  all_goals (simp_all)
set_option maxHeartbeats 1000000 in
theorem RHas_pure (l : List Str) (s : Str) (hl : l.length ≤ maxLen) : PL.Pure Tryz.prog 173 [strs l, .str s] (.bool (l.any (· == s))) := by
  refine PL.Pure.of_v Tryz.func173 (by decide) rfl Tryz.ntmps173 Tryz.results173 (by simp) rfl ?_
  simp only [go_sem, reduceIte, Nat.reduceEqDiff, reduceCtorEq, Nat.reduceLT, Nat.reduceAdd, Nat.reduceSub, Nat.reduceMul, Nat.reduceLeDiff, Int.reduceLT, Int.reduceLE, Int.reduceToNat, Int.reduceEq, Int.reduceAdd, Int.reduceSub, Int.reduceNeg, Int.reduceBNe, Int.reduceBEq, strs]
  refine vLoopM (ι := { k : Nat // k ≤ l.length ∧ ∀ j, j < k → (l.getD j [] == s) = false }) 18 (fun x => [(0, strs l), (1, .str s), (5, .int .i64 (x.1 : Int))]) (fun x => []) (fun x => []) (fun x => l.length - x.1) ⟨0, by omega, fun j hj => by omega⟩
    ⟨rfl, (forall_cons rfl (forall_cons rfl (forall_cons rfl (forall_nil)))), forall_nil, forall_nil⟩ (fun x => ⟨(forall_cons rfl (forall_cons rfl (forall_cons rfl (forall_nil)))), forall_nil⟩) (fun x => ?_)
  obtain ⟨k, hk, hall⟩ := x
  simp only
  by_cases h : (k : Int) < (l.length : Int)
  · have hka : k < l.length := by omega
    have w1 := w64s hka hl
    have i1 : (0 : Int) ≤ (k : Int) := by omega
    cases he : (l.getD k [] == s)
    · simp only [go_sem, reduceIte, Nat.reduceEqDiff, reduceCtorEq, Nat.reduceLT, Nat.reduceAdd, Nat.reduceSub, Nat.reduceMul, Nat.reduceLeDiff, Int.reduceLT, Int.reduceLE, Int.reduceToNat, Int.reduceEq, Int.reduceAdd, Int.reduceSub, Int.reduceNeg, Int.reduceBNe, Int.reduceBEq, strs, h, getD_str hka, i1, he, w1]
      exact ⟨⟨k + 1, by omega, below_succ hall he⟩, by show l.length - (k + 1) < l.length - k; omega, ⟨rfl, (forall_cons rfl (forall_cons rfl (forall_cons rfl (forall_nil)))), forall_nil, forall_nil⟩⟩
    · have hx := any_true (p := (· == s)) hka he
      simp only [go_sem, reduceIte, Nat.reduceEqDiff, reduceCtorEq, Nat.reduceLT, Nat.reduceAdd, Nat.reduceSub, Nat.reduceMul, Nat.reduceLeDiff, Int.reduceLT, Int.reduceLE, Int.reduceToNat, Int.reduceEq, Int.reduceAdd, Int.reduceSub, Int.reduceNeg, Int.reduceBNe, Int.reduceBEq, strs, h, getD_str hka, i1, he, hx]
  · have hx := any_false (p := (· == s)) (d := []) (l := l) (fun j hj => hall j (by omega))
    simp only [go_sem, reduceIte, Nat.reduceEqDiff, reduceCtorEq, Nat.reduceLT, Nat.reduceAdd, Nat.reduceSub, Nat.reduceMul, Nat.reduceLeDiff, Int.reduceLT, Int.reduceLE, Int.reduceToNat, Int.reduceEq, Int.reduceAdd, Int.reduceSub, Int.reduceNeg, Int.reduceBNe, Int.reduceBEq, strs, h, hx]
def lessB (a b : Rf) : Bool := if a.sc ≠ b.sc then decide (a.sc < b.sc) else if a.gr ≠ b.gr then bytesLt a.gr b.gr else bytesLt a.nm b.nm
set_option maxHeartbeats 1000000 in
theorem RLess_pure (a b : Rf) : PL.Pure Tryz.prog 154 [ref a, ref b] (.bool (lessB a b)) := by
  refine PL.Pure.of_v Tryz.func154 (by decide) rfl Tryz.ntmps154 Tryz.results154 (by simp) rfl ?_
  simp only [go_sem, reduceIte, Nat.reduceEqDiff, reduceCtorEq, Nat.reduceLT, Nat.reduceAdd, Nat.reduceSub, Nat.reduceMul, Nat.reduceLeDiff, Int.reduceLT, Int.reduceLE, Int.reduceToNat, Int.reduceEq, Int.reduceAdd, Int.reduceSub, Int.reduceNeg, Int.reduceBNe, Int.reduceBEq, ref]
  repeat' (first | (refine vGuard_t (fun h => ?_) (fun h => ?_) <;> (try simp only [go_sem, reduceIte, Nat.reduceEqDiff, reduceCtorEq, Nat.reduceLT, Nat.reduceAdd, Nat.reduceSub, Nat.reduceMul, Nat.reduceLeDiff, Int.reduceLT, Int.reduceLE, Int.reduceToNat, Int.reduceEq, Int.reduceAdd, Int.reduceSub, Int.reduceNeg, Int.reduceBNe, Int.reduceBEq, h])) | (refine vGuard_f (fun h => ?_) (fun h => ?_) <;> (try simp only [go_sem, reduceIte, Nat.reduceEqDiff, reduceCtorEq, Nat.reduceLT, Nat.reduceAdd, Nat.reduceSub, Nat.reduceMul, Nat.reduceLeDiff, Int.reduceLT, Int.reduceLE, Int.reduceToNat, Int.reduceEq, Int.reduceAdd, Int.reduceSub, Int.reduceNeg, Int.reduceBNe, Int.reduceBEq, h])) | (refine vCond_b (fun h => ?_) (fun h => ?_) <;> (try simp only [go_sem, reduceIte, Nat.reduceEqDiff, reduceCtorEq, Nat.reduceLT, Nat.reduceAdd, Nat.reduceSub, Nat.reduceMul, Nat.reduceLeDiff, Int.reduceLT, Int.reduceLE, Int.reduceToNat, Int.reduceEq, Int.reduceAdd, Int.reduceSub, Int.reduceNeg, Int.reduceBNe, Int.reduceBEq, h])) | ((refine vDrawQ (by kernel_rfl) (by kernel_rfl) ?_); (try simp only [go_sem, reduceIte, Nat.reduceEqDiff, reduceCtorEq, Nat.reduceLT, Nat.reduceAdd, Nat.reduceSub, Nat.reduceMul, Nat.reduceLeDiff, Int.reduceLT, Int.reduceLE, Int.reduceToNat, Int.reduceEq, Int.reduceAdd, Int.reduceSub, Int.reduceNeg, Int.reduceBNe, Int.reduceBEq])))
  all_goals (simp_all [lessB])
end Go.Proofs.YtbojhapdidieoaaGreat

set_option linter.unusedSimpArgs false
set_option linter.unusedVariables false
set_option linter.unusedSimpArgs false
set_option linter.unusedVariables false
namespace Go.Proofs.YtbojhapdidieoaaGreat
open Go.PL
attribute [go_sem] Option.map_some Option.map_none Option.isNone_none
theorem take_str (l : List Str) (k : Nat) : List.take k (l.map PV.str) = (l.take k).map PV.str := by rw [List.map_take]
def caseOk (l : List Str) (i : Nat) : Bool := nameB (l.getD i []) && !((l.take i).any (· == l.getD i []))
def casesB (l : List Str) : Bool := (List.range l.length).all (caseOk l)
theorem casesB_false {l : List Str} {k : Nat} (hk : k < l.length) (h : caseOk l k = false) : casesB l = false := by
  rw [casesB, List.all_eq_false]; exact ⟨k, by simpa using hk, by simp [h]⟩
theorem casesB_true {l : List Str} (h : ∀ j, j < l.length → caseOk l j = true) : casesB l = true := by
  rw [casesB, List.all_eq_true]; intro j hj; exact h j (List.mem_range.1 hj)
def tail3 (f : Fd) : Bool := casesB f.cases' && (decide ((f.cases'.length : Int) < 7) && f.cases'.any (· == f.df))
def tail2 (f : Fd) : Bool := !decide (0 < (f.cases'.length : Int)) && ((decide (f.kind = 2) && decide ((f.df.length : Int) < 41)) || (decide (f.kind = 4) && decide (f.df = [])))
def rightF (f : Fd) : Bool :=
  placeB f.at' && (if f.kind = 1 then decide (f.df = []) && (decide ((f.cases'.length : Int) = 0) && (decide (0 < f.worth) && decide (f.worth < 1048577)))
    else decide (f.worth = 0) && (if f.kind = 3 then tail3 f else tail2 f))
set_option maxRecDepth 20000 in
set_option maxHeartbeats 8000000 in
theorem RRight_pure (f : Fd) (hl : f.cases'.length ≤ maxLen) : PL.Pure Tryz.prog 153 [fld f] (.bool (rightF f)) := by
  have hP := RPlace_pure f.at'
  by_cases h3 : f.kind = 3
  · have k1 : (f.kind == 1) = false := by rw [h3]; rfl
    have k3 : (f.kind == 3) = true := by rw [h3]; rfl
    cases hp : placeB f.at'
    · rw [hp] at hP
      refine PL.Pure.of_v Tryz.func153 (by decide) rfl Tryz.ntmps153 Tryz.results153 (by simp) rfl ?_
      simp only [go_sem, reduceIte, Nat.reduceEqDiff, reduceCtorEq, Nat.reduceLT, Nat.reduceAdd, Nat.reduceSub, Nat.reduceMul, Nat.reduceLeDiff, Int.reduceLT, Int.reduceLE, Int.reduceToNat, Int.reduceEq, Int.reduceAdd, Int.reduceSub, Int.reduceNeg, Int.reduceBNe, Int.reduceBEq, fld]
      refine vCall_of (hP) ?_ ?_ ?_; (focus simp only [go_sem, reduceIte, Nat.reduceEqDiff, reduceCtorEq, ref]); (focus simp only [go_sem, reduceIte, Nat.reduceEqDiff, reduceCtorEq, ref])
      simp only [go_sem, reduceIte, Nat.reduceEqDiff, reduceCtorEq, Nat.reduceLT, Nat.reduceAdd, Nat.reduceSub, Nat.reduceMul, Nat.reduceLeDiff, Int.reduceLT, Int.reduceLE, Int.reduceToNat, Int.reduceEq, Int.reduceAdd, Int.reduceSub, Int.reduceNeg, Int.reduceBNe, Int.reduceBEq, rightF, hp, Bool.false_and]
    · rw [hp] at hP
      by_cases hw : f.worth = 0
      · have hw' : (f.worth != 0) = false := by rw [hw]; rfl
        have hx : rightF f = tail3 f := by
          simp only [rightF, hp, h3, hw, Bool.true_and, decide_true, if_true]
          rfl
        rw [hx]
        refine PL.Pure.of_v Tryz.func153 (by decide) rfl Tryz.ntmps153 Tryz.results153 (by simp) rfl ?_
        simp only [go_sem, reduceIte, Nat.reduceEqDiff, reduceCtorEq, Nat.reduceLT, Nat.reduceAdd, Nat.reduceSub, Nat.reduceMul, Nat.reduceLeDiff, Int.reduceLT, Int.reduceLE, Int.reduceToNat, Int.reduceEq, Int.reduceAdd, Int.reduceSub, Int.reduceNeg, Int.reduceBNe, Int.reduceBEq, fld]
        refine vCall_of (hP) ?_ ?_ ?_; (focus simp only [go_sem, reduceIte, Nat.reduceEqDiff, reduceCtorEq, ref]); (focus simp only [go_sem, reduceIte, Nat.reduceEqDiff, reduceCtorEq, ref])
        simp only [go_sem, reduceIte, Nat.reduceEqDiff, reduceCtorEq, Nat.reduceLT, Nat.reduceAdd, Nat.reduceSub, Nat.reduceMul, Nat.reduceLeDiff, Int.reduceLT, Int.reduceLE, Int.reduceToNat, Int.reduceEq, Int.reduceAdd, Int.reduceSub, Int.reduceNeg, Int.reduceBNe, Int.reduceBEq, k1, k3, hw']
        refine vLoopM (ι := { k : Nat // k ≤ f.cases'.length ∧ ∀ j, j < k → caseOk f.cases' j = true }) 96 (fun x => [(1, .ptr 1 0), (3, .int .i64 (x.1 : Int))]) (fun x => [(1, [.int .i64 f.at'.sc, .str f.at'.gr, .str f.at'.nm, .int .i64 f.kind, .str f.df, .sl .no (f.cases'.map .str), .int .i64 f.worth], false)]) (fun x => []) (fun x => f.cases'.length - x.1) ⟨0, by omega, fun j hj => by omega⟩
          ⟨rfl, (forall_cons rfl (forall_cons rfl (forall_nil))), forall_cons ⟨rfl, rfl⟩ forall_nil, forall_nil⟩ (fun x => ⟨(forall_cons rfl (forall_cons rfl (forall_nil))), (forall_cons rfl (forall_nil))⟩) (fun x => ?_)
        obtain ⟨k, hk, hall⟩ := x
        simp only
        by_cases h : (k : Int) < (f.cases'.length : Int)
        · have hka : k < f.cases'.length := by omega
          have w1 := w64s hka hl
          have i1 : (0 : Int) ≤ (k : Int) := by omega
          have i2 : (k : Int) ≤ (f.cases'.length : Int) := by omega
          have hN := RName_pure (f.cases'.getD k [])
          have hT : (f.cases'.take k).length ≤ maxLen := by rw [List.length_take]; omega
          have hH := RHas_pure (f.cases'.take k) (f.cases'.getD k []) hT
          cases hn : nameB (f.cases'.getD k [])
          · rw [hn] at hN
            have hz : tail3 f = false := by simp only [tail3, casesB_false hka (by simp only [caseOk, hn, Bool.false_and]), Bool.false_and]
            simp only [go_sem, reduceIte, Nat.reduceEqDiff, reduceCtorEq, Nat.reduceLT, Nat.reduceAdd, Nat.reduceSub, Nat.reduceMul, Nat.reduceLeDiff, Int.reduceLT, Int.reduceLE, Int.reduceToNat, Int.reduceEq, Int.reduceAdd, Int.reduceSub, Int.reduceNeg, Int.reduceBNe, Int.reduceBEq, h, i1]
            refine vDrawQ (by kernel_rfl) (by kernel_rfl) ?_
            simp only [go_sem, reduceIte, Nat.reduceEqDiff, reduceCtorEq, Nat.reduceLT, Nat.reduceAdd, Nat.reduceSub, Nat.reduceMul, Nat.reduceLeDiff, Int.reduceLT, Int.reduceLE, Int.reduceToNat, Int.reduceEq, Int.reduceAdd, Int.reduceSub, Int.reduceNeg, Int.reduceBNe, Int.reduceBEq, getD_str hka, h, i1]
            refine vCall_of (hN) ?_ ?_ ?_; (focus simp only [go_sem, reduceIte, Nat.reduceEqDiff, reduceCtorEq]); (focus simp only [go_sem, reduceIte, Nat.reduceEqDiff, reduceCtorEq])
            simp only [go_sem, reduceIte, Nat.reduceEqDiff, reduceCtorEq, Nat.reduceLT, Nat.reduceAdd, Nat.reduceSub, Nat.reduceMul, Nat.reduceLeDiff, Int.reduceLT, Int.reduceLE, Int.reduceToNat, Int.reduceEq, Int.reduceAdd, Int.reduceSub, Int.reduceNeg, Int.reduceBNe, Int.reduceBEq, hz]
          · rw [hn] at hN
            cases hh : (f.cases'.take k).any (· == f.cases'.getD k [])
            · rw [hh] at hH
              have ok : caseOk f.cases' k = true := by simp only [caseOk, hn, hh, Bool.not_false, Bool.and_self]
              simp only [go_sem, reduceIte, Nat.reduceEqDiff, reduceCtorEq, Nat.reduceLT, Nat.reduceAdd, Nat.reduceSub, Nat.reduceMul, Nat.reduceLeDiff, Int.reduceLT, Int.reduceLE, Int.reduceToNat, Int.reduceEq, Int.reduceAdd, Int.reduceSub, Int.reduceNeg, Int.reduceBNe, Int.reduceBEq, h, i1]
              refine vDrawQ (by kernel_rfl) (by kernel_rfl) ?_
              simp only [go_sem, reduceIte, Nat.reduceEqDiff, reduceCtorEq, Nat.reduceLT, Nat.reduceAdd, Nat.reduceSub, Nat.reduceMul, Nat.reduceLeDiff, Int.reduceLT, Int.reduceLE, Int.reduceToNat, Int.reduceEq, Int.reduceAdd, Int.reduceSub, Int.reduceNeg, Int.reduceBNe, Int.reduceBEq, getD_str hka, h, i1]
              refine vCall_of (hN) ?_ ?_ ?_; (focus simp only [go_sem, reduceIte, Nat.reduceEqDiff, reduceCtorEq]); (focus simp only [go_sem, reduceIte, Nat.reduceEqDiff, reduceCtorEq])
              simp only [go_sem, reduceIte, Nat.reduceEqDiff, reduceCtorEq, Nat.reduceLT, Nat.reduceAdd, Nat.reduceSub, Nat.reduceMul, Nat.reduceLeDiff, Int.reduceLT, Int.reduceLE, Int.reduceToNat, Int.reduceEq, Int.reduceAdd, Int.reduceSub, Int.reduceNeg, Int.reduceBNe, Int.reduceBEq, getD_str hka, h, i1, i2, cut, Nat.sub_zero, take_str, sized_str]
              refine vCall_of (hH) ?_ ?_ ?_; (focus simp only [go_sem, reduceIte, Nat.reduceEqDiff, reduceCtorEq, strs]); (focus simp only [go_sem, reduceIte, Nat.reduceEqDiff, reduceCtorEq, strs])
              simp only [go_sem, reduceIte, Nat.reduceEqDiff, reduceCtorEq, Nat.reduceLT, Nat.reduceAdd, Nat.reduceSub, Nat.reduceMul, Nat.reduceLeDiff, Int.reduceLT, Int.reduceLE, Int.reduceToNat, Int.reduceEq, Int.reduceAdd, Int.reduceSub, Int.reduceNeg, Int.reduceBNe, Int.reduceBEq, w1]
              exact ⟨⟨k + 1, by omega, below_succ hall ok⟩, by show f.cases'.length - (k + 1) < f.cases'.length - k; omega, ⟨rfl, (forall_cons rfl (forall_cons rfl (forall_nil))), forall_cons ⟨rfl, rfl⟩ forall_nil, forall_nil⟩⟩
            · rw [hh] at hH
              have hz : tail3 f = false := by simp only [tail3, casesB_false hka (by simp only [caseOk, hn, hh, Bool.not_true, Bool.and_false]), Bool.false_and]
              simp only [go_sem, reduceIte, Nat.reduceEqDiff, reduceCtorEq, Nat.reduceLT, Nat.reduceAdd, Nat.reduceSub, Nat.reduceMul, Nat.reduceLeDiff, Int.reduceLT, Int.reduceLE, Int.reduceToNat, Int.reduceEq, Int.reduceAdd, Int.reduceSub, Int.reduceNeg, Int.reduceBNe, Int.reduceBEq, h, i1]
              refine vDrawQ (by kernel_rfl) (by kernel_rfl) ?_
              simp only [go_sem, reduceIte, Nat.reduceEqDiff, reduceCtorEq, Nat.reduceLT, Nat.reduceAdd, Nat.reduceSub, Nat.reduceMul, Nat.reduceLeDiff, Int.reduceLT, Int.reduceLE, Int.reduceToNat, Int.reduceEq, Int.reduceAdd, Int.reduceSub, Int.reduceNeg, Int.reduceBNe, Int.reduceBEq, getD_str hka, h, i1]
              refine vCall_of (hN) ?_ ?_ ?_; (focus simp only [go_sem, reduceIte, Nat.reduceEqDiff, reduceCtorEq]); (focus simp only [go_sem, reduceIte, Nat.reduceEqDiff, reduceCtorEq])
              simp only [go_sem, reduceIte, Nat.reduceEqDiff, reduceCtorEq, Nat.reduceLT, Nat.reduceAdd, Nat.reduceSub, Nat.reduceMul, Nat.reduceLeDiff, Int.reduceLT, Int.reduceLE, Int.reduceToNat, Int.reduceEq, Int.reduceAdd, Int.reduceSub, Int.reduceNeg, Int.reduceBNe, Int.reduceBEq, getD_str hka, h, i1, i2, cut, Nat.sub_zero, take_str, sized_str]
              refine vCall_of (hH) ?_ ?_ ?_; (focus simp only [go_sem, reduceIte, Nat.reduceEqDiff, reduceCtorEq, strs]); (focus simp only [go_sem, reduceIte, Nat.reduceEqDiff, reduceCtorEq, strs])
              simp only [go_sem, reduceIte, Nat.reduceEqDiff, reduceCtorEq, Nat.reduceLT, Nat.reduceAdd, Nat.reduceSub, Nat.reduceMul, Nat.reduceLeDiff, Int.reduceLT, Int.reduceLE, Int.reduceToNat, Int.reduceEq, Int.reduceAdd, Int.reduceSub, Int.reduceNeg, Int.reduceBNe, Int.reduceBEq, hz]
        · have hc := casesB_true (l := f.cases') (fun j hj => hall j (by omega))
          have hH := RHas_pure f.cases' f.df hl
          by_cases h7 : (f.cases'.length : Int) < 7
          · simp only [go_sem, reduceIte, Nat.reduceEqDiff, reduceCtorEq, Nat.reduceLT, Nat.reduceAdd, Nat.reduceSub, Nat.reduceMul, Nat.reduceLeDiff, Int.reduceLT, Int.reduceLE, Int.reduceToNat, Int.reduceEq, Int.reduceAdd, Int.reduceSub, Int.reduceNeg, Int.reduceBNe, Int.reduceBEq, h, h7]
            refine vCall_of (hH) ?_ ?_ ?_; (focus simp only [go_sem, reduceIte, Nat.reduceEqDiff, reduceCtorEq, strs]); (focus simp only [go_sem, reduceIte, Nat.reduceEqDiff, reduceCtorEq, strs])
            simp only [go_sem, reduceIte, Nat.reduceEqDiff, reduceCtorEq, Nat.reduceLT, Nat.reduceAdd, Nat.reduceSub, Nat.reduceMul, Nat.reduceLeDiff, Int.reduceLT, Int.reduceLE, Int.reduceToNat, Int.reduceEq, Int.reduceAdd, Int.reduceSub, Int.reduceNeg, Int.reduceBNe, Int.reduceBEq, tail3, hc, h7, Bool.true_and]
          · simp only [go_sem, reduceIte, Nat.reduceEqDiff, reduceCtorEq, Nat.reduceLT, Nat.reduceAdd, Nat.reduceSub, Nat.reduceMul, Nat.reduceLeDiff, Int.reduceLT, Int.reduceLE, Int.reduceToNat, Int.reduceEq, Int.reduceAdd, Int.reduceSub, Int.reduceNeg, Int.reduceBNe, Int.reduceBEq, h, h7, tail3, hc, Bool.true_and, Bool.false_and]
      · have hw' : (f.worth != 0) = true := bne_iff_ne.2 hw
        have hx : rightF f = false := by
          simp only [rightF, hp, h3, hw, Bool.true_and, decide_false, Bool.false_and]
          rfl
        refine PL.Pure.of_v Tryz.func153 (by decide) rfl Tryz.ntmps153 Tryz.results153 (by simp) rfl ?_
        simp only [go_sem, reduceIte, Nat.reduceEqDiff, reduceCtorEq, Nat.reduceLT, Nat.reduceAdd, Nat.reduceSub, Nat.reduceMul, Nat.reduceLeDiff, Int.reduceLT, Int.reduceLE, Int.reduceToNat, Int.reduceEq, Int.reduceAdd, Int.reduceSub, Int.reduceNeg, Int.reduceBNe, Int.reduceBEq, fld]
        refine vCall_of (hP) ?_ ?_ ?_; (focus simp only [go_sem, reduceIte, Nat.reduceEqDiff, reduceCtorEq, ref]); (focus simp only [go_sem, reduceIte, Nat.reduceEqDiff, reduceCtorEq, ref])
        simp only [go_sem, reduceIte, Nat.reduceEqDiff, reduceCtorEq, Nat.reduceLT, Nat.reduceAdd, Nat.reduceSub, Nat.reduceMul, Nat.reduceLeDiff, Int.reduceLT, Int.reduceLE, Int.reduceToNat, Int.reduceEq, Int.reduceAdd, Int.reduceSub, Int.reduceNeg, Int.reduceBNe, Int.reduceBEq, k1, k3, hw', hx]
  · have k3 : (f.kind == 3) = false := beq_eq_false_iff_ne.2 h3
    have hx : rightF f = (placeB f.at' && (if f.kind = 1 then decide (f.df = []) && (decide ((f.cases'.length : Int) = 0) && (decide (0 < f.worth) && decide (f.worth < 1048577))) else decide (f.worth = 0) && tail2 f)) := by
      simp only [rightF, h3, if_false]
    rw [hx]
    refine PL.Pure.of_v Tryz.func153 (by decide) rfl Tryz.ntmps153 Tryz.results153 (by simp) rfl ?_
    simp only [go_sem, reduceIte, Nat.reduceEqDiff, reduceCtorEq, Nat.reduceLT, Nat.reduceAdd, Nat.reduceSub, Nat.reduceMul, Nat.reduceLeDiff, Int.reduceLT, Int.reduceLE, Int.reduceToNat, Int.reduceEq, Int.reduceAdd, Int.reduceSub, Int.reduceNeg, Int.reduceBNe, Int.reduceBEq, fld]
    refine vCall_of (hP) ?_ ?_ ?_; (focus simp only [go_sem, reduceIte, Nat.reduceEqDiff, reduceCtorEq, ref]); (focus simp only [go_sem, reduceIte, Nat.reduceEqDiff, reduceCtorEq, ref])
    simp only [go_sem, reduceIte, Nat.reduceEqDiff, reduceCtorEq, Nat.reduceLT, Nat.reduceAdd, Nat.reduceSub, Nat.reduceMul, Nat.reduceLeDiff, Int.reduceLT, Int.reduceLE, Int.reduceToNat, Int.reduceEq, Int.reduceAdd, Int.reduceSub, Int.reduceNeg, Int.reduceBNe, Int.reduceBEq]
    repeat' (first | (refine vGuard_t (fun h => ?_) (fun h => ?_) <;> (try simp only [go_sem, reduceIte, Nat.reduceEqDiff, reduceCtorEq, Nat.reduceLT, Nat.reduceAdd, Nat.reduceSub, Nat.reduceMul, Nat.reduceLeDiff, Int.reduceLT, Int.reduceLE, Int.reduceToNat, Int.reduceEq, Int.reduceAdd, Int.reduceSub, Int.reduceNeg, Int.reduceBNe, Int.reduceBEq, h, k3])) | (refine vGuard_f (fun h => ?_) (fun h => ?_) <;> (try simp only [go_sem, reduceIte, Nat.reduceEqDiff, reduceCtorEq, Nat.reduceLT, Nat.reduceAdd, Nat.reduceSub, Nat.reduceMul, Nat.reduceLeDiff, Int.reduceLT, Int.reduceLE, Int.reduceToNat, Int.reduceEq, Int.reduceAdd, Int.reduceSub, Int.reduceNeg, Int.reduceBNe, Int.reduceBEq, h, k3])) | (refine vCond_b (fun h => ?_) (fun h => ?_) <;> (try simp only [go_sem, reduceIte, Nat.reduceEqDiff, reduceCtorEq, Nat.reduceLT, Nat.reduceAdd, Nat.reduceSub, Nat.reduceMul, Nat.reduceLeDiff, Int.reduceLT, Int.reduceLE, Int.reduceToNat, Int.reduceEq, Int.reduceAdd, Int.reduceSub, Int.reduceNeg, Int.reduceBNe, Int.reduceBEq, h, k3])) | ((refine vDrawQ (by kernel_rfl) (by kernel_rfl) ?_); (try simp only [go_sem, reduceIte, Nat.reduceEqDiff, reduceCtorEq, Nat.reduceLT, Nat.reduceAdd, Nat.reduceSub, Nat.reduceMul, Nat.reduceLeDiff, Int.reduceLT, Int.reduceLE, Int.reduceToNat, Int.reduceEq, Int.reduceAdd, Int.reduceSub, Int.reduceNeg, Int.reduceBNe, Int.reduceBEq, k3])))
    all_goals (simp_all [tail2])
    all_goals (cases f.df <;> simp)
end Go.Proofs.YtbojhapdidieoaaGreat

set_option linter.unusedSimpArgs false
set_option linter.unusedVariables false
set_option linter.unusedSimpArgs false
set_option linter.unusedVariables false
namespace Go.Proofs.YtbojhapdidieoaaGreat
open Go.PL
theorem rall_false {p : Nat → Bool} {n k : Nat} (hk : k < n) (h : p k = false) : (List.range n).all p = false := by
  rw [List.all_eq_false]; exact ⟨k, by simpa using hk, by simp [h]⟩
theorem rall_true {p : Nat → Bool} {n : Nat} (h : ∀ j, j < n → p j = true) : (List.range n).all p = true := by
  rw [List.all_eq_true]; intro j hj; exact h j (List.mem_range.1 hj)
end Go.Proofs.YtbojhapdidieoaaGreat

set_option linter.unusedSimpArgs false
set_option linter.unusedVariables false
set_option linter.unusedSimpArgs false
set_option linter.unusedVariables false
namespace Go.Proofs.YtbojhapdidieoaaGreat
open Go.PL
def fldOk (l : List Fd) (i : Nat) : Bool := rightF (l.getD i default) && (decide (i = 0) || lessB (l.getD (i - 1) default).at' (l.getD i default).at')
def rightL (l : List Fd) : Bool := !decide (16 < (l.length : Int)) && (List.range l.length).all (fldOk l)
set_option maxRecDepth 20000 in
set_option maxHeartbeats 8000000 in
theorem RRightL_pure (l : List Fd) (hl : l.length ≤ maxLen) (hl' : ∀ f ∈ l, f.cases'.length ≤ maxLen) : PL.Pure Tryz.prog 104 [flds l] (.bool (rightL l)) := by
  by_cases h16 : 16 < (l.length : Int)
  · refine PL.Pure.of_v Tryz.func104 (by decide) rfl Tryz.ntmps104 Tryz.results104 (by simp) rfl ?_
    simp only [go_sem, reduceIte, Nat.reduceEqDiff, reduceCtorEq, Nat.reduceLT, Nat.reduceAdd, Nat.reduceSub, Nat.reduceMul, Nat.reduceLeDiff, Int.reduceLT, Int.reduceLE, Int.reduceToNat, Int.reduceEq, Int.reduceAdd, Int.reduceSub, Int.reduceNeg, Int.reduceBNe, Int.reduceBEq, flds, h16, rightL, Bool.false_and]
  · have hx : rightL l = (List.range l.length).all (fldOk l) := by simp only [rightL, h16, decide_false, Bool.not_false, Bool.true_and]
    rw [hx]
    refine PL.Pure.of_v Tryz.func104 (by decide) rfl Tryz.ntmps104 Tryz.results104 (by simp) rfl ?_
    simp only [go_sem, reduceIte, Nat.reduceEqDiff, reduceCtorEq, Nat.reduceLT, Nat.reduceAdd, Nat.reduceSub, Nat.reduceMul, Nat.reduceLeDiff, Int.reduceLT, Int.reduceLE, Int.reduceToNat, Int.reduceEq, Int.reduceAdd, Int.reduceSub, Int.reduceNeg, Int.reduceBNe, Int.reduceBEq, flds, h16]
    refine vLoopM (ι := { k : Nat // k ≤ l.length ∧ ∀ j, j < k → fldOk l j = true }) 38 (fun x => [(0, flds l), (3, .int .i64 (x.1 : Int))]) (fun x => []) (fun x => []) (fun x => l.length - x.1) ⟨0, by omega, fun j hj => by omega⟩
      ⟨rfl, (forall_cons rfl (forall_cons rfl (forall_nil))), forall_nil, forall_nil⟩ (fun x => ⟨(forall_cons rfl (forall_cons rfl (forall_nil))), forall_nil⟩) (fun x => ?_)
    obtain ⟨k, hk, hall⟩ := x
    simp only
    by_cases h : (k : Int) < (l.length : Int)
    · have hka : k < l.length := by omega
      have w1 := w64s hka hl
      have i1 : (0 : Int) ≤ (k : Int) := by omega
      have hR := RRight_pure (l.getD k default) (hl' _ (getD_mem' hka))
      cases hr : rightF (l.getD k default)
      · rw [hr] at hR
        have hz := rall_false (p := fldOk l) hka (by simp only [fldOk, hr, Bool.false_and])
        simp only [go_sem, reduceIte, Nat.reduceEqDiff, reduceCtorEq, Nat.reduceLT, Nat.reduceAdd, Nat.reduceSub, Nat.reduceMul, Nat.reduceLeDiff, Int.reduceLT, Int.reduceLE, Int.reduceToNat, Int.reduceEq, Int.reduceAdd, Int.reduceSub, Int.reduceNeg, Int.reduceBNe, Int.reduceBEq, flds, h]
        refine vDrawQ (by kernel_rfl) (by kernel_rfl) ?_
        simp only [go_sem, reduceIte, Nat.reduceEqDiff, reduceCtorEq, Nat.reduceLT, Nat.reduceAdd, Nat.reduceSub, Nat.reduceMul, Nat.reduceLeDiff, Int.reduceLT, Int.reduceLE, Int.reduceToNat, Int.reduceEq, Int.reduceAdd, Int.reduceSub, Int.reduceNeg, Int.reduceBNe, Int.reduceBEq, getD_fld hka, fld, h, i1]
        refine vCall_of (hR) ?_ ?_ ?_; (focus simp only [go_sem, reduceIte, Nat.reduceEqDiff, reduceCtorEq, fld]); (focus simp only [go_sem, reduceIte, Nat.reduceEqDiff, reduceCtorEq, fld])
        simp only [go_sem, reduceIte, Nat.reduceEqDiff, reduceCtorEq, Nat.reduceLT, Nat.reduceAdd, Nat.reduceSub, Nat.reduceMul, Nat.reduceLeDiff, Int.reduceLT, Int.reduceLE, Int.reduceToNat, Int.reduceEq, Int.reduceAdd, Int.reduceSub, Int.reduceNeg, Int.reduceBNe, Int.reduceBEq, hz]
      · rw [hr] at hR
        by_cases h0 : 0 < (k : Int)
        · have hk1 : k - 1 < l.length := by omega
          have w2 : IntKind.i64.wrap ((k : Int) - 1) = ((k - 1 : Nat) : Int) := by
            rw [maxLen_eq] at hl
            rw [w64 (by omega)]; omega
          have j1 : (0 : Int) ≤ ((k - 1 : Nat) : Int) := by omega
          have j2 : ((k - 1 : Nat) : Int) < (l.length : Int) := by omega
          have hL := RLess_pure (l.getD (k - 1) default).at' (l.getD k default).at'
          cases hb : lessB (l.getD (k - 1) default).at' (l.getD k default).at'
          · rw [hb] at hL
            have hz := rall_false (p := fldOk l) hka (by simp only [fldOk, hb, decide_eq_false (show ¬ k = 0 by omega), Bool.or_self, Bool.and_false])
            simp only [go_sem, reduceIte, Nat.reduceEqDiff, reduceCtorEq, Nat.reduceLT, Nat.reduceAdd, Nat.reduceSub, Nat.reduceMul, Nat.reduceLeDiff, Int.reduceLT, Int.reduceLE, Int.reduceToNat, Int.reduceEq, Int.reduceAdd, Int.reduceSub, Int.reduceNeg, Int.reduceBNe, Int.reduceBEq, flds, h]
            refine vDrawQ (by kernel_rfl) (by kernel_rfl) ?_
            simp only [go_sem, reduceIte, Nat.reduceEqDiff, reduceCtorEq, Nat.reduceLT, Nat.reduceAdd, Nat.reduceSub, Nat.reduceMul, Nat.reduceLeDiff, Int.reduceLT, Int.reduceLE, Int.reduceToNat, Int.reduceEq, Int.reduceAdd, Int.reduceSub, Int.reduceNeg, Int.reduceBNe, Int.reduceBEq, getD_fld hka, fld, h, i1]
            refine vCall_of (hR) ?_ ?_ ?_; (focus simp only [go_sem, reduceIte, Nat.reduceEqDiff, reduceCtorEq, fld]); (focus simp only [go_sem, reduceIte, Nat.reduceEqDiff, reduceCtorEq, fld])
            simp only [go_sem, reduceIte, Nat.reduceEqDiff, reduceCtorEq, Nat.reduceLT, Nat.reduceAdd, Nat.reduceSub, Nat.reduceMul, Nat.reduceLeDiff, Int.reduceLT, Int.reduceLE, Int.reduceToNat, Int.reduceEq, Int.reduceAdd, Int.reduceSub, Int.reduceNeg, Int.reduceBNe, Int.reduceBEq, h0, w2, getD_fld hk1, getD_fld hka, fld, h, i1, j1, j2]
            refine vCall_of (hL) ?_ ?_ ?_; (focus simp only [go_sem, reduceIte, Nat.reduceEqDiff, reduceCtorEq, ref]); (focus simp only [go_sem, reduceIte, Nat.reduceEqDiff, reduceCtorEq, ref])
            simp only [go_sem, reduceIte, Nat.reduceEqDiff, reduceCtorEq, Nat.reduceLT, Nat.reduceAdd, Nat.reduceSub, Nat.reduceMul, Nat.reduceLeDiff, Int.reduceLT, Int.reduceLE, Int.reduceToNat, Int.reduceEq, Int.reduceAdd, Int.reduceSub, Int.reduceNeg, Int.reduceBNe, Int.reduceBEq, hz]
          · rw [hb] at hL
            have ok : fldOk l k = true := by simp only [fldOk, hr, hb, Bool.or_true, Bool.and_self]
            simp only [go_sem, reduceIte, Nat.reduceEqDiff, reduceCtorEq, Nat.reduceLT, Nat.reduceAdd, Nat.reduceSub, Nat.reduceMul, Nat.reduceLeDiff, Int.reduceLT, Int.reduceLE, Int.reduceToNat, Int.reduceEq, Int.reduceAdd, Int.reduceSub, Int.reduceNeg, Int.reduceBNe, Int.reduceBEq, flds, h]
            refine vDrawQ (by kernel_rfl) (by kernel_rfl) ?_
            simp only [go_sem, reduceIte, Nat.reduceEqDiff, reduceCtorEq, Nat.reduceLT, Nat.reduceAdd, Nat.reduceSub, Nat.reduceMul, Nat.reduceLeDiff, Int.reduceLT, Int.reduceLE, Int.reduceToNat, Int.reduceEq, Int.reduceAdd, Int.reduceSub, Int.reduceNeg, Int.reduceBNe, Int.reduceBEq, getD_fld hka, fld, h, i1]
            refine vCall_of (hR) ?_ ?_ ?_; (focus simp only [go_sem, reduceIte, Nat.reduceEqDiff, reduceCtorEq, fld]); (focus simp only [go_sem, reduceIte, Nat.reduceEqDiff, reduceCtorEq, fld])
            simp only [go_sem, reduceIte, Nat.reduceEqDiff, reduceCtorEq, Nat.reduceLT, Nat.reduceAdd, Nat.reduceSub, Nat.reduceMul, Nat.reduceLeDiff, Int.reduceLT, Int.reduceLE, Int.reduceToNat, Int.reduceEq, Int.reduceAdd, Int.reduceSub, Int.reduceNeg, Int.reduceBNe, Int.reduceBEq, h0, w2, getD_fld hk1, getD_fld hka, fld, h, i1, j1, j2]
            refine vCall_of (hL) ?_ ?_ ?_; (focus simp only [go_sem, reduceIte, Nat.reduceEqDiff, reduceCtorEq, ref]); (focus simp only [go_sem, reduceIte, Nat.reduceEqDiff, reduceCtorEq, ref])
            simp only [go_sem, reduceIte, Nat.reduceEqDiff, reduceCtorEq, Nat.reduceLT, Nat.reduceAdd, Nat.reduceSub, Nat.reduceMul, Nat.reduceLeDiff, Int.reduceLT, Int.reduceLE, Int.reduceToNat, Int.reduceEq, Int.reduceAdd, Int.reduceSub, Int.reduceNeg, Int.reduceBNe, Int.reduceBEq, w1]
            exact ⟨⟨k + 1, by omega, below_succ hall ok⟩, by show l.length - (k + 1) < l.length - k; omega, ⟨rfl, (forall_cons rfl (forall_cons rfl (forall_nil))), forall_nil, forall_nil⟩⟩
        · have ok : fldOk l k = true := by simp only [fldOk, hr, decide_eq_true (show k = 0 by omega), Bool.true_or, Bool.and_self]
          simp only [go_sem, reduceIte, Nat.reduceEqDiff, reduceCtorEq, Nat.reduceLT, Nat.reduceAdd, Nat.reduceSub, Nat.reduceMul, Nat.reduceLeDiff, Int.reduceLT, Int.reduceLE, Int.reduceToNat, Int.reduceEq, Int.reduceAdd, Int.reduceSub, Int.reduceNeg, Int.reduceBNe, Int.reduceBEq, flds, h]
          refine vDrawQ (by kernel_rfl) (by kernel_rfl) ?_
          simp only [go_sem, reduceIte, Nat.reduceEqDiff, reduceCtorEq, Nat.reduceLT, Nat.reduceAdd, Nat.reduceSub, Nat.reduceMul, Nat.reduceLeDiff, Int.reduceLT, Int.reduceLE, Int.reduceToNat, Int.reduceEq, Int.reduceAdd, Int.reduceSub, Int.reduceNeg, Int.reduceBNe, Int.reduceBEq, getD_fld hka, fld, h, i1]
          refine vCall_of (hR) ?_ ?_ ?_; (focus simp only [go_sem, reduceIte, Nat.reduceEqDiff, reduceCtorEq, fld]); (focus simp only [go_sem, reduceIte, Nat.reduceEqDiff, reduceCtorEq, fld])
          simp only [go_sem, reduceIte, Nat.reduceEqDiff, reduceCtorEq, Nat.reduceLT, Nat.reduceAdd, Nat.reduceSub, Nat.reduceMul, Nat.reduceLeDiff, Int.reduceLT, Int.reduceLE, Int.reduceToNat, Int.reduceEq, Int.reduceAdd, Int.reduceSub, Int.reduceNeg, Int.reduceBNe, Int.reduceBEq, h0, w1]
          exact ⟨⟨k + 1, by omega, below_succ hall ok⟩, by show l.length - (k + 1) < l.length - k; omega, ⟨rfl, (forall_cons rfl (forall_cons rfl (forall_nil))), forall_nil, forall_nil⟩⟩
    · have hz := rall_true (p := fldOk l) (n := l.length) (fun j hj => hall j (by omega))
      simp only [go_sem, reduceIte, Nat.reduceEqDiff, reduceCtorEq, Nat.reduceLT, Nat.reduceAdd, Nat.reduceSub, Nat.reduceMul, Nat.reduceLeDiff, Int.reduceLT, Int.reduceLE, Int.reduceToNat, Int.reduceEq, Int.reduceAdd, Int.reduceSub, Int.reduceNeg, Int.reduceBNe, Int.reduceBEq, flds, h, hz]
end Go.Proofs.YtbojhapdidieoaaGreat
