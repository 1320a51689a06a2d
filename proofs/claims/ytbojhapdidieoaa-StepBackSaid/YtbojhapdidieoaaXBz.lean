/- Contracts of functions and laws of this seat, each for every input that it names: lemmas of the proof. -/
import Derived.Test.YtbojhapdidieoaaXBs
import Derived.Test.YtbojhapdidieoaaXAb
import Derived.Test.YtbojhapdidieoaaPlG
import Derived.Test.YtbojhapdidieoaaPlF
import Derived.Laws.LoneSync
set_option linter.unusedSimpArgs false
set_option linter.unusedVariables false
set_option linter.unusedSimpArgs false
set_option linter.unusedVariables false
namespace Go.Proofs.Ytbojhapdidieoaa
open Go.PL
def itemB (o : Opn) : Bool := (o.kind == 1) || ((o.kind == 2) || (placedB o && (o.at'.sc == 1)))
def rightO (o : Opn) : Bool :=
  !(!(opParts o).2 || !decide (o = (opParts o).1)) && (!(!tagB o.id || (!decide (o.sch = default) && !tagB o.sch)) && (!((decide (o.time < 1) || decide (1099511627776 < o.time)) || !nameB o.cart)
    && (!(placedB o && !placeB o.at') && (!(itemB o && !nameB o.item) && (!(decide (o.delta < -1048576) || decide (1048576 < o.delta)) && (decide ((o.text.length : Int) ≤ 40) && dropsB o))))))
theorem okOParts {o : Opn} (h : o.drops.length ≤ maxLen) : (opParts o).1.drops.length ≤ maxLen := by
  unfold opParts
  repeat' split
  all_goals first | exact h | exact Nat.zero_le _
theorem tgd_fold (a : Tg) : (a.r == 0 && a.n == 0) = decide (a = default) := tg_fold a default
set_option maxRecDepth 20000 in
set_option maxHeartbeats 16000000 in
theorem ORight_pure (o : Opn) (ho : o.drops.length ≤ maxLen) : PL.Pure Try.prog 70 [opv o] (.bool (rightO o)) := by
  have hP := opParts_pure o
  have hS := OSame_pure o (opParts o).1 ho (okOParts ho)
  have hT := Tag_pure o.id
  have hU := Tag_pure o.sch
  have hC := Name_pure o.cart
  have hL := placed_pure o
  have hA := Place_pure o.at'
  have hI := Name_pure o.item
  have hX := Text_pure o.text
  have hD := rightDrops_pure o
  unfold rightO itemB
  generalize opParts o = y at *
  generalize dropsB o = db at *
  generalize placedB o = pb at *
  generalize nameB o.item = ni at *
  generalize nameB o.cart = nc at *
  generalize placeB o.at' = pa at *
  generalize tagB o.id = ti at *
  generalize tagB o.sch = ts at *
  obtain ⟨y, b⟩ := y
  refine PL.Pure.of_v Try.func70 (by decide) rfl Try.ntmps70 Try.results70 (by simp) rfl ?_
  simp only [go_sem, reduceIte, Nat.reduceEqDiff, reduceCtorEq, Nat.reduceLT, Nat.reduceAdd, Nat.reduceSub, Nat.reduceMul, Nat.reduceLeDiff, Int.reduceLT, Int.reduceLE, Int.reduceToNat, Int.reduceEq, Int.reduceAdd, Int.reduceSub, Int.reduceNeg, Int.reduceBNe, Int.reduceBEq, opv, tgd_fold]
  repeat' (first | (refine vGuard_t (fun h => ?_) (fun h => ?_) <;> (try simp only [go_sem, reduceIte, Nat.reduceEqDiff, reduceCtorEq, Nat.reduceLT, Nat.reduceAdd, Nat.reduceSub, Nat.reduceMul, Nat.reduceLeDiff, Int.reduceLT, Int.reduceLE, Int.reduceToNat, Int.reduceEq, Int.reduceAdd, Int.reduceSub, Int.reduceNeg, Int.reduceBNe, Int.reduceBEq, h, opb, opv, tgd_fold])) | (refine vGuard_f (fun h => ?_) (fun h => ?_) <;> (try simp only [go_sem, reduceIte, Nat.reduceEqDiff, reduceCtorEq, Nat.reduceLT, Nat.reduceAdd, Nat.reduceSub, Nat.reduceMul, Nat.reduceLeDiff, Int.reduceLT, Int.reduceLE, Int.reduceToNat, Int.reduceEq, Int.reduceAdd, Int.reduceSub, Int.reduceNeg, Int.reduceBNe, Int.reduceBEq, h, opb, opv, tgd_fold])) | (refine vCond_b (fun h => ?_) (fun h => ?_) <;> (try simp only [go_sem, reduceIte, Nat.reduceEqDiff, reduceCtorEq, Nat.reduceLT, Nat.reduceAdd, Nat.reduceSub, Nat.reduceMul, Nat.reduceLeDiff, Int.reduceLT, Int.reduceLE, Int.reduceToNat, Int.reduceEq, Int.reduceAdd, Int.reduceSub, Int.reduceNeg, Int.reduceBNe, Int.reduceBEq, h, opb, opv, tgd_fold])) | ((refine vCall_of (hP) ?_ ?_ ?_); (focus simp only [go_sem, reduceIte, Nat.reduceEqDiff, reduceCtorEq, Nat.reduceLT, Nat.reduceAdd, Nat.reduceSub, Nat.reduceMul, Nat.reduceLeDiff, Int.reduceLT, Int.reduceLE, Int.reduceToNat, Int.reduceEq, Int.reduceAdd, Int.reduceSub, Int.reduceNeg, Int.reduceBNe, Int.reduceBEq, opv, tg, ref]); (focus exact rfl); (try simp only [go_sem, reduceIte, Nat.reduceEqDiff, reduceCtorEq, Nat.reduceLT, Nat.reduceAdd, Nat.reduceSub, Nat.reduceMul, Nat.reduceLeDiff, Int.reduceLT, Int.reduceLE, Int.reduceToNat, Int.reduceEq, Int.reduceAdd, Int.reduceSub, Int.reduceNeg, Int.reduceBNe, Int.reduceBEq, opb, opv, tgd_fold])) | ((refine vCall_of (hS) ?_ ?_ ?_); (focus simp only [go_sem, reduceIte, Nat.reduceEqDiff, reduceCtorEq, Nat.reduceLT, Nat.reduceAdd, Nat.reduceSub, Nat.reduceMul, Nat.reduceLeDiff, Int.reduceLT, Int.reduceLE, Int.reduceToNat, Int.reduceEq, Int.reduceAdd, Int.reduceSub, Int.reduceNeg, Int.reduceBNe, Int.reduceBEq, opv, tg, ref]); (focus exact rfl); (try simp only [go_sem, reduceIte, Nat.reduceEqDiff, reduceCtorEq, Nat.reduceLT, Nat.reduceAdd, Nat.reduceSub, Nat.reduceMul, Nat.reduceLeDiff, Int.reduceLT, Int.reduceLE, Int.reduceToNat, Int.reduceEq, Int.reduceAdd, Int.reduceSub, Int.reduceNeg, Int.reduceBNe, Int.reduceBEq, opb, opv, tgd_fold])) | ((refine vCall_of (hT) ?_ ?_ ?_); (focus simp only [go_sem, reduceIte, Nat.reduceEqDiff, reduceCtorEq, Nat.reduceLT, Nat.reduceAdd, Nat.reduceSub, Nat.reduceMul, Nat.reduceLeDiff, Int.reduceLT, Int.reduceLE, Int.reduceToNat, Int.reduceEq, Int.reduceAdd, Int.reduceSub, Int.reduceNeg, Int.reduceBNe, Int.reduceBEq, opv, tg, ref]); (focus exact rfl); (try simp only [go_sem, reduceIte, Nat.reduceEqDiff, reduceCtorEq, Nat.reduceLT, Nat.reduceAdd, Nat.reduceSub, Nat.reduceMul, Nat.reduceLeDiff, Int.reduceLT, Int.reduceLE, Int.reduceToNat, Int.reduceEq, Int.reduceAdd, Int.reduceSub, Int.reduceNeg, Int.reduceBNe, Int.reduceBEq, opb, opv, tgd_fold])) | ((refine vCall_of (hU) ?_ ?_ ?_); (focus simp only [go_sem, reduceIte, Nat.reduceEqDiff, reduceCtorEq, Nat.reduceLT, Nat.reduceAdd, Nat.reduceSub, Nat.reduceMul, Nat.reduceLeDiff, Int.reduceLT, Int.reduceLE, Int.reduceToNat, Int.reduceEq, Int.reduceAdd, Int.reduceSub, Int.reduceNeg, Int.reduceBNe, Int.reduceBEq, opv, tg, ref]); (focus exact rfl); (try simp only [go_sem, reduceIte, Nat.reduceEqDiff, reduceCtorEq, Nat.reduceLT, Nat.reduceAdd, Nat.reduceSub, Nat.reduceMul, Nat.reduceLeDiff, Int.reduceLT, Int.reduceLE, Int.reduceToNat, Int.reduceEq, Int.reduceAdd, Int.reduceSub, Int.reduceNeg, Int.reduceBNe, Int.reduceBEq, opb, opv, tgd_fold])) | ((refine vCall_of (hC) ?_ ?_ ?_); (focus simp only [go_sem, reduceIte, Nat.reduceEqDiff, reduceCtorEq, Nat.reduceLT, Nat.reduceAdd, Nat.reduceSub, Nat.reduceMul, Nat.reduceLeDiff, Int.reduceLT, Int.reduceLE, Int.reduceToNat, Int.reduceEq, Int.reduceAdd, Int.reduceSub, Int.reduceNeg, Int.reduceBNe, Int.reduceBEq, opv, tg, ref]); (focus exact rfl); (try simp only [go_sem, reduceIte, Nat.reduceEqDiff, reduceCtorEq, Nat.reduceLT, Nat.reduceAdd, Nat.reduceSub, Nat.reduceMul, Nat.reduceLeDiff, Int.reduceLT, Int.reduceLE, Int.reduceToNat, Int.reduceEq, Int.reduceAdd, Int.reduceSub, Int.reduceNeg, Int.reduceBNe, Int.reduceBEq, opb, opv, tgd_fold])) | ((refine vCall_of (hL) ?_ ?_ ?_); (focus simp only [go_sem, reduceIte, Nat.reduceEqDiff, reduceCtorEq, Nat.reduceLT, Nat.reduceAdd, Nat.reduceSub, Nat.reduceMul, Nat.reduceLeDiff, Int.reduceLT, Int.reduceLE, Int.reduceToNat, Int.reduceEq, Int.reduceAdd, Int.reduceSub, Int.reduceNeg, Int.reduceBNe, Int.reduceBEq, opv, tg, ref]); (focus exact rfl); (try simp only [go_sem, reduceIte, Nat.reduceEqDiff, reduceCtorEq, Nat.reduceLT, Nat.reduceAdd, Nat.reduceSub, Nat.reduceMul, Nat.reduceLeDiff, Int.reduceLT, Int.reduceLE, Int.reduceToNat, Int.reduceEq, Int.reduceAdd, Int.reduceSub, Int.reduceNeg, Int.reduceBNe, Int.reduceBEq, opb, opv, tgd_fold])) | ((refine vCall_of (hA) ?_ ?_ ?_); (focus simp only [go_sem, reduceIte, Nat.reduceEqDiff, reduceCtorEq, Nat.reduceLT, Nat.reduceAdd, Nat.reduceSub, Nat.reduceMul, Nat.reduceLeDiff, Int.reduceLT, Int.reduceLE, Int.reduceToNat, Int.reduceEq, Int.reduceAdd, Int.reduceSub, Int.reduceNeg, Int.reduceBNe, Int.reduceBEq, opv, tg, ref]); (focus exact rfl); (try simp only [go_sem, reduceIte, Nat.reduceEqDiff, reduceCtorEq, Nat.reduceLT, Nat.reduceAdd, Nat.reduceSub, Nat.reduceMul, Nat.reduceLeDiff, Int.reduceLT, Int.reduceLE, Int.reduceToNat, Int.reduceEq, Int.reduceAdd, Int.reduceSub, Int.reduceNeg, Int.reduceBNe, Int.reduceBEq, opb, opv, tgd_fold])) | ((refine vCall_of (hI) ?_ ?_ ?_); (focus simp only [go_sem, reduceIte, Nat.reduceEqDiff, reduceCtorEq, Nat.reduceLT, Nat.reduceAdd, Nat.reduceSub, Nat.reduceMul, Nat.reduceLeDiff, Int.reduceLT, Int.reduceLE, Int.reduceToNat, Int.reduceEq, Int.reduceAdd, Int.reduceSub, Int.reduceNeg, Int.reduceBNe, Int.reduceBEq, opv, tg, ref]); (focus exact rfl); (try simp only [go_sem, reduceIte, Nat.reduceEqDiff, reduceCtorEq, Nat.reduceLT, Nat.reduceAdd, Nat.reduceSub, Nat.reduceMul, Nat.reduceLeDiff, Int.reduceLT, Int.reduceLE, Int.reduceToNat, Int.reduceEq, Int.reduceAdd, Int.reduceSub, Int.reduceNeg, Int.reduceBNe, Int.reduceBEq, opb, opv, tgd_fold])) | ((refine vCall_of (hX) ?_ ?_ ?_); (focus simp only [go_sem, reduceIte, Nat.reduceEqDiff, reduceCtorEq, Nat.reduceLT, Nat.reduceAdd, Nat.reduceSub, Nat.reduceMul, Nat.reduceLeDiff, Int.reduceLT, Int.reduceLE, Int.reduceToNat, Int.reduceEq, Int.reduceAdd, Int.reduceSub, Int.reduceNeg, Int.reduceBNe, Int.reduceBEq, opv, tg, ref]); (focus exact rfl); (try simp only [go_sem, reduceIte, Nat.reduceEqDiff, reduceCtorEq, Nat.reduceLT, Nat.reduceAdd, Nat.reduceSub, Nat.reduceMul, Nat.reduceLeDiff, Int.reduceLT, Int.reduceLE, Int.reduceToNat, Int.reduceEq, Int.reduceAdd, Int.reduceSub, Int.reduceNeg, Int.reduceBNe, Int.reduceBEq, opb, opv, tgd_fold])) | ((refine vCall_of (hD) ?_ ?_ ?_); (focus simp only [go_sem, reduceIte, Nat.reduceEqDiff, reduceCtorEq, Nat.reduceLT, Nat.reduceAdd, Nat.reduceSub, Nat.reduceMul, Nat.reduceLeDiff, Int.reduceLT, Int.reduceLE, Int.reduceToNat, Int.reduceEq, Int.reduceAdd, Int.reduceSub, Int.reduceNeg, Int.reduceBNe, Int.reduceBEq, opv, tg, ref]); (focus exact rfl); (try simp only [go_sem, reduceIte, Nat.reduceEqDiff, reduceCtorEq, Nat.reduceLT, Nat.reduceAdd, Nat.reduceSub, Nat.reduceMul, Nat.reduceLeDiff, Int.reduceLT, Int.reduceLE, Int.reduceToNat, Int.reduceEq, Int.reduceAdd, Int.reduceSub, Int.reduceNeg, Int.reduceBNe, Int.reduceBEq, opb, opv, tgd_fold])) | ((refine vDrawQ (by kernel_rfl) (by kernel_rfl) ?_); (try simp only [go_sem, reduceIte, Nat.reduceEqDiff, reduceCtorEq, Nat.reduceLT, Nat.reduceAdd, Nat.reduceSub, Nat.reduceMul, Nat.reduceLeDiff, Int.reduceLT, Int.reduceLE, Int.reduceToNat, Int.reduceEq, Int.reduceAdd, Int.reduceSub, Int.reduceNeg, Int.reduceBNe, Int.reduceBEq, opb, opv, tgd_fold])))
  all_goals clear hP hS hT hU hC hL hA hI hX hD ho
  all_goals (first
    | (simp only [*, Bool.not_true, Bool.not_false, Bool.and_true, Bool.true_and, Bool.and_false, Bool.false_and, Bool.or_true, Bool.true_or, Bool.or_false, Bool.false_or, Bool.not_not]; done)
    | (simp_all; done))
end Go.Proofs.Ytbojhapdidieoaa

set_option linter.unusedSimpArgs false
set_option linter.unusedVariables false
set_option linter.unusedSimpArgs false
set_option linter.unusedVariables false
namespace Go.Proofs.Ytbojhapdidieoaa
open Go.PL
@[go_sem] theorem tcv_if : tcv Try.prog 2 190 = .flt .f64 := by kernel_rfl
@[go_sem] theorem tcv_fi : tcv Try.prog 190 2 = .int .i64 := by kernel_rfl
theorem ge_flt (a b : Int) : ((some (compare a b) : Option Ordering) == some .gt || (some (compare a b) : Option Ordering) == some .eq) = decide (b ≤ a) := by
  rcases Int.lt_trichotomy a b with h | h | h
  · rw [Int.compare_eq_lt.2 h, decide_eq_false (by omega)]; rfl
  · subst h; rw [Int.compare_eq_eq.2 rfl, decide_eq_true (by omega)]; rfl
  · rw [Int.compare_eq_gt.2 h, decide_eq_true (by omega)]; rfl
theorem le_flt (a b : Int) : ((some (compare a b) : Option Ordering) == some .lt || (some (compare a b) : Option Ordering) == some .eq) = decide (a ≤ b) := by
  rcases Int.lt_trichotomy a b with h | h | h
  · rw [Int.compare_eq_lt.2 h, decide_eq_true (by omega)]; rfl
  · subst h; rw [Int.compare_eq_eq.2 rfl, decide_eq_true (by omega)]; rfl
  · rw [Int.compare_eq_gt.2 h, decide_eq_false (by omega)]; rfl
theorem ne_flt (a b : Int) : ((some (compare a b) : Option Ordering) != some .eq) = decide (a ≠ b) := by
  rcases Int.lt_trichotomy a b with h | h | h
  · rw [Int.compare_eq_lt.2 h, decide_eq_true (by omega)]; rfl
  · subst h; rw [Int.compare_eq_eq.2 rfl, decide_eq_false (by omega)]; rfl
  · rw [Int.compare_eq_gt.2 h, decide_eq_true (by omega)]; rfl
theorem most_fl : (4841369599423283200 : Nat) = flOf 4503599627370496 := by decide +kernel
theorem mneg_fl : Op.negFloat .f64 4841369599423283200 = flOf (-4503599627370496) := by decide +kernel
theorem xt_name : Extern.findNext Try.f162 = none := by kernel_rfl
theorem xt_find : Extern.find Try.f162 = some (Extern.MathFloor.toIntegral "math.archTrunc" .zero) := by kernel_rfl
theorem trunc_run (n : Int) (h : n.natAbs < 2 ^ 53) (P : Program) (w : World) : (Extern.MathFloor.toIntegral "math.archTrunc" .zero #[.float .f64 (flOf n)]).run P w = .ok (.float .f64 (flOf n)) w := by
  obtain ⟨s, m, p, hp⟩ := number_fl n h
  have ht := trunc_fl n h
  rw [hp] at ht
  show (Extern.MathFloor.toIntegral.match_1 (fun _ => Sem Value) (FloatKind.f64.decode (flOf n)) _ _ : Sem Value).run P w = _
  rw [hp]
  show Result.ok (Value.float .f64 (FloatKind.f64.encode ((Ieee.Datum.number s m p).integral .zero))) w = _
  rw [ht]
theorem archTrunc_xt (n : Int) (h : n.natAbs < 2 ^ 53) : PL.Xt Try.prog 162 [.flt .f64 (flOf n)] (.flt .f64 (flOf n)) := by
  intro w S vs hl hr
  match vs, hl with
  | [v], _ =>
    have h0 := hr 0 (by simp)
    simp only [List.getD_cons_zero] at h0
    cases h0
    refine ⟨.float .f64 (flOf n), .flt _ _, ?_⟩
    rw [run_callFunc_extern Try.func162 (by decide) rfl xt_name xt_find]
    show ((Extern.MathFloor.toIntegral "math.archTrunc" .zero #[.float .f64 (flOf n)]).run Try.prog w).andThen _ = _
    rw [trunc_run n h]
    rfl
set_option maxHeartbeats 4000000 in
theorem Trunc_pure (n : Int) (h : n.natAbs < 2 ^ 53) : PL.Pure Try.prog 161 [.flt .f64 (flOf n)] (.flt .f64 (flOf n)) := by
  have hT := archTrunc_xt n h
  refine PL.Pure.of_v Try.func161 (by decide) rfl Try.ntmps161 Try.results161 (by simp) rfl ?_
  simp only [go_sem, reduceIte, Nat.reduceEqDiff, reduceCtorEq, Nat.reduceLT, Nat.reduceAdd, Nat.reduceSub, Nat.reduceMul, Nat.reduceLeDiff, Int.reduceLT, Int.reduceLE, Int.reduceToNat, Int.reduceEq, Int.reduceAdd, Int.reduceSub, Int.reduceNeg, Int.reduceBNe, Int.reduceBEq]
  refine vCall_xt hT ?_ ?_ ?_
  · simp only [go_sem, reduceIte, Nat.reduceEqDiff, reduceCtorEq, Nat.reduceLT, Nat.reduceAdd, Nat.reduceSub, Nat.reduceMul, Nat.reduceLeDiff, Int.reduceLT, Int.reduceLE, Int.reduceToNat, Int.reduceEq, Int.reduceAdd, Int.reduceSub, Int.reduceNeg, Int.reduceBNe, Int.reduceBEq]
  · simp only [go_sem, reduceIte, Nat.reduceEqDiff, reduceCtorEq, Nat.reduceLT, Nat.reduceAdd, Nat.reduceSub, Nat.reduceMul, Nat.reduceLeDiff, Int.reduceLT, Int.reduceLE, Int.reduceToNat, Int.reduceEq, Int.reduceAdd, Int.reduceSub, Int.reduceNeg, Int.reduceBNe, Int.reduceBEq]
  simp only [go_sem, reduceIte, Nat.reduceEqDiff, reduceCtorEq, Nat.reduceLT, Nat.reduceAdd, Nat.reduceSub, Nat.reduceMul, Nat.reduceLeDiff, Int.reduceLT, Int.reduceLE, Int.reduceToNat, Int.reduceEq, Int.reduceAdd, Int.reduceSub, Int.reduceNeg, Int.reduceBNe, Int.reduceBEq]
set_option maxHeartbeats 4000000 in
theorem zparts_pure (a b : Nat) : PL.Pure Try.prog 160 [.cpx .f64 a b] (.agg [.flt .f64 a, .flt .f64 b]) := by
  refine PL.Pure.of_v Try.func160 (by decide) rfl Try.ntmps160 Try.results160 (by simp) rfl ?_
  simp only [go_sem, reduceIte, Nat.reduceEqDiff, reduceCtorEq, Nat.reduceLT, Nat.reduceAdd, Nat.reduceSub, Nat.reduceMul, Nat.reduceLeDiff, Int.reduceLT, Int.reduceLE, Int.reduceToNat, Int.reduceEq, Int.reduceAdd, Int.reduceSub, Int.reduceNeg, Int.reduceBNe, Int.reduceBEq]
def Lim (n : Int) : Prop := -4503599627370496 ≤ n ∧ n ≤ 4503599627370496
theorem Lim.abs {n : Int} (h : Lim n) : n.natAbs < 2 ^ 53 := by have := h.1; have := h.2; omega
set_option maxRecDepth 20000 in
set_option maxHeartbeats 8000000 in
theorem within_pure (a b : Int) (ha : Lim a) (hb : Lim b) : PL.Pure Try.prog 159 [.cpx .f64 (flOf a) (flOf b), .flt .f64 4841369599423283200] (.bool true) := by
  have hZ := zparts_pure (flOf a) (flOf b)
  have hTa := Trunc_pure a ha.abs
  have hTb := Trunc_pure b hb.abs
  have m1 : (4503599627370496 : Int).natAbs < 2 ^ 53 := by decide
  have m2 : (-4503599627370496 : Int).natAbs < 2 ^ 53 := by decide
  have ga : (FloatKind.f64.format.order (flOf a) (Op.negFloat .f64 4841369599423283200) == some .gt || FloatKind.f64.format.order (flOf a) (Op.negFloat .f64 4841369599423283200) == some .eq) = true := by
    rw [mneg_fl, order_fl _ _ ha.abs m2, ge_flt]; simpa using ha.1
  have gb : (FloatKind.f64.format.order (flOf b) (Op.negFloat .f64 4841369599423283200) == some .gt || FloatKind.f64.format.order (flOf b) (Op.negFloat .f64 4841369599423283200) == some .eq) = true := by
    rw [mneg_fl, order_fl _ _ hb.abs m2, ge_flt]; simpa using hb.1
  have la : (FloatKind.f64.format.order (flOf a) 4841369599423283200 == some .lt || FloatKind.f64.format.order (flOf a) 4841369599423283200 == some .eq) = true := by
    rw [most_fl, order_fl _ _ ha.abs m1, le_flt]; simpa using ha.2
  have lb : (FloatKind.f64.format.order (flOf b) 4841369599423283200 == some .lt || FloatKind.f64.format.order (flOf b) 4841369599423283200 == some .eq) = true := by
    rw [most_fl, order_fl _ _ hb.abs m1, le_flt]; simpa using hb.2
  have na : (FloatKind.f64.format.order (flOf a) (flOf a) != some .eq) = false := by rw [order_fl _ _ ha.abs ha.abs, ne_flt]; simp
  have nb : (FloatKind.f64.format.order (flOf b) (flOf b) != some .eq) = false := by rw [order_fl _ _ hb.abs hb.abs, ne_flt]; simp
  have c0 : ((0 : Nat) : Int) = 0 := rfl
  have c1 : ((1 : Nat) : Int) = 1 := rfl
  have c2 : ((2 : Nat) : Int) = 2 := rfl
  have w0 : IntKind.i64.wrap (0 + 1) = ((1 : Nat) : Int) := by decide
  have w1 : IntKind.i64.wrap (1 + 1) = ((2 : Nat) : Int) := by decide
  refine PL.Pure.of_v Try.func159 (by decide) rfl Try.ntmps159 Try.results159 (by simp) rfl ?_
  simp only [go_sem, reduceIte, Nat.reduceEqDiff, reduceCtorEq, Nat.reduceLT, Nat.reduceAdd, Nat.reduceSub, Nat.reduceMul, Nat.reduceLeDiff, Int.reduceLT, Int.reduceLE, Int.reduceToNat, Int.reduceEq, Int.reduceAdd, Int.reduceSub, Int.reduceNeg, Int.reduceBNe, Int.reduceBEq]
  refine vCall_of (hZ) ?_ ?_ ?_; (focus simp only [go_sem, reduceIte, Nat.reduceEqDiff, reduceCtorEq]); (focus simp only [go_sem, reduceIte, Nat.reduceEqDiff, reduceCtorEq])
  simp only [go_sem, reduceIte, Nat.reduceEqDiff, reduceCtorEq, Nat.reduceLT, Nat.reduceAdd, Nat.reduceSub, Nat.reduceMul, Nat.reduceLeDiff, Int.reduceLT, Int.reduceLE, Int.reduceToNat, Int.reduceEq, Int.reduceAdd, Int.reduceSub, Int.reduceNeg, Int.reduceBNe, Int.reduceBEq]
  refine vLoopM (ι := { k : Nat // k ≤ 2 }) 29 (fun x => [(1, .flt .f64 4841369599423283200), (8, .agg [.flt .f64 (flOf a), .flt .f64 (flOf b)]), (9, .int .i64 (x.1 : Int))]) (fun x => []) (fun x => []) (fun x => 2 - x.1) ⟨0, by omega⟩
    ⟨rfl, (forall_cons rfl (forall_cons rfl (forall_cons rfl (forall_nil)))), forall_nil, forall_nil⟩ (fun x => ⟨forall_cons rfl (forall_cons (by simp [PV.ids, PV.idsL]) (forall_cons rfl forall_nil)), forall_nil⟩) (fun x => ?_)
  obtain ⟨k, hk⟩ := x
  simp only
  obtain rfl | rfl | rfl : k = 0 ∨ k = 1 ∨ k = 2 := by omega
  · simp only [go_sem, reduceIte, Nat.reduceEqDiff, reduceCtorEq, Nat.reduceLT, Nat.reduceAdd, Nat.reduceSub, Nat.reduceMul, Nat.reduceLeDiff, Int.reduceLT, Int.reduceLE, Int.reduceToNat, Int.reduceEq, Int.reduceAdd, Int.reduceSub, Int.reduceNeg, Int.reduceBNe, Int.reduceBEq, c0, List.getD_cons_zero, ga, la, Bool.not_true]
    refine vCall_of (hTa) ?_ ?_ ?_; (focus simp only [go_sem, reduceIte, Nat.reduceEqDiff, reduceCtorEq]); (focus simp only [go_sem, reduceIte, Nat.reduceEqDiff, reduceCtorEq])
    simp only [go_sem, reduceIte, Nat.reduceEqDiff, reduceCtorEq, Nat.reduceLT, Nat.reduceAdd, Nat.reduceSub, Nat.reduceMul, Nat.reduceLeDiff, Int.reduceLT, Int.reduceLE, Int.reduceToNat, Int.reduceEq, Int.reduceAdd, Int.reduceSub, Int.reduceNeg, Int.reduceBNe, Int.reduceBEq, na, w0]
    exact ⟨⟨1, by omega⟩, by show 2 - 1 < 2 - 0; omega, ⟨rfl, (forall_cons rfl (forall_cons rfl (forall_cons rfl (forall_nil)))), forall_nil, forall_nil⟩⟩
  · simp only [go_sem, reduceIte, Nat.reduceEqDiff, reduceCtorEq, Nat.reduceLT, Nat.reduceAdd, Nat.reduceSub, Nat.reduceMul, Nat.reduceLeDiff, Int.reduceLT, Int.reduceLE, Int.reduceToNat, Int.reduceEq, Int.reduceAdd, Int.reduceSub, Int.reduceNeg, Int.reduceBNe, Int.reduceBEq, c1, List.getD_cons_zero, List.getD_cons_succ, gb, lb, Bool.not_true]
    refine vCall_of (hTb) ?_ ?_ ?_; (focus simp only [go_sem, reduceIte, Nat.reduceEqDiff, reduceCtorEq]); (focus simp only [go_sem, reduceIte, Nat.reduceEqDiff, reduceCtorEq])
    simp only [go_sem, reduceIte, Nat.reduceEqDiff, reduceCtorEq, Nat.reduceLT, Nat.reduceAdd, Nat.reduceSub, Nat.reduceMul, Nat.reduceLeDiff, Int.reduceLT, Int.reduceLE, Int.reduceToNat, Int.reduceEq, Int.reduceAdd, Int.reduceSub, Int.reduceNeg, Int.reduceBNe, Int.reduceBEq, nb, w1]
    exact ⟨⟨2, by omega⟩, by show 2 - 2 < 2 - 1; omega, ⟨rfl, (forall_cons rfl (forall_cons rfl (forall_cons rfl (forall_nil)))), forall_nil, forall_nil⟩⟩
  · simp only [go_sem, reduceIte, Nat.reduceEqDiff, reduceCtorEq, Nat.reduceLT, Nat.reduceAdd, Nat.reduceSub, Nat.reduceMul, Nat.reduceLeDiff, Int.reduceLT, Int.reduceLE, Int.reduceToNat, Int.reduceEq, Int.reduceAdd, Int.reduceSub, Int.reduceNeg, Int.reduceBNe, Int.reduceBEq, c2]
set_option maxHeartbeats 4000000 in
theorem Whole_pure (a b : Int) (ha : Lim a) (hb : Lim b) : PL.Pure Try.prog 157 [.cpx .f64 (flOf a) (flOf b)] (.bool true) := by
  have hW := within_pure a b ha hb
  refine PL.Pure.of_v Try.func157 (by decide) rfl Try.ntmps157 Try.results157 (by simp) rfl ?_
  simp only [go_sem, reduceIte, Nat.reduceEqDiff, reduceCtorEq, Nat.reduceLT, Nat.reduceAdd, Nat.reduceSub, Nat.reduceMul, Nat.reduceLeDiff, Int.reduceLT, Int.reduceLE, Int.reduceToNat, Int.reduceEq, Int.reduceAdd, Int.reduceSub, Int.reduceNeg, Int.reduceBNe, Int.reduceBEq]
  refine vCall_of (hW) ?_ ?_ ?_; (focus simp only [go_sem, reduceIte, Nat.reduceEqDiff, reduceCtorEq]); (focus simp only [go_sem, reduceIte, Nat.reduceEqDiff, reduceCtorEq])
  simp only [go_sem, reduceIte, Nat.reduceEqDiff, reduceCtorEq, Nat.reduceLT, Nat.reduceAdd, Nat.reduceSub, Nat.reduceMul, Nat.reduceLeDiff, Int.reduceLT, Int.reduceLE, Int.reduceToNat, Int.reduceEq, Int.reduceAdd, Int.reduceSub, Int.reduceNeg, Int.reduceBNe, Int.reduceBEq]
set_option maxHeartbeats 4000000 in
theorem Parts_pure (a b : Int) (ha : Lim a) (hb : Lim b) : PL.Pure Try.prog 146 [.cpx .f64 (flOf a) (flOf b)] (.tup [.int .i64 a, .int .i64 b, .int .i64 0]) := by
  have hW := Whole_pure a b ha hb
  have ta := toInt_fl a ha.abs
  have tb := toInt_fl b hb.abs
  have l1 : IntKind.i64.min ≤ a := by rw [show IntKind.i64.min = -9223372036854775808 by decide]; have := ha.1; omega
  have l2 : a ≤ IntKind.i64.max := by rw [show IntKind.i64.max = 9223372036854775807 by decide]; have := ha.2; omega
  have l3 : IntKind.i64.min ≤ b := by rw [show IntKind.i64.min = -9223372036854775808 by decide]; have := hb.1; omega
  have l4 : b ≤ IntKind.i64.max := by rw [show IntKind.i64.max = 9223372036854775807 by decide]; have := hb.2; omega
  refine PL.Pure.of_v Try.func146 (by decide) rfl Try.ntmps146 Try.results146 (by simp) (rfl) ?_
  simp only [go_sem, reduceIte, Nat.reduceEqDiff, reduceCtorEq, Nat.reduceLT, Nat.reduceAdd, Nat.reduceSub, Nat.reduceMul, Nat.reduceLeDiff, Int.reduceLT, Int.reduceLE, Int.reduceToNat, Int.reduceEq, Int.reduceAdd, Int.reduceSub, Int.reduceNeg, Int.reduceBNe, Int.reduceBEq]
  refine vCall_of (hW) ?_ ?_ ?_; (focus simp only [go_sem, reduceIte, Nat.reduceEqDiff, reduceCtorEq]); (focus simp only [go_sem, reduceIte, Nat.reduceEqDiff, reduceCtorEq])
  simp only [go_sem, reduceIte, Nat.reduceEqDiff, reduceCtorEq, Nat.reduceLT, Nat.reduceAdd, Nat.reduceSub, Nat.reduceMul, Nat.reduceLeDiff, Int.reduceLT, Int.reduceLE, Int.reduceToNat, Int.reduceEq, Int.reduceAdd, Int.reduceSub, Int.reduceNeg, Int.reduceBNe, Int.reduceBEq, ta, tb, l1, l2, l3, l4]
def fitsI (n : Int) : Bool := decide (-4503599627370496 ≤ n) && decide (n ≤ 4503599627370496)
theorem fitsI_iff {n : Int} : fitsI n = true ↔ Lim n := by simp [fitsI, Lim]
set_option maxHeartbeats 4000000 in
theorem fits_pure (n : Int) : PL.Pure Try.prog 145 [.int .i64 n] (.bool (fitsI n)) := by
  refine PL.Pure.of_v Try.func145 (by decide) rfl Try.ntmps145 Try.results145 (by simp) rfl ?_
  simp only [go_sem, reduceIte, Nat.reduceEqDiff, reduceCtorEq, Nat.reduceLT, Nat.reduceAdd, Nat.reduceSub, Nat.reduceMul, Nat.reduceLeDiff, Int.reduceLT, Int.reduceLE, Int.reduceToNat, Int.reduceEq, Int.reduceAdd, Int.reduceSub, Int.reduceNeg, Int.reduceBNe, Int.reduceBEq]
  repeat' (first | (refine vGuard_t (fun h => ?_) (fun h => ?_) <;> (try simp only [go_sem, reduceIte, Nat.reduceEqDiff, reduceCtorEq, Nat.reduceLT, Nat.reduceAdd, Nat.reduceSub, Nat.reduceMul, Nat.reduceLeDiff, Int.reduceLT, Int.reduceLE, Int.reduceToNat, Int.reduceEq, Int.reduceAdd, Int.reduceSub, Int.reduceNeg, Int.reduceBNe, Int.reduceBEq, h])) | (refine vGuard_f (fun h => ?_) (fun h => ?_) <;> (try simp only [go_sem, reduceIte, Nat.reduceEqDiff, reduceCtorEq, Nat.reduceLT, Nat.reduceAdd, Nat.reduceSub, Nat.reduceMul, Nat.reduceLeDiff, Int.reduceLT, Int.reduceLE, Int.reduceToNat, Int.reduceEq, Int.reduceAdd, Int.reduceSub, Int.reduceNeg, Int.reduceBNe, Int.reduceBEq, h])) | (refine vCond_b (fun h => ?_) (fun h => ?_) <;> (try simp only [go_sem, reduceIte, Nat.reduceEqDiff, reduceCtorEq, Nat.reduceLT, Nat.reduceAdd, Nat.reduceSub, Nat.reduceMul, Nat.reduceLeDiff, Int.reduceLT, Int.reduceLE, Int.reduceToNat, Int.reduceEq, Int.reduceAdd, Int.reduceSub, Int.reduceNeg, Int.reduceBNe, Int.reduceBEq, h])) | ((refine vDrawQ (by kernel_rfl) (by kernel_rfl) ?_); (try simp only [go_sem, reduceIte, Nat.reduceEqDiff, reduceCtorEq, Nat.reduceLT, Nat.reduceAdd, Nat.reduceSub, Nat.reduceMul, Nat.reduceLeDiff, Int.reduceLT, Int.reduceLE, Int.reduceToNat, Int.reduceEq, Int.reduceAdd, Int.reduceSub, Int.reduceNeg, Int.reduceBNe, Int.reduceBEq])))
  all_goals (simp_all [fitsI]; try omega)
set_option maxHeartbeats 4000000 in
theorem Of_pure (a b : Int) : PL.Pure Try.prog 120 [.int .i64 a, .int .i64 b] (if fitsI a = true ∧ fitsI b = true then .tup [.cpx .f64 (flOf a) (flOf b), .int .i64 0] else .tup [.cpx .f64 0 0, .int .i64 3]) := by
  have hA := fits_pure a
  have hB := fits_pure b
  have ea : FloatKind.f64.nearest a = flOf a := rfl
  have eb : FloatKind.f64.nearest b = flOf b := rfl
  cases h1 : fitsI a
  · rw [h1] at hA
    simp only [Bool.false_eq_true, false_and, if_false]
    refine PL.Pure.of_v Try.func120 (by decide) rfl Try.ntmps120 Try.results120 (by simp) (rfl) ?_
    simp only [go_sem, reduceIte, Nat.reduceEqDiff, reduceCtorEq, Nat.reduceLT, Nat.reduceAdd, Nat.reduceSub, Nat.reduceMul, Nat.reduceLeDiff, Int.reduceLT, Int.reduceLE, Int.reduceToNat, Int.reduceEq, Int.reduceAdd, Int.reduceSub, Int.reduceNeg, Int.reduceBNe, Int.reduceBEq]
    refine vCall_of (hA) ?_ ?_ ?_; (focus simp only [go_sem, reduceIte, Nat.reduceEqDiff, reduceCtorEq]); (focus simp only [go_sem, reduceIte, Nat.reduceEqDiff, reduceCtorEq])
    simp only [go_sem, reduceIte, Nat.reduceEqDiff, reduceCtorEq, Nat.reduceLT, Nat.reduceAdd, Nat.reduceSub, Nat.reduceMul, Nat.reduceLeDiff, Int.reduceLT, Int.reduceLE, Int.reduceToNat, Int.reduceEq, Int.reduceAdd, Int.reduceSub, Int.reduceNeg, Int.reduceBNe, Int.reduceBEq]
  · rw [h1] at hA
    cases h2 : fitsI b
    · rw [h2] at hB
      simp only [Bool.false_eq_true, and_false, if_false]
      refine PL.Pure.of_v Try.func120 (by decide) rfl Try.ntmps120 Try.results120 (by simp) (rfl) ?_
      simp only [go_sem, reduceIte, Nat.reduceEqDiff, reduceCtorEq, Nat.reduceLT, Nat.reduceAdd, Nat.reduceSub, Nat.reduceMul, Nat.reduceLeDiff, Int.reduceLT, Int.reduceLE, Int.reduceToNat, Int.reduceEq, Int.reduceAdd, Int.reduceSub, Int.reduceNeg, Int.reduceBNe, Int.reduceBEq]
      refine vCall_of (hA) ?_ ?_ ?_; (focus simp only [go_sem, reduceIte, Nat.reduceEqDiff, reduceCtorEq]); (focus simp only [go_sem, reduceIte, Nat.reduceEqDiff, reduceCtorEq])
      simp only [go_sem, reduceIte, Nat.reduceEqDiff, reduceCtorEq, Nat.reduceLT, Nat.reduceAdd, Nat.reduceSub, Nat.reduceMul, Nat.reduceLeDiff, Int.reduceLT, Int.reduceLE, Int.reduceToNat, Int.reduceEq, Int.reduceAdd, Int.reduceSub, Int.reduceNeg, Int.reduceBNe, Int.reduceBEq]
      refine vCall_of (hB) ?_ ?_ ?_; (focus simp only [go_sem, reduceIte, Nat.reduceEqDiff, reduceCtorEq]); (focus simp only [go_sem, reduceIte, Nat.reduceEqDiff, reduceCtorEq])
      simp only [go_sem, reduceIte, Nat.reduceEqDiff, reduceCtorEq, Nat.reduceLT, Nat.reduceAdd, Nat.reduceSub, Nat.reduceMul, Nat.reduceLeDiff, Int.reduceLT, Int.reduceLE, Int.reduceToNat, Int.reduceEq, Int.reduceAdd, Int.reduceSub, Int.reduceNeg, Int.reduceBNe, Int.reduceBEq]
    · rw [h2] at hB
      simp only [and_self, if_true]
      refine PL.Pure.of_v Try.func120 (by decide) rfl Try.ntmps120 Try.results120 (by simp) (rfl) ?_
      simp only [go_sem, reduceIte, Nat.reduceEqDiff, reduceCtorEq, Nat.reduceLT, Nat.reduceAdd, Nat.reduceSub, Nat.reduceMul, Nat.reduceLeDiff, Int.reduceLT, Int.reduceLE, Int.reduceToNat, Int.reduceEq, Int.reduceAdd, Int.reduceSub, Int.reduceNeg, Int.reduceBNe, Int.reduceBEq]
      refine vCall_of (hA) ?_ ?_ ?_; (focus simp only [go_sem, reduceIte, Nat.reduceEqDiff, reduceCtorEq]); (focus simp only [go_sem, reduceIte, Nat.reduceEqDiff, reduceCtorEq])
      simp only [go_sem, reduceIte, Nat.reduceEqDiff, reduceCtorEq, Nat.reduceLT, Nat.reduceAdd, Nat.reduceSub, Nat.reduceMul, Nat.reduceLeDiff, Int.reduceLT, Int.reduceLE, Int.reduceToNat, Int.reduceEq, Int.reduceAdd, Int.reduceSub, Int.reduceNeg, Int.reduceBNe, Int.reduceBEq]
      refine vCall_of (hB) ?_ ?_ ?_; (focus simp only [go_sem, reduceIte, Nat.reduceEqDiff, reduceCtorEq]); (focus simp only [go_sem, reduceIte, Nat.reduceEqDiff, reduceCtorEq])
      simp only [go_sem, reduceIte, Nat.reduceEqDiff, reduceCtorEq, Nat.reduceLT, Nat.reduceAdd, Nat.reduceSub, Nat.reduceMul, Nat.reduceLeDiff, Int.reduceLT, Int.reduceLE, Int.reduceToNat, Int.reduceEq, Int.reduceAdd, Int.reduceSub, Int.reduceNeg, Int.reduceBNe, Int.reduceBEq, ea, eb]
set_option maxHeartbeats 4000000 in
theorem away_pure (n : Int) : PL.Pure Try.prog 147 [.int .i64 n] (.bool (!fitsI n)) := by
  refine PL.Pure.of_v Try.func147 (by decide) rfl Try.ntmps147 Try.results147 (by simp) rfl ?_
  simp only [go_sem, reduceIte, Nat.reduceEqDiff, reduceCtorEq, Nat.reduceLT, Nat.reduceAdd, Nat.reduceSub, Nat.reduceMul, Nat.reduceLeDiff, Int.reduceLT, Int.reduceLE, Int.reduceToNat, Int.reduceEq, Int.reduceAdd, Int.reduceSub, Int.reduceNeg, Int.reduceBNe, Int.reduceBEq]
  repeat' (first | (refine vGuard_t (fun h => ?_) (fun h => ?_) <;> (try simp only [go_sem, reduceIte, Nat.reduceEqDiff, reduceCtorEq, Nat.reduceLT, Nat.reduceAdd, Nat.reduceSub, Nat.reduceMul, Nat.reduceLeDiff, Int.reduceLT, Int.reduceLE, Int.reduceToNat, Int.reduceEq, Int.reduceAdd, Int.reduceSub, Int.reduceNeg, Int.reduceBNe, Int.reduceBEq, h])) | (refine vGuard_f (fun h => ?_) (fun h => ?_) <;> (try simp only [go_sem, reduceIte, Nat.reduceEqDiff, reduceCtorEq, Nat.reduceLT, Nat.reduceAdd, Nat.reduceSub, Nat.reduceMul, Nat.reduceLeDiff, Int.reduceLT, Int.reduceLE, Int.reduceToNat, Int.reduceEq, Int.reduceAdd, Int.reduceSub, Int.reduceNeg, Int.reduceBNe, Int.reduceBEq, h])) | (refine vCond_b (fun h => ?_) (fun h => ?_) <;> (try simp only [go_sem, reduceIte, Nat.reduceEqDiff, reduceCtorEq, Nat.reduceLT, Nat.reduceAdd, Nat.reduceSub, Nat.reduceMul, Nat.reduceLeDiff, Int.reduceLT, Int.reduceLE, Int.reduceToNat, Int.reduceEq, Int.reduceAdd, Int.reduceSub, Int.reduceNeg, Int.reduceBNe, Int.reduceBEq, h])) | ((refine vDrawQ (by kernel_rfl) (by kernel_rfl) ?_); (try simp only [go_sem, reduceIte, Nat.reduceEqDiff, reduceCtorEq, Nat.reduceLT, Nat.reduceAdd, Nat.reduceSub, Nat.reduceMul, Nat.reduceLeDiff, Int.reduceLT, Int.reduceLE, Int.reduceToNat, Int.reduceEq, Int.reduceAdd, Int.reduceSub, Int.reduceNeg, Int.reduceBNe, Int.reduceBEq])))
  all_goals (simp_all [fitsI]; try omega)
  all_goals (rw [← decide_not]; congr 1; simp only [eq_iff_iff]; omega)
end Go.Proofs.Ytbojhapdidieoaa
