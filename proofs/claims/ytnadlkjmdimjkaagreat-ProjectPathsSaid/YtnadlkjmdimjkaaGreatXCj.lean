/- Contracts of functions and laws of this seat, each for every input that it names: lemmas of the proof. -/
import Derived.Test.YtnadlkjmdimjkaaGreatXCc
import Derived.Test.YtnadlkjmdimjkaaGreatXAh
import Derived.Test.YtnadlkjmdimjkaaGreatPlG
import Derived.Test.YtnadlkjmdimjkaaGreatPlF
import Derived.Laws.LoneSync
import Derived.Test.YtnadlkjmdimjkaaGreatXBq
import Derived.Test.YtnadlkjmdimjkaaGreatXBy
set_option linter.unusedSimpArgs false
set_option linter.unusedVariables false
set_option linter.unusedSimpArgs false
set_option linter.unusedVariables false
namespace Go.Proofs.YtnadlkjmdimjkaaGreat
open Go.PL
end Go.Proofs.YtnadlkjmdimjkaaGreat

set_option linter.unusedSimpArgs false
set_option linter.unusedVariables false
set_option linter.unusedSimpArgs false
set_option linter.unusedVariables false
namespace Go.Proofs.YtnadlkjmdimjkaaGreat
open Go.PL
@[go_sem] theorem tcv_if : tcv Tryz.prog 2 271 = .flt .f64 := by kernel_rfl
@[go_sem] theorem tcv_fi : tcv Tryz.prog 271 2 = .int .i64 := by kernel_rfl
theorem ge_flt (a b : Int) : ((some (compare a b) : Option Ordering) == some .gt || (some (compare a b) : Option Ordering) == some .eq) = decide (b ≤ a) := by
  rcases Int.lt_trichotomy a b with h | h | h
  · rw [Int.compare_eq_lt.2 h, decide_eq_false (by omega)]; rfl
  · subst h; rw [Int.compare_eq_eq.2 rfl, decide_eq_true (by omega)]; rfl
  · rw [Int.compare_eq_gt.2 h, decide_eq_true (by omega)]; rfl
theorem le_flt (a b : Int) : ((some (compare a b) : Option Ordering) == some .lt || (some (compare a b) : Option Ordering) == some .eq) = decide (a ≤ b) := by
  rcases Int.lt_trichotomy a b with h | h | h
  · rw [Int.compare_eq_lt.2 h, decide_eq_true (by omega)]; rfl
  · subst h; rw [Int.compare_eq_eq.2 rfl, decide_eq_true (by omega)]; rfl
  · rw [Int.compare_eq_gt.2 h, decide_eq_false (by omega)]; rfl
theorem ne_flt (a b : Int) : ((some (compare a b) : Option Ordering) != some .eq) = decide (a ≠ b) := by
  rcases Int.lt_trichotomy a b with h | h | h
  · rw [Int.compare_eq_lt.2 h, decide_eq_true (by omega)]; rfl
  · subst h; rw [Int.compare_eq_eq.2 rfl, decide_eq_false (by omega)]; rfl
  · rw [Int.compare_eq_gt.2 h, decide_eq_true (by omega)]; rfl
theorem most_fl : (4841369599423283200 : Nat) = flOf 4503599627370496 := by decide +kernel
theorem mneg_fl : Op.negFloat .f64 4841369599423283200 = flOf (-4503599627370496) := by decide +kernel
theorem xt_name : Extern.findNext Tryz.f260 = none := by kernel_rfl
theorem xt_find : Extern.find Tryz.f260 = some (Extern.MathFloor.toIntegral "math.archTrunc" .zero) := by kernel_rfl
theorem trunc_run (n : Int) (h : n.natAbs < 2 ^ 53) (P : Program) (w : World) : (Extern.MathFloor.toIntegral "math.archTrunc" .zero #[.float .f64 (flOf n)]).run P w = .ok (.float .f64 (flOf n)) w := by
  obtain ⟨s, m, p, hp⟩ := number_fl n h
  have ht := trunc_fl n h
  rw [hp] at ht
  show (Extern.MathFloor.toIntegral.match_1 (fun _ => Sem Value) (FloatKind.f64.decode (flOf n)) _ _ : Sem Value).run P w = _
  rw [hp]
  show Result.ok (Value.float .f64 (FloatKind.f64.encode ((Ieee.Datum.number s m p).integral .zero))) w = _
  rw [ht]
theorem archTrunc_xt (n : Int) (h : n.natAbs < 2 ^ 53) : PL.Xt Tryz.prog 260 [.flt .f64 (flOf n)] (.flt .f64 (flOf n)) := by
  intro w S vs hl hr
  match vs, hl with
  | [v], _ =>
    have h0 := hr 0 (by simp)
    simp only [List.getD_cons_zero] at h0
    cases h0
    refine ⟨.float .f64 (flOf n), .flt _ _, ?_⟩
    rw [run_callFunc_extern Tryz.func260 (by decide) rfl xt_name xt_find]
    show ((Extern.MathFloor.toIntegral "math.archTrunc" .zero #[.float .f64 (flOf n)]).run Tryz.prog w).andThen _ = _
    rw [trunc_run n h]
    rfl
set_option maxHeartbeats 4000000 in
theorem Trunc_pure (n : Int) (h : n.natAbs < 2 ^ 53) : PL.Pure Tryz.prog 259 [.flt .f64 (flOf n)] (.flt .f64 (flOf n)) := by
  have hT := archTrunc_xt n h
  refine PL.Pure.of_v Tryz.func259 (by decide) rfl Tryz.ntmps259 Tryz.results259 (by simp) rfl ?_
  simp only [go_sem]
  refine vCall_xt hT ?_ ?_ ?_
  · simp only [go_sem]
  · simp only [go_sem]
  simp only [go_sem]
set_option maxHeartbeats 4000000 in
theorem zparts_pure (a b : Nat) : PL.Pure Tryz.prog 258 [.cpx .f64 a b] (.agg [.flt .f64 a, .flt .f64 b]) := by
  refine PL.Pure.of_v Tryz.func258 (by decide) rfl Tryz.ntmps258 Tryz.results258 (by simp) rfl ?_
  simp only [go_sem]
def Lim (n : Int) : Prop := -4503599627370496 ≤ n ∧ n ≤ 4503599627370496
theorem Lim.abs {n : Int} (h : Lim n) : n.natAbs < 2 ^ 53 := by have := h.1; have := h.2; omega
set_option maxRecDepth 20000 in
set_option maxHeartbeats 8000000 in
theorem within_pure (a b : Int) (ha : Lim a) (hb : Lim b) : PL.Pure Tryz.prog 257 [.cpx .f64 (flOf a) (flOf b), .flt .f64 4841369599423283200] (.bool true) := by
  have hZ := zparts_pure (flOf a) (flOf b)
  have hTa := Trunc_pure a ha.abs
  have hTb := Trunc_pure b hb.abs
  have m1 : (4503599627370496 : Int).natAbs < 2 ^ 53 := by decide
  have m2 : (-4503599627370496 : Int).natAbs < 2 ^ 53 := by decide
  have ga : (FloatKind.f64.format.order (flOf a) (Op.negFloat .f64 4841369599423283200) == some .gt || FloatKind.f64.format.order (flOf a) (Op.negFloat .f64 4841369599423283200) == some .eq) = true := by
    rw [mneg_fl, order_fl _ _ ha.abs m2, ge_flt]; simpa using ha.1
  have gb : (FloatKind.f64.format.order (flOf b) (Op.negFloat .f64 4841369599423283200) == some .gt || FloatKind.f64.format.order (flOf b) (Op.negFloat .f64 4841369599423283200) == some .eq) = true := by
    rw [mneg_fl, order_fl _ _ hb.abs m2, ge_flt]; simpa using hb.1
  have la : (FloatKind.f64.format.order (flOf a) 4841369599423283200 == some .lt || FloatKind.f64.format.order (flOf a) 4841369599423283200 == some .eq) = true := by
    rw [most_fl, order_fl _ _ ha.abs m1, le_flt]; simpa using ha.2
  have lb : (FloatKind.f64.format.order (flOf b) 4841369599423283200 == some .lt || FloatKind.f64.format.order (flOf b) 4841369599423283200 == some .eq) = true := by
    rw [most_fl, order_fl _ _ hb.abs m1, le_flt]; simpa using hb.2
  have na : (FloatKind.f64.format.order (flOf a) (flOf a) != some .eq) = false := by rw [order_fl _ _ ha.abs ha.abs, ne_flt]; simp
  have nb : (FloatKind.f64.format.order (flOf b) (flOf b) != some .eq) = false := by rw [order_fl _ _ hb.abs hb.abs, ne_flt]; simp
  have c0 : ((0 : Nat) : Int) = 0 := rfl
  have c1 : ((1 : Nat) : Int) = 1 := rfl
  have c2 : ((2 : Nat) : Int) = 2 := rfl
  have w0 : IntKind.i64.wrap (0 + 1) = ((1 : Nat) : Int) := by decide
  have w1 : IntKind.i64.wrap (1 + 1) = ((2 : Nat) : Int) := by decide
  refine PL.Pure.of_v Tryz.func257 (by decide) rfl Tryz.ntmps257 Tryz.results257 (by simp) rfl ?_
  simp only [go_sem]
  refine vCall_of (hZ) ?_ ?_ ?_; (focus simp only [go_sem]); (focus simp only [go_sem])
  simp only [go_sem]
  refine vLoopM (ι := { k : Nat // k ≤ 2 }) 29 (fun x => [(1, .flt .f64 4841369599423283200), (8, .agg [.flt .f64 (flOf a), .flt .f64 (flOf b)]), (9, .int .i64 (x.1 : Int))]) (fun x => []) (fun x => []) (fun x => 2 - x.1) ⟨0, by omega⟩
    ⟨rfl, (forall_cons rfl (forall_cons rfl (forall_cons rfl (forall_nil)))), forall_nil, forall_nil⟩ (fun x => ⟨forall_cons rfl (forall_cons (by simp [PV.ids, PV.idsL]) (forall_cons rfl forall_nil)), forall_nil⟩) (fun x => ?_)
  obtain ⟨k, hk⟩ := x
  simp only
  obtain rfl | rfl | rfl : k = 0 ∨ k = 1 ∨ k = 2 := by omega
  · simp only [go_sem, c0, List.getD_cons_zero, ga, la, Bool.not_true]
    refine vCall_of (hTa) ?_ ?_ ?_; (focus simp only [go_sem]); (focus simp only [go_sem])
    simp only [go_sem, na, w0]
    exact ⟨⟨1, by omega⟩, by show 2 - 1 < 2 - 0; omega, ⟨rfl, (forall_cons rfl (forall_cons rfl (forall_cons rfl (forall_nil)))), forall_nil, forall_nil⟩⟩
  · simp only [go_sem, c1, List.getD_cons_zero, List.getD_cons_succ, gb, lb, Bool.not_true]
    refine vCall_of (hTb) ?_ ?_ ?_; (focus simp only [go_sem]); (focus simp only [go_sem])
    simp only [go_sem, nb, w1]
    exact ⟨⟨2, by omega⟩, by show 2 - 2 < 2 - 1; omega, ⟨rfl, (forall_cons rfl (forall_cons rfl (forall_cons rfl (forall_nil)))), forall_nil, forall_nil⟩⟩
  · simp only [go_sem, c2]
set_option maxHeartbeats 4000000 in
theorem Whole_pure (a b : Int) (ha : Lim a) (hb : Lim b) : PL.Pure Tryz.prog 255 [.cpx .f64 (flOf a) (flOf b)] (.bool true) := by
  have hW := within_pure a b ha hb
  refine PL.Pure.of_v Tryz.func255 (by decide) rfl Tryz.ntmps255 Tryz.results255 (by simp) rfl ?_
  simp only [go_sem]
  refine vCall_of (hW) ?_ ?_ ?_; (focus simp only [go_sem]); (focus simp only [go_sem])
  simp only [go_sem]
set_option maxHeartbeats 4000000 in
theorem Parts_pure (a b : Int) (ha : Lim a) (hb : Lim b) : PL.Pure Tryz.prog 248 [.cpx .f64 (flOf a) (flOf b)] (.tup [.int .i64 a, .int .i64 b, .int .i64 0]) := by
  have hW := Whole_pure a b ha hb
  have ta := toInt_fl a ha.abs
  have tb := toInt_fl b hb.abs
  have l1 : IntKind.i64.min ≤ a := by rw [show IntKind.i64.min = -9223372036854775808 by decide]; have := ha.1; omega
  have l2 : a ≤ IntKind.i64.max := by rw [show IntKind.i64.max = 9223372036854775807 by decide]; have := ha.2; omega
  have l3 : IntKind.i64.min ≤ b := by rw [show IntKind.i64.min = -9223372036854775808 by decide]; have := hb.1; omega
  have l4 : b ≤ IntKind.i64.max := by rw [show IntKind.i64.max = 9223372036854775807 by decide]; have := hb.2; omega
  refine PL.Pure.of_v Tryz.func248 (by decide) rfl Tryz.ntmps248 Tryz.results248 (by simp) (rfl) ?_
  simp only [go_sem]
  refine vCall_of (hW) ?_ ?_ ?_; (focus simp only [go_sem]); (focus simp only [go_sem])
  simp only [go_sem, ta, tb, l1, l2, l3, l4]
def fitsI (n : Int) : Bool := decide (-4503599627370496 ≤ n) && decide (n ≤ 4503599627370496)
theorem fitsI_iff {n : Int} : fitsI n = true ↔ Lim n := by simp [fitsI, Lim]
set_option maxHeartbeats 4000000 in
theorem fits_pure (n : Int) : PL.Pure Tryz.prog 247 [.int .i64 n] (.bool (fitsI n)) := by
  refine PL.Pure.of_v Tryz.func247 (by decide) rfl Tryz.ntmps247 Tryz.results247 (by simp) rfl ?_
  simp only [go_sem]
  repeat' (first | (refine vGuard_t (fun h => ?_) (fun h => ?_) <;> (try simp only [go_sem, h])) | (refine vGuard_f (fun h => ?_) (fun h => ?_) <;> (try simp only [go_sem, h])) | (refine vCond_b (fun h => ?_) (fun h => ?_) <;> (try simp only [go_sem, h])) | ((refine vDrawQ (by kernel_rfl) (by kernel_rfl) ?_); (try simp only [go_sem])))
  all_goals (simp_all [fitsI]; try omega)
set_option maxHeartbeats 4000000 in
theorem Of_pure (a b : Int) : PL.Pure Tryz.prog 235 [.int .i64 a, .int .i64 b] (if fitsI a = true ∧ fitsI b = true then .tup [.cpx .f64 (flOf a) (flOf b), .int .i64 0] else .tup [.cpx .f64 0 0, .int .i64 3]) := by
  have hA := fits_pure a
  have hB := fits_pure b
  have ea : FloatKind.f64.nearest a = flOf a := rfl
  have eb : FloatKind.f64.nearest b = flOf b := rfl
  cases h1 : fitsI a
  · rw [h1] at hA
    simp only [Bool.false_eq_true, false_and, if_false]
    refine PL.Pure.of_v Tryz.func235 (by decide) rfl Tryz.ntmps235 Tryz.results235 (by simp) (rfl) ?_
    simp only [go_sem]
    refine vCall_of (hA) ?_ ?_ ?_; (focus simp only [go_sem]); (focus simp only [go_sem])
    simp only [go_sem]
  · rw [h1] at hA
    cases h2 : fitsI b
    · rw [h2] at hB
      simp only [Bool.false_eq_true, and_false, if_false]
      refine PL.Pure.of_v Tryz.func235 (by decide) rfl Tryz.ntmps235 Tryz.results235 (by simp) (rfl) ?_
      simp only [go_sem]
      refine vCall_of (hA) ?_ ?_ ?_; (focus simp only [go_sem]); (focus simp only [go_sem])
      simp only [go_sem]
      refine vCall_of (hB) ?_ ?_ ?_; (focus simp only [go_sem]); (focus simp only [go_sem])
      simp only [go_sem]
    · rw [h2] at hB
      simp only [and_self, if_true]
      refine PL.Pure.of_v Tryz.func235 (by decide) rfl Tryz.ntmps235 Tryz.results235 (by simp) (rfl) ?_
      simp only [go_sem]
      refine vCall_of (hA) ?_ ?_ ?_; (focus simp only [go_sem]); (focus simp only [go_sem])
      simp only [go_sem]
      refine vCall_of (hB) ?_ ?_ ?_; (focus simp only [go_sem]); (focus simp only [go_sem])
      simp only [go_sem, ea, eb]
set_option maxHeartbeats 4000000 in
theorem away_pure (n : Int) : PL.Pure Tryz.prog 249 [.int .i64 n] (.bool (!fitsI n)) := by
  refine PL.Pure.of_v Tryz.func249 (by decide) rfl Tryz.ntmps249 Tryz.results249 (by simp) rfl ?_
  simp only [go_sem]
  repeat' (first | (refine vGuard_t (fun h => ?_) (fun h => ?_) <;> (try simp only [go_sem, h])) | (refine vGuard_f (fun h => ?_) (fun h => ?_) <;> (try simp only [go_sem, h])) | (refine vCond_b (fun h => ?_) (fun h => ?_) <;> (try simp only [go_sem, h])) | ((refine vDrawQ (by kernel_rfl) (by kernel_rfl) ?_); (try simp only [go_sem])))
  all_goals (simp_all [fitsI]; try omega)
  all_goals (rw [← decide_not]; congr 1; simp only [eq_iff_iff]; omega)
end Go.Proofs.YtnadlkjmdimjkaaGreat

set_option linter.unusedSimpArgs false
set_option linter.unusedVariables false
set_option linter.unusedSimpArgs false
set_option linter.unusedVariables false
namespace Go.Proofs.YtnadlkjmdimjkaaGreat
open Go.PL
/-- 2^52 over a number -/
def mostOf (w : Int) : Int := (4503599627370496 : Int).tdiv w
theorem mostOf_spec {w : Int} (h : 1 ≤ w) : 0 ≤ mostOf w ∧ mostOf w ≤ 4503599627370496 ∧ mostOf w * w ≤ 4503599627370496 ∧ 4503599627370496 < (mostOf w + 1) * w := by
  unfold mostOf
  have e : (4503599627370496 : Int).tdiv w = (4503599627370496 : Int) / w := Int.tdiv_eq_ediv_of_nonneg (by omega)
  rw [e]
  have h1 : (4503599627370496 : Int) / w * w ≤ 4503599627370496 := Int.ediv_mul_le _ (by omega)
  have h2 := Int.lt_ediv_add_one_mul_self 4503599627370496 (show 0 < w by omega)
  have h3 : 0 ≤ (4503599627370496 : Int) / w := Int.ediv_nonneg (by omega) (by omega)
  have h4 : (4503599627370496 : Int) / w ≤ 4503599627370496 := Int.ediv_le_self _ (by omega)
  exact ⟨h3, h4, h1, h2⟩
def joinI (u p f : Int) : Int × Int :=
  if ¬ (2 ≤ f ∧ f ≤ 1000) then (0, 2) else if p < - mostOf f ∨ mostOf f < p then (0, 3)
  else if fitsI (IntKind.i64.wrap (u + IntKind.i64.wrap (f * p))) = true then (IntKind.i64.wrap (u + IntKind.i64.wrap (f * p)), 0) else (0, 3)
def intc (x : Int × Int) : PV := .tup [.int .i64 x.1, .int .i64 x.2]
theorem wrap_id {n : Int} (h : -9223372036854775808 ≤ n ∧ n ≤ 9223372036854775807) : IntKind.i64.wrap n = n := w64 (by omega)
set_option maxRecDepth 20000 in
set_option maxHeartbeats 8000000 in
theorem Join_pure' (u p f : Int) (hu : Lim u) (hp : Lim p) : PL.Pure Tryz.prog 236 [.cpx .f64 (flOf u) (flOf p), .int .i64 f] (intc (joinI u p f)) := by
  have hF := Factor_pure f
  have hP := Parts_pure u p hu hp
  have hA := away_pure (IntKind.i64.wrap (u + IntKind.i64.wrap (f * p)))
  unfold joinI
  by_cases hf : 2 ≤ f ∧ f ≤ 1000
  · have e1 : (decide (2 ≤ f) && decide (f ≤ 1000)) = true := by simpa using hf
    rw [e1] at hF
    rw [if_neg (fun h => h hf)]
    have ms := mostOf_spec (w := f) (by omega)
    have q1 : IntKind.i64.wrap ((4503599627370496 : Int).tdiv f) = mostOf f := wrap_id (by unfold mostOf at ms; omega)
    have q2 : IntKind.i64.wrap (0 - mostOf f) = - mostOf f := by rw [wrap_id (by omega)]; omega
    have fz : f ≠ 0 := by omega
    by_cases c1 : p < - mostOf f
    · rw [if_pos (.inl c1)]
      refine PL.Pure.of_v Tryz.func236 (by decide) rfl Tryz.ntmps236 Tryz.results236 (by simp) (rfl) ?_
      simp only [go_sem]
      refine vCall_of (hF) ?_ ?_ ?_; (focus simp only [go_sem]); (focus simp only [go_sem])
      simp only [go_sem]
      refine vCall_of (hP) ?_ ?_ ?_; (focus simp only [go_sem]); (focus simp only [go_sem])
      simp only [go_sem, q1, q2, fz, c1, intc]
    · by_cases c2 : mostOf f < p
      · rw [if_pos (.inr c2)]
        refine PL.Pure.of_v Tryz.func236 (by decide) rfl Tryz.ntmps236 Tryz.results236 (by simp) (rfl) ?_
        simp only [go_sem]
        refine vCall_of (hF) ?_ ?_ ?_; (focus simp only [go_sem]); (focus simp only [go_sem])
        simp only [go_sem]
        refine vCall_of (hP) ?_ ?_ ?_; (focus simp only [go_sem]); (focus simp only [go_sem])
        simp only [go_sem, q1, q2, fz, c1, c2, intc]
      · rw [if_neg (by omega)]
        cases ha : fitsI (IntKind.i64.wrap (u + IntKind.i64.wrap (f * p)))
        · rw [ha] at hA
          simp only [Bool.false_eq_true, if_false]
          refine PL.Pure.of_v Tryz.func236 (by decide) rfl Tryz.ntmps236 Tryz.results236 (by simp) (rfl) ?_
          simp only [go_sem]
          refine vCall_of (hF) ?_ ?_ ?_; (focus simp only [go_sem]); (focus simp only [go_sem])
          simp only [go_sem]
          refine vCall_of (hP) ?_ ?_ ?_; (focus simp only [go_sem]); (focus simp only [go_sem])
          simp only [go_sem, q1, q2, fz, c1, c2]
          refine vCall_of (hA) ?_ ?_ ?_; (focus simp only [go_sem]); (focus simp only [go_sem])
          simp only [go_sem, Bool.not_false, intc]
        · rw [ha] at hA
          simp only [if_true]
          refine PL.Pure.of_v Tryz.func236 (by decide) rfl Tryz.ntmps236 Tryz.results236 (by simp) (rfl) ?_
          simp only [go_sem]
          refine vCall_of (hF) ?_ ?_ ?_; (focus simp only [go_sem]); (focus simp only [go_sem])
          simp only [go_sem]
          refine vCall_of (hP) ?_ ?_ ?_; (focus simp only [go_sem]); (focus simp only [go_sem])
          simp only [go_sem, q1, q2, fz, c1, c2]
          refine vCall_of (hA) ?_ ?_ ?_; (focus simp only [go_sem]); (focus simp only [go_sem])
          simp only [go_sem, Bool.not_true, intc]
  · have e1 : (decide (2 ≤ f) && decide (f ≤ 1000)) = false := by rw [Bool.eq_false_iff]; simpa using hf
    rw [e1] at hF
    rw [if_pos hf]
    refine PL.Pure.of_v Tryz.func236 (by decide) rfl Tryz.ntmps236 Tryz.results236 (by simp) (rfl) ?_
    simp only [go_sem]
    refine vCall_of (hF) ?_ ?_ ?_; (focus simp only [go_sem]); (focus simp only [go_sem])
    simp only [go_sem, intc]
structure OkOp (o : Opn) : Prop where
  d : o.drops.length ≤ 1000000
end Go.Proofs.YtnadlkjmdimjkaaGreat

set_option linter.unusedSimpArgs false
set_option linter.unusedVariables false
set_option linter.unusedSimpArgs false
set_option linter.unusedVariables false
namespace Go.Proofs.YtnadlkjmdimjkaaGreat
open Go.PL
theorem right_kinds {f : Fd} (h : rightF f = true) : f.kind = 1 ∨ f.kind = 2 ∨ f.kind = 3 ∨ f.kind = 4 := by
  simp only [rightF, Bool.and_eq_true] at h
  have h := h.2
  by_cases k1 : f.kind = 1
  · exact .inl k1
  · rw [if_neg k1] at h
    by_cases k3 : f.kind = 3
    · exact .inr (.inr (.inl k3))
    · simp only [if_neg k3, Bool.and_eq_true] at h
      have h := h.2
      simp [tail2] at h
      omega
set_option maxRecDepth 20000 in
set_option maxHeartbeats 8000000 in
theorem FFits_pure (f : Fd) (s : Str) (hf : f.cases'.length ≤ maxLen) : PL.Pure Tryz.prog 123 [fld f, .str s] (.bool (fitsF f s)) := by
  have hR := Right_pure f hf
  have hT := Text_pure s
  have hC := ConStr_pure f.cases' s hf
  unfold fitsF
  cases hr : rightF f
  · rw [hr] at hR
    refine PL.Pure.of_v Tryz.func123 (by decide) rfl Tryz.ntmps123 Tryz.results123 (by simp) rfl ?_
    simp only [go_sem, fld]
    refine vCall_of (hR) ?_ ?_ ?_; (focus simp only [go_sem, fld]); (focus simp only [go_sem, fld])
    simp only [go_sem, Bool.false_and]
  · have hk := right_kinds hr
    rw [hr] at hR
    have e41 : decide ((s.length : Int) ≤ 40) = decide ((s.length : Int) < 41) := by rw [Bool.eq_iff_iff]; simp; omega
    rw [e41] at hT
    obtain ⟨a, kind, d, c, w⟩ := f
    simp only at hk hR hT hC ⊢
    rcases hk with rfl | rfl | rfl | rfl
    · refine PL.Pure.of_v Tryz.func123 (by decide) rfl Tryz.ntmps123 Tryz.results123 (by simp) rfl ?_
      simp only [go_sem, fld]
      refine vCall_of (hR) ?_ ?_ ?_; (focus simp only [go_sem, fld]); (focus simp only [go_sem, fld])
      simp only [go_sem]
      rfl
    · refine PL.Pure.of_v Tryz.func123 (by decide) rfl Tryz.ntmps123 Tryz.results123 (by simp) rfl ?_
      simp only [go_sem, fld]
      refine vCall_of (hR) ?_ ?_ ?_; (focus simp only [go_sem, fld]); (focus simp only [go_sem, fld])
      simp only [go_sem]
      refine vCall_of (hT) ?_ ?_ ?_; (focus simp only [go_sem]); (focus simp only [go_sem])
      simp only [go_sem]
      simp
    · refine PL.Pure.of_v Tryz.func123 (by decide) rfl Tryz.ntmps123 Tryz.results123 (by simp) rfl ?_
      simp only [go_sem, fld]
      refine vCall_of (hR) ?_ ?_ ?_; (focus simp only [go_sem, fld]); (focus simp only [go_sem, fld])
      simp only [go_sem]
      refine vCall_of (hC) ?_ ?_ ?_; (focus simp only [go_sem, strs]); (focus simp only [go_sem, strs])
      simp only [go_sem]
      simp
    · refine PL.Pure.of_v Tryz.func123 (by decide) rfl Tryz.ntmps123 Tryz.results123 (by simp) rfl ?_
      simp only [go_sem, fld]
      refine vCall_of (hR) ?_ ?_ ?_; (focus simp only [go_sem, fld]); (focus simp only [go_sem, fld])
      simp only [go_sem]
      refine vCall_of (hT) ?_ ?_ ?_; (focus simp only [go_sem]); (focus simp only [go_sem])
      simp only [go_sem]
      simp
end Go.Proofs.YtnadlkjmdimjkaaGreat

set_option linter.unusedSimpArgs false
set_option linter.unusedVariables false
set_option linter.unusedSimpArgs false
set_option linter.unusedVariables false
namespace Go.Proofs.YtnadlkjmdimjkaaGreat
open Go.PL
theorem placeI_neg {l : List Rf} {r : Rf} (h : placeI l r < 0) : r ∉ l := by
  unfold placeI idx at h
  cases hf : l.findIdx? fun a => decide (r = a) with
  | none =>
    rw [List.findIdx?_eq_none_iff] at hf
    intro hm
    have := hf r hm
    simp at this
  | some i => rw [hf] at h; simp at h; omega
theorem placeI_pos {l : List Rf} {r : Rf} (h : ¬ placeI l r < 0) : ∃ g : Nat, placeI l r = (g : Int) ∧ g < l.length ∧ l.getD g default = r := by
  unfold placeI idx at h ⊢
  cases hf : l.findIdx? fun a => decide (r = a) with
  | none => rw [hf] at h; exact absurd (by decide) h
  | some i =>
    rw [List.findIdx?_eq_some_iff_getElem] at hf
    obtain ⟨h1, h2, _⟩ := hf
    refine ⟨i, rfl, h1, ?_⟩
    rw [getD_lt h1]
    simpa using (of_decide_eq_true h2).symm
def awM : Ln := ⟨9, ⟨1, [], [113, 116, 121]⟩, [117, 110, 105, 116], [98, 111, 120], 12, default, [], []⟩
end Go.Proofs.YtnadlkjmdimjkaaGreat

set_option linter.unusedSimpArgs false
set_option linter.unusedVariables false
set_option linter.unusedSimpArgs false
set_option linter.unusedVariables false
namespace Go.Proofs.YtnadlkjmdimjkaaGreat
open Go.PL
set_option maxRecDepth 20000 in
set_option maxHeartbeats 8000000 in
theorem fitAll_pure (f : Fd) (l : List Str) (hf : f.cases'.length ≤ maxLen) (hl : l.length ≤ maxLen) : PL.Pure Tryz.prog 215 [fld f, strs l] (.bool (l.all (fitsF f))) := by
  refine PL.Pure.of_v Tryz.func215 (by decide) rfl Tryz.ntmps215 Tryz.results215 (by simp) rfl ?_
  simp only [go_sem, fld, strs]
  refine vLoopM (ι := { x : Nat // x ≤ (l).length ∧ (∀ j, j < x → fitsF f (l.getD j []) = true) }) 18 (fun x => [(2, .ptr 2 0), (7, strs l), (8, .int .i64 (l.length : Int)), (9, .int .i64 (x.1 : Int))]) (fun x => [(2, fcells f, false)]) (fun x => []) (fun x => (l).length - x.1) ⟨0, Nat.zero_le _, fun j hj => absurd hj (Nat.not_lt_zero j)⟩ ⟨rfl, (forall_cons rfl (forall_cons rfl (forall_cons rfl (forall_cons rfl forall_nil)))), (forall_cons ⟨rfl, rfl⟩ forall_nil), forall_nil⟩ (fun x => ⟨(forall_cons rfl (forall_cons rfl (forall_cons rfl (forall_cons rfl forall_nil)))), (forall_cons rfl forall_nil)⟩) (fun x => ?_); obtain ⟨k, hk, hI⟩ := x; simp only at hk hI ⊢
  by_cases h : (k : Int) < (l.length : Int)
  · (have hka : k < (l).length := by omega); (have w1 := w64s hka (hl)); (have i1 : (0 : Int) ≤ (k : Int) := by omega)
    have hF := FFits_pure f (l.getD k []) hf
    cases hq : fitsF f (l.getD k [])
    · rw [hq] at hF
      have hz := all_false (p := fitsF f) hka hq
      simp only [go_sem, strs, h, getD_str hka, i1, fcells]
      refine vCall_of (hF) ?_ ?_ ?_; (focus simp only [go_sem, fld]); (focus simp only [go_sem, fld])
      simp only [go_sem, hz]
    · rw [hq] at hF
      simp only [go_sem, strs, h, getD_str hka, i1, fcells]
      refine vCall_of (hF) ?_ ?_ ?_; (focus simp only [go_sem, fld]); (focus simp only [go_sem, fld])
      simp only [go_sem, w1]
      exact ⟨⟨k + 1, by (try simp only); omega, below_succ hI hq⟩, by show (l).length - (k + 1) < (l).length - k; omega, ⟨rfl, (forall_cons rfl (forall_cons rfl (forall_cons rfl (forall_cons rfl forall_nil)))), (forall_cons ⟨rfl, rfl⟩ forall_nil), forall_nil⟩⟩
  · have hz := all_true (p := fitsF f) (d := []) (l := l) (fun j hj => hI j (by omega))
    simp only [go_sem, h, hz]
set_option maxRecDepth 20000 in
set_option maxHeartbeats 8000000 in
theorem DFits_pure (f : Fd) (e : En) (hl : f.cases'.length ≤ maxLen) (he : e.l.length ≤ maxLen) : PL.Pure Tryz.prog 159 [fld f, ent e] (.bool (fitsE f e)) := by
  have hR := Right_pure f hl
  have hA := fitAll_pure f e.l hl he
  cases hr : rightF f
  · rw [hr] at hR
    refine PL.Pure.of_v Tryz.func159 (by decide) rfl Tryz.ntmps159 Tryz.results159 (by simp) rfl ?_
    simp only [go_sem, fld, ent]
    refine vCall_of (hR) ?_ ?_ ?_; (focus simp only [go_sem, fld]); (focus simp only [go_sem, fld])
    simp only [go_sem, fitsE, hr, Bool.false_and]
  · rw [hr] at hR
    by_cases ha : e.at' = f.at'
    · have ha' := decide_eq_true ha
      by_cases h1 : f.kind = 1
      · have k1 : (f.kind == 1) = true := by rw [h1]; rfl
        have hx : fitsE f e = fitsN e := by simp only [fitsE, hr, ha', Bool.and_self, Bool.true_and, h1, if_true]
        rw [hx]
        refine PL.Pure.of_v Tryz.func159 (by decide) rfl Tryz.ntmps159 Tryz.results159 (by simp) rfl ?_
        simp only [go_sem, fld, ent]
        refine vCall_of (hR) ?_ ?_ ?_; (focus simp only [go_sem, fld]); (focus simp only [go_sem, fld])
        simp only [go_sem, ref_fold, ha', k1]
        repeat' (first | (refine vGuard_t (fun h => ?_) (fun h => ?_) <;> (try simp only [go_sem, h])) | (refine vGuard_f (fun h => ?_) (fun h => ?_) <;> (try simp only [go_sem, h])) | (refine vCond_b (fun h => ?_) (fun h => ?_) <;> (try simp only [go_sem, h])) | ((refine vDrawQ (by kernel_rfl) (by kernel_rfl) ?_); (try simp only [go_sem])))
        all_goals (simp_all [fitsN]; try (first | omega | (rw [decide_eq_true (show (-4503599627370497 : Int) < e.n by omega), decide_eq_true (show e.n < 4503599627370497 by omega)]; simp)))
      · have k1 : (f.kind == 1) = false := beq_eq_false_iff_ne.2 h1
        have hx : fitsE f e = (cntOk f e && fitsT f e) := by simp only [fitsE, hr, ha', Bool.and_self, Bool.true_and, h1, if_false]
        rw [hx]
        by_cases hn : e.n = 0
        · have n1 : (e.n != 0) = false := by rw [hn]; rfl
          by_cases h4 : f.kind = 4
          · have k4 : (f.kind == 4) = true := by rw [h4]; rfl
            have hx2 : (cntOk f e && fitsT f e) = (decide ((e.l.length : Int) ≤ 400) && e.l.all (fitsF f)) := by
              simp only [cntOk, fitsT, h4, if_true, hn, decide_true, Bool.and_true]
              congr 1
              rw [Bool.eq_iff_iff]; simp
            rw [hx2]
            by_cases h5 : (e.l.length : Int) ≤ 400
            · refine PL.Pure.of_v Tryz.func159 (by decide) rfl Tryz.ntmps159 Tryz.results159 (by simp) rfl ?_
              simp only [go_sem, fld, ent]
              refine vCall_of (hR) ?_ ?_ ?_; (focus simp only [go_sem, fld]); (focus simp only [go_sem, fld])
              simp only [go_sem, ref_fold, ha', k1, n1, k4, h5]
              refine vCall_of (hA) ?_ ?_ ?_; (focus simp only [go_sem, fld, strs]); (focus simp only [go_sem, fld, strs])
              simp only [go_sem, decide_eq_true h5, Bool.true_and]
            · refine PL.Pure.of_v Tryz.func159 (by decide) rfl Tryz.ntmps159 Tryz.results159 (by simp) rfl ?_
              simp only [go_sem, fld, ent]
              refine vCall_of (hR) ?_ ?_ ?_; (focus simp only [go_sem, fld]); (focus simp only [go_sem, fld])
              simp only [go_sem, ref_fold, ha', k1, n1, k4, h5, Bool.false_and]
          · have k4 : (f.kind == 4) = false := beq_eq_false_iff_ne.2 h4
            have hx2 : (cntOk f e && fitsT f e) = (((e.l.length : Int) == 1) && e.l.all (fitsF f)) := by
              simp only [cntOk, fitsT, h4, if_false, hn, decide_true, Bool.and_true]
              congr 1
            rw [hx2]
            cases h5 : (e.l.length : Int) == 1
            · refine PL.Pure.of_v Tryz.func159 (by decide) rfl Tryz.ntmps159 Tryz.results159 (by simp) rfl ?_
              simp only [go_sem, fld, ent]
              refine vCall_of (hR) ?_ ?_ ?_; (focus simp only [go_sem, fld]); (focus simp only [go_sem, fld])
              simp only [go_sem, ref_fold, ha', k1, n1, k4, h5, Bool.false_and]
            · refine PL.Pure.of_v Tryz.func159 (by decide) rfl Tryz.ntmps159 Tryz.results159 (by simp) rfl ?_
              simp only [go_sem, fld, ent]
              refine vCall_of (hR) ?_ ?_ ?_; (focus simp only [go_sem, fld]); (focus simp only [go_sem, fld])
              simp only [go_sem, ref_fold, ha', k1, n1, k4, h5]
              refine vCall_of (hA) ?_ ?_ ?_; (focus simp only [go_sem, fld, strs]); (focus simp only [go_sem, fld, strs])
              simp only [go_sem, Bool.true_and]
        · have n1 : (e.n != 0) = true := bne_iff_ne.2 hn
          have hx2 : (cntOk f e && fitsT f e) = false := by simp [fitsT, hn]
          rw [hx2]
          refine PL.Pure.of_v Tryz.func159 (by decide) rfl Tryz.ntmps159 Tryz.results159 (by simp) rfl ?_
          simp only [go_sem, fld, ent]
          refine vCall_of (hR) ?_ ?_ ?_; (focus simp only [go_sem, fld]); (focus simp only [go_sem, fld])
          simp only [go_sem, ref_fold, ha', k1, n1]
    · have ha' := decide_eq_false ha
      have hx : fitsE f e = false := by simp only [fitsE, ha', Bool.and_false, Bool.false_and]
      rw [hx]
      refine PL.Pure.of_v Tryz.func159 (by decide) rfl Tryz.ntmps159 Tryz.results159 (by simp) rfl ?_
      simp only [go_sem, fld, ent]
      refine vCall_of (hR) ?_ ?_ ?_; (focus simp only [go_sem, fld]); (focus simp only [go_sem, fld])
      simp only [go_sem, ref_fold, ha']
theorem getD_ent' {l : List En} {i : Nat} (h : i < l.length) : (l.map ent).getD i .any = ent (l.getD i default) := getD_map h
theorem getD_row' {l : List Rw} {i : Nat} (h : i < l.length) : (l.map row).getD i .any = row (l.getD i default) := getD_map h
set_option maxRecDepth 20000 in
set_option maxHeartbeats 8000000 in
theorem rightEntries_pure (l : List Fd) (es : List En) (hl : l.length ≤ maxLen) (hes : es.length ≤ maxLen) (hl' : ∀ f ∈ l, f.cases'.length ≤ maxLen) (hes' : ∀ e ∈ es, e.l.length ≤ maxLen) : PL.Pure Tryz.prog 84 [flds l, ents es] (.bool (entriesB l es)) := by
  by_cases he : l.length = es.length
  · have he' : ((l.length : Int) != (es.length : Int)) = false := by rw [he]; exact bne_self_eq_false _
    have hx : entriesB l es = (List.range l.length).all (fun i => fitsE (l.getD i default) (es.getD i default)) := by simp only [entriesB, he, decide_true, Bool.true_and]
    rw [hx]
    refine PL.Pure.of_v Tryz.func84 (by decide) rfl Tryz.ntmps84 Tryz.results84 (by simp) rfl ?_
    simp only [go_sem, flds, ents, he']
    refine vLoopM (ι := { x : Nat // x ≤ (l).length ∧ (∀ j, j < x → fitsE (l.getD j default) (es.getD j default) = true) }) 27 (fun x => [(1, ents es), (12, flds l), (13, .int .i64 (l.length : Int)), (14, .int .i64 (x.1 : Int))]) (fun x => []) (fun x => []) (fun x => (l).length - x.1) ⟨0, Nat.zero_le _, fun j hj => absurd hj (Nat.not_lt_zero j)⟩ ⟨rfl, (forall_cons rfl (forall_cons rfl (forall_cons rfl (forall_cons rfl forall_nil)))), forall_nil, forall_nil⟩ (fun x => ⟨(forall_cons rfl (forall_cons rfl (forall_cons rfl (forall_cons rfl forall_nil)))), forall_nil⟩) (fun x => ?_); obtain ⟨k, hk, hI⟩ := x; simp only at hk hI ⊢
    by_cases h : (k : Int) < (l.length : Int)
    · (have hka : k < (l).length := by omega); (have w1 := w64s hka (hl)); (have i1 : (0 : Int) ≤ (k : Int) := by omega)
      have hkb : k < es.length := by omega
      have i2 : (k : Int) < (es.length : Int) := by omega
      have hF := DFits_pure (l.getD k default) (es.getD k default) (hl' _ (getD_mem' hka)) (hes' _ (getD_mem' hkb))
      cases hf : fitsE (l.getD k default) (es.getD k default)
      · rw [hf] at hF
        have hz := rall_false (p := fun i => fitsE (l.getD i default) (es.getD i default)) hka hf
        simp only [go_sem, flds, ents, h, i1, getD_fld hka, fld]
        refine vDrawQ (by kernel_rfl) (by kernel_rfl) ?_
        simp only [go_sem, getD_ent' hkb, ent, i1, i2]
        refine vCall_of (hF) ?_ ?_ ?_; (focus simp only [go_sem, fld, ent]); (focus simp only [go_sem, fld, ent])
        simp only [go_sem, hz]
      · rw [hf] at hF
        simp only [go_sem, flds, ents, h, i1, getD_fld hka, fld]
        refine vDrawQ (by kernel_rfl) (by kernel_rfl) ?_
        simp only [go_sem, getD_ent' hkb, ent, i1, i2]
        refine vCall_of (hF) ?_ ?_ ?_; (focus simp only [go_sem, fld, ent]); (focus simp only [go_sem, fld, ent])
        simp only [go_sem, w1]
        exact ⟨⟨k + 1, by (try simp only); omega, below_succ hI hf⟩, by show (l).length - (k + 1) < (l).length - k; omega, ⟨rfl, (forall_cons rfl (forall_cons rfl (forall_cons rfl (forall_cons rfl forall_nil)))), forall_nil, forall_nil⟩⟩
    · have hz := rall_true (p := fun i => fitsE (l.getD i default) (es.getD i default)) (n := l.length) (fun j hj => hI j (by omega))
      simp only [go_sem, h, hz]
  · have he' : ((l.length : Int) != (es.length : Int)) = true := bne_iff_ne.2 (by omega)
    have hx : entriesB l es = false := by simp only [entriesB, he, decide_false, Bool.false_and]
    rw [hx]
    refine PL.Pure.of_v Tryz.func84 (by decide) rfl Tryz.ntmps84 Tryz.results84 (by simp) rfl ?_
    simp only [go_sem, flds, ents, he']
end Go.Proofs.YtnadlkjmdimjkaaGreat
