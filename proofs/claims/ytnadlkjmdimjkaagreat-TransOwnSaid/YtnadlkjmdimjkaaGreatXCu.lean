/- Contracts of functions and laws of this seat, each for every input that it names: lemmas of the proof. -/
import Derived.Test.YtnadlkjmdimjkaaGreatXCq
import Derived.Test.YtnadlkjmdimjkaaGreatXCc
set_option linter.unusedSimpArgs false
set_option linter.unusedVariables false
set_option linter.unusedSimpArgs false
set_option linter.unusedVariables false
namespace Go.Proofs.YtnadlkjmdimjkaaGreat
open Go.PL
theorem joinI_eq {d f : Int} (h1 : 2 ≤ f) (h2 : f ≤ 1000) (hd : fitsI d = true) : IntKind.i64.wrap (d * f) = d * f ∧ (fitsI (d * f) = true → joinI 0 d f = (d * f, 0)) ∧ (fitsI (d * f) = false → (joinI 0 d f).2 ≠ 0) := by
  obtain ⟨d1, d2⟩ := fitsI_iff.1 hd
  have b1 : d * f ≤ 4503599627370496 * f := Int.mul_le_mul_of_nonneg_right d2 (by omega)
  have b2 : (-4503599627370496) * f ≤ d * f := Int.mul_le_mul_of_nonneg_right d1 (by omega)
  have hw : IntKind.i64.wrap (d * f) = d * f := wrap_id (by omega)
  have hw2 : IntKind.i64.wrap (0 + IntKind.i64.wrap (f * d)) = d * f := by rw [Int.mul_comm f d, hw, Int.zero_add, hw]
  obtain ⟨m1, m2, m3, m4⟩ := mostOf_spec (w := f) (by omega)
  refine ⟨hw, fun hf => ?_, fun hf => ?_⟩
  · obtain ⟨p1, p2⟩ := fitsI_iff.1 hf
    unfold joinI
    rw [if_neg (fun h => h ⟨h1, h2⟩), hw2, if_neg, if_pos hf]
    rintro (h | h)
    · have : d * f ≤ (-(mostOf f + 1)) * f := Int.mul_le_mul_of_nonneg_right (by omega) (by omega)
      rw [Int.neg_mul] at this
      omega
    · have : (mostOf f + 1) * f ≤ d * f := Int.mul_le_mul_of_nonneg_right (by omega) (by omega)
      omega
  · unfold joinI
    rw [if_neg (fun h => h ⟨h1, h2⟩), hw2]
    split
    · simp
    · rw [if_neg (by rw [hf]; simp)]; simp
theorem right_fac {x : Ln} (h : rightLn x = true) (hk : x.kind = 6 ∨ x.kind = 9) : 2 ≤ x.fac ∧ x.fac ≤ 1000 := by
  have h23 : ¬ (x.kind = 2 ∨ x.kind = 3) := by omega
  have h8 : ¬ x.kind = 8 := by omega
  unfold rightLn at h
  rw [if_neg h23, if_neg h8, if_pos hk] at h
  simp only [Bool.and_eq_true, decide_eq_true_eq] at h
  omega
set_option maxRecDepth 20000 in
set_option maxHeartbeats 32000000 in
theorem ROver_pure (x : Ln) (o : Opn) (hx : OkLn x) : PL.Pure Tryz.prog 187 [lns x, opv o] (opb (overM x o)) := by
  have hR := RLRight_pure x hx
  unfold overM
  cases hlr : rightLn x
  · rw [hlr] at hR
    refine PL.Pure.of_v Tryz.func187 (by decide) rfl Tryz.ntmps187 Tryz.results187 (by simp) (opb_dids _) ?_
    simp only [go_sem, lns, opv]
    refine vCall_of (hR) ?_ ?_ ?_; (focus simp only [go_sem, lns]); (focus simp only [go_sem, lns])
    simp only [go_sem, if_true, opb, opv_default]
    try rfl
  have hk := (rightLn_kind hlr).1
  have hfac := right_fac hlr
  rw [hlr] at hR
  simp only [Bool.true_eq_false, if_false]
  by_cases hp : o.kind ≠ 3 ∧ o.kind ≠ 4
  · rw [if_pos hp]
    have e1 : (o.kind != 3) = true := by simpa using hp.1
    have e2 : (o.kind != 4) = true := by simpa using hp.2
    refine PL.Pure.of_v Tryz.func187 (by decide) rfl Tryz.ntmps187 Tryz.results187 (by simp) (opb_dids _) ?_
    simp only [go_sem, lns, opv]
    refine vCall_of (hR) ?_ ?_ ?_; (focus simp only [go_sem, lns]); (focus simp only [go_sem, lns])
    simp only [go_sem, e1, e2, opb, opv]
  rw [if_neg hp]
  have hG := RGoes_pure x
  have hC := RComes_pure x
  have hI := RAt21_pure (goesR x) o.at' (by have := goesR_len x; rw [maxLen_eq]; omega)
  have pl : (o.kind != 3) = false ∧ (o.kind != 4) = true ∧ o.kind = 3 ∨ (o.kind != 3) = true ∧ (o.kind != 4) = false ∧ o.kind = 4 := by
    by_cases k3 : o.kind = 3
    · left; simp [k3]
    · right
      have k4 : o.kind = 4 := Decidable.byContradiction fun h => hp ⟨k3, h⟩
      simp [k4]
  by_cases hi : placeI (goesR x) o.at' < 0
  · rw [if_pos hi]
    rcases pl with ⟨e1, e2, _⟩ | ⟨e1, e2, _⟩
    all_goals
      refine PL.Pure.of_v Tryz.func187 (by decide) rfl Tryz.ntmps187 Tryz.results187 (by simp) (opb_dids _) ?_
      simp only [go_sem, lns, opv]
      refine vCall_of (hR) ?_ ?_ ?_; (focus simp only [go_sem, lns]); (focus simp only [go_sem, lns])
      simp only [go_sem, e1, e2, lns]
      refine vCall_of (hG) ?_ ?_ ?_; (focus simp only [go_sem, lns]); (focus simp only [go_sem, lns])
      simp only [go_sem, refs, ref]
      refine vCall_of (hI) ?_ ?_ ?_; (focus simp only [go_sem, refs, ref]); (focus simp only [go_sem, refs, ref])
      simp only [go_sem, hi, opb, opv]
  rw [if_neg hi]
  have hV := RCase_pure x.fo o.text (by have := hx.f; rw [maxLen_eq]; omega)
  obtain ⟨kind, at', nm, ot, fac, fd, fo, ba⟩ := x
  simp only at hk hV hfac
  rcases hk with rfl | rfl | rfl | rfl | rfl | rfl | rfl | rfl | rfl | rfl
  · skip
    have hne : (comesR ⟨1, at', nm, ot, fac, fd, fo, ba⟩).length ≠ 0 := by unfold comesR; simp
    have hc0 : 0 < (comesR ⟨1, at', nm, ot, fac, fd, fo, ba⟩).length := by omega
    have hc1 : (0 : Int) < ((comesR ⟨1, at', nm, ot, fac, fd, fo, ba⟩).length : Int) := by omega
    have hc2 : (((comesR ⟨1, at', nm, ot, fac, fd, fo, ba⟩).map ref).getD 0 .any) = ref ((comesR ⟨1, at', nm, ot, fac, fd, fo, ba⟩).getD 0 default) := getD_ref hc0
    have hb : becomeM ⟨1, at', nm, ot, fac, fd, fo, ba⟩ o = (o, true) := by simp [becomeM]
    rw [hb]
    simp only [Bool.true_eq_false, if_false]
    generalize comesR ⟨1, at', nm, ot, fac, fd, fo, ba⟩ = comes at *
    rcases pl with ⟨e1, e2, _⟩ | ⟨e1, e2, _⟩
    all_goals
      refine PL.Pure.of_v Tryz.func187 (by decide) rfl Tryz.ntmps187 Tryz.results187 (by simp) (opb_dids _) ?_
      simp only [go_sem, lns, opv]
      refine vCall_of (hR) ?_ ?_ ?_; (focus simp only [go_sem, lns]); (focus simp only [go_sem, lns])
      simp only [go_sem, e1, e2, lns]
      refine vCall_of (hG) ?_ ?_ ?_; (focus simp only [go_sem, lns]); (focus simp only [go_sem, lns])
      simp only [go_sem, refs, ref]
      refine vCall_of (hI) ?_ ?_ ?_; (focus simp only [go_sem, refs, ref]); (focus simp only [go_sem, refs, ref])
      simp only [go_sem, hi, lns]
      refine vCall_of (hC) ?_ ?_ ?_; (focus simp only [go_sem, lns]); (focus simp only [go_sem, lns])
      simp only [go_sem, refs, hc1, List.length_map, hc2, ref, opb, opv, movedO]
  · exfalso
    have : goesR ⟨2, at', nm, ot, fac, fd, fo, ba⟩ = [] := by simp [goesR]
    rw [this] at hi
    exact hi (by show (-1 : Int) < 0; omega)
  · have hb : becomeM ⟨3, at', nm, ot, fac, fd, fo, ba⟩ o = (o, false) := by simp [becomeM]
    rw [hb]
    simp only [if_true]
    rcases pl with ⟨e1, e2, _⟩ | ⟨e1, e2, _⟩
    all_goals
      refine PL.Pure.of_v Tryz.func187 (by decide) rfl Tryz.ntmps187 Tryz.results187 (by simp) (opb_dids _) ?_
      simp only [go_sem, lns, opv]
      refine vCall_of (hR) ?_ ?_ ?_; (focus simp only [go_sem, lns]); (focus simp only [go_sem, lns])
      simp only [go_sem, e1, e2, lns]
      refine vCall_of (hG) ?_ ?_ ?_; (focus simp only [go_sem, lns]); (focus simp only [go_sem, lns])
      simp only [go_sem, refs, ref]
      refine vCall_of (hI) ?_ ?_ ?_; (focus simp only [go_sem, refs, ref]); (focus simp only [go_sem, refs, ref])
      simp only [go_sem, hi, lns, opb, opv_default]
      try rfl
  · skip
    have hne : (comesR ⟨4, at', nm, ot, fac, fd, fo, ba⟩).length ≠ 0 := by unfold comesR; simp
    have hc0 : 0 < (comesR ⟨4, at', nm, ot, fac, fd, fo, ba⟩).length := by omega
    have hc1 : (0 : Int) < ((comesR ⟨4, at', nm, ot, fac, fd, fo, ba⟩).length : Int) := by omega
    have hc2 : (((comesR ⟨4, at', nm, ot, fac, fd, fo, ba⟩).map ref).getD 0 .any) = ref ((comesR ⟨4, at', nm, ot, fac, fd, fo, ba⟩).getD 0 default) := getD_ref hc0
    have hb : becomeM ⟨4, at', nm, ot, fac, fd, fo, ba⟩ o = (o, true) := by simp [becomeM]
    rw [hb]
    simp only [Bool.true_eq_false, if_false]
    generalize comesR ⟨4, at', nm, ot, fac, fd, fo, ba⟩ = comes at *
    rcases pl with ⟨e1, e2, _⟩ | ⟨e1, e2, _⟩
    all_goals
      refine PL.Pure.of_v Tryz.func187 (by decide) rfl Tryz.ntmps187 Tryz.results187 (by simp) (opb_dids _) ?_
      simp only [go_sem, lns, opv]
      refine vCall_of (hR) ?_ ?_ ?_; (focus simp only [go_sem, lns]); (focus simp only [go_sem, lns])
      simp only [go_sem, e1, e2, lns]
      refine vCall_of (hG) ?_ ?_ ?_; (focus simp only [go_sem, lns]); (focus simp only [go_sem, lns])
      simp only [go_sem, refs, ref]
      refine vCall_of (hI) ?_ ?_ ?_; (focus simp only [go_sem, refs, ref]); (focus simp only [go_sem, refs, ref])
      simp only [go_sem, hi, lns]
      refine vCall_of (hC) ?_ ?_ ?_; (focus simp only [go_sem, lns]); (focus simp only [go_sem, lns])
      simp only [go_sem, refs, hc1, List.length_map, hc2, ref, opb, opv, movedO]
  · skip
    have hne : (comesR ⟨5, at', nm, ot, fac, fd, fo, ba⟩).length ≠ 0 := by unfold comesR; simp
    have hc0 : 0 < (comesR ⟨5, at', nm, ot, fac, fd, fo, ba⟩).length := by omega
    have hc1 : (0 : Int) < ((comesR ⟨5, at', nm, ot, fac, fd, fo, ba⟩).length : Int) := by omega
    have hc2 : (((comesR ⟨5, at', nm, ot, fac, fd, fo, ba⟩).map ref).getD 0 .any) = ref ((comesR ⟨5, at', nm, ot, fac, fd, fo, ba⟩).getD 0 default) := getD_ref hc0
    have hb : becomeM ⟨5, at', nm, ot, fac, fd, fo, ba⟩ o = (o, true) := by simp [becomeM]
    rw [hb]
    simp only [Bool.true_eq_false, if_false]
    generalize comesR ⟨5, at', nm, ot, fac, fd, fo, ba⟩ = comes at *
    rcases pl with ⟨e1, e2, _⟩ | ⟨e1, e2, _⟩
    all_goals
      refine PL.Pure.of_v Tryz.func187 (by decide) rfl Tryz.ntmps187 Tryz.results187 (by simp) (opb_dids _) ?_
      simp only [go_sem, lns, opv]
      refine vCall_of (hR) ?_ ?_ ?_; (focus simp only [go_sem, lns]); (focus simp only [go_sem, lns])
      simp only [go_sem, e1, e2, lns]
      refine vCall_of (hG) ?_ ?_ ?_; (focus simp only [go_sem, lns]); (focus simp only [go_sem, lns])
      simp only [go_sem, refs, ref]
      refine vCall_of (hI) ?_ ?_ ?_; (focus simp only [go_sem, refs, ref]); (focus simp only [go_sem, refs, ref])
      simp only [go_sem, hi, lns]
      refine vCall_of (hC) ?_ ?_ ?_; (focus simp only [go_sem, lns]); (focus simp only [go_sem, lns])
      simp only [go_sem, refs, hc1, List.length_map, hc2, ref, opb, opv, movedO]
  · skip
    have hne : (comesR ⟨6, at', nm, ot, fac, fd, fo, ba⟩).length ≠ 0 := by unfold comesR; simp
    have hc0 : 0 < (comesR ⟨6, at', nm, ot, fac, fd, fo, ba⟩).length := by omega
    have hc1 : (0 : Int) < ((comesR ⟨6, at', nm, ot, fac, fd, fo, ba⟩).length : Int) := by omega
    have hc2 : (((comesR ⟨6, at', nm, ot, fac, fd, fo, ba⟩).map ref).getD 0 .any) = ref ((comesR ⟨6, at', nm, ot, fac, fd, fo, ba⟩).getD 0 default) := getD_ref hc0
    have hb : becomeM ⟨6, at', nm, ot, fac, fd, fo, ba⟩ o = (o, decide (o.kind = 3)) := by simp [becomeM]
    rw [hb]
    have hg : goesR ⟨6, at', nm, ot, fac, fd, fo, ba⟩ = [at'] := by simp [goesR]
    have hi1 : (placeI (goesR ⟨6, at', nm, ot, fac, fd, fo, ba⟩) o.at' == 1) = false := by
      rcases placeI_cases (goesR ⟨6, at', nm, ot, fac, fd, fo, ba⟩) o.at' with h | ⟨g, hg1, hg2⟩
      · omega
      · rw [hg] at hg1
        simp at hg1
        rw [hg2, hg1]
        rfl
    generalize goesR ⟨6, at', nm, ot, fac, fd, fo, ba⟩ = goes at *
    generalize comesR ⟨6, at', nm, ot, fac, fd, fo, ba⟩ = comes at *
    rcases pl with ⟨e1, e2, k3⟩ | ⟨e1, e2, k4⟩
    · rw [decide_eq_true k3]
      simp only [Bool.true_eq_false, if_false]
      refine PL.Pure.of_v Tryz.func187 (by decide) rfl Tryz.ntmps187 Tryz.results187 (by simp) (opb_dids _) ?_
      simp only [go_sem, lns, opv]
      refine vCall_of (hR) ?_ ?_ ?_; (focus simp only [go_sem, lns]); (focus simp only [go_sem, lns])
      simp only [go_sem, e1, e2, lns]
      refine vCall_of (hG) ?_ ?_ ?_; (focus simp only [go_sem, lns]); (focus simp only [go_sem, lns])
      simp only [go_sem, refs, ref]
      refine vCall_of (hI) ?_ ?_ ?_; (focus simp only [go_sem, refs, ref]); (focus simp only [go_sem, refs, ref])
      simp only [go_sem, hi, lns]
      refine vCall_of (hC) ?_ ?_ ?_; (focus simp only [go_sem, lns]); (focus simp only [go_sem, lns])
      simp only [go_sem, refs, hc1, List.length_map, hc2, ref, hi1, e1, opb, opv, movedO]
    · rw [decide_eq_false (by omega)]
      simp only [if_true]
      refine PL.Pure.of_v Tryz.func187 (by decide) rfl Tryz.ntmps187 Tryz.results187 (by simp) (opb_dids _) ?_
      simp only [go_sem, lns, opv]
      refine vCall_of (hR) ?_ ?_ ?_; (focus simp only [go_sem, lns]); (focus simp only [go_sem, lns])
      simp only [go_sem, e1, e2, lns]
      refine vCall_of (hG) ?_ ?_ ?_; (focus simp only [go_sem, lns]); (focus simp only [go_sem, lns])
      simp only [go_sem, refs, ref]
      refine vCall_of (hI) ?_ ?_ ?_; (focus simp only [go_sem, refs, ref]); (focus simp only [go_sem, refs, ref])
      simp only [go_sem, hi, lns]
      refine vCall_of (hC) ?_ ?_ ?_; (focus simp only [go_sem, lns]); (focus simp only [go_sem, lns])
      simp only [go_sem, refs, hc1, List.length_map, hc2, ref, hi1, e1, opb, opv_default]
      try rfl
  · skip
    have hne : (comesR ⟨7, at', nm, ot, fac, fd, fo, ba⟩).length ≠ 0 := by unfold comesR; simp
    have hc0 : 0 < (comesR ⟨7, at', nm, ot, fac, fd, fo, ba⟩).length := by omega
    have hc1 : (0 : Int) < ((comesR ⟨7, at', nm, ot, fac, fd, fo, ba⟩).length : Int) := by omega
    have hc2 : (((comesR ⟨7, at', nm, ot, fac, fd, fo, ba⟩).map ref).getD 0 .any) = ref ((comesR ⟨7, at', nm, ot, fac, fd, fo, ba⟩).getD 0 default) := getD_ref hc0
    have hb : becomeM ⟨7, at', nm, ot, fac, fd, fo, ba⟩ o = (o, decide (o.kind = 4)) := by simp [becomeM]
    rw [hb]
    generalize comesR ⟨7, at', nm, ot, fac, fd, fo, ba⟩ = comes at *
    rcases pl with ⟨e1, e2, k3⟩ | ⟨e1, e2, k4⟩
    · rw [decide_eq_false (by omega)]
      simp only [if_true]
      refine PL.Pure.of_v Tryz.func187 (by decide) rfl Tryz.ntmps187 Tryz.results187 (by simp) (opb_dids _) ?_
      simp only [go_sem, lns, opv]
      refine vCall_of (hR) ?_ ?_ ?_; (focus simp only [go_sem, lns]); (focus simp only [go_sem, lns])
      simp only [go_sem, e1, e2, lns]
      refine vCall_of (hG) ?_ ?_ ?_; (focus simp only [go_sem, lns]); (focus simp only [go_sem, lns])
      simp only [go_sem, refs, ref]
      refine vCall_of (hI) ?_ ?_ ?_; (focus simp only [go_sem, refs, ref]); (focus simp only [go_sem, refs, ref])
      simp only [go_sem, hi, lns]
      refine vCall_of (hC) ?_ ?_ ?_; (focus simp only [go_sem, lns]); (focus simp only [go_sem, lns])
      simp only [go_sem, refs, hc1, List.length_map, hc2, ref, e2, opb, opv_default]
      try rfl
    · rw [decide_eq_true k4]
      simp only [Bool.true_eq_false, if_false]
      refine PL.Pure.of_v Tryz.func187 (by decide) rfl Tryz.ntmps187 Tryz.results187 (by simp) (opb_dids _) ?_
      simp only [go_sem, lns, opv]
      refine vCall_of (hR) ?_ ?_ ?_; (focus simp only [go_sem, lns]); (focus simp only [go_sem, lns])
      simp only [go_sem, e1, e2, lns]
      refine vCall_of (hG) ?_ ?_ ?_; (focus simp only [go_sem, lns]); (focus simp only [go_sem, lns])
      simp only [go_sem, refs, ref]
      refine vCall_of (hI) ?_ ?_ ?_; (focus simp only [go_sem, refs, ref]); (focus simp only [go_sem, refs, ref])
      simp only [go_sem, hi, lns]
      refine vCall_of (hC) ?_ ?_ ?_; (focus simp only [go_sem, lns]); (focus simp only [go_sem, lns])
      simp only [go_sem, refs, hc1, List.length_map, hc2, ref, e2, opb, opv, movedO]
  · skip
    have hne : (comesR ⟨8, at', nm, ot, fac, fd, fo, ba⟩).length ≠ 0 := by unfold comesR; simp
    have hc0 : 0 < (comesR ⟨8, at', nm, ot, fac, fd, fo, ba⟩).length := by omega
    have hc1 : (0 : Int) < ((comesR ⟨8, at', nm, ot, fac, fd, fo, ba⟩).length : Int) := by omega
    have hc2 : (((comesR ⟨8, at', nm, ot, fac, fd, fo, ba⟩).map ref).getD 0 .any) = ref ((comesR ⟨8, at', nm, ot, fac, fd, fo, ba⟩).getD 0 default) := getD_ref hc0
    have hb : becomeM ⟨8, at', nm, ot, fac, fd, fo, ba⟩ o = (textO o (convT o fo).1, (convT o fo).2) := by simp [becomeM]
    rw [hb]
    generalize comesR ⟨8, at', nm, ot, fac, fd, fo, ba⟩ = comes at *
    rcases pl with ⟨e1, e2, k3⟩ | ⟨e1, e2, k4⟩
    · have hcv : convT o fo = ([], false) := by unfold convT; rw [if_pos (by omega)]
      rw [hcv]
      simp only [if_true]
      refine PL.Pure.of_v Tryz.func187 (by decide) rfl Tryz.ntmps187 Tryz.results187 (by simp) (opb_dids _) ?_
      simp only [go_sem, lns, opv]
      refine vCall_of (hR) ?_ ?_ ?_; (focus simp only [go_sem, lns]); (focus simp only [go_sem, lns])
      simp only [go_sem, e1, e2, lns]
      refine vCall_of (hG) ?_ ?_ ?_; (focus simp only [go_sem, lns]); (focus simp only [go_sem, lns])
      simp only [go_sem, refs, ref]
      refine vCall_of (hI) ?_ ?_ ?_; (focus simp only [go_sem, refs, ref]); (focus simp only [go_sem, refs, ref])
      simp only [go_sem, hi, lns]
      refine vCall_of (hC) ?_ ?_ ?_; (focus simp only [go_sem, lns]); (focus simp only [go_sem, lns])
      simp only [go_sem, refs, hc1, List.length_map, hc2, ref, e2, opb, opv_default]
      try rfl
    · obtain ⟨id, sch, time, cart, okind, item, oat, delta, has, text, drops⟩ := o
      simp only at k4
      subst k4
      simp only at *
      cases has
      · have hcv : convT ⟨id, sch, time, cart, 4, item, oat, delta, false, text, drops⟩ fo = (text, true) := by simp [convT]
        rw [hcv]
        simp only [Bool.true_eq_false, if_false]
        refine PL.Pure.of_v Tryz.func187 (by decide) rfl Tryz.ntmps187 Tryz.results187 (by simp) (opb_dids _) ?_
        simp only [go_sem, lns, opv]
        refine vCall_of (hR) ?_ ?_ ?_; (focus simp only [go_sem, lns]); (focus simp only [go_sem, lns])
        simp only [go_sem, e1, e2, lns]
        refine vCall_of (hG) ?_ ?_ ?_; (focus simp only [go_sem, lns]); (focus simp only [go_sem, lns])
        simp only [go_sem, refs, ref]
        refine vCall_of (hI) ?_ ?_ ?_; (focus simp only [go_sem, refs, ref]); (focus simp only [go_sem, refs, ref])
        simp only [go_sem, hi, lns]
        refine vCall_of (hC) ?_ ?_ ?_; (focus simp only [go_sem, lns]); (focus simp only [go_sem, lns])
        simp only [go_sem, refs, hc1, List.length_map, hc2, ref, e2, opb, opv, movedO, textO]
      · have hcv : convT ⟨id, sch, time, cart, 4, item, oat, delta, true, text, drops⟩ fo = caseM fo text := by simp [convT]
        rw [hcv]
        clear hcv
        generalize caseM fo text = y at *
        obtain ⟨s, b⟩ := y
        cases b
        · simp only [if_true]
          refine PL.Pure.of_v Tryz.func187 (by decide) rfl Tryz.ntmps187 Tryz.results187 (by simp) (opb_dids _) ?_
          simp only [go_sem, lns, opv]
          refine vCall_of (hR) ?_ ?_ ?_; (focus simp only [go_sem, lns]); (focus simp only [go_sem, lns])
          simp only [go_sem, e1, e2, lns]
          refine vCall_of (hG) ?_ ?_ ?_; (focus simp only [go_sem, lns]); (focus simp only [go_sem, lns])
          simp only [go_sem, refs, ref]
          refine vCall_of (hI) ?_ ?_ ?_; (focus simp only [go_sem, refs, ref]); (focus simp only [go_sem, refs, ref])
          simp only [go_sem, hi, lns]
          refine vCall_of (hC) ?_ ?_ ?_; (focus simp only [go_sem, lns]); (focus simp only [go_sem, lns])
          simp only [go_sem, refs, hc1, List.length_map, hc2, ref, e2, prs]
          refine vCall_of (hV) ?_ ?_ ?_; (focus simp only [go_sem, prs]); (focus simp only [go_sem, prs])
          simp only [go_sem, strb, opb, opv_default]
          try rfl
        · simp only [Bool.true_eq_false, if_false]
          refine PL.Pure.of_v Tryz.func187 (by decide) rfl Tryz.ntmps187 Tryz.results187 (by simp) (opb_dids _) ?_
          simp only [go_sem, lns, opv]
          refine vCall_of (hR) ?_ ?_ ?_; (focus simp only [go_sem, lns]); (focus simp only [go_sem, lns])
          simp only [go_sem, e1, e2, lns]
          refine vCall_of (hG) ?_ ?_ ?_; (focus simp only [go_sem, lns]); (focus simp only [go_sem, lns])
          simp only [go_sem, refs, ref]
          refine vCall_of (hI) ?_ ?_ ?_; (focus simp only [go_sem, refs, ref]); (focus simp only [go_sem, refs, ref])
          simp only [go_sem, hi, lns]
          refine vCall_of (hC) ?_ ?_ ?_; (focus simp only [go_sem, lns]); (focus simp only [go_sem, lns])
          simp only [go_sem, refs, hc1, List.length_map, hc2, ref, e2, prs]
          refine vCall_of (hV) ?_ ?_ ?_; (focus simp only [go_sem, prs]); (focus simp only [go_sem, prs])
          simp only [go_sem, strb, opb, opv, movedO, textO]
  · skip
    have hne : (comesR ⟨9, at', nm, ot, fac, fd, fo, ba⟩).length ≠ 0 := by unfold comesR; simp
    have hc0 : 0 < (comesR ⟨9, at', nm, ot, fac, fd, fo, ba⟩).length := by omega
    have hc1 : (0 : Int) < ((comesR ⟨9, at', nm, ot, fac, fd, fo, ba⟩).length : Int) := by omega
    have hc2 : (((comesR ⟨9, at', nm, ot, fac, fd, fo, ba⟩).map ref).getD 0 .any) = ref ((comesR ⟨9, at', nm, ot, fac, fd, fo, ba⟩).getD 0 default) := getD_ref hc0
    have hb : becomeM ⟨9, at', nm, ot, fac, fd, fo, ba⟩ o = (deltaO o (mergeD o (placeI (goesR ⟨9, at', nm, ot, fac, fd, fo, ba⟩) o.at') fac).1, (mergeD o (placeI (goesR ⟨9, at', nm, ot, fac, fd, fo, ba⟩) o.at') fac).2) := by simp [becomeM]
    rw [hb]
    have hg : (goesR ⟨9, at', nm, ot, fac, fd, fo, ba⟩).length = 2 := by simp [goesR]
    have hc3 := placeI_cases (goesR ⟨9, at', nm, ot, fac, fd, fo, ba⟩) o.at'
    have hF := far_pure o.delta
    have hF2 := far_pure (o.delta * fac)
    obtain ⟨f1, f2⟩ := hfac (.inr rfl)
    generalize comesR ⟨9, at', nm, ot, fac, fd, fo, ba⟩ = comes at *
    generalize goesR ⟨9, at', nm, ot, fac, fd, fo, ba⟩ = goes at *
    generalize placeI goes o.at' = pi at *
    have hpi : pi = 0 ∨ pi = 1 := by
      rcases hc3 with h | ⟨g, h1, h2⟩
      · omega
      · omega
    have hd0 : deltaO o o.delta = o := by cases o; rfl
    rcases hpi with rfl | rfl
    · rcases pl with ⟨e1, e2, k3⟩ | ⟨e1, e2, k4⟩
      · have hmg : mergeD o 0 fac = (o.delta, true) := by simp [mergeD, k3]
        rw [hmg]
        simp only [Bool.true_eq_false, if_false, hd0]
        refine PL.Pure.of_v Tryz.func187 (by decide) rfl Tryz.ntmps187 Tryz.results187 (by simp) (opb_dids _) ?_
        simp only [go_sem, lns, opv]
        refine vCall_of (hR) ?_ ?_ ?_; (focus simp only [go_sem, lns]); (focus simp only [go_sem, lns])
        simp only [go_sem, e1, e2, lns]
        refine vCall_of (hG) ?_ ?_ ?_; (focus simp only [go_sem, lns]); (focus simp only [go_sem, lns])
        simp only [go_sem, refs, ref]
        refine vCall_of (hI) ?_ ?_ ?_; (focus simp only [go_sem, refs, ref]); (focus simp only [go_sem, refs, ref])
        simp only [go_sem, lns]
        refine vCall_of (hC) ?_ ?_ ?_; (focus simp only [go_sem, lns]); (focus simp only [go_sem, lns])
        simp only [go_sem, refs, hc1, List.length_map, hc2, ref, e1, opb, opv, movedO]
      · have hmg : mergeD o 0 fac = (0, false) := by simp [mergeD, k4]
        rw [hmg]
        simp only [if_true]
        refine PL.Pure.of_v Tryz.func187 (by decide) rfl Tryz.ntmps187 Tryz.results187 (by simp) (opb_dids _) ?_
        simp only [go_sem, lns, opv]
        refine vCall_of (hR) ?_ ?_ ?_; (focus simp only [go_sem, lns]); (focus simp only [go_sem, lns])
        simp only [go_sem, e1, e2, lns]
        refine vCall_of (hG) ?_ ?_ ?_; (focus simp only [go_sem, lns]); (focus simp only [go_sem, lns])
        simp only [go_sem, refs, ref]
        refine vCall_of (hI) ?_ ?_ ?_; (focus simp only [go_sem, refs, ref]); (focus simp only [go_sem, refs, ref])
        simp only [go_sem, lns]
        refine vCall_of (hC) ?_ ?_ ?_; (focus simp only [go_sem, lns]); (focus simp only [go_sem, lns])
        simp only [go_sem, refs, hc1, List.length_map, hc2, ref, e1, opb, opv_default]
        try rfl
    · cases hd : fitsI o.delta
      · rw [hd] at hF
        have hmg : (mergeD o 1 fac).2 = false := by
          unfold mergeD
          rw [hd]
          split
          · rfl
          · simp
        rw [if_pos hmg]
        rcases pl with ⟨e1, e2, k3⟩ | ⟨e1, e2, k4⟩
        all_goals
          refine PL.Pure.of_v Tryz.func187 (by decide) rfl Tryz.ntmps187 Tryz.results187 (by simp) (opb_dids _) ?_
          simp only [go_sem, lns, opv]
          refine vCall_of (hR) ?_ ?_ ?_; (focus simp only [go_sem, lns]); (focus simp only [go_sem, lns])
          simp only [go_sem, e1, e2, lns]
          refine vCall_of (hG) ?_ ?_ ?_; (focus simp only [go_sem, lns]); (focus simp only [go_sem, lns])
          simp only [go_sem, refs, ref]
          refine vCall_of (hI) ?_ ?_ ?_; (focus simp only [go_sem, refs, ref]); (focus simp only [go_sem, refs, ref])
          simp only [go_sem, lns]
          refine vCall_of (hC) ?_ ?_ ?_; (focus simp only [go_sem, lns]); (focus simp only [go_sem, lns])
          simp only [go_sem, refs, hc1, List.length_map, hc2, ref]
          refine vCall_of (hF) ?_ ?_ ?_; (focus simp only [go_sem]); (focus simp only [go_sem])
          simp only [go_sem, Bool.not_false, opb, opv_default]
          try rfl
      · rw [hd] at hF
        obtain ⟨j1, j2, j3⟩ := joinI_eq f1 f2 hd
        cases hd2 : fitsI (o.delta * fac)
        · have j3 := j3 hd2
          rw [hd2] at hF2
          have hmg : (mergeD o 1 fac).2 = false := by
            unfold mergeD
            rw [hd]
            split
            · rfl
            · simpa using j3
          rw [if_pos hmg]
          rcases pl with ⟨e1, e2, k3⟩ | ⟨e1, e2, k4⟩
          all_goals
            refine PL.Pure.of_v Tryz.func187 (by decide) rfl Tryz.ntmps187 Tryz.results187 (by simp) (opb_dids _) ?_
            simp only [go_sem, lns, opv]
            refine vCall_of (hR) ?_ ?_ ?_; (focus simp only [go_sem, lns]); (focus simp only [go_sem, lns])
            simp only [go_sem, e1, e2, lns]
            refine vCall_of (hG) ?_ ?_ ?_; (focus simp only [go_sem, lns]); (focus simp only [go_sem, lns])
            simp only [go_sem, refs, ref]
            refine vCall_of (hI) ?_ ?_ ?_; (focus simp only [go_sem, refs, ref]); (focus simp only [go_sem, refs, ref])
            simp only [go_sem, lns]
            refine vCall_of (hC) ?_ ?_ ?_; (focus simp only [go_sem, lns]); (focus simp only [go_sem, lns])
            simp only [go_sem, refs, hc1, List.length_map, hc2, ref]
            refine vCall_of (hF) ?_ ?_ ?_; (focus simp only [go_sem]); (focus simp only [go_sem])
            simp only [go_sem, Bool.not_true, j1]
            refine vCall_of (hF2) ?_ ?_ ?_; (focus simp only [go_sem]); (focus simp only [go_sem])
            simp only [go_sem, Bool.not_false, opb, opv_default]
            try rfl
        · rw [hd2] at hF2
          have j2 := j2 hd2
          rcases pl with ⟨e1, e2, k3⟩ | ⟨e1, e2, k4⟩
          · have hmg : mergeD o 1 fac = (o.delta * fac, true) := by simp [mergeD, k3, hd, j2]
            rw [hmg]
            simp only [Bool.true_eq_false, if_false]
            refine PL.Pure.of_v Tryz.func187 (by decide) rfl Tryz.ntmps187 Tryz.results187 (by simp) (opb_dids _) ?_
            simp only [go_sem, lns, opv]
            refine vCall_of (hR) ?_ ?_ ?_; (focus simp only [go_sem, lns]); (focus simp only [go_sem, lns])
            simp only [go_sem, e1, e2, lns]
            refine vCall_of (hG) ?_ ?_ ?_; (focus simp only [go_sem, lns]); (focus simp only [go_sem, lns])
            simp only [go_sem, refs, ref]
            refine vCall_of (hI) ?_ ?_ ?_; (focus simp only [go_sem, refs, ref]); (focus simp only [go_sem, refs, ref])
            simp only [go_sem, lns]
            refine vCall_of (hC) ?_ ?_ ?_; (focus simp only [go_sem, lns]); (focus simp only [go_sem, lns])
            simp only [go_sem, refs, hc1, List.length_map, hc2, ref]
            refine vCall_of (hF) ?_ ?_ ?_; (focus simp only [go_sem]); (focus simp only [go_sem])
            simp only [go_sem, Bool.not_true, j1]
            refine vCall_of (hF2) ?_ ?_ ?_; (focus simp only [go_sem]); (focus simp only [go_sem])
            simp only [go_sem, Bool.not_true, j1, e1, opb, opv, movedO, deltaO]
          · have hmg : (mergeD o 1 fac).2 = false := by simp [mergeD, k4]
            rw [if_pos hmg]
            refine PL.Pure.of_v Tryz.func187 (by decide) rfl Tryz.ntmps187 Tryz.results187 (by simp) (opb_dids _) ?_
            simp only [go_sem, lns, opv]
            refine vCall_of (hR) ?_ ?_ ?_; (focus simp only [go_sem, lns]); (focus simp only [go_sem, lns])
            simp only [go_sem, e1, e2, lns]
            refine vCall_of (hG) ?_ ?_ ?_; (focus simp only [go_sem, lns]); (focus simp only [go_sem, lns])
            simp only [go_sem, refs, ref]
            refine vCall_of (hI) ?_ ?_ ?_; (focus simp only [go_sem, refs, ref]); (focus simp only [go_sem, refs, ref])
            simp only [go_sem, lns]
            refine vCall_of (hC) ?_ ?_ ?_; (focus simp only [go_sem, lns]); (focus simp only [go_sem, lns])
            simp only [go_sem, refs, hc1, List.length_map, hc2, ref]
            refine vCall_of (hF) ?_ ?_ ?_; (focus simp only [go_sem]); (focus simp only [go_sem])
            simp only [go_sem, Bool.not_true, j1]
            refine vCall_of (hF2) ?_ ?_ ?_; (focus simp only [go_sem]); (focus simp only [go_sem])
            simp only [go_sem, Bool.not_true, j1, e1, opb, opv_default]
            try rfl
  · skip
    have hne : (comesR ⟨10, at', nm, ot, fac, fd, fo, ba⟩).length ≠ 0 := by unfold comesR; simp
    have hc0 : 0 < (comesR ⟨10, at', nm, ot, fac, fd, fo, ba⟩).length := by omega
    have hc1 : (0 : Int) < ((comesR ⟨10, at', nm, ot, fac, fd, fo, ba⟩).length : Int) := by omega
    have hc2 : (((comesR ⟨10, at', nm, ot, fac, fd, fo, ba⟩).map ref).getD 0 .any) = ref ((comesR ⟨10, at', nm, ot, fac, fd, fo, ba⟩).getD 0 default) := getD_ref hc0
    have hb : becomeM ⟨10, at', nm, ot, fac, fd, fo, ba⟩ o = (o, decide (o.kind = 4)) := by simp [becomeM]
    rw [hb]
    generalize comesR ⟨10, at', nm, ot, fac, fd, fo, ba⟩ = comes at *
    rcases pl with ⟨e1, e2, k3⟩ | ⟨e1, e2, k4⟩
    · rw [decide_eq_false (by omega)]
      simp only [if_true]
      refine PL.Pure.of_v Tryz.func187 (by decide) rfl Tryz.ntmps187 Tryz.results187 (by simp) (opb_dids _) ?_
      simp only [go_sem, lns, opv]
      refine vCall_of (hR) ?_ ?_ ?_; (focus simp only [go_sem, lns]); (focus simp only [go_sem, lns])
      simp only [go_sem, e1, e2, lns]
      refine vCall_of (hG) ?_ ?_ ?_; (focus simp only [go_sem, lns]); (focus simp only [go_sem, lns])
      simp only [go_sem, refs, ref]
      refine vCall_of (hI) ?_ ?_ ?_; (focus simp only [go_sem, refs, ref]); (focus simp only [go_sem, refs, ref])
      simp only [go_sem, hi, lns]
      refine vCall_of (hC) ?_ ?_ ?_; (focus simp only [go_sem, lns]); (focus simp only [go_sem, lns])
      simp only [go_sem, refs, hc1, List.length_map, hc2, ref, e2, opb, opv_default]
      try rfl
    · rw [decide_eq_true k4]
      simp only [Bool.true_eq_false, if_false]
      refine PL.Pure.of_v Tryz.func187 (by decide) rfl Tryz.ntmps187 Tryz.results187 (by simp) (opb_dids _) ?_
      simp only [go_sem, lns, opv]
      refine vCall_of (hR) ?_ ?_ ?_; (focus simp only [go_sem, lns]); (focus simp only [go_sem, lns])
      simp only [go_sem, e1, e2, lns]
      refine vCall_of (hG) ?_ ?_ ?_; (focus simp only [go_sem, lns]); (focus simp only [go_sem, lns])
      simp only [go_sem, refs, ref]
      refine vCall_of (hI) ?_ ?_ ?_; (focus simp only [go_sem, refs, ref]); (focus simp only [go_sem, refs, ref])
      simp only [go_sem, hi, lns]
      refine vCall_of (hC) ?_ ?_ ?_; (focus simp only [go_sem, lns]); (focus simp only [go_sem, lns])
      simp only [go_sem, refs, hc1, List.length_map, hc2, ref, e2, opb, opv, movedO]
set_option maxRecDepth 20000 in
set_option maxHeartbeats 16000000 in
theorem RAlong_pure (row : List Ln) (o : Opn) (hl : row.length ≤ 1000) (hx : ∀ x ∈ row, OkLn x) : PL.Pure Tryz.prog 125 [lnss row, opv o] (opb (alongO row o)) := by
  have hlm : row.length ≤ maxLen := by rw [maxLen_eq]; omega
  refine PL.Pure.of_v Tryz.func125 (by decide) rfl Tryz.ntmps125 Tryz.results125 (by simp) (opb_dids _) ?_
  simp only [go_sem, lnss, opv]
  refine vLoopM (ι := { x : Nat × (Opn) // x.1 ≤ (row).length ∧ (alongO (row.drop x.1) x.2 = alongO row o) }) 29 (fun x => [(0, lnss row), (3, .ptr 3 0), (4, .ptr 4 0), (6, .int .i64 (x.1.1 : Int))]) (fun x => [(3, ocells x.1.2, false), (4, zcells, false)]) (fun x => []) (fun x => (row).length - x.1.1) ⟨(0, o), Nat.zero_le _, rfl⟩ ⟨rfl, (forall_cons rfl (forall_cons rfl (forall_cons rfl (forall_cons rfl forall_nil)))), (forall_cons ⟨rfl, rfl⟩ (forall_cons ⟨rfl, rfl⟩ forall_nil)), forall_nil⟩ (fun x => ⟨(forall_cons rfl (forall_cons rfl (forall_cons rfl (forall_cons rfl forall_nil)))), (forall_cons rfl (forall_cons rfl forall_nil))⟩) (fun x => ?_); obtain ⟨⟨k, p⟩, hk, hI⟩ := x; simp only at hk hI ⊢
  by_cases h : (k : Int) < (row.length : Int)
  · (have hka : k < (row).length := by omega); (have w1 := w64s hka (hlm)); (have i1 : (0 : Int) ≤ (k : Int) := by omega)
    have i0 : (0 : Int) ≤ (k : Int) := by omega
    have hT := ROver_pure (row.getD k default) p (hx _ (getD_mem (d := default) hka))
    rw [drop_ln hka, alongO_cons] at hI
    cases hz : (overM (row.getD k default) p).2
    · rw [if_pos hz] at hI
      simp only [go_sem, lnss, List.length_map, h]
      refine vDrawQ (by kernel_rfl) (by kernel_rfl) ?_
      simp only [go_sem, getD_ln hka, lns, i0, i1, h, ocells, opv, List.length_map]
      refine vCall_of (hT) ?_ ?_ ?_; (focus simp only [go_sem, lns, opv]); (focus simp only [go_sem, lns, opv])
      simp only [go_sem, opb, opv, hz, ← hI, zcells]
      try rfl
    · rw [if_neg (by rw [hz]; simp)] at hI
      simp only [go_sem, lnss, List.length_map, h]
      refine vDrawQ (by kernel_rfl) (by kernel_rfl) ?_
      simp only [go_sem, getD_ln hka, lns, i0, i1, h, ocells, opv, List.length_map]
      refine vCall_of (hT) ?_ ?_ ?_; (focus simp only [go_sem, lns, opv]); (focus simp only [go_sem, lns, opv])
      simp only [go_sem, opb, opv, hz, w1, zcells]
      exact ⟨⟨(k + 1, (overM (row.getD k default) p).1), by (try simp only); omega, hI⟩, by show (row).length - (k + 1) < (row).length - k; omega, ⟨rfl, (forall_cons rfl (forall_cons rfl (forall_cons rfl (forall_cons rfl forall_nil)))), (forall_cons ⟨rfl, rfl⟩ (forall_cons ⟨rfl, rfl⟩ forall_nil)), forall_nil⟩⟩
  · obtain rfl : k = row.length := by omega
    have hd : alongO row o = (p, true) := by rw [← hI, List.drop_length]; rfl
    simp only [go_sem, lnss, List.length_map, h, hd, opb, opv, ocells, zcells]
set_option maxRecDepth 20000 in
set_option maxHeartbeats 16000000 in
theorem RWayO_pure (m : List Eg) (o : Opn) (a b : Tg) (hm : OkM m) (hr : RightM m) : PL.Pure Tryz.prog 65 [egs m, opv o, tg a, tg b] (opb (wayO m a b o)) := by
  have hR := RRow_pure m a b hm hr
  obtain ⟨hrl, hro⟩ := row_ok (a := a) (b := b) hm
  have hA := RAlong_pure (rowM m a b).1 o hrl hro
  have hc2 : (rowM m a b).2 = pathC m a b := by unfold rowM; split <;> simp_all
  unfold wayO
  by_cases hc : pathC m a b = 0
  · rw [if_neg (fun h => h hc)]
    rw [hc] at hc2
    generalize rowM m a b = rw0 at *
    obtain ⟨row, c0⟩ := rw0
    simp only at hc2 hrl hro hA ⊢
    subst hc2
    cases hz : (alongO row o).2
    · simp only [if_true]
      refine PL.Pure.of_v Tryz.func65 (by decide) rfl Tryz.ntmps65 Tryz.results65 (by simp) (opb_dids _) ?_
      simp only [go_sem, egs, tg, opv]
      refine vCall_of (hR) ?_ ?_ ?_; (focus simp only [go_sem, egs, tg]); (focus simp only [go_sem, egs, tg])
      simp only [go_sem, lnsc, lnss]
      refine vCall_of (hA) ?_ ?_ ?_; (focus simp only [go_sem, lnss, opv]); (focus simp only [go_sem, lnss, opv])
      simp only [go_sem, opb, opv, hz, opv_default]
      try rfl
    · simp only [Bool.true_eq_false, if_false]
      refine PL.Pure.of_v Tryz.func65 (by decide) rfl Tryz.ntmps65 Tryz.results65 (by simp) (opb_dids _) ?_
      simp only [go_sem, egs, tg, opv]
      refine vCall_of (hR) ?_ ?_ ?_; (focus simp only [go_sem, egs, tg]); (focus simp only [go_sem, egs, tg])
      simp only [go_sem, lnsc, lnss]
      refine vCall_of (hA) ?_ ?_ ?_; (focus simp only [go_sem, lnss, opv]); (focus simp only [go_sem, lnss, opv])
      simp only [go_sem, opb, opv, hz, schO]
  · have hc' : (pathC m a b != 0) = true := by simpa using hc
    rw [if_pos hc]
    refine PL.Pure.of_v Tryz.func65 (by decide) rfl Tryz.ntmps65 Tryz.results65 (by simp) (opb_dids _) ?_
    simp only [go_sem, egs, tg, opv]
    refine vCall_of (hR) ?_ ?_ ?_; (focus simp only [go_sem, egs, tg]); (focus simp only [go_sem, egs, tg])
    simp only [go_sem, lnsc, lnss, hc2, hc', opb, opv_default]
    try rfl
end Go.Proofs.YtnadlkjmdimjkaaGreat

set_option linter.unusedSimpArgs false
set_option linter.unusedVariables false
set_option linter.unusedSimpArgs false
set_option linter.unusedVariables false
namespace Go.Proofs.YtnadlkjmdimjkaaGreat
open Go.PL
set_option maxRecDepth 20000 in
set_option maxHeartbeats 16000000 in
theorem RCheck_pure (m : List Eg) (o : Opn) (b : Tg) (hm : OkM m) : PL.Pure Tryz.prog 42 [egs m, opv o, tg b] (.int .i64 (checkO m o b)) := by
  have hR := RORight_pure o
  have hSa := RSchema_pure m o.sch hm
  have hSb := RSchema_pure m b hm
  cases h1 : rightO o
  · rw [h1] at hR
    have ht : checkO m o b = 5 := by simp [ checkO, h1]
    rw [ht]
    refine PL.Pure.of_v Tryz.func42 (by decide) rfl Tryz.ntmps42 Tryz.results42 (by simp) rfl ?_
    simp only [go_sem, egs, tg, opv]
    refine vCall_of (hR) ?_ ?_ ?_; (focus simp only [go_sem, opv]); (focus simp only [go_sem, opv])
    simp only [go_sem]
  rw [h1] at hR
  by_cases h2 : upC m o.sch = 0
  · have okA := okSchO hm h2
    have hF := ROFits_pure (schM (treeOf m) o.sch).1 o okA
    have v2 : (schM (treeOf m) o.sch).2 = 0 := h2
    by_cases h3 : upC m b = 0
    · have v3 : (schM (treeOf m) b).2 = 0 := h3
      cases h4 : fitsO (schM (treeOf m) o.sch).1 o
      · rw [h4] at hF
        have ht : checkO m o b = 16 := by simp [ checkO, h1, h2, h3, h4]
        rw [ht]
        clear ht h4 h2 h3 okA
        generalize schM (treeOf m) o.sch = ya at *
        obtain ⟨A, ca⟩ := ya
        generalize schM (treeOf m) b = yb at *
        obtain ⟨B, cb⟩ := yb
        simp only at v2 v3 hF
        subst v2 v3
        refine PL.Pure.of_v Tryz.func42 (by decide) rfl Tryz.ntmps42 Tryz.results42 (by simp) rfl ?_
        simp only [go_sem, egs, tg, opv]
        refine vCall_of (hR) ?_ ?_ ?_; (focus simp only [go_sem, opv]); (focus simp only [go_sem, opv])
        simp only [go_sem]
        refine vCall_of (hSa) ?_ ?_ ?_; (focus simp only [go_sem, egs, tg]); (focus simp only [go_sem, egs, tg])
        simp only [go_sem, fldsc, flds]
        refine vCall_of (hSb) ?_ ?_ ?_; (focus simp only [go_sem, egs, tg]); (focus simp only [go_sem, egs, tg])
        simp only [go_sem, fldsc, flds]
        refine vCall_of (hF) ?_ ?_ ?_; (focus simp only [go_sem, flds, opv]); (focus simp only [go_sem, flds, opv])
        simp only [go_sem]
      · rw [h4] at hF
        have ht : checkO m o b = 0 := by simp [checkO, h1, h2, h3, h4]
        rw [ht]
        clear ht h4 h2 h3 okA
        generalize schM (treeOf m) o.sch = ya at *
        obtain ⟨A, ca⟩ := ya
        generalize schM (treeOf m) b = yb at *
        obtain ⟨B, cb⟩ := yb
        simp only at v2 v3 hF
        subst v2 v3
        refine PL.Pure.of_v Tryz.func42 (by decide) rfl Tryz.ntmps42 Tryz.results42 (by simp) rfl ?_
        simp only [go_sem, egs, tg, opv]
        refine vCall_of (hR) ?_ ?_ ?_; (focus simp only [go_sem, opv]); (focus simp only [go_sem, opv])
        simp only [go_sem]
        refine vCall_of (hSa) ?_ ?_ ?_; (focus simp only [go_sem, egs, tg]); (focus simp only [go_sem, egs, tg])
        simp only [go_sem, fldsc, flds]
        refine vCall_of (hSb) ?_ ?_ ?_; (focus simp only [go_sem, egs, tg]); (focus simp only [go_sem, egs, tg])
        simp only [go_sem, fldsc, flds]
        refine vCall_of (hF) ?_ ?_ ?_; (focus simp only [go_sem, flds, opv]); (focus simp only [go_sem, flds, opv])
        simp only [go_sem]
    · have v3 : ((schM (treeOf m) b).2 != 0) = true := by have h' : (schM (treeOf m) b).2 ≠ 0 := h3; simpa using h'
      have ht : checkO m o b = (schM (treeOf m) b).2 := by
        have e : upC m b = (schM (treeOf m) b).2 := rfl
        rw [← e]; simp [checkO, h1, h2, h3]
      rw [ht]
      clear ht h2 h3 okA
      generalize schM (treeOf m) o.sch = ya at *
      obtain ⟨A, ca⟩ := ya
      generalize schM (treeOf m) b = yb at *
      obtain ⟨B, cb⟩ := yb
      simp only at v2 v3 hF
      subst v2
      refine PL.Pure.of_v Tryz.func42 (by decide) rfl Tryz.ntmps42 Tryz.results42 (by simp) rfl ?_
      simp only [go_sem, egs, tg, opv]
      refine vCall_of (hR) ?_ ?_ ?_; (focus simp only [go_sem, opv]); (focus simp only [go_sem, opv])
      simp only [go_sem]
      refine vCall_of (hSa) ?_ ?_ ?_; (focus simp only [go_sem, egs, tg]); (focus simp only [go_sem, egs, tg])
      simp only [go_sem, fldsc, flds]
      refine vCall_of (hSb) ?_ ?_ ?_; (focus simp only [go_sem, egs, tg]); (focus simp only [go_sem, egs, tg])
      simp only [go_sem, fldsc, flds, v3]
  · have v2 : ((schM (treeOf m) o.sch).2 != 0) = true := by have h' : (schM (treeOf m) o.sch).2 ≠ 0 := h2; simpa using h'
    have ht : checkO m o b = (schM (treeOf m) o.sch).2 := by
      have e : upC m o.sch = (schM (treeOf m) o.sch).2 := rfl
      rw [← e]; simp [checkO, h1, h2]
    rw [ht]
    clear ht h2
    generalize schM (treeOf m) o.sch = ya at *
    obtain ⟨A, ca⟩ := ya
    simp only at v2
    refine PL.Pure.of_v Tryz.func42 (by decide) rfl Tryz.ntmps42 Tryz.results42 (by simp) rfl ?_
    simp only [go_sem, egs, tg, opv]
    refine vCall_of (hR) ?_ ?_ ?_; (focus simp only [go_sem, opv]); (focus simp only [go_sem, opv])
    simp only [go_sem]
    refine vCall_of (hSa) ?_ ?_ ?_; (focus simp only [go_sem, egs, tg]); (focus simp only [go_sem, egs, tg])
    simp only [go_sem, fldsc, flds, v2]
set_option maxRecDepth 20000 in
set_option maxHeartbeats 16000000 in
theorem RTrTo_pure (m : List Eg) (o : Opn) (b : Tg) (hm : OkM m) (hr : RightM m) : PL.Pure Tryz.prog 29 [egs m, opv o, tg b] (seenv (toT m o b)) := by
  have hK := RCheck_pure m o b hm
  have hA := RWayO_pure m o o.sch b hm hr
  unfold toT
  by_cases hc : checkO m o b = 0
  · rw [hc] at hK
    rw [hc, if_neg (fun h => h rfl)]
    generalize wayO m o.sch b o = y at *
    obtain ⟨q, ok⟩ := y
    refine PL.Pure.of_v Tryz.func29 (by decide) rfl Tryz.ntmps29 Tryz.results29 (by simp) (seenv_dids _) ?_
    simp only [go_sem, egs, tg, opv]
    refine vCall_of (hK) ?_ ?_ ?_; (focus simp only [go_sem, egs, tg, opv]); (focus simp only [go_sem, egs, tg, opv])
    simp only [go_sem]
    refine vCall_of (hA) ?_ ?_ ?_; (focus simp only [go_sem, egs, opv, tg]); (focus simp only [go_sem, egs, opv, tg])
    simp only [go_sem, opb, opv, seenv]
  · rw [if_pos hc]
    have hc' : (checkO m o b != 0) = true := by simpa using hc
    refine PL.Pure.of_v Tryz.func29 (by decide) rfl Tryz.ntmps29 Tryz.results29 (by simp) (seenv_dids _) ?_
    simp only [go_sem, egs, tg, opv]
    refine vCall_of (hK) ?_ ?_ ?_; (focus simp only [go_sem, egs, tg, opv]); (focus simp only [go_sem, egs, tg, opv])
    simp only [go_sem, hc', seenv, opv_default]
    try rfl
set_option maxRecDepth 20000 in
set_option maxHeartbeats 16000000 in
theorem RRead_pure (m : List Eg) (o : Opn) (hm : OkM m) : PL.Pure Tryz.prog 30 [egs m, opv o] (.bool (readO m o)) := by
  have hK := RCheck_pure m o default hm
  have e : (checkO m o default == 0) = readO m o := by
    rw [Bool.eq_iff_iff, beq_iff_eq]; exact check_root
  refine PL.Pure.of_v Tryz.func30 (by decide) rfl Tryz.ntmps30 Tryz.results30 (by simp) rfl ?_
  simp only [go_sem, egs, opv]
  refine vCall_of (hK) ?_ ?_ ?_; (focus simp only [go_sem, egs, opv, tg_default]); (focus simp only [go_sem, egs, opv, tg_default])
  simp only [go_sem, e]
end Go.Proofs.YtnadlkjmdimjkaaGreat
