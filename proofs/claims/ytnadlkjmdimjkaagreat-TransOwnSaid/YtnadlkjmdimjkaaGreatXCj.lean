/- Contracts of functions and laws of this seat, each for every input that it names: lemmas of the proof. -/
import Derived.Test.YtnadlkjmdimjkaaGreatXCi
import Derived.Test.YtnadlkjmdimjkaaGreatXBx
import Derived.Test.YtnadlkjmdimjkaaGreatXBp
set_option linter.unusedSimpArgs false
set_option linter.unusedVariables false
set_option linter.unusedSimpArgs false
set_option linter.unusedVariables false
namespace Go.Proofs.YtnadlkjmdimjkaaGreat
open Go.PL
def worthM (l : List Fd) (o : Opn) : Int × Int :=
  if o.kind ≠ 3 then (0, 11) else if (findF l o.at').2 ≠ 0 ∨ (findF l o.at').1.kind ≠ 1 then (0, 11) else worthI o.delta (findF l o.at').1.worth
theorem worthI_err {n w : Int} (h : (worthI n w).2 ≠ 0) : (worthI n w).1 = 0 := by
  unfold worthI at h ⊢
  split
  · rfl
  · split
    · rfl
    · rename_i h1 h2
      rw [if_neg h1, if_neg h2] at h
      exact absurd rfl h
set_option maxRecDepth 20000 in
set_option maxHeartbeats 8000000 in
theorem SWorth_pure (l : List Fd) (o : Opn) (hl : OkFs l) : PL.Pure Tryz.prog 34 [flds l, opv o] (intc (worthM l o)) := by
  have hF := SFind_pure l o.at' (by have := hl.n; omega) hl.c
  have hW := PWorth_pure o.delta (findF l o.at').1.worth
  have he := worthI_err (n := o.delta) (w := (findF l o.at').1.worth)
  unfold worthM
  by_cases k3 : o.kind = 3
  · have e3 : (o.kind != 3) = false := by simpa using k3
    rw [if_neg (fun h => h k3)]
    generalize findF l o.at' = y at *
    obtain ⟨f, c⟩ := y
    simp only at *
    by_cases hc : c = 0
    · have ec : (c != 0) = false := by simpa using hc
      by_cases k1 : f.kind = 1
      · have e1 : (f.kind != 1) = false := by simpa using k1
        rw [if_neg (by simp [hc, k1])]
        generalize worthI o.delta f.worth = z at *
        obtain ⟨n, d⟩ := z
        simp only at he
        by_cases hd : d = 0
        · have ed : (d != 0) = false := by simpa using hd
          refine PL.Pure.of_v Tryz.func34 (by decide) rfl Tryz.ntmps34 Tryz.results34 (by simp) (rfl) ?_
          simp only [go_sem, flds, opv, e3]
          refine vCall_of (hF) ?_ ?_ ?_; (focus simp only [go_sem, flds, ref]); (focus simp only [go_sem, flds, ref])
          simp only [go_sem, fldc, fld, ec, e1]
          refine vCall_of (hW) ?_ ?_ ?_; (focus simp only [go_sem]); (focus simp only [go_sem])
          simp only [go_sem, intc, ed]
          simp [hd]
        · have ed : (d != 0) = true := by simpa using hd
          have hn := he hd
          subst hn
          refine PL.Pure.of_v Tryz.func34 (by decide) rfl Tryz.ntmps34 Tryz.results34 (by simp) (rfl) ?_
          simp only [go_sem, flds, opv, e3]
          refine vCall_of (hF) ?_ ?_ ?_; (focus simp only [go_sem, flds, ref]); (focus simp only [go_sem, flds, ref])
          simp only [go_sem, fldc, fld, ec, e1]
          refine vCall_of (hW) ?_ ?_ ?_; (focus simp only [go_sem]); (focus simp only [go_sem])
          simp only [go_sem, intc, ed]
      · have e1 : (f.kind != 1) = true := by simpa using k1
        rw [if_pos (.inr k1)]
        refine PL.Pure.of_v Tryz.func34 (by decide) rfl Tryz.ntmps34 Tryz.results34 (by simp) (rfl) ?_
        simp only [go_sem, flds, opv, e3]
        refine vCall_of (hF) ?_ ?_ ?_; (focus simp only [go_sem, flds, ref]); (focus simp only [go_sem, flds, ref])
        simp only [go_sem, fldc, fld, ec, e1, intc]
    · have ec : (c != 0) = true := by simpa using hc
      rw [if_pos (.inl hc)]
      refine PL.Pure.of_v Tryz.func34 (by decide) rfl Tryz.ntmps34 Tryz.results34 (by simp) (rfl) ?_
      simp only [go_sem, flds, opv, e3]
      refine vCall_of (hF) ?_ ?_ ?_; (focus simp only [go_sem, flds, ref]); (focus simp only [go_sem, flds, ref])
      simp only [go_sem, fldc, fld, ec, intc]
  · have e3 : (o.kind != 3) = true := by simpa using k3
    rw [if_pos k3]
    refine PL.Pure.of_v Tryz.func34 (by decide) rfl Tryz.ntmps34 Tryz.results34 (by simp) (rfl) ?_
    simp only [go_sem, flds, opv, e3, intc]
set_option maxHeartbeats 4000000 in
theorem far_pure (n : Int) : PL.Pure Tryz.prog 226 [.int .i64 n] (.bool (!fitsI n)) := by
  by_cases h1 : 4503599627370496 < n
  · have e : fitsI n = false := by rw [Bool.eq_false_iff]; simp [fitsI]; omega
    rw [e]
    refine PL.Pure.of_v Tryz.func226 (by decide) rfl Tryz.ntmps226 Tryz.results226 (by simp) rfl ?_
    simp only [go_sem, h1, Bool.not_false]
  · by_cases h2 : n < -4503599627370496
    · have e : fitsI n = false := by rw [Bool.eq_false_iff]; simp [fitsI]; omega
      rw [e]
      refine PL.Pure.of_v Tryz.func226 (by decide) rfl Tryz.ntmps226 Tryz.results226 (by simp) rfl ?_
      simp only [go_sem, h1, h2, Bool.not_false]
    · have e : fitsI n = true := by simp [fitsI]; omega
      rw [e]
      refine PL.Pure.of_v Tryz.func226 (by decide) rfl Tryz.ntmps226 Tryz.results226 (by simp) rfl ?_
      simp only [go_sem, h1, h2, Bool.not_true]
theorem right_kinds {f : Fd} (h : rightF f = true) : f.kind = 1 ∨ f.kind = 2 ∨ f.kind = 3 ∨ f.kind = 4 := by
  simp only [rightF, Bool.and_eq_true] at h
  have h := h.2
  by_cases k1 : f.kind = 1
  · exact .inl k1
  · rw [if_neg k1] at h
    by_cases k3 : f.kind = 3
    · exact .inr (.inr (.inl k3))
    · simp only [if_neg k3, Bool.and_eq_true] at h
      have h := h.2
      simp [tail2] at h
      omega
set_option maxRecDepth 20000 in
set_option maxHeartbeats 8000000 in
theorem FFits_pure (f : Fd) (s : Str) (hf : f.cases'.length ≤ maxLen) : PL.Pure Tryz.prog 123 [fld f, .str s] (.bool (fitsF f s)) := by
  have hR := Right_pure f hf
  have hT := Text_pure s
  have hC := ConStr_pure f.cases' s hf
  unfold fitsF
  cases hr : rightF f
  · rw [hr] at hR
    refine PL.Pure.of_v Tryz.func123 (by decide) rfl Tryz.ntmps123 Tryz.results123 (by simp) rfl ?_
    simp only [go_sem, fld]
    refine vCall_of (hR) ?_ ?_ ?_; (focus simp only [go_sem, fld]); (focus simp only [go_sem, fld])
    simp only [go_sem, Bool.false_and]
  · have hk := right_kinds hr
    rw [hr] at hR
    have e41 : decide ((s.length : Int) ≤ 40) = decide ((s.length : Int) < 41) := by rw [Bool.eq_iff_iff]; simp; omega
    rw [e41] at hT
    obtain ⟨a, kind, d, c, w⟩ := f
    simp only at hk hR hT hC ⊢
    rcases hk with rfl | rfl | rfl | rfl
    · refine PL.Pure.of_v Tryz.func123 (by decide) rfl Tryz.ntmps123 Tryz.results123 (by simp) rfl ?_
      simp only [go_sem, fld]
      refine vCall_of (hR) ?_ ?_ ?_; (focus simp only [go_sem, fld]); (focus simp only [go_sem, fld])
      simp only [go_sem]
      rfl
    · refine PL.Pure.of_v Tryz.func123 (by decide) rfl Tryz.ntmps123 Tryz.results123 (by simp) rfl ?_
      simp only [go_sem, fld]
      refine vCall_of (hR) ?_ ?_ ?_; (focus simp only [go_sem, fld]); (focus simp only [go_sem, fld])
      simp only [go_sem]
      refine vCall_of (hT) ?_ ?_ ?_; (focus simp only [go_sem]); (focus simp only [go_sem])
      simp only [go_sem]
      simp
    · refine PL.Pure.of_v Tryz.func123 (by decide) rfl Tryz.ntmps123 Tryz.results123 (by simp) rfl ?_
      simp only [go_sem, fld]
      refine vCall_of (hR) ?_ ?_ ?_; (focus simp only [go_sem, fld]); (focus simp only [go_sem, fld])
      simp only [go_sem]
      refine vCall_of (hC) ?_ ?_ ?_; (focus simp only [go_sem, strs]); (focus simp only [go_sem, strs])
      simp only [go_sem]
      simp
    · refine PL.Pure.of_v Tryz.func123 (by decide) rfl Tryz.ntmps123 Tryz.results123 (by simp) rfl ?_
      simp only [go_sem, fld]
      refine vCall_of (hR) ?_ ?_ ?_; (focus simp only [go_sem, fld]); (focus simp only [go_sem, fld])
      simp only [go_sem]
      refine vCall_of (hT) ?_ ?_ ?_; (focus simp only [go_sem]); (focus simp only [go_sem])
      simp only [go_sem]
      simp
def fitsO (l : List Fd) (o : Opn) : Bool :=
  rightO o && (if placedB o = false then true else decide ((findF l o.at').2 = 0) && (if o.kind = 3 then decide ((findF l o.at').1.kind = 1) else if o.has = true then fitsF (findF l o.at').1 o.text else decide ((findF l o.at').1.kind = 4)))
set_option maxRecDepth 20000 in
set_option maxHeartbeats 8000000 in
theorem OFits_pure (l : List Fd) (o : Opn) (hl : OkFs l) (ho : o.drops.length ≤ maxLen) : PL.Pure Tryz.prog 62 [flds l, opv o] (.bool (fitsO l o)) := by
  have hR := ORight_pure o ho
  have hP := placed_pure o
  have hF := SFind_pure l o.at' (by have := hl.n; omega) hl.c
  have okf := okFind hl o.at'
  have hT := FFits_pure (findF l o.at').1 o.text (by rw [maxLen_eq]; omega)
  unfold fitsO
  cases hr : rightO o
  · rw [hr] at hR
    refine PL.Pure.of_v Tryz.func62 (by decide) rfl Tryz.ntmps62 Tryz.results62 (by simp) rfl ?_
    simp only [go_sem, flds, opv]
    refine vCall_of (hR) ?_ ?_ ?_; (focus simp only [go_sem, opv]); (focus simp only [go_sem, opv])
    simp only [go_sem, Bool.false_and]
  rw [hr] at hR
  cases hp : placedB o
  · rw [hp] at hP
    refine PL.Pure.of_v Tryz.func62 (by decide) rfl Tryz.ntmps62 Tryz.results62 (by simp) rfl ?_
    simp only [go_sem, flds, opv]
    refine vCall_of (hR) ?_ ?_ ?_; (focus simp only [go_sem, opv]); (focus simp only [go_sem, opv])
    simp only [go_sem, opv]
    refine vCall_of (hP) ?_ ?_ ?_; (focus simp only [go_sem, opv]); (focus simp only [go_sem, opv])
    simp only [go_sem, Bool.true_and, if_true]
  rw [hp] at hP
  simp only [Bool.true_and, Bool.true_eq_false, if_false]
  generalize findF l o.at' = y at *
  obtain ⟨f, c⟩ := y
  simp only at hT okf ⊢
  by_cases hc : c = 0
  · have ec : (c != 0) = false := by simpa using hc
    simp only [hc, decide_true, Bool.true_and]
    by_cases k3 : o.kind = 3
    · have e3 : (o.kind == 3) = true := by simpa using k3
      have ek : (f.kind == 1) = decide (f.kind = 1) := by rw [Bool.eq_iff_iff]; simp
      rw [if_pos k3]
      refine PL.Pure.of_v Tryz.func62 (by decide) rfl Tryz.ntmps62 Tryz.results62 (by simp) rfl ?_
      simp only [go_sem, flds, opv]
      refine vCall_of (hR) ?_ ?_ ?_; (focus simp only [go_sem, opv]); (focus simp only [go_sem, opv])
      simp only [go_sem, opv]
      refine vCall_of (hP) ?_ ?_ ?_; (focus simp only [go_sem, opv]); (focus simp only [go_sem, opv])
      simp only [go_sem]
      refine vCall_of (hF) ?_ ?_ ?_; (focus simp only [go_sem, flds, ref]); (focus simp only [go_sem, flds, ref])
      simp only [go_sem, fldc, fld, ec, e3, ek]
    · have e3 : (o.kind == 3) = false := by simpa using k3
      rw [if_neg k3]
      have ek : (f.kind == 4) = decide (f.kind = 4) := by rw [Bool.eq_iff_iff]; simp
      cases hh : o.has
      · refine PL.Pure.of_v Tryz.func62 (by decide) rfl Tryz.ntmps62 Tryz.results62 (by simp) rfl ?_
        simp only [go_sem, flds, opv, hh]
        refine vCall_of hR ?_ ?_ ?_
        · simp only [go_sem, opv]
        · simp only [go_sem, opv, hh]
        simp only [go_sem, opv]
        refine vCall_of hP ?_ ?_ ?_
        · simp only [go_sem, opv]
        · simp only [go_sem, opv, hh]
        simp only [go_sem]
        refine vCall_of (hF) ?_ ?_ ?_; (focus simp only [go_sem, flds, ref]); (focus simp only [go_sem, flds, ref])
        simp only [go_sem, fldc, fld, ec, e3, ek, Bool.false_eq_true, if_false]
      · refine PL.Pure.of_v Tryz.func62 (by decide) rfl Tryz.ntmps62 Tryz.results62 (by simp) rfl ?_
        simp only [go_sem, flds, opv, hh]
        refine vCall_of hR ?_ ?_ ?_
        · simp only [go_sem, opv]
        · simp only [go_sem, opv, hh]
        simp only [go_sem, opv]
        refine vCall_of hP ?_ ?_ ?_
        · simp only [go_sem, opv]
        · simp only [go_sem, opv, hh]
        simp only [go_sem]
        refine vCall_of (hF) ?_ ?_ ?_; (focus simp only [go_sem, flds, ref]); (focus simp only [go_sem, flds, ref])
        simp only [go_sem, fldc, fld, ec, e3]
        refine vCall_of (hT) ?_ ?_ ?_; (focus simp only [go_sem, fld]); (focus simp only [go_sem, fld])
        simp only [go_sem, if_true]
  · have ec : (c != 0) = true := by simpa using hc
    refine PL.Pure.of_v Tryz.func62 (by decide) rfl Tryz.ntmps62 Tryz.results62 (by simp) rfl ?_
    simp only [go_sem, flds, opv]
    refine vCall_of (hR) ?_ ?_ ?_; (focus simp only [go_sem, opv]); (focus simp only [go_sem, opv])
    simp only [go_sem, opv]
    refine vCall_of (hP) ?_ ?_ ?_; (focus simp only [go_sem, opv]); (focus simp only [go_sem, opv])
    simp only [go_sem]
    refine vCall_of (hF) ?_ ?_ ?_; (focus simp only [go_sem, flds, ref]); (focus simp only [go_sem, flds, ref])
    simp only [go_sem, fldc, fld, ec, hc, decide_false, Bool.false_and]
end Go.Proofs.YtnadlkjmdimjkaaGreat

set_option linter.unusedSimpArgs false
set_option linter.unusedVariables false
set_option linter.unusedSimpArgs false
set_option linter.unusedVariables false
namespace Go.Proofs.YtnadlkjmdimjkaaGreat
open Go.PL
theorem worthI_ok {n w : Int} (h1 : 1 ≤ w) (h2 : w ≤ 1048576) (h3 : -4503599627370496 ≤ n * w) (h4 : n * w ≤ 4503599627370496) : worthI n w = (n * w, 0) := by
  obtain ⟨m1, m2, m3, m4⟩ := mostOf_spec h1
  have a1 : n ≤ mostOf w := by
    refine Decidable.byContradiction fun h => ?_
    have : (mostOf w + 1) * w ≤ n * w := Int.mul_le_mul_of_nonneg_right (by omega) (by omega)
    omega
  have a2 : - mostOf w ≤ n := by
    refine Decidable.byContradiction fun h => ?_
    have : n * w ≤ (-(mostOf w + 1)) * w := Int.mul_le_mul_of_nonneg_right (by omega) (by omega)
    rw [Int.neg_mul] at this
    omega
  unfold worthI
  rw [if_neg (by omega), if_neg (by omega), wrap_id (by omega)]
theorem right_worth {f : Fd} (h : rightF f = true) (hk : f.kind = 1) : 1 ≤ f.worth ∧ f.worth ≤ 1048576 := by
  simp [rightF, hk] at h
  omega
theorem fitsO_right {l : List Fd} {o : Opn} (h : fitsO l o = true) : rightO o = true := by
  simp only [fitsO, Bool.and_eq_true] at h; exact h.1
theorem rightO_delta {o : Opn} (h : rightO o = true) : -1048576 ≤ o.delta ∧ o.delta ≤ 1048576 := by
  simp [rightO] at h
  omega
theorem placed3 {o : Opn} (h : o.kind = 3) : placedB o = true := by simp [placedB, h]
theorem fitsO_place {l : List Fd} {o : Opn} (h : fitsO l o = true) (hp : placedB o = true) : (findF l o.at').2 = 0 ∧
    (o.kind = 3 → (findF l o.at').1.kind = 1) ∧ (o.kind ≠ 3 → o.has = true → fitsF (findF l o.at').1 o.text = true) ∧ (o.kind ≠ 3 → o.has = false → (findF l o.at').1.kind = 4) := by
  simp only [fitsO, hp, Bool.and_eq_true, Bool.true_eq_false, if_false, decide_eq_true_eq] at h
  obtain ⟨_, h1, h2⟩ := h
  refine ⟨h1, fun k => ?_, fun k hh => ?_, fun k hh => ?_⟩
  · rw [if_pos k] at h2; simpa using h2
  · rw [if_neg k, if_pos hh] at h2; exact h2
  · rw [if_neg k, if_neg (by rw [hh]; simp)] at h2; simpa using h2
theorem placeI_neg {l : List Rf} {r : Rf} (h : placeI l r < 0) : r ∉ l := by
  unfold placeI idx at h
  cases hf : l.findIdx? fun a => decide (r = a) with
  | none =>
    rw [List.findIdx?_eq_none_iff] at hf
    intro hm
    have := hf r hm
    simp at this
  | some i => rw [hf] at h; simp at h; omega
theorem placeI_pos {l : List Rf} {r : Rf} (h : ¬ placeI l r < 0) : ∃ g : Nat, placeI l r = (g : Int) ∧ g < l.length ∧ l.getD g default = r := by
  unfold placeI idx at h ⊢
  cases hf : l.findIdx? fun a => decide (r = a) with
  | none => rw [hf] at h; exact absurd (by decide) h
  | some i =>
    rw [List.findIdx?_eq_some_iff_getElem] at hf
    obtain ⟨h1, h2, _⟩ := hf
    refine ⟨i, rfl, h1, ?_⟩
    rw [getD_lt h1]
    simpa using (of_decide_eq_true h2).symm
theorem placeI_one {a r : Rf} (h : ¬ placeI [a] r < 0) : a = r := by
  obtain ⟨g, _, h2, h3⟩ := placeI_pos h
  have : g = 0 := by simpa using h2
  subst this
  simpa using h3
theorem OkOfHeavy (o : Opn) (h : heavyO o = false) : OkOp o := ⟨by
  simp only [heavyO, Bool.or_eq_false_iff, decide_eq_false_iff_not] at h
  omega⟩
theorem over_okD {x : Ln} {o : Opn} (h : OkOp o) : OkOp (overM x o).1 := by
  have hd := h.d
  refine ⟨?_⟩
  unfold overM becomeM
  repeat' split
  all_goals first | exact hd | exact Nat.zero_le _
end Go.Proofs.YtnadlkjmdimjkaaGreat

set_option linter.unusedSimpArgs false
set_option linter.unusedVariables false
set_option linter.unusedSimpArgs false
set_option linter.unusedVariables false
namespace Go.Proofs.YtnadlkjmdimjkaaGreat
open Go.PL
set_option maxHeartbeats 2000000 in
theorem inv_places {x : Ln} (hx : rightLn x = true) : goesR (invR x) = comesR x ∧ comesR (invR x) = goesR x := by
  have hk := (rightLn_kind hx).1
  obtain ⟨kind, ⟨sc, gr, n0⟩, nm, ot, fac, fd, fo, ba⟩ := x
  simp only at hk
  rcases hk with rfl | rfl | rfl | rfl | rfl | rfl | rfl | rfl | rfl | rfl
  all_goals simp [goesR, comesR, invR, named, rightLn] at hx ⊢
  all_goals simp_all
theorem placeI_self (c : Rf) (cs : List Rf) : placeI (c :: cs) c = 0 := by
  unfold placeI idx
  simp [List.findIdx?_cons]
theorem placeI_not {l : List Rf} {r : Rf} (h : r ∉ l) : placeI l r = -1 := by
  rcases placeI_cases l r with e | ⟨g, hg, e⟩
  · exact e
  · obtain ⟨g', _, h2, h3⟩ := placeI_pos (l := l) (r := r) (by omega)
    exact absurd (h3 ▸ getD_mem h2) h
theorem over_placed {x : Ln} {o : Opn} (hx : rightLn x = true) (hp : placedB o = true) : overM x o = if placeI (goesR x) o.at' < 0 then (o, true) else if (becomeM x o).2 = false then (default, false) else (movedO (becomeM x o).1 ((comesR x).getD 0 default), true) := by
  unfold overM
  have : ¬ (o.kind ≠ 3 ∧ o.kind ≠ 4) := by
    simp [placedB] at hp
    omega
  rw [if_neg (by rw [hx]; simp), if_neg this]
theorem moved_back (o : Opn) (r : Rf) : movedO (movedO o r) o.at' = o := by cases o; rfl
theorem fits_counter {l : List Fd} {o : Opn} {f : Fd} (hf : fitsO l o = true) (hp : placedB o = true) (he : findF l o.at' = (f, 0)) (hk : f.kind = 1) : o.kind = 3 := by
  obtain ⟨_, _, h2, h3⟩ := fitsO_place hf hp
  rw [he] at h2 h3
  refine Decidable.byContradiction fun h => ?_
  cases hh : o.has
  · have := h3 h hh; simp only at this; omega
  · have := h2 h hh; simp [fitsF, hk] at this
theorem round_at {fo ba : List Pr} (h : roundM fo ba = true) {s : Str} (hs : hasFr fo s = true) : (caseM fo s).2 = true ∧ caseM ba (caseM fo s).1 = (s, true) := by
  unfold hasFr at hs
  rw [List.any_eq_true] at hs
  obtain ⟨q, hq, e⟩ := hs
  have e : q.fr' = s := by simpa using e
  unfold roundM at h
  have := List.all_eq_true.1 h q hq
  simp only [roundP, e, Bool.and_eq_true, beq_iff_eq] at this
  exact ⟨this.1, Prod.ext this.2.2 this.2.1⟩
theorem over_ids {x : Ln} {o p : Opn} (h : overM x o = (p, true)) : p.id = o.id ∧ p.time = o.time ∧ p.kind = o.kind := by
  have key : ∀ q : Opn × Bool, q = overM x o → q.2 = true → q.1.id = o.id ∧ q.1.time = o.time ∧ q.1.kind = o.kind := by
    intro q hq hq2
    subst hq
    revert hq2
    unfold overM becomeM
    repeat' split
    all_goals first | (intro _; exact ⟨rfl, rfl, rfl⟩) | (intro h; exact absurd h (by simp))
  exact key (p, true) h.symm rfl
end Go.Proofs.YtnadlkjmdimjkaaGreat

set_option linter.unusedSimpArgs false
set_option linter.unusedVariables false
set_option linter.unusedSimpArgs false
set_option linter.unusedVariables false
namespace Go.Proofs.YtnadlkjmdimjkaaGreat
open Go.PL
theorem joinI_fine40 {d f : Int} (hd : -1099511627776 ≤ d ∧ d ≤ 1099511627776) (h : (joinI 0 d f).2 = 0) : 2 ≤ f ∧ f ≤ 1000 ∧ (joinI 0 d f).1 = f * d := by
  unfold joinI at h ⊢
  by_cases hf : 2 ≤ f ∧ f ≤ 1000
  · rw [if_neg (fun g => g hf)] at h ⊢
    have b1 : -1099511627776000 ≤ f * d ∧ f * d ≤ 1099511627776000 := by
      have p1 : f * d ≤ f * 1099511627776 := Int.mul_le_mul_of_nonneg_left hd.2 (by omega)
      have p2 : f * (-1099511627776) ≤ f * d := Int.mul_le_mul_of_nonneg_left hd.1 (by omega)
      omega
    have e : IntKind.i64.wrap (0 + IntKind.i64.wrap (f * d)) = f * d := by
      rw [wrap_id (n := f * d) (by omega), Int.zero_add, wrap_id (by omega)]
    refine ⟨hf.1, hf.2, ?_⟩
    split at h
    · cases h
    · rename_i hp
      rw [if_neg hp]
      split at h
      · rename_i hfi; rw [if_pos hfi]; exact e
      · cases h
  · rw [if_pos hf] at h; cases h
/-- the field of an Adjust, on the far side: what it is worth is the same -/
theorem over_field40 {l m : List Fd} {x : Ln} {o p : Opn} {f : Fd} (ha : applyM l x = (m, 0)) (hf : findF l o.at' = (f, 0)) (h1 : f.kind = 1) (k3 : o.kind = 3) (hd : -1099511627776 ≤ o.delta ∧ o.delta ≤ 1099511627776) (ho : overM x o = (p, true)) :
    ∃ g, findF m p.at' = (g, 0) ∧ g.kind = 1 ∧ p.kind = 3 ∧ 1 ≤ g.worth ∧ g.worth ≤ 1048576 ∧ p.delta * g.worth = o.delta * f.worth := by
  obtain ⟨hl, hx, cs, l1, e1, e2, e3⟩ := apply_fwd ha
  obtain ⟨a1, a2, a3, a4, a5⟩ := go_fwd hl e2
  obtain ⟨b1, b2, b3, b4, b5⟩ := come_fwd a1 e3
  have hk := (rightLn_kind hx).1
  have hm := (right_iff.1 b1).2
  have hfl := find_zero (l := l) (r := o.at') (by rw [hf])
  rw [hf] at hfl
  simp only at hfl
  obtain ⟨fm, fa⟩ := hfl
  have fr := (right_iff.1 hl).2.2 f fm
  have fw := right_worth fr h1
  have coming : ∀ g ∈ cs, findF m g.at' = (g, 0) ∧ rightF g = true := fun g hg => ⟨find_mem hm.1 ((b2 g).2 (.inr hg)), (b3 g hg).1⟩
  unfold overM at ho
  rw [if_neg (by rw [hx]; simp), if_neg (by omega)] at ho
  by_cases hp : placeI (goesR x) o.at' < 0
  · rw [if_pos hp] at ho
    cases ho
    have hfm : f ∈ m := (b2 f).2 (.inl ((a2 f).2 ⟨fm, by rw [fa]; exact placeI_neg hp⟩))
    have := find_mem hm.1 hfm
    rw [fa] at this
    exact ⟨f, this, h1, k3, fw.1, fw.2, rfl⟩
  · rw [if_neg hp] at ho
    by_cases hb : (becomeM x o).2 = false
    · rw [if_pos hb] at ho; simp at ho
    · rw [if_neg hb] at ho
      simp only [Prod.mk.injEq, and_true] at ho
      subst ho
      have hb' : (becomeM x o).2 = true := by simpa using hb
      clear hb b4 b5 a3 a4 a5
      obtain ⟨kind, at', nm, ot, fac, fd, fo, ba⟩ := x
      simp only at hk
      have mv : ∀ r, o.at' = at' → cs = [⟨r, f.kind, f.df, f.cases', f.worth⟩] → ∃ g, findF m r = (g, 0) ∧ g.kind = 1 ∧ 1 ≤ g.worth ∧ g.worth ≤ 1048576 ∧ o.delta * g.worth = o.delta * f.worth := fun r _ hc => by
        have := coming ⟨r, f.kind, f.df, f.cases', f.worth⟩ (by rw [hc]; simp)
        exact ⟨_, this.1, h1, fw.1, fw.2, rfl⟩
      rcases hk with rfl | rfl | rfl | rfl | rfl | rfl | rfl | rfl | rfl | rfl
      · have hat : at' = o.at' := placeI_one (by simpa [goesR] using hp)
        subst hat
        simp [arrM, comesR, hf] at e1
        obtain ⟨g, g1, g2, g3, g4, g5⟩ := mv (named o.at' nm) rfl e1.symm
        exact ⟨g, by simpa [becomeM, movedO, comesR] using g1, g2, by simpa [becomeM, movedO] using k3, g3, g4, by simpa [becomeM, movedO] using g5⟩
      · exact absurd (show placeI (goesR ⟨2, at', nm, ot, fac, fd, fo, ba⟩) o.at' < 0 from (by decide : (-1 : Int) < 0)) hp
      · simp [becomeM] at hb'
      · have hat : at' = o.at' := placeI_one (by simpa [goesR] using hp)
        subst hat
        simp [arrM, comesR, hf] at e1
        obtain ⟨g, g1, g2, g3, g4, g5⟩ := mv ⟨o.at'.sc, [], o.at'.nm⟩ rfl e1.symm
        exact ⟨g, by simpa [becomeM, movedO, comesR] using g1, g2, by simpa [becomeM, movedO] using k3, g3, g4, by simpa [becomeM, movedO] using g5⟩
      · have hat : at' = o.at' := placeI_one (by simpa [goesR] using hp)
        subst hat
        simp [arrM, comesR, hf] at e1
        obtain ⟨g, g1, g2, g3, g4, g5⟩ := mv ⟨o.at'.sc, nm, o.at'.nm⟩ rfl e1.symm
        exact ⟨g, by simpa [becomeM, movedO, comesR] using g1, g2, by simpa [becomeM, movedO] using k3, g3, g4, by simpa [becomeM, movedO] using g5⟩
      · have hat : at' = o.at' := placeI_one (by simpa [goesR] using hp)
        subst hat
        simp [arrM, hf] at e1
        have := coming ⟨named o.at' nm, 1, [], [], f.worth⟩ (by rw [← e1.1]; simp)
        exact ⟨⟨named o.at' nm, 1, [], [], f.worth⟩, by simpa [becomeM, movedO, comesR] using this.1, rfl, by simpa [becomeM, movedO] using k3, fw.1, fw.2, by simp [becomeM, movedO]⟩
      · simp [becomeM, k3] at hb'
      · simp [becomeM, convT, k3] at hb'
      · have hgo : goesR ⟨9, at', nm, ot, fac, fd, fo, ba⟩ = [named at' nm, named at' ot] := by simp [goesR]
        rw [hgo] at hp
        obtain ⟨g, hg1, hg2, hg3⟩ := placeI_pos hp
        simp [arrM, mergedM] at e1
        split at e1
        · simp at e1
        split at e1
        · simp at e1
        · rename_i u1 u2
          simp only [not_or, Decidable.not_not] at u1 u2
          simp only [Prod.mk.injEq, and_true] at e1
          obtain ⟨q1, q2⟩ := u1
          obtain ⟨q3, q4, q5⟩ := u2
          have hA := find_zero q1
          have hAr := right_worth ((right_iff.1 hl).2.2 _ hA.1) q2
          have hcm := coming ⟨at', 1, [], [], (findF l (named at' nm)).1.worth⟩ (by rw [← e1]; simp)
          have hb2 : becomeM ⟨9, at', nm, ot, fac, fd, fo, ba⟩ o = (deltaO o (mergeD o (g : Int) fac).1, (mergeD o (g : Int) fac).2) := by
            simp only [becomeM, hgo, hg1]; simp
          rw [hb2] at hb' ⊢
          simp only at hb'
          refine ⟨⟨at', 1, [], [], (findF l (named at' nm)).1.worth⟩, by simpa [movedO, comesR, deltaO] using hcm.1, rfl, by simpa [movedO, deltaO] using k3, hAr.1, hAr.2, ?_⟩
          simp only [movedO, deltaO]
          have hg01 : g = 0 ∨ g = 1 := by simp at hg2; omega
          rcases hg01 with rfl | rfl
          · have hat : named at' nm = o.at' := by simpa using hg3
            rw [hat, hf]
            simp [mergeD, k3]
          · have hat : named at' ot = o.at' := by simpa using hg3
            have hdd : fitsI o.delta = true := fitsI_iff.2 ⟨by omega, by omega⟩
            have hmd : mergeD o ((1 : Nat) : Int) fac = ((joinI 0 o.delta fac).1, decide ((joinI 0 o.delta fac).2 = 0)) := by
              unfold mergeD
              rw [if_neg (fun h => h k3), if_neg (by omega), if_pos hdd]
            rw [hmd] at hb' ⊢
            obtain ⟨j1, j2, j3⟩ := joinI_fine40 hd (of_decide_eq_true hb')
            rw [hat, hf] at q5
            simp only at q5 ⊢
            have hwr : IntKind.i64.wrap ((findF l (named at' nm)).1.worth * fac) = (findF l (named at' nm)).1.worth * fac := by
              have p1 : (findF l (named at' nm)).1.worth * fac ≤ 1048576 * fac := Int.mul_le_mul_of_nonneg_right hAr.2 (by omega)
              have p2 : 0 ≤ (findF l (named at' nm)).1.worth * fac := Int.mul_nonneg (by omega) (by omega)
              exact wrap_id (by omega)
            rw [hwr] at q5
            rw [j3, q5, Int.mul_comm fac, Int.mul_assoc, Int.mul_comm fac]
      · simp [becomeM, k3] at hb'
/-- an op over the lenses of a row, one by one -/
def alongO : List Ln → Opn → Opn × Bool
  | [], o => (o, true)
  | x :: xs, o => if (overM x o).2 = false then (default, false) else alongO xs (overM x o).1
theorem alongO_cons (x : Ln) (xs : List Ln) (o : Opn) : alongO (x :: xs) o = if (overM x o).2 = false then (default, false) else alongO xs (overM x o).1 := rfl
/-- what an Adjust is worth, within 2^40 -/
structure Worth (l : List Fd) (o : Opn) (w : Int) : Prop where
  k : o.kind = 3
  f : ∃ f, findF l o.at' = (f, 0) ∧ f.kind = 1 ∧ 1 ≤ f.worth ∧ f.worth ≤ 1048576 ∧ o.delta * f.worth = w
  b : -1099511627776 ≤ w ∧ w ≤ 1099511627776
theorem Worth.delta {l : List Fd} {o : Opn} {w : Int} (h : Worth l o w) : -1099511627776 ≤ o.delta ∧ o.delta ≤ 1099511627776 := by
  obtain ⟨_, ⟨f, _, _, h1, h2, h3⟩, h4, h5⟩ := h
  have hw : o.delta * f.worth = w := h3
  constructor
  · by_cases hn : o.delta < -1099511627776
    · exfalso
      have p : o.delta * f.worth ≤ o.delta * 1 := Int.mul_le_mul_of_nonpos_left (by omega) h1
      omega
    · omega
  · by_cases hn : 1099511627776 < o.delta
    · exfalso
      have p : o.delta * 1 ≤ o.delta * f.worth := Int.mul_le_mul_of_nonneg_left h1 (by omega)
      omega
    · omega
theorem Worth.val {l : List Fd} {o : Opn} {w : Int} (h : Worth l o w) : worthM l o = (w, 0) := by
  obtain ⟨k, ⟨f, h0, hk, h1, h2, h3⟩, h4, h5⟩ := h
  unfold worthM
  rw [if_neg (fun g => g k), h0, if_neg (by simp [hk])]
  simp only
  rw [worthI_ok h1 h2 (by omega) (by omega), h3]
theorem Worth.over {l m : List Fd} {x : Ln} {o p : Opn} {w : Int} (h : Worth l o w) (ha : applyM l x = (m, 0)) (ho : overM x o = (p, true)) : Worth m p w := by
  have hd := h.delta
  obtain ⟨k, ⟨f, h0, hk, h1, h2, h3⟩, hb⟩ := h
  obtain ⟨g, g1, g2, g3, g4, g5, g6⟩ := over_field40 ha h0 hk k hd ho
  exact ⟨g3, ⟨g, g1, g2, g4, g5, by rw [g6, h3]⟩, hb⟩
theorem Worth.along : ∀ {xs : List Ln} {l m : List Fd} {o p : Opn} {w : Int}, Worth l o w → foldL xs l = some m → alongO xs o = (p, true) → Worth m p w
  | [], l, m, o, p, w, h, hf, ho => by
    simp only [foldL, Option.some.injEq] at hf
    simp only [alongO, Prod.mk.injEq, and_true] at ho
    subst hf ho
    exact h
  | x :: xs, l, m, o, p, w, h, hf, ho => by
    rw [alongO_cons] at ho
    unfold foldL at hf
    split at hf
    · cases hf
    · rename_i ha
      split at ho
      · simp at ho
      · rename_i hq
        have ha' : applyM l x = ((applyM l x).1, 0) := Prod.ext rfl (by simpa using ha)
        have hq' : overM x o = ((overM x o).1, true) := Prod.ext rfl (by simpa using hq)
        exact (h.over ha' hq').along hf ho
theorem Worth.start {l : List Fd} {o : Opn} (hf : fitsO l o = true) (hl : rightL l = true) (k3 : o.kind = 3) : ∃ w, Worth l o w := by
  obtain ⟨f0, f1, _, _⟩ := fitsO_place hf (placed3 k3)
  have f1 := f1 k3
  have hd := rightO_delta (fitsO_right hf)
  have hfe : findF l o.at' = ((findF l o.at').1, 0) := Prod.ext rfl f0
  have hz := find_zero f0
  generalize (findF l o.at').1 = f at *
  have fw := right_worth ((right_iff.1 hl).2.2 _ hz.1) f1
  refine ⟨o.delta * f.worth, k3, ⟨f, hfe, f1, fw.1, fw.2, rfl⟩, ?_⟩
  have p1 : o.delta * f.worth ≤ 1048576 * f.worth := Int.mul_le_mul_of_nonneg_right hd.2 (by omega)
  have p2 : (-1048576) * f.worth ≤ o.delta * f.worth := Int.mul_le_mul_of_nonneg_right hd.1 (by omega)
  omega
end Go.Proofs.YtnadlkjmdimjkaaGreat

set_option linter.unusedSimpArgs false
set_option linter.unusedVariables false
set_option linter.unusedSimpArgs false
set_option linter.unusedVariables false
namespace Go.Proofs.YtnadlkjmdimjkaaGreat
open Go.PL
def schO (o : Opn) (t : Tg) : Opn := ⟨o.id, t, o.time, o.cart, o.kind, o.item, o.at', o.delta, o.has, o.text, o.drops⟩
theorem schO_self (o : Opn) : schO o o.sch = o := by cases o; rfl
/-- what becomes of an op over the path between two tags, in the second one's words -/
def wayO (m : List Eg) (a b : Tg) (o : Opn) : Opn × Bool :=
  if pathC m a b ≠ 0 then (default, false) else if (alongO (rowM m a b).1 o).2 = false then (default, false) else (schO (alongO (rowM m a b).1 o).1 b, true)
def checkO (m : List Eg) (o : Opn) (b : Tg) : Int :=
  if rightO o = false then 5 else if upC m o.sch ≠ 0 then upC m o.sch else if upC m b ≠ 0 then upC m b else if fitsO (schM (treeOf m) o.sch).1 o = false then 16 else 0
structure SeenT where
  o : Opn
  ok : Bool
  c : Int
  deriving DecidableEq, Inhabited
def toT (m : List Eg) (o : Opn) (b : Tg) : SeenT := if checkO m o b ≠ 0 then ⟨default, false, checkO m o b⟩ else ⟨(wayO m o.sch b o).1, (wayO m o.sch b o).2, 0⟩
def roundT (m : List Eg) (o : Opn) (b : Tg) : SeenT :=
  if (toT m o b).c ≠ 0 ∨ (toT m o b).ok = false then ⟨default, false, (toT m o b).c⟩ else ⟨(wayO m b o.sch (toT m o b).o).1, (wayO m b o.sch (toT m o b).o).2, 0⟩
def readO (m : List Eg) (o : Opn) : Bool := rightO o && (decide (upC m o.sch = 0) && fitsO (schM (treeOf m) o.sch).1 o)
theorem check_zero {m : List Eg} {o : Opn} {b : Tg} : checkO m o b = 0 ↔ rightO o = true ∧ upC m o.sch = 0 ∧ upC m b = 0 ∧ fitsO (schM (treeOf m) o.sch).1 o = true := by
  unfold checkO
  cases h1 : rightO o
  · simp
  · by_cases h2 : upC m o.sch = 0
    · by_cases h3 : upC m b = 0
      · cases h4 : fitsO (schM (treeOf m) o.sch).1 o
        · simp [h2, h3]
        · simp [h2, h3]
      · simp [h2, h3]
    · simp [h2]
theorem check_own {m : List Eg} {o : Opn} : checkO m o o.sch = 0 ↔ readO m o = true := by
  rw [check_zero]
  simp only [readO, Bool.and_eq_true, decide_eq_true_eq]
  constructor
  · rintro ⟨h1, h2, _, h4⟩; exact ⟨h1, h2, h4⟩
  · rintro ⟨h1, h2, h4⟩; exact ⟨h1, h2, h2, h4⟩
theorem check_root {m : List Eg} {o : Opn} : checkO m o default = 0 ↔ readO m o = true := by
  rw [check_zero]
  simp only [readO, Bool.and_eq_true, decide_eq_true_eq]
  have h0 : upC m default = 0 := rfl
  constructor
  · rintro ⟨h1, h2, _, h4⟩; exact ⟨h1, h2, h4⟩
  · rintro ⟨h1, h2, h4⟩; exact ⟨h1, h2, h0, h4⟩
theorem lcp_selfA : ∀ (p : List Eg), lcp p p = p.length
  | [] => rfl
  | a :: p => by simp [lcp, lcp_selfA p]
theorem row_self (m : List Eg) (a : Tg) : (rowM m a a).1 = [] := by
  unfold rowM
  split
  · rfl
  · simp [lenses, legsW, lcp_selfA]
theorem way_self {m : List Eg} {a : Tg} (h : upC m a = 0) (o : Opn) : wayO m a a o = (schO o a, true) := by
  unfold wayO
  rw [row_self, if_neg (by rw [pathC_zero.2 ⟨h, h⟩]; simp)]
  simp [alongO]
theorem own_to {m : List Eg} {o : Opn} (h : readO m o = true) : toT m o o.sch = ⟨o, true, 0⟩ := by
  have hc := check_own.2 h
  unfold toT
  rw [if_neg (by rw [hc]; simp), way_self (check_zero.1 hc).2.1, schO_self]
theorem own_round {m : List Eg} {o : Opn} (h : readO m o = true) : roundT m o o.sch = ⟨o, true, 0⟩ := by
  have hc := check_own.2 h
  unfold roundT
  rw [own_to h, if_neg (by simp), way_self (check_zero.1 hc).2.1, schO_self]
theorem own_not {m : List Eg} {o : Opn} (h : readO m o = false) : toT m o o.sch = ⟨default, false, checkO m o o.sch⟩ ∧ checkO m o o.sch ≠ 0 ∧ roundT m o o.sch = ⟨default, false, checkO m o o.sch⟩ := by
  have hc : checkO m o o.sch ≠ 0 := fun e => by rw [check_own.1 e] at h; cases h
  have ht : toT m o o.sch = ⟨default, false, checkO m o o.sch⟩ := by unfold toT; rw [if_pos hc]
  refine ⟨ht, hc, ?_⟩
  unfold roundT
  rw [ht]
  simp
theorem row_fold {m : List Eg} (hm : OkM m) (hr : RightM m) {a b : Tg} (hu : upC m a = 0) (hv : upC m b = 0) : foldL (rowM m a b).1 (schM (treeOf m) a).1 = some (schM (treeOf m) b).1 := by
  obtain ⟨wa, fa, _⟩ := live_way hu
  obtain ⟨wb, fb, _⟩ := live_way hv
  unfold rowM
  rw [if_neg (by rw [pathC_zero.2 ⟨hu, hv⟩]; simp)]
  have kp : ∀ e ∈ wayD m a, e.ln.kind ≤ 8 := fun e he => edge_kind (hr.r e (wa.mem e he))
  obtain ⟨ms, a1, a2⟩ := foldA_split (lcp (wayD m a) (wayD m b)) fa
  obtain ⟨ns, b1, b2⟩ := foldA_split (lcp (wayD m a) (wayD m b)) fb
  rw [lcp_take, b1] at a1
  cases a1
  show foldL (lenses m (legsW (wayD m a) (wayD m b))) _ = _
  rw [lenses_way hm.a wa.mem wb.mem, foldL_append, foldL_up _ (fun e he => kp e (List.mem_of_mem_drop he)) a2]
  rw [Option.bind_some, foldL_down, b2]
theorem sch_right {m : List Eg} (hr : RightM m) {a : Tg} (hu : upC m a = 0) : rightL (schM (treeOf m) a).1 = true := by
  obtain ⟨wa, fa, _⟩ := live_way hu
  exact foldA_right _ (fun e he => edge_kind (hr.r e (wa.mem e he))) right_root fa
theorem worth_sch (l : List Fd) (o : Opn) (t : Tg) : worthM l (schO o t) = worthM l o := rfl
theorem Worth.sch {l : List Fd} {o : Opn} {w : Int} (h : Worth l o w) (t : Tg) : Worth l (schO o t) w := ⟨h.k, h.f, h.b⟩
theorem way_true {m : List Eg} {a b : Tg} {o p : Opn} (h : wayO m a b o = (p, true)) : ∃ q, alongO (rowM m a b).1 o = (q, true) ∧ p = schO q b := by
  unfold wayO at h
  split at h
  · simp at h
  · split at h
    · simp at h
    · rename_i hq
      have hq' : (alongO (rowM m a b).1 o).2 = true := by simpa using hq
      simp only [Prod.mk.injEq, and_true] at h
      exact ⟨_, Prod.ext rfl hq', h.symm⟩
theorem way_false {m : List Eg} {a b : Tg} {o : Opn} (h : (wayO m a b o).2 = false) : wayO m a b o = (default, false) := by
  unfold wayO at h ⊢
  split
  · rfl
  · rename_i h1
    rw [if_neg h1] at h
    split
    · rfl
    · rename_i h2
      rw [if_neg h2] at h
      simp at h
theorem to_false {m : List Eg} {o : Opn} {b : Tg} (h : (toT m o b).c ≠ 0 ∨ (toT m o b).ok = false) : (toT m o b).o = default ∧ (toT m o b).ok = false := by
  unfold toT at h ⊢
  split
  · exact ⟨rfl, rfl⟩
  · rename_i h1
    rw [if_neg h1] at h
    have : (wayO m o.sch b o).2 = false := by simpa using h
    exact ⟨by rw [way_false this], this⟩
theorem to_code (m : List Eg) (o : Opn) (b : Tg) : (toT m o b).c = checkO m o b := by
  unfold toT
  split
  · rfl
  · rename_i h; exact (Classical.not_not.1 h).symm
/-- what an Adjust is worth, wherever it is seen -/
theorem worth_law {m : List Eg} (hm : OkM m) (hr : RightM m) {o : Opn} {b : Tg} (k3 : o.kind = 3) (hc : checkO m o b = 0) (hok : (toT m o b).ok = true) :
    ∃ w, worthM (schM (treeOf m) o.sch).1 o = (w, 0) ∧ worthM (schM (treeOf m) b).1 (toT m o b).o = (w, 0) := by
  obtain ⟨_, h2, h3, h4⟩ := check_zero.1 hc
  obtain ⟨w, hw⟩ := Worth.start h4 (sch_right hr h2) k3
  unfold toT at hok ⊢
  rw [if_neg (by rw [hc]; simp)] at hok ⊢
  obtain ⟨q, hq, hp⟩ := way_true (p := (wayO m o.sch b o).1) (Prod.ext rfl hok)
  refine ⟨w, hw.val, ?_⟩
  simp only
  rw [hp, worth_sch]
  exact (hw.along (row_fold hm hr h2 h3) hq).val
end Go.Proofs.YtnadlkjmdimjkaaGreat
