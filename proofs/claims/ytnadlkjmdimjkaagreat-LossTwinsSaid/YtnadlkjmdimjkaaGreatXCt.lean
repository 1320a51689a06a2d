/- Contracts of functions and laws of this seat, each for every input that it names: lemmas of the proof. -/
import Derived.Test.YtnadlkjmdimjkaaGreatXCs
import Derived.Test.YtnadlkjmdimjkaaGreatXBx
import Derived.Test.YtnadlkjmdimjkaaGreatXBq
set_option linter.unusedSimpArgs false
set_option linter.unusedVariables false
set_option linter.unusedSimpArgs false
set_option linter.unusedVariables false
namespace Go.Proofs.YtnadlkjmdimjkaaGreat
open Go.PL
def worthM (l : List Fd) (o : Opn) : Int × Int :=
  if o.kind ≠ 3 then (0, 11) else if (findF l o.at').2 ≠ 0 ∨ (findF l o.at').1.kind ≠ 1 then (0, 11) else worthI o.delta (findF l o.at').1.worth
theorem right_kinds {f : Fd} (h : rightF f = true) : f.kind = 1 ∨ f.kind = 2 ∨ f.kind = 3 ∨ f.kind = 4 := by
  simp only [rightF, Bool.and_eq_true] at h
  have h := h.2
  by_cases k1 : f.kind = 1
  · exact .inl k1
  · rw [if_neg k1] at h
    by_cases k3 : f.kind = 3
    · exact .inr (.inr (.inl k3))
    · simp only [if_neg k3, Bool.and_eq_true] at h
      have h := h.2
      simp [tail2] at h
      omega
set_option maxRecDepth 20000 in
set_option maxHeartbeats 8000000 in
theorem FFits_pure (f : Fd) (s : Str) (hf : f.cases'.length ≤ maxLen) : PL.Pure Tryz.prog 123 [fld f, .str s] (.bool (fitsF f s)) := by
  have hR := Right_pure f hf
  have hT := Text_pure s
  have hC := ConStr_pure f.cases' s hf
  unfold fitsF
  cases hr : rightF f
  · rw [hr] at hR
    refine PL.Pure.of_v Tryz.func123 (by decide) rfl Tryz.ntmps123 Tryz.results123 (by simp) rfl ?_
    simp only [go_sem, fld]
    refine vCall_of (hR) ?_ ?_ ?_; iterate 2 simp only [go_sem, fld]
    simp only [go_sem, Bool.false_and]
  · have hk := right_kinds hr
    rw [hr] at hR
    have e41 : decide ((s.length : Int) ≤ 40) = decide ((s.length : Int) < 41) := by rw [Bool.eq_iff_iff]; simp; omega
    rw [e41] at hT
    obtain ⟨a, kind, d, c, w⟩ := f
    simp only at hk hR hT hC ⊢
    rcases hk with rfl | rfl | rfl | rfl
    · refine PL.Pure.of_v Tryz.func123 (by decide) rfl Tryz.ntmps123 Tryz.results123 (by simp) rfl ?_
      simp only [go_sem, fld]
      refine vCall_of (hR) ?_ ?_ ?_; iterate 2 simp only [go_sem, fld]
      simp only [go_sem]
      rfl
    · refine PL.Pure.of_v Tryz.func123 (by decide) rfl Tryz.ntmps123 Tryz.results123 (by simp) rfl ?_
      simp only [go_sem, fld]
      refine vCall_of (hR) ?_ ?_ ?_; iterate 2 simp only [go_sem, fld]
      simp only [go_sem]
      refine vCall_of (hT) ?_ ?_ ?_; iterate 2 simp only [go_sem]
      simp only [go_sem]
      simp
    · refine PL.Pure.of_v Tryz.func123 (by decide) rfl Tryz.ntmps123 Tryz.results123 (by simp) rfl ?_
      simp only [go_sem, fld]
      refine vCall_of (hR) ?_ ?_ ?_; iterate 2 simp only [go_sem, fld]
      simp only [go_sem]
      refine vCall_of (hC) ?_ ?_ ?_; iterate 2 simp only [go_sem, strs]
      simp only [go_sem]
      simp
    · refine PL.Pure.of_v Tryz.func123 (by decide) rfl Tryz.ntmps123 Tryz.results123 (by simp) rfl ?_
      simp only [go_sem, fld]
      refine vCall_of (hR) ?_ ?_ ?_; iterate 2 simp only [go_sem, fld]
      simp only [go_sem]
      refine vCall_of (hT) ?_ ?_ ?_; iterate 2 simp only [go_sem]
      simp only [go_sem]
      simp
def fitsO (l : List Fd) (o : Opn) : Bool :=
  rightO o && (if placedB o = false then true else decide ((findF l o.at').2 = 0) && (if o.kind = 3 then decide ((findF l o.at').1.kind = 1) else if o.has = true then fitsF (findF l o.at').1 o.text else decide ((findF l o.at').1.kind = 4)))
set_option maxRecDepth 20000 in
set_option maxHeartbeats 8000000 in
theorem OFits_pure (l : List Fd) (o : Opn) (hl : OkFs l) (ho : o.drops.length ≤ maxLen) : PL.Pure Tryz.prog 62 [flds l, opv o] (.bool (fitsO l o)) := by
  have hR := ORight_pure o ho
  have hP := placed_pure o
  have hF := SFind_pure l o.at' (by have := hl.n; omega) hl.c
  have okf := okFind hl o.at'
  have hT := FFits_pure (findF l o.at').1 o.text (by rw [maxLen_eq]; omega)
  unfold fitsO
  cases hr : rightO o
  · rw [hr] at hR
    refine PL.Pure.of_v Tryz.func62 (by decide) rfl Tryz.ntmps62 Tryz.results62 (by simp) rfl ?_
    simp only [go_sem, flds, opv]
    refine vCall_of (hR) ?_ ?_ ?_; iterate 2 simp only [go_sem, opv]
    simp only [go_sem, Bool.false_and]
  rw [hr] at hR
  cases hp : placedB o
  · rw [hp] at hP
    refine PL.Pure.of_v Tryz.func62 (by decide) rfl Tryz.ntmps62 Tryz.results62 (by simp) rfl ?_
    simp only [go_sem, flds, opv]
    refine vCall_of (hR) ?_ ?_ ?_; iterate 2 simp only [go_sem, opv]
    simp only [go_sem, opv]
    refine vCall_of (hP) ?_ ?_ ?_; iterate 2 simp only [go_sem, opv]
    simp only [go_sem, Bool.true_and, if_true]
  rw [hp] at hP
  simp only [Bool.true_and, Bool.true_eq_false, if_false]
  generalize findF l o.at' = y at *
  obtain ⟨f, c⟩ := y
  simp only at hT okf ⊢
  by_cases hc : c = 0
  · have ec : (c != 0) = false := by simpa using hc
    simp only [hc, decide_true, Bool.true_and]
    by_cases k3 : o.kind = 3
    · have e3 : (o.kind == 3) = true := by simpa using k3
      have ek : (f.kind == 1) = decide (f.kind = 1) := by rw [Bool.eq_iff_iff]; simp
      rw [if_pos k3]
      refine PL.Pure.of_v Tryz.func62 (by decide) rfl Tryz.ntmps62 Tryz.results62 (by simp) rfl ?_
      simp only [go_sem, flds, opv]
      refine vCall_of (hR) ?_ ?_ ?_; iterate 2 simp only [go_sem, opv]
      simp only [go_sem, opv]
      refine vCall_of (hP) ?_ ?_ ?_; iterate 2 simp only [go_sem, opv]
      simp only [go_sem]
      refine vCall_of (hF) ?_ ?_ ?_; iterate 2 simp only [go_sem, flds, ref]
      simp only [go_sem, fldc, fld, ec, e3, ek]
    · have e3 : (o.kind == 3) = false := by simpa using k3
      rw [if_neg k3]
      have ek : (f.kind == 4) = decide (f.kind = 4) := by rw [Bool.eq_iff_iff]; simp
      cases hh : o.has
      · refine PL.Pure.of_v Tryz.func62 (by decide) rfl Tryz.ntmps62 Tryz.results62 (by simp) rfl ?_
        simp only [go_sem, flds, opv, hh]
        refine vCall_of hR ?_ ?_ ?_
        · simp only [go_sem, opv]
        · simp only [go_sem, opv, hh]
        simp only [go_sem, opv]
        refine vCall_of hP ?_ ?_ ?_
        · simp only [go_sem, opv]
        · simp only [go_sem, opv, hh]
        simp only [go_sem]
        refine vCall_of (hF) ?_ ?_ ?_; iterate 2 simp only [go_sem, flds, ref]
        simp only [go_sem, fldc, fld, ec, e3, ek, Bool.false_eq_true, if_false]
      · refine PL.Pure.of_v Tryz.func62 (by decide) rfl Tryz.ntmps62 Tryz.results62 (by simp) rfl ?_
        simp only [go_sem, flds, opv, hh]
        refine vCall_of hR ?_ ?_ ?_
        · simp only [go_sem, opv]
        · simp only [go_sem, opv, hh]
        simp only [go_sem, opv]
        refine vCall_of hP ?_ ?_ ?_
        · simp only [go_sem, opv]
        · simp only [go_sem, opv, hh]
        simp only [go_sem]
        refine vCall_of (hF) ?_ ?_ ?_; iterate 2 simp only [go_sem, flds, ref]
        simp only [go_sem, fldc, fld, ec, e3]
        refine vCall_of (hT) ?_ ?_ ?_; iterate 2 simp only [go_sem, fld]
        simp only [go_sem, if_true]
  · have ec : (c != 0) = true := by simpa using hc
    refine PL.Pure.of_v Tryz.func62 (by decide) rfl Tryz.ntmps62 Tryz.results62 (by simp) rfl ?_
    simp only [go_sem, flds, opv]
    refine vCall_of (hR) ?_ ?_ ?_; iterate 2 simp only [go_sem, opv]
    simp only [go_sem, opv]
    refine vCall_of (hP) ?_ ?_ ?_; iterate 2 simp only [go_sem, opv]
    simp only [go_sem]
    refine vCall_of (hF) ?_ ?_ ?_; iterate 2 simp only [go_sem, flds, ref]
    simp only [go_sem, fldc, fld, ec, hc, decide_false, Bool.false_and]
end Go.Proofs.YtnadlkjmdimjkaaGreat

set_option linter.unusedSimpArgs false
set_option linter.unusedVariables false
set_option linter.unusedSimpArgs false
set_option linter.unusedVariables false
namespace Go.Proofs.YtnadlkjmdimjkaaGreat
open Go.PL
theorem worthI_ok {n w : Int} (h1 : 1 ≤ w) (h2 : w ≤ 1048576) (h3 : -4503599627370496 ≤ n * w) (h4 : n * w ≤ 4503599627370496) : worthI n w = (n * w, 0) := by
  obtain ⟨m1, m2, m3, m4⟩ := mostOf_spec h1
  have a1 : n ≤ mostOf w := by
    refine Decidable.byContradiction fun h => ?_
    have : (mostOf w + 1) * w ≤ n * w := Int.mul_le_mul_of_nonneg_right (by omega) (by omega)
    omega
  have a2 : - mostOf w ≤ n := by
    refine Decidable.byContradiction fun h => ?_
    have : n * w ≤ (-(mostOf w + 1)) * w := Int.mul_le_mul_of_nonneg_right (by omega) (by omega)
    rw [Int.neg_mul] at this
    omega
  unfold worthI
  rw [if_neg (by omega), if_neg (by omega), wrap_id (by omega)]
theorem fitsO_place {l : List Fd} {o : Opn} (h : fitsO l o = true) (hp : placedB o = true) : (findF l o.at').2 = 0 ∧
    (o.kind = 3 → (findF l o.at').1.kind = 1) ∧ (o.kind ≠ 3 → o.has = true → fitsF (findF l o.at').1 o.text = true) ∧ (o.kind ≠ 3 → o.has = false → (findF l o.at').1.kind = 4) := by
  simp only [fitsO, hp, Bool.and_eq_true, Bool.true_eq_false, if_false, decide_eq_true_eq] at h
  obtain ⟨_, h1, h2⟩ := h
  refine ⟨h1, fun k => ?_, fun k hh => ?_, fun k hh => ?_⟩
  · rw [if_pos k] at h2; simpa using h2
  · rw [if_neg k, if_pos hh] at h2; exact h2
  · rw [if_neg k, if_neg (by rw [hh]; simp)] at h2; simpa using h2
theorem placeI_neg {l : List Rf} {r : Rf} (h : placeI l r < 0) : r ∉ l := by
  unfold placeI idx at h
  cases hf : l.findIdx? fun a => decide (r = a) with
  | none =>
    rw [List.findIdx?_eq_none_iff] at hf
    intro hm
    have := hf r hm
    simp at this
  | some i => rw [hf] at h; simp at h; omega
theorem placeI_pos {l : List Rf} {r : Rf} (h : ¬ placeI l r < 0) : ∃ g : Nat, placeI l r = (g : Int) ∧ g < l.length ∧ l.getD g default = r := by
  unfold placeI idx at h ⊢
  cases hf : l.findIdx? fun a => decide (r = a) with
  | none => rw [hf] at h; exact absurd (by decide) h
  | some i =>
    rw [List.findIdx?_eq_some_iff_getElem] at hf
    obtain ⟨h1, h2, _⟩ := hf
    refine ⟨i, rfl, h1, ?_⟩
    rw [getD_lt h1]
    simpa using (of_decide_eq_true h2).symm
theorem placeI_one {a r : Rf} (h : ¬ placeI [a] r < 0) : a = r := by
  obtain ⟨g, _, h2, h3⟩ := placeI_pos h
  have : g = 0 := by simpa using h2
  subst this
  simpa using h3
theorem OkOfHeavy (o : Opn) (h : heavyO o = false) : OkOp o := ⟨by
  simp only [heavyO, Bool.or_eq_false_iff, decide_eq_false_iff_not] at h
  omega⟩
theorem over_okD {x : Ln} {o : Opn} (h : OkOp o) : OkOp (overM x o).1 := by
  have hd := h.d
  refine ⟨?_⟩
  unfold overM becomeM
  repeat' split
  all_goals first | exact hd | exact Nat.zero_le _
end Go.Proofs.YtnadlkjmdimjkaaGreat

set_option linter.unusedSimpArgs false
set_option linter.unusedVariables false
set_option linter.unusedSimpArgs false
set_option linter.unusedVariables false
namespace Go.Proofs.YtnadlkjmdimjkaaGreat
open Go.PL
set_option maxHeartbeats 2000000 in
theorem inv_places {x : Ln} (hx : rightLn x = true) : goesR (invR x) = comesR x ∧ comesR (invR x) = goesR x := by
  have hk := (rightLn_kind hx).1
  obtain ⟨kind, ⟨sc, gr, n0⟩, nm, ot, fac, fd, fo, ba⟩ := x
  simp only at hk
  rcases hk with rfl | rfl | rfl | rfl | rfl | rfl | rfl | rfl | rfl | rfl
  all_goals simp [goesR, comesR, invR, named, rightLn] at hx ⊢
  all_goals simp_all
theorem placeI_self (c : Rf) (cs : List Rf) : placeI (c :: cs) c = 0 := by
  unfold placeI idx
  simp [List.findIdx?_cons]
theorem placeI_not {l : List Rf} {r : Rf} (h : r ∉ l) : placeI l r = -1 := by
  rcases placeI_cases l r with e | ⟨g, hg, e⟩
  · exact e
  · obtain ⟨g', _, h2, h3⟩ := placeI_pos (l := l) (r := r) (by omega)
    exact absurd (h3 ▸ getD_mem h2) h
theorem over_placed {x : Ln} {o : Opn} (hx : rightLn x = true) (hp : placedB o = true) : overM x o = if placeI (goesR x) o.at' < 0 then (o, true) else if (becomeM x o).2 = false then (default, false) else (movedO (becomeM x o).1 ((comesR x).getD 0 default), true) := by
  unfold overM
  have : ¬ (o.kind ≠ 3 ∧ o.kind ≠ 4) := by
    simp [placedB] at hp
    omega
  rw [if_neg (by rw [hx]; simp), if_neg this]
theorem moved_back (o : Opn) (r : Rf) : movedO (movedO o r) o.at' = o := by cases o; rfl
theorem fits_counter {l : List Fd} {o : Opn} {f : Fd} (hf : fitsO l o = true) (hp : placedB o = true) (he : findF l o.at' = (f, 0)) (hk : f.kind = 1) : o.kind = 3 := by
  obtain ⟨_, _, h2, h3⟩ := fitsO_place hf hp
  rw [he] at h2 h3
  refine Decidable.byContradiction fun h => ?_
  cases hh : o.has
  · have := h3 h hh; simp only at this; omega
  · have := h2 h hh; simp [fitsF, hk] at this
theorem round_at {fo ba : List Pr} (h : roundM fo ba = true) {s : Str} (hs : hasFr fo s = true) : (caseM fo s).2 = true ∧ caseM ba (caseM fo s).1 = (s, true) := by
  unfold hasFr at hs
  rw [List.any_eq_true] at hs
  obtain ⟨q, hq, e⟩ := hs
  have e : q.fr' = s := by simpa using e
  unfold roundM at h
  have := List.all_eq_true.1 h q hq
  simp only [roundP, e, Bool.and_eq_true, beq_iff_eq] at this
  exact ⟨this.1, Prod.ext this.2.2 this.2.1⟩
end Go.Proofs.YtnadlkjmdimjkaaGreat

set_option linter.unusedSimpArgs false
set_option linter.unusedVariables false
set_option linter.unusedSimpArgs false
set_option linter.unusedVariables false
namespace Go.Proofs.YtnadlkjmdimjkaaGreat
open Go.PL
/-- an op over the lenses of a row, one by one -/
def alongO : List Ln → Opn → Opn × Bool
  | [], o => (o, true)
  | x :: xs, o => if (overM x o).2 = false then (default, false) else alongO xs (overM x o).1
theorem alongO_cons (x : Ln) (xs : List Ln) (o : Opn) : alongO (x :: xs) o = if (overM x o).2 = false then (default, false) else alongO xs (overM x o).1 := rfl
/-- what an Adjust is worth, within 2^40 -/
structure Worth (l : List Fd) (o : Opn) (w : Int) : Prop where
  k : o.kind = 3
  f : ∃ f, findF l o.at' = (f, 0) ∧ f.kind = 1 ∧ 1 ≤ f.worth ∧ f.worth ≤ 1048576 ∧ o.delta * f.worth = w
  b : -1099511627776 ≤ w ∧ w ≤ 1099511627776
theorem Worth.delta {l : List Fd} {o : Opn} {w : Int} (h : Worth l o w) : -1099511627776 ≤ o.delta ∧ o.delta ≤ 1099511627776 := by
  obtain ⟨_, ⟨f, _, _, h1, h2, h3⟩, h4, h5⟩ := h
  have hw : o.delta * f.worth = w := h3
  constructor
  · by_cases hn : o.delta < -1099511627776
    · exfalso
      have p : o.delta * f.worth ≤ o.delta * 1 := Int.mul_le_mul_of_nonpos_left (by omega) h1
      omega
    · omega
  · by_cases hn : 1099511627776 < o.delta
    · exfalso
      have p : o.delta * 1 ≤ o.delta * f.worth := Int.mul_le_mul_of_nonneg_left h1 (by omega)
      omega
    · omega
theorem Worth.val {l : List Fd} {o : Opn} {w : Int} (h : Worth l o w) : worthM l o = (w, 0) := by
  obtain ⟨k, ⟨f, h0, hk, h1, h2, h3⟩, h4, h5⟩ := h
  unfold worthM
  rw [if_neg (fun g => g k), h0, if_neg (by simp [hk])]
  simp only
  rw [worthI_ok h1 h2 (by omega) (by omega), h3]
end Go.Proofs.YtnadlkjmdimjkaaGreat

set_option linter.unusedSimpArgs false
set_option linter.unusedVariables false
set_option linter.unusedSimpArgs false
set_option linter.unusedVariables false
namespace Go.Proofs.YtnadlkjmdimjkaaGreat
open Go.PL
def schO (o : Opn) (t : Tg) : Opn := ⟨o.id, t, o.time, o.cart, o.kind, o.item, o.at', o.delta, o.has, o.text, o.drops⟩
/-- what becomes of an op over the path between two tags, in the second one's words -/
def wayO (m : List Eg) (a b : Tg) (o : Opn) : Opn × Bool :=
  if pathC m a b ≠ 0 then (default, false) else if (alongO (rowM m a b).1 o).2 = false then (default, false) else (schO (alongO (rowM m a b).1 o).1 b, true)
def checkO (m : List Eg) (o : Opn) (b : Tg) : Int :=
  if rightO o = false then 5 else if upC m o.sch ≠ 0 then upC m o.sch else if upC m b ≠ 0 then upC m b else if fitsO (schM (treeOf m) o.sch).1 o = false then 16 else 0
structure SeenT where
  o : Opn
  ok : Bool
  c : Int
  deriving DecidableEq, Inhabited
def toT (m : List Eg) (o : Opn) (b : Tg) : SeenT := if checkO m o b ≠ 0 then ⟨default, false, checkO m o b⟩ else ⟨(wayO m o.sch b o).1, (wayO m o.sch b o).2, 0⟩
def roundT (m : List Eg) (o : Opn) (b : Tg) : SeenT :=
  if (toT m o b).c ≠ 0 ∨ (toT m o b).ok = false then ⟨default, false, (toT m o b).c⟩ else ⟨(wayO m b o.sch (toT m o b).o).1, (wayO m b o.sch (toT m o b).o).2, 0⟩
def readO (m : List Eg) (o : Opn) : Bool := rightO o && (decide (upC m o.sch = 0) && fitsO (schM (treeOf m) o.sch).1 o)
theorem check_zero {m : List Eg} {o : Opn} {b : Tg} : checkO m o b = 0 ↔ rightO o = true ∧ upC m o.sch = 0 ∧ upC m b = 0 ∧ fitsO (schM (treeOf m) o.sch).1 o = true := by
  unfold checkO
  cases h1 : rightO o
  · simp
  · by_cases h2 : upC m o.sch = 0
    · by_cases h3 : upC m b = 0
      · cases h4 : fitsO (schM (treeOf m) o.sch).1 o
        · simp [h2, h3]
        · simp [h2, h3]
      · simp [h2, h3]
    · simp [h2]
theorem check_own {m : List Eg} {o : Opn} : checkO m o o.sch = 0 ↔ readO m o = true := by
  rw [check_zero]
  simp only [readO, Bool.and_eq_true, decide_eq_true_eq]
  constructor
  · rintro ⟨h1, h2, _, h4⟩; exact ⟨h1, h2, h4⟩
  · rintro ⟨h1, h2, h4⟩; exact ⟨h1, h2, h2, h4⟩
theorem lcp_selfA : ∀ (p : List Eg), lcp p p = p.length
  | [] => rfl
  | a :: p => by simp [lcp, lcp_selfA p]
theorem row_self (m : List Eg) (a : Tg) : (rowM m a a).1 = [] := by
  unfold rowM
  split
  · rfl
  · simp [lenses, legsW, lcp_selfA]
theorem row_fold {m : List Eg} (hm : OkM m) (hr : RightM m) {a b : Tg} (hu : upC m a = 0) (hv : upC m b = 0) : foldL (rowM m a b).1 (schM (treeOf m) a).1 = some (schM (treeOf m) b).1 := by
  obtain ⟨wa, fa, _⟩ := live_way hu
  obtain ⟨wb, fb, _⟩ := live_way hv
  unfold rowM
  rw [if_neg (by rw [pathC_zero.2 ⟨hu, hv⟩]; simp)]
  have kp : ∀ e ∈ wayD m a, e.ln.kind ≤ 8 := fun e he => edge_kind (hr.r e (wa.mem e he))
  obtain ⟨ms, a1, a2⟩ := foldA_split (lcp (wayD m a) (wayD m b)) fa
  obtain ⟨ns, b1, b2⟩ := foldA_split (lcp (wayD m a) (wayD m b)) fb
  rw [lcp_take, b1] at a1
  cases a1
  show foldL (lenses m (legsW (wayD m a) (wayD m b))) _ = _
  rw [lenses_way hm.a wa.mem wb.mem, foldL_append, foldL_up _ (fun e he => kp e (List.mem_of_mem_drop he)) a2]
  rw [Option.bind_some, foldL_down, b2]
theorem sch_right {m : List Eg} (hr : RightM m) {a : Tg} (hu : upC m a = 0) : rightL (schM (treeOf m) a).1 = true := by
  obtain ⟨wa, fa, _⟩ := live_way hu
  exact foldA_right _ (fun e he => edge_kind (hr.r e (wa.mem e he))) right_root fa
theorem Worth.sch {l : List Fd} {o : Opn} {w : Int} (h : Worth l o w) (t : Tg) : Worth l (schO o t) w := ⟨h.k, h.f, h.b⟩
end Go.Proofs.YtnadlkjmdimjkaaGreat

set_option linter.unusedSimpArgs false
set_option linter.unusedVariables false
set_option linter.unusedSimpArgs false
set_option linter.unusedVariables false
namespace Go.Proofs.YtnadlkjmdimjkaaGreat
open Go.PL
set_option maxHeartbeats 2000000 in
theorem invR_invR {x : Ln} (hx : rightLn x = true) : invR (invR x) = x := by
  have hk := (rightLn_kind hx).1
  obtain ⟨kind, ⟨sc, gr, n0⟩, nm, ot, fac, fd, fo, ba⟩ := x
  simp only at hk
  rcases hk with rfl | rfl | rfl | rfl | rfl | rfl | rfl | rfl | rfl | rfl
  all_goals simp [invR, rightLn] at hx ⊢
  all_goals simp_all
/-- an op's field, as far as the way back needs it -/
def FitP (l : List Fd) (o : Opn) : Prop := ∃ f, findF l o.at' = (f, 0) ∧ placedB o = true ∧ (o.kind = 3 ↔ f.kind = 1) ∧ (o.has = true → f.kind = 3 → f.cases'.any (· == o.text) = true)
theorem fitP_of {l : List Fd} {o : Opn} (h : fitsO l o = true) (hp : placedB o = true) : FitP l o := by
  obtain ⟨f0, f1, f2, f3⟩ := fitsO_place h hp
  have hfe : findF l o.at' = ((findF l o.at').1, 0) := Prod.ext rfl f0
  refine ⟨_, hfe, hp, ⟨f1, fun hk => fits_counter h hp hfe hk⟩, fun hh hk => ?_⟩
  by_cases k3 : o.kind = 3
  · have := f1 k3; omega
  · have := f2 k3 hh
    simp only [fitsF, hk, if_true, Bool.and_eq_true] at this
    exact this.2
theorem placed_kinds {o : Opn} (h : placedB o = true) : o.kind = 3 ∨ o.kind = 4 := by simpa [placedB] using h
set_option maxHeartbeats 4000000 in
theorem kept_step {l m : List Fd} {x : Ln} {o : Opn} (ha : applyM l x = (m, 0)) (hf : FitP l o) (hk : keptM x o.at' = true) :
    ∃ p, overM x o = (p, true) ∧ FitP m p ∧ overM (invR x) p = (o, true) ∧ traceM x o.at' = (p.at', true) := by
  obtain ⟨hl, hx, cs, l1, e1, e2, e3⟩ := apply_fwd ha
  obtain ⟨a1, a2, a3, a4, a5⟩ := go_fwd hl e2
  obtain ⟨b1, b2, b3, b4, b5⟩ := come_fwd a1 e3
  have hkd := (rightLn_kind hx).1
  have hy := right_inv hx hkd
  obtain ⟨i1, i2⟩ := inv_places hx
  have hpl := arr_places hkd e1
  have hm := (right_iff.1 b1).2
  obtain ⟨f, hfe, hp, h3, hc3⟩ := hf
  have pk := placed_kinds hp
  have hfl := find_zero (l := l) (r := o.at') (by rw [hfe])
  rw [hfe] at hfl
  simp only at hfl
  obtain ⟨fm, fa⟩ := hfl
  have coming : ∀ g ∈ cs, findF m g.at' = (g, 0) := fun g hg => find_mem hm.1 ((b2 g).2 (.inr hg))
  have hov := over_placed hx hp
  have hkk : keptM x o.at' = if placeI (goesR x) o.at' < 0 then true else if x.kind = 1 ∨ x.kind = 4 ∨ x.kind = 5 ∨ x.kind = 6 ∨ x.kind = 7 ∨ x.kind = 10 then true
      else if x.kind = 9 then placeI (goesR x) o.at' == 0 else if x.kind = 8 then roundM x.fo x.ba else false := by
    unfold keptM
    rw [if_neg (by rw [hx]; simp)]
    rfl
  by_cases hg : placeI (goesR x) o.at' < 0
  · rw [if_pos hg] at hov
    have hf1 : f ∈ l1 := (a2 f).2 ⟨fm, by rw [fa]; exact placeI_neg hg⟩
    have hfm := find_mem hm.1 ((b2 f).2 (.inl hf1))
    rw [fa] at hfm
    refine ⟨o, hov, ⟨f, hfm, hp, h3, hc3⟩, ?_, trace_stay hx (placeI_neg hg)⟩
    rw [over_placed hy hp, i1, if_pos]
    rw [placeI_not]
    · omega
    · intro hc
      rw [← hpl] at hc
      obtain ⟨c, hc1, hc2⟩ := List.mem_map.1 hc
      exact (b3 c hc1).2 f hf1 (by rw [fa, hc2])
  · rw [if_neg hg] at hov
    rw [hkk, if_neg hg] at hk
    have hin : o.at' ∈ goesR x := by
      obtain ⟨g, _, g2, g3⟩ := placeI_pos hg
      rw [← g3]; exact getD_mem g2
    have tr' : ∀ c0 cs', comesR x = c0 :: cs' → traceM x o.at' = (c0, true) := fun c0 cs' hc => by
      rw [trace_go hx hin, hc]; simp
    have back : ∀ (p : Opn) (c0 : Rf) (cs' : List Rf), comesR x = c0 :: cs' → p.at' = c0 → placedB p = true → becomeM (invR x) p = (p, true) → overM (invR x) p = (movedO p ((goesR x).getD 0 default), true) := fun p c0 cs' hc hpa hpp hb => by
      rw [over_placed hy hpp, i1, i2, hc, hpa, placeI_self, if_neg (by omega), hb]
      simp
    have pm : ∀ r, placedB (movedO o r) = true := fun r => hp
    have cm : ∀ (r : Rf) (g : Fd), g ∈ cs → g.at' = r → (o.kind = 3 ↔ g.kind = 1) → (o.has = true → g.kind = 3 → g.cases'.any (· == o.text) = true) → FitP m (movedO o r) := fun r g hg hr h1 h2 => by
      subst hr
      exact ⟨g, coming g hg, hp, h1, h2⟩
    clear b4 b5 a3 a4 a5
    obtain ⟨kind, at', nm, ot, fac, fd, fo, ba⟩ := x
    simp only at hkd
    rcases hkd with rfl | rfl | rfl | rfl | rfl | rfl | rfl | rfl | rfl | rfl
    · have hat : at' = o.at' := placeI_one (by simpa [goesR] using hg)
      subst hat
      simp [arrM, comesR, hfe] at e1
      have hc : comesR ⟨1, o.at', nm, ot, fac, fd, fo, ba⟩ = [named o.at' nm] := by simp [comesR]
      refine ⟨movedO o (named o.at' nm), by rw [hov]; simp [becomeM, hc], cm _ ⟨named o.at' nm, f.kind, f.df, f.cases', f.worth⟩ (by rw [← e1]; simp) rfl h3 hc3, ?_, tr' _ _ hc⟩
      rw [back (movedO o (named o.at' nm)) _ _ hc rfl (pm _) (by simp [becomeM, invR])]
      simp [goesR, moved_back]
    · exact absurd (show placeI (goesR ⟨2, at', nm, ot, fac, fd, fo, ba⟩) o.at' < 0 from (by decide : (-1 : Int) < 0)) hg
    · simp at hk
    · have hat : at' = o.at' := placeI_one (by simpa [goesR] using hg)
      subst hat
      simp [arrM, comesR, hfe] at e1
      have hc : comesR ⟨4, o.at', nm, ot, fac, fd, fo, ba⟩ = [⟨o.at'.sc, [], o.at'.nm⟩] := by simp [comesR]
      refine ⟨movedO o ⟨o.at'.sc, [], o.at'.nm⟩, by rw [hov]; simp [becomeM, hc], cm _ ⟨⟨o.at'.sc, [], o.at'.nm⟩, f.kind, f.df, f.cases', f.worth⟩ (by rw [← e1]; simp) rfl h3 hc3, ?_, tr' _ _ hc⟩
      rw [back (movedO o ⟨o.at'.sc, [], o.at'.nm⟩) _ _ hc rfl (pm _) (by simp [becomeM, invR])]
      simp [goesR, moved_back]
    · have hat : at' = o.at' := placeI_one (by simpa [goesR] using hg)
      subst hat
      simp [arrM, comesR, hfe] at e1
      have hc : comesR ⟨5, o.at', nm, ot, fac, fd, fo, ba⟩ = [⟨o.at'.sc, nm, o.at'.nm⟩] := by simp [comesR]
      refine ⟨movedO o ⟨o.at'.sc, nm, o.at'.nm⟩, by rw [hov]; simp [becomeM, hc], cm _ ⟨⟨o.at'.sc, nm, o.at'.nm⟩, f.kind, f.df, f.cases', f.worth⟩ (by rw [← e1]; simp) rfl h3 hc3, ?_, tr' _ _ hc⟩
      rw [back (movedO o ⟨o.at'.sc, nm, o.at'.nm⟩) _ _ hc rfl (pm _) (by simp [becomeM, invR])]
      simp [goesR, moved_back]
    · have hat : at' = o.at' := placeI_one (by simpa [goesR] using hg)
      subst hat
      simp [arrM, hfe] at e1
      have k3 := h3.2 e1.2
      have hc : comesR ⟨6, o.at', nm, ot, fac, fd, fo, ba⟩ = [named o.at' nm, named o.at' ot] := by simp [comesR]
      refine ⟨movedO o (named o.at' nm), by rw [hov]; simp [becomeM, hc, k3], cm _ ⟨named o.at' nm, 1, [], [], f.worth⟩ (by rw [← e1.1]; simp) rfl (by simp [k3]) (fun _ h => by simp at h), ?_, tr' _ _ hc⟩
      have hb : becomeM (invR ⟨6, o.at', nm, ot, fac, fd, fo, ba⟩) (movedO o (named o.at' nm)) = (movedO o (named o.at' nm), true) := by
        have hpi : placeI (goesR (invR ⟨6, o.at', nm, ot, fac, fd, fo, ba⟩)) (movedO o (named o.at' nm)).at' = 0 := by rw [i1, hc]; exact placeI_self _ _
        unfold becomeM
        rw [hpi]
        simp [invR, mergeD, movedO, deltaO, k3]
      rw [back (movedO o (named o.at' nm)) _ _ hc rfl (pm _) hb]
      simp [goesR, moved_back]
    · have hat : at' = o.at' := placeI_one (by simpa [goesR] using hg)
      subst hat
      simp [arrM, hfe] at e1
      have k4 : o.kind = 4 := by
        rcases pk with h | h
        · have := h3.1 h; omega
        · exact h
      have hc : comesR ⟨7, o.at', nm, ot, fac, fd, fo, ba⟩ = [o.at'] := by simp [comesR]
      refine ⟨movedO o o.at', by rw [hov]; simp [becomeM, hc, k4], cm _ ⟨o.at', 4, [], [], 0⟩ (by rw [← e1.1]; simp) rfl (by simp [k4]) (fun _ h => by simp at h), ?_, tr' _ _ hc⟩
      rw [back (movedO o o.at') _ _ hc rfl (pm _) (by simp [becomeM, invR, movedO, k4])]
      simp [goesR, moved_back]
    · have hat : at' = o.at' := placeI_one (by simpa [goesR] using hg)
      subst hat
      simp [arrM, hfe] at e1
      have k4 : o.kind = 4 := by
        rcases pk with h | h
        · have := h3.1 h; rw [e1.2] at this; simp at this
        · exact h
      have hkp : roundM fo ba = true := by simpa using hk
      have hc : comesR ⟨8, o.at', nm, ot, fac, fd, fo, ba⟩ = [o.at'] := by simp [comesR]
      have hg8 : (⟨o.at', 3, ot, fromsM ba, 0⟩ : Fd) ∈ cs := by rw [← e1.1]; simp
      cases hh : o.has
      · have hcv : convT o fo = (o.text, true) := by unfold convT; rw [if_neg (by omega), if_pos hh]
        have hto : textO o o.text = o := by cases o; rfl
        refine ⟨movedO o o.at', by rw [hov]; simp [becomeM, hc, hcv, hto], cm _ _ hg8 rfl (by simp [k4]) (fun h _ => by rw [hh] at h; cases h), ?_, tr' _ _ hc⟩
        have hb : becomeM (invR ⟨8, o.at', nm, ot, fac, fd, fo, ba⟩) (movedO o o.at') = (movedO o o.at', true) := by
          have hcv2 : convT (movedO o o.at') ba = (o.text, true) := by unfold convT; rw [if_neg (by simp [movedO, k4]), if_pos (by exact hh)]; rfl
          have hto2 : textO (movedO o o.at') o.text = movedO o o.at' := by cases o; rfl
          simp [becomeM, invR, hcv2, hto2]
        rw [back (movedO o o.at') _ _ hc rfl (pm _) hb]
        simp [goesR, moved_back]
      · have hfr : hasFr fo o.text = true := by
          rw [← has_froms]
          have := hc3 hh (by rw [e1.2])
          rw [e1.2] at this
          exact this
        have hcs : (caseM fo o.text).2 = true := by rw [caseM_snd]; exact hfr
        have hcv : convT o fo = caseM fo o.text := by unfold convT; rw [if_neg (by omega), if_neg (by rw [hh]; simp)]
        obtain ⟨_, hr⟩ := round_at hkp hfr
        have hin2 : (fromsM ba).any (· == (caseM fo o.text).1) = true := by rw [has_froms, ← caseM_snd, hr]
        refine ⟨movedO (textO o (caseM fo o.text).1) o.at', by rw [hov]; simp [becomeM, hc, hcv, hcs], ⟨_, coming _ hg8, hp, by simp [movedO, textO, k4], fun _ _ => hin2⟩, ?_, tr' _ _ hc⟩
        have hb : becomeM (invR ⟨8, o.at', nm, ot, fac, fd, fo, ba⟩) (movedO (textO o (caseM fo o.text).1) o.at') = (textO (movedO (textO o (caseM fo o.text).1) o.at') o.text, true) := by
          have : convT (movedO (textO o (caseM fo o.text).1) o.at') ba = (o.text, true) := by
            unfold convT
            rw [if_neg (by simp [movedO, textO, k4]), if_neg (by simp [movedO, textO, hh])]
            exact hr
          simp [becomeM, invR, this]
        rw [over_placed hy (by exact hp), i1, i2, hc, hb]
        have hpi : placeI [o.at'] (movedO (textO o (caseM fo o.text).1) o.at').at' = 0 := placeI_self _ _
        rw [hpi, if_neg (by omega)]
        simp [goesR]
        cases o; rfl
    · simp [arrM, mergedM] at e1
      have hgo : goesR ⟨9, at', nm, ot, fac, fd, fo, ba⟩ = [named at' nm, named at' ot] := by simp [goesR]
      have hc : comesR ⟨9, at', nm, ot, fac, fd, fo, ba⟩ = [at'] := by simp [comesR]
      rw [hgo] at hg hk
      obtain ⟨g, hg1, hg2, hg3⟩ := placeI_pos hg
      have h0 : g = 0 := by simp [hg1] at hk; exact hk
      subst h0
      have hat : named at' nm = o.at' := by simpa using hg3
      split at e1
      · simp at e1
      split at e1
      · simp at e1
      · rename_i u1 u2
        simp only [not_or, Decidable.not_not] at u1 u2
        simp only [Prod.mk.injEq, and_true] at e1
        have hf1 : f.kind = 1 := by have := u1.2; rw [hat, hfe] at this; exact this
        have k3 := h3.2 hf1
        have hb2 : becomeM ⟨9, at', nm, ot, fac, fd, fo, ba⟩ o = (o, true) := by
          have hd0 : deltaO o o.delta = o := by cases o; rfl
          simp [becomeM, hgo, hg1, mergeD, k3, hd0]
        refine ⟨movedO o at', by rw [hov, hb2]; simp [hc], cm _ ⟨at', 1, [], [], (findF l (named at' nm)).1.worth⟩ (by rw [← e1]; simp) rfl (by simp [k3]) (fun _ h => by simp at h), ?_, tr' _ _ hc⟩
        rw [back (movedO o at') _ _ hc rfl (pm _) (by simp [becomeM, invR, movedO, k3])]
        rw [hgo]
        simp only [List.getD_cons_zero]
        rw [hat, moved_back]
    · have hat : at' = o.at' := placeI_one (by simpa [goesR] using hg)
      subst hat
      simp [arrM, hfe] at e1
      have k4 : o.kind = 4 := by
        rcases pk with h | h
        · have := h3.1 h; omega
        · exact h
      have hc : comesR ⟨10, o.at', nm, ot, fac, fd, fo, ba⟩ = [o.at'] := by simp [comesR]
      refine ⟨movedO o o.at', by rw [hov]; simp [becomeM, hc, k4], cm _ ⟨o.at', 2, ot, [], 0⟩ (by rw [← e1.1]; simp) rfl (by simp [k4]) (fun _ h => by simp at h), ?_, tr' _ _ hc⟩
      rw [back (movedO o o.at') _ _ hc rfl (pm _) (by simp [becomeM, invR, movedO, k4])]
      simp [goesR, moved_back]
theorem alongO_append (xs ys : List Ln) (o : Opn) : alongO (xs ++ ys) o = if (alongO xs o).2 = false then (default, false) else alongO ys (alongO xs o).1 := by
  induction xs generalizing o with
  | nil => simp [alongO]
  | cons x xs ih =>
    rw [List.cons_append, alongO_cons, alongO_cons]
    split
    · simp
    · exact ih _
/-- over a row and back, where the place is kept -/
theorem kept_along : ∀ (xs : List Ln) {l m : List Fd} {o : Opn}, foldL xs l = some m → FitP l o → keptL xs o.at' = true → ∃ p, alongO xs o = (p, true) ∧ alongO (xs.map invR).reverse p = (o, true)
  | [], l, m, o, _, _, _ => ⟨o, rfl, rfl⟩
  | x :: xs, l, m, o, hf, hfit, hk => by
    rw [keptL_cons] at hk
    split at hk
    · cases hk
    · rename_i hz
      unfold foldL at hf
      split at hf
      · cases hf
      · rename_i ha
        obtain ⟨p, p1, p2, p3, p4⟩ := kept_step (m := (applyM l x).1) (Prod.ext rfl (Classical.not_not.1 ha)) hfit (by simpa using hz)
        rw [p4, if_neg (by simp)] at hk
        obtain ⟨q, q1, q2⟩ := kept_along xs hf p2 hk
        refine ⟨q, by rw [alongO_cons, p1, if_neg (by simp)]; exact q1, ?_⟩
        rw [List.map_cons, List.reverse_cons, alongO_append, q2, if_neg (by simp), alongO_cons, p3]
        rfl
theorem over_plain {x : Ln} {o : Opn} (hx : rightLn x = true) (h : placedB o = false) : overM x o = (o, true) := by
  unfold overM
  rw [if_neg (by rw [hx]; simp), if_pos]
  simpa [placedB] using h
theorem along_plain : ∀ (xs : List Ln) {o : Opn}, (∀ x ∈ xs, rightLn x = true) → placedB o = false → alongO xs o = (o, true)
  | [], o, _, _ => rfl
  | x :: xs, o, hx, h => by
    rw [alongO_cons, over_plain (hx x (by simp)) h, if_neg (by simp)]
    exact along_plain xs (fun y hy => hx y (by simp [hy])) h
theorem over_sch (x : Ln) (o : Opn) (t : Tg) : overM x (schO o t) = if (overM x o).2 = false then (default, false) else (schO (overM x o).1 t, true) := by
  have hb : becomeM x (schO o t) = (schO (becomeM x o).1 t, (becomeM x o).2) := by
    unfold becomeM
    repeat' split
    all_goals rfl
  unfold overM
  rw [hb]
  have e1 : (schO o t).kind = o.kind := rfl
  have e2 : (schO o t).at' = o.at' := rfl
  rw [e1, e2]
  repeat' split
  all_goals first | rfl | (simp_all; done) | (rename_i h; simp at h; done) | skip
theorem along_sch : ∀ (xs : List Ln) (o : Opn) (t : Tg), alongO xs (schO o t) = if (alongO xs o).2 = false then (default, false) else (schO (alongO xs o).1 t, true)
  | [], o, t => by simp [alongO]
  | x :: xs, o, t => by
    rw [alongO_cons, alongO_cons, over_sch]
    by_cases h : (overM x o).2 = false
    · simp [h]
    · simp only [h, if_false]
      rw [if_neg (by simp)]
      exact along_sch xs _ t
theorem row_right {m : List Eg} (hm : OkM m) (hr : RightM m) {a b : Tg} : ∀ x ∈ (rowM m a b).1, rightLn x = true := by
  unfold rowM
  split
  · simp
  · rename_i hc
    have hc := Classical.not_not.1 hc
    obtain ⟨wa, _, _⟩ := live_way (pathC_zero.1 hc).1
    obtain ⟨wb, _, _⟩ := live_way (pathC_zero.1 hc).2
    show ∀ x ∈ lenses m (legsW (wayD m a) (wayD m b)), _
    rw [lenses_way hm.a wa.mem wb.mem]
    have ke : ∀ e ∈ m, rightLn e.ln = true := fun e he => edge_right (hr.r e he)
    intro x hx
    rcases List.mem_append.1 hx with h | h
    · obtain ⟨e, he, rfl⟩ := List.mem_map.1 h
      have := ke e (wa.mem e (List.mem_of_mem_drop (List.mem_reverse.1 he)))
      exact right_inv this (rightLn_kind this).1
    · obtain ⟨e, he, rfl⟩ := List.mem_map.1 h
      exact ke e (wb.mem e (List.mem_of_mem_drop he))
theorem row_back {m : List Eg} (hm : OkM m) (hr : RightM m) {a b : Tg} (hc : pathC m a b = 0) : (rowM m b a).1 = ((rowM m a b).1.map invR).reverse := by
  have hd : pathC m b a = 0 := pathC_zero.2 ⟨(pathC_zero.1 hc).2, (pathC_zero.1 hc).1⟩
  obtain ⟨wa, _, _⟩ := live_way (pathC_zero.1 hc).1
  obtain ⟨wb, _, _⟩ := live_way (pathC_zero.1 hc).2
  unfold rowM
  rw [if_neg (by rw [hd]; simp), if_neg (by rw [hc]; simp)]
  show lenses m (legsW (wayD m b) (wayD m a)) = ((lenses m (legsW (wayD m a) (wayD m b))).map invR).reverse
  rw [lenses_way hm.a wa.mem wb.mem, lenses_way hm.a wb.mem wa.mem, lcp_comm (wayD m b) (wayD m a)]
  have ke : ∀ e ∈ m, invR (invR e.ln) = e.ln := fun e he => invR_invR (edge_right (hr.r e he))
  rw [List.map_append, List.reverse_append, List.map_map, List.map_map]
  congr 1
  · rw [List.map_reverse]; rfl
  · rw [← List.map_reverse, List.reverse_reverse]
    apply List.map_congr_left
    intro e he
    exact (ke e (wa.mem e (List.mem_of_mem_drop he))).symm
/-- there and back -/
theorem round_kept {m : List Eg} (hm : OkM m) (hr : RightM m) {o : Opn} {b : Tg} (hc : checkO m o b = 0) (hk : keptT m o.sch b o.at' = true ∨ placedB o = false) : roundT m o b = ⟨o, true, 0⟩ := by
  obtain ⟨_, h2, h3, h4⟩ := check_zero.1 hc
  have pc : pathC m o.sch b = 0 := pathC_zero.2 ⟨h2, h3⟩
  have pd : pathC m b o.sch = 0 := pathC_zero.2 ⟨h3, h2⟩
  have key : ∃ p, alongO (rowM m o.sch b).1 o = (p, true) ∧ alongO (rowM m b o.sch).1 p = (o, true) := by
    by_cases hp : placedB o = false
    · exact ⟨o, along_plain _ (row_right hm hr) hp, along_plain _ (row_right hm hr) hp⟩
    · have hp' : placedB o = true := by simpa using hp
      have hk' : keptT m o.sch b o.at' = true := by rcases hk with h | h; exact h; exact absurd h hp
      unfold keptT at hk'
      rw [if_neg (by rw [pc]; simp)] at hk'
      rw [row_back hm hr pc]
      exact kept_along _ (row_fold hm hr h2 h3) (fitP_of h4 hp') hk'
  obtain ⟨p, p1, p2⟩ := key
  have ht : toT m o b = ⟨schO p b, true, 0⟩ := by
    unfold toT
    rw [if_neg (by rw [hc]; simp)]
    unfold wayO
    rw [if_neg (by rw [pc]; simp), p1, if_neg (by simp)]
  unfold roundT
  rw [ht, if_neg (by simp)]
  unfold wayO
  simp only
  rw [if_neg (by rw [pd]; simp), along_sch, p2, if_neg (by simp), if_neg (by simp)]
  show SeenT.mk (schO (schO o b) o.sch) true 0 = _
  congr 1
end Go.Proofs.YtnadlkjmdimjkaaGreat
