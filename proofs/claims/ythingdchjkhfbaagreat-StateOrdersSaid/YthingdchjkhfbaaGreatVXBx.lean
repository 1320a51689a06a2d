/- Contracts of functions and laws of this seat, each for every input that it names: lemmas of the proof. -/
import Derived.Test.YthingdchjkhfbaaGreatVXBd
import Derived.Test.YthingdchjkhfbaaGreatVXBe
import Derived.Test.YthingdchjkhfbaaGreatVXBv
set_option linter.unusedSimpArgs false
set_option linter.unusedVariables false
set_option linter.unusedSimpArgs false
set_option linter.unusedVariables false
namespace Go.Proofs.YthingdchjkhfbaaGreat
open Go.PL
def mostOf (w : Int) : Int := (4503599627370496 : Int).tdiv w
theorem mostOf_spec {w : Int} (h : 1 ≤ w) : 0 ≤ mostOf w ∧ mostOf w ≤ 4503599627370496 ∧ mostOf w * w ≤ 4503599627370496 ∧ 4503599627370496 < (mostOf w + 1) * w := by
 unfold mostOf
 have e : (4503599627370496 : Int).tdiv w = (4503599627370496 : Int) / w := Int.tdiv_eq_ediv_of_nonneg (by omega)
 rw [e]
 have h1 : (4503599627370496 : Int) / w * w ≤ 4503599627370496 := Int.ediv_mul_le _ (by omega)
 have h2 := Int.lt_ediv_add_one_mul_self 4503599627370496 (show 0 < w by omega)
 have h3 : 0 ≤ (4503599627370496 : Int) / w := Int.ediv_nonneg (by omega) (by omega)
 have h4 : (4503599627370496 : Int) / w ≤ 4503599627370496 := Int.ediv_le_self _ (by omega)
 exact ⟨h3, h4, h1, h2⟩
def joinI (u p f : Int) : Int × Int :=
 if ¬ (2 ≤ f ∧ f ≤ 1000) then (0, 2) else if p < - mostOf f ∨ mostOf f < p then (0, 3)
 else if fitsI (IntKind.i64.wrap (u + IntKind.i64.wrap (f * p))) = true then (IntKind.i64.wrap (u + IntKind.i64.wrap (f * p)), 0) else (0, 3)
def intc (x : Int × Int) : PV := .tup [.int .i64 x.1, .int .i64 x.2]
theorem wrap_id {n : Int} (h : -9223372036854775808 ≤ n ∧ n ≤ 9223372036854775807) : IntKind.i64.wrap n = n := w64 (by omega)
set_option maxRecDepth 20000 in
set_option maxHeartbeats 8000000 in
theorem Join_pure' (u p f : Int) (hu : Lim u) (hp : Lim p) : PL.Pure Tryz.prog 183 [.cpx .f64 (flOf u) (flOf p), .int .i64 f] (intc (joinI u p f)) := by
 have hF := Factor_pure f
 have hP := Parts_pure u p hu hp
 have hA := away_pure (IntKind.i64.wrap (u + IntKind.i64.wrap (f * p)))
 unfold joinI
 by_cases hf : 2 ≤ f ∧ f ≤ 1000
 ·have e1 : (decide (2 ≤ f) && decide (f ≤ 1000)) = true := by simpa using hf
  rw [e1] at hF
  rw [if_neg (fun h => h hf)]
  have ms := mostOf_spec (w := f) (by omega)
  have q1 : IntKind.i64.wrap ((4503599627370496 : Int).tdiv f) = mostOf f := wrap_id (by unfold mostOf at ms; omega)
  have q2 : IntKind.i64.wrap (0 - mostOf f) = - mostOf f := by rw [wrap_id (by omega)]; omega
  have fz : f ≠ 0 := by omega
  by_cases c1 : p < - mostOf f
  ·rw [if_pos (.inl c1)]
   refine PL.Pure.of_v Tryz.func183 (by decide) rfl Tryz.ntmps183 Tryz.results183 (by simp) (rfl) ?_
   simp only [go_sem]
   refine vCall_of (hF) ?_ ?_ ?_; iterate 2 simp only [go_sem]
   simp only [go_sem]
   refine vCall_of (hP) ?_ ?_ ?_; iterate 2 simp only [go_sem]
   simp only [go_sem, q1, q2, fz, c1, intc]
  ·by_cases c2 : mostOf f < p
   ·rw [if_pos (.inr c2)]
    refine PL.Pure.of_v Tryz.func183 (by decide) rfl Tryz.ntmps183 Tryz.results183 (by simp) (rfl) ?_
    simp only [go_sem]
    refine vCall_of (hF) ?_ ?_ ?_; iterate 2 simp only [go_sem]
    simp only [go_sem]
    refine vCall_of (hP) ?_ ?_ ?_; iterate 2 simp only [go_sem]
    simp only [go_sem, q1, q2, fz, c1, c2, intc]
   ·rw [if_neg (by omega)]
    cases ha : fitsI (IntKind.i64.wrap (u + IntKind.i64.wrap (f * p)))
    ·rw [ha] at hA
     simp only [Bool.false_eq_true, if_false]
     refine PL.Pure.of_v Tryz.func183 (by decide) rfl Tryz.ntmps183 Tryz.results183 (by simp) (rfl) ?_
     simp only [go_sem]
     refine vCall_of (hF) ?_ ?_ ?_; iterate 2 simp only [go_sem]
     simp only [go_sem]
     refine vCall_of (hP) ?_ ?_ ?_; iterate 2 simp only [go_sem]
     simp only [go_sem, q1, q2, fz, c1, c2]
     refine vCall_of (hA) ?_ ?_ ?_; iterate 2 simp only [go_sem]
     simp only [go_sem, Bool.not_false, intc]
    ·rw [ha] at hA
     simp only [if_true]
     refine PL.Pure.of_v Tryz.func183 (by decide) rfl Tryz.ntmps183 Tryz.results183 (by simp) (rfl) ?_
     simp only [go_sem]
     refine vCall_of (hF) ?_ ?_ ?_; iterate 2 simp only [go_sem]
     simp only [go_sem]
     refine vCall_of (hP) ?_ ?_ ?_; iterate 2 simp only [go_sem]
     simp only [go_sem, q1, q2, fz, c1, c2]
     refine vCall_of (hA) ?_ ?_ ?_; iterate 2 simp only [go_sem]
     simp only [go_sem, Bool.not_true, intc]
 ·have e1 : (decide (2 ≤ f) && decide (f ≤ 1000)) = false := by rw [Bool.eq_false_iff]; simpa using hf
  rw [e1] at hF
  rw [if_pos hf]
  refine PL.Pure.of_v Tryz.func183 (by decide) rfl Tryz.ntmps183 Tryz.results183 (by simp) (rfl) ?_
  simp only [go_sem]
  refine vCall_of (hF) ?_ ?_ ?_; iterate 2 simp only [go_sem]
  simp only [go_sem, intc]
structure OkOp (o : Opn) : Prop where
 d : o.drops.length ≤ 1000000
set_option maxRecDepth 20000 in
set_option maxHeartbeats 8000000 in
theorem sown_pure (o : Opn) (ho : OkOp o) : PL.Pure Tryz.prog 174 [opv o] (opv o) := by
 have hr := room1 ho.d (show 16 ≤ 1000 by omega)
 refine PL.Pure.of_v Tryz.func174 (by decide) rfl Tryz.ntmps174 Tryz.results174 (by simp) (opv_dids _) ?_
 simp only [go_sem, opv, sized_tg, atoms_tg, List.length_map, hr]
def mergeD (o : Opn) (i f : Int) : Int × Bool := if o.kind ≠ 3 then (0, false) else if i = 0 then (o.delta, true) else if fitsI o.delta = true then ((joinI 0 o.delta f).1, decide ((joinI 0 o.delta f).2 = 0)) else (0, false)
def intb (x : Int × Bool) : PV := .tup [.int .i64 x.1, .bool x.2]
set_option maxRecDepth 20000 in
set_option maxHeartbeats 8000000 in
theorem smerged_pure (o : Opn) (i f : Int) : PL.Pure Tryz.prog 185 [opv o, .int .i64 i, .int .i64 f] (intb (mergeD o i f)) := by
 unfold mergeD
 by_cases k3 : o.kind = 3
 ·have e3 : (o.kind != 3) = false := by simpa using k3
  rw [if_neg (fun h => h k3)]
  by_cases i0 : i = 0
  ·have ei : (i == 0) = true := by simpa using i0
   rw [if_pos i0]
   refine PL.Pure.of_v Tryz.func185 (by decide) rfl Tryz.ntmps185 Tryz.results185 (by simp) (rfl) ?_
   simp only [go_sem, opv, e3, ei, intb]
  ·have ei : (i == 0) = false := by simpa using i0
   rw [if_neg i0]
   have hO := Of_pure 0 o.delta
   have f0 : fitsI 0 = true := by decide
   cases hd : fitsI o.delta
   ·rw [if_neg (by rw [hd]; simp)] at hO
    simp only [Bool.false_eq_true, if_false]
    refine PL.Pure.of_v Tryz.func185 (by decide) rfl Tryz.ntmps185 Tryz.results185 (by simp) (rfl) ?_
    simp only [go_sem, opv, e3, ei]
    refine vCall_of (hO) ?_ ?_ ?_; iterate 2 simp only [go_sem]
    simp only [go_sem, intb]
   ·rw [if_pos ⟨f0, hd⟩] at hO
    have hJ := Join_pure' 0 o.delta f (fitsI_iff.1 f0) (fitsI_iff.1 hd)
    simp only [if_true]
    generalize joinI 0 o.delta f = y at *
    obtain ⟨n, c⟩ := y
    have ec : (c == 0) = decide (c = 0) := by rw [Bool.eq_iff_iff]; simp
    refine PL.Pure.of_v Tryz.func185 (by decide) rfl Tryz.ntmps185 Tryz.results185 (by simp) (rfl) ?_
    simp only [go_sem, opv, e3, ei]
    refine vCall_of (hO) ?_ ?_ ?_; iterate 2 simp only [go_sem]
    simp only [go_sem]
    refine vCall_of (hJ) ?_ ?_ ?_; iterate 2 simp only [go_sem]
    simp only [go_sem, intc, ec, intb]
 ·have e3 : (o.kind != 3) = true := by simpa using k3
  rw [if_pos k3]
  refine PL.Pure.of_v Tryz.func185 (by decide) rfl Tryz.ntmps185 Tryz.results185 (by simp) (rfl) ?_
  simp only [go_sem, opv, e3, intb]
def convT (o : Opn) (fo : List Pr) : Str × Bool := if o.kind ≠ 4 then ([], false) else if o.has = false then (o.text, true) else caseM fo o.text
set_option maxRecDepth 20000 in
set_option maxHeartbeats 8000000 in
theorem sconv_pure (o : Opn) (fo : List Pr) (hf : fo.length ≤ maxLen) : PL.Pure Tryz.prog 186 [opv o, prs fo] (strb (convT o fo)) := by
 have hC := Case_pure fo o.text hf
 unfold convT
 obtain ⟨id, sch, time, cart, kind, item, at', delta, has, text, drops⟩ := o
 simp only at hC ⊢
 by_cases k4 : kind = 4
 ·have e4 : (kind != 4) = false := by simpa using k4
  rw [if_neg (fun h => h k4)]
  cases has
  ·refine PL.Pure.of_v Tryz.func186 (by decide) rfl Tryz.ntmps186 Tryz.results186 (by simp) (rfl) ?_
   simp only [go_sem, opv, prs, e4, Bool.not_false, strb, if_true]
  ·simp only [Bool.true_eq_false, if_false]
   generalize caseM fo text = y at *
   obtain ⟨s, b⟩ := y
   refine PL.Pure.of_v Tryz.func186 (by decide) rfl Tryz.ntmps186 Tryz.results186 (by simp) (rfl) ?_
   simp only [go_sem, opv, prs, e4, Bool.not_true]
   refine vCall_of (hC) ?_ ?_ ?_; iterate 2 simp only [go_sem, prs]
   simp only [go_sem, strb]
 ·have e4 : (kind != 4) = true := by simpa using k4
  rw [if_pos k4]
  refine PL.Pure.of_v Tryz.func186 (by decide) rfl Tryz.ntmps186 Tryz.results186 (by simp) (rfl) ?_
  simp only [go_sem, opv, prs, e4, strb]
def movedO (o : Opn) (r : Rf) : Opn := ⟨o.id, o.sch, o.time, o.cart, o.kind, o.item, r, o.delta, o.has, o.text, o.drops⟩
def deltaO (o : Opn) (d : Int) : Opn := ⟨o.id, o.sch, o.time, o.cart, o.kind, o.item, o.at', d, o.has, o.text, o.drops⟩
def textO (o : Opn) (s : Str) : Opn := ⟨o.id, o.sch, o.time, o.cart, o.kind, o.item, o.at', o.delta, o.has, s, o.drops⟩
def becomeM (x : Ln) (o : Opn) : Opn × Bool :=
 if x.kind = 1 ∨ x.kind = 4 ∨ x.kind = 5 then (o, true)
 else if x.kind = 6 then (o, decide (o.kind = 3))
 else if x.kind = 9 then (deltaO o (mergeD o (placeI (goesR x) o.at') x.fac).1, (mergeD o (placeI (goesR x) o.at') x.fac).2)
 else if x.kind = 7 ∨ x.kind = 10 then (o, decide (o.kind = 4))
 else if x.kind = 8 then (textO o (convT o x.fo).1, (convT o x.fo).2)
 else (o, false)
def overM (x : Ln) (o : Opn) : Opn × Bool :=
 if rightLn x = false then (default, false) else if o.kind ≠ 3 ∧ o.kind ≠ 4 then (o, true) else if placeI (goesR x) o.at' < 0 then (o, true)
 else if (becomeM x o).2 = false then (default, false) else (movedO (becomeM x o).1 ((comesR x).getD 0 default), true)
set_option maxRecDepth 20000 in
set_option maxHeartbeats 16000000 in
theorem Over_pure (x : Ln) (o : Opn) (hx : OkLn x) (ho : OkOp o) : PL.Pure Tryz.prog 175 [lns x, opv o] (opb (overM x o)) := by
 have hR := LRight_pure x hx
 have hO := sown_pure o ho
 unfold overM
 cases hlr : rightLn x
 ·rw [hlr] at hR
  refine PL.Pure.of_v Tryz.func175 (by decide) rfl Tryz.ntmps175 Tryz.results175 (by simp) (opb_dids _) ?_
  simp only [go_sem, lns, opv]
  refine vCall_of (hR) ?_ ?_ ?_; iterate 2 simp only [go_sem, lns]
  simp only [go_sem, if_true, opb, opv_default]
 have hk := (rightLn_kind hlr).1
 rw [hlr] at hR
 simp only [Bool.true_eq_false, if_false]
 by_cases hp : o.kind ≠ 3 ∧ o.kind ≠ 4
 ·rw [if_pos hp]
  have e1 : (o.kind != 3) = true := by simpa using hp.1
  have e2 : (o.kind != 4) = true := by simpa using hp.2
  refine PL.Pure.of_v Tryz.func175 (by decide) rfl Tryz.ntmps175 Tryz.results175 (by simp) (opb_dids _) ?_
  simp only [go_sem, lns, opv]
  refine vCall_of (hR) ?_ ?_ ?_; iterate 2 simp only [go_sem, lns]
  simp only [go_sem, e1, e2, opv]
  refine vCall_of (hO) ?_ ?_ ?_; iterate 2 simp only [go_sem, opv]
  simp only [go_sem, opb, opv]
 rw [if_neg hp]
 have hG := Goes_pure x hx
 have hC := Comes_pure x hx
 have hg : goesM x = goesR x := by simp [goesM, hlr]
 have hc : comesM x = comesR x := by simp [comesM, hlr]
 rw [hg] at hG
 rw [hc] at hC
 have hI : PL.Pure Tryz.prog 125 [refs (goesR x), ref o.at'] (.int .i64 (placeI (goesR x) o.at')) := IdxRef_pure (goesR x) o.at' (by have := goesR_len x; rw [maxLen_eq]; omega)
 have pl : ((o.kind != 3) = true ∧ (o.kind != 4) = false) ∨ (o.kind != 3) = false := by
  by_cases k3 : o.kind = 3
  ·right; simpa using k3
  ·left
   refine ⟨by simpa using k3, ?_⟩
   simp only [bne_eq_false_iff_eq]
   exact Decidable.byContradiction fun h => hp ⟨k3, h⟩
 by_cases hi : placeI (goesR x) o.at' < 0
 ·rw [if_pos hi]
  rcases pl with ⟨e1, e2⟩ | e1
  ·refine PL.Pure.of_v Tryz.func175 (by decide) rfl Tryz.ntmps175 Tryz.results175 (by simp) (opb_dids _) ?_
   simp only [go_sem, lns, opv]
   refine vCall_of (hR) ?_ ?_ ?_; iterate 2 simp only [go_sem, lns]
   simp only [go_sem, e1, e2, lns]
   refine vDrawQ (by kernel_rfl) (by kernel_rfl) ?_
   simp only [go_sem, lns, opv]
   refine vCall_of (hG) ?_ ?_ ?_; iterate 2 simp only [go_sem, lns]
   simp only [go_sem, refs]
   refine vCall_of (hI) ?_ ?_ ?_; iterate 2 simp only [go_sem, refs, ref]
   simp only [go_sem, hi, opv]
   refine vCall_of (hO) ?_ ?_ ?_; iterate 2 simp only [go_sem, opv]
   simp only [go_sem, opb, opv]
  ·refine PL.Pure.of_v Tryz.func175 (by decide) rfl Tryz.ntmps175 Tryz.results175 (by simp) (opb_dids _) ?_
   simp only [go_sem, lns, opv]
   refine vCall_of (hR) ?_ ?_ ?_; iterate 2 simp only [go_sem, lns]
   simp only [go_sem, e1, lns]
   refine vDrawQ (by kernel_rfl) (by kernel_rfl) ?_
   simp only [go_sem, lns, opv]
   refine vCall_of (hG) ?_ ?_ ?_; iterate 2 simp only [go_sem, lns]
   simp only [go_sem, refs]
   refine vCall_of (hI) ?_ ?_ ?_; iterate 2 simp only [go_sem, refs, ref]
   simp only [go_sem, hi, opv]
   refine vCall_of (hO) ?_ ?_ ?_; iterate 2 simp only [go_sem, opv]
   simp only [go_sem, opb, opv]
 rw [if_neg hi]
 have hM := smerged_pure o (placeI (goesR x) o.at') x.fac
 have hV := sconv_pure o x.fo (by have := hx.f; rw [maxLen_eq]; omega)
 obtain ⟨kind, at', nm, ot, fac, fd, fo, ba⟩ := x
 simp only at hk hM hV
 rcases hk with rfl | rfl | rfl | rfl | rfl | rfl | rfl | rfl | rfl | rfl
 ·have hne : (comesR ⟨1, at', nm, ot, fac, fd, fo, ba⟩).length ≠ 0 := by unfold comesR; simp
  have hc0 : 0 < (comesR ⟨1, at', nm, ot, fac, fd, fo, ba⟩).length := by omega
  have hc1 : (0 : Int) < ((comesR ⟨1, at', nm, ot, fac, fd, fo, ba⟩).length : Int) := by omega
  have hc2 : (((comesR ⟨1, at', nm, ot, fac, fd, fo, ba⟩).map ref).getD 0 .any) = ref ((comesR ⟨1, at', nm, ot, fac, fd, fo, ba⟩).getD 0 default) := getD_ref hc0
  generalize comesR ⟨1, at', nm, ot, fac, fd, fo, ba⟩ = comes at *
  have hb : becomeM ⟨1, at', nm, ot, fac, fd, fo, ba⟩ o = (o, true) := by simp [becomeM]
  rw [hb]
  simp only [Bool.true_eq_false, if_false]
  have hO2 := sown_pure (movedO o (comes.getD 0 default)) ⟨ho.d⟩
  rcases pl with ⟨e1, e2⟩ | e1
  ·refine PL.Pure.of_v Tryz.func175 (by decide) rfl Tryz.ntmps175 Tryz.results175 (by simp) (opb_dids _) ?_
   simp only [go_sem, lns, opv]
   refine vCall_of (hR) ?_ ?_ ?_; iterate 2 simp only [go_sem, lns]
   simp only [go_sem, e1, e2, lns]
   refine vDrawQ (by kernel_rfl) (by kernel_rfl) ?_
   simp only [go_sem, lns, opv]
   refine vCall_of (hG) ?_ ?_ ?_; iterate 2 simp only [go_sem, lns]
   simp only [go_sem, refs]
   refine vCall_of (hI) ?_ ?_ ?_; iterate 2 simp only [go_sem, refs, ref]
   simp only [go_sem, hi, opv, lns, Bool.not_true]
   refine vCall_of (hC) ?_ ?_ ?_; iterate 2 simp only [go_sem, lns]
   simp only [go_sem, refs, hc1, List.length_map, hc2, ref, opv, movedO, deltaO, textO]
   refine vCall_of (hO2) ?_ ?_ ?_; iterate 2 simp only [go_sem, opv, movedO, deltaO, textO]
   simp only [go_sem, opb, opv, movedO, deltaO, textO]
  ·refine PL.Pure.of_v Tryz.func175 (by decide) rfl Tryz.ntmps175 Tryz.results175 (by simp) (opb_dids _) ?_
   simp only [go_sem, lns, opv]
   refine vCall_of (hR) ?_ ?_ ?_; iterate 2 simp only [go_sem, lns]
   simp only [go_sem, e1, lns]
   refine vDrawQ (by kernel_rfl) (by kernel_rfl) ?_
   simp only [go_sem, lns, opv]
   refine vCall_of (hG) ?_ ?_ ?_; iterate 2 simp only [go_sem, lns]
   simp only [go_sem, refs]
   refine vCall_of (hI) ?_ ?_ ?_; iterate 2 simp only [go_sem, refs, ref]
   simp only [go_sem, hi, opv, lns, Bool.not_true]
   refine vCall_of (hC) ?_ ?_ ?_; iterate 2 simp only [go_sem, lns]
   simp only [go_sem, refs, hc1, List.length_map, hc2, ref, opv, movedO, deltaO, textO]
   refine vCall_of (hO2) ?_ ?_ ?_; iterate 2 simp only [go_sem, opv, movedO, deltaO, textO]
   simp only [go_sem, opb, opv, movedO, deltaO, textO]
 ·exfalso
  have : goesR ⟨2, at', nm, ot, fac, fd, fo, ba⟩ = [] := by simp [goesR]
  rw [this] at hi
  exact hi (by show (-1 : Int) < 0; omega)
 ·have hb : becomeM ⟨3, at', nm, ot, fac, fd, fo, ba⟩ o = (o, false) := by simp [becomeM]
  rw [hb]
  simp only [if_true]
  rcases pl with ⟨e1, e2⟩ | e1
  ·refine PL.Pure.of_v Tryz.func175 (by decide) rfl Tryz.ntmps175 Tryz.results175 (by simp) (opb_dids _) ?_
   simp only [go_sem, lns, opv]
   refine vCall_of (hR) ?_ ?_ ?_; iterate 2 simp only [go_sem, lns]
   simp only [go_sem, e1, e2, lns]
   refine vDrawQ (by kernel_rfl) (by kernel_rfl) ?_
   simp only [go_sem, lns, opv]
   refine vCall_of (hG) ?_ ?_ ?_; iterate 2 simp only [go_sem, lns]
   simp only [go_sem, refs]
   refine vCall_of (hI) ?_ ?_ ?_; iterate 2 simp only [go_sem, refs, ref]
   simp only [go_sem, hi, opv, lns, Bool.not_false]
   (try simp only [go_sem, opb, opv_default])
  ·refine PL.Pure.of_v Tryz.func175 (by decide) rfl Tryz.ntmps175 Tryz.results175 (by simp) (opb_dids _) ?_
   simp only [go_sem, lns, opv]
   refine vCall_of (hR) ?_ ?_ ?_; iterate 2 simp only [go_sem, lns]
   simp only [go_sem, e1, lns]
   refine vDrawQ (by kernel_rfl) (by kernel_rfl) ?_
   simp only [go_sem, lns, opv]
   refine vCall_of (hG) ?_ ?_ ?_; iterate 2 simp only [go_sem, lns]
   simp only [go_sem, refs]
   refine vCall_of (hI) ?_ ?_ ?_; iterate 2 simp only [go_sem, refs, ref]
   simp only [go_sem, hi, opv, lns, Bool.not_false]
   (try simp only [go_sem, opb, opv_default])
 ·have hne : (comesR ⟨4, at', nm, ot, fac, fd, fo, ba⟩).length ≠ 0 := by unfold comesR; simp
  have hc0 : 0 < (comesR ⟨4, at', nm, ot, fac, fd, fo, ba⟩).length := by omega
  have hc1 : (0 : Int) < ((comesR ⟨4, at', nm, ot, fac, fd, fo, ba⟩).length : Int) := by omega
  have hc2 : (((comesR ⟨4, at', nm, ot, fac, fd, fo, ba⟩).map ref).getD 0 .any) = ref ((comesR ⟨4, at', nm, ot, fac, fd, fo, ba⟩).getD 0 default) := getD_ref hc0
  generalize comesR ⟨4, at', nm, ot, fac, fd, fo, ba⟩ = comes at *
  have hb : becomeM ⟨4, at', nm, ot, fac, fd, fo, ba⟩ o = (o, true) := by simp [becomeM]
  rw [hb]
  simp only [Bool.true_eq_false, if_false]
  have hO2 := sown_pure (movedO o (comes.getD 0 default)) ⟨ho.d⟩
  rcases pl with ⟨e1, e2⟩ | e1
  ·refine PL.Pure.of_v Tryz.func175 (by decide) rfl Tryz.ntmps175 Tryz.results175 (by simp) (opb_dids _) ?_
   simp only [go_sem, lns, opv]
   refine vCall_of (hR) ?_ ?_ ?_; iterate 2 simp only [go_sem, lns]
   simp only [go_sem, e1, e2, lns]
   refine vDrawQ (by kernel_rfl) (by kernel_rfl) ?_
   simp only [go_sem, lns, opv]
   refine vCall_of (hG) ?_ ?_ ?_; iterate 2 simp only [go_sem, lns]
   simp only [go_sem, refs]
   refine vCall_of (hI) ?_ ?_ ?_; iterate 2 simp only [go_sem, refs, ref]
   simp only [go_sem, hi, opv, lns, Bool.not_true]
   refine vCall_of (hC) ?_ ?_ ?_; iterate 2 simp only [go_sem, lns]
   simp only [go_sem, refs, hc1, List.length_map, hc2, ref, opv, movedO, deltaO, textO]
   refine vCall_of (hO2) ?_ ?_ ?_; iterate 2 simp only [go_sem, opv, movedO, deltaO, textO]
   simp only [go_sem, opb, opv, movedO, deltaO, textO]
  ·refine PL.Pure.of_v Tryz.func175 (by decide) rfl Tryz.ntmps175 Tryz.results175 (by simp) (opb_dids _) ?_
   simp only [go_sem, lns, opv]
   refine vCall_of (hR) ?_ ?_ ?_; iterate 2 simp only [go_sem, lns]
   simp only [go_sem, e1, lns]
   refine vDrawQ (by kernel_rfl) (by kernel_rfl) ?_
   simp only [go_sem, lns, opv]
   refine vCall_of (hG) ?_ ?_ ?_; iterate 2 simp only [go_sem, lns]
   simp only [go_sem, refs]
   refine vCall_of (hI) ?_ ?_ ?_; iterate 2 simp only [go_sem, refs, ref]
   simp only [go_sem, hi, opv, lns, Bool.not_true]
   refine vCall_of (hC) ?_ ?_ ?_; iterate 2 simp only [go_sem, lns]
   simp only [go_sem, refs, hc1, List.length_map, hc2, ref, opv, movedO, deltaO, textO]
   refine vCall_of (hO2) ?_ ?_ ?_; iterate 2 simp only [go_sem, opv, movedO, deltaO, textO]
   simp only [go_sem, opb, opv, movedO, deltaO, textO]
 ·have hne : (comesR ⟨5, at', nm, ot, fac, fd, fo, ba⟩).length ≠ 0 := by unfold comesR; simp
  have hc0 : 0 < (comesR ⟨5, at', nm, ot, fac, fd, fo, ba⟩).length := by omega
  have hc1 : (0 : Int) < ((comesR ⟨5, at', nm, ot, fac, fd, fo, ba⟩).length : Int) := by omega
  have hc2 : (((comesR ⟨5, at', nm, ot, fac, fd, fo, ba⟩).map ref).getD 0 .any) = ref ((comesR ⟨5, at', nm, ot, fac, fd, fo, ba⟩).getD 0 default) := getD_ref hc0
  generalize comesR ⟨5, at', nm, ot, fac, fd, fo, ba⟩ = comes at *
  have hb : becomeM ⟨5, at', nm, ot, fac, fd, fo, ba⟩ o = (o, true) := by simp [becomeM]
  rw [hb]
  simp only [Bool.true_eq_false, if_false]
  have hO2 := sown_pure (movedO o (comes.getD 0 default)) ⟨ho.d⟩
  rcases pl with ⟨e1, e2⟩ | e1
  ·refine PL.Pure.of_v Tryz.func175 (by decide) rfl Tryz.ntmps175 Tryz.results175 (by simp) (opb_dids _) ?_
   simp only [go_sem, lns, opv]
   refine vCall_of (hR) ?_ ?_ ?_; iterate 2 simp only [go_sem, lns]
   simp only [go_sem, e1, e2, lns]
   refine vDrawQ (by kernel_rfl) (by kernel_rfl) ?_
   simp only [go_sem, lns, opv]
   refine vCall_of (hG) ?_ ?_ ?_; iterate 2 simp only [go_sem, lns]
   simp only [go_sem, refs]
   refine vCall_of (hI) ?_ ?_ ?_; iterate 2 simp only [go_sem, refs, ref]
   simp only [go_sem, hi, opv, lns, Bool.not_true]
   refine vCall_of (hC) ?_ ?_ ?_; iterate 2 simp only [go_sem, lns]
   simp only [go_sem, refs, hc1, List.length_map, hc2, ref, opv, movedO, deltaO, textO]
   refine vCall_of (hO2) ?_ ?_ ?_; iterate 2 simp only [go_sem, opv, movedO, deltaO, textO]
   simp only [go_sem, opb, opv, movedO, deltaO, textO]
  ·refine PL.Pure.of_v Tryz.func175 (by decide) rfl Tryz.ntmps175 Tryz.results175 (by simp) (opb_dids _) ?_
   simp only [go_sem, lns, opv]
   refine vCall_of (hR) ?_ ?_ ?_; iterate 2 simp only [go_sem, lns]
   simp only [go_sem, e1, lns]
   refine vDrawQ (by kernel_rfl) (by kernel_rfl) ?_
   simp only [go_sem, lns, opv]
   refine vCall_of (hG) ?_ ?_ ?_; iterate 2 simp only [go_sem, lns]
   simp only [go_sem, refs]
   refine vCall_of (hI) ?_ ?_ ?_; iterate 2 simp only [go_sem, refs, ref]
   simp only [go_sem, hi, opv, lns, Bool.not_true]
   refine vCall_of (hC) ?_ ?_ ?_; iterate 2 simp only [go_sem, lns]
   simp only [go_sem, refs, hc1, List.length_map, hc2, ref, opv, movedO, deltaO, textO]
   refine vCall_of (hO2) ?_ ?_ ?_; iterate 2 simp only [go_sem, opv, movedO, deltaO, textO]
   simp only [go_sem, opb, opv, movedO, deltaO, textO]
 ·have hne : (comesR ⟨6, at', nm, ot, fac, fd, fo, ba⟩).length ≠ 0 := by unfold comesR; simp
  have hc0 : 0 < (comesR ⟨6, at', nm, ot, fac, fd, fo, ba⟩).length := by omega
  have hc1 : (0 : Int) < ((comesR ⟨6, at', nm, ot, fac, fd, fo, ba⟩).length : Int) := by omega
  have hc2 : (((comesR ⟨6, at', nm, ot, fac, fd, fo, ba⟩).map ref).getD 0 .any) = ref ((comesR ⟨6, at', nm, ot, fac, fd, fo, ba⟩).getD 0 default) := getD_ref hc0
  generalize comesR ⟨6, at', nm, ot, fac, fd, fo, ba⟩ = comes at *
  have hb : becomeM ⟨6, at', nm, ot, fac, fd, fo, ba⟩ o = (o, decide (o.kind = 3)) := by simp [becomeM]
  rw [hb]
  by_cases kk : o.kind = 3
  ·have e3 : (o.kind == 3) = true := by simpa using kk
   simp only [kk, decide_true, Bool.true_eq_false, if_false]
   have hO2 := sown_pure (movedO o (comes.getD 0 default)) ⟨ho.d⟩
   rcases pl with ⟨e1, e2⟩ | e1
   ·refine PL.Pure.of_v Tryz.func175 (by decide) rfl Tryz.ntmps175 Tryz.results175 (by simp) (opb_dids _) ?_
    simp only [go_sem, lns, opv]
    refine vCall_of (hR) ?_ ?_ ?_; iterate 2 simp only [go_sem, lns]
    simp only [go_sem, e1, e2, lns]
    refine vDrawQ (by kernel_rfl) (by kernel_rfl) ?_
    simp only [go_sem, lns, opv]
    refine vCall_of (hG) ?_ ?_ ?_; iterate 2 simp only [go_sem, lns]
    simp only [go_sem, refs]
    refine vCall_of (hI) ?_ ?_ ?_; iterate 2 simp only [go_sem, refs, ref]
    simp only [go_sem, hi, opv, lns, e3, Bool.not_true]
    refine vCall_of (hC) ?_ ?_ ?_; iterate 2 simp only [go_sem, lns]
    simp only [go_sem, refs, hc1, List.length_map, hc2, ref, opv, movedO, deltaO, textO]
    refine vCall_of (hO2) ?_ ?_ ?_; iterate 2 simp only [go_sem, opv, movedO, deltaO, textO]
    simp only [go_sem, opb, opv, kk, movedO, deltaO, textO]
   ·refine PL.Pure.of_v Tryz.func175 (by decide) rfl Tryz.ntmps175 Tryz.results175 (by simp) (opb_dids _) ?_
    simp only [go_sem, lns, opv]
    refine vCall_of (hR) ?_ ?_ ?_; iterate 2 simp only [go_sem, lns]
    simp only [go_sem, e1, lns]
    refine vDrawQ (by kernel_rfl) (by kernel_rfl) ?_
    simp only [go_sem, lns, opv]
    refine vCall_of (hG) ?_ ?_ ?_; iterate 2 simp only [go_sem, lns]
    simp only [go_sem, refs]
    refine vCall_of (hI) ?_ ?_ ?_; iterate 2 simp only [go_sem, refs, ref]
    simp only [go_sem, hi, opv, lns, e3, Bool.not_true]
    refine vCall_of (hC) ?_ ?_ ?_; iterate 2 simp only [go_sem, lns]
    simp only [go_sem, refs, hc1, List.length_map, hc2, ref, opv, movedO, deltaO, textO]
    refine vCall_of (hO2) ?_ ?_ ?_; iterate 2 simp only [go_sem, opv, movedO, deltaO, textO]
    simp only [go_sem, opb, opv, kk, movedO, deltaO, textO]
  ·have e3 : (o.kind == 3) = false := by simpa using kk
   simp only [kk, decide_false, if_true]
   rcases pl with ⟨e1, e2⟩ | e1
   ·refine PL.Pure.of_v Tryz.func175 (by decide) rfl Tryz.ntmps175 Tryz.results175 (by simp) (opb_dids _) ?_
    simp only [go_sem, lns, opv]
    refine vCall_of (hR) ?_ ?_ ?_; iterate 2 simp only [go_sem, lns]
    simp only [go_sem, e1, e2, lns]
    refine vDrawQ (by kernel_rfl) (by kernel_rfl) ?_
    simp only [go_sem, lns, opv]
    refine vCall_of (hG) ?_ ?_ ?_; iterate 2 simp only [go_sem, lns]
    simp only [go_sem, refs]
    refine vCall_of (hI) ?_ ?_ ?_; iterate 2 simp only [go_sem, refs, ref]
    simp only [go_sem, hi, opv, lns, e3, Bool.not_false]
    (try simp only [go_sem, opb, opv_default])
   ·refine PL.Pure.of_v Tryz.func175 (by decide) rfl Tryz.ntmps175 Tryz.results175 (by simp) (opb_dids _) ?_
    simp only [go_sem, lns, opv]
    refine vCall_of (hR) ?_ ?_ ?_; iterate 2 simp only [go_sem, lns]
    simp only [go_sem, e1, lns]
    refine vDrawQ (by kernel_rfl) (by kernel_rfl) ?_
    simp only [go_sem, lns, opv]
    refine vCall_of (hG) ?_ ?_ ?_; iterate 2 simp only [go_sem, lns]
    simp only [go_sem, refs]
    refine vCall_of (hI) ?_ ?_ ?_; iterate 2 simp only [go_sem, refs, ref]
    simp only [go_sem, hi, opv, lns, e3, Bool.not_false]
    (try simp only [go_sem, opb, opv_default])
 ·have hne : (comesR ⟨7, at', nm, ot, fac, fd, fo, ba⟩).length ≠ 0 := by unfold comesR; simp
  have hc0 : 0 < (comesR ⟨7, at', nm, ot, fac, fd, fo, ba⟩).length := by omega
  have hc1 : (0 : Int) < ((comesR ⟨7, at', nm, ot, fac, fd, fo, ba⟩).length : Int) := by omega
  have hc2 : (((comesR ⟨7, at', nm, ot, fac, fd, fo, ba⟩).map ref).getD 0 .any) = ref ((comesR ⟨7, at', nm, ot, fac, fd, fo, ba⟩).getD 0 default) := getD_ref hc0
  generalize comesR ⟨7, at', nm, ot, fac, fd, fo, ba⟩ = comes at *
  have hb : becomeM ⟨7, at', nm, ot, fac, fd, fo, ba⟩ o = (o, decide (o.kind = 4)) := by simp [becomeM]
  rw [hb]
  by_cases kk : o.kind = 4
  ·have e3 : (o.kind == 4) = true := by simpa using kk
   simp only [kk, decide_true, Bool.true_eq_false, if_false]
   have hO2 := sown_pure (movedO o (comes.getD 0 default)) ⟨ho.d⟩
   rcases pl with ⟨e1, e2⟩ | e1
   ·refine PL.Pure.of_v Tryz.func175 (by decide) rfl Tryz.ntmps175 Tryz.results175 (by simp) (opb_dids _) ?_
    simp only [go_sem, lns, opv]
    refine vCall_of (hR) ?_ ?_ ?_; iterate 2 simp only [go_sem, lns]
    simp only [go_sem, e1, e2, lns]
    refine vDrawQ (by kernel_rfl) (by kernel_rfl) ?_
    simp only [go_sem, lns, opv]
    refine vCall_of (hG) ?_ ?_ ?_; iterate 2 simp only [go_sem, lns]
    simp only [go_sem, refs]
    refine vCall_of (hI) ?_ ?_ ?_; iterate 2 simp only [go_sem, refs, ref]
    simp only [go_sem, hi, opv, lns, e3, Bool.not_true]
    refine vCall_of (hC) ?_ ?_ ?_; iterate 2 simp only [go_sem, lns]
    simp only [go_sem, refs, hc1, List.length_map, hc2, ref, opv, movedO, deltaO, textO]
    refine vCall_of (hO2) ?_ ?_ ?_; iterate 2 simp only [go_sem, opv, movedO, deltaO, textO]
    simp only [go_sem, opb, opv, kk, movedO, deltaO, textO]
   ·refine PL.Pure.of_v Tryz.func175 (by decide) rfl Tryz.ntmps175 Tryz.results175 (by simp) (opb_dids _) ?_
    simp only [go_sem, lns, opv]
    refine vCall_of (hR) ?_ ?_ ?_; iterate 2 simp only [go_sem, lns]
    simp only [go_sem, e1, lns]
    refine vDrawQ (by kernel_rfl) (by kernel_rfl) ?_
    simp only [go_sem, lns, opv]
    refine vCall_of (hG) ?_ ?_ ?_; iterate 2 simp only [go_sem, lns]
    simp only [go_sem, refs]
    refine vCall_of (hI) ?_ ?_ ?_; iterate 2 simp only [go_sem, refs, ref]
    simp only [go_sem, hi, opv, lns, e3, Bool.not_true]
    refine vCall_of (hC) ?_ ?_ ?_; iterate 2 simp only [go_sem, lns]
    simp only [go_sem, refs, hc1, List.length_map, hc2, ref, opv, movedO, deltaO, textO]
    refine vCall_of (hO2) ?_ ?_ ?_; iterate 2 simp only [go_sem, opv, movedO, deltaO, textO]
    simp only [go_sem, opb, opv, kk, movedO, deltaO, textO]
  ·have e3 : (o.kind == 4) = false := by simpa using kk
   simp only [kk, decide_false, if_true]
   rcases pl with ⟨e1, e2⟩ | e1
   ·refine PL.Pure.of_v Tryz.func175 (by decide) rfl Tryz.ntmps175 Tryz.results175 (by simp) (opb_dids _) ?_
    simp only [go_sem, lns, opv]
    refine vCall_of (hR) ?_ ?_ ?_; iterate 2 simp only [go_sem, lns]
    simp only [go_sem, e1, e2, lns]
    refine vDrawQ (by kernel_rfl) (by kernel_rfl) ?_
    simp only [go_sem, lns, opv]
    refine vCall_of (hG) ?_ ?_ ?_; iterate 2 simp only [go_sem, lns]
    simp only [go_sem, refs]
    refine vCall_of (hI) ?_ ?_ ?_; iterate 2 simp only [go_sem, refs, ref]
    simp only [go_sem, hi, opv, lns, e3, Bool.not_false]
    (try simp only [go_sem, opb, opv_default])
   ·refine PL.Pure.of_v Tryz.func175 (by decide) rfl Tryz.ntmps175 Tryz.results175 (by simp) (opb_dids _) ?_
    simp only [go_sem, lns, opv]
    refine vCall_of (hR) ?_ ?_ ?_; iterate 2 simp only [go_sem, lns]
    simp only [go_sem, e1, lns]
    refine vDrawQ (by kernel_rfl) (by kernel_rfl) ?_
    simp only [go_sem, lns, opv]
    refine vCall_of (hG) ?_ ?_ ?_; iterate 2 simp only [go_sem, lns]
    simp only [go_sem, refs]
    refine vCall_of (hI) ?_ ?_ ?_; iterate 2 simp only [go_sem, refs, ref]
    simp only [go_sem, hi, opv, lns, e3, Bool.not_false]
    (try simp only [go_sem, opb, opv_default])
 ·have hne : (comesR ⟨8, at', nm, ot, fac, fd, fo, ba⟩).length ≠ 0 := by unfold comesR; simp
  have hc0 : 0 < (comesR ⟨8, at', nm, ot, fac, fd, fo, ba⟩).length := by omega
  have hc1 : (0 : Int) < ((comesR ⟨8, at', nm, ot, fac, fd, fo, ba⟩).length : Int) := by omega
  have hc2 : (((comesR ⟨8, at', nm, ot, fac, fd, fo, ba⟩).map ref).getD 0 .any) = ref ((comesR ⟨8, at', nm, ot, fac, fd, fo, ba⟩).getD 0 default) := getD_ref hc0
  generalize comesR ⟨8, at', nm, ot, fac, fd, fo, ba⟩ = comes at *
  have hb : becomeM ⟨8, at', nm, ot, fac, fd, fo, ba⟩ o = (textO o (convT o fo).1, (convT o fo).2) := by simp [becomeM]
  rw [hb]
  generalize convT o fo = y at *
  obtain ⟨d, b⟩ := y
  cases b
  ·simp only [if_true]
   rcases pl with ⟨e1, e2⟩ | e1
   ·refine PL.Pure.of_v Tryz.func175 (by decide) rfl Tryz.ntmps175 Tryz.results175 (by simp) (opb_dids _) ?_
    simp only [go_sem, lns, opv]
    refine vCall_of (hR) ?_ ?_ ?_; iterate 2 simp only [go_sem, lns]
    simp only [go_sem, e1, e2, lns]
    refine vDrawQ (by kernel_rfl) (by kernel_rfl) ?_
    simp only [go_sem, lns, opv]
    refine vCall_of (hG) ?_ ?_ ?_; iterate 2 simp only [go_sem, lns]
    simp only [go_sem, refs]
    refine vCall_of (hI) ?_ ?_ ?_; iterate 2 simp only [go_sem, refs, ref]
    simp only [go_sem, hi, opv, lns, Bool.not_true]
    refine vCall_of (hV) ?_ ?_ ?_; iterate 2 simp only [go_sem, opv, prs]
    simp only [go_sem, strb, Bool.not_false, opb, opv_default]
   ·refine PL.Pure.of_v Tryz.func175 (by decide) rfl Tryz.ntmps175 Tryz.results175 (by simp) (opb_dids _) ?_
    simp only [go_sem, lns, opv]
    refine vCall_of (hR) ?_ ?_ ?_; iterate 2 simp only [go_sem, lns]
    simp only [go_sem, e1, lns]
    refine vDrawQ (by kernel_rfl) (by kernel_rfl) ?_
    simp only [go_sem, lns, opv]
    refine vCall_of (hG) ?_ ?_ ?_; iterate 2 simp only [go_sem, lns]
    simp only [go_sem, refs]
    refine vCall_of (hI) ?_ ?_ ?_; iterate 2 simp only [go_sem, refs, ref]
    simp only [go_sem, hi, opv, lns, Bool.not_true]
    refine vCall_of (hV) ?_ ?_ ?_; iterate 2 simp only [go_sem, opv, prs]
    simp only [go_sem, strb, Bool.not_false, opb, opv_default]
  ·simp only [Bool.true_eq_false, if_false]
   have hO2 := sown_pure (movedO (textO o d) (comes.getD 0 default)) ⟨ho.d⟩
   rcases pl with ⟨e1, e2⟩ | e1
   ·refine PL.Pure.of_v Tryz.func175 (by decide) rfl Tryz.ntmps175 Tryz.results175 (by simp) (opb_dids _) ?_
    simp only [go_sem, lns, opv]
    refine vCall_of (hR) ?_ ?_ ?_; iterate 2 simp only [go_sem, lns]
    simp only [go_sem, e1, e2, lns]
    refine vDrawQ (by kernel_rfl) (by kernel_rfl) ?_
    simp only [go_sem, lns, opv]
    refine vCall_of (hG) ?_ ?_ ?_; iterate 2 simp only [go_sem, lns]
    simp only [go_sem, refs]
    refine vCall_of (hI) ?_ ?_ ?_; iterate 2 simp only [go_sem, refs, ref]
    simp only [go_sem, hi, opv, lns, Bool.not_true]
    refine vCall_of (hV) ?_ ?_ ?_; iterate 2 simp only [go_sem, opv, prs]
    simp only [go_sem, strb, Bool.not_true, lns]
    refine vCall_of (hC) ?_ ?_ ?_; iterate 2 simp only [go_sem, lns]
    simp only [go_sem, refs, hc1, List.length_map, hc2, ref, opv, movedO, deltaO, textO]
    refine vCall_of (hO2) ?_ ?_ ?_; iterate 2 simp only [go_sem, opv, movedO, deltaO, textO]
    simp only [go_sem, opb, opv, movedO, deltaO, textO]
   ·refine PL.Pure.of_v Tryz.func175 (by decide) rfl Tryz.ntmps175 Tryz.results175 (by simp) (opb_dids _) ?_
    simp only [go_sem, lns, opv]
    refine vCall_of (hR) ?_ ?_ ?_; iterate 2 simp only [go_sem, lns]
    simp only [go_sem, e1, lns]
    refine vDrawQ (by kernel_rfl) (by kernel_rfl) ?_
    simp only [go_sem, lns, opv]
    refine vCall_of (hG) ?_ ?_ ?_; iterate 2 simp only [go_sem, lns]
    simp only [go_sem, refs]
    refine vCall_of (hI) ?_ ?_ ?_; iterate 2 simp only [go_sem, refs, ref]
    simp only [go_sem, hi, opv, lns, Bool.not_true]
    refine vCall_of (hV) ?_ ?_ ?_; iterate 2 simp only [go_sem, opv, prs]
    simp only [go_sem, strb, Bool.not_true, lns]
    refine vCall_of (hC) ?_ ?_ ?_; iterate 2 simp only [go_sem, lns]
    simp only [go_sem, refs, hc1, List.length_map, hc2, ref, opv, movedO, deltaO, textO]
    refine vCall_of (hO2) ?_ ?_ ?_; iterate 2 simp only [go_sem, opv, movedO, deltaO, textO]
    simp only [go_sem, opb, opv, movedO, deltaO, textO]
 ·have hne : (comesR ⟨9, at', nm, ot, fac, fd, fo, ba⟩).length ≠ 0 := by unfold comesR; simp
  have hc0 : 0 < (comesR ⟨9, at', nm, ot, fac, fd, fo, ba⟩).length := by omega
  have hc1 : (0 : Int) < ((comesR ⟨9, at', nm, ot, fac, fd, fo, ba⟩).length : Int) := by omega
  have hc2 : (((comesR ⟨9, at', nm, ot, fac, fd, fo, ba⟩).map ref).getD 0 .any) = ref ((comesR ⟨9, at', nm, ot, fac, fd, fo, ba⟩).getD 0 default) := getD_ref hc0
  generalize comesR ⟨9, at', nm, ot, fac, fd, fo, ba⟩ = comes at *
  have hb : becomeM ⟨9, at', nm, ot, fac, fd, fo, ba⟩ o = (deltaO o (mergeD o (placeI (goesR ⟨9, at', nm, ot, fac, fd, fo, ba⟩) o.at') fac).1, (mergeD o (placeI (goesR ⟨9, at', nm, ot, fac, fd, fo, ba⟩) o.at') fac).2) := by simp [becomeM]
  rw [hb]
  generalize mergeD o (placeI (goesR ⟨9, at', nm, ot, fac, fd, fo, ba⟩) o.at') fac = y at *
  obtain ⟨d, b⟩ := y
  cases b
  ·simp only [if_true]
   rcases pl with ⟨e1, e2⟩ | e1
   ·refine PL.Pure.of_v Tryz.func175 (by decide) rfl Tryz.ntmps175 Tryz.results175 (by simp) (opb_dids _) ?_
    simp only [go_sem, lns, opv]
    refine vCall_of (hR) ?_ ?_ ?_; iterate 2 simp only [go_sem, lns]
    simp only [go_sem, e1, e2, lns]
    refine vDrawQ (by kernel_rfl) (by kernel_rfl) ?_
    simp only [go_sem, lns, opv]
    refine vCall_of (hG) ?_ ?_ ?_; iterate 2 simp only [go_sem, lns]
    simp only [go_sem, refs]
    refine vCall_of (hI) ?_ ?_ ?_; iterate 2 simp only [go_sem, refs, ref]
    simp only [go_sem, hi, opv, lns, Bool.not_true]
    refine vCall_of (hM) ?_ ?_ ?_; iterate 2 simp only [go_sem, opv]
    simp only [go_sem, intb, Bool.not_false, opb, opv_default]
   ·refine PL.Pure.of_v Tryz.func175 (by decide) rfl Tryz.ntmps175 Tryz.results175 (by simp) (opb_dids _) ?_
    simp only [go_sem, lns, opv]
    refine vCall_of (hR) ?_ ?_ ?_; iterate 2 simp only [go_sem, lns]
    simp only [go_sem, e1, lns]
    refine vDrawQ (by kernel_rfl) (by kernel_rfl) ?_
    simp only [go_sem, lns, opv]
    refine vCall_of (hG) ?_ ?_ ?_; iterate 2 simp only [go_sem, lns]
    simp only [go_sem, refs]
    refine vCall_of (hI) ?_ ?_ ?_; iterate 2 simp only [go_sem, refs, ref]
    simp only [go_sem, hi, opv, lns, Bool.not_true]
    refine vCall_of (hM) ?_ ?_ ?_; iterate 2 simp only [go_sem, opv]
    simp only [go_sem, intb, Bool.not_false, opb, opv_default]
  ·simp only [Bool.true_eq_false, if_false]
   have hO2 := sown_pure (movedO (deltaO o d) (comes.getD 0 default)) ⟨ho.d⟩
   rcases pl with ⟨e1, e2⟩ | e1
   ·refine PL.Pure.of_v Tryz.func175 (by decide) rfl Tryz.ntmps175 Tryz.results175 (by simp) (opb_dids _) ?_
    simp only [go_sem, lns, opv]
    refine vCall_of (hR) ?_ ?_ ?_; iterate 2 simp only [go_sem, lns]
    simp only [go_sem, e1, e2, lns]
    refine vDrawQ (by kernel_rfl) (by kernel_rfl) ?_
    simp only [go_sem, lns, opv]
    refine vCall_of (hG) ?_ ?_ ?_; iterate 2 simp only [go_sem, lns]
    simp only [go_sem, refs]
    refine vCall_of (hI) ?_ ?_ ?_; iterate 2 simp only [go_sem, refs, ref]
    simp only [go_sem, hi, opv, lns, Bool.not_true]
    refine vCall_of (hM) ?_ ?_ ?_; iterate 2 simp only [go_sem, opv]
    simp only [go_sem, intb, Bool.not_true, lns]
    refine vCall_of (hC) ?_ ?_ ?_; iterate 2 simp only [go_sem, lns]
    simp only [go_sem, refs, hc1, List.length_map, hc2, ref, opv, movedO, deltaO, textO]
    refine vCall_of (hO2) ?_ ?_ ?_; iterate 2 simp only [go_sem, opv, movedO, deltaO, textO]
    simp only [go_sem, opb, opv, movedO, deltaO, textO]
   ·refine PL.Pure.of_v Tryz.func175 (by decide) rfl Tryz.ntmps175 Tryz.results175 (by simp) (opb_dids _) ?_
    simp only [go_sem, lns, opv]
    refine vCall_of (hR) ?_ ?_ ?_; iterate 2 simp only [go_sem, lns]
    simp only [go_sem, e1, lns]
    refine vDrawQ (by kernel_rfl) (by kernel_rfl) ?_
    simp only [go_sem, lns, opv]
    refine vCall_of (hG) ?_ ?_ ?_; iterate 2 simp only [go_sem, lns]
    simp only [go_sem, refs]
    refine vCall_of (hI) ?_ ?_ ?_; iterate 2 simp only [go_sem, refs, ref]
    simp only [go_sem, hi, opv, lns, Bool.not_true]
    refine vCall_of (hM) ?_ ?_ ?_; iterate 2 simp only [go_sem, opv]
    simp only [go_sem, intb, Bool.not_true, lns]
    refine vCall_of (hC) ?_ ?_ ?_; iterate 2 simp only [go_sem, lns]
    simp only [go_sem, refs, hc1, List.length_map, hc2, ref, opv, movedO, deltaO, textO]
    refine vCall_of (hO2) ?_ ?_ ?_; iterate 2 simp only [go_sem, opv, movedO, deltaO, textO]
    simp only [go_sem, opb, opv, movedO, deltaO, textO]
 ·have hne : (comesR ⟨10, at', nm, ot, fac, fd, fo, ba⟩).length ≠ 0 := by unfold comesR; simp
  have hc0 : 0 < (comesR ⟨10, at', nm, ot, fac, fd, fo, ba⟩).length := by omega
  have hc1 : (0 : Int) < ((comesR ⟨10, at', nm, ot, fac, fd, fo, ba⟩).length : Int) := by omega
  have hc2 : (((comesR ⟨10, at', nm, ot, fac, fd, fo, ba⟩).map ref).getD 0 .any) = ref ((comesR ⟨10, at', nm, ot, fac, fd, fo, ba⟩).getD 0 default) := getD_ref hc0
  generalize comesR ⟨10, at', nm, ot, fac, fd, fo, ba⟩ = comes at *
  have hb : becomeM ⟨10, at', nm, ot, fac, fd, fo, ba⟩ o = (o, decide (o.kind = 4)) := by simp [becomeM]
  rw [hb]
  by_cases kk : o.kind = 4
  ·have e3 : (o.kind == 4) = true := by simpa using kk
   simp only [kk, decide_true, Bool.true_eq_false, if_false]
   have hO2 := sown_pure (movedO o (comes.getD 0 default)) ⟨ho.d⟩
   rcases pl with ⟨e1, e2⟩ | e1
   ·refine PL.Pure.of_v Tryz.func175 (by decide) rfl Tryz.ntmps175 Tryz.results175 (by simp) (opb_dids _) ?_
    simp only [go_sem, lns, opv]
    refine vCall_of (hR) ?_ ?_ ?_; iterate 2 simp only [go_sem, lns]
    simp only [go_sem, e1, e2, lns]
    refine vDrawQ (by kernel_rfl) (by kernel_rfl) ?_
    simp only [go_sem, lns, opv]
    refine vCall_of (hG) ?_ ?_ ?_; iterate 2 simp only [go_sem, lns]
    simp only [go_sem, refs]
    refine vCall_of (hI) ?_ ?_ ?_; iterate 2 simp only [go_sem, refs, ref]
    simp only [go_sem, hi, opv, lns, e3, Bool.not_true]
    refine vCall_of (hC) ?_ ?_ ?_; iterate 2 simp only [go_sem, lns]
    simp only [go_sem, refs, hc1, List.length_map, hc2, ref, opv, movedO, deltaO, textO]
    refine vCall_of (hO2) ?_ ?_ ?_; iterate 2 simp only [go_sem, opv, movedO, deltaO, textO]
    simp only [go_sem, opb, opv, kk, movedO, deltaO, textO]
   ·refine PL.Pure.of_v Tryz.func175 (by decide) rfl Tryz.ntmps175 Tryz.results175 (by simp) (opb_dids _) ?_
    simp only [go_sem, lns, opv]
    refine vCall_of (hR) ?_ ?_ ?_; iterate 2 simp only [go_sem, lns]
    simp only [go_sem, e1, lns]
    refine vDrawQ (by kernel_rfl) (by kernel_rfl) ?_
    simp only [go_sem, lns, opv]
    refine vCall_of (hG) ?_ ?_ ?_; iterate 2 simp only [go_sem, lns]
    simp only [go_sem, refs]
    refine vCall_of (hI) ?_ ?_ ?_; iterate 2 simp only [go_sem, refs, ref]
    simp only [go_sem, hi, opv, lns, e3, Bool.not_true]
    refine vCall_of (hC) ?_ ?_ ?_; iterate 2 simp only [go_sem, lns]
    simp only [go_sem, refs, hc1, List.length_map, hc2, ref, opv, movedO, deltaO, textO]
    refine vCall_of (hO2) ?_ ?_ ?_; iterate 2 simp only [go_sem, opv, movedO, deltaO, textO]
    simp only [go_sem, opb, opv, kk, movedO, deltaO, textO]
  ·have e3 : (o.kind == 4) = false := by simpa using kk
   simp only [kk, decide_false, if_true]
   rcases pl with ⟨e1, e2⟩ | e1
   ·refine PL.Pure.of_v Tryz.func175 (by decide) rfl Tryz.ntmps175 Tryz.results175 (by simp) (opb_dids _) ?_
    simp only [go_sem, lns, opv]
    refine vCall_of (hR) ?_ ?_ ?_; iterate 2 simp only [go_sem, lns]
    simp only [go_sem, e1, e2, lns]
    refine vDrawQ (by kernel_rfl) (by kernel_rfl) ?_
    simp only [go_sem, lns, opv]
    refine vCall_of (hG) ?_ ?_ ?_; iterate 2 simp only [go_sem, lns]
    simp only [go_sem, refs]
    refine vCall_of (hI) ?_ ?_ ?_; iterate 2 simp only [go_sem, refs, ref]
    simp only [go_sem, hi, opv, lns, e3, Bool.not_false]
    (try simp only [go_sem, opb, opv_default])
   ·refine PL.Pure.of_v Tryz.func175 (by decide) rfl Tryz.ntmps175 Tryz.results175 (by simp) (opb_dids _) ?_
    simp only [go_sem, lns, opv]
    refine vCall_of (hR) ?_ ?_ ?_; iterate 2 simp only [go_sem, lns]
    simp only [go_sem, e1, lns]
    refine vDrawQ (by kernel_rfl) (by kernel_rfl) ?_
    simp only [go_sem, lns, opv]
    refine vCall_of (hG) ?_ ?_ ?_; iterate 2 simp only [go_sem, lns]
    simp only [go_sem, refs]
    refine vCall_of (hI) ?_ ?_ ?_; iterate 2 simp only [go_sem, refs, ref]
    simp only [go_sem, hi, opv, lns, e3, Bool.not_false]
    (try simp only [go_sem, opb, opv_default])
end Go.Proofs.YthingdchjkhfbaaGreat
