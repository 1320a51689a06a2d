/- Contracts of functions and laws of this seat, each for every input that it names: lemmas of the proof. -/
import Derived.Test.YthingdchjkhfbaaGreatVXAt
set_option linter.unusedSimpArgs false
set_option linter.unusedVariables false
set_option linter.unusedSimpArgs false
set_option linter.unusedVariables false
namespace Go.Proofs.YthingdchjkhfbaaGreat
open Go.PL
def tablesB (x : Ln) : Bool := decide (0 < (x.fo.length : Int)) || decide (0 < (x.ba.length : Int))
def rightLn (x : Ln) : Bool :=
 if x.kind = 2 ∨ x.kind = 3 then decide (x.at' = default) && (decide (x.nm = []) && (decide (x.ot = []) && (decide (x.fac = 0) && (!tablesB x && rightF x.fd))))
 else (placeB x.at' && decide (x.fd = default)) && (if x.kind = 8 then decide (x.fac = 0) && (tableM x.fo x.ba && (tableM x.ba x.fo && ((caseM x.fo x.nm).2 && ((caseM x.ba x.ot).2 && (((caseM x.fo x.nm).1 == x.ot) && ((caseM x.ba x.ot).1 == x.nm))))))
  else !tablesB x && (if x.kind = 6 ∨ x.kind = 9 then nameB x.nm && (nameB x.ot && (!(x.nm == x.ot) && (decide (1 < x.fac) && decide (x.fac < 1001))))
   else decide (x.fac = 0) && (if x.kind = 7 ∨ x.kind = 10 then decide (x.nm = []) && decide ((x.ot.length : Int) < 41)
    else decide (x.ot = []) && (if x.kind = 1 then nameB x.nm else if x.kind = 4 then decide (x.nm = []) && !(x.at'.gr == []) else decide (x.kind = 5) && (decide (x.at'.gr = []) && nameB x.nm)))))
theorem tab_name {t o : List Pr} {s : Str} (h : tableM t o = true) (hs : hasFr t s = true) : nameB s = true := by
 simp only [hasFr, List.any_eq_true, beq_iff_eq] at hs
 obtain ⟨p, hp, rfl⟩ := hs
 obtain ⟨i, hi, rfl⟩ := List.getElem_of_mem hp
 simp only [tableM, Bool.and_eq_true, List.all_eq_true, List.mem_range] at h
 have := h.2 i hi
 simp only [tabOk, Bool.and_eq_true] at this
 have h1 := this.1
 rw [List.getD_eq_getElem?_getD, List.getElem?_eq_getElem hi] at h1
 exact h1
theorem tablesB_false {x : Ln} : tablesB x = false ↔ x.fo = [] ∧ x.ba = [] := by
 simp only [tablesB, Bool.or_eq_false_iff, decide_eq_false_iff_not]
 constructor
 ·rintro ⟨a, b⟩
  exact ⟨List.eq_nil_of_length_eq_zero (by omega), List.eq_nil_of_length_eq_zero (by omega)⟩
 ·rintro ⟨a, b⟩
  rw [a, b]; exact ⟨by decide, by decide⟩
set_option maxHeartbeats 4000000 in
theorem right_eq (x : Ln) : rightLnP x = rightLn x := by
 obtain ⟨kind, at', nm, ot, fac, fd, fo, ba⟩ := x
 have ht := tablesB_false (x := ⟨kind, at', nm, ot, fac, fd, fo, ba⟩)
 simp only at ht
 have d1 : (default : Ln) = ⟨0, default, [], [], 0, default, [], []⟩ := rfl
 by_cases k1 : kind = 1
 ·subst k1
  rw [Bool.eq_iff_iff]
  simp [rightLnP, rightLn, partsM, ht]
  constructor
  ·rintro ⟨⟨a, b, c, d, e⟩, f, g⟩; exact ⟨⟨f, c⟩, ⟨d, e⟩, b, a, g⟩
  ·rintro ⟨⟨f, c⟩, ⟨d, e⟩, b, a, g⟩; exact ⟨⟨a, b, c, d, e⟩, f, g⟩
 by_cases k2 : kind = 2
 ·subst k2
  rw [Bool.eq_iff_iff]
  simp [rightLnP, rightLn, partsM, ht, and_assoc]
 by_cases k3 : kind = 3
 ·subst k3
  rw [Bool.eq_iff_iff]
  simp [rightLnP, rightLn, partsM, ht, and_assoc]
 by_cases k4 : kind = 4
 ·subst k4
  rw [Bool.eq_iff_iff]
  simp [rightLnP, rightLn, partsM, ht]
  constructor
  ·rintro ⟨⟨n, a, b, c, d, e⟩, f, g⟩; exact ⟨⟨f, c⟩, ⟨d, e⟩, b, a, n, g⟩
  ·rintro ⟨⟨f, c⟩, ⟨d, e⟩, b, a, n, g⟩; exact ⟨⟨n, a, b, c, d, e⟩, f, g⟩
 by_cases k5 : kind = 5
 ·subst k5
  rw [Bool.eq_iff_iff]
  simp [rightLnP, rightLn, partsM, ht]
  constructor
  ·rintro ⟨⟨a, b, c, d, e⟩, f, g⟩; exact ⟨⟨f, c⟩, ⟨d, e⟩, b, a, g⟩
  ·rintro ⟨⟨f, c⟩, ⟨d, e⟩, b, a, g⟩; exact ⟨⟨a, b, c, d, e⟩, f, g⟩
 by_cases k69 : kind = 6 ∨ kind = 9
 ·have e1 : ¬ (kind = 2 ∨ kind = 3) := by omega
  have e3 : ¬ (kind = 1 ∨ kind = 5) := by omega
  have e8 : ¬ kind = 8 := by omega
  rw [Bool.eq_iff_iff]
  simp [rightLnP, rightLn, partsM, ht, e1, e3, k69, k1, k4, k5, e8]
  constructor
  ·rintro ⟨⟨a, b, c⟩, f, g, h, i, j, k⟩; exact ⟨⟨f, a⟩, ⟨b, c⟩, g, h, i, by omega, by omega⟩
  ·rintro ⟨⟨f, a⟩, ⟨b, c⟩, g, h, i, j, k⟩; exact ⟨⟨a, b, c⟩, f, g, h, i, by omega, by omega⟩
 by_cases k7 : kind = 7 ∨ kind = 10
 ·have e1 : ¬ (kind = 2 ∨ kind = 3) := by omega
  have e3 : ¬ (kind = 1 ∨ kind = 5) := by omega
  have e8 : ¬ kind = 8 := by omega
  rw [Bool.eq_iff_iff]
  simp [rightLnP, rightLn, partsM, ht, e1, e3, k69, k7, k1, k4, k5, e8]
  constructor
  ·rintro ⟨⟨n, b, c, d, e⟩, f, g⟩; exact ⟨⟨f, c⟩, ⟨d, e⟩, b, n, by omega⟩
  ·rintro ⟨⟨f, c⟩, ⟨d, e⟩, b, n, g⟩; exact ⟨⟨n, b, c, d, e⟩, f, by omega⟩
 by_cases k8 : kind = 8
 ·subst k8
  rw [Bool.eq_iff_iff]
  have hn : tableM fo ba = true → (caseM fo nm).2 = true → nameB nm = true := fun h h' => tab_name h (by rw [← caseM_snd]; exact h')
  simp [rightLnP, rightLn, partsM, ht, rtM]
  constructor
  ·rintro ⟨⟨a, b⟩, f, g, h, i, ⟨j, k⟩, l, m⟩; exact ⟨⟨f, b⟩, a, h, i, j, l, k, m⟩
  ·rintro ⟨⟨f, b⟩, a, h, i, j, l, k, m⟩; exact ⟨⟨a, b⟩, f, hn h j, h, i, ⟨j, k⟩, l, m⟩
 ·have e1 : ¬ (kind = 2 ∨ kind = 3) := by omega
  have e3 : ¬ (kind = 1 ∨ kind = 5) := by omega
  simp [rightLnP, rightLn, partsM, e1, e3, k69, k7, k1, k4, k5, k8]
theorem LRight_pure (x : Ln) (hx : OkLn x) : PL.Pure Tryz.prog 87 [lns x] (.bool (rightLn x)) := by
 rw [← right_eq]; exact LRightP_pure x hx
set_option maxHeartbeats 4000000 in
theorem Rtables_pure (x : Ln) : PL.Pure Tryz.prog 136 [lns x] (.bool (tablesB x)) := by
 refine PL.Pure.of_v Tryz.func136 (by decide) rfl Tryz.ntmps136 Tryz.results136 (by simp) rfl ?_
 simp only [go_sem, lns]
 repeat' (first | (refine vGuard_t (fun h => ?_) (fun h => ?_) <;> (try simp only [go_sem, h])) | (refine vGuard_f (fun h => ?_) (fun h => ?_) <;> (try simp only [go_sem, h])) | (refine vCond_b (fun h => ?_) (fun h => ?_) <;> (try simp only [go_sem, h])) | ((refine vDrawQ (by kernel_rfl) (by kernel_rfl) ?_); (try simp only [go_sem])))
 all_goals simp_all [tablesB]
set_option maxHeartbeats 4000000 in
theorem Rnone_pure (x : Ln) (hx : OkLn x) : PL.Pure Tryz.prog 139 [lns x] (.bool (decide (x.fd = default))) := by
 have h := RFSame_pure x.fd default (by have := hx.c; rw [maxLen_eq]; omega) (Nat.zero_le _)
 refine PL.Pure.of_v Tryz.func139 (by decide) rfl Tryz.ntmps139 Tryz.results139 (by simp) rfl ?_
 simp only [go_sem, lns]
 refine vCall_of h ?_ ?_ ?_
 ·simp only [go_sem]
 ·rfl
 ·simp only [go_sem]
set_option maxRecDepth 20000 in
set_option maxHeartbeats 16000000 in
theorem RLRight_pure (x : Ln) (hx : OkLn x) : PL.Pure Tryz.prog 102 [lns x] (.bool (rightLn x)) := by
 have mf : x.fo.length ≤ maxLen := by have := hx.f; rw [maxLen_eq]; omega
 have mb : x.ba.length ≤ maxLen := by have := hx.b; rw [maxLen_eq]; omega
 have hF := RRight_pure x.fd (by have := hx.c; rw [maxLen_eq]; omega)
 have hT := Rtables_pure x
 have hA := RPlace_pure x.at'
 have hO := Rnone_pure x hx
 have h1 := RCase_pure x.fo x.nm mf
 have h2 := RCase_pure x.ba x.ot mb
 have h3 := Rtable_pure x.fo x.ba hx.b
 have h4 := Rtable_pure x.ba x.fo hx.f
 have h5 := RName_pure x.nm
 have h6 := RName_pure x.ot
 unfold rightLn
 generalize caseM x.fo x.nm = c at *
 generalize caseM x.ba x.ot = d at *
 obtain ⟨c1, c2⟩ := c
 obtain ⟨d1, d2⟩ := d
 have rd : ∀ a : Rf, (a.sc == 0 && (a.gr == [] && a.nm == [])) = decide (a = default) := fun a => ref_fold a default
 refine PL.Pure.of_v Tryz.func102 (by decide) rfl Tryz.ntmps102 Tryz.results102 (by simp) rfl ?_
 simp only [go_sem, lns, rd]
 repeat' (first | (refine vGuard_t (fun h => ?_) (fun h => ?_) <;> (try simp only [go_sem, h, strb, rd])) | (refine vGuard_f (fun h => ?_) (fun h => ?_) <;> (try simp only [go_sem, h, strb, rd])) | (refine vCond_b (fun h => ?_) (fun h => ?_) <;> (try simp only [go_sem, h, strb, rd])) | ((refine vCall_of (hF) ?_ ?_ ?_); (focus simp only [go_sem, lns, fld, ref, prs]); (focus exact rfl); (try simp only [go_sem, strb, rd])) | ((refine vCall_of (hT) ?_ ?_ ?_); (focus simp only [go_sem, lns, fld, ref, prs]); (focus exact rfl); (try simp only [go_sem, strb, rd])) | ((refine vCall_of (hA) ?_ ?_ ?_); (focus simp only [go_sem, lns, fld, ref, prs]); (focus exact rfl); (try simp only [go_sem, strb, rd])) | ((refine vCall_of (hO) ?_ ?_ ?_); (focus simp only [go_sem, lns, fld, ref, prs]); (focus exact rfl); (try simp only [go_sem, strb, rd])) | ((refine vCall_of (h1) ?_ ?_ ?_); (focus simp only [go_sem, lns, fld, ref, prs]); (focus exact rfl); (try simp only [go_sem, strb, rd])) | ((refine vCall_of (h2) ?_ ?_ ?_); (focus simp only [go_sem, lns, fld, ref, prs]); (focus exact rfl); (try simp only [go_sem, strb, rd])) | ((refine vCall_of (h3) ?_ ?_ ?_); (focus simp only [go_sem, lns, fld, ref, prs]); (focus exact rfl); (try simp only [go_sem, strb, rd])) | ((refine vCall_of (h4) ?_ ?_ ?_); (focus simp only [go_sem, lns, fld, ref, prs]); (focus exact rfl); (try simp only [go_sem, strb, rd])) | ((refine vCall_of (h5) ?_ ?_ ?_); (focus simp only [go_sem, lns, fld, ref, prs]); (focus exact rfl); (try simp only [go_sem, strb, rd])) | ((refine vCall_of (h6) ?_ ?_ ?_); (focus simp only [go_sem, lns, fld, ref, prs]); (focus exact rfl); (try simp only [go_sem, strb, rd])) | ((refine vDrawQ (by kernel_rfl) (by kernel_rfl) ?_); (try simp only [go_sem, strb, rd])))
 all_goals (clear hF hT hA hO h1 h2 h3 h4 h5 h6 hx mf mb rd; simp_all)
end Go.Proofs.YthingdchjkhfbaaGreat
set_option linter.unusedSimpArgs false
set_option linter.unusedVariables false
set_option linter.unusedSimpArgs false
set_option linter.unusedVariables false
namespace Go.Proofs.YthingdchjkhfbaaGreat
open Go.PL
theorem ref_dids (r : Rf) : (ref r).dids = [] := by simp only [ref, PV.dids, PV.didsL, List.append_nil]
theorem didsL_ref (l : List Rf) : PV.didsL (l.map ref) = [] := by
 induction l with
 | nil => rfl
 | cons t l ih => simp only [List.map_cons, PV.didsL, ih, ref_dids, List.append_nil]
theorem refs_dids (l : List Rf) : (refs l).dids = [] := by simp only [refs, PV.dids, didsL_ref]
def named (r : Rf) (s : Str) : Rf := ⟨r.sc, r.gr, s⟩
set_option maxHeartbeats 1000000 in
theorem beside_pure (r : Rf) (s : Str) : PL.Pure Tryz.prog 134 [ref r, .str s] (ref (named r s)) := by
 refine PL.Pure.of_v Tryz.func134 (by decide) rfl Tryz.ntmps134 Tryz.results134 (by simp) (ref_dids _) ?_
 simp only [go_sem, ref, named]
def goesR (x : Ln) : List Rf := if x.kind = 2 then [] else if x.kind = 3 then [x.fd.at'] else if x.kind = 9 then [named x.at' x.nm, named x.at' x.ot] else [x.at']
def comesR (x : Ln) : List Rf :=
 if x.kind = 1 then [named x.at' x.nm] else if x.kind = 2 then [x.fd.at'] else if x.kind = 3 then [] else if x.kind = 4 then [⟨x.at'.sc, [], x.at'.nm⟩]
 else if x.kind = 5 then [⟨x.at'.sc, x.nm, x.at'.nm⟩] else if x.kind = 6 then [named x.at' x.nm, named x.at' x.ot] else [x.at']
def goesM (x : Ln) : List Rf := if rightLn x = true then goesR x else []
def comesM (x : Ln) : List Rf := if rightLn x = true then comesR x else []
theorem ob {x y : Int} : ((x == y) = true) ↔ x = y := beq_iff_eq
set_option maxRecDepth 20000 in
set_option maxHeartbeats 8000000 in
theorem Goes_pure (x : Ln) (hx : OkLn x) : PL.Pure Tryz.prog 89 [lns x] (refs (goesM x)) := by
 have hR := LRight_pure x hx
 have h1 := beside_pure x.at' x.nm
 have h2 := beside_pure x.at' x.ot
 unfold goesM
 refine PL.Pure.of_v Tryz.func89 (by decide) rfl Tryz.ntmps89 Tryz.results89 (by simp) (refs_dids _) ?_
 simp only [go_sem, lns]
 repeat' (first | (refine vGuard_t (fun h => ?_) (fun h => ?_) <;> (try simp only [go_sem, h, ref])) | (refine vGuard_f (fun h => ?_) (fun h => ?_) <;> (try simp only [go_sem, h, ref])) | (refine vCond_b (fun h => ?_) (fun h => ?_) <;> (try simp only [go_sem, h, ref])) | ((refine vCall_of (hR) ?_ ?_ ?_); (focus simp only [go_sem, lns, ref]); (focus exact rfl); (try simp only [go_sem, ref])) | ((refine vCall_of (h1) ?_ ?_ ?_); (focus simp only [go_sem, lns, ref]); (focus exact rfl); (try simp only [go_sem, ref])) | ((refine vCall_of (h2) ?_ ?_ ?_); (focus simp only [go_sem, lns, ref]); (focus exact rfl); (try simp only [go_sem, ref])) | ((refine vDrawQ (by kernel_rfl) (by kernel_rfl) ?_); (try simp only [go_sem, ref])))
 all_goals (clear hR h1 h2 hx; simp_all [goesR, refs, named, ref])
set_option maxRecDepth 20000 in
set_option maxHeartbeats 8000000 in
theorem Comes_pure (x : Ln) (hx : OkLn x) : PL.Pure Tryz.prog 124 [lns x] (refs (comesM x)) := by
 have hR := LRight_pure x hx
 have h1 := beside_pure x.at' x.nm
 have h2 := beside_pure x.at' x.ot
 unfold comesM
 refine PL.Pure.of_v Tryz.func124 (by decide) rfl Tryz.ntmps124 Tryz.results124 (by simp) (refs_dids _) ?_
 simp only [go_sem, lns]
 repeat' (first | (refine vGuard_t (fun h => ?_) (fun h => ?_) <;> (try simp only [go_sem, h, ref])) | (refine vGuard_f (fun h => ?_) (fun h => ?_) <;> (try simp only [go_sem, h, ref])) | (refine vCond_b (fun h => ?_) (fun h => ?_) <;> (try simp only [go_sem, h, ref])) | ((refine vCall_of (hR) ?_ ?_ ?_); (focus simp only [go_sem, lns, ref]); (focus exact rfl); (try simp only [go_sem, ref])) | ((refine vCall_of (h1) ?_ ?_ ?_); (focus simp only [go_sem, lns, ref]); (focus exact rfl); (try simp only [go_sem, ref])) | ((refine vCall_of (h2) ?_ ?_ ?_); (focus simp only [go_sem, lns, ref]); (focus exact rfl); (try simp only [go_sem, ref])) | ((refine vDrawQ (by kernel_rfl) (by kernel_rfl) ?_); (try simp only [go_sem, ref])))
 all_goals (clear hR h1 h2 hx; simp_all [comesR, refs, named, ref])
structure OkFs (l : List Fd) : Prop where
 n : l.length ≤ 1000
 c : ∀ f ∈ l, f.cases'.length ≤ 1000000
theorem getD_mem_or {α : Type} {l : List α} {k : Nat} {d : α} : l.getD k d ∈ l ∨ l.getD k d = d := by
 by_cases h : k < l.length
 ·exact .inl (getD_mem' h)
 ·right; rw [List.getD_eq_getElem?_getD, List.getElem?_eq_none (by omega)]; rfl
theorem okFind {l : List Fd} (h : OkFs l) (r : Rf) : (findF l r).1.cases'.length ≤ 1000000 := by
 unfold findF
 split
 ·exact Nat.zero_le _
 ·rcases getD_mem_or (l := l) (k := (idx (atF r) l).toNat) (d := default) with h' | h'
  ·exact h.c _ h'
  ·rw [h']; exact Nat.zero_le _
def mergedM (l : List Fd) (x : Ln) : List Fd × Bool :=
 if (findF l (named x.at' x.nm)).2 ≠ 0 ∨ (findF l (named x.at' x.nm)).1.kind ≠ 1 then ([], false)
 else if (findF l (named x.at' x.ot)).2 ≠ 0 ∨ (findF l (named x.at' x.ot)).1.kind ≠ 1 ∨ (findF l (named x.at' x.ot)).1.worth ≠ IntKind.i64.wrap ((findF l (named x.at' x.nm)).1.worth * x.fac) then ([], false)
 else ([⟨x.at', 1, [], [], (findF l (named x.at' x.nm)).1.worth⟩], true)
def fldsb (x : List Fd × Bool) : PV := .tup [flds x.1, .bool x.2]
theorem fldsb_dids (x : List Fd × Bool) : (fldsb x).dids = [] := by simp only [fldsb, PV.dids, PV.didsL, flds_dids, List.append_nil]
set_option maxRecDepth 20000 in
set_option maxHeartbeats 8000000 in
theorem merged_pure (l : List Fd) (x : Ln) (hl : OkFs l) (hx : OkLn x) (hr : rightLn x = true) (h9 : x.kind = 9) : PL.Pure Tryz.prog 132 [flds l, lns x] (fldsb (mergedM l x)) := by
 have hG := Goes_pure x hx
 have hg : goesM x = [named x.at' x.nm, named x.at' x.ot] := by simp [goesM, goesR, hr, h9]
 rw [hg] at hG
 have f1 := SFind_pure l (named x.at' x.nm) (by have := hl.n; omega) hl.c
 have f2 := SFind_pure l (named x.at' x.ot) (by have := hl.n; omega) hl.c
 unfold mergedM
 generalize findF l (named x.at' x.nm) = a at *
 generalize findF l (named x.at' x.ot) = b at *
 obtain ⟨a, a0⟩ := a
 obtain ⟨b, b0⟩ := b
 have o1 : ((0 : Int) < 1 + 1) = True := by simp
 refine PL.Pure.of_v Tryz.func132 (by decide) rfl Tryz.ntmps132 Tryz.results132 (by simp) (fldsb_dids _) ?_
 simp only [go_sem, flds, lns]
 refine vCall_of (hG) ?_ ?_ ?_; iterate 2 simp only [go_sem, lns]
 simp only [go_sem, refs, ref]
 refine vCall_of (f1) ?_ ?_ ?_; iterate 2 simp only [go_sem, flds, ref]
 simp only [go_sem, fldc, fld]
 repeat' (first | (refine vGuard_t (fun h => ?_) (fun h => ?_) <;> (try simp only [go_sem, h, refs, ref, fldc, fld, flds])) | (refine vGuard_f (fun h => ?_) (fun h => ?_) <;> (try simp only [go_sem, h, refs, ref, fldc, fld, flds])) | (refine vCond_b (fun h => ?_) (fun h => ?_) <;> (try simp only [go_sem, h, refs, ref, fldc, fld, flds])) | ((refine vCall_of (f2) ?_ ?_ ?_); (focus simp only [go_sem, flds, ref]); (focus exact rfl); (try simp only [go_sem, refs, ref, fldc, fld, flds])) | ((refine vDrawQ (by kernel_rfl) (by kernel_rfl) ?_); (try simp only [go_sem, refs, ref, fldc, fld, flds])))
 all_goals (clear hG f1 f2 hl hx; simp_all [fldsb, flds, fld])
end Go.Proofs.YthingdchjkhfbaaGreat
set_option linter.unusedSimpArgs false
set_option linter.unusedVariables false
set_option linter.unusedSimpArgs false
set_option linter.unusedVariables false
namespace Go.Proofs.YthingdchjkhfbaaGreat
open Go.PL
def arrM (l : List Fd) (x : Ln) : List Fd × Bool :=
 if x.kind = 2 then ([x.fd], true)
 else if x.kind = 3 then ([], decide ((findF l x.fd.at').2 = 0) && decide ((findF l x.fd.at').1 = x.fd))
 else if x.kind = 9 then mergedM l x
 else if (findF l x.at').2 ≠ 0 then ([], false)
 else if x.kind = 6 then ([⟨named x.at' x.nm, 1, [], [], (findF l x.at').1.worth⟩, ⟨named x.at' x.ot, 1, [], [], IntKind.i64.wrap ((findF l x.at').1.worth * x.fac)⟩], decide ((findF l x.at').1.kind = 1))
 else if x.kind = 7 then ([⟨x.at', 4, [], [], 0⟩], decide ((findF l x.at').1.kind = 2) && decide ((findF l x.at').1.df = x.ot))
 else if x.kind = 10 then ([⟨x.at', 2, x.ot, [], 0⟩], decide ((findF l x.at').1.kind = 4))
 else if x.kind = 8 then ([⟨x.at', 3, x.ot, fromsM x.ba, 0⟩], decide ((findF l x.at').1 = ⟨x.at', 3, x.nm, fromsM x.fo, 0⟩))
 else ([⟨(comesR x).getD 0 default, (findF l x.at').1.kind, (findF l x.at').1.df, (findF l x.at').1.cases', (findF l x.at').1.worth⟩], true)
theorem fromsM_len (l : List Pr) : (fromsM l).length = l.length := by simp [fromsM]
set_option maxRecDepth 20000 in
set_option maxHeartbeats 16000000 in
theorem arrivals_pure (l : List Fd) (x : Ln) (hl : OkFs l) (hx : OkLn x) (hr : rightLn x = true) : PL.Pure Tryz.prog 88 [flds l, lns x] (fldsb (arrM l x)) := by
 have hn := hl.n
 have hO := FOwn_pure x.fd hx.c
 have okA := okFind hl x.at'
 have okF := okFind hl x.fd.at'
 have f1 := SFind_pure l x.fd.at' (by omega) hl.c
 have f2 := SFind_pure l x.at' (by omega) hl.c
 have s1 := FSame_pure (findF l x.fd.at').1 x.fd (by rw [maxLen_eq]; omega) (by have := hx.c; rw [maxLen_eq]; omega)
 have s2 := FSame_pure (findF l x.at').1 ⟨x.at', 3, x.nm, fromsM x.fo, 0⟩ (by rw [maxLen_eq]; omega) (by have := hx.f; simp only [fromsM_len]; rw [maxLen_eq]; omega)
 have r1 := froms_pure x.fo hx.f
 have r2 := froms_pure x.ba hx.b
 have hC := Comes_pure x hx
 have hc : comesM x = comesR x := by simp [comesM, hr]
 rw [hc] at hC
 unfold arrM
 by_cases k9 : x.kind = 9
 ·have hM := merged_pure l x hl hx hr k9
  rw [if_neg (by omega), if_neg (by omega), if_pos k9]
  generalize mergedM l x = y at *
  obtain ⟨y, b⟩ := y
  have e2 : (x.kind == 2) = false := by rw [k9]; rfl
  have e3 : (x.kind == 3) = false := by rw [k9]; rfl
  have e9 : (x.kind == 9) = true := by rw [k9]; rfl
  refine PL.Pure.of_v Tryz.func88 (by decide) rfl Tryz.ntmps88 Tryz.results88 (by simp) (fldsb_dids _) ?_
  simp only [go_sem, flds, lns, e2, e3, e9]
  refine vCall_of (hM) ?_ ?_ ?_; iterate 2 simp only [go_sem, flds, lns]
  simp only [go_sem, fldsb, flds]
 have e9 : (x.kind == 9) = false := beq_eq_false_iff_ne.2 k9
 rw [if_neg k9]
 generalize findF l x.fd.at' = a at *
 generalize findF l x.at' = b at *
 obtain ⟨a, a0⟩ := a
 obtain ⟨b, b0⟩ := b
 simp only at *
 by_cases k2 : x.kind = 2
 ·have e2 : (x.kind == 2) = true := by rw [k2]; rfl
  rw [if_pos k2]
  refine PL.Pure.of_v Tryz.func88 (by decide) rfl Tryz.ntmps88 Tryz.results88 (by simp) (fldsb_dids _) ?_
  simp only [go_sem, flds, lns, e2]
  refine vCall_of (hO) ?_ ?_ ?_; iterate 2 simp only [go_sem, fld]
  simp only [go_sem, fldsb, flds, fld]
 have e2 : (x.kind == 2) = false := beq_eq_false_iff_ne.2 k2
 rw [if_neg k2]
 by_cases k3 : x.kind = 3
 ·have e3 : (x.kind == 3) = true := by rw [k3]; rfl
  rw [if_pos k3]
  refine PL.Pure.of_v Tryz.func88 (by decide) rfl Tryz.ntmps88 Tryz.results88 (by simp) (fldsb_dids _) ?_
  simp only [go_sem, flds, lns, e2, e3]
  refine vCall_of (f1) ?_ ?_ ?_; iterate 2 simp only [go_sem, flds, ref]
  simp only [go_sem, fldc, fld]
  repeat' (first | (refine vGuard_t (fun h => ?_) (fun h => ?_) <;> (try simp only [go_sem, h, fldc, fld, flds])) | (refine vGuard_f (fun h => ?_) (fun h => ?_) <;> (try simp only [go_sem, h, fldc, fld, flds])) | (refine vCond_b (fun h => ?_) (fun h => ?_) <;> (try simp only [go_sem, h, fldc, fld, flds])) | ((refine vCall_of (s1) ?_ ?_ ?_); (focus simp only [go_sem, fld]); (focus exact rfl); (try simp only [go_sem, fldc, fld, flds])) | ((refine vDrawQ (by kernel_rfl) (by kernel_rfl) ?_); (try simp only [go_sem, fldc, fld, flds])))
  all_goals (clear hO f1 f2 s1 s2 r1 r2 hC hl hx okA okF; simp_all [fldsb, flds, fld])
 have e3 : (x.kind == 3) = false := beq_eq_false_iff_ne.2 k3
 rw [if_neg k3]
 by_cases hb : b0 = 0
 ·subst hb
  simp only [ne_eq, not_true_eq_false, if_false]
  by_cases k6 : x.kind = 6
  ·have e6 : (x.kind == 6) = true := by rw [k6]; rfl
   have hcc : comesR x = [named x.at' x.nm, named x.at' x.ot] := by simp [comesR, k6]
   rw [hcc] at hC
   rw [if_pos k6]
   refine PL.Pure.of_v Tryz.func88 (by decide) rfl Tryz.ntmps88 Tryz.results88 (by simp) (fldsb_dids _) ?_
   simp only [go_sem, flds, lns, e2, e3, e9]
   refine vCall_of (f2) ?_ ?_ ?_; iterate 2 simp only [go_sem, flds, ref]
   simp only [go_sem, fldc, fld]
   refine vCall_of (hC) ?_ ?_ ?_; iterate 2 simp only [go_sem, lns]
   simp only [go_sem, refs, ref, e6]
   repeat' (first | (refine vGuard_t (fun h => ?_) (fun h => ?_) <;> (try simp only [go_sem, h, refs, ref, fld])) | (refine vGuard_f (fun h => ?_) (fun h => ?_) <;> (try simp only [go_sem, h, refs, ref, fld])) | (refine vCond_b (fun h => ?_) (fun h => ?_) <;> (try simp only [go_sem, h, refs, ref, fld])) | ((refine vDrawQ (by kernel_rfl) (by kernel_rfl) ?_); (try simp only [go_sem, refs, ref, fld])))
   all_goals (clear hO f1 f2 s1 s2 r1 r2 hC hl hx okA okF; simp_all [fldsb, flds, fld] <;> (first | rfl | (rw [Bool.eq_iff_iff]; simp)))
  have e6 : (x.kind == 6) = false := beq_eq_false_iff_ne.2 k6
  rw [if_neg k6]
  by_cases k7 : x.kind = 7
  ·have e7 : (x.kind == 7) = true := by rw [k7]; rfl
   rw [if_pos k7]
   refine PL.Pure.of_v Tryz.func88 (by decide) rfl Tryz.ntmps88 Tryz.results88 (by simp) (fldsb_dids _) ?_
   simp only [go_sem, flds, lns, e2, e3, e9]
   refine vCall_of (f2) ?_ ?_ ?_; iterate 2 simp only [go_sem, flds, ref]
   simp only [go_sem, fldc, fld]
   refine vCall_of (hC) ?_ ?_ ?_; iterate 2 simp only [go_sem, lns]
   simp only [go_sem, refs, e6, e7]
   repeat' (first | (refine vGuard_t (fun h => ?_) (fun h => ?_) <;> (try simp only [go_sem, h])) | (refine vGuard_f (fun h => ?_) (fun h => ?_) <;> (try simp only [go_sem, h])) | (refine vCond_b (fun h => ?_) (fun h => ?_) <;> (try simp only [go_sem, h])) | ((refine vDrawQ (by kernel_rfl) (by kernel_rfl) ?_); (try simp only [go_sem])))
   all_goals (clear hO f1 f2 s1 s2 r1 r2 hC hl hx okA okF; simp_all [fldsb, flds, fld] <;> (first | rfl | (rw [Bool.eq_iff_iff]; simp)))
  have e7 : (x.kind == 7) = false := beq_eq_false_iff_ne.2 k7
  rw [if_neg k7]
  by_cases k10 : x.kind = 10
  ·have e10 : (x.kind == 10) = true := by rw [k10]; rfl
   rw [if_pos k10]
   refine PL.Pure.of_v Tryz.func88 (by decide) rfl Tryz.ntmps88 Tryz.results88 (by simp) (fldsb_dids _) ?_
   simp only [go_sem, flds, lns, e2, e3, e9]
   refine vCall_of (f2) ?_ ?_ ?_; iterate 2 simp only [go_sem, flds, ref]
   simp only [go_sem, fldc, fld]
   refine vCall_of (hC) ?_ ?_ ?_; iterate 2 simp only [go_sem, lns]
   simp only [go_sem, refs, e6, e7, e10]
   repeat' (first | (refine vGuard_t (fun h => ?_) (fun h => ?_) <;> (try simp only [go_sem, h])) | (refine vGuard_f (fun h => ?_) (fun h => ?_) <;> (try simp only [go_sem, h])) | (refine vCond_b (fun h => ?_) (fun h => ?_) <;> (try simp only [go_sem, h])) | ((refine vDrawQ (by kernel_rfl) (by kernel_rfl) ?_); (try simp only [go_sem])))
   all_goals (clear hO f1 f2 s1 s2 r1 r2 hC hl hx okA okF; simp_all [fldsb, flds, fld] <;> (first | rfl | (rw [Bool.eq_iff_iff]; simp)))
  have e10 : (x.kind == 10) = false := beq_eq_false_iff_ne.2 k10
  rw [if_neg k10]
  by_cases k8 : x.kind = 8
  ·have e8 : (x.kind == 8) = true := by rw [k8]; rfl
   rw [if_pos k8]
   refine PL.Pure.of_v Tryz.func88 (by decide) rfl Tryz.ntmps88 Tryz.results88 (by simp) (fldsb_dids _) ?_
   simp only [go_sem, flds, lns, e2, e3, e9]
   refine vCall_of (f2) ?_ ?_ ?_; iterate 2 simp only [go_sem, flds, ref]
   simp only [go_sem, fldc, fld]
   refine vCall_of (hC) ?_ ?_ ?_; iterate 2 simp only [go_sem, lns]
   simp only [go_sem, refs, e6, e7, e10, e8]
   repeat' (first | (refine vGuard_t (fun h => ?_) (fun h => ?_) <;> (try simp only [go_sem, h, strs, fld])) | (refine vGuard_f (fun h => ?_) (fun h => ?_) <;> (try simp only [go_sem, h, strs, fld])) | (refine vCond_b (fun h => ?_) (fun h => ?_) <;> (try simp only [go_sem, h, strs, fld])) | ((refine vCall_of (r1) ?_ ?_ ?_); (focus simp only [go_sem, prs, fld, strs]); (focus exact rfl); (try simp only [go_sem, strs, fld])) | ((refine vCall_of (r2) ?_ ?_ ?_); (focus simp only [go_sem, prs, fld, strs]); (focus exact rfl); (try simp only [go_sem, strs, fld])) | ((refine vCall_of (s2) ?_ ?_ ?_); (focus simp only [go_sem, prs, fld, strs]); (focus exact rfl); (try simp only [go_sem, strs, fld])) | ((refine vDrawQ (by kernel_rfl) (by kernel_rfl) ?_); (try simp only [go_sem, strs, fld])))
   all_goals (clear hO f1 f2 s1 s2 r1 r2 hC hl hx okA okF; simp_all [fldsb, flds, fld])
  have e8 : (x.kind == 8) = false := beq_eq_false_iff_ne.2 k8
  rw [if_neg k8]
  have hk : x.kind = 1 ∨ x.kind = 4 ∨ x.kind = 5 := by
   refine Decidable.byContradiction fun hne => ?_
   simp [rightLn, k2, k3, k6, k7, k8, k9, k10, show ¬ x.kind = 1 by omega, show ¬ x.kind = 4 by omega, show ¬ x.kind = 5 by omega] at hr
  obtain ⟨c, hcc⟩ : ∃ c, comesR x = [c] := by
   rcases hk with h | h | h <;> simp [comesR, h]
  rw [hcc] at hC ⊢
  refine PL.Pure.of_v Tryz.func88 (by decide) rfl Tryz.ntmps88 Tryz.results88 (by simp) (fldsb_dids _) ?_
  simp only [go_sem, flds, lns, e2, e3, e9]
  refine vCall_of (f2) ?_ ?_ ?_; iterate 2 simp only [go_sem, flds, ref]
  simp only [go_sem, fldc, fld]
  refine vCall_of (hC) ?_ ?_ ?_; iterate 2 simp only [go_sem, lns]
  simp only [go_sem, refs, ref, e6, e7, e10, e8, fldsb, flds, fld]
 ·have hb' : (b0 != 0) = true := bne_iff_ne.2 hb
  rw [if_pos hb]
  refine PL.Pure.of_v Tryz.func88 (by decide) rfl Tryz.ntmps88 Tryz.results88 (by simp) (fldsb_dids _) ?_
  simp only [go_sem, flds, lns, e2, e3, e9]
  refine vCall_of (f2) ?_ ?_ ?_; iterate 2 simp only [go_sem, flds, ref]
  simp only [go_sem, fldc, fld, hb', fldsb, flds]
end Go.Proofs.YthingdchjkhfbaaGreat
set_option linter.unusedSimpArgs false
set_option linter.unusedVariables false
set_option linter.unusedSimpArgs false
set_option linter.unusedVariables false
namespace Go.Proofs.YthingdchjkhfbaaGreat
open Go.PL
def goAll : List Rf → List Fd → Option (List Fd)
 | [], l => some l
 | r :: rs, l => if (withoutM l r).2 ≠ 0 then none else goAll rs (withoutM l r).1
def comeAll : List Fd → List Fd → Option (List Fd)
 | [], l => some l
 | f :: fs, l => if (withM l f).2 ≠ 0 then none else comeAll fs (withM l f).1
def applyR (l : List Fd) (x : Ln) : Option (List Fd) := if (arrM l x).2 = false then none else (goAll (goesR x) l).bind (comeAll (arrM l x).1)
def applyM (l : List Fd) (x : Ln) : List Fd × Int :=
 if rightL l = false ∨ rightLn x = false then ([], 5) else match applyR l x with | none => ([], 16) | some m => (m, 0)
theorem okWithout {l : List Fd} (h : OkFs l) (r : Rf) : OkFs (withoutM l r).1 := by
 unfold withoutM
 split
 ·exact ⟨Nat.zero_le _, fun f hf => by cases hf⟩
 split
 ·exact ⟨Nat.zero_le _, fun f hf => by cases hf⟩
 ·exact ⟨Nat.le_trans (List.length_eraseIdx_le _ _) h.n, fun f hf => h.c f (List.mem_of_mem_eraseIdx hf)⟩
theorem mem_ins {l : List Fd} {f x : Fd} (h : x ∈ insM l f) : x ∈ l ∨ x = f := by
 unfold insM at h
 rcases List.mem_append.1 h with h | h
 ·exact .inl (List.takeWhile_subset _ h)
 ·rcases List.mem_cons.1 h with h | h
  ·exact .inr h
  ·exact .inl (List.dropWhile_subset _ h)
theorem okWith {l : List Fd} (h : OkFs l) {f : Fd} (hf : f.cases'.length ≤ 1000000) : OkFs (withM l f).1 := by
 unfold withM
 split
 ·exact ⟨Nat.zero_le _, fun f hf => by cases hf⟩
 split
 ·exact ⟨Nat.zero_le _, fun f hf => by cases hf⟩
 split
 ·exact ⟨Nat.zero_le _, fun f hf => by cases hf⟩
 ·refine ⟨by simp only [ins_len]; omega, fun g hg => ?_⟩
  rcases mem_ins hg with h' | h'
  ·exact h.c g h'
  ·rw [h']; exact hf
theorem okArr {l : List Fd} {x : Ln} (hl : OkFs l) (hx : OkLn x) : OkFs (arrM l x).1 := by
 have o1 : ∀ f : Fd, f.cases'.length ≤ 1000000 → OkFs [f] := fun f hf => ⟨by simp, fun g hg => by rw [List.mem_singleton.1 hg]; exact hf⟩
 have o0 : OkFs [] := ⟨Nat.zero_le _, fun f hf => by cases hf⟩
 unfold arrM
 split
 ·exact o1 _ hx.c
 split
 ·exact o0
 split
 ·unfold mergedM
  split
  ·exact o0
  split
  ·exact o0
  ·exact o1 _ (Nat.zero_le _)
 split
 ·exact o0
 split
 ·refine ⟨by simp, fun f hf => ?_⟩
  simp only [List.mem_cons, List.not_mem_nil, or_false] at hf
  rcases hf with rfl | rfl <;> exact Nat.zero_le _
 split
 ·exact o1 _ (Nat.zero_le _)
 split
 ·exact o1 _ (Nat.zero_le _)
 split
 ·exact o1 _ (by simp only [fromsM_len]; exact hx.b)
 ·exact o1 _ (okFind hl _)
set_option maxRecDepth 20000 in
set_option maxHeartbeats 16000000 in
theorem Apply_pure (l : List Fd) (x : Ln) (hl : OkFs l) (hx : OkLn x) : PL.Pure Tryz.prog 48 [flds l, lns x] (fldsc (applyM l x)) := by
 have hn := hl.n
 have hS := SRight_pure l (by rw [maxLen_eq]; omega) (fun f hf => by have := hl.c f hf; rw [maxLen_eq]; omega)
 have hR := LRight_pure x hx
 unfold applyM
 cases hsr : rightL l
 ·rw [hsr] at hS
  refine PL.Pure.of_v Tryz.func48 (by decide) rfl Tryz.ntmps48 Tryz.results48 (by simp) (fldsc_dids _) ?_
  simp only [go_sem, flds, lns]
  refine vCall_of (hS) ?_ ?_ ?_; iterate 2 simp only [go_sem, flds]
  simp only [go_sem, true_or, if_true, fldsc, flds]
 rw [hsr] at hS
 cases hlr : rightLn x
 ·rw [hlr] at hR
  refine PL.Pure.of_v Tryz.func48 (by decide) rfl Tryz.ntmps48 Tryz.results48 (by simp) (fldsc_dids _) ?_
  simp only [go_sem, flds, lns]
  refine vCall_of (hS) ?_ ?_ ?_; iterate 2 simp only [go_sem, flds]
  simp only [go_sem]
  refine vCall_of (hR) ?_ ?_ ?_; iterate 2 simp only [go_sem, lns]
  simp only [go_sem, or_true, if_true, fldsc, flds]
 rw [hlr] at hR
 simp only [Bool.true_eq_false, or_self, if_false]
 have hA := arrivals_pure l x hl hx hlr
 have okA := okArr hl hx
 unfold applyR
 generalize arrM l x = y at *
 obtain ⟨come, ok⟩ := y
 simp only at okA ⊢
 cases ok
 ·simp only [if_true]
  refine PL.Pure.of_v Tryz.func48 (by decide) rfl Tryz.ntmps48 Tryz.results48 (by simp) (fldsc_dids _) ?_
  simp only [go_sem, flds, lns]
  refine vCall_of (hS) ?_ ?_ ?_; iterate 2 simp only [go_sem, flds]
  simp only [go_sem]
  refine vCall_of (hR) ?_ ?_ ?_; iterate 2 simp only [go_sem, lns]
  simp only [go_sem]
  refine vCall_of (hA) ?_ ?_ ?_; iterate 2 simp only [go_sem, flds, lns]
  simp only [go_sem, fldsb, fldsc, flds]
 simp only [Bool.true_eq_false, if_false]
 have hO := SOwn_pure l (by omega) hl.c
 have hG := Goes_pure x hx
 have hg : goesM x = goesR x := by simp [goesM, hlr]
 rw [hg] at hG
 have hgl : (goesR x).length ≤ maxLen := by
  have : (goesR x).length ≤ 2 := by
   unfold goesR
   split
   ·simp
   split
   ·simp
   split <;> simp
  rw [maxLen_eq]; omega
 generalize goesR x = goes at *
 generalize hGo : goAll goes l = G
 refine PL.Pure.of_v Tryz.func48 (by decide) rfl Tryz.ntmps48 Tryz.results48 (by simp) (fldsc_dids _) ?_
 simp only [go_sem, flds, lns]
 refine vCall_of (hS) ?_ ?_ ?_; iterate 2 simp only [go_sem, flds]
 simp only [go_sem]
 refine vCall_of (hR) ?_ ?_ ?_; iterate 2 simp only [go_sem, lns]
 simp only [go_sem]
 refine vCall_of (hA) ?_ ?_ ?_; iterate 2 simp only [go_sem, flds, lns]
 simp only [go_sem, fldsb, flds]
 refine vCall_of (hO) ?_ ?_ ?_; iterate 2 simp only [go_sem, flds]
 simp only [go_sem, flds, lns]
 refine vCall_of (hG) ?_ ?_ ?_; iterate 2 simp only [go_sem, lns]
 simp only [go_sem, refs]
 refine vLoopM (ι := { x : Nat × (List Fd) // x.1 ≤ (goes).length ∧ (OkFs x.2 ∧ goAll (goes.drop x.1) x.2 = G) }) 64 (fun x => [(6, flds come), (8, flds x.1.2), (33, refs goes), (34, .int .i64 (goes.length : Int)), (35, .int .i64 (x.1.1 : Int))]) (fun x => []) (fun x => []) (fun x => (goes).length - x.1.1) ⟨(0, l), Nat.zero_le _, ⟨hl, hGo⟩⟩ ⟨rfl, (fcs rfl (fcs rfl (fcs rfl (fcs rfl (fcs rfl fnl))))), fnl, fnl⟩ (fun x => ⟨(fcs rfl (fcs rfl (fcs rfl (fcs rfl (fcs rfl fnl))))), fnl⟩) (fun x => ?_); obtain ⟨⟨k, out⟩, hk, hI⟩ := x; simp only at hk hI ⊢
 obtain ⟨okO, hI⟩ := hI
 have hon := okO.n
 by_cases h : (k : Int) < (goes.length : Int)
 ·(have hka : k < (goes).length := by omega); (have w1 := w64s hka (hgl)); (have i1 : (0 : Int) ≤ (k : Int) := by omega)
  have hW := Without_pure out (goes.getD k default) (by omega) okO.c
  have okW := okWithout okO (goes.getD k default)
  rw [drop_cons' hka (d := default), goAll] at hI
  generalize withoutM out (goes.getD k default) = w at *
  obtain ⟨w, c⟩ := w
  simp only at hI okW
  by_cases hc : c = 0
  ·subst hc
   simp only [ne_eq, not_true_eq_false, if_false] at hI
   simp only [go_sem, refs, h, i1, getD_ref hka, ref]
   refine vCall_of (hW) ?_ ?_ ?_; iterate 2 simp only [go_sem, flds, ref]
   simp only [go_sem, fldsc, flds, w1]
   exact ⟨⟨(k + 1, w), by (try simp only); omega, ⟨okW, hI⟩⟩, by show (goes).length - (k + 1) < (goes).length - k; omega, ⟨rfl, (fcs rfl (fcs rfl (fcs rfl (fcs rfl (fcs rfl fnl))))), fnl, fnl⟩⟩
  ·have hc' : (c != 0) = true := bne_iff_ne.2 hc
   simp only [ne_eq, hc, not_false_eq_true, if_true] at hI
   subst hI
   simp only [go_sem, refs, h, i1, getD_ref hka, ref]
   refine vCall_of (hW) ?_ ?_ ?_; iterate 2 simp only [go_sem, flds, ref]
   simp only [go_sem, fldsc, flds, hc', Option.bind_none]
 ·obtain rfl : k = goes.length := by omega
  rw [List.drop_length, goAll] at hI
  subst hI
  have hcl : come.length ≤ maxLen := by have := okA.n; rw [maxLen_eq]; omega
  simp only [go_sem, h, flds]
  refine vLoopM (ι := { x : Nat × (List Fd) // x.1 ≤ (come).length ∧ (OkFs x.2 ∧ comeAll (come.drop x.1) x.2 = comeAll come out) }) 64 (fun x => [(8, flds x.1.2), (48, flds come), (49, .int .i64 (come.length : Int)), (50, .int .i64 (x.1.1 : Int))]) (fun x => []) (fun x => []) (fun x => (come).length - x.1.1) ⟨(0, out), Nat.zero_le _, ⟨okO, rfl⟩⟩ ⟨rfl, (fcs rfl (fcs rfl (fcs rfl (fcs rfl fnl)))), fnl, fnl⟩ (fun x => ⟨(fcs rfl (fcs rfl (fcs rfl (fcs rfl fnl)))), fnl⟩) (fun x => ?_); obtain ⟨⟨kb, o2⟩, hkb, hIb⟩ := x; simp only at hkb hIb ⊢
  obtain ⟨ok2, hIb⟩ := hIb
  have hon2 := ok2.n
  by_cases hb : (kb : Int) < (come.length : Int)
  ·(have hkab : kb < (come).length := by omega); (have w1b := w64s hkab (hcl)); (have i1b : (0 : Int) ≤ (kb : Int) := by omega)
   have hcf := okA.c _ (getD_mem' hkab (d := default))
   have hW := With_pure o2 (come.getD kb default) (by omega) ok2.c hcf
   have okW := okWith ok2 hcf
   rw [drop_cons' hkab (d := default), comeAll] at hIb
   generalize withM o2 (come.getD kb default) = w at *
   obtain ⟨w, c⟩ := w
   simp only at hIb okW
   by_cases hc : c = 0
   ·subst hc
    simp only [ne_eq, not_true_eq_false, if_false] at hIb
    simp only [go_sem, flds, hb, i1b, getD_fld hkab, fld]
    refine vCall_of (hW) ?_ ?_ ?_; iterate 2 simp only [go_sem, flds, fld]
    simp only [go_sem, fldsc, flds, w1b]
    exact ⟨⟨(kb + 1, w), by (try simp only); omega, ⟨okW, hIb⟩⟩, by show (come).length - (kb + 1) < (come).length - kb; omega, ⟨rfl, (fcs rfl (fcs rfl (fcs rfl (fcs rfl fnl)))), fnl, fnl⟩⟩
   ·have hc' : (c != 0) = true := bne_iff_ne.2 hc
    simp only [ne_eq, hc, not_false_eq_true, if_true] at hIb
    simp only [go_sem, flds, hb, i1b, getD_fld hkab, fld]
    refine vCall_of (hW) ?_ ?_ ?_; iterate 2 simp only [go_sem, flds, fld]
    simp only [go_sem, fldsc, flds, hc', ← hIb, Option.bind_some]
  ·obtain rfl : kb = come.length := by omega
   rw [List.drop_length, comeAll] at hIb
   simp only [go_sem, flds, hb, ← hIb, fldsc, Option.bind_some]
end Go.Proofs.YthingdchjkhfbaaGreat
set_option linter.unusedSimpArgs false
set_option linter.unusedVariables false
set_option linter.unusedSimpArgs false
set_option linter.unusedVariables false
namespace Go.Proofs.YthingdchjkhfbaaGreat
open Go.PL
def roundP (fo ba : List Pr) (p : Pr) : Bool := (caseM fo p.fr').2 && ((caseM ba (caseM fo p.fr').1).2 && ((caseM ba (caseM fo p.fr').1).1 == p.fr'))
def roundM (fo ba : List Pr) : Bool := fo.all (roundP fo ba)
def keptM (x : Ln) (r : Rf) : Bool :=
 if rightLn x = false then false else if idx (fun a => decide (r = a)) (goesR x) < 0 then true
 else if x.kind = 1 ∨ x.kind = 4 ∨ x.kind = 5 ∨ x.kind = 6 ∨ x.kind = 7 ∨ x.kind = 10 then true
 else if x.kind = 9 then idx (fun a => decide (r = a)) (goesR x) == 0
 else if x.kind = 8 then roundM x.fo x.ba else false
theorem goesR_len (x : Ln) : (goesR x).length ≤ 2 := by
 unfold goesR
 split
 ·simp
 split
 ·simp
 split <;> simp
def traceM (x : Ln) (r : Rf) : Rf × Bool :=
 if rightLn x = false then (default, false) else if ((goesR x).any fun a => decide (r = a)) = false then (r, true)
 else if (comesR x).length = 0 then (default, false) else ((comesR x).getD 0 default, true)
def invR (x : Ln) : Ln :=
 if x.kind = 1 then ⟨1, ⟨x.at'.sc, x.at'.gr, x.nm⟩, x.at'.nm, x.ot, x.fac, x.fd, x.fo, x.ba⟩
 else if x.kind = 2 then ⟨3, x.at', x.nm, x.ot, x.fac, x.fd, x.fo, x.ba⟩
 else if x.kind = 3 then ⟨2, x.at', x.nm, x.ot, x.fac, x.fd, x.fo, x.ba⟩
 else if x.kind = 4 then ⟨5, ⟨x.at'.sc, [], x.at'.nm⟩, x.at'.gr, x.ot, x.fac, x.fd, x.fo, x.ba⟩
 else if x.kind = 5 then ⟨4, ⟨x.at'.sc, x.nm, x.at'.nm⟩, [], x.ot, x.fac, x.fd, x.fo, x.ba⟩
 else if x.kind = 6 then ⟨9, x.at', x.nm, x.ot, x.fac, x.fd, x.fo, x.ba⟩
 else if x.kind = 9 then ⟨6, x.at', x.nm, x.ot, x.fac, x.fd, x.fo, x.ba⟩
 else if x.kind = 7 then ⟨10, x.at', x.nm, x.ot, x.fac, x.fd, x.fo, x.ba⟩
 else if x.kind = 10 then ⟨7, x.at', x.nm, x.ot, x.fac, x.fd, x.fo, x.ba⟩
 else if x.kind = 8 then ⟨8, x.at', x.ot, x.nm, x.fac, x.fd, x.ba, x.fo⟩ else x
def lnc (x : Ln × Int) : PV := .tup [lns x.1, .int .i64 x.2]
theorem lnc_dids (x : Ln × Int) : (lnc x).dids = [] := by simp only [lnc, PV.dids, PV.didsL, lns_dids, List.append_nil]
def invM (x : Ln) : Ln × Int := if rightLn x = false then (default, 5) else (invR x, 0)
set_option maxRecDepth 20000 in
set_option maxHeartbeats 8000000 in
theorem Inverse_pure (x : Ln) (hx : OkLn x) : PL.Pure Tryz.prog 121 [lns x] (lnc (invM x)) := by
 have hR := LRight_pure x hx
 have hO := LOwn_pure x hx
 unfold invM
 cases hlr : rightLn x
 ·rw [hlr] at hR
  refine PL.Pure.of_v Tryz.func121 (by decide) rfl Tryz.ntmps121 Tryz.results121 (by simp) (lnc_dids _) ?_
  simp only [go_sem, lns]
  refine vCall_of (hR) ?_ ?_ ?_; iterate 2 simp only [go_sem, lns]
  simp only [go_sem, if_true, lnc, lns_default]
 rw [hlr] at hR
 refine PL.Pure.of_v Tryz.func121 (by decide) rfl Tryz.ntmps121 Tryz.results121 (by simp) (lnc_dids _) ?_
 simp only [go_sem, lns]
 refine vCall_of (hR) ?_ ?_ ?_; iterate 2 simp only [go_sem, lns]
 simp only [go_sem, lns]
 refine vCall_of (hO) ?_ ?_ ?_; iterate 2 simp only [go_sem, lns]
 simp only [go_sem, lns]
 repeat' (first | (refine vGuard_t (fun h => ?_) (fun h => ?_) <;> (try simp only [go_sem, h])) | (refine vGuard_f (fun h => ?_) (fun h => ?_) <;> (try simp only [go_sem, h])) | (refine vCond_b (fun h => ?_) (fun h => ?_) <;> (try simp only [go_sem, h])) | ((refine vDrawS [(1, 4)] (by kernel_rfl) (by kernel_rfl) (by exact rfl) ?_); (try simp only [go_sem])) | ((refine vDrawQ (by kernel_rfl) (by kernel_rfl) ?_); (try simp only [go_sem])))
 all_goals (simp only [beq_iff_eq, beq_eq_false_iff_ne, ne_eq] at *; clear hR hO hx; simp [invR, lnc, lns, *])
def placeI (l : List Rf) (r : Rf) : Int := idx (fun a => decide (r = a)) l
end Go.Proofs.YthingdchjkhfbaaGreat
