/- Contracts of functions and laws of this seat, each for every input that it names: lemmas of the proof. -/
import Derived.Test.YtcomkajmhlhphaaGreatXCi
set_option linter.unusedSimpArgs false
set_option linter.unusedVariables false
set_option linter.unusedSimpArgs false
set_option linter.unusedVariables false
namespace Go.Proofs.YtcomkajmhlhphaaGreat
open Go.PL
theorem idx_sym (r : Rf) (l : List Rf) : idx (fun x => decide (x = r)) l = idx (fun a => decide (r = a)) l := by
  congr 1; funext x; simp [eq_comm]
theorem placeI_any (l : List Rf) (r : Rf) : (l.any fun a => decide (r = a)) = decide (0 ≤ placeI l r) := (idx_any _ _).symm
theorem RPlace_pure' (l : List Rf) (r : Rf) (hl : l.length ≤ maxLen) : PL.Pure Tryz.prog 119 [refs l, ref r] (.int .i64 (placeI l r)) := by
  have := RPlaceR_pure l r hl
  rwa [idx_sym] at this
theorem goes_one {x : Ln} (h : x.kind ≠ 9) : (goesR x).length ≤ 1 := by
  unfold goesR
  split
  · simp
  split
  · simp
  simp [h]
theorem comes_one {x : Ln} (h : x.kind ≠ 6) : (comesR x).length ≤ 1 := by
  unfold comesR
  repeat' split
  all_goals first | (simp; done) | contradiction
/-- does the second table take back all that the first one took? -/
def backP (b : List Pr) (p : Pr) : Bool := (caseM b p.to').2 && ((caseM b p.to').1 == p.fr')
def backM (a b : List Pr) : Bool := a.all (backP b)
theorem case_at {t o : List Pr} (h : tableM t o = true) {i : Nat} (hi : i < t.length) : caseM t (t.getD i default).fr' = ((t.getD i default).to', true) := by
  simp only [tableM, Bool.and_eq_true, List.all_eq_true, List.mem_range] at h
  have h1 := h.2 i hi
  simp only [tabOk, Bool.and_eq_true, Bool.not_eq_true'] at h1
  have hno := h1.2.1
  have hf : t.find? (fun p => p.fr' == (t.getD i default).fr') = some (t.getD i default) := by
    refine find_found hi (fun j hj => ?_) (by simp)
    have hj' : j < (t.take i).length := by rw [List.length_take]; omega
    have := List.any_eq_false.1 hno _ (getD_mem (d := default) hj')
    rw [getD_take hj] at this
    simpa using this
  unfold caseM
  rw [hf]
theorem round_back {t b o : List Pr} (h : tableM t o = true) : roundM t b = backM t b := by
  unfold roundM backM
  rw [Bool.eq_iff_iff, List.all_eq_true, List.all_eq_true]
  have key : ∀ p ∈ t, roundP t b p = backP b p := fun p hp => by
    obtain ⟨i, hi, rfl⟩ := List.getElem_of_mem hp
    have := case_at h hi
    rw [getD_lt hi] at this
    unfold roundP backP
    rw [this]
    simp
  constructor
  · intro g p hp; rw [← key p hp]; exact g p hp
  · intro g p hp; rw [key p hp]; exact g p hp
theorem tables_of {x : Ln} (h : rightLn x = true) (h8 : x.kind = 8) : tableM x.fo x.ba = true ∧ tableM x.ba x.fo = true := by
  unfold rightLn at h
  rw [if_neg (by omega)] at h
  simp only [h8, if_true, Bool.and_eq_true] at h
  simp_all
theorem kept_ref {x : Ln} (hx : rightLn x = true) (r : Rf) : keptM x r = if placeI (goesR x) r < 0 then true else if x.kind = 8 then backM x.fo x.ba else (decide (x.kind ≠ 3) && decide (placeI (goesR x) r = 0)) := by
  have hk := (rightLn_kind hx).1
  have h8 : x.kind = 8 → roundM x.fo x.ba = backM x.fo x.ba := fun h => round_back (tables_of hx h).1
  have h1 : x.kind ≠ 9 → placeI (goesR x) r = -1 ∨ placeI (goesR x) r = 0 := fun h => by
    rcases placeI_cases (goesR x) r with e | ⟨g, hg, e⟩
    · exact .inl e
    · have := goes_one h; right; rw [e]; omega
  have h2 : x.kind = 2 → placeI (goesR x) r = -1 := fun h => by
    have : goesR x = [] := by unfold goesR; rw [if_pos h]
    rw [this]; rfl
  unfold keptM
  rw [if_neg (by rw [hx]; simp)]
  show (if placeI (goesR x) r < 0 then true else _) = _
  by_cases hlt : placeI (goesR x) r < 0
  · rw [if_pos hlt, if_pos hlt]
  · rw [if_neg hlt, if_neg hlt]
    show (if _ then true else if x.kind = 9 then placeI (goesR x) r == 0 else _) = _
    by_cases k9 : x.kind = 9
    · simp [k9]
      rw [Bool.eq_iff_iff]; simp
    · have h0 : placeI (goesR x) r = 0 := by rcases h1 k9 with e | e <;> omega
      have k2 : x.kind ≠ 2 := fun h => by have := h2 h; omega
      by_cases k8 : x.kind = 8
      · simp [k8, h8 k8]
      · by_cases k3 : x.kind = 3
        · simp [k3]
        · rw [if_pos (by omega), if_neg k8, h0]
          simp [k3]
theorem sure_ref {x : Ln} (hx : rightLn x = true) (r : Rf) : sureM x r = if placeI (comesR x) r < 0 then true else if x.kind = 8 then backM x.ba x.fo else ((decide (x.kind ≠ 2) && decide (x.kind ≠ 6)) && decide (x.kind ≠ 7)) := by
  have hk := (rightLn_kind hx).1
  have h8 : x.kind = 8 → roundM x.ba x.fo = backM x.ba x.fo := fun h => round_back (tables_of hx h).2
  have h3 : x.kind = 3 → placeI (comesR x) r = -1 := fun h => by
    have : comesR x = [] := by unfold comesR; simp [h]
    rw [this]; rfl
  unfold sureM
  rw [if_neg (by rw [hx]; simp), placeI_any]
  by_cases hlt : placeI (comesR x) r < 0
  · rw [if_pos (by simp; omega), if_pos hlt]
  · rw [if_neg (by simp; omega), if_neg hlt]
    have k3 : x.kind ≠ 3 := fun h => by have := h3 h; omega
    by_cases k8 : x.kind = 8
    · simp [k8, h8 k8]
    · by_cases k : x.kind = 2 ∨ x.kind = 6 ∨ x.kind = 7
      · rcases k with k | k | k <;> simp [k]
      · rw [if_pos (by omega), if_neg k8]
        simp only [not_or] at k
        simp [k.1, k.2.1, k.2.2]
def srcM (x : Ln) (r : Rf) : List Rf := if rightLn x = false then [] else if placeI (comesR x) r < 0 then [r] else if x.kind = 6 ∧ 0 < placeI (comesR x) r then [] else goesR x
theorem src_ref {x : Ln} (hx : rightLn x = true) (r : Rf) : srcM x r = if placeI (comesR x) r < 0 then [r] else if x.kind = 2 ∨ placeI (comesR x) r = 1 then [] else goesR x := by
  unfold srcM
  rw [if_neg (by rw [hx]; simp)]
  by_cases hlt : placeI (comesR x) r < 0
  · rw [if_pos hlt, if_pos hlt]
  · rw [if_neg hlt, if_neg hlt]
    rcases placeI_cases (comesR x) r with e | ⟨g, hg, e⟩
    · omega
    · have hl := comesR_len x
      by_cases k6 : x.kind = 6
      · by_cases h0 : g = 0
        · subst h0; simp [k6, e]
        · have : g = 1 := by omega
          subst this; simp [k6, e]
      · have := comes_one k6
        have h0 : g = 0 := by omega
        subst h0
        by_cases k2 : x.kind = 2
        · have : goesR x = [] := by unfold goesR; rw [if_pos k2]
          simp [k2, this]
        · simp [k6, k2, e]
set_option maxRecDepth 20000 in
set_option maxHeartbeats 8000000 in
theorem Sources_pure (x : Ln) (r : Rf) (hx : OkLn x) : PL.Pure Tryz.prog 95 [lns x, ref r] (refs (srcM x r)) := by
  have hR := LRight_pure x hx
  have hG := Goes_pure x hx
  have hC := Comes_pure x hx
  unfold srcM
  cases hlr : rightLn x
  · rw [hlr] at hR
    refine PL.Pure.of_v Tryz.func95 (by decide) rfl Tryz.ntmps95 Tryz.results95 (by simp) (refs_dids _) ?_
    simp only [go_sem, lns, ref]
    refine vCall_of (hR) ?_ ?_ ?_; (focus simp only [go_sem, lns]); (focus simp only [go_sem, lns])
    simp only [go_sem, if_true, refs, List.map_nil]
  rw [hlr] at hR
  have hg : goesM x = goesR x := by simp [goesM, hlr]
  have hc : comesM x = comesR x := by simp [comesM, hlr]
  rw [hg] at hG
  rw [hc] at hC
  have hI : PL.Pure Tryz.prog 133 [refs (comesR x), ref r] (.int .i64 (placeI (comesR x) r)) := IdxRef_pure (comesR x) r (by have := comesR_len x; rw [maxLen_eq]; omega)
  generalize placeI (comesR x) r = i at *
  generalize goesR x = goes at *
  generalize comesR x = comes at *
  simp only [Bool.true_eq_false, if_false]
  by_cases h : i < 0
  · rw [if_pos h]
    refine PL.Pure.of_v Tryz.func95 (by decide) rfl Tryz.ntmps95 Tryz.results95 (by simp) (refs_dids _) ?_
    simp only [go_sem, lns, ref]
    refine vCall_of (hR) ?_ ?_ ?_; (focus simp only [go_sem, lns]); (focus simp only [go_sem, lns])
    simp only [go_sem, lns]
    refine vDrawQ (by kernel_rfl) (by kernel_rfl) ?_
    simp only [go_sem, lns]
    refine vCall_of (hC) ?_ ?_ ?_; (focus simp only [go_sem, lns]); (focus simp only [go_sem, lns])
    simp only [go_sem, refs]
    refine vCall_of (hI) ?_ ?_ ?_; (focus simp only [go_sem, refs, ref]); (focus simp only [go_sem, refs, ref])
    simp only [go_sem, h, refs, ref, List.map_cons, List.map_nil]
  · rw [if_neg h]
    by_cases k6 : x.kind = 6
    · have e6 : (x.kind == 6) = true := by simpa using k6
      by_cases h0 : 0 < i
      · rw [if_pos ⟨k6, h0⟩]
        refine PL.Pure.of_v Tryz.func95 (by decide) rfl Tryz.ntmps95 Tryz.results95 (by simp) (refs_dids _) ?_
        simp only [go_sem, lns, ref]
        refine vCall_of (hR) ?_ ?_ ?_; (focus simp only [go_sem, lns]); (focus simp only [go_sem, lns])
        simp only [go_sem, lns]
        refine vDrawQ (by kernel_rfl) (by kernel_rfl) ?_
        simp only [go_sem, lns]
        refine vCall_of (hC) ?_ ?_ ?_; (focus simp only [go_sem, lns]); (focus simp only [go_sem, lns])
        simp only [go_sem, refs]
        refine vCall_of (hI) ?_ ?_ ?_; (focus simp only [go_sem, refs, ref]); (focus simp only [go_sem, refs, ref])
        simp only [go_sem, h, h0, e6, refs, List.map_nil]
      · rw [if_neg (fun hh => h0 hh.2)]
        refine PL.Pure.of_v Tryz.func95 (by decide) rfl Tryz.ntmps95 Tryz.results95 (by simp) (refs_dids _) ?_
        simp only [go_sem, lns, ref]
        refine vCall_of (hR) ?_ ?_ ?_; (focus simp only [go_sem, lns]); (focus simp only [go_sem, lns])
        simp only [go_sem, lns]
        refine vDrawQ (by kernel_rfl) (by kernel_rfl) ?_
        simp only [go_sem, lns]
        refine vCall_of (hC) ?_ ?_ ?_; (focus simp only [go_sem, lns]); (focus simp only [go_sem, lns])
        simp only [go_sem, refs]
        refine vCall_of (hI) ?_ ?_ ?_; (focus simp only [go_sem, refs, ref]); (focus simp only [go_sem, refs, ref])
        simp only [go_sem, h, h0, e6]
        refine vCall_of (hG) ?_ ?_ ?_; (focus simp only [go_sem, lns]); (focus simp only [go_sem, lns])
        simp only [go_sem, refs]
    · have e6 : (x.kind == 6) = false := by simpa using k6
      rw [if_neg (fun hh => k6 hh.1)]
      refine PL.Pure.of_v Tryz.func95 (by decide) rfl Tryz.ntmps95 Tryz.results95 (by simp) (refs_dids _) ?_
      simp only [go_sem, lns, ref]
      refine vCall_of (hR) ?_ ?_ ?_; (focus simp only [go_sem, lns]); (focus simp only [go_sem, lns])
      simp only [go_sem, lns]
      refine vDrawQ (by kernel_rfl) (by kernel_rfl) ?_
      simp only [go_sem, lns]
      refine vCall_of (hC) ?_ ?_ ?_; (focus simp only [go_sem, lns]); (focus simp only [go_sem, lns])
      simp only [go_sem, refs]
      refine vCall_of (hI) ?_ ?_ ?_; (focus simp only [go_sem, refs, ref]); (focus simp only [go_sem, refs, ref])
      simp only [go_sem, h, e6]
      refine vCall_of (hG) ?_ ?_ ?_; (focus simp only [go_sem, lns]); (focus simp only [go_sem, lns])
      simp only [go_sem, refs]
set_option maxRecDepth 20000 in
set_option maxHeartbeats 8000000 in
theorem RSources_pure (x : Ln) (r : Rf) (hx : OkLn x) : PL.Pure Tryz.prog 76 [lns x, ref r] (refs (srcM x r)) := by
  have hR := RLRight_pure x hx
  have hG := RGoes_pure x
  have hC := RComes_pure x
  cases hlr : rightLn x
  · have e : srcM x r = [] := by unfold srcM; rw [if_pos hlr]
    rw [e]
    rw [hlr] at hR
    refine PL.Pure.of_v Tryz.func76 (by decide) rfl Tryz.ntmps76 Tryz.results76 (by simp) (refs_dids _) ?_
    simp only [go_sem, lns, ref]
    refine vCall_of (hR) ?_ ?_ ?_; (focus simp only [go_sem, lns]); (focus simp only [go_sem, lns])
    simp only [go_sem, refs, List.map_nil]
  rw [hlr] at hR
  rw [src_ref hlr]
  have hI := RPlace_pure' (comesR x) r (by have := comesR_len x; rw [maxLen_eq]; omega)
  generalize placeI (comesR x) r = i at *
  generalize goesR x = goes at *
  generalize comesR x = comes at *
  by_cases h : i < 0
  · rw [if_pos h]
    refine PL.Pure.of_v Tryz.func76 (by decide) rfl Tryz.ntmps76 Tryz.results76 (by simp) (refs_dids _) ?_
    simp only [go_sem, lns, ref]
    refine vCall_of (hR) ?_ ?_ ?_; (focus simp only [go_sem, lns]); (focus simp only [go_sem, lns])
    simp only [go_sem, lns]
    refine vDrawQ (by kernel_rfl) (by kernel_rfl) ?_
    simp only [go_sem, lns]
    refine vCall_of (hC) ?_ ?_ ?_; (focus simp only [go_sem, lns]); (focus simp only [go_sem, lns])
    simp only [go_sem, refs]
    refine vCall_of (hI) ?_ ?_ ?_; (focus simp only [go_sem, refs, ref]); (focus simp only [go_sem, refs, ref])
    simp only [go_sem, h, refs, ref, List.map_cons, List.map_nil]
  · rw [if_neg h]
    by_cases k2 : x.kind = 2
    · have e2 : (x.kind == 2) = true := by simpa using k2
      rw [if_pos (.inl k2)]
      refine PL.Pure.of_v Tryz.func76 (by decide) rfl Tryz.ntmps76 Tryz.results76 (by simp) (refs_dids _) ?_
      simp only [go_sem, lns, ref]
      refine vCall_of (hR) ?_ ?_ ?_; (focus simp only [go_sem, lns]); (focus simp only [go_sem, lns])
      simp only [go_sem, lns]
      refine vDrawQ (by kernel_rfl) (by kernel_rfl) ?_
      simp only [go_sem, lns]
      refine vCall_of (hC) ?_ ?_ ?_; (focus simp only [go_sem, lns]); (focus simp only [go_sem, lns])
      simp only [go_sem, refs]
      refine vCall_of (hI) ?_ ?_ ?_; (focus simp only [go_sem, refs, ref]); (focus simp only [go_sem, refs, ref])
      simp only [go_sem, h, e2, refs, List.map_nil]
    · have e2 : (x.kind == 2) = false := by simpa using k2
      by_cases h1 : i = 1
      · have e1 : (i == 1) = true := by simpa using h1
        rw [if_pos (.inr h1)]
        refine PL.Pure.of_v Tryz.func76 (by decide) rfl Tryz.ntmps76 Tryz.results76 (by simp) (refs_dids _) ?_
        simp only [go_sem, lns, ref]
        refine vCall_of (hR) ?_ ?_ ?_; (focus simp only [go_sem, lns]); (focus simp only [go_sem, lns])
        simp only [go_sem, lns]
        refine vDrawQ (by kernel_rfl) (by kernel_rfl) ?_
        simp only [go_sem, lns]
        refine vCall_of (hC) ?_ ?_ ?_; (focus simp only [go_sem, lns]); (focus simp only [go_sem, lns])
        simp only [go_sem, refs]
        refine vCall_of (hI) ?_ ?_ ?_; (focus simp only [go_sem, refs, ref]); (focus simp only [go_sem, refs, ref])
        simp only [go_sem, h, e2, e1, refs, List.map_nil]
      · have e1 : (i == 1) = false := by simpa using h1
        rw [if_neg (fun hh => hh.elim k2 h1)]
        refine PL.Pure.of_v Tryz.func76 (by decide) rfl Tryz.ntmps76 Tryz.results76 (by simp) (refs_dids _) ?_
        simp only [go_sem, lns, ref]
        refine vCall_of (hR) ?_ ?_ ?_; (focus simp only [go_sem, lns]); (focus simp only [go_sem, lns])
        simp only [go_sem, lns]
        refine vDrawQ (by kernel_rfl) (by kernel_rfl) ?_
        simp only [go_sem, lns]
        refine vCall_of (hC) ?_ ?_ ?_; (focus simp only [go_sem, lns]); (focus simp only [go_sem, lns])
        simp only [go_sem, refs]
        refine vCall_of (hI) ?_ ?_ ?_; (focus simp only [go_sem, refs, ref]); (focus simp only [go_sem, refs, ref])
        simp only [go_sem, h, e2, e1]
        refine vCall_of (hG) ?_ ?_ ?_; (focus simp only [go_sem, lns]); (focus simp only [go_sem, lns])
        simp only [go_sem, refs]
set_option maxRecDepth 20000 in
set_option maxHeartbeats 8000000 in
theorem RTrace_pure (x : Ln) (r : Rf) (hx : OkLn x) : PL.Pure Tryz.prog 74 [lns x, ref r] (refb (traceM x r)) := by
  have hR := RLRight_pure x hx
  have hG := RGoes_pure x
  have hC := RComes_pure x
  unfold traceM
  cases hlr : rightLn x
  · rw [hlr] at hR
    refine PL.Pure.of_v Tryz.func74 (by decide) rfl Tryz.ntmps74 Tryz.results74 (by simp) (refb_dids _) ?_
    simp only [go_sem, lns, ref]
    refine vCall_of (hR) ?_ ?_ ?_; (focus simp only [go_sem, lns]); (focus simp only [go_sem, lns])
    simp only [go_sem, if_true, refb, ref_default]
  have hk := (rightLn_kind hlr).1
  rw [hlr] at hR
  have hI := RPlace_pure' (goesR x) r (by have := goesR_len x; rw [maxLen_eq]; omega)
  rw [placeI_any]
  simp only [Bool.true_eq_false, if_false]
  generalize placeI (goesR x) r = i at *
  generalize goesR x = goes at *
  by_cases h : i < 0
  · rw [if_pos (by simp; omega)]
    refine PL.Pure.of_v Tryz.func74 (by decide) rfl Tryz.ntmps74 Tryz.results74 (by simp) (refb_dids _) ?_
    simp only [go_sem, lns, ref]
    refine vCall_of (hR) ?_ ?_ ?_; (focus simp only [go_sem, lns]); (focus simp only [go_sem, lns])
    simp only [go_sem, lns]
    refine vDrawQ (by kernel_rfl) (by kernel_rfl) ?_
    simp only [go_sem, lns]
    refine vCall_of (hG) ?_ ?_ ?_; (focus simp only [go_sem, lns]); (focus simp only [go_sem, lns])
    simp only [go_sem, refs]
    refine vCall_of (hI) ?_ ?_ ?_; (focus simp only [go_sem, refs, ref]); (focus simp only [go_sem, refs, ref])
    simp only [go_sem, h, refb, ref]
  · rw [if_neg (by simp; omega)]
    by_cases k3 : x.kind = 3
    · have e3 : (x.kind == 3) = true := by simpa using k3
      rw [if_pos (by unfold comesR; simp [k3])]
      refine PL.Pure.of_v Tryz.func74 (by decide) rfl Tryz.ntmps74 Tryz.results74 (by simp) (refb_dids _) ?_
      simp only [go_sem, lns, ref]
      refine vCall_of (hR) ?_ ?_ ?_; (focus simp only [go_sem, lns]); (focus simp only [go_sem, lns])
      simp only [go_sem, lns]
      refine vDrawQ (by kernel_rfl) (by kernel_rfl) ?_
      simp only [go_sem, lns]
      refine vCall_of (hG) ?_ ?_ ?_; (focus simp only [go_sem, lns]); (focus simp only [go_sem, lns])
      simp only [go_sem, refs]
      refine vCall_of (hI) ?_ ?_ ?_; (focus simp only [go_sem, refs, ref]); (focus simp only [go_sem, refs, ref])
      simp only [go_sem, h, e3, refb, ref_default]
    · have e3 : (x.kind == 3) = false := by simpa using k3
      have hne : (comesR x).length ≠ 0 := by
        unfold comesR
        repeat' split
        all_goals first | (simp; done) | contradiction
      rw [if_neg hne]
      have c0 : 0 < (comesR x).length := by omega
      have c1 : (0 : Int) < ((comesR x).length : Int) := by omega
      have c2 : (((comesR x).map ref).getD 0 .any) = ref ((comesR x).getD 0 default) := getD_ref c0
      generalize comesR x = comes at *
      refine PL.Pure.of_v Tryz.func74 (by decide) rfl Tryz.ntmps74 Tryz.results74 (by simp) (refb_dids _) ?_
      simp only [go_sem, lns, ref]
      refine vCall_of (hR) ?_ ?_ ?_; (focus simp only [go_sem, lns]); (focus simp only [go_sem, lns])
      simp only [go_sem, lns]
      refine vDrawQ (by kernel_rfl) (by kernel_rfl) ?_
      simp only [go_sem, lns]
      refine vCall_of (hG) ?_ ?_ ?_; (focus simp only [go_sem, lns]); (focus simp only [go_sem, lns])
      simp only [go_sem, refs]
      refine vCall_of (hI) ?_ ?_ ?_; (focus simp only [go_sem, refs, ref]); (focus simp only [go_sem, refs, ref])
      simp only [go_sem, h, e3]
      refine vCall_of (hC) ?_ ?_ ?_; (focus simp only [go_sem, lns]); (focus simp only [go_sem, lns])
      simp only [go_sem, refs, c1, List.length_map, c2, refb, ref]
set_option maxHeartbeats 4000000 in
theorem back_pure (a b : List Pr) (ha : a.length ≤ maxLen) (hb : b.length ≤ maxLen) : PL.Pure Tryz.prog 120 [prs a, prs b] (.bool (backM a b)) := by
  refine PL.Pure.of_v Tryz.func120 (by decide) rfl Tryz.ntmps120 Tryz.results120 (by simp) rfl ?_
  simp only [go_sem, prs]
  refine vLoopM (ι := { x : Nat // x ≤ (a).length ∧ (∀ j, j < x → backP b (a.getD j default) = true) }) 35 (fun x => [(0, prs a), (1, prs b), (5, .int .i64 (x.1 : Int))]) (fun x => []) (fun x => []) (fun x => (a).length - x.1) ⟨0, Nat.zero_le _, fun j hj => absurd hj (Nat.not_lt_zero j)⟩ ⟨rfl, (forall_cons rfl (forall_cons rfl (forall_cons rfl forall_nil))), forall_nil, forall_nil⟩ (fun x => ⟨(forall_cons rfl (forall_cons rfl (forall_cons rfl forall_nil))), forall_nil⟩) (fun x => ?_); obtain ⟨k, hk, hI⟩ := x; simp only at hk hI ⊢
  by_cases h : (k : Int) < (a.length : Int)
  · (have hka : k < (a).length := by omega); (have w1 := w64s hka (ha)); (have i1 : (0 : Int) ≤ (k : Int) := by omega)
    have h1 := RCase_pure b (a.getD k default).to' hb
    cases hr : backP b (a.getD k default)
    · have hz := all_false (p := backP b) hka hr
      unfold backP at hr
      generalize caseM b (a.getD k default).to' = c at *
      obtain ⟨c1, c2⟩ := c
      cases c2
      · simp only [go_sem, prs, h, i1, List.length_map, getD_pr hka, pr]
        refine vCall_of (h1) ?_ ?_ ?_; (focus simp only [go_sem, prs]); (focus simp only [go_sem, prs])
        simp only [go_sem, strb, backM, hz]
      · have hr' : (c1 == (a.getD k default).fr') = false := by simpa using hr
        simp only [go_sem, prs, h, i1, List.length_map, getD_pr hka, pr]
        refine vCall_of (h1) ?_ ?_ ?_; (focus simp only [go_sem, prs]); (focus simp only [go_sem, prs])
        simp only [go_sem, strb, prs, h, i1, List.length_map, getD_pr hka, pr, hr', Bool.not_false, backM, hz]
    · have hr0 := hr
      unfold backP at hr
      generalize caseM b (a.getD k default).to' = c at *
      obtain ⟨c1, c2⟩ := c
      simp only [Bool.and_eq_true] at hr
      obtain ⟨rfl, hr⟩ := hr
      simp only [go_sem, prs, h, i1, List.length_map, getD_pr hka, pr]
      refine vCall_of (h1) ?_ ?_ ?_; (focus simp only [go_sem, prs]); (focus simp only [go_sem, prs])
      simp only [go_sem, strb, prs, h, i1, List.length_map, getD_pr hka, pr, hr, Bool.not_true, w1]
      exact ⟨⟨k + 1, by (try simp only); omega, below_succ hI hr0⟩, by show (a).length - (k + 1) < (a).length - k; omega, ⟨rfl, (forall_cons rfl (forall_cons rfl (forall_cons rfl forall_nil))), forall_nil, forall_nil⟩⟩
  · have hz := all_true (p := backP b) (d := default) (l := a) (fun j hj => hI j (by omega))
    simp only [go_sem, prs, h, backM, hz, List.length_map]
set_option maxRecDepth 20000 in
set_option maxHeartbeats 8000000 in
theorem RKept_pure (x : Ln) (r : Rf) (hx : OkLn x) : PL.Pure Tryz.prog 73 [lns x, ref r] (.bool (keptM x r)) := by
  have hR := RLRight_pure x hx
  have hG := RGoes_pure x
  cases hlr : rightLn x
  · have e : keptM x r = false := by unfold keptM; rw [if_pos hlr]
    rw [e]
    rw [hlr] at hR
    refine PL.Pure.of_v Tryz.func73 (by decide) rfl Tryz.ntmps73 Tryz.results73 (by simp) rfl ?_
    simp only [go_sem, lns, ref]
    refine vCall_of (hR) ?_ ?_ ?_; (focus simp only [go_sem, lns]); (focus simp only [go_sem, lns])
    simp only [go_sem]
  rw [hlr] at hR
  rw [kept_ref hlr]
  have hI := RPlace_pure' (goesR x) r (by have := goesR_len x; rw [maxLen_eq]; omega)
  have hO := back_pure x.fo x.ba (by have := hx.f; rw [maxLen_eq]; omega) (by have := hx.b; rw [maxLen_eq]; omega)
  generalize placeI (goesR x) r = i at *
  generalize goesR x = goes at *
  generalize backM x.fo x.ba = bk at *
  refine PL.Pure.of_v Tryz.func73 (by decide) rfl Tryz.ntmps73 Tryz.results73 (by simp) rfl ?_
  simp only [go_sem, lns, ref]
  refine vCall_of (hR) ?_ ?_ ?_; (focus simp only [go_sem, lns]); (focus simp only [go_sem, lns])
  simp only [go_sem, lns]
  repeat' (first | (refine vGuard_t (fun h => ?_) (fun h => ?_) <;> (try simp only [go_sem, h, refs, ref])) | (refine vGuard_f (fun h => ?_) (fun h => ?_) <;> (try simp only [go_sem, h, refs, ref])) | (refine vCond_b (fun h => ?_) (fun h => ?_) <;> (try simp only [go_sem, h, refs, ref])) | ((refine vCall_of (hG) ?_ ?_ ?_); (focus simp only [go_sem, lns, refs, ref, prs]); (focus exact rfl); (try simp only [go_sem, refs, ref])) | ((refine vCall_of (hI) ?_ ?_ ?_); (focus simp only [go_sem, lns, refs, ref, prs]); (focus exact rfl); (try simp only [go_sem, refs, ref])) | ((refine vCall_of (hO) ?_ ?_ ?_); (focus simp only [go_sem, lns, refs, ref, prs]); (focus exact rfl); (try simp only [go_sem, refs, ref])) | ((refine vDrawQ (by kernel_rfl) (by kernel_rfl) ?_); (try simp only [go_sem, refs, ref])))
  all_goals (clear hR hG hI hO hx; simp_all <;> (try (rw [Bool.eq_iff_iff]; simp)) <;> (try (intro hh; exfalso; omega)))
set_option maxRecDepth 20000 in
set_option maxHeartbeats 8000000 in
theorem RSure_pure (x : Ln) (r : Rf) (hx : OkLn x) : PL.Pure Tryz.prog 75 [lns x, ref r] (.bool (sureM x r)) := by
  have hR := RLRight_pure x hx
  have hC := RComes_pure x
  cases hlr : rightLn x
  · have e : sureM x r = false := by unfold sureM; rw [if_pos hlr]
    rw [e]
    rw [hlr] at hR
    refine PL.Pure.of_v Tryz.func75 (by decide) rfl Tryz.ntmps75 Tryz.results75 (by simp) rfl ?_
    simp only [go_sem, lns, ref]
    refine vCall_of (hR) ?_ ?_ ?_; (focus simp only [go_sem, lns]); (focus simp only [go_sem, lns])
    simp only [go_sem]
  rw [hlr] at hR
  rw [sure_ref hlr]
  have hI := RPlace_pure' (comesR x) r (by have := comesR_len x; rw [maxLen_eq]; omega)
  have hO := back_pure x.ba x.fo (by have := hx.b; rw [maxLen_eq]; omega) (by have := hx.f; rw [maxLen_eq]; omega)
  generalize placeI (comesR x) r = i at *
  generalize comesR x = comes at *
  generalize backM x.ba x.fo = bk at *
  refine PL.Pure.of_v Tryz.func75 (by decide) rfl Tryz.ntmps75 Tryz.results75 (by simp) rfl ?_
  simp only [go_sem, lns, ref]
  refine vCall_of (hR) ?_ ?_ ?_; (focus simp only [go_sem, lns]); (focus simp only [go_sem, lns])
  simp only [go_sem, lns]
  repeat' (first | (refine vGuard_t (fun h => ?_) (fun h => ?_) <;> (try simp only [go_sem, h, refs, ref])) | (refine vGuard_f (fun h => ?_) (fun h => ?_) <;> (try simp only [go_sem, h, refs, ref])) | (refine vCond_b (fun h => ?_) (fun h => ?_) <;> (try simp only [go_sem, h, refs, ref])) | ((refine vCall_of (hC) ?_ ?_ ?_); (focus simp only [go_sem, lns, refs, ref, prs]); (focus exact rfl); (try simp only [go_sem, refs, ref])) | ((refine vCall_of (hI) ?_ ?_ ?_); (focus simp only [go_sem, lns, refs, ref, prs]); (focus exact rfl); (try simp only [go_sem, refs, ref])) | ((refine vCall_of (hO) ?_ ?_ ?_); (focus simp only [go_sem, lns, refs, ref, prs]); (focus exact rfl); (try simp only [go_sem, refs, ref])) | ((refine vDrawQ (by kernel_rfl) (by kernel_rfl) ?_); (try simp only [go_sem, refs, ref])))
  all_goals (clear hR hC hI hO hx; simp_all <;> (try (rw [Bool.eq_iff_iff]; simp)) <;> (try (intro hh; exfalso; omega)))
end Go.Proofs.YtcomkajmhlhphaaGreat

set_option linter.unusedSimpArgs false
set_option linter.unusedVariables false
set_option linter.unusedSimpArgs false
set_option linter.unusedVariables false
namespace Go.Proofs.YtcomkajmhlhphaaGreat
open Go.PL
def stepD (b : List Rf) (s : Rf) : List Rf := if (b.any fun x => decide (s = x)) = true then b else b ++ [s]
def addsD (b src : List Rf) : List Rf := src.foldl stepD b
def beforeD (x : Ln) : List Rf → List Rf → Option (List Rf)
  | acc, [] => some acc
  | acc, e :: es => if sureM x e = false then none else beforeD x (addsD acc (srcM x e)) es
theorem beforeD_cons (x : Ln) (acc : List Rf) (e : Rf) (es : List Rf) : beforeD x acc (e :: es) = if sureM x e = false then none else beforeD x (addsD acc (srcM x e)) es := rfl
def sureE : List Ln → List Rf → Bool
  | [], _ => true
  | x :: xs, es => match beforeD x [] es with | none => false | some b => sureE xs b
def sureR : List Ln → Rf → Bool
  | [], _ => true
  | x :: xs, r => sureM x r && (srcM x r).all (sureR xs)
theorem step_all (P : Rf → Bool) (b : List Rf) (s : Rf) : (stepD b s).all P = (b.all P && P s) := by
  unfold stepD
  split
  · rename_i h
    obtain ⟨y, hy, e⟩ := List.any_eq_true.1 h
    have e : s = y := by simpa using e
    subst e
    rw [Bool.eq_iff_iff, Bool.and_eq_true, List.all_eq_true]
    exact ⟨fun g => ⟨g, g s hy⟩, fun g => g.1⟩
  · simp [List.all_append]
theorem adds_all (P : Rf → Bool) : ∀ (src b : List Rf), (addsD b src).all P = (b.all P && src.all P)
  | [], b => by simp [addsD]
  | s :: src, b => by
    have := adds_all P src (stepD b s)
    rw [step_all] at this
    show (addsD (stepD b s) src).all P = _
    rw [this, List.all_cons, Bool.and_assoc]
theorem before_all (x : Ln) (P : Rf → Bool) : ∀ (es acc : List Rf), (match beforeD x acc es with | none => false | some b => b.all P) = (acc.all P && es.all fun e => sureM x e && (srcM x e).all P) ∨ (beforeD x acc es = none ∧ (es.all fun e => sureM x e && (srcM x e).all P) = false)
  | [], acc => .inl (by simp [beforeD])
  | e :: es, acc => by
    rw [beforeD_cons]
    cases h : sureM x e
    · right; simp [h]
    · simp only [Bool.true_eq_false, if_false]
      rcases before_all x P es (addsD acc (srcM x e)) with g | ⟨g1, g2⟩
      · left
        rw [g, adds_all, List.all_cons, h, Bool.true_and, Bool.and_assoc]
      · right
        refine ⟨g1, ?_⟩
        rw [List.all_cons, g2, Bool.and_false]
theorem sureE_all : ∀ (xs : List Ln) (es : List Rf), sureE xs es = es.all (sureR xs)
  | [], es => by
    have : sureR [] = fun _ => true := rfl
    rw [this]; simp [sureE]
  | x :: xs, es => by
    have hf : sureR (x :: xs) = fun e => sureM x e && (srcM x e).all (sureR xs) := rfl
    rw [hf]
    show (match beforeD x [] es with | none => false | some b => sureE xs b) = _
    have he : (match beforeD x [] es with | none => false | some b => sureE xs b) = (match beforeD x [] es with | none => false | some b => b.all (sureR xs)) := by
      cases beforeD x [] es with
      | none => rfl
      | some b => exact sureE_all xs b
    rw [he]
    rcases before_all x (sureR xs) es [] with g | ⟨g1, g2⟩
    · rw [g]; simp
    · rw [g1, g2]
def cntD (G b : List Rf) : Nat := G.countP fun g => b.any fun y => decide (g = y)
theorem cnt_mono (b : List Rf) (s : Rf) : ∀ G, cntD G b ≤ cntD G (b ++ [s]) := fun G => List.countP_mono_left (fun g _ h => by rw [List.any_append, h, Bool.true_or])
theorem cnt_new {b : List Rf} {s : Rf} (hs : (b.any fun y => decide (s = y)) = false) : ∀ {G : List Rf}, s ∈ G → cntD G b + 1 ≤ cntD G (b ++ [s])
  | g :: G, h => by
    unfold cntD
    rw [List.countP_cons, List.countP_cons]
    have hm := cnt_mono b s G
    unfold cntD at hm
    by_cases hg : g = s
    · subst hg
      have e1 : ((b ++ [g]).any fun y => decide (g = y)) = true := by simp
      rw [hs, e1]
      simp only [if_true, Bool.false_eq_true, if_false]
      omega
    · have := cnt_new hs (G := G) ((List.mem_cons.1 h).resolve_left (fun e => hg e.symm))
      unfold cntD at this
      cases hb : (b.any fun y => decide (g = y))
      · simp only [Bool.false_eq_true, if_false]; omega
      · rw [List.any_append, hb]; simp only [Bool.true_or, if_true]; omega
theorem cnt_le (G b : List Rf) : cntD G b ≤ G.length := List.countP_le_length
theorem step_cnt (G b : List Rf) (s : Rf) : cntD G b ≤ cntD G (stepD b s) := by
  unfold stepD
  split
  · exact Nat.le_refl _
  · exact cnt_mono b s G
theorem step_len (b : List Rf) (s : Rf) : (stepD b s).length ≤ b.length + 1 := by
  unfold stepD
  split <;> simp
theorem step_lenG {G b : List Rf} {s : Rf} (h : s ∈ G) : (stepD b s).length + cntD G b ≤ b.length + cntD G (stepD b s) := by
  unfold stepD
  split
  · exact Nat.le_refl _
  · rename_i hn
    have := cnt_new (b := b) (s := s) (Bool.eq_false_iff.2 hn) h
    rw [List.length_append, List.length_singleton]
    omega
theorem adds_lenG {G : List Rf} : ∀ (src b : List Rf), (∀ s ∈ src, s ∈ G) → (addsD b src).length + cntD G b ≤ b.length + cntD G (addsD b src)
  | [], b, _ => Nat.le_refl _
  | s :: src, b, h => by
    have h1 := step_lenG (b := b) (h s (by simp))
    have h2 := adds_lenG src (stepD b s) (fun t ht => h t (by simp [ht]))
    show (addsD (stepD b s) src).length + _ ≤ _ + cntD G (addsD (stepD b s) src)
    omega
theorem src_cases (x : Ln) (e : Rf) : (srcM x e).length ≤ 1 ∨ ∀ s ∈ srcM x e, s ∈ goesR x := by
  unfold srcM
  split
  · simp
  split
  · simp
  split
  · simp
  · exact .inr fun s h => h
/-- how many, at most -/
theorem adds_bound {G src b : List Rf} {n : Nat} (hb : b.length ≤ n + cntD G b) (hs : src.length ≤ 1 ∨ ∀ s ∈ src, s ∈ G) : (addsD b src).length ≤ n + 1 + cntD G (addsD b src) := by
  rcases hs with h | h
  · match src, h with
    | [], _ => show b.length ≤ n + 1 + cntD G b; omega
    | [s], _ =>
      show (stepD b s).length ≤ n + 1 + cntD G (stepD b s)
      have := step_len b s
      have := step_cnt G b s
      omega
  · have := adds_lenG src b h
    omega
theorem src_len (x : Ln) (e : Rf) : (srcM x e).length ≤ 2 := by
  have := goesR_len x
  unfold srcM
  repeat' split
  all_goals simp
  all_goals omega
theorem src_take {x : Ln} {e : Rf} (j : Nat) : ((srcM x e).take j).length ≤ 1 ∨ ∀ s ∈ (srcM x e).take j, s ∈ goesR x := by
  rcases src_cases x e with h | h
  · left; rw [List.length_take]; omega
  · exact .inr fun s hs => h s (List.mem_of_mem_take hs)
theorem adds_snoc (b src : List Rf) (s : Rf) : addsD b (src ++ [s]) = stepD (addsD b src) s := by
  unfold addsD; rw [List.foldl_append]; rfl
theorem sized_ref (l : List Rf) : Sized 3 (l.map ref) := fun e he => by
  obtain ⟨x, _, rfl⟩ := List.mem_map.1 he; rfl
theorem drop_rf {l : List Rf} {k : Nat} (h : k < l.length) : l.drop k = l.getD k default :: l.drop (k + 1) := by
  rw [List.drop_eq_getElem_cons h, getD_lt h]
def optc (x : Option (List Rf)) : PV := .tup [refs (x.getD []), .bool x.isSome]
theorem optc_dids (x : Option (List Rf)) : (optc x).dids = [] := by simp only [optc, PV.dids, PV.didsL, refs_dids, List.append_nil]
set_option maxRecDepth 20000 in
set_option maxHeartbeats 16000000 in
theorem before_pure (u : Ln) (es : List Rf) (hx : OkLn u) (hl : es.length ≤ 100000) : PL.Pure Tryz.prog 58 [lns u, refs es] (optc (beforeD u [] es)) := by
  have hm : es.length ≤ maxLen := by rw [maxLen_eq]; omega
  have hgl := goesR_len u
  refine PL.Pure.of_v Tryz.func58 (by decide) rfl Tryz.ntmps58 Tryz.results58 (by simp) (optc_dids _) ?_
  simp only [go_sem, lns, refs]
  refine awp_nilRow 6 36 3 38 rfl rfl ?_
  refine vLoopM (ι := { x : Nat × (List Rf) // x.1 ≤ (es).length ∧ (beforeD u x.2 (es.drop x.1) = beforeD u [] es ∧ x.2.length ≤ x.1 + cntD (goesR u) x.2) }) 40 (fun x => [(2, .ptr 2 0), (6, .sl (.row 36) (x.1.2.map ref)), (11, refs es), (12, .int .i64 (es.length : Int)), (13, .int .i64 (x.1.1 : Int))]) (fun x => [(2, lncells u, false)]) (fun x => [(36, .live (x.1.2.length) (3) (38))]) (fun x => (es).length - x.1.1) ⟨(0, []), Nat.zero_le _, ⟨rfl, by simp⟩⟩ ⟨rfl, (forall_cons rfl (forall_cons rfl (forall_cons rfl (forall_cons rfl (forall_cons rfl forall_nil))))), (forall_cons ⟨rfl, rfl⟩ forall_nil), (forall_cons rfl forall_nil)⟩ (fun x => ⟨(forall_cons rfl (forall_cons (by simp [PV.ids, refInM]) (forall_cons rfl (forall_cons rfl (forall_cons rfl forall_nil))))), (forall_cons rfl forall_nil)⟩) (fun x => ?_); obtain ⟨⟨k, acc⟩, hk, hI⟩ := x; simp only at hk hI ⊢
  obtain ⟨hI, hJ⟩ := hI
  have hcl := cnt_le (goesR u) acc
  by_cases h : (k : Int) < (es.length : Int)
  · (have hka : k < (es).length := by omega); (have w1 := w64s hka (hm)); (have i1 : (0 : Int) ≤ (k : Int) := by omega)
    have hS := Sure_pure u (es.getD k default) hx
    have hC := Sources_pure u (es.getD k default) hx
    rw [drop_rf hka, beforeD_cons] at hI
    cases hs : sureM u (es.getD k default)
    · rw [hs] at hS
      rw [if_pos hs] at hI
      simp only [go_sem, refs, h, getD_ref hka, ref, i1, lncells]
      refine vCall_of (hS) ?_ ?_ ?_; (focus simp only [go_sem, lns, ref]); (focus simp only [go_sem, lns, ref])
      simp only [go_sem, ← hI, optc, refs, List.map_nil, Option.getD_none, Option.isSome_none]
    · rw [hs] at hS
      rw [if_neg (by rw [hs]; simp)] at hI
      have hsl := src_len u (es.getD k default)
      have hsm : (srcM u (es.getD k default)).length ≤ maxLen := by rw [maxLen_eq]; omega
      have htk := fun j => src_take (x := u) (e := es.getD k default) j
      have hfin : (srcM u (es.getD k default)).length ≤ 1 ∨ ∀ s ∈ srcM u (es.getD k default), s ∈ goesR u := src_cases _ _
      generalize srcM u (es.getD k default) = src at *
      simp only [go_sem, refs, h, getD_ref hka, ref, i1, lncells]
      refine vCall_of (hS) ?_ ?_ ?_; (focus simp only [go_sem, lns, ref]); (focus simp only [go_sem, lns, ref])
      simp only [go_sem, lncells]
      refine vCall_of (hC) ?_ ?_ ?_; (focus simp only [go_sem, lns, ref]); (focus simp only [go_sem, lns, ref])
      simp only [go_sem, refs]
      refine vLoopM (ι := { x : Nat × (List Rf) // x.1 ≤ (src).length ∧ (x.2 = addsD acc (src.take x.1)) }) 40 (fun x => [(2, .ptr 2 0), (6, .sl (.row 36) (x.1.2.map ref)), (11, refs es), (12, .int .i64 (es.length : Int)), (13, .int .i64 (k : Int)), (23, refs src), (24, .int .i64 (src.length : Int)), (25, .int .i64 (x.1.1 : Int))]) (fun x => [(2, lncells u, false)]) (fun x => [(36, .live (x.1.2.length) (3) (38))]) (fun x => (src).length - x.1.1) ⟨(0, acc), Nat.zero_le _, rfl⟩ ⟨rfl, (forall_cons rfl (forall_cons rfl (forall_cons rfl (forall_cons rfl (forall_cons rfl (forall_cons rfl (forall_cons rfl (forall_cons rfl forall_nil)))))))), (forall_cons ⟨rfl, rfl⟩ forall_nil), (forall_cons rfl forall_nil)⟩ (fun x => ⟨(forall_cons rfl (forall_cons (by simp [PV.ids, refInM]) (forall_cons rfl (forall_cons rfl (forall_cons rfl (forall_cons rfl (forall_cons rfl (forall_cons rfl forall_nil)))))))), (forall_cons rfl forall_nil)⟩) (fun x => ?_); obtain ⟨⟨kb, oin⟩, hkb, hIb⟩ := x; simp only at hkb hIb ⊢
      have hol := adds_bound hJ (htk kb)
      have hoc := cnt_le (goesR u) oin
      rw [← hIb] at hol
      by_cases hb : (kb : Int) < (src.length : Int)
      · (have hkab : kb < (src).length := by omega); (have w1b := w64s hkab (hsm)); (have i1b : (0 : Int) ≤ (kb : Int) := by omega)
        have hN := ConRef_pure oin (src.getD kb default) (by rw [maxLen_eq]; omega)
        have hsn : addsD acc (src.take (kb + 1)) = stepD oin (src.getD kb default) := by
          rw [take_snoc (d := default) hkab, adds_snoc, hIb]
        unfold stepD at hsn
        generalize (oin.any fun y => decide (src.getD kb default = y)) = c at *
        cases c
        · rw [if_neg (by simp)] at hsn
          have hr := room1 (show oin.length + 1 ≤ 1000000 by omega) (show 40 ≤ 1000 by omega)
          simp only [go_sem, refs, hb, getD_ref hkab, ref, i1b]
          refine vCall_of (hN) ?_ ?_ ?_; (focus simp only [go_sem, refs, ref]); (focus simp only [go_sem, refs, ref])
          simp only [go_sem, sized_ref, hr, w1b, ref]
          exact ⟨⟨(kb + 1, oin ++ [src.getD kb default]), by (try simp only); omega, hsn.symm⟩, by show (src).length - (kb + 1) < (src).length - kb; omega, ⟨rfl, (forall_cons rfl (forall_cons (by simp [upd, ref]) (forall_cons rfl (forall_cons rfl (forall_cons rfl (forall_cons rfl (forall_cons rfl (forall_cons rfl forall_nil)))))))), (forall_cons ⟨rfl, rfl⟩ forall_nil), (forall_cons (by simp [upd]) forall_nil)⟩⟩
        · rw [if_pos rfl] at hsn
          simp only [go_sem, refs, hb, getD_ref hkab, ref, i1b]
          refine vCall_of (hN) ?_ ?_ ?_; (focus simp only [go_sem, refs, ref]); (focus simp only [go_sem, refs, ref])
          simp only [go_sem, w1b]
          exact ⟨⟨(kb + 1, oin), by (try simp only); omega, hsn.symm⟩, by show (src).length - (kb + 1) < (src).length - kb; omega, ⟨rfl, (forall_cons rfl (forall_cons (by simp [upd, ref]) (forall_cons rfl (forall_cons rfl (forall_cons rfl (forall_cons rfl (forall_cons rfl (forall_cons rfl forall_nil)))))))), (forall_cons ⟨rfl, rfl⟩ forall_nil), (forall_cons (by simp [upd]) forall_nil)⟩⟩
      · obtain rfl : kb = src.length := by omega
        have hfb := adds_bound hJ hfin
        rw [List.take_length] at hIb
        rw [← hIb] at hI hfb
        simp only [go_sem, refs, hb, w1]
        exact ⟨⟨(k + 1, oin), by (try simp only); omega, ⟨hI, hfb⟩⟩, by show (es).length - (k + 1) < (es).length - k; omega, ⟨rfl, (forall_cons rfl (forall_cons (by simp [upd, ref]) (forall_cons rfl (forall_cons rfl (forall_cons rfl forall_nil))))), (forall_cons ⟨rfl, rfl⟩ forall_nil), (forall_cons (by simp [upd]) forall_nil)⟩⟩
  · obtain rfl : k = es.length := by omega
    rw [List.drop_length] at hI
    simp only [go_sem, refs, h, ← hI, beforeD, optc, Option.getD_some, Option.isSome_some]
end Go.Proofs.YtcomkajmhlhphaaGreat
