/- Contracts of functions and laws of this seat, each for every input that it names: lemmas of the proof. -/
import Derived.Test.YtnadlkjmdimjkaaGreatXDg
import Derived.Test.YtnadlkjmdimjkaaGreatXCt
import Derived.Test.YtnadlkjmdimjkaaGreatXBx
set_option linter.unusedSimpArgs false
set_option linter.unusedVariables false
set_option linter.unusedSimpArgs false
set_option linter.unusedVariables false
namespace Go.Proofs.YtnadlkjmdimjkaaGreat
open Go.PL
theorem tab_hasFr {t o : List Pr} (h : tableM t o = true) {s : Str} (hs : hasFr t s = true) : hasFr o (caseM t s).1 = true ∧ (caseM t s).2 = true := by
  simp only [hasFr, List.any_eq_true, beq_iff_eq] at hs
  obtain ⟨p, hp, rfl⟩ := hs
  obtain ⟨q, hq⟩ : ∃ q, t.find? (fun q => q.fr' == p.fr') = some q := by
    cases hf : t.find? (fun q => q.fr' == p.fr') with
    | none => exact absurd (by simp) (List.find?_eq_none.1 hf p hp)
    | some q => exact ⟨q, rfl⟩
  have hqm := List.mem_of_find?_eq_some hq
  have hc : caseM t p.fr' = (q.to', true) := by unfold caseM; rw [hq]
  rw [hc]
  refine ⟨?_, rfl⟩
  simp only [tableM, Bool.and_eq_true, List.all_eq_true, List.mem_range] at h
  obtain ⟨i, hi, rfl⟩ := List.getElem_of_mem hqm
  have h1 := h.2 i hi
  simp only [tabOk, Bool.and_eq_true] at h1
  have h2 := h1.2.2
  rw [getD_lt hi] at h2
  exact h2
theorem froms_has {t : List Pr} {s : Str} : (fromsM t).any (· == s) = hasFr t s := by
  unfold fromsM hasFr
  rw [List.any_map]
  rfl
set_option maxHeartbeats 4000000 in
theorem got_ok {l m cs : List Fd} {x : Ln} {es : List En} {sc : Int} {i : Nat} (ha : applyM l x = (m, 0)) (he : entriesB (scopeM l sc) es = true) (harr : arrM l x = (cs, true)) (hi : i < cs.length) (hi1 : i ≤ 1) (hm : cs.getD i default ∈ m) (hsc : (cs.getD i default).at'.sc = sc) :
    GotOk x (cs.getD i default) (i : Int) es ∧ ((gotM x (cs.getD i default) (i : Int) es).2 = 0 → fitsE (cs.getD i default) (gotM x (cs.getD i default) (i : Int) es).1 = true) := by
  obtain ⟨hl, hx, cs', l1, e1, e2, e3⟩ := apply_fwd ha
  obtain ⟨b1, _⟩ := come_fwd (go_fwd hl e2).1 e3
  clear e1 e2 e3
  have hfr := (right_iff.1 b1).2.2 _ hm
  have src : ∀ r, (findF l r).2 = 0 → r.sc = sc → ∃ e, entM es r = some e ∧ fitsE (findF l r).1 e = true := fun r h1 h2 => by
    obtain ⟨g1, g2⟩ := find_zero h1
    have hg : (findF l r).1 ∈ scopeM l sc := List.mem_filter.2 ⟨g1, by rw [g2]; simp [h2]⟩
    have := ent_of he (fun f hf g hg e => uniq_place hl (List.mem_filter.1 hf).1 (List.mem_filter.1 hg).1 e) hg
    rwa [g2] at this
  have hk := (rightLn_kind hx).1
  clear hm b1
  obtain ⟨kind, at', nm, ot, fac, fd, fo, ba⟩ := x
  simp only at hk
  have one : ∀ c : Fd, cs = [c] → i = 0 ∧ cs.getD i default = c := fun c hc => by
    subst hc
    have : i = 0 := by simpa using hi
    subst this
    exact ⟨rfl, rfl⟩
  have mv : ∀ (c : Fd) (k : Int), (k = 1 ∨ k = 4 ∨ k = 5) → kind = k → (findF l at').2 = 0 → at'.sc = c.at'.sc → cs = [c] → c.kind = (findF l at').1.kind → c.cases' = (findF l at').1.cases' →
      GotOk ⟨kind, at', nm, ot, fac, fd, fo, ba⟩ (cs.getD i default) (i : Int) es ∧ ((gotM ⟨kind, at', nm, ot, fac, fd, fo, ba⟩ (cs.getD i default) (i : Int) es).2 = 0 → fitsE (cs.getD i default) (gotM ⟨kind, at', nm, ot, fac, fd, fo, ba⟩ (cs.getD i default) (i : Int) es).1 = true) := fun c k hk' hkk hf hs hc q1 q2 => by
    obtain ⟨i0, hce⟩ := one c hc
    rw [hce] at hsc hfr ⊢
    subst i0
    obtain ⟨e, h1, h2⟩ := src at' hf (by rw [hs]; exact hsc)
    have hg : goesR ⟨kind, at', nm, ot, fac, fd, fo, ba⟩ = [at'] := by unfold goesR; simp only; rw [if_neg (by omega), if_neg (by omega), if_neg (by omega)]
    refine ⟨⟨by simp only; omega, by omega, fun _ => ⟨e, by rw [hg]; exact h1, fun h => by simp only at h; omega, fun h => by simp only at h; omega⟩, fun h => by simp only at h; omega, fun h => by simp only at h; omega, fun h => by simp only at h; omega⟩, fun _ => ?_⟩
    have : gotM ⟨kind, at', nm, ot, fac, fd, fo, ba⟩ c ((0 : Nat) : Int) es = (⟨c.at', e.n, e.l⟩, 0) := by
      unfold gotM
      rw [if_neg (by simp only; omega), hg]
      simp only [List.getD_cons_zero, h1]
      rw [if_neg (by omega)]
      unfold fromM
      simp only
      rw [if_neg (by omega), if_neg (by omega), if_neg (by omega), if_neg (by omega), if_neg (by omega)]
    rw [this]
    exact moved_fits h2 hfr q1 q2
  have hf : kind ≠ 2 → kind ≠ 3 → kind ≠ 9 → (findF l at').2 = 0 := fun a b c => by
    unfold arrM at harr
    simp only [if_neg a, if_neg b, if_neg c] at harr
    by_cases h : (findF l at').2 = 0
    · exact h
    · rw [if_pos h] at harr; simp at harr
  rcases hk with rfl | rfl | rfl | rfl | rfl | rfl | rfl | rfl | rfl | rfl
  · have hf0 := hf (by decide) (by decide) (by decide)
    simp [arrM, comesR, hf0] at harr
    exact mv _ 1 (by omega) rfl hf0 rfl harr.symm rfl rfl
  · simp [arrM] at harr
    obtain ⟨i0, hce⟩ := one fd harr.symm
    rw [hce] at hfr ⊢
    subst i0
    refine ⟨⟨by simp, by omega, fun h => absurd rfl h, fun h => by simp at h, fun h => by simp at h, fun h => by simp at h⟩, fun _ => ?_⟩
    have : gotM ⟨2, at', nm, ot, fac, fd, fo, ba⟩ fd ((0 : Nat) : Int) es = (valueM fd, 0) := by unfold gotM; rw [if_pos (.inl rfl)]
    rw [this]
    exact value_fits hfr
  · simp [arrM] at harr
    have := harr.1
    subst this
    simp at hi
  · have hf0 := hf (by decide) (by decide) (by decide)
    simp [arrM, comesR, hf0] at harr
    exact mv _ 4 (by omega) rfl hf0 rfl harr.symm rfl rfl
  · have hf0 := hf (by decide) (by decide) (by decide)
    simp [arrM, comesR, hf0] at harr
    exact mv _ 5 (by omega) rfl hf0 rfl harr.symm rfl rfl
  · have hf0 := hf (by decide) (by decide) (by decide)
    simp [arrM, hf0] at harr
    obtain ⟨hc, gk⟩ := harr
    subst hc
    have hg : goesR ⟨6, at', nm, ot, fac, fd, fo, ba⟩ = [at'] := by simp [goesR]
    have key : ∀ c : Fd, c.kind = 1 → c.at'.sc = at'.sc → c.at'.sc = sc → rightF c = true → GotOk ⟨6, at', nm, ot, fac, fd, fo, ba⟩ c (i : Int) es ∧ ((gotM ⟨6, at', nm, ot, fac, fd, fo, ba⟩ c (i : Int) es).2 = 0 → fitsE c (gotM ⟨6, at', nm, ot, fac, fd, fo, ba⟩ c (i : Int) es).1 = true) := fun c ck cs1 cs2 cr => by
      obtain ⟨e, h1, h2⟩ := src at' hf0 (by rw [← cs1]; exact cs2)
      have hn := fits_n h2 gk
      have hv : valueM c = ⟨c.at', 0, []⟩ := by simp [valueM, ck]
      refine ⟨⟨by simp, by omega, fun _ => ⟨e, by rw [hg]; exact h1, fun h => by simp at h, fun h => by simp at h⟩, fun h => by simp at h, fun _ => by rw [hv], fun h => by simp at h⟩, fun _ => ?_⟩
      by_cases h0 : 0 < (i : Int)
      · have : gotM ⟨6, at', nm, ot, fac, fd, fo, ba⟩ c (i : Int) es = (valueM c, 0) := by unfold gotM; rw [if_pos (.inr ⟨rfl, h0⟩)]
        rw [this]
        exact value_fits cr
      · have : gotM ⟨6, at', nm, ot, fac, fd, fo, ba⟩ c (i : Int) es = (⟨c.at', e.n, []⟩, 0) := by
          unfold gotM
          rw [if_neg (fun h => h0 (h.elim (fun g => by simp at g) (·.2))), hg]
          simp [h1, fromM, hv]
        rw [this]
        exact mk_n cr ck hn.1
    have h01 : i = 0 ∨ i = 1 := by omega
    rcases h01 with rfl | rfl
    · exact key _ rfl rfl hsc hfr
    · exact key _ rfl rfl hsc hfr
  · have hf0 := hf (by decide) (by decide) (by decide)
    simp [arrM, hf0] at harr
    obtain ⟨hc, gk, gd⟩ := harr
    obtain ⟨i0, hce⟩ := one _ hc.symm
    rw [hce] at hfr hsc ⊢
    subst i0
    have hg : goesR ⟨7, at', nm, ot, fac, fd, fo, ba⟩ = [at'] := by simp [goesR]
    obtain ⟨e, h1, h2⟩ := src at' hf0 hsc
    obtain ⟨t1, t2, _, t4⟩ := fits_t h2 (by omega)
    have tl := t2 (by omega)
    have gr := (fits_right h2).1
    refine ⟨⟨by simp, by omega, fun _ => ⟨e, by rw [hg]; exact h1, fun _ => by omega, fun h => by simp at h⟩, fun h => by simp at h, fun h => by simp at h, fun h => by simp at h⟩, fun _ => ?_⟩
    have : gotM ⟨7, at', nm, ot, fac, fd, fo, ba⟩ ⟨at', 4, [], [], 0⟩ ((0 : Nat) : Int) es = (⟨at', 0, if 0 < (e.l.length : Int) ∧ e.l.getD 0 [] ≠ ot then [e.l.getD 0 []] else []⟩, 0) := by
      unfold gotM
      rw [if_neg (by simp), hg]
      simp only [List.getD_cons_zero, h1]
      rfl
    rw [this]
    refine mk_t (f := ⟨at', 4, [], [], 0⟩) hfr (by simp) ?_ fun s hs => ?_
    · rw [if_pos rfl]; split <;> simp
    · rw [fitsF_text hfr (by simp) (by simp)]
      split at hs
      · have hse := List.mem_singleton.1 hs
        have := t4 s (by rw [hse]; exact getD_mem (by omega))
        exact (fitsF_text gr (by omega) (by omega)).1 this
      · cases hs
  · have hf0 := hf (by decide) (by decide) (by decide)
    simp [arrM, hf0] at harr
    obtain ⟨hc, gv⟩ := harr
    obtain ⟨i0, hce⟩ := one _ hc.symm
    rw [hce] at hfr hsc ⊢
    subst i0
    have hg : goesR ⟨8, at', nm, ot, fac, fd, fo, ba⟩ = [at'] := by simp [goesR]
    obtain ⟨e, h1, h2⟩ := src at' hf0 hsc
    have gk : (findF l at').1.kind = 3 := by rw [gv]
    obtain ⟨t1, t2, _, t4⟩ := fits_t h2 (by omega)
    have tl := t2 (by omega)
    refine ⟨⟨by simp, by omega, fun _ => ⟨e, by rw [hg]; exact h1, fun _ => by omega, fun h => by simp at h⟩, fun h => by simp at h, fun h => by simp at h, fun h => by simp at h⟩, fun _ => ?_⟩
    have h0 : 0 < (e.l.length : Int) := by omega
    have : gotM ⟨8, at', nm, ot, fac, fd, fo, ba⟩ ⟨at', 3, ot, fromsM ba, 0⟩ ((0 : Nat) : Int) es = (⟨at', 0, [(caseM fo (e.l.getD 0 [])).1]⟩, 0) := by
      unfold gotM
      rw [if_neg (by simp), hg]
      simp only [List.getD_cons_zero, h1]
      simp [fromM, h0]
      intro h
      rw [h] at tl
      cases tl
    rw [this]
    refine mk_t (f := ⟨at', 3, ot, fromsM ba, 0⟩) hfr (by simp) (by simp) fun s hs => ?_
    have hse := List.mem_singleton.1 hs
    have hfit := t4 (e.l.getD 0 []) (getD_mem (by omega))
    have hta : tableM fo ba = true := by
      have hxx := hx
      unfold rightLn at hxx
      simp only [show ¬ ((8 : Int) = 2 ∨ (8 : Int) = 3) by omega, if_false, if_true, Bool.and_eq_true] at hxx
      exact hxx.2.2.1
    have hfo : hasFr fo (e.l.getD 0 []) = true := by
      rw [← froms_has]
      simp only [fitsF, gk, if_true, Bool.and_eq_true] at hfit
      have := hfit.2
      rw [gv] at this
      exact this
    have := (tab_hasFr hta hfo).1
    rw [← froms_has, ← hse] at this
    simp only [fitsF, hfr, Bool.and_eq_true]
    simp
    simpa using this
  · simp only [arrM, Int.reduceEq, if_false, if_true, mergedM] at harr
    split at harr
    · simp at harr
    split at harr
    · simp at harr
    rename_i u1 u2
    simp only [not_or, Decidable.not_not] at u1 u2
    simp only [Prod.mk.injEq, and_true] at harr
    obtain ⟨q1, q2⟩ := u1
    obtain ⟨q3, q4, _⟩ := u2
    obtain ⟨i0, hce⟩ := one _ harr.symm
    rw [hce] at hfr hsc ⊢
    subst i0
    have hg : goesR ⟨9, at', nm, ot, fac, fd, fo, ba⟩ = [named at' nm, named at' ot] := by simp [goesR]
    obtain ⟨e, h1, h2⟩ := src (named at' nm) q1 hsc
    obtain ⟨e2, h3, h4⟩ := src (named at' ot) q3 hsc
    have n1 := fits_n h2 q2
    have n2 := fits_n h4 q4
    have hfac : 2 ≤ fac ∧ fac ≤ 1000 := by
      have hxx := hx
      unfold rightLn at hxx
      simp [-Bool.not_eq_eq_eq_not] at hxx
      omega
    generalize hcc : (⟨at', 1, [], [], (findF l (named at' nm)).1.worth⟩ : Fd) = c at *
    have ck : c.kind = 1 := by rw [← hcc]
    have hv : valueM c = ⟨c.at', 0, []⟩ := by simp [valueM, ck]
    refine ⟨⟨by simp, by omega, fun _ => ⟨e, by rw [hg]; exact h1, fun h => by simp at h, fun _ => n1.1⟩, fun _ => ⟨⟨e2, by rw [hg]; exact h3, n2.1⟩, hfac⟩, fun _ => by rw [hv], fun h => by simp at h⟩, fun h0 => ?_⟩
    have hgm : gotM ⟨9, at', nm, ot, fac, fd, fo, ba⟩ c ((0 : Nat) : Int) es = if (mergI e.n e2.n fac).2 = 0 then (⟨c.at', (mergI e.n e2.n fac).1, []⟩, 0) else (default, (mergI e.n e2.n fac).2) := by
      unfold gotM
      rw [if_neg (by simp), hg]
      simp only [List.getD_cons_zero, List.getD_cons_succ, h1, h3, hv]
      rfl
    rw [hgm] at h0 ⊢
    obtain ⟨_, _, hmm⟩ := merg_ref hfac n1.1 n2.1
    by_cases hz : fitsI (e2.n * fac) = true ∧ fitsI (e.n + e2.n * fac) = true
    · rw [if_pos hz] at hmm
      rw [hmm, if_pos rfl]
      exact mk_n hfr ck (fitsI_iff.1 hz.2)
    · rw [if_neg hz] at hmm
      rw [hmm] at h0
      simp at h0
  · have hf0 := hf (by decide) (by decide) (by decide)
    simp [arrM, hf0] at harr
    obtain ⟨hc, gk⟩ := harr
    obtain ⟨i0, hce⟩ := one _ hc.symm
    rw [hce] at hfr hsc ⊢
    subst i0
    have hg : goesR ⟨10, at', nm, ot, fac, fd, fo, ba⟩ = [at'] := by simp [goesR]
    obtain ⟨e, h1, h2⟩ := src at' hf0 hsc
    obtain ⟨t1, _, _, t4⟩ := fits_t h2 (by omega)
    have gr := (fits_right h2).1
    have hv : valueM ⟨at', 2, ot, [], 0⟩ = ⟨at', 0, [ot]⟩ := by simp [valueM]
    refine ⟨⟨by simp, by omega, fun _ => ⟨e, by rw [hg]; exact h1, fun h => by simp at h, fun h => by simp at h⟩, fun h => by simp at h, fun h => by simp at h, fun _ => by rw [hv]⟩, fun _ => ?_⟩
    have : gotM ⟨10, at', nm, ot, fac, fd, fo, ba⟩ ⟨at', 2, ot, [], 0⟩ ((0 : Nat) : Int) es = (⟨at', 0, if 0 < (e.l.length : Int) then [e.l.getD (e.l.length - 1) []] else [ot]⟩, 0) := by
      unfold gotM
      rw [if_neg (by simp), hg]
      simp only [List.getD_cons_zero, h1]
      simp [fromM, hv]
    rw [this]
    by_cases h0 : 0 < (e.l.length : Int)
    · rw [if_pos h0]
      refine mk_t (f := ⟨at', 2, ot, [], 0⟩) hfr (by simp) (by simp) fun s hs => ?_
      rw [fitsF_text hfr (by simp) (by simp)]
      have hse := List.mem_singleton.1 hs
      have := t4 s (by rw [hse]; exact getD_mem (by omega))
      exact (fitsF_text gr (by omega) (by omega)).1 this
    · rw [if_neg h0, ← hv]
      exact value_fits hfr
/-- each field of the far side, read from a fitting run of entries -/
theorem one_ok {l m : List Fd} {x : Ln} {es : List En} {sc : Int} (ha : applyM l x = (m, 0)) (he : entriesB (scopeM l sc) es = true) {f : Fd} (hf : f ∈ scopeM m sc) : OneOk x es f ∧ ((oneM x es f).2 = 0 → fitsE f (oneM x es f).1 = true) := by
  obtain ⟨hfm, hfs⟩ := List.mem_filter.1 hf
  have hl := (apply_fwd ha).1
  have hfs : f.at'.sc = sc := by simpa using hfs
  unfold OneOk oneM
  rcases came ha hfm with ⟨hp, hfl⟩ | ⟨i, hp, hi1, cs, harr, hi, hc⟩
  · rw [if_pos hp, if_pos hp]
    obtain ⟨e, h1, h2⟩ := ent_of he (fun f hf g hg e => uniq_place hl (List.mem_filter.1 hf).1 (List.mem_filter.1 hg).1 e) (List.mem_filter.2 ⟨hfl, by simpa using hfs⟩)
    rw [h1]
    exact ⟨⟨e, rfl⟩, fun _ => h2⟩
  · rw [if_neg (by omega), if_neg (by omega), hp]
    subst hc
    exact got_ok ha he harr hi hi1 hfm hfs
/-- the far side's entries are right -/
theorem proj_fits {l m : List Fd} {x : Ln} {es : List En} {sc : Int} (ha : applyM l x = (m, 0)) (he : entriesB (scopeM l sc) es = true) (h0 : (projE x (scopeM m sc) es).2 = 0) : entriesB (scopeM m sc) (projE x (scopeM m sc) es).1 = true := by
  unfold projE at h0 ⊢
  cases hf : (scopeM m sc).find? (badOne x es) with
  | some f =>
    rw [hf] at h0
    have := List.find?_some hf
    unfold badOne at this
    simp only at h0
    rw [h0] at this
    simp at this
  | none =>
    simp only
    rw [List.find?_eq_none] at hf
    simp only [entriesB, List.length_map, decide_true, Bool.true_and, List.all_eq_true, List.mem_range]
    intro i hi
    have hmem := getD_mem (d := default) hi
    have hb := hf _ hmem
    have e0 : ((scopeM m sc).map fun f => (oneM x es f).1).getD i default = (oneM x es ((scopeM m sc).getD i default)).1 := by
      rw [getD_lt (by simpa using hi), getD_lt hi]; simp
    rw [e0]
    refine (one_ok ha he hmem).2 ?_
    unfold badOne at hb
    simpa using hb
/-- the far side's document is right -/
theorem over_right {l : List Fd} {x : Ln} {d : Dc} (h0 : (overP l x d).2 = 0) : rightD (applyM l x).1 (overP l x d).1 = true := by
  unfold overP at h0 ⊢
  by_cases hc : (applyM l x).2 = 0
  · rw [if_neg (fun h => h hc)] at h0 ⊢
    have ha : applyM l x = ((applyM l x).1, 0) := Prod.ext rfl hc
    generalize (applyM l x).1 = m at *
    cases hrd : rightD l d
    · rw [if_pos hrd] at h0; simp at h0
    · rw [if_neg (by simp [hrd])] at h0 ⊢
      obtain ⟨hl, hx, cs, l1, e1, e2, e3⟩ := apply_fwd ha
      obtain ⟨b1, _⟩ := come_fwd (go_fwd hl e2).1 e3
      simp only [rightD, headOk, Bool.and_eq_true, Bool.not_eq_true', decide_eq_false_iff_not, List.all_eq_true, List.mem_range] at hrd
      obtain ⟨⟨_, hn, he0⟩, hrows⟩ := hrd
      by_cases hh : (projE x (scopeM m 0) d.head).2 = 0
      · rw [if_neg (fun h => h hh)] at h0 ⊢
        cases hfd : d.rows.find? (badRow x (scopeM m 1)) with
        | some r =>
          rw [hfd] at h0
          have := List.find?_some hfd
          unfold badRow at this
          simp only at h0
          rw [h0] at this
          simp at this
        | none =>
          rw [List.find?_eq_none] at hfd
          simp only
          simp only [rightD, headOk, Bool.and_eq_true, Bool.not_eq_true', decide_eq_false_iff_not, List.all_eq_true, List.mem_range, List.length_map]
          refine ⟨⟨b1, hn, proj_fits ha he0 hh⟩, fun i hi => ?_⟩
          have hr := hrows i hi
          have gi : ∀ j, j < d.rows.length → (d.rows.map (newRow x (scopeM m 1))).getD j default = newRow x (scopeM m 1) (d.rows.getD j default) := fun j hj => by
            rw [getD_lt (by simpa using hj), getD_lt hj]; simp
          have hb := hfd _ (getD_mem (d := default) hi)
          unfold badRow at hb
          simp only [rowOk, Bool.and_eq_true] at hr ⊢
          rw [gi i hi, gi (i - 1) (by omega)]
          exact ⟨hr.1, proj_fits ha hr.2 (by simpa using hb)⟩
      · rw [if_pos hh] at h0
        exact absurd h0 hh
  · rw [if_pos hc] at h0
    exact absurd h0 hc
end Go.Proofs.YtnadlkjmdimjkaaGreat

set_option linter.unusedSimpArgs false
set_option linter.unusedVariables false
set_option linter.unusedSimpArgs false
set_option linter.unusedVariables false
namespace Go.Proofs.YtnadlkjmdimjkaaGreat
open Go.PL
theorem heavyEs_len {l : List En} (h : heavyEs l = false) : l.length ≤ 40 ∧ ∀ e ∈ l, e.l.length ≤ 410 := by
  simp only [heavyEs, Bool.or_eq_false_iff, decide_eq_false_iff_not, List.any_eq_false] at h
  refine ⟨by omega, fun e he => ?_⟩
  have := h.2 e he
  simp [entH] at this
  omega
theorem okDcOfHeavy {d : Dc} (h : heavyD d = false) : OkDc d := by
  simp only [heavyD, Bool.or_eq_false_iff, decide_eq_false_iff_not, List.any_eq_false] at h
  obtain ⟨h1, h2, h4⟩ := h
  have h2 := heavyEs_len h2
  refine ⟨by omega, by omega, fun e he => by have := h2.2 e he; omega, fun r hr => ?_⟩
  have h3 := h4 r hr
  simp only [rowH, Bool.or_eq_true, not_or, Bool.not_eq_true] at h3
  have h5 := heavyEs_len h3.2
  exact ⟨by omega, fun e he => by have := h5.2 e he; omega⟩
theorem fits_len {f : Fd} {e : En} (h : fitsE f e = true) : e.l.length ≤ 400 := by
  by_cases k1 : f.kind = 1
  · rw [(fits_n h k1).2]; exact Nat.zero_le _
  · obtain ⟨_, h2, h3, _⟩ := fits_t h k1
    by_cases k4 : f.kind = 4
    · exact h3 k4
    · have := h2 k4; omega
theorem entries_len {L : List Fd} {es : List En} (h : entriesB L es = true) : es.length = L.length ∧ ∀ e ∈ es, e.l.length ≤ 400 := by
  simp only [entriesB, Bool.and_eq_true, decide_eq_true_eq, List.all_eq_true, List.mem_range] at h
  refine ⟨h.1.symm, fun e he => ?_⟩
  obtain ⟨i, hi, rfl⟩ := List.getElem_of_mem he
  have := h.2 i (by omega)
  rw [getD_lt hi] at this
  exact fits_len this
theorem okDcOfRight {m : List Fd} {d : Dc} (h : rightD m d = true) : OkDc d := by
  simp only [rightD, headOk, Bool.and_eq_true, Bool.not_eq_true', decide_eq_false_iff_not, List.all_eq_true, List.mem_range] at h
  obtain ⟨⟨h1, h2, h3⟩, h4⟩ := h
  have h16 := rightL_len h1
  have hs : ∀ sc, (scopeM m sc).length ≤ 16 := fun sc => Nat.le_trans (List.length_filter_le _ _) h16
  have e0 := entries_len h3
  refine ⟨by have := hs 0; omega, by omega, fun e he => by have := e0.2 e he; omega, fun r hr => ?_⟩
  obtain ⟨i, hi, rfl⟩ := List.getElem_of_mem hr
  have := h4 i hi
  simp only [rowOk, Bool.and_eq_true] at this
  have e1 := entries_len this.2
  rw [getD_lt hi] at e1
  exact ⟨by have := hs 1; omega, fun e he => by have := e1.2 e he; omega⟩
theorem okDcOver {l : List Fd} {x : Ln} {d : Dc} : OkDc (overP l x d).1 := by
  by_cases h : (overP l x d).2 = 0
  · exact okDcOfRight (over_right h)
  · have : (overP l x d).1 = default := by
      unfold overP at h ⊢
      split
      · rfl
      split
      · rfl
      split
      · rfl
      split
      · rfl
      · rename_i h1 h2 h3 _ h4
        exfalso
        apply h
        rw [if_neg h1, if_neg h2, if_neg h3, h4]
    rw [this]
    exact ⟨by decide, by decide, (fun e he => by cases he), (fun r hr => by cases hr)⟩
end Go.Proofs.YtnadlkjmdimjkaaGreat

set_option linter.unusedSimpArgs false
set_option linter.unusedVariables false
set_option linter.unusedSimpArgs false
set_option linter.unusedVariables false
namespace Go.Proofs.YtnadlkjmdimjkaaGreat
open Go.PL
theorem nes_at {l m : List Fd} {x : Ln} {es : List En} {sc : Int} (ha : applyM l x = (m, 0)) (he : entriesB (scopeM l sc) es = true) (h0 : (projE x (scopeM m sc) es).2 = 0) {f : Fd} (hf : f ∈ scopeM m sc) : entM (projE x (scopeM m sc) es).1 f.at' = some (oneM x es f).1 ∧ (oneM x es f).2 = 0 := by
  have hn := proj_fits ha he h0
  obtain ⟨hl, hx, cs, l1, e1, e2, e3⟩ := apply_fwd ha
  obtain ⟨b1, _⟩ := come_fwd (go_fwd hl e2).1 e3
  have hu : ∀ f ∈ scopeM m sc, ∀ g ∈ scopeM m sc, f.at' = g.at' → f = g := fun f hf g hg e => uniq_place b1 (List.mem_filter.1 hf).1 (List.mem_filter.1 hg).1 e
  obtain ⟨e', h1, h2⟩ := ent_of hn hu hf
  have hz : ∀ f ∈ scopeM m sc, (oneM x es f).2 = 0 := fun f hf => by
    unfold projE at h0
    cases hfd : (scopeM m sc).find? (badOne x es) with
    | some g =>
      rw [hfd] at h0
      have := List.find?_some hfd
      unfold badOne at this
      simp only at h0
      rw [h0] at this
      simp at this
    | none =>
      have := List.find?_eq_none.1 hfd f hf
      unfold badOne at this
      simpa using this
  have hmap : (projE x (scopeM m sc) es).1 = (scopeM m sc).map fun f => (oneM x es f).1 := by
    unfold projE
    cases hfd : (scopeM m sc).find? (badOne x es) with
    | some g =>
      have := List.find?_some hfd
      unfold badOne at this
      rw [hz g (List.mem_of_find?_eq_some hfd)] at this
      simp at this
    | none => rfl
  refine ⟨?_, hz f hf⟩
  rw [h1]
  have hmem : e' ∈ (projE x (scopeM m sc) es).1 := List.mem_of_find?_eq_some h1
  rw [hmap] at hmem
  obtain ⟨f', hf', hfe⟩ := List.mem_map.1 hmem
  have q1 := (fits_right ((one_ok ha he hf').2 (hz f' hf'))).2
  have q2 := (fits_right h2).2
  have : f' = f := hu _ hf' _ hf (by rw [← q1, hfe, q2])
  rw [← hfe, this]
end Go.Proofs.YtnadlkjmdimjkaaGreat

set_option linter.unusedSimpArgs false
set_option linter.unusedVariables false
set_option linter.unusedSimpArgs false
set_option linter.unusedVariables false
namespace Go.Proofs.YtnadlkjmdimjkaaGreat
open Go.PL
theorem ent_nth {l : List Fd} {es : List En} {sc : Int} (hl : rightL l = true) (he : entriesB (scopeM l sc) es = true) {i : Nat} (hi : i < (scopeM l sc).length) : entM es ((scopeM l sc).getD i default).at' = some (es.getD i default) ∧ fitsE ((scopeM l sc).getD i default) (es.getD i default) = true := by
  have hr := (right_iff.1 hl).2.1
  have hrs : Rise (scopeM l sc) := List.Pairwise.filter _ hr
  have h := he
  simp only [entriesB, Bool.and_eq_true, decide_eq_true_eq, List.all_eq_true, List.mem_range] at h
  obtain ⟨hlen, hall⟩ := h
  refine ⟨?_, hall i hi⟩
  have hpw := List.pairwise_iff_getElem.1 hrs
  refine find_found (by omega) (fun j hj => ?_) ?_
  · have hjL : j < (scopeM l sc).length := by omega
    have hlt := hpw j i hjL hi hj
    have q := (fits_right (hall j hjL)).2
    unfold isAt
    rw [q, decide_eq_false_iff_not]
    intro hc
    have := rise_at hrs (getD_mem (d := default) hjL) (getD_mem (d := default) hi) hc
    rw [getD_lt hjL, getD_lt hi] at this
    rw [this, lb_irrefl] at hlt
    cases hlt
  · unfold isAt
    rw [(fits_right (hall i hi)).2]
    simp
end Go.Proofs.YtnadlkjmdimjkaaGreat

set_option linter.unusedSimpArgs false
set_option linter.unusedVariables false
set_option linter.unusedSimpArgs false
set_option linter.unusedVariables false
namespace Go.Proofs.YtnadlkjmdimjkaaGreat
open Go.PL
end Go.Proofs.YtnadlkjmdimjkaaGreat

set_option linter.unusedSimpArgs false
set_option linter.unusedVariables false
set_option linter.unusedSimpArgs false
set_option linter.unusedVariables false
namespace Go.Proofs.YtnadlkjmdimjkaaGreat
open Go.PL
end Go.Proofs.YtnadlkjmdimjkaaGreat

set_option linter.unusedSimpArgs false
set_option linter.unusedVariables false
set_option linter.unusedSimpArgs false
set_option linter.unusedVariables false
namespace Go.Proofs.YtnadlkjmdimjkaaGreat
open Go.PL
def toL : List Ln → List Fd → Dc → Dc × Int
  | [], _, d => (d, 0)
  | x :: xs, l, d => if (overP l x d).2 ≠ 0 then (default, (overP l x d).2) else toL xs (applyM l x).1 (overP l x d).1
theorem toL_cons (x : Ln) (xs : List Ln) (l : List Fd) (d : Dc) : toL (x :: xs) l d = if (overP l x d).2 ≠ 0 then (default, (overP l x d).2) else toL xs (applyM l x).1 (overP l x d).1 := rfl
def toM (m : List Eg) (a b : Tg) (d : Dc) : Dc × Int :=
  if pathC m a b ≠ 0 then (default, pathC m a b) else if rightD (schM (treeOf m) a).1 d = false then (default, 5) else toL (rowM m a b).1 (schM (treeOf m) a).1 d
theorem over_zero {l : List Fd} {x : Ln} {d : Dc} (h : (overP l x d).2 = 0) : (applyM l x).2 = 0 ∧ rightD l d = true := by
  unfold overP at h
  split at h
  · rename_i hn; exact absurd h hn
  split at h
  · simp at h
  · rename_i h1 h2
    exact ⟨by simpa using h1, by simpa using h2⟩
def docC (d : Dc) : List PV := [.sl .no (d.head.map ent), .sl .no (d.rows.map row)]
structure ToS (row : List Ln) (l0 : List Fd) (d0 : Dc) where
  k : Nat
  l : List Fd
  d : Dc
  hk : k ≤ row.length
  okl : OkFs l
  okd : OkDc d
  h : toL (row.drop k) l d = toL row l0 d0
theorem okSch {m : List Eg} {a : Tg} (hm : OkM m) (h : upC m a = 0) : OkFs (schM (treeOf m) a).1 := by
  obtain ⟨wa, fa, _⟩ := live_way h
  exact okFold _ (fun e he => hm.l e (wa.mem e he)) okRoot fa
set_option maxRecDepth 20000 in
set_option maxHeartbeats 16000000 in
theorem To_pure (m : List Eg) (a b : Tg) (d : Dc) (hm : OkM m) (hr : RightM m) (hd : OkDc d) : PL.Pure Tryz.prog 37 [tr (treeOf m), tg a, tg b, doc d] (docc (toM m a b d)) := by
  have hR := Row_pure m a b hm hr
  obtain ⟨hrl, hro⟩ := row_ok (a := a) (b := b) hm
  have hc2 : (rowM m a b).2 = pathC m a b := by unfold rowM; split <;> simp_all
  unfold toM
  by_cases hc : pathC m a b = 0
  · rw [if_neg (fun h => h hc)]
    have hS := Schema_pure m a hm
    have hu := (pathC_zero.1 hc).1
    have hu' : (schM (treeOf m) a).2 = 0 := hu
    have okA := okSch hm hu
    have hD := DRight_pure (schM (treeOf m) a).1 d (by have := okA.n; rw [maxLen_eq]; omega) okA.c hd.fine
    have hO := DOwn_pure d hd.h hd.r hd.e hd.s
    rw [hc] at hc2
    clear hu
    generalize rowM m a b = rw0 at *
    obtain ⟨row, c0⟩ := rw0
    generalize schM (treeOf m) a = sa at *
    obtain ⟨A, c1⟩ := sa
    simp only at hc2 hrl hro hu' okA hD ⊢
    subst hc2 hu'
    cases hrd : rightD A d
    · rw [hrd] at hD
      rw [if_pos rfl]
      refine PL.Pure.of_v Tryz.func37 (by decide) rfl Tryz.ntmps37 Tryz.results37 (by simp) (docc_dids _) ?_
      simp only [go_sem, tr, tg, doc]
      refine vScope0 ?_
      simp only [go_sem]
      refine vCall_of (hR) ?_ ?_ ?_; iterate 2 simp only [go_sem, tr, tg]
      simp only [go_sem, lnsc, lnss, tr, tg]
      refine vCall_of (hS) ?_ ?_ ?_; iterate 2 simp only [go_sem, tr, tg]
      simp only [go_sem, fldsc, flds]
      refine vCall_of (hD) ?_ ?_ ?_; iterate 2 simp only [go_sem, flds, doc]
      simp only [go_sem, docc, doc_default]
    · rw [hrd] at hD
      rw [if_neg (by decide)]
      refine PL.Pure.of_v Tryz.func37 (by decide) rfl Tryz.ntmps37 Tryz.results37 (by simp) (docc_dids _) ?_
      simp only [go_sem, tr, tg, doc]
      refine vScopeM (ι := ToS row A d) 76 (fun x => [(7, .ptr 7 0), (8, .ptr 8 0), (10, lnss row), (12, flds x.l), (13, .int .i64 (x.k : Int))]) (fun x => [(7, docC x.d, false), (8, [.sl .nil [], .sl .nil []], false)]) (fun x => []) (fun x => row.length - x.k) 0 _ (by exact rfl) (fun x => ⟨(forall_cons rfl (forall_cons rfl (forall_cons rfl (forall_cons rfl (forall_cons rfl (forall_nil)))))), forall_cons rfl (forall_cons rfl forall_nil)⟩) (fun x => ?_) (fun cut => ?_)
      · obtain ⟨k, l, d1, hk, okl, okd, h⟩ := x
        simp only
        by_cases he : k = row.length
        · have hb : ((k : Int) == (row.length : Int)) = true := by simp [he]
          have hd' : toL row A d = (d1, 0) := by rw [← h, he, List.drop_length]; rfl
          rw [hd']
          simp only [go_sem, lnss, List.length_map, hb, docc, doc, docC]
        · have hb : ((k : Int) == (row.length : Int)) = false := by simp; omega
          have hka : k < row.length := by omega
          have i0 : (0 : Int) ≤ (k : Int) := by omega
          have i1 : (k : Int) < (row.length : Int) := by omega
          have w1 : IntKind.i64.wrap ((k : Int) + 1) = ((k + 1 : Nat) : Int) := by rw [w64 (by omega)]; rfl
          have okx := hro _ (getD_mem (d := default) hka)
          have hP := POver_pure l (row.getD k default) d1 okl okx okd
          have hA := Apply_pure l (row.getD k default) okl okx
          rw [drop_ln hka, toL_cons] at h
          by_cases hz : (overP l (row.getD k default) d1).2 = 0
          · rw [if_neg (fun h => h hz)] at h
            have ha0 := (over_zero hz).1
            have okn := okDcOver (l := l) (x := row.getD k default) (d := d1)
            have okm := okApply okl okx
            generalize overP l (row.getD k default) d1 = ov at *
            obtain ⟨d2, c2⟩ := ov
            generalize applyM l (row.getD k default) = ap at *
            obtain ⟨l2, c3⟩ := ap
            simp only at hz ha0 okn okm h
            subst hz ha0
            simp only [go_sem, lnss, List.length_map, hb]
            refine vDrawQ (by kernel_rfl) (by kernel_rfl) ?_
            simp only [go_sem, getD_ln hka, lns, i0, i1, flds, List.length_map, docC]
            refine vCall_of (hP) ?_ ?_ ?_; iterate 2 simp only [go_sem, flds, lns, doc]
            simp only [go_sem, docc, doc, flds, getD_ln hka, lns, i0, i1, List.length_map]
            refine vCall_of (hA) ?_ ?_ ?_; iterate 2 simp only [go_sem, flds, lns]
            simp only [go_sem, fldsc, flds, w1]
            exact ⟨⟨k + 1, l2, d2, by omega, okm, okn, h⟩, by show row.length - (k + 1) < row.length - k; omega, ⟨rfl, (forall_cons rfl (forall_cons rfl (forall_cons rfl (forall_cons rfl (forall_cons rfl (forall_nil)))))), forall_cons ⟨rfl, rfl⟩ (forall_cons ⟨rfl, rfl⟩ forall_nil), forall_nil⟩⟩
          · rw [if_pos hz] at h
            have hz' : ((overP l (row.getD k default) d1).2 != 0) = true := bne_iff_ne.2 hz
            rw [← h]
            generalize overP l (row.getD k default) d1 = ov at *
            obtain ⟨d2, c2⟩ := ov
            simp only at hz'
            simp only [go_sem, lnss, List.length_map, hb]
            refine vDrawQ (by kernel_rfl) (by kernel_rfl) ?_
            simp only [go_sem, getD_ln hka, lns, i0, i1, flds, List.length_map, docC]
            refine vCall_of (hP) ?_ ?_ ?_; iterate 2 simp only [go_sem, flds, lns, doc]
            simp only [go_sem, docc, doc, hz', doc_default]
            rfl
      · simp only [go_sem]
        refine vCall_of (hR) ?_ ?_ ?_; iterate 2 simp only [go_sem, tr, tg]
        simp only [go_sem, lnsc, lnss, tr, tg]
        refine vCall_of (hS) ?_ ?_ ?_; iterate 2 simp only [go_sem, tr, tg]
        simp only [go_sem, fldsc, flds]
        refine vCall_of (hD) ?_ ?_ ?_; iterate 2 simp only [go_sem, flds, doc]
        simp only [go_sem]
        refine vCall_of (hO) ?_ ?_ ?_; iterate 2 simp only [go_sem, doc]
        simp only [go_sem, doc]
        exact awp_label_seq (cut ⟨0, A, d, Nat.zero_le _, okA, hd, rfl⟩ _ ⟨rfl, (forall_cons rfl (forall_cons rfl (forall_cons rfl (forall_cons rfl (forall_cons rfl (forall_nil)))))), forall_cons ⟨rfl, rfl⟩ (forall_cons ⟨rfl, rfl⟩ forall_nil), forall_nil⟩)
  · rw [if_pos hc]
    have hc' : (pathC m a b != 0) = true := by simpa using hc
    have hcr : rowM m a b = ([], pathC m a b) := by unfold rowM; rw [if_pos hc]
    rw [hcr] at hR
    refine PL.Pure.of_v Tryz.func37 (by decide) rfl Tryz.ntmps37 Tryz.results37 (by simp) (docc_dids _) ?_
    simp only [go_sem, tr, tg, doc]
    refine vScope0 ?_
    simp only [go_sem]
    refine vCall_of (hR) ?_ ?_ ?_; iterate 2 simp only [go_sem, tr, tg]
    simp only [go_sem, lnsc, lnss, hc', docc, doc_default]
end Go.Proofs.YtnadlkjmdimjkaaGreat

set_option linter.unusedSimpArgs false
set_option linter.unusedVariables false
set_option linter.unusedSimpArgs false
set_option linter.unusedVariables false
namespace Go.Proofs.YtnadlkjmdimjkaaGreat
open Go.PL
end Go.Proofs.YtnadlkjmdimjkaaGreat

set_option linter.unusedSimpArgs false
set_option linter.unusedVariables false
set_option linter.unusedSimpArgs false
set_option linter.unusedVariables false
namespace Go.Proofs.YtnadlkjmdimjkaaGreat
open Go.PL
theorem fold_way {m : List Eg} (ha : Apart m) (hr : RightM m) {p q : List Eg} (hp : ∀ e ∈ p, e ∈ m) (hq : ∀ e ∈ q, e ∈ m) {A B : List Fd} (h1 : foldA p rootL = some A) (h2 : foldA q rootL = some B) : foldL (lenses m (legsW p q)) A = some B := by
  have kp : ∀ e ∈ p, e.ln.kind ≤ 8 := fun e he => edge_kind (hr.r e (hp e he))
  obtain ⟨ms, a1, a2⟩ := foldA_split (lcp p q) h1
  obtain ⟨ns, b1, b2⟩ := foldA_split (lcp p q) h2
  rw [lcp_take, b1] at a1
  cases a1
  rw [lenses_way ha hp hq, foldL_append, foldL_up _ (fun e he => kp e (List.mem_of_mem_drop he)) a2]
  rw [Option.bind_some, foldL_down, b2]
theorem toL_bad : ∀ (xs : List Ln) (l : List Fd) (d : Dc), (toL xs l d).2 ≠ 0 → toL xs l d = (default, (toL xs l d).2)
  | [], l, d, h => absurd rfl h
  | x :: xs, l, d, h => by
    rw [toL_cons] at h ⊢
    split
    · rfl
    · rename_i hz
      rw [if_neg hz] at h
      exact toL_bad xs _ _ h
theorem fold_cons {x : Ln} {xs : List Ln} {l B : List Fd} (h : foldL (x :: xs) l = some B) (h0 : (applyM l x).2 = 0) : foldL xs (applyM l x).1 = some B := by
  have e : applyM l x = ((applyM l x).1, 0) := Prod.ext rfl h0
  unfold foldL at h
  rw [e] at h
  simpa using h
theorem toL_right : ∀ (xs : List Ln) (l B : List Fd) (d : Dc), foldL xs l = some B → rightD l d = true → (toL xs l d).2 = 0 → rightD B (toL xs l d).1 = true
  | [], l, B, d, hf, hr, h => by
    have : l = B := by simpa [foldL] using hf
    subst this
    exact hr
  | x :: xs, l, B, d, hf, hr, h => by
    rw [toL_cons] at h ⊢
    by_cases hz : (overP l x d).2 = 0
    · rw [if_neg (fun g => g hz)] at h ⊢
      exact toL_right xs _ B _ (fold_cons hf (over_zero hz).1) (over_right hz) h
    · rw [if_pos hz] at h
      exact absurd h hz
theorem to_fold {m : List Eg} {a b : Tg} (hm : OkM m) (hr : RightM m) (hc : pathC m a b = 0) : foldL (rowM m a b).1 (schM (treeOf m) a).1 = some (schM (treeOf m) b).1 := by
  obtain ⟨ca, cb⟩ := pathC_zero.1 hc
  obtain ⟨wa, fa, _⟩ := live_way ca
  obtain ⟨wb, fb, _⟩ := live_way cb
  have : (rowM m a b).1 = lenses m (legsW (wayD m a) (wayD m b)) := by unfold rowM; rw [if_neg (fun h => h hc)]
  rw [this]
  exact fold_way hm.a hr wa.mem wb.mem fa fb
theorem to_zero {m : List Eg} {a b : Tg} {d : Dc} (h : (toM m a b d).2 = 0) : pathC m a b = 0 ∧ rightD (schM (treeOf m) a).1 d = true ∧ (toL (rowM m a b).1 (schM (treeOf m) a).1 d).2 = 0 ∧ toM m a b d = toL (rowM m a b).1 (schM (treeOf m) a).1 d := by
  unfold toM at h ⊢
  split at h
  · rename_i hn; exact absurd h hn
  split at h
  · simp at h
  · rename_i h1 h2
    rw [if_neg h1, if_neg h2]
    exact ⟨by simpa using h1, by simpa using h2, h, rfl⟩
theorem to_ok {m : List Eg} {a b : Tg} {d : Dc} (hm : OkM m) (hr : RightM m) : OkDc (toM m a b d).1 := by
  by_cases h : (toM m a b d).2 = 0
  · obtain ⟨hc, hrd, hz, he⟩ := to_zero h
    rw [he]
    exact okDcOfRight (toL_right _ _ _ _ (to_fold hm hr hc) hrd hz)
  · have : (toM m a b d).1 = default := by
      unfold toM at h ⊢
      split
      · rfl
      split
      · rfl
      · rename_i h1 h2
        rw [if_neg h1, if_neg h2] at h
        rw [toL_bad _ _ _ h]
    rw [this]
    exact ⟨by decide, by decide, (fun e he => by cases he), (fun r hr => by cases hr)⟩
end Go.Proofs.YtnadlkjmdimjkaaGreat
