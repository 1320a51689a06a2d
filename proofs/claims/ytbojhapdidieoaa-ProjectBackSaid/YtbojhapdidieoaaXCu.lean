/- Contracts of functions and laws of this seat, each for every input that it names: lemmas of the proof. -/
import Derived.Test.YtbojhapdidieoaaXCp
import Derived.Test.YtbojhapdidieoaaXBy
set_option linter.unusedSimpArgs false
set_option linter.unusedVariables false
set_option linter.unusedSimpArgs false
set_option linter.unusedVariables false
namespace Go.Proofs.Ytbojhapdidieoaa
open Go.PL
theorem tab_hasFr {t o : List Pr} (h : tableM t o = true) {s : Str} (hs : hasFr t s = true) : hasFr o (caseM t s).1 = true ∧ (caseM t s).2 = true := by
  simp only [hasFr, List.any_eq_true, beq_iff_eq] at hs
  obtain ⟨p, hp, rfl⟩ := hs
  obtain ⟨q, hq⟩ : ∃ q, t.find? (fun q => q.fr' == p.fr') = some q := by
    cases hf : t.find? (fun q => q.fr' == p.fr') with
    | none => exact absurd (by simp) (List.find?_eq_none.1 hf p hp)
    | some q => exact ⟨q, rfl⟩
  have hqm := List.mem_of_find?_eq_some hq
  have hc : caseM t p.fr' = (q.to', true) := by unfold caseM; rw [hq]
  rw [hc]
  refine ⟨?_, rfl⟩
  simp only [tableM, Bool.and_eq_true, List.all_eq_true, List.mem_range] at h
  obtain ⟨i, hi, rfl⟩ := List.getElem_of_mem hqm
  have h1 := h.2 i hi
  simp only [tabOk, Bool.and_eq_true] at h1
  have h2 := h1.2.2
  rw [getD_lt hi] at h2
  exact h2
theorem froms_has {t : List Pr} {s : Str} : (fromsM t).any (· == s) = hasFr t s := by
  unfold fromsM hasFr
  rw [List.any_map]
  rfl
set_option maxHeartbeats 4000000 in
theorem got_ok {l m cs : List Fd} {x : Ln} {es : List En} {sc : Int} {i : Nat} (ha : applyM l x = (m, 0)) (he : entriesB (scopeM l sc) es = true) (harr : arrM l x = (cs, true)) (hi : i < cs.length) (hi1 : i ≤ 1) (hm : cs.getD i default ∈ m) (hsc : (cs.getD i default).at'.sc = sc) :
    GotOk x (cs.getD i default) (i : Int) es ∧ ((gotM x (cs.getD i default) (i : Int) es).2 = 0 → fitsE (cs.getD i default) (gotM x (cs.getD i default) (i : Int) es).1 = true) := by
  obtain ⟨hl, hx, cs', l1, e1, e2, e3⟩ := apply_fwd ha
  obtain ⟨b1, _⟩ := come_fwd (go_fwd hl e2).1 e3
  clear e1 e2 e3
  have hfr := (right_iff.1 b1).2.2 _ hm
  have src : ∀ r, (findF l r).2 = 0 → r.sc = sc → ∃ e, entM es r = some e ∧ fitsE (findF l r).1 e = true := fun r h1 h2 => by
    obtain ⟨g1, g2⟩ := find_zero h1
    have hg : (findF l r).1 ∈ scopeM l sc := List.mem_filter.2 ⟨g1, by rw [g2]; simp [h2]⟩
    have := ent_of he (fun f hf g hg e => uniq_place hl (List.mem_filter.1 hf).1 (List.mem_filter.1 hg).1 e) hg
    rwa [g2] at this
  have hk := (rightLn_kind hx).1
  clear hm b1
  obtain ⟨kind, at', nm, ot, fac, fd, fo, ba⟩ := x
  simp only at hk
  have one : ∀ c : Fd, cs = [c] → i = 0 ∧ cs.getD i default = c := fun c hc => by
    subst hc
    have : i = 0 := by simpa using hi
    subst this
    exact ⟨rfl, rfl⟩
  have mv : ∀ (c : Fd) (k : Int), (k = 1 ∨ k = 4 ∨ k = 5) → kind = k → (findF l at').2 = 0 → at'.sc = c.at'.sc → cs = [c] → c.kind = (findF l at').1.kind → c.cases' = (findF l at').1.cases' →
      GotOk ⟨kind, at', nm, ot, fac, fd, fo, ba⟩ (cs.getD i default) (i : Int) es ∧ ((gotM ⟨kind, at', nm, ot, fac, fd, fo, ba⟩ (cs.getD i default) (i : Int) es).2 = 0 → fitsE (cs.getD i default) (gotM ⟨kind, at', nm, ot, fac, fd, fo, ba⟩ (cs.getD i default) (i : Int) es).1 = true) := fun c k hk' hkk hf hs hc q1 q2 => by
    obtain ⟨i0, hce⟩ := one c hc
    rw [hce] at hsc hfr ⊢
    subst i0
    obtain ⟨e, h1, h2⟩ := src at' hf (by rw [hs]; exact hsc)
    have hg : goesR ⟨kind, at', nm, ot, fac, fd, fo, ba⟩ = [at'] := by unfold goesR; simp only; rw [if_neg (by omega), if_neg (by omega), if_neg (by omega)]
    refine ⟨⟨by simp only; omega, by omega, fun _ => ⟨e, by rw [hg]; exact h1, fun h => by simp only at h; omega, fun h => by simp only at h; omega⟩, fun h => by simp only at h; omega, fun h => by simp only at h; omega, fun h => by simp only at h; omega⟩, fun _ => ?_⟩
    have : gotM ⟨kind, at', nm, ot, fac, fd, fo, ba⟩ c ((0 : Nat) : Int) es = (⟨c.at', e.n, e.l⟩, 0) := by
      unfold gotM
      rw [if_neg (by simp only; omega), hg]
      simp only [List.getD_cons_zero, h1]
      rw [if_neg (by omega)]
      unfold fromM
      simp only
      rw [if_neg (by omega), if_neg (by omega), if_neg (by omega), if_neg (by omega), if_neg (by omega)]
    rw [this]
    exact moved_fits h2 hfr q1 q2
  have hf : kind ≠ 2 → kind ≠ 3 → kind ≠ 9 → (findF l at').2 = 0 := fun a b c => by
    unfold arrM at harr
    simp only [if_neg a, if_neg b, if_neg c] at harr
    by_cases h : (findF l at').2 = 0
    · exact h
    · rw [if_pos h] at harr; simp at harr
  rcases hk with rfl | rfl | rfl | rfl | rfl | rfl | rfl | rfl | rfl | rfl
  · have hf0 := hf (by decide) (by decide) (by decide)
    simp [arrM, comesR, hf0] at harr
    exact mv _ 1 (by omega) rfl hf0 rfl harr.symm rfl rfl
  · simp [arrM] at harr
    obtain ⟨i0, hce⟩ := one fd harr.symm
    rw [hce] at hfr ⊢
    subst i0
    refine ⟨⟨by simp, by omega, fun h => absurd rfl h, fun h => by simp at h, fun h => by simp at h, fun h => by simp at h⟩, fun _ => ?_⟩
    have : gotM ⟨2, at', nm, ot, fac, fd, fo, ba⟩ fd ((0 : Nat) : Int) es = (valueM fd, 0) := by unfold gotM; rw [if_pos (.inl rfl)]
    rw [this]
    exact value_fits hfr
  · simp [arrM] at harr
    have := harr.1
    subst this
    simp at hi
  · have hf0 := hf (by decide) (by decide) (by decide)
    simp [arrM, comesR, hf0] at harr
    exact mv _ 4 (by omega) rfl hf0 rfl harr.symm rfl rfl
  · have hf0 := hf (by decide) (by decide) (by decide)
    simp [arrM, comesR, hf0] at harr
    exact mv _ 5 (by omega) rfl hf0 rfl harr.symm rfl rfl
  · have hf0 := hf (by decide) (by decide) (by decide)
    simp [arrM, hf0] at harr
    obtain ⟨hc, gk⟩ := harr
    subst hc
    have hg : goesR ⟨6, at', nm, ot, fac, fd, fo, ba⟩ = [at'] := by simp [goesR]
    have key : ∀ c : Fd, c.kind = 1 → c.at'.sc = at'.sc → c.at'.sc = sc → rightF c = true → GotOk ⟨6, at', nm, ot, fac, fd, fo, ba⟩ c (i : Int) es ∧ ((gotM ⟨6, at', nm, ot, fac, fd, fo, ba⟩ c (i : Int) es).2 = 0 → fitsE c (gotM ⟨6, at', nm, ot, fac, fd, fo, ba⟩ c (i : Int) es).1 = true) := fun c ck cs1 cs2 cr => by
      obtain ⟨e, h1, h2⟩ := src at' hf0 (by rw [← cs1]; exact cs2)
      have hn := fits_n h2 gk
      have hv : valueM c = ⟨c.at', 0, []⟩ := by simp [valueM, ck]
      refine ⟨⟨by simp, by omega, fun _ => ⟨e, by rw [hg]; exact h1, fun h => by simp at h, fun h => by simp at h⟩, fun h => by simp at h, fun _ => by rw [hv], fun h => by simp at h⟩, fun _ => ?_⟩
      by_cases h0 : 0 < (i : Int)
      · have : gotM ⟨6, at', nm, ot, fac, fd, fo, ba⟩ c (i : Int) es = (valueM c, 0) := by unfold gotM; rw [if_pos (.inr ⟨rfl, h0⟩)]
        rw [this]
        exact value_fits cr
      · have : gotM ⟨6, at', nm, ot, fac, fd, fo, ba⟩ c (i : Int) es = (⟨c.at', e.n, []⟩, 0) := by
          unfold gotM
          rw [if_neg (fun h => h0 (h.elim (fun g => by simp at g) (·.2))), hg]
          simp [h1, fromM, hv]
        rw [this]
        exact mk_n cr ck hn.1
    have h01 : i = 0 ∨ i = 1 := by omega
    rcases h01 with rfl | rfl
    · exact key _ rfl rfl hsc hfr
    · exact key _ rfl rfl hsc hfr
  · have hf0 := hf (by decide) (by decide) (by decide)
    simp [arrM, hf0] at harr
    obtain ⟨hc, gk, gd⟩ := harr
    obtain ⟨i0, hce⟩ := one _ hc.symm
    rw [hce] at hfr hsc ⊢
    subst i0
    have hg : goesR ⟨7, at', nm, ot, fac, fd, fo, ba⟩ = [at'] := by simp [goesR]
    obtain ⟨e, h1, h2⟩ := src at' hf0 hsc
    obtain ⟨t1, t2, _, t4⟩ := fits_t h2 (by omega)
    have tl := t2 (by omega)
    have gr := (fits_right h2).1
    refine ⟨⟨by simp, by omega, fun _ => ⟨e, by rw [hg]; exact h1, fun _ => by omega, fun h => by simp at h⟩, fun h => by simp at h, fun h => by simp at h, fun h => by simp at h⟩, fun _ => ?_⟩
    have : gotM ⟨7, at', nm, ot, fac, fd, fo, ba⟩ ⟨at', 4, [], [], 0⟩ ((0 : Nat) : Int) es = (⟨at', 0, if 0 < (e.l.length : Int) ∧ e.l.getD 0 [] ≠ ot then [e.l.getD 0 []] else []⟩, 0) := by
      unfold gotM
      rw [if_neg (by simp), hg]
      simp only [List.getD_cons_zero, h1]
      rfl
    rw [this]
    refine mk_t (f := ⟨at', 4, [], [], 0⟩) hfr (by simp) ?_ fun s hs => ?_
    · rw [if_pos rfl]; split <;> simp
    · rw [fitsF_text hfr (by simp) (by simp)]
      split at hs
      · have hse := List.mem_singleton.1 hs
        have := t4 s (by rw [hse]; exact getD_mem (by omega))
        exact (fitsF_text gr (by omega) (by omega)).1 this
      · cases hs
  · have hf0 := hf (by decide) (by decide) (by decide)
    simp [arrM, hf0] at harr
    obtain ⟨hc, gv⟩ := harr
    obtain ⟨i0, hce⟩ := one _ hc.symm
    rw [hce] at hfr hsc ⊢
    subst i0
    have hg : goesR ⟨8, at', nm, ot, fac, fd, fo, ba⟩ = [at'] := by simp [goesR]
    obtain ⟨e, h1, h2⟩ := src at' hf0 hsc
    have gk : (findF l at').1.kind = 3 := by rw [gv]
    obtain ⟨t1, t2, _, t4⟩ := fits_t h2 (by omega)
    have tl := t2 (by omega)
    refine ⟨⟨by simp, by omega, fun _ => ⟨e, by rw [hg]; exact h1, fun _ => by omega, fun h => by simp at h⟩, fun h => by simp at h, fun h => by simp at h, fun h => by simp at h⟩, fun _ => ?_⟩
    have h0 : 0 < (e.l.length : Int) := by omega
    have : gotM ⟨8, at', nm, ot, fac, fd, fo, ba⟩ ⟨at', 3, ot, fromsM ba, 0⟩ ((0 : Nat) : Int) es = (⟨at', 0, [(caseM fo (e.l.getD 0 [])).1]⟩, 0) := by
      unfold gotM
      rw [if_neg (by simp), hg]
      simp only [List.getD_cons_zero, h1]
      simp [fromM, h0]
      intro h
      rw [h] at tl
      cases tl
    rw [this]
    refine mk_t (f := ⟨at', 3, ot, fromsM ba, 0⟩) hfr (by simp) (by simp) fun s hs => ?_
    have hse := List.mem_singleton.1 hs
    have hfit := t4 (e.l.getD 0 []) (getD_mem (by omega))
    have hta : tableM fo ba = true := by
      have hxx := hx
      unfold rightLn at hxx
      simp only [show ¬ ((8 : Int) = 2 ∨ (8 : Int) = 3) by omega, if_false, if_true, Bool.and_eq_true] at hxx
      exact hxx.2.2.1
    have hfo : hasFr fo (e.l.getD 0 []) = true := by
      rw [← froms_has]
      simp only [fitsF, gk, if_true, Bool.and_eq_true] at hfit
      have := hfit.2
      rw [gv] at this
      exact this
    have := (tab_hasFr hta hfo).1
    rw [← froms_has, ← hse] at this
    simp only [fitsF, hfr, Bool.and_eq_true]
    simp
    simpa using this
  · simp only [arrM, Int.reduceEq, if_false, if_true, mergedM] at harr
    split at harr
    · simp at harr
    split at harr
    · simp at harr
    rename_i u1 u2
    simp only [not_or, Decidable.not_not] at u1 u2
    simp only [Prod.mk.injEq, and_true] at harr
    obtain ⟨q1, q2⟩ := u1
    obtain ⟨q3, q4, _⟩ := u2
    obtain ⟨i0, hce⟩ := one _ harr.symm
    rw [hce] at hfr hsc ⊢
    subst i0
    have hg : goesR ⟨9, at', nm, ot, fac, fd, fo, ba⟩ = [named at' nm, named at' ot] := by simp [goesR]
    obtain ⟨e, h1, h2⟩ := src (named at' nm) q1 hsc
    obtain ⟨e2, h3, h4⟩ := src (named at' ot) q3 hsc
    have n1 := fits_n h2 q2
    have n2 := fits_n h4 q4
    have hfac : 2 ≤ fac ∧ fac ≤ 1000 := by
      have hxx := hx
      unfold rightLn at hxx
      simp [-Bool.not_eq_eq_eq_not] at hxx
      omega
    generalize hcc : (⟨at', 1, [], [], (findF l (named at' nm)).1.worth⟩ : Fd) = c at *
    have ck : c.kind = 1 := by rw [← hcc]
    have hv : valueM c = ⟨c.at', 0, []⟩ := by simp [valueM, ck]
    refine ⟨⟨by simp, by omega, fun _ => ⟨e, by rw [hg]; exact h1, fun h => by simp at h, fun _ => n1.1⟩, fun _ => ⟨⟨e2, by rw [hg]; exact h3, n2.1⟩, hfac⟩, fun _ => by rw [hv], fun h => by simp at h⟩, fun h0 => ?_⟩
    have hgm : gotM ⟨9, at', nm, ot, fac, fd, fo, ba⟩ c ((0 : Nat) : Int) es = if (mergI e.n e2.n fac).2 = 0 then (⟨c.at', (mergI e.n e2.n fac).1, []⟩, 0) else (default, (mergI e.n e2.n fac).2) := by
      unfold gotM
      rw [if_neg (by simp), hg]
      simp only [List.getD_cons_zero, List.getD_cons_succ, h1, h3, hv]
      rfl
    rw [hgm] at h0 ⊢
    obtain ⟨_, _, hmm⟩ := merg_ref hfac n1.1 n2.1
    by_cases hz : fitsI (e2.n * fac) = true ∧ fitsI (e.n + e2.n * fac) = true
    · rw [if_pos hz] at hmm
      rw [hmm, if_pos rfl]
      exact mk_n hfr ck (fitsI_iff.1 hz.2)
    · rw [if_neg hz] at hmm
      rw [hmm] at h0
      simp at h0
  · have hf0 := hf (by decide) (by decide) (by decide)
    simp [arrM, hf0] at harr
    obtain ⟨hc, gk⟩ := harr
    obtain ⟨i0, hce⟩ := one _ hc.symm
    rw [hce] at hfr hsc ⊢
    subst i0
    have hg : goesR ⟨10, at', nm, ot, fac, fd, fo, ba⟩ = [at'] := by simp [goesR]
    obtain ⟨e, h1, h2⟩ := src at' hf0 hsc
    obtain ⟨t1, _, _, t4⟩ := fits_t h2 (by omega)
    have gr := (fits_right h2).1
    have hv : valueM ⟨at', 2, ot, [], 0⟩ = ⟨at', 0, [ot]⟩ := by simp [valueM]
    refine ⟨⟨by simp, by omega, fun _ => ⟨e, by rw [hg]; exact h1, fun h => by simp at h, fun h => by simp at h⟩, fun h => by simp at h, fun h => by simp at h, fun _ => by rw [hv]⟩, fun _ => ?_⟩
    have : gotM ⟨10, at', nm, ot, fac, fd, fo, ba⟩ ⟨at', 2, ot, [], 0⟩ ((0 : Nat) : Int) es = (⟨at', 0, if 0 < (e.l.length : Int) then [e.l.getD (e.l.length - 1) []] else [ot]⟩, 0) := by
      unfold gotM
      rw [if_neg (by simp), hg]
      simp only [List.getD_cons_zero, h1]
      simp [fromM, hv]
    rw [this]
    by_cases h0 : 0 < (e.l.length : Int)
    · rw [if_pos h0]
      refine mk_t (f := ⟨at', 2, ot, [], 0⟩) hfr (by simp) (by simp) fun s hs => ?_
      rw [fitsF_text hfr (by simp) (by simp)]
      have hse := List.mem_singleton.1 hs
      have := t4 s (by rw [hse]; exact getD_mem (by omega))
      exact (fitsF_text gr (by omega) (by omega)).1 this
    · rw [if_neg h0, ← hv]
      exact value_fits hfr
/-- each field of the far side, read from a fitting run of entries -/
theorem one_ok {l m : List Fd} {x : Ln} {es : List En} {sc : Int} (ha : applyM l x = (m, 0)) (he : entriesB (scopeM l sc) es = true) {f : Fd} (hf : f ∈ scopeM m sc) : OneOk x es f ∧ ((oneM x es f).2 = 0 → fitsE f (oneM x es f).1 = true) := by
  obtain ⟨hfm, hfs⟩ := List.mem_filter.1 hf
  have hl := (apply_fwd ha).1
  have hfs : f.at'.sc = sc := by simpa using hfs
  unfold OneOk oneM
  rcases came ha hfm with ⟨hp, hfl⟩ | ⟨i, hp, hi1, cs, harr, hi, hc⟩
  · rw [if_pos hp, if_pos hp]
    obtain ⟨e, h1, h2⟩ := ent_of he (fun f hf g hg e => uniq_place hl (List.mem_filter.1 hf).1 (List.mem_filter.1 hg).1 e) (List.mem_filter.2 ⟨hfl, by simpa using hfs⟩)
    rw [h1]
    exact ⟨⟨e, rfl⟩, fun _ => h2⟩
  · rw [if_neg (by omega), if_neg (by omega), hp]
    subst hc
    exact got_ok ha he harr hi hi1 hfm hfs
/-- the far side's entries are right -/
theorem proj_fits {l m : List Fd} {x : Ln} {es : List En} {sc : Int} (ha : applyM l x = (m, 0)) (he : entriesB (scopeM l sc) es = true) (h0 : (projE x (scopeM m sc) es).2 = 0) : entriesB (scopeM m sc) (projE x (scopeM m sc) es).1 = true := by
  unfold projE at h0 ⊢
  cases hf : (scopeM m sc).find? (badOne x es) with
  | some f =>
    rw [hf] at h0
    have := List.find?_some hf
    unfold badOne at this
    simp only at h0
    rw [h0] at this
    simp at this
  | none =>
    simp only
    rw [List.find?_eq_none] at hf
    simp only [entriesB, List.length_map, decide_true, Bool.true_and, List.all_eq_true, List.mem_range]
    intro i hi
    have hmem := getD_mem (d := default) hi
    have hb := hf _ hmem
    have e0 : ((scopeM m sc).map fun f => (oneM x es f).1).getD i default = (oneM x es ((scopeM m sc).getD i default)).1 := by
      rw [getD_lt (by simpa using hi), getD_lt hi]; simp
    rw [e0]
    refine (one_ok ha he hmem).2 ?_
    unfold badOne at hb
    simpa using hb
/-- the far side's document is right -/
theorem over_right {l : List Fd} {x : Ln} {d : Dc} (h0 : (overP l x d).2 = 0) : rightD (applyM l x).1 (overP l x d).1 = true := by
  unfold overP at h0 ⊢
  by_cases hc : (applyM l x).2 = 0
  · rw [if_neg (fun h => h hc)] at h0 ⊢
    have ha : applyM l x = ((applyM l x).1, 0) := Prod.ext rfl hc
    generalize (applyM l x).1 = m at *
    cases hrd : rightD l d
    · rw [if_pos hrd] at h0; simp at h0
    · rw [if_neg (by simp [hrd])] at h0 ⊢
      obtain ⟨hl, hx, cs, l1, e1, e2, e3⟩ := apply_fwd ha
      obtain ⟨b1, _⟩ := come_fwd (go_fwd hl e2).1 e3
      simp only [rightD, headOk, Bool.and_eq_true, Bool.not_eq_true', decide_eq_false_iff_not, List.all_eq_true, List.mem_range] at hrd
      obtain ⟨⟨_, hn, he0⟩, hrows⟩ := hrd
      by_cases hh : (projE x (scopeM m 0) d.head).2 = 0
      · rw [if_neg (fun h => h hh)] at h0 ⊢
        cases hfd : d.rows.find? (badRow x (scopeM m 1)) with
        | some r =>
          rw [hfd] at h0
          have := List.find?_some hfd
          unfold badRow at this
          simp only at h0
          rw [h0] at this
          simp at this
        | none =>
          rw [List.find?_eq_none] at hfd
          simp only
          simp only [rightD, headOk, Bool.and_eq_true, Bool.not_eq_true', decide_eq_false_iff_not, List.all_eq_true, List.mem_range, List.length_map]
          refine ⟨⟨b1, hn, proj_fits ha he0 hh⟩, fun i hi => ?_⟩
          have hr := hrows i hi
          have gi : ∀ j, j < d.rows.length → (d.rows.map (newRow x (scopeM m 1))).getD j default = newRow x (scopeM m 1) (d.rows.getD j default) := fun j hj => by
            rw [getD_lt (by simpa using hj), getD_lt hj]; simp
          have hb := hfd _ (getD_mem (d := default) hi)
          unfold badRow at hb
          simp only [rowOk, Bool.and_eq_true] at hr ⊢
          rw [gi i hi, gi (i - 1) (by omega)]
          exact ⟨hr.1, proj_fits ha hr.2 (by simpa using hb)⟩
      · rw [if_pos hh] at h0
        exact absurd h0 hh
  · rw [if_pos hc] at h0
    exact absurd h0 hc
end Go.Proofs.Ytbojhapdidieoaa

set_option linter.unusedSimpArgs false
set_option linter.unusedVariables false
set_option linter.unusedSimpArgs false
set_option linter.unusedVariables false
namespace Go.Proofs.Ytbojhapdidieoaa
open Go.PL
def awF : List Fd := [⟨⟨1, [], [98, 111, 120]⟩, 1, [], [], 12⟩, ⟨⟨1, [], [117, 110, 105, 116]⟩, 1, [], [], 1⟩]
def awD : Dc := ⟨[], [⟨[112, 101, 97, 114], [⟨⟨1, [], [98, 111, 120]⟩, 2, []⟩, ⟨⟨1, [], [117, 110, 105, 116]⟩, 3, []⟩]⟩]⟩
def awE : Dc := ⟨[], [⟨[112, 101, 97, 114], [⟨⟨1, [], [113, 116, 121]⟩, 27, []⟩]⟩]⟩
theorem aw_over : overP awF awM awD = (awE, 0) := by decide +kernel
theorem aw_find : findM awE [112, 101, 97, 114] ⟨1, [], [113, 116, 121]⟩ = (⟨⟨1, [], [113, 116, 121]⟩, 27, []⟩, 0) := by decide +kernel
set_option maxRecDepth 20000 in
set_option maxHeartbeats 8000000 in
theorem awake24_pure : PL.Pure Try.prog 43 [] (.bool true) := by
  have e := maxLen_eq
  have h1 := POver_pure awF awM awD ⟨by decide, by decide⟩ ⟨by decide, by decide, by decide⟩ ⟨by decide, by decide, by decide, by decide⟩
  have h2 := Find_pure awE [112, 101, 97, 114] ⟨1, [], [113, 116, 121]⟩ (OkDc.fine ⟨by decide, by decide, by decide, by decide⟩) ⟨by decide, by decide⟩
  rw [aw_over] at h1
  rw [aw_find] at h2
  refine PL.Pure.of_v Try.func43 (by decide) rfl Try.ntmps43 Try.results43 (by simp) rfl ?_
  simp only [go_sem]
  refine vCall_of h1 ?_ ?_ ?_
  · simp only [go_sem]
  · rfl
  simp only [go_sem, docc, doc]
  refine vCall_of h2 ?_ ?_ ?_
  · simp only [go_sem, doc, ref]
  · simp only [go_sem, doc, ref]
  simp only [go_sem, entc, ent]
theorem heavyEs_len {l : List En} (h : heavyEs l = false) : l.length ≤ 40 ∧ ∀ e ∈ l, e.l.length ≤ 410 := by
  simp only [heavyEs, Bool.or_eq_false_iff, decide_eq_false_iff_not, List.any_eq_false] at h
  refine ⟨by omega, fun e he => ?_⟩
  have := h.2 e he
  simp [entH] at this
  omega
theorem okDcOfHeavy {d : Dc} (h : heavyD d = false) : OkDc d := by
  simp only [heavyD, Bool.or_eq_false_iff, decide_eq_false_iff_not, List.any_eq_false] at h
  obtain ⟨h1, h2, h4⟩ := h
  have h2 := heavyEs_len h2
  refine ⟨by omega, by omega, fun e he => by have := h2.2 e he; omega, fun r hr => ?_⟩
  have h3 := h4 r hr
  simp only [rowH, Bool.or_eq_true, not_or, Bool.not_eq_true] at h3
  have h5 := heavyEs_len h3.2
  exact ⟨by omega, fun e he => by have := h5.2 e he; omega⟩
theorem fits_len {f : Fd} {e : En} (h : fitsE f e = true) : e.l.length ≤ 400 := by
  by_cases k1 : f.kind = 1
  · rw [(fits_n h k1).2]; exact Nat.zero_le _
  · obtain ⟨_, h2, h3, _⟩ := fits_t h k1
    by_cases k4 : f.kind = 4
    · exact h3 k4
    · have := h2 k4; omega
theorem entries_len {L : List Fd} {es : List En} (h : entriesB L es = true) : es.length = L.length ∧ ∀ e ∈ es, e.l.length ≤ 400 := by
  simp only [entriesB, Bool.and_eq_true, decide_eq_true_eq, List.all_eq_true, List.mem_range] at h
  refine ⟨h.1.symm, fun e he => ?_⟩
  obtain ⟨i, hi, rfl⟩ := List.getElem_of_mem he
  have := h.2 i (by omega)
  rw [getD_lt hi] at this
  exact fits_len this
theorem okDcOfRight {m : List Fd} {d : Dc} (h : rightD m d = true) : OkDc d := by
  simp only [rightD, headOk, Bool.and_eq_true, Bool.not_eq_true', decide_eq_false_iff_not, List.all_eq_true, List.mem_range] at h
  obtain ⟨⟨h1, h2, h3⟩, h4⟩ := h
  have h16 := rightL_len h1
  have hs : ∀ sc, (scopeM m sc).length ≤ 16 := fun sc => Nat.le_trans (List.length_filter_le _ _) h16
  have e0 := entries_len h3
  refine ⟨by have := hs 0; omega, by omega, fun e he => by have := e0.2 e he; omega, fun r hr => ?_⟩
  obtain ⟨i, hi, rfl⟩ := List.getElem_of_mem hr
  have := h4 i hi
  simp only [rowOk, Bool.and_eq_true] at this
  have e1 := entries_len this.2
  rw [getD_lt hi] at e1
  exact ⟨by have := hs 1; omega, fun e he => by have := e1.2 e he; omega⟩
theorem okDcOver {l : List Fd} {x : Ln} {d : Dc} : OkDc (overP l x d).1 := by
  by_cases h : (overP l x d).2 = 0
  · exact okDcOfRight (over_right h)
  · have : (overP l x d).1 = default := by
      unfold overP at h ⊢
      split
      · rfl
      split
      · rfl
      split
      · rfl
      split
      · rfl
      · rename_i h1 h2 h3 _ h4
        exfalso
        apply h
        rw [if_neg h1, if_neg h2, if_neg h3, h4]
    rw [this]
    exact ⟨by decide, by decide, (fun e he => by cases he), (fun r hr => by cases hr)⟩
end Go.Proofs.Ytbojhapdidieoaa

set_option linter.unusedSimpArgs false
set_option linter.unusedVariables false
set_option linter.unusedSimpArgs false
set_option linter.unusedVariables false
namespace Go.Proofs.Ytbojhapdidieoaa
open Go.PL
theorem nes_at {l m : List Fd} {x : Ln} {es : List En} {sc : Int} (ha : applyM l x = (m, 0)) (he : entriesB (scopeM l sc) es = true) (h0 : (projE x (scopeM m sc) es).2 = 0) {f : Fd} (hf : f ∈ scopeM m sc) : entM (projE x (scopeM m sc) es).1 f.at' = some (oneM x es f).1 ∧ (oneM x es f).2 = 0 := by
  have hn := proj_fits ha he h0
  obtain ⟨hl, hx, cs, l1, e1, e2, e3⟩ := apply_fwd ha
  obtain ⟨b1, _⟩ := come_fwd (go_fwd hl e2).1 e3
  have hu : ∀ f ∈ scopeM m sc, ∀ g ∈ scopeM m sc, f.at' = g.at' → f = g := fun f hf g hg e => uniq_place b1 (List.mem_filter.1 hf).1 (List.mem_filter.1 hg).1 e
  obtain ⟨e', h1, h2⟩ := ent_of hn hu hf
  have hz : ∀ f ∈ scopeM m sc, (oneM x es f).2 = 0 := fun f hf => by
    unfold projE at h0
    cases hfd : (scopeM m sc).find? (badOne x es) with
    | some g =>
      rw [hfd] at h0
      have := List.find?_some hfd
      unfold badOne at this
      simp only at h0
      rw [h0] at this
      simp at this
    | none =>
      have := List.find?_eq_none.1 hfd f hf
      unfold badOne at this
      simpa using this
  have hmap : (projE x (scopeM m sc) es).1 = (scopeM m sc).map fun f => (oneM x es f).1 := by
    unfold projE
    cases hfd : (scopeM m sc).find? (badOne x es) with
    | some g =>
      have := List.find?_some hfd
      unfold badOne at this
      rw [hz g (List.mem_of_find?_eq_some hfd)] at this
      simp at this
    | none => rfl
  refine ⟨?_, hz f hf⟩
  rw [h1]
  have hmem : e' ∈ (projE x (scopeM m sc) es).1 := List.mem_of_find?_eq_some h1
  rw [hmap] at hmem
  obtain ⟨f', hf', hfe⟩ := List.mem_map.1 hmem
  have q1 := (fits_right ((one_ok ha he hf').2 (hz f' hf'))).2
  have q2 := (fits_right h2).2
  have : f' = f := hu _ hf' _ hf (by rw [← q1, hfe, q2])
  rw [← hfe, this]
theorem placeI_hit {l : List Rf} {r : Rf} {i : Nat} (hn : l.Nodup) (hi : i < l.length) (h : l.getD i default = r) : placeI l r = (i : Int) := by
  have hm : r ∈ l := by rw [← h]; exact getD_mem hi
  by_cases hp : placeI l r < 0
  · exact absurd hm (placeI_neg hp)
  · obtain ⟨j, h1, h2, h3⟩ := placeI_pos hp
    rw [h1]
    congr 1
    rw [getD_lt h2] at h3
    rw [getD_lt hi] at h
    have hpw := List.pairwise_iff_getElem.1 hn
    rcases Nat.lt_trichotomy j i with q | q | q
    · exact absurd (by rw [h3, h]) (hpw j i h2 hi q)
    · exact q
    · exact absurd (by rw [h3, h]) (hpw i j hi h2 q)
/-- the kinds that lead back -/
def Leads (x : Ln) : Prop := x.kind = 1 ∨ x.kind = 4 ∨ x.kind = 5 ∨ x.kind = 6 ∨ x.kind = 7 ∨ (x.kind = 8 ∧ keptM x x.at' = true)
theorem kept_round {x : Ln} (h8 : x.kind = 8) (h : keptM x x.at' = true) : roundM x.fo x.ba = true := by
  unfold keptM at h
  split at h
  · cases h
  · have hg : goesR x = [x.at'] := by unfold goesR; rw [if_neg (by omega), if_neg (by omega), if_neg (by omega)]
    rw [hg] at h
    have : ¬ idx (fun a => decide (x.at' = a)) [x.at'] < 0 := by simp [idx]
    rw [if_neg this, if_neg (by omega), if_neg (by omega)] at h
    simpa [h8] using h
set_option maxHeartbeats 4000000 in
theorem back_one {l m : List Fd} {x : Ln} {es : List En} {sc : Int} (ha : applyM l x = (m, 0)) (hk : Leads x) (he : entriesB (scopeM l sc) es = true) (h0 : (projE x (scopeM m sc) es).2 = 0) {g : Fd} {e : En} (hg : g ∈ scopeM l sc) (hge : entM es g.at' = some e) (hfe : fitsE g e = true) : oneM (invR x) (projE x (scopeM m sc) es).1 g = (e, 0) := by
  obtain ⟨hl, hx, cs, l1, e1, e2, e3⟩ := apply_fwd ha
  obtain ⟨a1, a2, a3, a4, a5⟩ := go_fwd hl e2
  obtain ⟨b1, b2, b3, b4, b5⟩ := come_fwd a1 e3
  obtain ⟨hgl, hgs⟩ := List.mem_filter.1 hg
  have hgs : g.at'.sc = sc := by simpa using hgs
  obtain ⟨i1, i2⟩ := inv_places hx
  have hpl := arr_places (rightLn_kind hx).1 e1
  have hnod : (comesR x).Nodup := by rw [← hpl]; exact b4
  have hat := (fits_right hfe).2
  have harr : ∀ i, i < cs.length → (cs.getD i default).at'.sc = sc → entM (projE x (scopeM m sc) es).1 ((comesR x).getD i default) = some (gotM x (cs.getD i default) (i : Int) es).1 := fun i hi hs => by
    have hm : cs.getD i default ∈ m := (b2 _).2 (.inr (getD_mem hi))
    have hat : (comesR x).getD i default = (cs.getD i default).at' := by
      rw [← hpl, getD_lt (l := cs.map (·.at')) (by simpa using hi), getD_lt hi]; simp
    have hsm : cs.getD i default ∈ scopeM m sc := List.mem_filter.2 ⟨hm, by simpa using hs⟩
    have hp : placeI (comesR x) (cs.getD i default).at' = (i : Int) := placeI_hit hnod (by rw [← hpl, List.length_map]; exact hi) hat
    have := (nes_at ha he h0 hsm).1
    rw [hat, this]
    unfold oneM
    rw [if_neg (by omega), hp]
  unfold oneM
  rw [i2]
  by_cases hp : placeI (goesR x) g.at' < 0
  · rw [if_pos hp]
    have hl1 : g ∈ l1 := (a2 g).2 ⟨hgl, placeI_neg hp⟩
    have hgm : g ∈ scopeM m sc := List.mem_filter.2 ⟨(b2 g).2 (.inl hl1), by simpa using hgs⟩
    have hnc : placeI (comesR x) g.at' < 0 := by
      by_cases h : placeI (comesR x) g.at' < 0
      · exact h
      · exfalso
        obtain ⟨j, _, q2, q3⟩ := placeI_pos h
        have hj : j < cs.length := by rw [← hpl, List.length_map] at q2; exact q2
        rw [← hpl, getD_lt (l := cs.map (·.at')) (by simpa using hj)] at q3
        simp only [List.getElem_map] at q3
        exact (b3 _ (List.getElem_mem hj)).2 g hl1 q3.symm
    have hone : oneM x es g = (e, 0) := by unfold oneM; rw [if_pos hnc, hge]
    have := (nes_at ha he h0 hgm).1
    rw [this, hone]
  · rw [if_neg hp]
    have hgx : goesR x = [x.at'] := by
      unfold Leads at hk
      unfold goesR; rw [if_neg (by omega), if_neg (by omega), if_neg (by omega)]
    rw [hgx] at hp ⊢
    have hga : g.at' = x.at' := (placeI_one hp).symm
    have hp0 : placeI [x.at'] g.at' = 0 := by rw [hga]; exact placeI_self _ _
    rw [hp0]
    have hfg : findF l x.at' = (g, 0) := by rw [← hga]; exact find_mem (right_iff.1 hl).2.1 hgl
    have hxe : entM es x.at' = some e := by rw [← hga]; exact hge
    have hxs : x.at'.sc = sc := by rw [← hga]; exact hgs
    generalize (projE x (scopeM m sc) es).1 = nes at *
    clear a1 a2 a3 a4 a5 b1 b2 b3 b4 b5 h0 he ha e2 e3 hpl hnod i1 i2 hp hp0
    obtain ⟨kind, at', nm, ot, fac, fd, fo, ba⟩ := x
    unfold Leads at hk
    simp only at hk hga hfg hxe hxs
    subst hga
    obtain ⟨eat, en, el⟩ := e
    simp only at hat
    subst hat
    have mv : ∀ c : Rf, (comesR ⟨kind, g.at', nm, ot, fac, fd, fo, ba⟩) = [c] → (kind = 1 ∨ kind = 4 ∨ kind = 5) → arrM l ⟨kind, g.at', nm, ot, fac, fd, fo, ba⟩ = ([⟨c, g.kind, g.df, g.cases', g.worth⟩], true) → c.sc = sc →
        entM nes c = some ⟨c, en, el⟩ := fun c hc hk3 harm hcs => by
      rw [harm] at e1
      simp only [Prod.mk.injEq, and_true] at e1
      subst e1
      have := harr 0 (by simp) hcs
      rw [hc] at this
      simp only [List.getD_cons_zero] at this
      rw [this]
      unfold gotM
      rw [if_neg (by simp only; omega), hgx]
      simp only [List.getD_cons_zero, hxe]
      rw [if_neg (by omega)]
      unfold fromM
      simp only
      rw [if_neg (by omega), if_neg (by omega), if_neg (by omega), if_neg (by omega), if_neg (by omega)]
    have hkk : kind = 1 ∨ kind = 4 ∨ kind = 5 ∨ kind = 6 ∨ kind = 7 ∨ kind = 8 := by omega
    rcases hkk with rfl | rfl | rfl | rfl | rfl | rfl
    · have hc : comesR ⟨1, g.at', nm, ot, fac, fd, fo, ba⟩ = [named g.at' nm] := by simp [comesR]
      have hen := mv _ hc (by omega) (by simp [arrM, comesR, hfg]) hxs
      simp [gotM, invR, goesR, fromM]
      rw [show (⟨g.at'.sc, g.at'.gr, nm⟩ : Rf) = named g.at' nm from rfl, hen]
    · have hc : comesR ⟨4, g.at', nm, ot, fac, fd, fo, ba⟩ = [⟨g.at'.sc, [], g.at'.nm⟩] := by simp [comesR]
      have hen := mv _ hc (by omega) (by simp [arrM, comesR, hfg]) hxs
      simp [gotM, invR, goesR, fromM]
      rw [hen]
    · have hc : comesR ⟨5, g.at', nm, ot, fac, fd, fo, ba⟩ = [⟨g.at'.sc, nm, g.at'.nm⟩] := by simp [comesR]
      have hen := mv _ hc (by omega) (by simp [arrM, comesR, hfg]) hxs
      simp [gotM, invR, goesR, fromM]
      rw [hen]
    · simp [arrM, hfg] at e1
      obtain ⟨hc, gk⟩ := e1
      have hn := fits_n hfe gk
      simp only at hn
      obtain ⟨hn1, rfl⟩ := hn
      subst hc
      have c1 := harr 0 (by simp) hxs
      have c2 := harr 1 (by simp) hxs
      have hcm : comesR ⟨6, g.at', nm, ot, fac, fd, fo, ba⟩ = [named g.at' nm, named g.at' ot] := by simp [comesR]
      rw [hcm] at c1 c2
      simp [gotM, goesR, hxe, fromM, valueM] at c1 c2
      have hfac : 2 ≤ fac ∧ fac ≤ 1000 := by
        have hxx := hx
        unfold rightLn at hxx
        simp [-Bool.not_eq_eq_eq_not] at hxx
        omega
      have hm := (merg_ref (u := en) (p := 0) hfac hn1 ⟨by omega, by omega⟩).2.2
      rw [Int.zero_mul, Int.add_zero, if_pos ⟨by decide, fitsI_iff.2 hn1⟩] at hm
      simp [gotM, invR, goesR, c1, c2, hm, valueM, gk]
    · simp [arrM, hfg] at e1
      obtain ⟨hc, gk, gd⟩ := e1
      obtain ⟨t1, t2, _, t4⟩ := fits_t hfe (by omega)
      simp only at t1 t2 t4
      subst t1
      have tl := t2 (by omega)
      obtain ⟨s, rfl⟩ : ∃ s, el = [s] := by
        match el, tl with
        | [s], _ => exact ⟨s, rfl⟩
      subst hc
      have c1 := harr 0 (by simp) hxs
      have hcm : comesR ⟨7, g.at', nm, ot, fac, fd, fo, ba⟩ = [g.at'] := by simp [comesR]
      rw [hcm] at c1
      simp [gotM, goesR, hxe, fromM] at c1
      simp [gotM, invR, goesR, c1, fromM]
      by_cases hs : s = ot
      · simp [hs, valueM, gk, gd]
      · simp [hs]
    · simp [arrM, hfg] at e1
      obtain ⟨hc, gv⟩ := e1
      have gk : g.kind = 3 := by rw [gv]
      have gc : g.cases' = fromsM fo := by rw [gv]
      obtain ⟨t1, t2, _, t4⟩ := fits_t hfe (by omega)
      simp only at t1 t2 t4
      subst t1
      have tl := t2 (by omega)
      obtain ⟨s, rfl⟩ : ∃ s, el = [s] := by
        match el, tl with
        | [s], _ => exact ⟨s, rfl⟩
      have hsf := t4 s (by simp)
      simp only [fitsF, gk, if_true, Bool.and_eq_true, gc] at hsf
      have hfo : hasFr fo s = true := by rw [← froms_has]; exact hsf.2
      have hrd : roundM fo ba = true := kept_round (x := ⟨8, g.at', nm, ot, fac, fd, fo, ba⟩) rfl (by simpa using hk)
      have hra := (round_at hrd hfo).2
      subst hc
      have c1 := harr 0 (by simp) hxs
      have hcm : comesR ⟨8, g.at', nm, ot, fac, fd, fo, ba⟩ = [g.at'] := by simp [comesR]
      rw [hcm] at c1
      simp [gotM, goesR, hxe, fromM] at c1
      simp [gotM, invR, goesR, c1, fromM, hra]
end Go.Proofs.Ytbojhapdidieoaa

set_option linter.unusedSimpArgs false
set_option linter.unusedVariables false
set_option linter.unusedSimpArgs false
set_option linter.unusedVariables false
namespace Go.Proofs.Ytbojhapdidieoaa
open Go.PL
theorem ent_nth {l : List Fd} {es : List En} {sc : Int} (hl : rightL l = true) (he : entriesB (scopeM l sc) es = true) {i : Nat} (hi : i < (scopeM l sc).length) : entM es ((scopeM l sc).getD i default).at' = some (es.getD i default) ∧ fitsE ((scopeM l sc).getD i default) (es.getD i default) = true := by
  have hr := (right_iff.1 hl).2.1
  have hrs : Rise (scopeM l sc) := List.Pairwise.filter _ hr
  have h := he
  simp only [entriesB, Bool.and_eq_true, decide_eq_true_eq, List.all_eq_true, List.mem_range] at h
  obtain ⟨hlen, hall⟩ := h
  refine ⟨?_, hall i hi⟩
  have hpw := List.pairwise_iff_getElem.1 hrs
  refine find_found (by omega) (fun j hj => ?_) ?_
  · have hjL : j < (scopeM l sc).length := by omega
    have hlt := hpw j i hjL hi hj
    have q := (fits_right (hall j hjL)).2
    unfold isAt
    rw [q, decide_eq_false_iff_not]
    intro hc
    have := rise_at hrs (getD_mem (d := default) hjL) (getD_mem (d := default) hi) hc
    rw [getD_lt hjL, getD_lt hi] at this
    rw [this, lb_irrefl] at hlt
    cases hlt
  · unfold isAt
    rw [(fits_right (hall i hi)).2]
    simp
theorem proj_back {l m : List Fd} {x : Ln} {es : List En} {sc : Int} (ha : applyM l x = (m, 0)) (hk : Leads x) (he : entriesB (scopeM l sc) es = true) (h0 : (projE x (scopeM m sc) es).2 = 0) : projE (invR x) (scopeM l sc) (projE x (scopeM m sc) es).1 = (es, 0) := by
  have hl := (apply_fwd ha).1
  have hone : ∀ i, i < (scopeM l sc).length → oneM (invR x) (projE x (scopeM m sc) es).1 ((scopeM l sc).getD i default) = (es.getD i default, 0) := fun i hi => by
    obtain ⟨h1, h2⟩ := ent_nth hl he hi
    exact back_one ha hk he h0 (getD_mem hi) h1 h2
  have hlen : (scopeM l sc).length = es.length := by
    simp only [entriesB, Bool.and_eq_true, decide_eq_true_eq] at he
    exact he.1
  generalize (projE x (scopeM m sc) es).1 = nes at *
  unfold projE
  have hn : (scopeM l sc).find? (badOne (invR x) nes) = none := find_none (d := default) fun j hj => by
    unfold badOne
    rw [hone j hj]; rfl
  rw [hn]
  refine Prod.ext ?_ rfl
  simp only
  refine List.ext_getElem (by rw [List.length_map]; exact hlen) fun i h1 h2 => ?_
  have hi : i < (scopeM l sc).length := by rw [List.length_map] at h1; exact h1
  have := hone i hi
  rw [getD_lt hi, getD_lt h2] at this
  rw [List.getElem_map, this]
theorem over_zero' {l : List Fd} {x : Ln} {d : Dc} (h : (overP l x d).2 = 0) : (applyM l x).2 = 0 ∧ rightD l d = true := by
  unfold overP at h
  split at h
  · rename_i hn; exact absurd h hn
  split at h
  · simp at h
  · rename_i h1 h2
    exact ⟨by simpa using h1, by simpa using h2⟩
theorem leads_le {x : Ln} (h : Leads x) : x.kind ≤ 8 := by unfold Leads at h; omega
theorem over_val {l : List Fd} {x : Ln} {d : Dc} (h0 : (overP l x d).2 = 0) : overP l x d = (⟨(projE x (scopeM (applyM l x).1 0) d.head).1, d.rows.map (newRow x (scopeM (applyM l x).1 1))⟩, 0) ∧ (projE x (scopeM (applyM l x).1 0) d.head).2 = 0 ∧ ∀ r ∈ d.rows, (projE x (scopeM (applyM l x).1 1) r.l).2 = 0 := by
  obtain ⟨hc, hrd⟩ := over_zero' h0
  unfold overP at h0 ⊢
  rw [if_neg (fun h => h hc), if_neg (by rw [hrd]; simp)] at h0 ⊢
  generalize (applyM l x).1 = m at *
  by_cases hh : (projE x (scopeM m 0) d.head).2 = 0
  · rw [if_neg (fun h => h hh)] at h0 ⊢
    cases hfd : d.rows.find? (badRow x (scopeM m 1)) with
    | some r =>
      rw [hfd] at h0
      have := List.find?_some hfd
      unfold badRow at this
      simp only at h0
      rw [h0] at this
      simp at this
    | none =>
      refine ⟨rfl, hh, fun r hr => ?_⟩
      have hb := List.find?_eq_none.1 hfd _ hr
      unfold badRow at hb
      simpa using hb
  · rw [if_pos hh] at h0
    exact absurd h0 hh
/-- over, and back by the lens that leads back -/
theorem over_back {l : List Fd} {x : Ln} {d : Dc} (hk : Leads x) (h0 : (overP l x d).2 = 0) : overP (applyM l x).1 (invR x) (overP l x d).1 = (d, 0) := by
  have hright := over_right h0
  obtain ⟨hc, hrd⟩ := over_zero' h0
  obtain ⟨hv, hh, hrr⟩ := over_val h0
  have ha : applyM l x = ((applyM l x).1, 0) := Prod.ext rfl hc
  have hb := apply_inv (leads_le hk) ha
  simp only [rightD, headOk, Bool.and_eq_true, List.all_eq_true, List.mem_range] at hrd
  obtain ⟨⟨_, _, he0⟩, hrows⟩ := hrd
  rw [hv] at hright ⊢
  clear hv h0
  generalize (applyM l x).1 = m at *
  simp only at hright ⊢
  unfold overP
  rw [hb]
  simp only
  rw [if_neg (by simp), hright, if_neg (by simp)]
  rw [proj_back ha hk he0 hh]
  simp only
  rw [if_neg (by simp)]
  have hrow : ∀ i, i < d.rows.length → projE (invR x) (scopeM l 1) (projE x (scopeM m 1) (d.rows.getD i default).l).1 = ((d.rows.getD i default).l, 0) := fun i hi => by
    have hr := hrows i hi
    simp only [rowOk, Bool.and_eq_true] at hr
    exact proj_back ha hk hr.2 (hrr _ (getD_mem (d := default) hi))
  have hn : (d.rows.map (newRow x (scopeM m 1))).find? (badRow (invR x) (scopeM l 1)) = none := by
    rw [List.find?_eq_none]
    intro r hr
    obtain ⟨r0, hr0, rfl⟩ := List.mem_map.1 hr
    obtain ⟨i, hi, rfl⟩ := List.getElem_of_mem hr0
    have := hrow i hi
    rw [getD_lt hi] at this
    unfold badRow newRow
    simp only
    rw [this]
    simp
  rw [hn]
  simp only
  obtain ⟨hd0, rws⟩ := d
  simp only at hrow ⊢
  refine Prod.ext ?_ rfl
  simp only [Dc.mk.injEq, true_and]
  refine List.ext_getElem (by simp) fun i h1 h2 => ?_
  have := hrow i h2
  rw [getD_lt h2] at this
  simp only [List.getElem_map, newRow]
  rw [this]
end Go.Proofs.Ytbojhapdidieoaa
