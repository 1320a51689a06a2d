/- Contracts of functions and laws of this seat, each for every input that it names: lemmas of the proof. -/
import Derived.Test.YtnadlkjmdimjkaaGreatXDk
import Derived.Test.YtnadlkjmdimjkaaGreatXCt
import Derived.Test.YtnadlkjmdimjkaaGreatXCl
import Derived.Test.YtnadlkjmdimjkaaGreatXBk
set_option linter.unusedSimpArgs false
set_option linter.unusedVariables false
set_option linter.unusedSimpArgs false
set_option linter.unusedVariables false
namespace Go.Proofs.YtnadlkjmdimjkaaGreat
open Go.PL
/-- the entry of a place, over a lens that moves or converts it -/
def convM (x : Ln) (r : Rf) (e : En) : En :=
  if r ∈ goesR x then (if x.kind = 8 then ⟨(traceM x r).1, 0, [(caseM x.fo (e.l.getD 0 [])).1]⟩ else ⟨(traceM x r).1, e.n, e.l⟩) else e
def GoodX (x : Ln) (r : Rf) : Prop := r ∈ goesR x → x.kind = 1 ∨ x.kind = 4 ∨ x.kind = 5 ∨ (x.kind = 8 ∧ roundM x.fo x.ba = true)
def GoodL : List Ln → Rf → Prop
  | [], _ => True
  | x :: xs, r => GoodX x r ∧ GoodL xs (traceM x r).1
def convL : List Ln → Rf → En → En
  | [], _, e => e
  | x :: xs, r, e => convL xs (traceM x r).1 (convM x r e)
def FitX (x : Ln) (r : Rf) (e : En) : Prop := e.at' = r ∧ (r ∈ goesR x → x.kind = 8 → e.n = 0 ∧ ∃ s, e.l = [s] ∧ hasFr x.fo s = true)
def FitL : List Ln → Rf → En → Prop
  | [], _, _ => True
  | x :: xs, r, e => FitX x r e ∧ FitL xs (traceM x r).1 (convM x r e)
theorem good_comes {x : Ln} {r : Rf} (hx : rightLn x = true) (h : r ∈ goesR x) (hk : x.kind = 1 ∨ x.kind = 4 ∨ x.kind = 5 ∨ x.kind = 8) : r = x.at' ∧ goesR x = [x.at'] ∧ ∃ c, comesR x = [c] ∧ traceM x r = (c, true) ∧ c.sc = r.sc := by
  have hg : goesR x = [x.at'] := by unfold goesR; rw [if_neg (by omega), if_neg (by omega), if_neg (by omega)]
  have hr : r = x.at' := by rw [hg] at h; exact List.mem_singleton.1 h
  refine ⟨hr, hg, ?_⟩
  rw [trace_go hx h]
  subst hr
  rcases hk with k | k | k | k
  · exact ⟨named x.at' x.nm, by simp [comesR, k], by simp [comesR, k], rfl⟩
  · exact ⟨⟨x.at'.sc, [], x.at'.nm⟩, by simp [comesR, k], by simp [comesR, k], rfl⟩
  · exact ⟨⟨x.at'.sc, x.nm, x.at'.nm⟩, by simp [comesR, k], by simp [comesR, k], rfl⟩
  · exact ⟨x.at', by simp [comesR, k], by simp [comesR, k], rfl⟩
theorem scope_uniq {l : List Fd} (hl : rightL l = true) (sc : Int) : ∀ f ∈ scopeM l sc, ∀ g ∈ scopeM l sc, f.at' = g.at' → f = g := fun f hf g hg e => uniq_place hl (List.mem_filter.1 hf).1 (List.mem_filter.1 hg).1 e
theorem in_scope {l : List Fd} {sc : Int} {f : Fd} (hf : f ∈ l) (h : f.at'.sc = sc) : f ∈ scopeM l sc := List.mem_filter.2 ⟨hf, by simpa using h⟩
theorem of_scope {l : List Fd} {sc : Int} {f : Fd} (h : f ∈ scopeM l sc) : f ∈ l ∧ f.at'.sc = sc := by
  obtain ⟨h1, h2⟩ := List.mem_filter.1 h
  exact ⟨h1, by simpa using h2⟩
theorem joinI_zero {f : Int} (h : 2 ≤ f ∧ f ≤ 1000) : joinI 0 0 f = (0, 0) := by
  have ms := mostOf_spec (w := f) (by omega)
  have hw : IntKind.i64.wrap (0 + IntKind.i64.wrap 0) = 0 := by decide
  have hf : fitsI 0 = true := by decide
  unfold joinI
  rw [if_neg (fun g => g h), if_neg (by omega), Int.mul_zero, hw, if_pos hf]
theorem merg_zero {f : Int} (h : 2 ≤ f ∧ f ≤ 1000) : mergI 0 0 f = (0, 0) := by
  have h0 : fitsI 0 = true := by decide
  have hj := joinI_zero h
  unfold mergI
  rw [if_pos ⟨h0, h0⟩, hj]
  rfl
/-- the counters that stem from no field of the first schema are 0 -/
def Zero (l : List Fd) (sc : Int) (es : List En) (R : Rf → Prop) : Prop := ∀ f ∈ scopeM l sc, ¬ R f.at' → f.kind = 1 → ∀ e, entM es f.at' = some e → e.n = 0
theorem merge_src {l m : List Fd} {x : Ln} {es : List En} {sc : Int} {R : Rf → Prop} (ha : applyM l x = (m, 0)) (hg : ∀ r, R r → GoodX x r) (hz : Zero l sc es R) (h9 : x.kind = 9) (hsc : x.at'.sc = sc) :
    (∀ e, entM es ((goesR x).getD 0 default) = some e → e.n = 0) ∧ (∀ e, entM es ((goesR x).getD 1 default) = some e → e.n = 0) := by
  have hgo : goesR x = [named x.at' x.nm, named x.at' x.ot] := by simp [goesR, h9]
  have zero : ∀ r, r ∈ goesR x → r.sc = sc → (∃ g ∈ l, g.at' = r ∧ g.kind = 1) → ∀ e, entM es r = some e → e.n = 0 := fun r hr hs ⟨g, hgl, hga, hgk⟩ e hee => by
    subst hga
    refine hz g (in_scope hgl hs) (fun hR => ?_) hgk e hee
    have := hg _ hR hr
    omega
  obtain ⟨_, hx, cs, l1, e1, _, _⟩ := apply_fwd ha
  have e1' : mergedM l x = (cs, true) := by
    unfold arrM at e1
    rw [if_neg (by omega), if_neg (by omega), if_pos h9] at e1
    exact e1
  unfold mergedM at e1'
  split at e1'
  · simp at e1'
  split at e1'
  · simp at e1'
  · rename_i u1 u2
    simp only [not_or, Decidable.not_not] at u1 u2
    have z1 := find_zero u1.1
    have z2 := find_zero u2.1
    rw [hgo]
    simp only [List.getD_cons_zero, List.getD_cons_succ]
    rw [hgo] at zero
    exact ⟨zero _ (by simp) hsc ⟨_, z1.1, z1.2, u1.2⟩, zero _ (by simp) hsc ⟨_, z2.1, z2.2, u2.2.1⟩⟩
theorem step_one {l m : List Fd} {x : Ln} {es : List En} {sc : Int} {R : Rf → Prop} (ha : applyM l x = (m, 0)) (he : entriesB (scopeM l sc) es = true) (hg : ∀ r, R r → GoodX x r) (hz : Zero l sc es R) {f : Fd} (hf : f ∈ scopeM m sc) : (oneM x es f).2 = 0 := by
  have ok := (one_ok ha he hf).1
  have hl := (apply_fwd ha).1
  unfold OneOk at ok
  unfold oneM
  by_cases hp : placeI (comesR x) f.at' < 0
  · rw [if_pos hp] at ok ⊢
    obtain ⟨e, h⟩ := ok
    rw [h]
  · rw [if_neg hp] at ok ⊢
    obtain ⟨h3, hi, q1, q2, _, _⟩ := ok
    unfold gotM
    by_cases h2 : x.kind = 2 ∨ (x.kind = 6 ∧ 0 < placeI (comesR x) f.at')
    · rw [if_pos h2]
    · rw [if_neg h2]
      obtain ⟨e, he1, _, _⟩ := q1 (fun h => h2 (.inl h))
      rw [he1]
      simp only
      by_cases h9 : x.kind = 9
      · rw [if_pos h9]
        obtain ⟨⟨e2, he2, _⟩, hf1, hf2⟩ := q2 h9
        rw [he2]
        simp only
        have hc : comesR x = [x.at'] := by simp [comesR, h9]
        have hfa : f.at' = x.at' := by
          rw [hc] at hp
          exact (placeI_one hp).symm
        have hsc : x.at'.sc = sc := by rw [← hfa]; exact (of_scope hf).2
        obtain ⟨m1, m2⟩ := merge_src ha hg hz h9 hsc
        rw [m1 e he1, m2 e2 he2, merg_zero ⟨hf1, hf2⟩]
        rfl
      · rw [if_neg h9]
theorem step_zero {l m : List Fd} {x : Ln} {es : List En} {sc : Int} {R : Rf → Prop} (ha : applyM l x = (m, 0)) (he : entriesB (scopeM l sc) es = true) (hg : ∀ r, R r → GoodX x r) (hz : Zero l sc es R) : (projE x (scopeM m sc) es).2 = 0 := by
  unfold projE
  have : (scopeM m sc).find? (badOne x es) = none := by
    rw [List.find?_eq_none]
    intro f hf
    unfold badOne
    rw [step_one ha he hg hz hf]
    simp
  rw [this]
/-- what a place's entry becomes -/
theorem step_val {l m : List Fd} {x : Ln} {es : List En} {sc : Int} (ha : applyM l x = (m, 0)) (he : entriesB (scopeM l sc) es = true) (h0 : (projE x (scopeM m sc) es).2 = 0) {g : Fd} {e : En} (hgl : g ∈ scopeM l sc) (hgd : GoodX x g.at') (hge : entM es g.at' = some e) :
    FitX x g.at' e ∧ (traceM x g.at').2 = true ∧ ∃ f ∈ scopeM m sc, f.at' = (traceM x g.at').1 ∧ f.kind = g.kind ∧ entM (projE x (scopeM m sc) es).1 f.at' = some (convM x g.at' e) := by
  obtain ⟨hl, hx, cs, l1, e1, e2, e3⟩ := apply_fwd ha
  obtain ⟨a1, a2, a3, a4, a5⟩ := go_fwd hl e2
  obtain ⟨b1, b2, b3, b4, b5⟩ := come_fwd a1 e3
  obtain ⟨hgm, hgs⟩ := of_scope hgl
  obtain ⟨e', h1, h2⟩ := ent_of he (scope_uniq hl sc) hgl
  rw [hge] at h1
  cases h1
  have hat := (fits_right h2).2
  have hpl := arr_places (rightLn_kind hx).1 e1
  by_cases hin : g.at' ∈ goesR x
  · have hk := hgd hin
    have hk' : x.kind = 1 ∨ x.kind = 4 ∨ x.kind = 5 ∨ x.kind = 8 := by omega
    obtain ⟨r1, r2, c, hc, ht, hcs⟩ := good_comes hx hin hk'
    have hfg : findF l x.at' = (g, 0) := by rw [← r1]; exact find_mem (right_iff.1 hl).2.1 hgm
    have hxe : entM es x.at' = some e := by rw [← r1]; exact hge
    have arr : ∃ f, cs = [f] ∧ f.at' = c ∧ f.kind = g.kind := by
      have hlen : cs.length = 1 := by
        have := congrArg List.length hpl
        rw [List.length_map, hc] at this
        exact this
      match cs, hlen with
      | [f], _ =>
        refine ⟨f, rfl, by simpa [hc] using hpl, ?_⟩
        rcases hk' with k | k | k | k
        · simp [arrM, k, hfg] at e1; rw [← e1]
        · simp [arrM, k, hfg] at e1; rw [← e1]
        · simp [arrM, k, hfg] at e1; rw [← e1]
        · simp [arrM, k, hfg] at e1; rw [← e1.1, e1.2]
    obtain ⟨f, hcsf, hfc, hfk⟩ := arr
    have hfm : f ∈ m := (b2 f).2 (.inr (by rw [hcsf]; simp))
    have hfs : f ∈ scopeM m sc := in_scope hfm (by rw [hfc, hcs]; exact hgs)
    have hnes := (nes_at ha he h0 hfs).1
    have hone : (oneM x es f).1 = convM x g.at' e := by
      unfold oneM
      rw [hc, hfc, placeI_self, if_neg (by omega)]
      unfold gotM
      rw [if_neg (by omega), r2]
      simp only [List.getD_cons_zero, hxe]
      rw [if_neg (by omega)]
      unfold fromM convM
      rw [if_neg (by omega), if_neg (by omega), if_neg (by omega), if_pos hin, ht]
      by_cases h8 : x.kind = 8
      · rw [if_pos h8, if_pos h8, hfc]
        have hk3 : g.kind = 3 := by simp [arrM, h8, hfg] at e1; rw [e1.2]
        obtain ⟨t1, t2, _, _⟩ := fits_t h2 (by omega)
        rw [if_pos (by rw [t2 (by omega)]; decide)]
      · rw [if_neg h8, if_neg h8, if_neg (by omega), hfc]
    refine ⟨⟨hat, fun _ h8 => ?_⟩, by rw [ht], f, hfs, by rw [ht, hfc], hfk, by rw [hnes, hone]⟩
    have hgv : g = ⟨x.at', 3, x.nm, fromsM x.fo, 0⟩ := by simp [arrM, h8, hfg] at e1; exact e1.2
    have hk3 : g.kind = 3 := by rw [hgv]
    obtain ⟨t1, t2, _, t4⟩ := fits_t h2 (by omega)
    have tl := t2 (by omega)
    refine ⟨t1, ?_⟩
    obtain ⟨eat, en, el⟩ := e
    simp only at t1 tl t4 ⊢
    match el, tl with
    | [s], _ =>
      refine ⟨s, rfl, ?_⟩
      have := t4 s (by simp)
      simp only [fitsF, hk3, if_true, Bool.and_eq_true] at this
      rw [← froms_has]
      have h2 := this.2
      rw [hgv] at h2
      exact h2
  · have ht := trace_stay hx hin
    have hl1 : g ∈ l1 := (a2 g).2 ⟨hgm, hin⟩
    have hgm2 : g ∈ scopeM m sc := in_scope ((b2 g).2 (.inl hl1)) hgs
    have hnc : placeI (comesR x) g.at' < 0 := by
      by_cases h : placeI (comesR x) g.at' < 0
      · exact h
      · exfalso
        obtain ⟨j, _, q2, q3⟩ := placeI_pos h
        have hm : g.at' ∈ cs.map (·.at') := by rw [hpl, ← q3]; exact getD_mem q2
        obtain ⟨c, hc1, hc2⟩ := List.mem_map.1 hm
        exact (b3 c hc1).2 g hl1 hc2.symm
    have hnes := (nes_at ha he h0 hgm2).1
    have hone : (oneM x es g).1 = convM x g.at' e := by
      unfold oneM convM
      rw [if_pos hnc, hge, if_neg hin]
    exact ⟨⟨hat, fun h => absurd h hin⟩, by rw [ht], g, hgm2, by rw [ht], rfl, by rw [hnes, hone]⟩
end Go.Proofs.YtnadlkjmdimjkaaGreat

set_option linter.unusedSimpArgs false
set_option linter.unusedVariables false
set_option linter.unusedSimpArgs false
set_option linter.unusedVariables false
namespace Go.Proofs.YtnadlkjmdimjkaaGreat
open Go.PL
/-- what stems from no field of the first schema stays 0 -/
theorem step_keep {l m : List Fd} {x : Ln} {es : List En} {sc : Int} {R : Rf → Prop} (ha : applyM l x = (m, 0)) (he : entriesB (scopeM l sc) es = true) (hg : ∀ r, R r → GoodX x r) (hz : Zero l sc es R) (h0 : (projE x (scopeM m sc) es).2 = 0) :
    Zero m sc (projE x (scopeM m sc) es).1 (fun s => ∃ r, R r ∧ s = (traceM x r).1) := by
  intro f hf hnR hk e' hee
  obtain ⟨hfm, hfs⟩ := of_scope hf
  have hn := (nes_at ha he h0 hf).1
  rw [hn] at hee
  simp only [Option.some.injEq] at hee
  subst hee
  have ok := (one_ok ha he hf).1
  obtain ⟨hl, hx, cs, l1, e1, e2, e3⟩ := apply_fwd ha
  obtain ⟨a1, a2, a3, a4, a5⟩ := go_fwd hl e2
  obtain ⟨b1, b2, b3, b4, b5⟩ := come_fwd a1 e3
  have hkd := (rightLn_kind hx).1
  have hpl := arr_places hkd e1
  have at_src : ∀ (g : Fd), findF l x.at' = (g, 0) → g.kind = 1 → x.at'.sc = sc → ¬ R x.at' → ∀ e, entM es x.at' = some e → e.n = 0 := fun g hfg hgk hs hnr e hee => by
    have hz0 := find_zero (l := l) (r := x.at') (by rw [hfg])
    rw [hfg] at hz0
    simp only at hz0
    refine hz g (in_scope hz0.1 (by rw [hz0.2]; exact hs)) (by rw [hz0.2]; exact hnr) hgk e (by rw [hz0.2]; exact hee)
  unfold OneOk at ok
  unfold oneM
  by_cases hp : placeI (comesR x) f.at' < 0
  · rw [if_pos hp] at ok ⊢
    obtain ⟨e, h⟩ := ok
    rw [h]
    simp only
    have hl1 : f ∈ l1 := by
      rcases (b2 f).1 hfm with h | h
      · exact h
      · exact absurd (by rw [← hpl]; exact List.mem_map.2 ⟨f, h, rfl⟩) (placeI_neg hp)
    obtain ⟨hfl, hfg⟩ := (a2 f).1 hl1
    exact hz f (in_scope hfl hfs) (fun hR => hnR ⟨f.at', hR, by rw [trace_stay hx hfg]⟩) hk e h
  · rw [if_neg hp] at ok ⊢
    obtain ⟨h3, hi, q1, q2, _, _⟩ := ok
    rcases came ha hfm with ⟨hp', _⟩ | ⟨i, hpi, hi1, cs', harr, hil, hc⟩
    · exact absurd hp' hp
    rw [e1] at harr
    simp only [Prod.mk.injEq, and_true] at harr
    subst harr
    rw [hpi]
    unfold gotM
    by_cases h2 : x.kind = 2 ∨ (x.kind = 6 ∧ 0 < (i : Int))
    · rw [if_pos h2]; rfl
    · rw [if_neg h2]
      obtain ⟨e, he1, _, _⟩ := q1 (fun h => h2 (.inl h))
      rw [he1]
      simp only
      by_cases h9 : x.kind = 9
      · rw [if_pos h9]
        obtain ⟨⟨e2', he2, _⟩, hf1, hf2⟩ := q2 h9
        rw [he2]
        simp only
        have hcm : comesR x = [x.at'] := by simp [comesR, h9]
        have hfa : f.at' = x.at' := by
          rw [hcm] at hp
          exact (placeI_one hp).symm
        obtain ⟨m1, m2⟩ := merge_src ha hg hz h9 (by rw [← hfa]; exact hfs)
        rw [m1 e he1, m2 e2' he2, merg_zero ⟨hf1, hf2⟩]
        rfl
      · rw [if_neg h9]
        simp only
        have hgo : goesR x = [x.at'] := by unfold goesR; rw [if_neg (by omega), if_neg h3, if_neg h9]
        rw [hgo] at he1
        simp only [List.getD_cons_zero] at he1
        unfold fromM
        by_cases h6 : x.kind = 6
        · rw [if_pos h6]
          simp only
          simp only [arrM, h6, Int.reduceEq, if_false, if_true] at e1
          split at e1
          · simp at e1
          · rename_i hfz
            simp only [Prod.mk.injEq, decide_eq_true_eq] at e1
            have hfz := Classical.not_not.1 hfz
            have hcm : comesR x = [named x.at' x.nm, named x.at' x.ot] := by simp [comesR, h6]
            have hs : x.at'.sc = sc := by
              rw [← hfs, ← hc, ← e1.1]
              have : i = 0 := by omega
              subst this
              rfl
            refine at_src _ (Prod.ext rfl hfz) e1.2 hs (fun hR => ?_) e he1
            have := hg _ hR (by rw [hgo]; simp)
            omega
        · rw [if_neg h6]
          by_cases h7 : x.kind = 7
          · rw [if_pos h7]
          rw [if_neg h7]
          by_cases h10 : x.kind = 10
          · rw [if_pos h10]
          rw [if_neg h10]
          by_cases h8 : x.kind = 8
          · rw [if_pos h8]
          rw [if_neg h8, if_neg h3]
          simp only
          have hk3 : x.kind = 1 ∨ x.kind = 4 ∨ x.kind = 5 := by
            rcases hkd with k | k | k | k | k | k | k | k | k | k
            · exact .inl k
            · exact absurd (.inl k) h2
            · exact absurd k h3
            · exact .inr (.inl k)
            · exact .inr (.inr k)
            · exact absurd k h6
            · exact absurd k h7
            · exact absurd k h8
            · exact absurd k h9
            · exact absurd k h10
          obtain ⟨_, _, c, hcm, ht, hcs⟩ := good_comes (r := x.at') hx (by rw [hgo]; simp) (by omega)
          have hfc : f.at' = c := by
            rw [hcm] at hp
            exact (placeI_one hp).symm
          have harr : (findF l x.at').2 = 0 ∧ f.kind = (findF l x.at').1.kind := by
            have e1' := e1
            unfold arrM at e1'
            rw [if_neg (by omega), if_neg (by omega), if_neg h9] at e1'
            split at e1'
            · simp at e1'
            · rename_i hfz
              simp only [Prod.mk.injEq, and_true] at e1'
              refine ⟨Classical.not_not.1 hfz, ?_⟩
              rw [← e1'] at hil hc
              have : i = 0 := by simpa using hil
              subst this
              rw [← hc]
              rfl
          exact at_src _ (Prod.ext rfl harr.1) (by rw [← harr.2]; exact hk) (by rw [← hcs, ← hfc]; exact hfs) (fun hR => hnR ⟨x.at', hR, by rw [ht, hfc]⟩) e he1
def projL (sc : Int) : List Ln → List Fd → List En → List En × Int
  | [], _, es => (es, 0)
  | x :: xs, l, es => if (projE x (scopeM (applyM l x).1 sc) es).2 ≠ 0 then ([], (projE x (scopeM (applyM l x).1 sc) es).2) else projL sc xs (applyM l x).1 (projE x (scopeM (applyM l x).1 sc) es).1
theorem projL_cons (sc : Int) (x : Ln) (xs : List Ln) (l : List Fd) (es : List En) : projL sc (x :: xs) l es = if (projE x (scopeM (applyM l x).1 sc) es).2 ≠ 0 then ([], (projE x (scopeM (applyM l x).1 sc) es).2) else projL sc xs (applyM l x).1 (projE x (scopeM (applyM l x).1 sc) es).1 := rfl
/-- over a row: nothing fails, and what the places' entries become -/
theorem fwd (sc : Int) : ∀ (xs : List Ln) {l m : List Fd} {es : List En} {R : Rf → Prop}, foldL xs l = some m → rightL l = true → entriesB (scopeM l sc) es = true → (∀ r, R r → ∃ g ∈ scopeM l sc, g.at' = r) → (∀ r, R r → GoodL xs r) → Zero l sc es R →
    (projL sc xs l es).2 = 0 ∧ entriesB (scopeM m sc) (projL sc xs l es).1 = true ∧ ∀ g ∈ scopeM l sc, R g.at' → ∀ e, entM es g.at' = some e → FitL xs g.at' e ∧ ∃ f ∈ scopeM m sc, f.at' = (traceL xs g.at').1 ∧ entM (projL sc xs l es).1 f.at' = some (convL xs g.at' e)
  | [], l, m, es, R, hf, hl, he, hR, hgd, hz => by
    simp only [foldL, Option.some.injEq] at hf
    subst hf
    exact ⟨rfl, he, fun g hg _ e hee => ⟨trivial, g, hg, rfl, hee⟩⟩
  | x :: xs, l, m, es, R, hf, hl, he, hR, hgd, hz => by
    unfold foldL at hf
    split at hf
    · cases hf
    · rename_i hnz
      have ha : applyM l x = ((applyM l x).1, 0) := Prod.ext rfl (Classical.not_not.1 hnz)
      have hg : ∀ r, R r → GoodX x r := fun r hr => (hgd r hr).1
      have h0 := step_zero ha he hg hz
      have he1 := proj_fits ha he h0
      have hz1 := step_keep ha he hg hz h0
      have hl1 : rightL (applyM l x).1 = true := by
        obtain ⟨hl, hx, cs, l1, e1, e2, e3⟩ := apply_fwd ha
        exact (come_fwd (go_fwd hl e2).1 e3).1
      have val : ∀ g ∈ scopeM l sc, R g.at' → ∀ e, entM es g.at' = some e → _ := fun g hgl hr e hee => step_val ha he h0 hgl (hg _ hr) hee
      obtain ⟨i1, i2, i3⟩ := fwd sc xs (R := fun s => ∃ r, R r ∧ s = (traceM x r).1) hf hl1 he1 (fun s ⟨r, hr, hs⟩ => by
        obtain ⟨g, hgl, rfl⟩ := hR r hr
        obtain ⟨e, hee, _⟩ := ent_of he (scope_uniq hl sc) hgl
        obtain ⟨_, _, f, hf1, hf2, _⟩ := val g hgl hr e hee
        exact ⟨f, hf1, by rw [hf2, hs]⟩) (fun s ⟨r, hr, hs⟩ => by rw [hs]; exact (hgd r hr).2) hz1
      rw [projL_cons, if_neg (by rw [h0]; simp)]
      refine ⟨i1, i2, fun g hgl hr e hee => ?_⟩
      obtain ⟨v1, v2, f, hf1, hf2, _, hf4⟩ := val g hgl hr e hee
      obtain ⟨j1, f2, k1, k2, k3⟩ := i3 f hf1 ⟨g.at', hr, hf2⟩ _ hf4
      rw [hf2] at j1 k2 k3
      refine ⟨⟨v1, j1⟩, f2, k1, ?_, k3⟩
      rw [traceL_cons, if_neg (by rw [v2]; simp)]
      exact k2
end Go.Proofs.YtnadlkjmdimjkaaGreat

set_option linter.unusedSimpArgs false
set_option linter.unusedVariables false
set_option linter.unusedSimpArgs false
set_option linter.unusedVariables false
namespace Go.Proofs.YtnadlkjmdimjkaaGreat
open Go.PL
theorem over_of {l m : List Fd} {x : Ln} {d : Dc} (ha : applyM l x = (m, 0)) (hd : rightD l d = true) (h0 : (projE x (scopeM m 0) d.head).2 = 0) (h1 : ∀ r ∈ d.rows, (projE x (scopeM m 1) r.l).2 = 0) :
    overP l x d = (⟨(projE x (scopeM m 0) d.head).1, d.rows.map (newRow x (scopeM m 1))⟩, 0) := by
  unfold overP
  rw [ha]
  simp only
  rw [if_neg (by simp), if_neg (by rw [hd]; simp), if_neg (by rw [h0]; simp)]
  have : d.rows.find? (badRow x (scopeM m 1)) = none := by
    rw [List.find?_eq_none]
    intro r hr
    unfold badRow
    rw [h1 r hr]
    simp
  rw [this]
/-- a document over a row, run by run -/
theorem toL_proj : ∀ (xs : List Ln) {l m : List Fd} {d : Dc}, foldL xs l = some m → rightD l d = true → (projL 0 xs l d.head).2 = 0 → (∀ r ∈ d.rows, (projL 1 xs l r.l).2 = 0) → toL xs l d = (⟨(projL 0 xs l d.head).1, d.rows.map fun r => ⟨r.item, (projL 1 xs l r.l).1⟩⟩, 0)
  | [], l, m, d, _, _, _, _ => by
    simp [toL, projL]
  | x :: xs, l, m, d, hf, hd, h0, h1 => by
    unfold foldL at hf
    split at hf
    · cases hf
    · rename_i hnz
      have ha : applyM l x = ((applyM l x).1, 0) := Prod.ext rfl (Classical.not_not.1 hnz)
      rw [projL_cons] at h0
      have z0 : (projE x (scopeM (applyM l x).1 0) d.head).2 = 0 := by
        refine Classical.byContradiction fun h => ?_
        rw [if_pos h] at h0
        exact h h0
      have z1 : ∀ r ∈ d.rows, (projE x (scopeM (applyM l x).1 1) r.l).2 = 0 := fun r hr => by
        have := h1 r hr
        rw [projL_cons] at this
        refine Classical.byContradiction fun h => ?_
        rw [if_pos h] at this
        exact h this
      rw [if_neg (by rw [z0]; simp)] at h0
      have ho := over_of ha hd z0 z1
      have hr := over_right (l := l) (x := x) (d := d) (by rw [ho])
      rw [toL_cons, if_neg (by rw [ho]; simp)]
      rw [ho] at hr ⊢
      rw [toL_proj xs hf hr h0 (fun r hr => by
        obtain ⟨r0, hr0, rfl⟩ := List.mem_map.1 hr
        have := h1 r0 hr0
        rw [projL_cons, if_neg (by rw [z1 r0 hr0]; simp)] at this
        exact this)]
      rw [projL_cons, if_neg (by rw [z0]; simp)]
      simp only [List.map_map]
      congr 2
      apply List.map_congr_left
      intro r hr
      simp only [Function.comp_apply, newRow]
      rw [projL_cons, if_neg (by rw [z1 r hr]; simp)]
theorem convL_app : ∀ (xs ys : List Ln) (r : Rf) (e : En), (traceL xs r).2 = true → convL (xs ++ ys) r e = convL ys (traceL xs r).1 (convL xs r e)
  | [], ys, r, e, _ => rfl
  | x :: xs, ys, r, e, h => by
    rw [traceL_cons] at h
    split at h
    · cases h
    · rename_i hz
      show convL (xs ++ ys) (traceM x r).1 (convM x r e) = _
      rw [convL_app xs ys _ _ h]
      have : traceL (x :: xs) r = traceL xs (traceM x r).1 := by rw [traceL_cons, if_neg hz]
      rw [this]
      rfl
/-- a lens and the one that leads back, where a place is kept -/
theorem conv_inv {x : Ln} {r : Rf} {e : En} (hx : rightLn x = true) (hc : r ∉ goesR x → r ∉ comesR x) (hg : GoodX x r) (hf : FitX x r e) : convM (invR x) (traceM x r).1 (convM x r e) = e := by
  obtain ⟨i1, i2⟩ := inv_places hx
  obtain ⟨eat, en, el⟩ := e
  obtain ⟨hat, h8⟩ := hf
  simp only at hat
  subst hat
  by_cases hin : eat ∈ goesR x
  · have hk := hg hin
    have hk' : x.kind = 1 ∨ x.kind = 4 ∨ x.kind = 5 ∨ x.kind = 8 := by omega
    obtain ⟨r1, r2, c, hcm, ht, hcs⟩ := good_comes hx hin hk'
    have hci : c ∈ goesR (invR x) := by rw [i1, hcm]; simp
    have hy := right_inv hx (rightLn_kind hx).1
    have hti : traceM (invR x) c = (eat, true) := by
      rw [trace_go hy hci, i2, r2, r1]
      simp
    unfold convM
    rw [if_pos hin, ht]
    simp only
    rw [if_pos hci, hti]
    simp only
    by_cases hk8 : x.kind = 8
    · have hik : (invR x).kind = 8 := by unfold invR; rw [if_neg (by omega), if_neg (by omega), if_neg (by omega), if_neg (by omega), if_neg (by omega), if_neg (by omega), if_neg (by omega), if_neg (by omega), if_neg (by omega), if_pos hk8]
      have hif : (invR x).fo = x.ba := by unfold invR; rw [if_neg (by omega), if_neg (by omega), if_neg (by omega), if_neg (by omega), if_neg (by omega), if_neg (by omega), if_neg (by omega), if_neg (by omega), if_neg (by omega), if_pos hk8]
      obtain ⟨h1, s, h2, h3⟩ := h8 hin hk8
      simp only at h1 h2
      subst h1 h2
      have hrd : roundM x.fo x.ba = true := by
        rcases hk with k | k | k | ⟨_, k⟩
        · omega
        · omega
        · omega
        · exact k
      rw [if_pos hk8, if_pos hik, hif]
      simp only [List.getD_cons_zero]
      rw [(round_at hrd h3).2]
    · have hik : (invR x).kind ≠ 8 := by
        unfold invR
        rcases hk' with k | k | k | k
        · rw [if_pos k]; simp
        · rw [if_neg (by omega), if_neg (by omega), if_neg (by omega), if_pos k]; simp
        · rw [if_neg (by omega), if_neg (by omega), if_neg (by omega), if_neg (by omega), if_pos k]; simp
        · exact absurd k hk8
      rw [if_neg hk8, if_neg hik]
  · have ht := trace_stay hx hin
    unfold convM
    rw [if_neg hin, ht]
    simp only
    rw [if_neg (by rw [i1]; exact hc hin)]
/-- over a row and back a place's entry is what it was -/
theorem conv_round : ∀ (xs : List Ln) {l m : List Fd} {r : Rf} {e : En}, foldL xs l = some m → (∀ x ∈ xs, rightLn x = true) → On l r → GoodL xs r → FitL xs r e → (traceL xs r).2 = true →
    traceL (xs.map invR).reverse (traceL xs r).1 = (r, true) ∧ convL (xs.map invR).reverse (traceL xs r).1 (convL xs r e) = e
  | [], l, m, r, e, _, _, _, _, _, _ => ⟨rfl, rfl⟩
  | x :: xs, l, m, r, e, hf, hxs, hon, hg, hft, ht => by
    unfold foldL at hf
    split at hf
    · cases hf
    · rename_i hnz
      have ha : applyM l x = ((applyM l x).1, 0) := Prod.ext rfl (Classical.not_not.1 hnz)
      have hx := hxs x (by simp)
      rw [traceL_cons] at ht ⊢
      split at ht
      · cases ht
      · rename_i hz
        rw [if_neg hz]
        have hz' : (traceM x r).2 = true := by simpa using hz
        obtain ⟨hl, _, cs, l1, e1, e2, e3⟩ := apply_fwd ha
        obtain ⟨a1, a2, a3, a4, a5⟩ := go_fwd hl e2
        obtain ⟨b1, b2, b3, b4, b5⟩ := come_fwd a1 e3
        have hpl := arr_places (rightLn_kind hx).1 e1
        have hnc : r ∉ goesR x → r ∉ comesR x := fun hn hc => by
          obtain ⟨f, hfm, hfr⟩ := hon
          rw [← hpl] at hc
          obtain ⟨c, hc1, hc2⟩ := List.mem_map.1 hc
          exact (b3 c hc1).2 f ((a2 f).2 ⟨hfm, by rw [hfr]; exact hn⟩) (by rw [hfr, hc2])
        have on1 : On (applyM l x).1 (traceM x r).1 := by
          by_cases hin : r ∈ goesR x
          · have htg := trace_go hx hin
            have hlen : 0 < (comesR x).length := by
              refine Classical.byContradiction fun h => ?_
              rw [htg, if_pos (by omega)] at hz'
              cases hz'
            rw [htg, if_neg (by omega)]
            have hm : (comesR x).getD 0 default ∈ cs.map (·.at') := by rw [hpl]; exact getD_mem hlen
            obtain ⟨c, hc1, hc2⟩ := List.mem_map.1 hm
            exact ⟨c, (b2 c).2 (.inr hc1), hc2⟩
          · rw [trace_stay hx hin]
            obtain ⟨f, hfm, hfr⟩ := hon
            exact ⟨f, (b2 f).2 (.inl ((a2 f).2 ⟨hfm, by rw [hfr]; exact hin⟩)), hfr⟩
        obtain ⟨i1, i2⟩ := conv_round xs hf (fun y hy => hxs y (by simp [hy])) on1 hg.2 hft.2 ht
        obtain ⟨p1, p2⟩ := inv_places hx
        have hy := right_inv hx (rightLn_kind hx).1
        have hback : traceM (invR x) (traceM x r).1 = (r, true) := by
          by_cases hin : r ∈ goesR x
          · have hk := hg.1 hin
            obtain ⟨r1, r2, c, hcm, htc, hcs⟩ := good_comes hx hin (by omega)
            rw [htc]
            simp only
            rw [trace_go hy (by rw [p1, hcm]; simp), p2, r2, r1]
            simp
          · rw [trace_stay hx hin]
            exact trace_stay hy (by rw [p1]; exact hnc hin)
        rw [List.map_cons, List.reverse_cons]
        refine ⟨?_, ?_⟩
        · rw [traceL_append, i1, if_neg (by simp), traceL_cons, hback]
          simp [traceL]
        · have hxx : convL (x :: xs) r e = convL xs (traceM x r).1 (convM x r e) := rfl
          rw [hxx, convL_app _ _ _ _ (by rw [i1]), i1, i2]
          exact conv_inv hx hnc hg.1 hft.1
end Go.Proofs.YtnadlkjmdimjkaaGreat

set_option linter.unusedSimpArgs false
set_option linter.unusedVariables false
set_option linter.unusedSimpArgs false
set_option linter.unusedVariables false
namespace Go.Proofs.YtnadlkjmdimjkaaGreat
open Go.PL
end Go.Proofs.YtnadlkjmdimjkaaGreat

set_option linter.unusedSimpArgs false
set_option linter.unusedVariables false
set_option linter.unusedSimpArgs false
set_option linter.unusedVariables false
namespace Go.Proofs.YtnadlkjmdimjkaaGreat
open Go.PL
structure LnS (l : List Ft) where
  k : Nat
  id : Nat
  hk : k ≤ l.length
  hid : id = 35 ∨ id = 45 ∨ id = 55 ∨ id = 62 ∨ id = 69 ∨ id = 76 ∨ id = 83
end Go.Proofs.YtnadlkjmdimjkaaGreat

set_option linter.unusedSimpArgs false
set_option linter.unusedVariables false
set_option linter.unusedSimpArgs false
set_option linter.unusedVariables false
namespace Go.Proofs.YtnadlkjmdimjkaaGreat
open Go.PL
def twA : Eg := ⟨⟨1, 1⟩, default, ⟨6, ⟨1, [], [113, 116, 121]⟩, [117, 110, 105, 116], [98, 111, 120], 12, default, [], []⟩⟩
def twB : Eg := ⟨⟨1, 2⟩, default, ⟨1, ⟨1, [], [110, 111, 116, 101]⟩, [109, 101, 109, 111], [], 0, default, [], []⟩⟩
theorem okTwA : OkLn twA.ln := ⟨by decide, by decide, by decide⟩
theorem okTwB : OkLn twB.ln := ⟨by decide, by decide, by decide⟩
theorem putTA : putM [] twA = ([twA], 0) := by decide +kernel
theorem putTB : putM [twA] twB = ([twA, twB], 0) := by decide +kernel
theorem okTA : OkM [twA] := by have := okPut okM_nil (e := twA) okTwA; rw [putTA] at this; exact this
theorem okTB : OkM [twA, twB] := by have := okPut okTA (e := twB) okTwB; rw [putTB] at this; exact this
theorem rightTB : RightM [twA, twB] := by
  have := rightGrown [twA, twB] right_nil
  have e : List.foldl (fun m e => (putM m e).1) [] [twA, twB] = [twA, twB] := by
    simp only [List.foldl_cons, List.foldl_nil, putTA, putTB]
  rwa [e] at this
theorem fatesTC : (fatesM [twA, twB] default ⟨1, 1⟩).2 = 0 ∧ (fatesM [twA, twB] default ⟨1, 1⟩).1.length = 11 ∧ ((fatesM [twA, twB] default ⟨1, 1⟩).1.getD 2 default).k = 1 ∧ ((fatesM [twA, twB] default ⟨1, 1⟩).1.getD 5 default).k = 4 ∧ ((fatesM [twA, twB] default ⟨1, 1⟩).1.getD 6 default).k = 6 ∧ ((fatesM [twA, twB] default ⟨1, 1⟩).1.getD 10 default).k = 5 := by decide +kernel
theorem twinsTB : pathC [twA, twB] default ⟨1, 2⟩ = 0 ∧ twinsM [twA, twB] default ⟨1, 2⟩ = true := by decide +kernel
theorem nomap_ftsc (x : List Ft × Int) : (ftsc x).nomap = true := by simp only [ftsc, fts, PV.nomap, PV.nomapL, nomapL_map ft (fun _ => rfl), Bool.and_self]
set_option maxRecDepth 20000 in
set_option maxHeartbeats 16000000 in
theorem awake39_pure : PL.Pure Tryz.prog 11 [] (.bool true) := by
  have h1 := put_wr [] twA okM_nil okTwA
  have h2 := put_wr [twA] twB okTA okTwB
  have hF := LFates_pure [twA, twB] default ⟨1, 1⟩ okTB rightTB
  have hT := LTwins_pure [twA, twB] default ⟨1, 2⟩ okTB rightTB
  obtain ⟨f1, f2, f3, f4, f5, f6⟩ := fatesTC
  obtain ⟨t1, t2⟩ := twinsTB
  rw [putTA] at h1
  rw [putTB] at h2
  have hn := nomap_ftsc (fatesM [twA, twB] default ⟨1, 1⟩)
  have e : twinsc [twA, twB] default ⟨1, 2⟩ = .tup [.bool true, .int .i64 0] := by unfold twinsc; rw [t1, t2]; rfl
  rw [e] at hT
  generalize fatesM [twA, twB] default ⟨1, 1⟩ = y at *
  obtain ⟨l, c⟩ := y
  simp only at f1 f2 f3 f4 f5 f6
  subst f1
  have g2 := getD_ft (l := l) (i := 2) (by omega)
  have g5 := getD_ft (l := l) (i := 5) (by omega)
  have g6 := getD_ft (l := l) (i := 6) (by omega)
  have g10 := getD_ft (l := l) (i := 10) (by omega)
  refine PL.Pure.of_vs Tryz.func11 (by decide) rfl Tryz.ntmps11 Tryz.results11 (by simp) rfl ?_
  simp only [go_sem]
  refine vCall_mk mk_new ?_ ?_ (fun b hb => ?_)
  · simp only [go_sem]
  · simp only [go_sem]
  simp only [go_sem]
  refine vCall_wr b h1 ?_ ?_ ?_ ?_
  · simp only [go_sem]
  · simp only [go_sem]
    rfl
  · simp [upd]; rfl
  simp only [go_sem]
  refine vCall_wr b h2 ?_ ?_ ?_ ?_
  · simp only [go_sem]
  · simp only [go_sem]
    rfl
  · simp [upd]
  simp only [go_sem]
  refine vCall_sl hF hn ?_ ?_ ?_
  · simp only [go_sem]
  · simp only [go_sem, mc]
    rfl
  simp only [go_sem, ftsc, fts]
  refine vCall_sl hT rfl ?_ ?_ ?_
  · simp only [go_sem]
  · simp only [go_sem, mc]
    rfl
  simp only [go_sem, List.length_map, f2, g2, g5, g6, g10, ft, f3, f4, f5, f6]
  exact ⟨_, rfl, rfl⟩
end Go.Proofs.YtnadlkjmdimjkaaGreat
