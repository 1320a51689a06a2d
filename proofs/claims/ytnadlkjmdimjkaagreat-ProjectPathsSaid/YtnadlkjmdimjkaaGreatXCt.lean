/- Contracts of functions and laws of this seat, each for every input that it names: lemmas of the proof. -/
import Derived.Test.YtnadlkjmdimjkaaGreatXCs
import Derived.Test.YtnadlkjmdimjkaaGreatXBy
set_option linter.unusedSimpArgs false
set_option linter.unusedVariables false
set_option linter.unusedSimpArgs false
set_option linter.unusedVariables false
namespace Go.Proofs.YtnadlkjmdimjkaaGreat
open Go.PL
set_option maxHeartbeats 4000000 in
theorem RValue_pure (f : Fd) : PL.Pure Tryz.prog 231 [fld f] (ent (valueM f)) := by
  by_cases h1 : f.kind = 1
  · have k1 : (f.kind == 1) = true := by rw [h1]; rfl
    refine PL.Pure.of_v Tryz.func231 (by decide) rfl Tryz.ntmps231 Tryz.results231 (by simp) (ent_dids _) ?_
    simp only [go_sem, fld, k1, valueM, ent, h1, true_or, if_true, List.map_nil]
  · have k1 : (f.kind == 1) = false := beq_eq_false_iff_ne.2 h1
    by_cases h4 : f.kind = 4
    · have k4 : (f.kind == 4) = true := by rw [h4]; rfl
      refine PL.Pure.of_v Tryz.func231 (by decide) rfl Tryz.ntmps231 Tryz.results231 (by simp) (ent_dids _) ?_
      simp only [go_sem, fld, k1, k4, valueM, ent, h4, or_true, if_true, List.map_nil]
    · have k4 : (f.kind == 4) = false := beq_eq_false_iff_ne.2 h4
      refine PL.Pure.of_v Tryz.func231 (by decide) rfl Tryz.ntmps231 Tryz.results231 (by simp) (ent_dids _) ?_
      simp only [go_sem, fld, k1, k4, valueM, ent, h1, h4, or_self, if_false, List.map_cons, List.map_nil]
/-- joined by the reference's road -/
theorem merg_ref {u p f : Int} (hf : 2 ≤ f ∧ f ≤ 1000) (hu : Lim u) (hp : Lim p) : IntKind.i64.wrap (p * f) = p * f ∧ IntKind.i64.wrap (u + IntKind.i64.wrap (p * f)) = u + p * f ∧ mergI u p f = if fitsI (p * f) = true ∧ fitsI (u + p * f) = true then (u + p * f, 0) else (0, 3) := by
  have m := mostOf_spec (w := f) (by omega)
  unfold Lim at hu hp
  have b1 : -4503599627370496000 ≤ p * f ∧ p * f ≤ 4503599627370496000 := by
    have p1 : p * f ≤ 4503599627370496 * f := Int.mul_le_mul_of_nonneg_right hp.2 (by omega)
    have p2 : (-4503599627370496) * f ≤ p * f := Int.mul_le_mul_of_nonneg_right hp.1 (by omega)
    omega
  have c : f * p = p * f := Int.mul_comm _ _
  have w1 : IntKind.i64.wrap (p * f) = p * f := wrap_id (by omega)
  have w2 : IntKind.i64.wrap (u + IntKind.i64.wrap (p * f)) = u + p * f := by rw [w1]; exact wrap_id (by omega)
  refine ⟨w1, w2, ?_⟩
  have hj : joinI u p f = if p < - mostOf f ∨ mostOf f < p then (0, 3) else if fitsI (u + p * f) = true then (u + p * f, 0) else (0, 3) := by
    unfold joinI
    rw [if_neg (fun h => h hf), c, w2]
  unfold mergI
  rw [if_pos ⟨fitsI_iff.2 hu, fitsI_iff.2 hp⟩, hj]
  by_cases h1 : p < - mostOf f ∨ mostOf f < p
  · have hn : ¬ fitsI (p * f) = true := fun h => by
      rw [fitsI_iff] at h
      unfold Lim at h
      rcases h1 with h1 | h1
      · have p1 : p * f ≤ (- mostOf f - 1) * f := Int.mul_le_mul_of_nonneg_right (by omega) (by omega)
        have e1 : (- mostOf f - 1) * f = - ((mostOf f + 1) * f) := by rw [← Int.neg_mul]; congr 1; omega
        omega
      · have p1 : (mostOf f + 1) * f ≤ p * f := Int.mul_le_mul_of_nonneg_right (by omega) (by omega)
        omega
    rw [if_pos h1]
    simp [hn]
  · have hy : fitsI (p * f) = true := by
      rw [fitsI_iff]
      unfold Lim
      have p1 : p * f ≤ mostOf f * f := Int.mul_le_mul_of_nonneg_right (by omega) (by omega)
      have p2 : (- mostOf f) * f ≤ p * f := Int.mul_le_mul_of_nonneg_right (by omega) (by omega)
      have e1 : (- mostOf f) * f = - (mostOf f * f) := Int.neg_mul _ _
      omega
    rw [if_neg h1]
    by_cases h2 : fitsI (u + p * f) = true
    · simp [hy, h2]
    · simp [h2]
structure GotOk (x : Ln) (f : Fd) (i : Int) (es : List En) : Prop where
  h3 : x.kind ≠ 3
  hi : 0 ≤ i ∧ i ≤ 1
  e1 : x.kind ≠ 2 → ∃ e, entM es ((goesR x).getD 0 default) = some e ∧ ((x.kind = 7 ∨ x.kind = 8) → 0 < e.l.length) ∧ (x.kind = 9 → Lim e.n)
  e2 : x.kind = 9 → (∃ e, entM es ((goesR x).getD 1 default) = some e ∧ Lim e.n) ∧ 2 ≤ x.fac ∧ x.fac ≤ 1000
  v1 : x.kind = 6 ∨ x.kind = 9 → (valueM f).l = []
  v10 : x.kind = 10 → (valueM f).l = [x.ot]
def enb (y : En × Int) : PV := .tup [ent (if y.2 = 0 then y.1 else default), .bool (y.2 == 0)]
theorem enb_dids (y : En × Int) : (enb y).dids = [] := by simp only [enb, PV.dids, PV.didsL, ent_dids, List.append_nil]
set_option maxRecDepth 20000 in
set_option maxHeartbeats 32000000 in
theorem come_pure (x : Ln) (f : Fd) (i : Int) (es : List En) (hx : OkLn x) (hr : rightLn x = true) (hl : es.length ≤ maxLen) (hl' : ∀ e ∈ es, e.l.length ≤ 1000000) (ok : GotOk x f i es) : PL.Pure Tryz.prog 206 [lns x, fld f, .int .i64 i, ents es] (enb (gotM x f i es)) := by
  have hV := RValue_pure f
  have hG := RGoes_pure x
  have hk := (rightLn_kind hr).1
  have hE := fun r => Rentry_pure es r hl
  have hfo : x.fo.length ≤ maxLen := by have := hx.f; rw [maxLen_eq]; omega
  have hv1 := value_at f
  have hv2 := value_n f
  obtain ⟨o3, oi, oe1, oe2, ov1, ov10⟩ := ok
  unfold gotM
  have hmem : ∀ r e, entM es r = some e → e.l.length ≤ 1000000 := fun r e h => hl' e (List.mem_of_find?_eq_some h)
  obtain ⟨kind, at', nm, ot, fac, fd, fo, ba⟩ := x
  simp only at hk hfo o3 oe1 oe2 ov1 ov10 ⊢
  clear hr hx hl'
  generalize hvm : valueM f = v at *
  obtain ⟨vat, vn, vl⟩ := v
  simp only at hv1 hv2 ov1 ov10 ⊢
  subst hv1 hv2
  have hkind : kind = 1 ∨ kind = 2 ∨ kind = 3 ∨ kind = 4 ∨ kind = 5 ∨ kind = 6 ∨ kind = 7 ∨ kind = 8 ∨ kind = 9 ∨ kind = 10 := by omega
  rcases hkind with rfl | rfl | rfl | rfl | rfl | rfl | rfl | rfl | rfl | rfl
  ·
    have hg : goesR ⟨1, at', nm, ot, fac, fd, fo, ba⟩ = [at'] := by simp [goesR]
    rw [hg] at hG oe1 ⊢
    rw [if_neg (fun h => by rcases h with h | ⟨h, _⟩ <;> exact absurd h (by decide))]
    obtain ⟨e, he, he1, he2⟩ := oe1 (by decide)
    have hE0 := hE at'
    simp only [List.getD_cons_zero, List.getD_cons_succ] at he ⊢
    rw [he] at hE0 ⊢
    have hel := hmem _ e he
    simp only
    refine PL.Pure.of_v Tryz.func206 (by decide) rfl Tryz.ntmps206 Tryz.results206 (by simp) (enb_dids _) ?_
    simp only [go_sem, lns, fld]
    refine vCall_of (hG) ?_ ?_ ?_; (focus simp only [go_sem, lns]); (focus simp only [go_sem, lns])
    simp only [go_sem, refs, ref, List.map_cons, List.map_nil]
    refine vCall_of (hE0) ?_ ?_ ?_; (focus simp only [go_sem, ents, ref]); (focus simp only [go_sem, ents, ref])
    simp only [go_sem, eptc, Option.getD_some, Option.isSome_some, ent, enb, fromM, hvm, if_true]
  ·
    have hg : goesR ⟨2, at', nm, ot, fac, fd, fo, ba⟩ = [] := by simp [goesR]
    rw [if_pos (.inl rfl)]
    refine PL.Pure.of_v Tryz.func206 (by decide) rfl Tryz.ntmps206 Tryz.results206 (by simp) (enb_dids _) ?_
    simp only [go_sem, lns, fld]
    refine vCall_of (hV) ?_ ?_ ?_; (focus simp only [go_sem, fld]); (focus simp only [go_sem, fld])
    simp only [go_sem, enb, ent, if_true]
  ·
    exact absurd rfl o3
  ·
    have hg : goesR ⟨4, at', nm, ot, fac, fd, fo, ba⟩ = [at'] := by simp [goesR]
    rw [hg] at hG oe1 ⊢
    rw [if_neg (fun h => by rcases h with h | ⟨h, _⟩ <;> exact absurd h (by decide))]
    obtain ⟨e, he, he1, he2⟩ := oe1 (by decide)
    have hE0 := hE at'
    simp only [List.getD_cons_zero, List.getD_cons_succ] at he ⊢
    rw [he] at hE0 ⊢
    have hel := hmem _ e he
    simp only
    refine PL.Pure.of_v Tryz.func206 (by decide) rfl Tryz.ntmps206 Tryz.results206 (by simp) (enb_dids _) ?_
    simp only [go_sem, lns, fld]
    refine vCall_of (hG) ?_ ?_ ?_; (focus simp only [go_sem, lns]); (focus simp only [go_sem, lns])
    simp only [go_sem, refs, ref, List.map_cons, List.map_nil]
    refine vCall_of (hE0) ?_ ?_ ?_; (focus simp only [go_sem, ents, ref]); (focus simp only [go_sem, ents, ref])
    simp only [go_sem, eptc, Option.getD_some, Option.isSome_some, ent, enb, fromM, hvm, if_true]
  ·
    have hg : goesR ⟨5, at', nm, ot, fac, fd, fo, ba⟩ = [at'] := by simp [goesR]
    rw [hg] at hG oe1 ⊢
    rw [if_neg (fun h => by rcases h with h | ⟨h, _⟩ <;> exact absurd h (by decide))]
    obtain ⟨e, he, he1, he2⟩ := oe1 (by decide)
    have hE0 := hE at'
    simp only [List.getD_cons_zero, List.getD_cons_succ] at he ⊢
    rw [he] at hE0 ⊢
    have hel := hmem _ e he
    simp only
    refine PL.Pure.of_v Tryz.func206 (by decide) rfl Tryz.ntmps206 Tryz.results206 (by simp) (enb_dids _) ?_
    simp only [go_sem, lns, fld]
    refine vCall_of (hG) ?_ ?_ ?_; (focus simp only [go_sem, lns]); (focus simp only [go_sem, lns])
    simp only [go_sem, refs, ref, List.map_cons, List.map_nil]
    refine vCall_of (hE0) ?_ ?_ ?_; (focus simp only [go_sem, ents, ref]); (focus simp only [go_sem, ents, ref])
    simp only [go_sem, eptc, Option.getD_some, Option.isSome_some, ent, enb, fromM, hvm, if_true]
  ·
    have hg : goesR ⟨6, at', nm, ot, fac, fd, fo, ba⟩ = [at'] := by simp [goesR]
    rw [hg] at hG oe1 ⊢
    by_cases hi : 0 < i
    · have hi1 : (i == 1) = true := by simp; omega
      rw [if_pos (.inr ⟨rfl, hi⟩)]
      refine PL.Pure.of_v Tryz.func206 (by decide) rfl Tryz.ntmps206 Tryz.results206 (by simp) (enb_dids _) ?_
      simp only [go_sem, lns, fld, hi1]
      refine vCall_of (hV) ?_ ?_ ?_; (focus simp only [go_sem, fld]); (focus simp only [go_sem, fld])
      simp only [go_sem, enb, ent, if_true]
    · have hi1 : (i == 1) = false := by simp; omega
      rw [if_neg (fun h => hi (h.elim (fun g => absurd g (by decide)) (·.2)))]
      obtain ⟨e, he, he1, he2⟩ := oe1 (by decide)
      have hE0 := hE at'
      simp only [List.getD_cons_zero, List.getD_cons_succ] at he ⊢
      rw [he] at hE0 ⊢
      have hel := hmem _ e he
      simp only
      have hvl := ov1 (.inl rfl)
      subst hvl
      refine PL.Pure.of_v Tryz.func206 (by decide) rfl Tryz.ntmps206 Tryz.results206 (by simp) (enb_dids _) ?_
      simp only [go_sem, lns, fld, hi1]
      refine vCall_of (hG) ?_ ?_ ?_; (focus simp only [go_sem, lns]); (focus simp only [go_sem, lns])
      simp only [go_sem, refs, ref, List.map_cons, List.map_nil]
      refine vCall_of (hE0) ?_ ?_ ?_; (focus simp only [go_sem, ents, ref]); (focus simp only [go_sem, ents, ref])
      simp only [go_sem, eptc, Option.getD_some, Option.isSome_some, ent, enb, fromM, hvm, if_true, List.map_nil]
  ·
    have hg : goesR ⟨7, at', nm, ot, fac, fd, fo, ba⟩ = [at'] := by simp [goesR]
    rw [hg] at hG oe1 ⊢
    rw [if_neg (fun h => by rcases h with h | ⟨h, _⟩ <;> exact absurd h (by decide))]
    obtain ⟨e, he, he1, he2⟩ := oe1 (by decide)
    have hE0 := hE at'
    simp only [List.getD_cons_zero, List.getD_cons_succ] at he ⊢
    rw [he] at hE0 ⊢
    have hel := hmem _ e he
    simp only
    have h00 := he1 (.inl rfl)
    have h0 : 0 < (e.l.length : Int) := by omega
    have gs := getD_str h00
    cases hb : (e.l.getD 0 [] == ot)
    · have hc : ¬ e.l.getD 0 [] = ot := by simpa using hb
      refine PL.Pure.of_v Tryz.func206 (by decide) rfl Tryz.ntmps206 Tryz.results206 (by simp) (enb_dids _) ?_
      simp only [go_sem, lns, fld]
      refine vCall_of (hG) ?_ ?_ ?_; (focus simp only [go_sem, lns]); (focus simp only [go_sem, lns])
      simp only [go_sem, refs, ref, List.map_cons, List.map_nil]
      refine vCall_of (hE0) ?_ ?_ ?_; (focus simp only [go_sem, ents, ref]); (focus simp only [go_sem, ents, ref])
      simp only [go_sem, eptc, Option.getD_some, Option.isSome_some, ent]
      refine vDrawQ (by kernel_rfl) (by kernel_rfl) ?_
      simp only [go_sem, h0, gs, List.length_map, hb]
      refine vDrawQ (by kernel_rfl) (by kernel_rfl) ?_
      simp only [go_sem, h0, gs, List.length_map, enb, ent, fromM, hvm, hc, if_true, List.map_cons, List.map_nil]
    · have hc :  e.l.getD 0 [] = ot := by simpa using hb
      refine PL.Pure.of_v Tryz.func206 (by decide) rfl Tryz.ntmps206 Tryz.results206 (by simp) (enb_dids _) ?_
      simp only [go_sem, lns, fld]
      refine vCall_of (hG) ?_ ?_ ?_; (focus simp only [go_sem, lns]); (focus simp only [go_sem, lns])
      simp only [go_sem, refs, ref, List.map_cons, List.map_nil]
      refine vCall_of (hE0) ?_ ?_ ?_; (focus simp only [go_sem, ents, ref]); (focus simp only [go_sem, ents, ref])
      simp only [go_sem, eptc, Option.getD_some, Option.isSome_some, ent]
      refine vDrawQ (by kernel_rfl) (by kernel_rfl) ?_
      simp only [go_sem, h0, gs, List.length_map, hb, enb, ent, fromM, hvm, hc, if_true, List.map_nil]
      rfl
  ·
    have hg : goesR ⟨8, at', nm, ot, fac, fd, fo, ba⟩ = [at'] := by simp [goesR]
    rw [hg] at hG oe1 ⊢
    rw [if_neg (fun h => by rcases h with h | ⟨h, _⟩ <;> exact absurd h (by decide))]
    obtain ⟨e, he, he1, he2⟩ := oe1 (by decide)
    have hE0 := hE at'
    simp only [List.getD_cons_zero, List.getD_cons_succ] at he ⊢
    rw [he] at hE0 ⊢
    have hel := hmem _ e he
    simp only
    have h00 := he1 (.inr rfl)
    have h0 : 0 < (e.l.length : Int) := by omega
    have gs := getD_str h00
    have hC := RCase_pure fo (e.l.getD 0 []) hfo
    refine PL.Pure.of_v Tryz.func206 (by decide) rfl Tryz.ntmps206 Tryz.results206 (by simp) (enb_dids _) ?_
    simp only [go_sem, lns, fld]
    refine vCall_of (hG) ?_ ?_ ?_; (focus simp only [go_sem, lns]); (focus simp only [go_sem, lns])
    simp only [go_sem, refs, ref, List.map_cons, List.map_nil]
    refine vCall_of (hE0) ?_ ?_ ?_; (focus simp only [go_sem, ents, ref]); (focus simp only [go_sem, ents, ref])
    simp only [go_sem, eptc, Option.getD_some, Option.isSome_some, ent]
    refine vDrawQ (by kernel_rfl) (by kernel_rfl) ?_
    simp only [go_sem, h0, gs, List.length_map]
    refine vCall_of (hC) ?_ ?_ ?_; (focus simp only [go_sem, prs]); (focus simp only [go_sem, prs])
    simp only [go_sem, strb, enb, ent, fromM, hvm, h0, if_true, List.map_cons, List.map_nil]
  ·
    have hg : goesR ⟨9, at', nm, ot, fac, fd, fo, ba⟩ = [named at' nm, named at' ot] := by simp [goesR]
    rw [hg] at hG oe1 oe2 ⊢
    rw [if_neg (fun h => by rcases h with h | ⟨h, _⟩ <;> exact absurd h (by decide))]
    obtain ⟨e, he, he1, he2⟩ := oe1 (by decide)
    have hE0 := hE (named at' nm)
    simp only [List.getD_cons_zero, List.getD_cons_succ] at he ⊢
    rw [he] at hE0 ⊢
    have hel := hmem _ e he
    simp only
    have hvl := ov1 (.inr rfl)
    subst hvl
    obtain ⟨⟨e2, hb, hb2⟩, f1, f2⟩ := oe2 rfl
    have hE1 := hE (named at' ot)
    simp only [List.getD_cons_zero, List.getD_cons_succ] at hb ⊢
    rw [hb] at hE1 ⊢
    simp only [if_true]
    obtain ⟨w1, w2, hm⟩ := merg_ref ⟨f1, f2⟩ (he2 rfl) hb2
    have w3 : IntKind.i64.wrap (e.n + e2.n * fac) = e.n + e2.n * fac := by rw [← w1]; rw [w1] at w2 ⊢; exact w2
    have hF0 := far24_pure e2.n
    have hF1 := far24_pure (e2.n * fac)
    have hF2 := far24_pure (e.n + e2.n * fac)
    have q0 : fitsI e2.n = true := fitsI_iff.2 hb2
    rw [q0] at hF0
    cases q1 : fitsI (e2.n * fac)
    · rw [q1] at hF1
      rw [show mergI e.n e2.n fac = (0, 3) by rw [hm]; simp [q1]]
      rw [if_neg (by decide)]
      refine PL.Pure.of_v Tryz.func206 (by decide) rfl Tryz.ntmps206 Tryz.results206 (by simp) (enb_dids _) ?_
      simp only [go_sem, lns, fld]
      refine vCall_of (hG) ?_ ?_ ?_; (focus simp only [go_sem, lns]); (focus simp only [go_sem, lns])
      simp only [go_sem, refs, ref, List.map_cons, List.map_nil]
      refine vCall_of (hE0) ?_ ?_ ?_; (focus simp only [go_sem, ents, ref]); (focus simp only [go_sem, ents, ref])
      simp only [go_sem, eptc, Option.getD_some, Option.isSome_some, ent]
      refine vCall_of (hE1) ?_ ?_ ?_; (focus simp only [go_sem, ents, ref]); (focus simp only [go_sem, ents, ref])
      simp only [go_sem, eptc, Option.getD_some, Option.isSome_some, ent]
      refine vCall_of (hF0) ?_ ?_ ?_; (focus simp only [go_sem]); (focus simp only [go_sem])
      simp only [go_sem, w1]
      refine vCall_of (hF1) ?_ ?_ ?_; (focus simp only [go_sem]); (focus simp only [go_sem])
      simp only [go_sem, enb, ent]
      rfl
    · rw [q1] at hF1
      cases q2 : fitsI (e.n + e2.n * fac)
      · rw [q2] at hF2
        rw [show mergI e.n e2.n fac = (0, 3) by rw [hm]; simp [q2]]
        rw [if_neg (by decide)]
        refine PL.Pure.of_v Tryz.func206 (by decide) rfl Tryz.ntmps206 Tryz.results206 (by simp) (enb_dids _) ?_
        simp only [go_sem, lns, fld]
        refine vCall_of (hG) ?_ ?_ ?_; (focus simp only [go_sem, lns]); (focus simp only [go_sem, lns])
        simp only [go_sem, refs, ref, List.map_cons, List.map_nil]
        refine vCall_of (hE0) ?_ ?_ ?_; (focus simp only [go_sem, ents, ref]); (focus simp only [go_sem, ents, ref])
        simp only [go_sem, eptc, Option.getD_some, Option.isSome_some, ent]
        refine vCall_of (hE1) ?_ ?_ ?_; (focus simp only [go_sem, ents, ref]); (focus simp only [go_sem, ents, ref])
        simp only [go_sem, eptc, Option.getD_some, Option.isSome_some, ent]
        refine vCall_of (hF0) ?_ ?_ ?_; (focus simp only [go_sem]); (focus simp only [go_sem])
        simp only [go_sem, w1]
        refine vCall_of (hF1) ?_ ?_ ?_; (focus simp only [go_sem]); (focus simp only [go_sem])
        simp only [go_sem, w1, w3]
        refine vCall_of (hF2) ?_ ?_ ?_; (focus simp only [go_sem]); (focus simp only [go_sem])
        simp only [go_sem, enb, ent]
        rfl
      · rw [q2] at hF2
        rw [show mergI e.n e2.n fac = (e.n + e2.n * fac, 0) by rw [hm]; simp [q1, q2]]
        simp only [if_true]
        refine PL.Pure.of_v Tryz.func206 (by decide) rfl Tryz.ntmps206 Tryz.results206 (by simp) (enb_dids _) ?_
        simp only [go_sem, lns, fld]
        refine vCall_of (hG) ?_ ?_ ?_; (focus simp only [go_sem, lns]); (focus simp only [go_sem, lns])
        simp only [go_sem, refs, ref, List.map_cons, List.map_nil]
        refine vCall_of (hE0) ?_ ?_ ?_; (focus simp only [go_sem, ents, ref]); (focus simp only [go_sem, ents, ref])
        simp only [go_sem, eptc, Option.getD_some, Option.isSome_some, ent]
        refine vCall_of (hE1) ?_ ?_ ?_; (focus simp only [go_sem, ents, ref]); (focus simp only [go_sem, ents, ref])
        simp only [go_sem, eptc, Option.getD_some, Option.isSome_some, ent]
        refine vCall_of (hF0) ?_ ?_ ?_; (focus simp only [go_sem]); (focus simp only [go_sem])
        simp only [go_sem, w1]
        refine vCall_of (hF1) ?_ ?_ ?_; (focus simp only [go_sem]); (focus simp only [go_sem])
        simp only [go_sem, w1, w3]
        refine vCall_of (hF2) ?_ ?_ ?_; (focus simp only [go_sem]); (focus simp only [go_sem])
        simp only [go_sem, enb, ent, if_true, w1, w3, List.map_nil]
  ·
    have hg : goesR ⟨10, at', nm, ot, fac, fd, fo, ba⟩ = [at'] := by simp [goesR]
    rw [hg] at hG oe1 ⊢
    rw [if_neg (fun h => by rcases h with h | ⟨h, _⟩ <;> exact absurd h (by decide))]
    obtain ⟨e, he, he1, he2⟩ := oe1 (by decide)
    have hE0 := hE at'
    simp only [List.getD_cons_zero, List.getD_cons_succ] at he ⊢
    rw [he] at hE0 ⊢
    have hel := hmem _ e he
    simp only
    have hvl := ov10 rfl
    subst hvl
    by_cases h0 : 0 < (e.l.length : Int)
    · have w1 : IntKind.i64.wrap ((e.l.length : Int) - 1) = ((e.l.length - 1 : Nat) : Int) := by rw [w64 (by omega)]; omega
      have gs := getD_str (show e.l.length - 1 < e.l.length by omega)
      have j1 : (0 : Int) ≤ ((e.l.length - 1 : Nat) : Int) := by omega
      have j2 : ((e.l.length - 1 : Nat) : Int) < (e.l.length : Int) := by omega
      refine PL.Pure.of_v Tryz.func206 (by decide) rfl Tryz.ntmps206 Tryz.results206 (by simp) (enb_dids _) ?_
      simp only [go_sem, lns, fld]
      refine vCall_of (hG) ?_ ?_ ?_; (focus simp only [go_sem, lns]); (focus simp only [go_sem, lns])
      simp only [go_sem, refs, ref, List.map_cons, List.map_nil]
      refine vCall_of (hE0) ?_ ?_ ?_; (focus simp only [go_sem, ents, ref]); (focus simp only [go_sem, ents, ref])
      simp only [go_sem, eptc, Option.getD_some, Option.isSome_some, ent, h0, List.length_map, w1, j1, j2, gs, enb, fromM, hvm, if_true, List.map_cons, List.map_nil]
    · refine PL.Pure.of_v Tryz.func206 (by decide) rfl Tryz.ntmps206 Tryz.results206 (by simp) (enb_dids _) ?_
      simp only [go_sem, lns, fld]
      refine vCall_of (hG) ?_ ?_ ?_; (focus simp only [go_sem, lns]); (focus simp only [go_sem, lns])
      simp only [go_sem, refs, ref, List.map_cons, List.map_nil]
      refine vCall_of (hE0) ?_ ?_ ?_; (focus simp only [go_sem, ents, ref]); (focus simp only [go_sem, ents, ref])
      simp only [go_sem, eptc, Option.getD_some, Option.isSome_some, ent, h0, List.length_map, enb, fromM, hvm, if_true, List.map_cons, List.map_nil]
end Go.Proofs.YtnadlkjmdimjkaaGreat

set_option linter.unusedSimpArgs false
set_option linter.unusedVariables false
set_option linter.unusedSimpArgs false
set_option linter.unusedVariables false
namespace Go.Proofs.YtnadlkjmdimjkaaGreat
open Go.PL
def lnC (x : Ln) : List PV := [.int .i64 x.kind, .int .i64 x.at'.sc, .str x.at'.gr, .str x.at'.nm, .str x.nm, .str x.ot, .int .i64 x.fac, .int .i64 x.fd.at'.sc, .str x.fd.at'.gr, .str x.fd.at'.nm, .int .i64 x.fd.kind, .str x.fd.df, .sl .no (x.fd.cases'.map .str), .int .i64 x.fd.worth, .sl .no (x.fo.map pr), .sl .no (x.ba.map pr)]
def oneM (x : Ln) (es : List En) (f : Fd) : En × Int :=
  if placeI (comesR x) f.at' < 0 then (match entM es f.at' with | none => (default, 5) | some e => (e, 0)) else gotM x f (placeI (comesR x) f.at') es
def badOne (x : Ln) (es : List En) (f : Fd) : Bool := (oneM x es f).2 != 0
def projE (x : Ln) (fs : List Fd) (es : List En) : List En × Int :=
  match fs.find? (badOne x es) with
  | some f => ([], (oneM x es f).2)
  | none => (fs.map fun f => (oneM x es f).1, 0)
def entsc (y : List En × Int) : PV := .tup [ents y.1, .int .i64 y.2]
theorem entsc_dids (y : List En × Int) : (entsc y).dids = [] := by simp only [entsc, PV.dids, PV.didsL, ents_dids, List.append_nil]
set_option maxRecDepth 20000 in
set_option maxHeartbeats 32000000 in
theorem entries_pure (fs : List Fd) (x : Ln) (es : List En) (hx : OkLn x) (hr : rightLn x = true) (hf : fs.length ≤ 100000) (hl : es.length ≤ maxLen) (hl' : ∀ e ∈ es, e.l.length ≤ 1000000) : PL.Pure Tryz.prog 135 [flds fs, lns x, ents es] (entsc (projE x fs es)) := by
  have hm : fs.length ≤ maxLen := by rw [maxLen_eq]; omega
  have hC := Comes_pure x hx
  have hco : comesM x = comesR x := by simp [comesM, hr]
  rw [hco] at hC
  have hcl := comesR_len x
  have hr0 := room1 (show fs.length ≤ 1000000 by omega) (show 72 ≤ 1000 by omega)
  refine PL.Pure.of_v Tryz.func135 (by decide) rfl Tryz.ntmps135 Tryz.results135 (by simp) (entsc_dids _) ?_
  simp only [go_sem, flds, lns, ents]
  refine vCall_of (hC) ?_ ?_ ?_; (focus simp only [go_sem, lns]); (focus simp only [go_sem, lns])
  simp only [go_sem, flds, List.length_map, hr0, hm]
  refine ⟨by omega, ?_⟩
  refine awp_moveRow 9 21 48 0 5 128 [] rfl rfl rfl ?_
  refine vLoopM (ι := { y : Nat × Bool // y.1 ≤ fs.length ∧ ∀ j, j < y.1 → badOne x es (fs.getD j default) = false }) 64 (fun y => [(2, ents es), (4, .ptr 4 0), (8, refs (comesR x)), (9, .sl (.row (cond y.1.2 48 61)) (((fs.take y.1.1).map fun f => (oneM x es f).1).map ent)), (22, flds fs), (23, .int .i64 (fs.length : Int)), (24, .int .i64 (y.1.1 : Int))]) (fun y => [(4, lnC x, false)]) (fun y => [(cond y.1.2 48 61, .live y.1.1 5 128)]) (fun y => fs.length - y.1.1) ⟨(0, true), Nat.zero_le _, fun j hj => absurd hj (Nat.not_lt_zero j)⟩
    ⟨rfl, (forall_cons rfl (forall_cons rfl (forall_cons rfl (forall_cons rfl (forall_cons rfl (forall_cons rfl (forall_cons rfl (forall_nil)))))))), forall_cons ⟨rfl, rfl⟩ forall_nil, (forall_cons rfl (forall_nil))⟩ (fun y => ⟨forall_cons rfl (forall_cons rfl (forall_cons rfl (forall_cons (by simp [PV.ids, refInM]) (forall_cons rfl (forall_cons rfl (forall_cons rfl (forall_nil))))))), forall_cons rfl forall_nil⟩) (fun y => ?_)
  obtain ⟨⟨k, rb⟩, hk, hI⟩ := y
  simp only at hk hI ⊢
  by_cases h : (k : Int) < (fs.length : Int)
  · have hka : k < fs.length := by omega
    have w1 := w64s hka hm
    have i1 : (0 : Int) ≤ (k : Int) := by omega
    have hlen : ((fs.take k).map fun f => (oneM x es f).1).length = k := by simp; omega
    have hrm := room1 (show k + 1 ≤ 1000000 by omega) (show 72 ≤ 1000 by omega)
    have hP : PL.Pure Tryz.prog 161 [refs (comesR x), ref (fs.getD k default).at'] (.int .i64 (placeI (comesR x) (fs.getD k default).at')) := IdxRef_pure (comesR x) (fs.getD k default).at' (by rw [maxLen_eq]; omega)
    have hA := arrived_pure x (fs.getD k default) (placeI (comesR x) (fs.getD k default).at') es hx hr hl hl'
    have hE := entry_pure es (fs.getD k default).at' hl hl'
    have hdef : oneM x es (fs.getD k default) = if placeI (comesR x) (fs.getD k default).at' < 0 then (match entM es (fs.getD k default).at' with | none => (default, 5) | some e => (e, 0)) else gotM x (fs.getD k default) (placeI (comesR x) (fs.getD k default).at') es := rfl
    have gk := getD_fld hka
    have hsn : ((fs.take (k + 1)).map fun f => (oneM x es f).1).map ent = ((fs.take k).map fun f => (oneM x es f).1).map ent ++ [ent (oneM x es (fs.getD k default)).1] := by
      rw [take_snoc (d := default) hka, List.map_append, List.map_append]; rfl
    by_cases hp : placeI (comesR x) (fs.getD k default).at' < 0
    · have hp' : ¬ (0 : Int) ≤ placeI (comesR x) (fs.getD k default).at' := by omega
      rw [if_pos hp] at hdef
      generalize placeI (comesR x) (fs.getD k default).at' = at' at *
      cases hq : entM es (fs.getD k default).at' with
      | none =>
        rw [hq] at hE hdef
        simp only at hdef
        have hb : badOne x es (fs.getD k default) = true := by unfold badOne; rw [hdef]; rfl
        have hres : projE x fs es = ([], 5) := by unfold projE; rw [find_found hka hI hb]; simp only [hdef]
        cases rb
        all_goals
          simp only [cond_true, cond_false]
          simp only [go_sem, flds, h, gk, fld, i1, refs]
          refine vCall_of (hP) ?_ ?_ ?_; (focus simp only [go_sem, refs, ref]); (focus simp only [go_sem, refs, ref])
          simp only [go_sem, hp', ents]
          refine vCall_of (hE) ?_ ?_ ?_; (focus simp only [go_sem, ents, ref]); (focus simp only [go_sem, ents, ref])
          simp only [go_sem, eptc, Option.getD_none, Option.isSome_none, ent_default, hres, entsc, ents, List.map_nil]
      | some e =>
        rw [hq] at hE hdef
        simp only at hdef
        have hb : badOne x es (fs.getD k default) = false := by unfold badOne; rw [hdef]; rfl
        cases rb
        all_goals
          simp only [cond_true, cond_false]
          simp only [go_sem, flds, h, gk, fld, i1, refs]
          refine vCall_of (hP) ?_ ?_ ?_; (focus simp only [go_sem, refs, ref]); (focus simp only [go_sem, refs, ref])
          simp only [go_sem, hp', ents]
          refine vCall_of (hE) ?_ ?_ ?_; (focus simp only [go_sem, ents, ref]); (focus simp only [go_sem, ents, ref])
          simp only [go_sem, eptc, Option.getD_some, Option.isSome_some, ent, List.length_map, hlen, hrm, sized_ent, w1]
          refine ⟨⟨(k + 1, false), by show k + 1 ≤ fs.length; omega, below_succ (p := fun j => badOne x es (fs.getD j default) = false) hI hb⟩, by show fs.length - (k + 1) < fs.length - k; omega, ⟨rfl, forall_cons rfl (forall_cons rfl (forall_cons rfl (forall_cons ?_ (forall_cons rfl (forall_cons rfl (forall_cons rfl (forall_nil))))))), forall_cons ⟨rfl, rfl⟩ forall_nil, (forall_cons rfl (forall_nil))⟩⟩
          show PV.sl (.row 61) _ = PV.sl (.row 61) _
          rw [hsn, hdef]
          rfl
    · have hp' : (0 : Int) ≤ placeI (comesR x) (fs.getD k default).at' := by omega
      rw [if_neg hp] at hdef
      generalize placeI (comesR x) (fs.getD k default).at' = at' at *
      rw [← hdef] at hA
      cases hb : badOne x es (fs.getD k default)
      · have hc : (oneM x es (fs.getD k default)).2 = 0 := by unfold badOne at hb; simpa using hb
        generalize oneM x es (fs.getD k default) = y at *
        obtain ⟨y1, y2⟩ := y
        simp only at hc hA hsn
        subst hc
        cases rb
        all_goals
          simp only [cond_true, cond_false]
          simp only [go_sem, flds, h, gk, fld, i1, refs]
          refine vCall_of (hP) ?_ ?_ ?_; (focus simp only [go_sem, refs, ref]); (focus simp only [go_sem, refs, ref])
          simp only [go_sem, hp', ents, lnC]
          refine vCall_of (hA) ?_ ?_ ?_; (focus simp only [go_sem, lns, fld, ents]); (focus simp only [go_sem, lns, fld, ents])
          simp only [go_sem, entc, ent, List.length_map, hlen, hrm, sized_ent, w1]
          refine ⟨⟨(k + 1, true), by show k + 1 ≤ fs.length; omega, below_succ (p := fun j => badOne x es (fs.getD j default) = false) hI hb⟩, by show fs.length - (k + 1) < fs.length - k; omega, ⟨rfl, forall_cons rfl (forall_cons rfl (forall_cons rfl (forall_cons ?_ (forall_cons rfl (forall_cons rfl (forall_cons rfl (forall_nil))))))), forall_cons ⟨rfl, rfl⟩ forall_nil, (forall_cons rfl (forall_nil))⟩⟩
          show PV.sl (.row 48) _ = PV.sl (.row 48) _
          rw [hsn]
          rfl
      · have hc : ((oneM x es (fs.getD k default)).2 != 0) = true := hb
        have hres : projE x fs es = ([], (oneM x es (fs.getD k default)).2) := by unfold projE; rw [find_found hka hI hb]
        generalize oneM x es (fs.getD k default) = y at *
        obtain ⟨y1, y2⟩ := y
        simp only at hc hA hres
        cases rb
        all_goals
          simp only [cond_true, cond_false]
          simp only [go_sem, flds, h, gk, fld, i1, refs]
          refine vCall_of (hP) ?_ ?_ ?_; (focus simp only [go_sem, refs, ref]); (focus simp only [go_sem, refs, ref])
          simp only [go_sem, hp', ents, lnC]
          refine vCall_of (hA) ?_ ?_ ?_; (focus simp only [go_sem, lns, fld, ents]); (focus simp only [go_sem, lns, fld, ents])
          simp only [go_sem, entc, ent, hc, hres, entsc, ents, List.map_nil]
  · obtain rfl : k = fs.length := by omega
    have hres : projE x fs es = (fs.map fun f => (oneM x es f).1, 0) := by unfold projE; rw [find_none (d := default) (fun j hj => hI j hj)]
    rw [List.take_length]
    cases rb
    all_goals
      simp only [cond_true, cond_false]
      simp only [go_sem, h, hres, entsc, ents]
def enbs (y : List En × Int) : PV := .tup [ents (if y.2 = 0 then y.1 else []), .bool (y.2 == 0)]
theorem enbs_dids (y : List En × Int) : (enbs y).dids = [] := by simp only [enbs, PV.dids, PV.didsL, ents_dids, List.append_nil]
/-- what the reference's road asks of a field -/
def OneOk (x : Ln) (es : List En) (f : Fd) : Prop := if placeI (comesR x) f.at' < 0 then (∃ e, entM es f.at' = some e) else GotOk x f (placeI (comesR x) f.at') es
set_option maxRecDepth 20000 in
set_option maxHeartbeats 32000000 in
theorem R24entries_pure (fs : List Fd) (x : Ln) (es : List En) (hx : OkLn x) (hr : rightLn x = true) (hf : fs.length ≤ 100000) (hl : es.length ≤ maxLen) (hl' : ∀ e ∈ es, e.l.length ≤ 1000000) (ok : ∀ f ∈ fs, OneOk x es f) : PL.Pure Tryz.prog 146 [lns x, flds fs, ents es] (enbs (projE x fs es)) := by
  have hm : fs.length ≤ maxLen := by rw [maxLen_eq]; omega
  have hC := RComes_pure x
  have hcl := comesR_len x
  refine PL.Pure.of_v Tryz.func146 (by decide) rfl Tryz.ntmps146 Tryz.results146 (by simp) (enbs_dids _) ?_
  simp only [go_sem, flds, lns, ents]
  refine awp_moveRow 8 14 57 0 5 128 [] rfl rfl rfl ?_
  refine vLoopM (ι := { y : Nat // y ≤ fs.length ∧ ∀ j, j < y → badOne x es (fs.getD j default) = false }) 59 (fun y => [(1, flds fs), (2, ents es), (3, .ptr 3 0), (8, .sl (.row 57) (((fs.take y.1).map fun f => (oneM x es f).1).map ent)), (9, .int .i64 (y.1 : Int))]) (fun y => [(3, lnC x, false)]) (fun y => [(57, .live y.1 5 128)]) (fun y => fs.length - y.1) ⟨0, Nat.zero_le _, fun j hj => absurd hj (Nat.not_lt_zero j)⟩
    ⟨rfl, (forall_cons rfl (forall_cons rfl (forall_cons rfl (forall_cons rfl (forall_cons rfl (forall_nil)))))), forall_cons ⟨rfl, rfl⟩ forall_nil, (forall_cons rfl (forall_nil))⟩ (fun y => ⟨forall_cons rfl (forall_cons rfl (forall_cons rfl (forall_cons (by simp [PV.ids, refInM]) (forall_cons rfl (forall_nil))))), forall_cons rfl forall_nil⟩) (fun y => ?_)
  obtain ⟨k, hk, hI⟩ := y
  simp only at hk hI ⊢
  by_cases h : (k : Int) < (fs.length : Int)
  · have hka : k < fs.length := by omega
    have w1 := w64s hka hm
    have i1 : (0 : Int) ≤ (k : Int) := by omega
    have hlen : ((fs.take k).map fun f => (oneM x es f).1).length = k := by simp; omega
    have hrm := room1 (show k + 1 ≤ 1000000 by omega) (show 72 ≤ 1000 by omega)
    have hP : PL.Pure Tryz.prog 204 [refs (comesR x), ref (fs.getD k default).at'] (.int .i64 (placeI (comesR x) (fs.getD k default).at')) := by
      have := RAtR_pure (comesR x) (fs.getD k default).at' (by rw [maxLen_eq]; omega)
      have e : idx (fun y => decide (y = (fs.getD k default).at')) (comesR x) = placeI (comesR x) (fs.getD k default).at' := by
        unfold placeI; congr 1; funext y; simp [eq_comm]
      rwa [e] at this
    have hok := ok _ (getD_mem' (d := default) hka)
    unfold OneOk at hok
    have hE := Rentry_pure es (fs.getD k default).at' hl
    have hdef : oneM x es (fs.getD k default) = if placeI (comesR x) (fs.getD k default).at' < 0 then (match entM es (fs.getD k default).at' with | none => (default, 5) | some e => (e, 0)) else gotM x (fs.getD k default) (placeI (comesR x) (fs.getD k default).at') es := rfl
    have gk := getD_fld hka
    have hsn : ((fs.take (k + 1)).map fun f => (oneM x es f).1).map ent = ((fs.take k).map fun f => (oneM x es f).1).map ent ++ [ent (oneM x es (fs.getD k default)).1] := by
      rw [take_snoc (d := default) hka, List.map_append, List.map_append]; rfl
    by_cases hp : placeI (comesR x) (fs.getD k default).at' < 0
    · have hp' : ¬ (0 : Int) ≤ placeI (comesR x) (fs.getD k default).at' := by omega
      rw [if_pos hp] at hdef hok
      generalize placeI (comesR x) (fs.getD k default).at' = at' at *
      obtain ⟨e, hq⟩ := hok
      rw [hq] at hE hdef
      simp only at hdef
      have hb : badOne x es (fs.getD k default) = false := by unfold badOne; rw [hdef]; rfl
      simp only [go_sem, flds, h, List.length_map]
      refine vDrawQ (by kernel_rfl) (by kernel_rfl) ?_
      simp only [go_sem, lnC]
      refine vCall_of (hC) ?_ ?_ ?_; (focus simp only [go_sem, lns]); (focus simp only [go_sem, lns])
      simp only [go_sem, gk, fld, i1, h, refs, List.length_map]
      refine vCall_of (hP) ?_ ?_ ?_; (focus simp only [go_sem, refs, ref]); (focus simp only [go_sem, refs, ref])
      simp only [go_sem, gk, fld, i1, h, ents, List.length_map]
      refine vCall_of (hE) ?_ ?_ ?_; (focus simp only [go_sem, ents, ref]); (focus simp only [go_sem, ents, ref])
      simp only [go_sem, eptc, Option.getD_some, Option.isSome_some, ent, hp', List.length_map, hlen, hrm, sized_ent, w1]
      refine ⟨⟨k + 1, by show k + 1 ≤ fs.length; omega, below_succ (p := fun j => badOne x es (fs.getD j default) = false) hI hb⟩, by show fs.length - (k + 1) < fs.length - k; omega, ⟨rfl, forall_cons rfl (forall_cons rfl (forall_cons rfl (forall_cons ?_ (forall_cons rfl (forall_nil))))), forall_cons ⟨rfl, rfl⟩ forall_nil, (forall_cons rfl (forall_nil))⟩⟩
      show PV.sl (.row 57) _ = PV.sl (.row 57) _
      rw [hsn, hdef]
      rfl
    · have hp' : (0 : Int) ≤ placeI (comesR x) (fs.getD k default).at' := by omega
      rw [if_neg hp] at hdef hok
      have hA := come_pure x (fs.getD k default) (placeI (comesR x) (fs.getD k default).at') es hx hr hl hl' hok
      generalize placeI (comesR x) (fs.getD k default).at' = at' at *
      rw [← hdef] at hA
      generalize hq : entM es (fs.getD k default).at' = oe at *
      clear hq
      cases hb : badOne x es (fs.getD k default)
      · have hc : (oneM x es (fs.getD k default)).2 = 0 := by unfold badOne at hb; simpa using hb
        generalize oneM x es (fs.getD k default) = y at *
        obtain ⟨y1, y2⟩ := y
        simp only at hc hA hsn
        subst hc
        have hb0 : ((0 : Int) == 0) = true := rfl
        simp only [go_sem, flds, h, List.length_map]
        refine vDrawQ (by kernel_rfl) (by kernel_rfl) ?_
        simp only [go_sem, lnC]
        refine vCall_of (hC) ?_ ?_ ?_; (focus simp only [go_sem, lns]); (focus simp only [go_sem, lns])
        simp only [go_sem, gk, fld, i1, h, refs, List.length_map]
        refine vCall_of (hP) ?_ ?_ ?_; (focus simp only [go_sem, refs, ref]); (focus simp only [go_sem, refs, ref])
        simp only [go_sem, gk, fld, i1, h, ents, List.length_map]
        refine vCall_of (hE) ?_ ?_ ?_; (focus simp only [go_sem, ents, ref]); (focus simp only [go_sem, ents, ref])
        simp only [go_sem, eptc, ent, hp']
        refine vDrawQ (by kernel_rfl) (by kernel_rfl) ?_
        simp only [go_sem, gk, fld, i1, h, ents, List.length_map, lnC]
        refine vCall_of (hA) ?_ ?_ ?_; (focus simp only [go_sem, lns, fld, ents]); (focus simp only [go_sem, lns, fld, ents])
        simp only [go_sem, enb, ent, if_true, List.length_map, hlen, hrm, sized_ent, w1]
        refine ⟨⟨k + 1, by show k + 1 ≤ fs.length; omega, below_succ (p := fun j => badOne x es (fs.getD j default) = false) hI hb⟩, by show fs.length - (k + 1) < fs.length - k; omega, ⟨rfl, forall_cons rfl (forall_cons rfl (forall_cons rfl (forall_cons ?_ (forall_cons rfl (forall_nil))))), forall_cons ⟨rfl, rfl⟩ forall_nil, (forall_cons rfl (forall_nil))⟩⟩
        show PV.sl (.row 57) _ = PV.sl (.row 57) _
        rw [hsn]
        rfl
      · have hc : (oneM x es (fs.getD k default)).2 ≠ 0 := by unfold badOne at hb; simpa using hb
        have hres : projE x fs es = ([], (oneM x es (fs.getD k default)).2) := by unfold projE; rw [find_found hka hI hb]
        generalize oneM x es (fs.getD k default) = y at *
        obtain ⟨y1, y2⟩ := y
        simp only at hc hA hres
        have hc' : (y2 == 0) = false := beq_eq_false_iff_ne.2 hc
        simp only [go_sem, flds, h, List.length_map]
        refine vDrawQ (by kernel_rfl) (by kernel_rfl) ?_
        simp only [go_sem, lnC]
        refine vCall_of (hC) ?_ ?_ ?_; (focus simp only [go_sem, lns]); (focus simp only [go_sem, lns])
        simp only [go_sem, gk, fld, i1, h, refs, List.length_map]
        refine vCall_of (hP) ?_ ?_ ?_; (focus simp only [go_sem, refs, ref]); (focus simp only [go_sem, refs, ref])
        simp only [go_sem, gk, fld, i1, h, ents, List.length_map]
        refine vCall_of (hE) ?_ ?_ ?_; (focus simp only [go_sem, ents, ref]); (focus simp only [go_sem, ents, ref])
        simp only [go_sem, eptc, ent, hp']
        refine vDrawQ (by kernel_rfl) (by kernel_rfl) ?_
        simp only [go_sem, gk, fld, i1, h, ents, List.length_map, lnC]
        refine vCall_of (hA) ?_ ?_ ?_; (focus simp only [go_sem, lns, fld, ents]); (focus simp only [go_sem, lns, fld, ents])
        simp only [go_sem, enb, ent, if_neg hc, hc', hres, enbs, ents, List.map_nil]
  · obtain rfl : k = fs.length := by omega
    have hres : projE x fs es = (fs.map fun f => (oneM x es f).1, 0) := by unfold projE; rw [find_none (d := default) (fun j hj => hI j hj)]
    rw [List.take_length]
    simp only [go_sem, flds, h, List.length_map, hres, enbs, ents, if_true]
end Go.Proofs.YtnadlkjmdimjkaaGreat
