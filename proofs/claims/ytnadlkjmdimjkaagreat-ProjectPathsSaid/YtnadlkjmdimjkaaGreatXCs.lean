/- Contracts of functions and laws of this seat, each for every input that it names: lemmas of the proof. -/
import Derived.Test.YtnadlkjmdimjkaaGreatXCp
set_option linter.unusedSimpArgs false
set_option linter.unusedVariables false
set_option linter.unusedSimpArgs false
set_option linter.unusedVariables false
namespace Go.Proofs.YtnadlkjmdimjkaaGreat
open Go.PL
def fromM (x : Ln) (f : Fd) (e : En) : En :=
  if x.kind = 6 then ⟨f.at', e.n, (valueM f).l⟩
  else if x.kind = 7 then ⟨f.at', 0, if 0 < (e.l.length : Int) ∧ e.l.getD 0 [] ≠ x.ot then [e.l.getD 0 []] else []⟩
  else if x.kind = 10 then ⟨f.at', 0, if 0 < (e.l.length : Int) then [e.l.getD (e.l.length - 1) []] else (valueM f).l⟩
  else if x.kind = 8 then ⟨f.at', 0, if 0 < (e.l.length : Int) then [(caseM x.fo (e.l.getD 0 [])).1] else (valueM f).l⟩
  else if x.kind = 3 then valueM f
  else ⟨f.at', e.n, e.l⟩
def gotM (x : Ln) (f : Fd) (i : Int) (es : List En) : En × Int :=
  if x.kind = 2 ∨ (x.kind = 6 ∧ 0 < i) then (valueM f, 0) else
  match entM es ((goesR x).getD 0 default) with
  | none => (default, 5)
  | some e =>
    if x.kind = 9 then
      match entM es ((goesR x).getD 1 default) with
      | none => (default, 5)
      | some e2 => if (mergI e.n e2.n x.fac).2 = 0 then (⟨f.at', (mergI e.n e2.n x.fac).1, (valueM f).l⟩, 0) else (default, (mergI e.n e2.n x.fac).2)
    else (fromM x f e, 0)
theorem value_n (f : Fd) : (valueM f).n = 0 := rfl
theorem value_at (f : Fd) : (valueM f).at' = f.at' := rfl
set_option maxRecDepth 20000 in
set_option maxHeartbeats 32000000 in
theorem arrived_pure (x : Ln) (f : Fd) (i : Int) (es : List En) (hx : OkLn x) (hr : rightLn x = true) (hl : es.length ≤ maxLen) (hl' : ∀ e ∈ es, e.l.length ≤ 1000000) : PL.Pure Tryz.prog 189 [lns x, fld f, .int .i64 i, ents es] (entc (gotM x f i es)) := by
  have hV := Value_pure f
  have hG := Goes_pure x hx
  have hgo : goesM x = goesR x := by simp [goesM, hr]
  rw [hgo] at hG
  have hk := (rightLn_kind hr).1
  have hE := fun r => entry_pure es r hl hl'
  have hfo : x.fo.length ≤ maxLen := by have := hx.f; rw [maxLen_eq]; omega
  have hv1 := value_at f
  have hv2 := value_n f
  unfold gotM
  have hmem : ∀ r e, entM es r = some e → e.l.length ≤ 1000000 := fun r e h => hl' e (List.mem_of_find?_eq_some h)
  obtain ⟨kind, at', nm, ot, fac, fd, fo, ba⟩ := x
  simp only at hk hfo ⊢
  clear hgo hr hx hl'
  generalize hvm : valueM f = v at *
  obtain ⟨vat, vn, vl⟩ := v
  simp only at hv1 hv2 ⊢
  subst hv1 hv2
  have hkind : kind = 1 ∨ kind = 2 ∨ kind = 3 ∨ kind = 4 ∨ kind = 5 ∨ kind = 6 ∨ kind = 7 ∨ kind = 8 ∨ kind = 9 ∨ kind = 10 := by omega
  rcases hkind with rfl | rfl | rfl | rfl | rfl | rfl | rfl | rfl | rfl | rfl
  ·
    have hg : goesR ⟨1, at', nm, ot, fac, fd, fo, ba⟩ = [at'] := by simp [goesR]
    rw [hg] at hG ⊢
    rw [if_neg (fun h => by rcases h with h | ⟨h, _⟩ <;> exact absurd h (by decide))]
    have hE0 := hE at'
    simp only [List.getD_cons_zero, List.getD_cons_succ]
    cases hq : entM es at' with
    | none =>
      rw [hq] at hE0
      refine PL.Pure.of_v Tryz.func189 (by decide) rfl Tryz.ntmps189 Tryz.results189 (by simp) (entc_dids _) ?_
      simp only [go_sem, lns, fld]
      refine vCall_of (hV) ?_ ?_ ?_; (focus simp only [go_sem, fld]); (focus simp only [go_sem, fld])
      simp only [go_sem, ent, lns]
      refine vCall_of (hG) ?_ ?_ ?_; (focus simp only [go_sem, lns]); (focus simp only [go_sem, lns])
      simp only [go_sem, refs, ref, List.map_cons, List.map_nil]
      refine vCall_of (hE0) ?_ ?_ ?_; (focus simp only [go_sem, ents, ref]); (focus simp only [go_sem, ents, ref])
      simp only [go_sem, eptc, Option.getD_none, Option.isSome_none, entc, ent]
      rfl
    | some e =>
      rw [hq] at hE0
      have hel := hmem _ e hq
      refine PL.Pure.of_v Tryz.func189 (by decide) rfl Tryz.ntmps189 Tryz.results189 (by simp) (entc_dids _) ?_
      simp only [go_sem, lns, fld]
      refine vCall_of (hV) ?_ ?_ ?_; (focus simp only [go_sem, fld]); (focus simp only [go_sem, fld])
      simp only [go_sem, ent, lns]
      refine vCall_of (hG) ?_ ?_ ?_; (focus simp only [go_sem, lns]); (focus simp only [go_sem, lns])
      simp only [go_sem, refs, ref, List.map_cons, List.map_nil]
      refine vCall_of (hE0) ?_ ?_ ?_; (focus simp only [go_sem, ents, ref]); (focus simp only [go_sem, ents, ref])
      simp only [go_sem, eptc, Option.getD_some, Option.isSome_some, ent]
      refine vDrawS [(12, 10)] (by kernel_rfl) (by kernel_rfl) (by exact rfl) ?_
      simp only [go_sem, entc, ent, fromM, hvm]
  ·
    have hg : goesR ⟨2, at', nm, ot, fac, fd, fo, ba⟩ = [] := by simp [goesR]
    rw [hg] at hG ⊢
    rw [if_pos (.inl rfl)]
    refine PL.Pure.of_v Tryz.func189 (by decide) rfl Tryz.ntmps189 Tryz.results189 (by simp) (entc_dids _) ?_
    simp only [go_sem, lns, fld]
    refine vCall_of (hV) ?_ ?_ ?_; (focus simp only [go_sem, fld]); (focus simp only [go_sem, fld])
    simp only [go_sem, ent, lns]
    refine vCall_of (hG) ?_ ?_ ?_; (focus simp only [go_sem, lns]); (focus simp only [go_sem, lns])
    simp only [go_sem, refs, ref, List.map_cons, List.map_nil]
    simp only [go_sem, entc, ent]
  ·
    have hg : goesR ⟨3, at', nm, ot, fac, fd, fo, ba⟩ = [fd.at'] := by simp [goesR]
    rw [hg] at hG ⊢
    rw [if_neg (fun h => by rcases h with h | ⟨h, _⟩ <;> exact absurd h (by decide))]
    have hE0 := hE fd.at'
    simp only [List.getD_cons_zero, List.getD_cons_succ]
    cases hq : entM es fd.at' with
    | none =>
      rw [hq] at hE0
      refine PL.Pure.of_v Tryz.func189 (by decide) rfl Tryz.ntmps189 Tryz.results189 (by simp) (entc_dids _) ?_
      simp only [go_sem, lns, fld]
      refine vCall_of (hV) ?_ ?_ ?_; (focus simp only [go_sem, fld]); (focus simp only [go_sem, fld])
      simp only [go_sem, ent, lns]
      refine vCall_of (hG) ?_ ?_ ?_; (focus simp only [go_sem, lns]); (focus simp only [go_sem, lns])
      simp only [go_sem, refs, ref, List.map_cons, List.map_nil]
      refine vCall_of (hE0) ?_ ?_ ?_; (focus simp only [go_sem, ents, ref]); (focus simp only [go_sem, ents, ref])
      simp only [go_sem, eptc, Option.getD_none, Option.isSome_none, entc, ent]
      rfl
    | some e =>
      rw [hq] at hE0
      have hel := hmem _ e hq
      refine PL.Pure.of_v Tryz.func189 (by decide) rfl Tryz.ntmps189 Tryz.results189 (by simp) (entc_dids _) ?_
      simp only [go_sem, lns, fld]
      refine vCall_of (hV) ?_ ?_ ?_; (focus simp only [go_sem, fld]); (focus simp only [go_sem, fld])
      simp only [go_sem, ent, lns]
      refine vCall_of (hG) ?_ ?_ ?_; (focus simp only [go_sem, lns]); (focus simp only [go_sem, lns])
      simp only [go_sem, refs, ref, List.map_cons, List.map_nil]
      refine vCall_of (hE0) ?_ ?_ ?_; (focus simp only [go_sem, ents, ref]); (focus simp only [go_sem, ents, ref])
      simp only [go_sem, eptc, Option.getD_some, Option.isSome_some, ent, entc, fromM, hvm]
  ·
    have hg : goesR ⟨4, at', nm, ot, fac, fd, fo, ba⟩ = [at'] := by simp [goesR]
    rw [hg] at hG ⊢
    rw [if_neg (fun h => by rcases h with h | ⟨h, _⟩ <;> exact absurd h (by decide))]
    have hE0 := hE at'
    simp only [List.getD_cons_zero, List.getD_cons_succ]
    cases hq : entM es at' with
    | none =>
      rw [hq] at hE0
      refine PL.Pure.of_v Tryz.func189 (by decide) rfl Tryz.ntmps189 Tryz.results189 (by simp) (entc_dids _) ?_
      simp only [go_sem, lns, fld]
      refine vCall_of (hV) ?_ ?_ ?_; (focus simp only [go_sem, fld]); (focus simp only [go_sem, fld])
      simp only [go_sem, ent, lns]
      refine vCall_of (hG) ?_ ?_ ?_; (focus simp only [go_sem, lns]); (focus simp only [go_sem, lns])
      simp only [go_sem, refs, ref, List.map_cons, List.map_nil]
      refine vCall_of (hE0) ?_ ?_ ?_; (focus simp only [go_sem, ents, ref]); (focus simp only [go_sem, ents, ref])
      simp only [go_sem, eptc, Option.getD_none, Option.isSome_none, entc, ent]
      rfl
    | some e =>
      rw [hq] at hE0
      have hel := hmem _ e hq
      refine PL.Pure.of_v Tryz.func189 (by decide) rfl Tryz.ntmps189 Tryz.results189 (by simp) (entc_dids _) ?_
      simp only [go_sem, lns, fld]
      refine vCall_of (hV) ?_ ?_ ?_; (focus simp only [go_sem, fld]); (focus simp only [go_sem, fld])
      simp only [go_sem, ent, lns]
      refine vCall_of (hG) ?_ ?_ ?_; (focus simp only [go_sem, lns]); (focus simp only [go_sem, lns])
      simp only [go_sem, refs, ref, List.map_cons, List.map_nil]
      refine vCall_of (hE0) ?_ ?_ ?_; (focus simp only [go_sem, ents, ref]); (focus simp only [go_sem, ents, ref])
      simp only [go_sem, eptc, Option.getD_some, Option.isSome_some, ent]
      refine vDrawS [(12, 10)] (by kernel_rfl) (by kernel_rfl) (by exact rfl) ?_
      simp only [go_sem, entc, ent, fromM, hvm]
  ·
    have hg : goesR ⟨5, at', nm, ot, fac, fd, fo, ba⟩ = [at'] := by simp [goesR]
    rw [hg] at hG ⊢
    rw [if_neg (fun h => by rcases h with h | ⟨h, _⟩ <;> exact absurd h (by decide))]
    have hE0 := hE at'
    simp only [List.getD_cons_zero, List.getD_cons_succ]
    cases hq : entM es at' with
    | none =>
      rw [hq] at hE0
      refine PL.Pure.of_v Tryz.func189 (by decide) rfl Tryz.ntmps189 Tryz.results189 (by simp) (entc_dids _) ?_
      simp only [go_sem, lns, fld]
      refine vCall_of (hV) ?_ ?_ ?_; (focus simp only [go_sem, fld]); (focus simp only [go_sem, fld])
      simp only [go_sem, ent, lns]
      refine vCall_of (hG) ?_ ?_ ?_; (focus simp only [go_sem, lns]); (focus simp only [go_sem, lns])
      simp only [go_sem, refs, ref, List.map_cons, List.map_nil]
      refine vCall_of (hE0) ?_ ?_ ?_; (focus simp only [go_sem, ents, ref]); (focus simp only [go_sem, ents, ref])
      simp only [go_sem, eptc, Option.getD_none, Option.isSome_none, entc, ent]
      rfl
    | some e =>
      rw [hq] at hE0
      have hel := hmem _ e hq
      refine PL.Pure.of_v Tryz.func189 (by decide) rfl Tryz.ntmps189 Tryz.results189 (by simp) (entc_dids _) ?_
      simp only [go_sem, lns, fld]
      refine vCall_of (hV) ?_ ?_ ?_; (focus simp only [go_sem, fld]); (focus simp only [go_sem, fld])
      simp only [go_sem, ent, lns]
      refine vCall_of (hG) ?_ ?_ ?_; (focus simp only [go_sem, lns]); (focus simp only [go_sem, lns])
      simp only [go_sem, refs, ref, List.map_cons, List.map_nil]
      refine vCall_of (hE0) ?_ ?_ ?_; (focus simp only [go_sem, ents, ref]); (focus simp only [go_sem, ents, ref])
      simp only [go_sem, eptc, Option.getD_some, Option.isSome_some, ent]
      refine vDrawS [(12, 10)] (by kernel_rfl) (by kernel_rfl) (by exact rfl) ?_
      simp only [go_sem, entc, ent, fromM, hvm]
  ·
    have hg : goesR ⟨6, at', nm, ot, fac, fd, fo, ba⟩ = [at'] := by simp [goesR]
    rw [hg] at hG ⊢
    by_cases hi : 0 < i
    · rw [if_pos (.inr ⟨rfl, hi⟩)]
      refine PL.Pure.of_v Tryz.func189 (by decide) rfl Tryz.ntmps189 Tryz.results189 (by simp) (entc_dids _) ?_
      simp only [go_sem, lns, fld]
      refine vCall_of (hV) ?_ ?_ ?_; (focus simp only [go_sem, fld]); (focus simp only [go_sem, fld])
      simp only [go_sem, ent, lns]
      refine vCall_of (hG) ?_ ?_ ?_; (focus simp only [go_sem, lns]); (focus simp only [go_sem, lns])
      simp only [go_sem, refs, ref, List.map_cons, List.map_nil]
      simp only [go_sem, hi, entc, ent]
    · rw [if_neg (fun h => hi (h.elim (fun g => absurd g (by decide)) (·.2)))]
      have hE0 := hE at'
      simp only [List.getD_cons_zero, List.getD_cons_succ]
      cases hq : entM es at' with
      | none =>
        rw [hq] at hE0
        refine PL.Pure.of_v Tryz.func189 (by decide) rfl Tryz.ntmps189 Tryz.results189 (by simp) (entc_dids _) ?_
        simp only [go_sem, lns, fld]
        refine vCall_of (hV) ?_ ?_ ?_; (focus simp only [go_sem, fld]); (focus simp only [go_sem, fld])
        simp only [go_sem, ent, lns]
        refine vCall_of (hG) ?_ ?_ ?_; (focus simp only [go_sem, lns]); (focus simp only [go_sem, lns])
        simp only [go_sem, hi, refs, ref, List.map_cons, List.map_nil]
        refine vCall_of (hE0) ?_ ?_ ?_; (focus simp only [go_sem, ents, ref]); (focus simp only [go_sem, ents, ref])
        simp only [go_sem, eptc, Option.getD_none, Option.isSome_none, entc, ent]
        rfl
      | some e =>
        rw [hq] at hE0
        have hel := hmem _ e hq
        refine PL.Pure.of_v Tryz.func189 (by decide) rfl Tryz.ntmps189 Tryz.results189 (by simp) (entc_dids _) ?_
        simp only [go_sem, lns, fld]
        refine vCall_of (hV) ?_ ?_ ?_; (focus simp only [go_sem, fld]); (focus simp only [go_sem, fld])
        simp only [go_sem, ent, lns]
        refine vCall_of (hG) ?_ ?_ ?_; (focus simp only [go_sem, lns]); (focus simp only [go_sem, lns])
        simp only [go_sem, hi, refs, ref, List.map_cons, List.map_nil]
        refine vCall_of (hE0) ?_ ?_ ?_; (focus simp only [go_sem, ents, ref]); (focus simp only [go_sem, ents, ref])
        simp only [go_sem, eptc, Option.getD_some, Option.isSome_some, ent, entc, fromM, hvm]
  ·
    have hg : goesR ⟨7, at', nm, ot, fac, fd, fo, ba⟩ = [at'] := by simp [goesR]
    rw [hg] at hG ⊢
    rw [if_neg (fun h => by rcases h with h | ⟨h, _⟩ <;> exact absurd h (by decide))]
    have hE0 := hE at'
    simp only [List.getD_cons_zero, List.getD_cons_succ]
    cases hq : entM es at' with
    | none =>
      rw [hq] at hE0
      refine PL.Pure.of_v Tryz.func189 (by decide) rfl Tryz.ntmps189 Tryz.results189 (by simp) (entc_dids _) ?_
      simp only [go_sem, lns, fld]
      refine vCall_of (hV) ?_ ?_ ?_; (focus simp only [go_sem, fld]); (focus simp only [go_sem, fld])
      simp only [go_sem, ent, lns]
      refine vCall_of (hG) ?_ ?_ ?_; (focus simp only [go_sem, lns]); (focus simp only [go_sem, lns])
      simp only [go_sem, refs, ref, List.map_cons, List.map_nil]
      refine vCall_of (hE0) ?_ ?_ ?_; (focus simp only [go_sem, ents, ref]); (focus simp only [go_sem, ents, ref])
      simp only [go_sem, eptc, Option.getD_none, Option.isSome_none, entc, ent]
      rfl
    | some e =>
      rw [hq] at hE0
      have hel := hmem _ e hq
      by_cases h0 : 0 < (e.l.length : Int)
      · have h00 : 0 < e.l.length := by omega
        have gs := getD_str h00
        cases hb : (e.l.getD 0 [] == ot)
        · have hc : ¬ e.l.getD 0 [] = ot := by simpa using hb
          refine PL.Pure.of_v Tryz.func189 (by decide) rfl Tryz.ntmps189 Tryz.results189 (by simp) (entc_dids _) ?_
          simp only [go_sem, lns, fld]
          refine vCall_of (hV) ?_ ?_ ?_; (focus simp only [go_sem, fld]); (focus simp only [go_sem, fld])
          simp only [go_sem, ent, lns]
          refine vCall_of (hG) ?_ ?_ ?_; (focus simp only [go_sem, lns]); (focus simp only [go_sem, lns])
          simp only [go_sem, refs, ref, List.map_cons, List.map_nil]
          refine vCall_of (hE0) ?_ ?_ ?_; (focus simp only [go_sem, ents, ref]); (focus simp only [go_sem, ents, ref])
          simp only [go_sem, eptc, Option.getD_some, Option.isSome_some, ent]
          refine vDrawQ (by kernel_rfl) (by kernel_rfl) ?_
          simp only [go_sem, h0, gs, List.length_map, hb, Bool.not_true, Bool.not_false]
          have hcut : PL.cut (e.l.map PV.str) 0 1 = [.str (e.l.getD 0 [])] := by rcases hl : e.l with _ | ⟨a, t⟩ <;> simp_all [PL.cut]
          have h1 : (1 : Int) ≤ (e.l.length : Int) := by omega
          simp only [go_sem, h1, hcut, sized_str, entc, ent, fromM, hvm, h0, hc, List.map_cons, List.map_nil]
        · have hc :  e.l.getD 0 [] = ot := by simpa using hb
          refine PL.Pure.of_v Tryz.func189 (by decide) rfl Tryz.ntmps189 Tryz.results189 (by simp) (entc_dids _) ?_
          simp only [go_sem, lns, fld]
          refine vCall_of (hV) ?_ ?_ ?_; (focus simp only [go_sem, fld]); (focus simp only [go_sem, fld])
          simp only [go_sem, ent, lns]
          refine vCall_of (hG) ?_ ?_ ?_; (focus simp only [go_sem, lns]); (focus simp only [go_sem, lns])
          simp only [go_sem, refs, ref, List.map_cons, List.map_nil]
          refine vCall_of (hE0) ?_ ?_ ?_; (focus simp only [go_sem, ents, ref]); (focus simp only [go_sem, ents, ref])
          simp only [go_sem, eptc, Option.getD_some, Option.isSome_some, ent]
          refine vDrawQ (by kernel_rfl) (by kernel_rfl) ?_
          simp only [go_sem, h0, gs, List.length_map, hb, Bool.not_true, Bool.not_false]
          simp only [go_sem, entc, ent, fromM, hvm, h0, hc, List.map_nil]
          rfl
      · refine PL.Pure.of_v Tryz.func189 (by decide) rfl Tryz.ntmps189 Tryz.results189 (by simp) (entc_dids _) ?_
        simp only [go_sem, lns, fld]
        refine vCall_of (hV) ?_ ?_ ?_; (focus simp only [go_sem, fld]); (focus simp only [go_sem, fld])
        simp only [go_sem, ent, lns]
        refine vCall_of (hG) ?_ ?_ ?_; (focus simp only [go_sem, lns]); (focus simp only [go_sem, lns])
        simp only [go_sem, refs, ref, List.map_cons, List.map_nil]
        refine vCall_of (hE0) ?_ ?_ ?_; (focus simp only [go_sem, ents, ref]); (focus simp only [go_sem, ents, ref])
        simp only [go_sem, eptc, Option.getD_some, Option.isSome_some, ent]
        refine vDrawQ (by kernel_rfl) (by kernel_rfl) ?_
        simp only [go_sem, h0, List.length_map, entc, ent, fromM, hvm, List.map_nil]
        rfl
  ·
    have hg : goesR ⟨8, at', nm, ot, fac, fd, fo, ba⟩ = [at'] := by simp [goesR]
    rw [hg] at hG ⊢
    rw [if_neg (fun h => by rcases h with h | ⟨h, _⟩ <;> exact absurd h (by decide))]
    have hE0 := hE at'
    simp only [List.getD_cons_zero, List.getD_cons_succ]
    cases hq : entM es at' with
    | none =>
      rw [hq] at hE0
      refine PL.Pure.of_v Tryz.func189 (by decide) rfl Tryz.ntmps189 Tryz.results189 (by simp) (entc_dids _) ?_
      simp only [go_sem, lns, fld]
      refine vCall_of (hV) ?_ ?_ ?_; (focus simp only [go_sem, fld]); (focus simp only [go_sem, fld])
      simp only [go_sem, ent, lns]
      refine vCall_of (hG) ?_ ?_ ?_; (focus simp only [go_sem, lns]); (focus simp only [go_sem, lns])
      simp only [go_sem, refs, ref, List.map_cons, List.map_nil]
      refine vCall_of (hE0) ?_ ?_ ?_; (focus simp only [go_sem, ents, ref]); (focus simp only [go_sem, ents, ref])
      simp only [go_sem, eptc, Option.getD_none, Option.isSome_none, entc, ent]
      rfl
    | some e =>
      rw [hq] at hE0
      have hel := hmem _ e hq
      by_cases h0 : 0 < (e.l.length : Int)
      · have h00 : 0 < e.l.length := by omega
        have gs := getD_str h00
        have hC := Case_pure fo (e.l.getD 0 []) hfo
        refine PL.Pure.of_v Tryz.func189 (by decide) rfl Tryz.ntmps189 Tryz.results189 (by simp) (entc_dids _) ?_
        simp only [go_sem, lns, fld]
        refine vCall_of (hV) ?_ ?_ ?_; (focus simp only [go_sem, fld]); (focus simp only [go_sem, fld])
        simp only [go_sem, ent, lns]
        refine vCall_of (hG) ?_ ?_ ?_; (focus simp only [go_sem, lns]); (focus simp only [go_sem, lns])
        simp only [go_sem, refs, ref, List.map_cons, List.map_nil]
        refine vCall_of (hE0) ?_ ?_ ?_; (focus simp only [go_sem, ents, ref]); (focus simp only [go_sem, ents, ref])
        simp only [go_sem, eptc, Option.getD_some, Option.isSome_some, ent, h0, List.length_map]
        refine vDrawQ (by kernel_rfl) (by kernel_rfl) ?_
        simp only [go_sem, h0, gs, List.length_map]
        refine vCall_of (hC) ?_ ?_ ?_; (focus simp only [go_sem, prs]); (focus simp only [go_sem, prs])
        simp only [go_sem, strb, entc, ent, fromM, hvm, h0, List.map_cons, List.map_nil]
      · refine PL.Pure.of_v Tryz.func189 (by decide) rfl Tryz.ntmps189 Tryz.results189 (by simp) (entc_dids _) ?_
        simp only [go_sem, lns, fld]
        refine vCall_of (hV) ?_ ?_ ?_; (focus simp only [go_sem, fld]); (focus simp only [go_sem, fld])
        simp only [go_sem, ent, lns]
        refine vCall_of (hG) ?_ ?_ ?_; (focus simp only [go_sem, lns]); (focus simp only [go_sem, lns])
        simp only [go_sem, refs, ref, List.map_cons, List.map_nil]
        refine vCall_of (hE0) ?_ ?_ ?_; (focus simp only [go_sem, ents, ref]); (focus simp only [go_sem, ents, ref])
        simp only [go_sem, eptc, Option.getD_some, Option.isSome_some, ent, h0, List.length_map, entc, fromM, hvm]
  ·
    have hg : goesR ⟨9, at', nm, ot, fac, fd, fo, ba⟩ = [named at' nm, named at' ot] := by simp [goesR]
    rw [hg] at hG ⊢
    rw [if_neg (fun h => by rcases h with h | ⟨h, _⟩ <;> exact absurd h (by decide))]
    have hE0 := hE (named at' nm)
    simp only [List.getD_cons_zero, List.getD_cons_succ]
    cases hq : entM es (named at' nm) with
    | none =>
      rw [hq] at hE0
      refine PL.Pure.of_v Tryz.func189 (by decide) rfl Tryz.ntmps189 Tryz.results189 (by simp) (entc_dids _) ?_
      simp only [go_sem, lns, fld]
      refine vCall_of (hV) ?_ ?_ ?_; (focus simp only [go_sem, fld]); (focus simp only [go_sem, fld])
      simp only [go_sem, ent, lns]
      refine vCall_of (hG) ?_ ?_ ?_; (focus simp only [go_sem, lns]); (focus simp only [go_sem, lns])
      simp only [go_sem, refs, ref, List.map_cons, List.map_nil]
      refine vCall_of (hE0) ?_ ?_ ?_; (focus simp only [go_sem, ents, ref]); (focus simp only [go_sem, ents, ref])
      simp only [go_sem, eptc, Option.getD_none, Option.isSome_none, entc, ent]
      rfl
    | some e =>
      rw [hq] at hE0
      have hel := hmem _ e hq
      have hE1 := hE (named at' ot)
      cases hq1 : entM es (named at' ot) with
      | none =>
        rw [hq1] at hE1
        refine PL.Pure.of_v Tryz.func189 (by decide) rfl Tryz.ntmps189 Tryz.results189 (by simp) (entc_dids _) ?_
        simp only [go_sem, lns, fld]
        refine vCall_of (hV) ?_ ?_ ?_; (focus simp only [go_sem, fld]); (focus simp only [go_sem, fld])
        simp only [go_sem, ent, lns]
        refine vCall_of (hG) ?_ ?_ ?_; (focus simp only [go_sem, lns]); (focus simp only [go_sem, lns])
        simp only [go_sem, refs, ref, List.map_cons, List.map_nil]
        refine vCall_of (hE0) ?_ ?_ ?_; (focus simp only [go_sem, ents, ref]); (focus simp only [go_sem, ents, ref])
        simp only [go_sem, eptc, Option.getD_some, Option.isSome_some, ent]
        refine vCall_of (hE1) ?_ ?_ ?_; (focus simp only [go_sem, ents, ref]); (focus simp only [go_sem, ents, ref])
        simp only [go_sem, eptc, Option.getD_none, Option.isSome_none, entc, ent]
        rfl
      | some e2 =>
        rw [hq1] at hE1
        have hM := pmerged_pure e.n e2.n fac
        simp only [if_true]
        generalize mergI e.n e2.n fac = mg at *
        obtain ⟨mv, mc⟩ := mg
        simp only at hM ⊢
        by_cases hc : mc = 0
        · subst hc
          refine PL.Pure.of_v Tryz.func189 (by decide) rfl Tryz.ntmps189 Tryz.results189 (by simp) (entc_dids _) ?_
          simp only [go_sem, lns, fld]
          refine vCall_of (hV) ?_ ?_ ?_; (focus simp only [go_sem, fld]); (focus simp only [go_sem, fld])
          simp only [go_sem, ent, lns]
          refine vCall_of (hG) ?_ ?_ ?_; (focus simp only [go_sem, lns]); (focus simp only [go_sem, lns])
          simp only [go_sem, refs, ref, List.map_cons, List.map_nil]
          refine vCall_of (hE0) ?_ ?_ ?_; (focus simp only [go_sem, ents, ref]); (focus simp only [go_sem, ents, ref])
          simp only [go_sem, eptc, Option.getD_some, Option.isSome_some, ent]
          refine vCall_of (hE1) ?_ ?_ ?_; (focus simp only [go_sem, ents, ref]); (focus simp only [go_sem, ents, ref])
          simp only [go_sem, eptc, Option.getD_some, Option.isSome_some, ent]
          refine vCall_of (hM) ?_ ?_ ?_; (focus simp only [go_sem]); (focus simp only [go_sem])
          simp only [go_sem, intc, entc, ent]
        · have hc' : (mc != 0) = true := bne_iff_ne.2 hc
          rw [if_neg hc]
          refine PL.Pure.of_v Tryz.func189 (by decide) rfl Tryz.ntmps189 Tryz.results189 (by simp) (entc_dids _) ?_
          simp only [go_sem, lns, fld]
          refine vCall_of (hV) ?_ ?_ ?_; (focus simp only [go_sem, fld]); (focus simp only [go_sem, fld])
          simp only [go_sem, ent, lns]
          refine vCall_of (hG) ?_ ?_ ?_; (focus simp only [go_sem, lns]); (focus simp only [go_sem, lns])
          simp only [go_sem, refs, ref, List.map_cons, List.map_nil]
          refine vCall_of (hE0) ?_ ?_ ?_; (focus simp only [go_sem, ents, ref]); (focus simp only [go_sem, ents, ref])
          simp only [go_sem, eptc, Option.getD_some, Option.isSome_some, ent]
          refine vCall_of (hE1) ?_ ?_ ?_; (focus simp only [go_sem, ents, ref]); (focus simp only [go_sem, ents, ref])
          simp only [go_sem, eptc, Option.getD_some, Option.isSome_some, ent]
          refine vCall_of (hM) ?_ ?_ ?_; (focus simp only [go_sem]); (focus simp only [go_sem])
          simp only [go_sem, intc, hc', entc, ent]
          rfl
  ·
    have hg : goesR ⟨10, at', nm, ot, fac, fd, fo, ba⟩ = [at'] := by simp [goesR]
    rw [hg] at hG ⊢
    rw [if_neg (fun h => by rcases h with h | ⟨h, _⟩ <;> exact absurd h (by decide))]
    have hE0 := hE at'
    simp only [List.getD_cons_zero, List.getD_cons_succ]
    cases hq : entM es at' with
    | none =>
      rw [hq] at hE0
      refine PL.Pure.of_v Tryz.func189 (by decide) rfl Tryz.ntmps189 Tryz.results189 (by simp) (entc_dids _) ?_
      simp only [go_sem, lns, fld]
      refine vCall_of (hV) ?_ ?_ ?_; (focus simp only [go_sem, fld]); (focus simp only [go_sem, fld])
      simp only [go_sem, ent, lns]
      refine vCall_of (hG) ?_ ?_ ?_; (focus simp only [go_sem, lns]); (focus simp only [go_sem, lns])
      simp only [go_sem, refs, ref, List.map_cons, List.map_nil]
      refine vCall_of (hE0) ?_ ?_ ?_; (focus simp only [go_sem, ents, ref]); (focus simp only [go_sem, ents, ref])
      simp only [go_sem, eptc, Option.getD_none, Option.isSome_none, entc, ent]
      rfl
    | some e =>
      rw [hq] at hE0
      have hel := hmem _ e hq
      by_cases h0 : 0 < (e.l.length : Int)
      · have h00 : 0 < e.l.length := by omega
        have w1 : IntKind.i64.wrap ((e.l.length : Int) - 1) = ((e.l.length - 1 : Nat) : Int) := by rw [w64 (by omega)]; omega
        have gs := getD_str (show e.l.length - 1 < e.l.length by omega)
        have j1 : (0 : Int) ≤ ((e.l.length - 1 : Nat) : Int) := by omega
        have j2 : ((e.l.length - 1 : Nat) : Int) < (e.l.length : Int) := by omega
        refine PL.Pure.of_v Tryz.func189 (by decide) rfl Tryz.ntmps189 Tryz.results189 (by simp) (entc_dids _) ?_
        simp only [go_sem, lns, fld]
        refine vCall_of (hV) ?_ ?_ ?_; (focus simp only [go_sem, fld]); (focus simp only [go_sem, fld])
        simp only [go_sem, ent, lns]
        refine vCall_of (hG) ?_ ?_ ?_; (focus simp only [go_sem, lns]); (focus simp only [go_sem, lns])
        simp only [go_sem, refs, ref, List.map_cons, List.map_nil]
        refine vCall_of (hE0) ?_ ?_ ?_; (focus simp only [go_sem, ents, ref]); (focus simp only [go_sem, ents, ref])
        simp only [go_sem, eptc, Option.getD_some, Option.isSome_some, ent, h0, List.length_map, w1, j1, j2, gs, entc, fromM, hvm, List.map_cons, List.map_nil]
      · refine PL.Pure.of_v Tryz.func189 (by decide) rfl Tryz.ntmps189 Tryz.results189 (by simp) (entc_dids _) ?_
        simp only [go_sem, lns, fld]
        refine vCall_of (hV) ?_ ?_ ?_; (focus simp only [go_sem, fld]); (focus simp only [go_sem, fld])
        simp only [go_sem, ent, lns]
        refine vCall_of (hG) ?_ ?_ ?_; (focus simp only [go_sem, lns]); (focus simp only [go_sem, lns])
        simp only [go_sem, refs, ref, List.map_cons, List.map_nil]
        refine vCall_of (hE0) ?_ ?_ ?_; (focus simp only [go_sem, ents, ref]); (focus simp only [go_sem, ents, ref])
        simp only [go_sem, eptc, Option.getD_some, Option.isSome_some, ent, h0, List.length_map, entc, fromM, hvm]
end Go.Proofs.YtnadlkjmdimjkaaGreat
