/- Contracts of functions and laws of this seat, each for every input that it names: lemmas of the proof. -/
import Derived.Test.YtnadlkjmdimjkaaGreatXCj
import Derived.Test.YtnadlkjmdimjkaaGreatXBk
set_option linter.unusedSimpArgs false
set_option linter.unusedVariables false
set_option linter.unusedSimpArgs false
set_option linter.unusedVariables false
namespace Go.Proofs.YtnadlkjmdimjkaaGreat
open Go.PL
set_option maxHeartbeats 2000000 in
theorem invR_invR {x : Ln} (hx : rightLn x = true) : invR (invR x) = x := by
  have hk := (rightLn_kind hx).1
  obtain ⟨kind, ⟨sc, gr, n0⟩, nm, ot, fac, fd, fo, ba⟩ := x
  simp only at hk
  rcases hk with rfl | rfl | rfl | rfl | rfl | rfl | rfl | rfl | rfl | rfl
  all_goals simp [invR, rightLn] at hx ⊢
  all_goals simp_all
/-- an op's field, as far as the way back needs it -/
def FitP (l : List Fd) (o : Opn) : Prop := ∃ f, findF l o.at' = (f, 0) ∧ placedB o = true ∧ (o.kind = 3 ↔ f.kind = 1) ∧ (o.has = true → f.kind = 3 → f.cases'.any (· == o.text) = true)
theorem fitP_of {l : List Fd} {o : Opn} (h : fitsO l o = true) (hp : placedB o = true) : FitP l o := by
  obtain ⟨f0, f1, f2, f3⟩ := fitsO_place h hp
  have hfe : findF l o.at' = ((findF l o.at').1, 0) := Prod.ext rfl f0
  refine ⟨_, hfe, hp, ⟨f1, fun hk => fits_counter h hp hfe hk⟩, fun hh hk => ?_⟩
  by_cases k3 : o.kind = 3
  · have := f1 k3; omega
  · have := f2 k3 hh
    simp only [fitsF, hk, if_true, Bool.and_eq_true] at this
    exact this.2
theorem placed_kinds {o : Opn} (h : placedB o = true) : o.kind = 3 ∨ o.kind = 4 := by simpa [placedB] using h
set_option maxHeartbeats 4000000 in
theorem kept_step {l m : List Fd} {x : Ln} {o : Opn} (ha : applyM l x = (m, 0)) (hf : FitP l o) (hk : keptM x o.at' = true) :
    ∃ p, overM x o = (p, true) ∧ FitP m p ∧ overM (invR x) p = (o, true) ∧ traceM x o.at' = (p.at', true) := by
  obtain ⟨hl, hx, cs, l1, e1, e2, e3⟩ := apply_fwd ha
  obtain ⟨a1, a2, a3, a4, a5⟩ := go_fwd hl e2
  obtain ⟨b1, b2, b3, b4, b5⟩ := come_fwd a1 e3
  have hkd := (rightLn_kind hx).1
  have hy := right_inv hx hkd
  obtain ⟨i1, i2⟩ := inv_places hx
  have hpl := arr_places hkd e1
  have hm := (right_iff.1 b1).2
  obtain ⟨f, hfe, hp, h3, hc3⟩ := hf
  have pk := placed_kinds hp
  have hfl := find_zero (l := l) (r := o.at') (by rw [hfe])
  rw [hfe] at hfl
  simp only at hfl
  obtain ⟨fm, fa⟩ := hfl
  have coming : ∀ g ∈ cs, findF m g.at' = (g, 0) := fun g hg => find_mem hm.1 ((b2 g).2 (.inr hg))
  have hov := over_placed hx hp
  have hkk : keptM x o.at' = if placeI (goesR x) o.at' < 0 then true else if x.kind = 1 ∨ x.kind = 4 ∨ x.kind = 5 ∨ x.kind = 6 ∨ x.kind = 7 ∨ x.kind = 10 then true
      else if x.kind = 9 then placeI (goesR x) o.at' == 0 else if x.kind = 8 then roundM x.fo x.ba else false := by
    unfold keptM
    rw [if_neg (by rw [hx]; simp)]
    rfl
  by_cases hg : placeI (goesR x) o.at' < 0
  · rw [if_pos hg] at hov
    have hf1 : f ∈ l1 := (a2 f).2 ⟨fm, by rw [fa]; exact placeI_neg hg⟩
    have hfm := find_mem hm.1 ((b2 f).2 (.inl hf1))
    rw [fa] at hfm
    refine ⟨o, hov, ⟨f, hfm, hp, h3, hc3⟩, ?_, trace_stay hx (placeI_neg hg)⟩
    rw [over_placed hy hp, i1, if_pos]
    rw [placeI_not]
    · omega
    · intro hc
      rw [← hpl] at hc
      obtain ⟨c, hc1, hc2⟩ := List.mem_map.1 hc
      exact (b3 c hc1).2 f hf1 (by rw [fa, hc2])
  · rw [if_neg hg] at hov
    rw [hkk, if_neg hg] at hk
    have hin : o.at' ∈ goesR x := by
      obtain ⟨g, _, g2, g3⟩ := placeI_pos hg
      rw [← g3]; exact getD_mem g2
    have tr' : ∀ c0 cs', comesR x = c0 :: cs' → traceM x o.at' = (c0, true) := fun c0 cs' hc => by
      rw [trace_go hx hin, hc]; simp
    have back : ∀ (p : Opn) (c0 : Rf) (cs' : List Rf), comesR x = c0 :: cs' → p.at' = c0 → placedB p = true → becomeM (invR x) p = (p, true) → overM (invR x) p = (movedO p ((goesR x).getD 0 default), true) := fun p c0 cs' hc hpa hpp hb => by
      rw [over_placed hy hpp, i1, i2, hc, hpa, placeI_self, if_neg (by omega), hb]
      simp
    have pm : ∀ r, placedB (movedO o r) = true := fun r => hp
    have cm : ∀ (r : Rf) (g : Fd), g ∈ cs → g.at' = r → (o.kind = 3 ↔ g.kind = 1) → (o.has = true → g.kind = 3 → g.cases'.any (· == o.text) = true) → FitP m (movedO o r) := fun r g hg hr h1 h2 => by
      subst hr
      exact ⟨g, coming g hg, hp, h1, h2⟩
    clear b4 b5 a3 a4 a5
    obtain ⟨kind, at', nm, ot, fac, fd, fo, ba⟩ := x
    simp only at hkd
    rcases hkd with rfl | rfl | rfl | rfl | rfl | rfl | rfl | rfl | rfl | rfl
    · have hat : at' = o.at' := placeI_one (by simpa [goesR] using hg)
      subst hat
      simp [arrM, comesR, hfe] at e1
      have hc : comesR ⟨1, o.at', nm, ot, fac, fd, fo, ba⟩ = [named o.at' nm] := by simp [comesR]
      refine ⟨movedO o (named o.at' nm), by rw [hov]; simp [becomeM, hc], cm _ ⟨named o.at' nm, f.kind, f.df, f.cases', f.worth⟩ (by rw [← e1]; simp) rfl h3 hc3, ?_, tr' _ _ hc⟩
      rw [back (movedO o (named o.at' nm)) _ _ hc rfl (pm _) (by simp [becomeM, invR])]
      simp [goesR, moved_back]
    · exact absurd (show placeI (goesR ⟨2, at', nm, ot, fac, fd, fo, ba⟩) o.at' < 0 from (by decide : (-1 : Int) < 0)) hg
    · simp at hk
    · have hat : at' = o.at' := placeI_one (by simpa [goesR] using hg)
      subst hat
      simp [arrM, comesR, hfe] at e1
      have hc : comesR ⟨4, o.at', nm, ot, fac, fd, fo, ba⟩ = [⟨o.at'.sc, [], o.at'.nm⟩] := by simp [comesR]
      refine ⟨movedO o ⟨o.at'.sc, [], o.at'.nm⟩, by rw [hov]; simp [becomeM, hc], cm _ ⟨⟨o.at'.sc, [], o.at'.nm⟩, f.kind, f.df, f.cases', f.worth⟩ (by rw [← e1]; simp) rfl h3 hc3, ?_, tr' _ _ hc⟩
      rw [back (movedO o ⟨o.at'.sc, [], o.at'.nm⟩) _ _ hc rfl (pm _) (by simp [becomeM, invR])]
      simp [goesR, moved_back]
    · have hat : at' = o.at' := placeI_one (by simpa [goesR] using hg)
      subst hat
      simp [arrM, comesR, hfe] at e1
      have hc : comesR ⟨5, o.at', nm, ot, fac, fd, fo, ba⟩ = [⟨o.at'.sc, nm, o.at'.nm⟩] := by simp [comesR]
      refine ⟨movedO o ⟨o.at'.sc, nm, o.at'.nm⟩, by rw [hov]; simp [becomeM, hc], cm _ ⟨⟨o.at'.sc, nm, o.at'.nm⟩, f.kind, f.df, f.cases', f.worth⟩ (by rw [← e1]; simp) rfl h3 hc3, ?_, tr' _ _ hc⟩
      rw [back (movedO o ⟨o.at'.sc, nm, o.at'.nm⟩) _ _ hc rfl (pm _) (by simp [becomeM, invR])]
      simp [goesR, moved_back]
    · have hat : at' = o.at' := placeI_one (by simpa [goesR] using hg)
      subst hat
      simp [arrM, hfe] at e1
      have k3 := h3.2 e1.2
      have hc : comesR ⟨6, o.at', nm, ot, fac, fd, fo, ba⟩ = [named o.at' nm, named o.at' ot] := by simp [comesR]
      refine ⟨movedO o (named o.at' nm), by rw [hov]; simp [becomeM, hc, k3], cm _ ⟨named o.at' nm, 1, [], [], f.worth⟩ (by rw [← e1.1]; simp) rfl (by simp [k3]) (fun _ h => by simp at h), ?_, tr' _ _ hc⟩
      have hb : becomeM (invR ⟨6, o.at', nm, ot, fac, fd, fo, ba⟩) (movedO o (named o.at' nm)) = (movedO o (named o.at' nm), true) := by
        have hpi : placeI (goesR (invR ⟨6, o.at', nm, ot, fac, fd, fo, ba⟩)) (movedO o (named o.at' nm)).at' = 0 := by rw [i1, hc]; exact placeI_self _ _
        unfold becomeM
        rw [hpi]
        simp [invR, mergeD, movedO, deltaO, k3]
      rw [back (movedO o (named o.at' nm)) _ _ hc rfl (pm _) hb]
      simp [goesR, moved_back]
    · have hat : at' = o.at' := placeI_one (by simpa [goesR] using hg)
      subst hat
      simp [arrM, hfe] at e1
      have k4 : o.kind = 4 := by
        rcases pk with h | h
        · have := h3.1 h; omega
        · exact h
      have hc : comesR ⟨7, o.at', nm, ot, fac, fd, fo, ba⟩ = [o.at'] := by simp [comesR]
      refine ⟨movedO o o.at', by rw [hov]; simp [becomeM, hc, k4], cm _ ⟨o.at', 4, [], [], 0⟩ (by rw [← e1.1]; simp) rfl (by simp [k4]) (fun _ h => by simp at h), ?_, tr' _ _ hc⟩
      rw [back (movedO o o.at') _ _ hc rfl (pm _) (by simp [becomeM, invR, movedO, k4])]
      simp [goesR, moved_back]
    · have hat : at' = o.at' := placeI_one (by simpa [goesR] using hg)
      subst hat
      simp [arrM, hfe] at e1
      have k4 : o.kind = 4 := by
        rcases pk with h | h
        · have := h3.1 h; rw [e1.2] at this; simp at this
        · exact h
      have hkp : roundM fo ba = true := by simpa using hk
      have hc : comesR ⟨8, o.at', nm, ot, fac, fd, fo, ba⟩ = [o.at'] := by simp [comesR]
      have hg8 : (⟨o.at', 3, ot, fromsM ba, 0⟩ : Fd) ∈ cs := by rw [← e1.1]; simp
      cases hh : o.has
      · have hcv : convT o fo = (o.text, true) := by unfold convT; rw [if_neg (by omega), if_pos hh]
        have hto : textO o o.text = o := by cases o; rfl
        refine ⟨movedO o o.at', by rw [hov]; simp [becomeM, hc, hcv, hto], cm _ _ hg8 rfl (by simp [k4]) (fun h _ => by rw [hh] at h; cases h), ?_, tr' _ _ hc⟩
        have hb : becomeM (invR ⟨8, o.at', nm, ot, fac, fd, fo, ba⟩) (movedO o o.at') = (movedO o o.at', true) := by
          have hcv2 : convT (movedO o o.at') ba = (o.text, true) := by unfold convT; rw [if_neg (by simp [movedO, k4]), if_pos (by exact hh)]; rfl
          have hto2 : textO (movedO o o.at') o.text = movedO o o.at' := by cases o; rfl
          simp [becomeM, invR, hcv2, hto2]
        rw [back (movedO o o.at') _ _ hc rfl (pm _) hb]
        simp [goesR, moved_back]
      · have hfr : hasFr fo o.text = true := by
          rw [← has_froms]
          have := hc3 hh (by rw [e1.2])
          rw [e1.2] at this
          exact this
        have hcs : (caseM fo o.text).2 = true := by rw [caseM_snd]; exact hfr
        have hcv : convT o fo = caseM fo o.text := by unfold convT; rw [if_neg (by omega), if_neg (by rw [hh]; simp)]
        obtain ⟨_, hr⟩ := round_at hkp hfr
        have hin2 : (fromsM ba).any (· == (caseM fo o.text).1) = true := by rw [has_froms, ← caseM_snd, hr]
        refine ⟨movedO (textO o (caseM fo o.text).1) o.at', by rw [hov]; simp [becomeM, hc, hcv, hcs], ⟨_, coming _ hg8, hp, by simp [movedO, textO, k4], fun _ _ => hin2⟩, ?_, tr' _ _ hc⟩
        have hb : becomeM (invR ⟨8, o.at', nm, ot, fac, fd, fo, ba⟩) (movedO (textO o (caseM fo o.text).1) o.at') = (textO (movedO (textO o (caseM fo o.text).1) o.at') o.text, true) := by
          have : convT (movedO (textO o (caseM fo o.text).1) o.at') ba = (o.text, true) := by
            unfold convT
            rw [if_neg (by simp [movedO, textO, k4]), if_neg (by simp [movedO, textO, hh])]
            exact hr
          simp [becomeM, invR, this]
        rw [over_placed hy (by exact hp), i1, i2, hc, hb]
        have hpi : placeI [o.at'] (movedO (textO o (caseM fo o.text).1) o.at').at' = 0 := placeI_self _ _
        rw [hpi, if_neg (by omega)]
        simp [goesR]
        cases o; rfl
    · simp [arrM, mergedM] at e1
      have hgo : goesR ⟨9, at', nm, ot, fac, fd, fo, ba⟩ = [named at' nm, named at' ot] := by simp [goesR]
      have hc : comesR ⟨9, at', nm, ot, fac, fd, fo, ba⟩ = [at'] := by simp [comesR]
      rw [hgo] at hg hk
      obtain ⟨g, hg1, hg2, hg3⟩ := placeI_pos hg
      have h0 : g = 0 := by simp [hg1] at hk; exact hk
      subst h0
      have hat : named at' nm = o.at' := by simpa using hg3
      split at e1
      · simp at e1
      split at e1
      · simp at e1
      · rename_i u1 u2
        simp only [not_or, Decidable.not_not] at u1 u2
        simp only [Prod.mk.injEq, and_true] at e1
        have hf1 : f.kind = 1 := by have := u1.2; rw [hat, hfe] at this; exact this
        have k3 := h3.2 hf1
        have hb2 : becomeM ⟨9, at', nm, ot, fac, fd, fo, ba⟩ o = (o, true) := by
          have hd0 : deltaO o o.delta = o := by cases o; rfl
          simp [becomeM, hgo, hg1, mergeD, k3, hd0]
        refine ⟨movedO o at', by rw [hov, hb2]; simp [hc], cm _ ⟨at', 1, [], [], (findF l (named at' nm)).1.worth⟩ (by rw [← e1]; simp) rfl (by simp [k3]) (fun _ h => by simp at h), ?_, tr' _ _ hc⟩
        rw [back (movedO o at') _ _ hc rfl (pm _) (by simp [becomeM, invR, movedO, k3])]
        rw [hgo]
        simp only [List.getD_cons_zero]
        rw [hat, moved_back]
    · have hat : at' = o.at' := placeI_one (by simpa [goesR] using hg)
      subst hat
      simp [arrM, hfe] at e1
      have k4 : o.kind = 4 := by
        rcases pk with h | h
        · have := h3.1 h; omega
        · exact h
      have hc : comesR ⟨10, o.at', nm, ot, fac, fd, fo, ba⟩ = [o.at'] := by simp [comesR]
      refine ⟨movedO o o.at', by rw [hov]; simp [becomeM, hc, k4], cm _ ⟨o.at', 2, ot, [], 0⟩ (by rw [← e1.1]; simp) rfl (by simp [k4]) (fun _ h => by simp at h), ?_, tr' _ _ hc⟩
      rw [back (movedO o o.at') _ _ hc rfl (pm _) (by simp [becomeM, invR, movedO, k4])]
      simp [goesR, moved_back]
theorem alongO_append (xs ys : List Ln) (o : Opn) : alongO (xs ++ ys) o = if (alongO xs o).2 = false then (default, false) else alongO ys (alongO xs o).1 := by
  induction xs generalizing o with
  | nil => simp [alongO]
  | cons x xs ih =>
    rw [List.cons_append, alongO_cons, alongO_cons]
    split
    · simp
    · exact ih _
/-- over a row and back, where the place is kept -/
theorem kept_along : ∀ (xs : List Ln) {l m : List Fd} {o : Opn}, foldL xs l = some m → FitP l o → keptL xs o.at' = true → ∃ p, alongO xs o = (p, true) ∧ alongO (xs.map invR).reverse p = (o, true)
  | [], l, m, o, _, _, _ => ⟨o, rfl, rfl⟩
  | x :: xs, l, m, o, hf, hfit, hk => by
    rw [keptL_cons] at hk
    split at hk
    · cases hk
    · rename_i hz
      unfold foldL at hf
      split at hf
      · cases hf
      · rename_i ha
        obtain ⟨p, p1, p2, p3, p4⟩ := kept_step (m := (applyM l x).1) (Prod.ext rfl (Classical.not_not.1 ha)) hfit (by simpa using hz)
        rw [p4, if_neg (by simp)] at hk
        obtain ⟨q, q1, q2⟩ := kept_along xs hf p2 hk
        refine ⟨q, by rw [alongO_cons, p1, if_neg (by simp)]; exact q1, ?_⟩
        rw [List.map_cons, List.reverse_cons, alongO_append, q2, if_neg (by simp), alongO_cons, p3]
        rfl
theorem over_plain {x : Ln} {o : Opn} (hx : rightLn x = true) (h : placedB o = false) : overM x o = (o, true) := by
  unfold overM
  rw [if_neg (by rw [hx]; simp), if_pos]
  simpa [placedB] using h
theorem along_plain : ∀ (xs : List Ln) {o : Opn}, (∀ x ∈ xs, rightLn x = true) → placedB o = false → alongO xs o = (o, true)
  | [], o, _, _ => rfl
  | x :: xs, o, hx, h => by
    rw [alongO_cons, over_plain (hx x (by simp)) h, if_neg (by simp)]
    exact along_plain xs (fun y hy => hx y (by simp [hy])) h
theorem over_sch (x : Ln) (o : Opn) (t : Tg) : overM x (schO o t) = if (overM x o).2 = false then (default, false) else (schO (overM x o).1 t, true) := by
  have hb : becomeM x (schO o t) = (schO (becomeM x o).1 t, (becomeM x o).2) := by
    unfold becomeM
    repeat' split
    all_goals rfl
  unfold overM
  rw [hb]
  have e1 : (schO o t).kind = o.kind := rfl
  have e2 : (schO o t).at' = o.at' := rfl
  rw [e1, e2]
  repeat' split
  all_goals first | rfl | (simp_all; done) | (rename_i h; simp at h; done) | skip
theorem along_sch : ∀ (xs : List Ln) (o : Opn) (t : Tg), alongO xs (schO o t) = if (alongO xs o).2 = false then (default, false) else (schO (alongO xs o).1 t, true)
  | [], o, t => by simp [alongO]
  | x :: xs, o, t => by
    rw [alongO_cons, alongO_cons, over_sch]
    by_cases h : (overM x o).2 = false
    · simp [h]
    · simp only [h, if_false]
      rw [if_neg (by simp)]
      exact along_sch xs _ t
theorem along_ids : ∀ (xs : List Ln) {o p : Opn}, alongO xs o = (p, true) → p.id = o.id ∧ p.kind = o.kind
  | [], o, p, h => by
    simp only [alongO, Prod.mk.injEq, and_true] at h
    subst h; exact ⟨rfl, rfl⟩
  | x :: xs, o, p, h => by
    rw [alongO_cons] at h
    split at h
    · simp at h
    · rename_i hq
      have hq' : overM x o = ((overM x o).1, true) := Prod.ext rfl (by simpa using hq)
      obtain ⟨a1, _, a3⟩ := over_ids hq'
      obtain ⟨b1, b2⟩ := along_ids xs h
      exact ⟨b1.trans a1, b2.trans a3⟩
theorem row_right {m : List Eg} (hm : OkM m) (hr : RightM m) {a b : Tg} : ∀ x ∈ (rowM m a b).1, rightLn x = true := by
  unfold rowM
  split
  · simp
  · rename_i hc
    have hc := Classical.not_not.1 hc
    obtain ⟨wa, _, _⟩ := live_way (pathC_zero.1 hc).1
    obtain ⟨wb, _, _⟩ := live_way (pathC_zero.1 hc).2
    show ∀ x ∈ lenses m (legsW (wayD m a) (wayD m b)), _
    rw [lenses_way hm.a wa.mem wb.mem]
    have ke : ∀ e ∈ m, rightLn e.ln = true := fun e he => edge_right (hr.r e he)
    intro x hx
    rcases List.mem_append.1 hx with h | h
    · obtain ⟨e, he, rfl⟩ := List.mem_map.1 h
      have := ke e (wa.mem e (List.mem_of_mem_drop (List.mem_reverse.1 he)))
      exact right_inv this (rightLn_kind this).1
    · obtain ⟨e, he, rfl⟩ := List.mem_map.1 h
      exact ke e (wb.mem e (List.mem_of_mem_drop he))
theorem row_back {m : List Eg} (hm : OkM m) (hr : RightM m) {a b : Tg} (hc : pathC m a b = 0) : (rowM m b a).1 = ((rowM m a b).1.map invR).reverse := by
  have hd : pathC m b a = 0 := pathC_zero.2 ⟨(pathC_zero.1 hc).2, (pathC_zero.1 hc).1⟩
  obtain ⟨wa, _, _⟩ := live_way (pathC_zero.1 hc).1
  obtain ⟨wb, _, _⟩ := live_way (pathC_zero.1 hc).2
  unfold rowM
  rw [if_neg (by rw [hd]; simp), if_neg (by rw [hc]; simp)]
  show lenses m (legsW (wayD m b) (wayD m a)) = ((lenses m (legsW (wayD m a) (wayD m b))).map invR).reverse
  rw [lenses_way hm.a wa.mem wb.mem, lenses_way hm.a wb.mem wa.mem, lcp_comm (wayD m b) (wayD m a)]
  have ke : ∀ e ∈ m, invR (invR e.ln) = e.ln := fun e he => invR_invR (edge_right (hr.r e he))
  rw [List.map_append, List.reverse_append, List.map_map, List.map_map]
  congr 1
  · rw [List.map_reverse]; rfl
  · rw [← List.map_reverse, List.reverse_reverse]
    apply List.map_congr_left
    intro e he
    exact (ke e (wa.mem e (List.mem_of_mem_drop he))).symm
/-- there and back -/
theorem round_kept {m : List Eg} (hm : OkM m) (hr : RightM m) {o : Opn} {b : Tg} (hc : checkO m o b = 0) (hk : keptT m o.sch b o.at' = true ∨ placedB o = false) : roundT m o b = ⟨o, true, 0⟩ := by
  obtain ⟨_, h2, h3, h4⟩ := check_zero.1 hc
  have pc : pathC m o.sch b = 0 := pathC_zero.2 ⟨h2, h3⟩
  have pd : pathC m b o.sch = 0 := pathC_zero.2 ⟨h3, h2⟩
  have key : ∃ p, alongO (rowM m o.sch b).1 o = (p, true) ∧ alongO (rowM m b o.sch).1 p = (o, true) := by
    by_cases hp : placedB o = false
    · exact ⟨o, along_plain _ (row_right hm hr) hp, along_plain _ (row_right hm hr) hp⟩
    · have hp' : placedB o = true := by simpa using hp
      have hk' : keptT m o.sch b o.at' = true := by rcases hk with h | h; exact h; exact absurd h hp
      unfold keptT at hk'
      rw [if_neg (by rw [pc]; simp)] at hk'
      rw [row_back hm hr pc]
      exact kept_along _ (row_fold hm hr h2 h3) (fitP_of h4 hp') hk'
  obtain ⟨p, p1, p2⟩ := key
  have ht : toT m o b = ⟨schO p b, true, 0⟩ := by
    unfold toT
    rw [if_neg (by rw [hc]; simp)]
    unfold wayO
    rw [if_neg (by rw [pc]; simp), p1, if_neg (by simp)]
  unfold roundT
  rw [ht, if_neg (by simp)]
  unfold wayO
  simp only
  rw [if_neg (by rw [pd]; simp), along_sch, p2, if_neg (by simp), if_neg (by simp)]
  show SeenT.mk (schO (schO o b) o.sch) true 0 = _
  congr 1
theorem round_code (m : List Eg) (o : Opn) (b : Tg) : (roundT m o b).c = checkO m o b := by
  unfold roundT
  split
  · exact to_code m o b
  · rename_i h
    simp only [not_or, Decidable.not_not] at h
    rw [← to_code m o b, h.1]
theorem round_false {m : List Eg} {o : Opn} {b : Tg} (h : (roundT m o b).c ≠ 0 ∨ (roundT m o b).ok = false) : (roundT m o b).o = default ∧ (roundT m o b).ok = false := by
  unfold roundT at h ⊢
  split
  · exact ⟨rfl, rfl⟩
  · rename_i h1
    rw [if_neg h1] at h
    have : (wayO m b o.sch (toT m o b).o).2 = false := by simpa using h
    exact ⟨by rw [way_false this], this⟩
theorem round_worth {m : List Eg} (hm : OkM m) (hr : RightM m) {o : Opn} {b : Tg} (hc : checkO m o b = 0) (hok : (roundT m o b).ok = true) :
    (roundT m o b).o.id = o.id ∧ (roundT m o b).o.sch = o.sch ∧ worthM (schM (treeOf m) o.sch).1 (roundT m o b).o = worthM (schM (treeOf m) o.sch).1 o := by
  obtain ⟨_, h2, h3, h4⟩ := check_zero.1 hc
  unfold roundT at hok ⊢
  split at hok
  · simp at hok
  · rename_i h1
    rw [if_neg h1]
    simp only [not_or, Decidable.not_not] at h1
    obtain ⟨q, hq, hp⟩ := way_true (p := (wayO m b o.sch (toT m o b).o).1) (Prod.ext rfl hok)
    have ht : (toT m o b).ok = true := by simpa using h1.2
    unfold toT at ht hq
    rw [if_neg (by rw [hc]; simp)] at ht hq
    obtain ⟨r, hr1, hr2⟩ := way_true (p := (wayO m o.sch b o).1) (Prod.ext rfl ht)
    simp only at hq
    rw [hr2, along_sch] at hq
    split at hq
    · simp at hq
    rename_i hs
    have hs' : (alongO (rowM m b o.sch).1 r).2 = true := by simpa using hs
    simp only [Prod.mk.injEq, and_true] at hq
    obtain ⟨i1, k1⟩ := along_ids _ hr1
    obtain ⟨i2, k2⟩ := along_ids (p := (alongO (rowM m b o.sch).1 r).1) (rowM m b o.sch).1 (Prod.ext rfl hs')
    simp only
    rw [hp, ← hq]
    refine ⟨i2.trans i1, rfl, ?_⟩
    rw [worth_sch, worth_sch]
    by_cases k3 : o.kind = 3
    · obtain ⟨w, hw⟩ := Worth.start h4 (sch_right hr h2) k3
      have w1 := hw.along (row_fold hm hr h2 h3) hr1
      have w2 := w1.along (p := (alongO (rowM m b o.sch).1 r).1) (row_fold hm hr h3 h2) (Prod.ext rfl hs')
      rw [w2.val, hw.val]
    · unfold worthM
      rw [if_pos (by rw [k2, k1]; exact k3), if_pos k3]
end Go.Proofs.YtnadlkjmdimjkaaGreat

set_option linter.unusedSimpArgs false
set_option linter.unusedVariables false
set_option linter.unusedSimpArgs false
set_option linter.unusedVariables false
namespace Go.Proofs.YtnadlkjmdimjkaaGreat
open Go.PL
structure AoS (row : List Ln) (o0 : Opn) where
  k : Nat
  o : Opn
  hk : k ≤ row.length
  ok : OkOp o
  h : alongO (row.drop k) o = alongO row o0
def zcells : List PV := [.int .i64 0, .int .i64 0, .int .i64 0, .int .i64 0, .int .i64 0, .str [], .int .i64 0, .str [], .int .i64 0, .str [], .str [], .int .i64 0, .bool false, .str [], .sl .nil []]
set_option maxRecDepth 20000 in
set_option maxHeartbeats 16000000 in
theorem SAlong_pure (row : List Ln) (o : Opn) (hl : row.length ≤ 1000) (hx : ∀ x ∈ row, OkLn x) (ho : OkOp o) : PL.Pure Tryz.prog 124 [lnss row, opv o] (opb (alongO row o)) := by
  have hW := sown_pure o ho
  refine PL.Pure.of_v Tryz.func124 (by decide) rfl Tryz.ntmps124 Tryz.results124 (by simp) (opb_dids _) ?_
  simp only [go_sem, lnss, opv]
  refine vScopeM (ι := AoS row o) 31 (fun x => [(0, lnss row), (3, .ptr 3 0), (4, .ptr 4 0), (6, .int .i64 (x.k : Int))]) (fun x => [(3, ocells x.o, false), (4, zcells, false)]) (fun x => []) (fun x => row.length - x.k) 0 _ (by exact rfl) (fun x => ⟨(forall_cons rfl (forall_cons rfl (forall_cons rfl (forall_cons rfl (forall_nil))))), forall_cons rfl (forall_cons rfl forall_nil)⟩) (fun x => ?_) (fun cut => ?_)
  · obtain ⟨k, p, hk, ok, h⟩ := x
    simp only
    by_cases he : k = row.length
    · have hb : ((k : Int) == (row.length : Int)) = true := by simp [he]
      have hd : alongO row o = (p, true) := by rw [← h, he, List.drop_length]; rfl
      simp only [go_sem, lnss, List.length_map, hb, hd, opb, opv, ocells, zcells]
    · have hb : ((k : Int) == (row.length : Int)) = false := by simp; omega
      have hka : k < row.length := by omega
      have i0 : (0 : Int) ≤ (k : Int) := by omega
      have i1 : (k : Int) < (row.length : Int) := by omega
      have w1 : IntKind.i64.wrap ((k : Int) + 1) = ((k + 1 : Nat) : Int) := by rw [w64 (by omega)]; rfl
      have hT := Over_pure (row.getD k default) p (hx _ (getD_mem (d := default) hka)) ok
      have okn := over_okD (x := row.getD k default) ok
      rw [drop_ln hka, alongO_cons] at h
      cases hz : (overM (row.getD k default) p).2
      · rw [if_pos hz] at h
        simp only [go_sem, lnss, List.length_map, hb]
        refine vDrawQ (by kernel_rfl) (by kernel_rfl) ?_
        simp only [go_sem, getD_ln hka, lns, i0, i1, ocells, opv]
        refine vCall_of (hT) ?_ ?_ ?_; (focus simp only [go_sem, lns, opv]); (focus simp only [go_sem, lns, opv])
        simp only [go_sem, opb, opv, hz, ← h, zcells]
        try rfl
      · rw [if_neg (by rw [hz]; simp)] at h
        simp only [go_sem, lnss, List.length_map, hb]
        refine vDrawQ (by kernel_rfl) (by kernel_rfl) ?_
        simp only [go_sem, getD_ln hka, lns, i0, i1, ocells, opv]
        refine vCall_of (hT) ?_ ?_ ?_; (focus simp only [go_sem, lns, opv]); (focus simp only [go_sem, lns, opv])
        simp only [go_sem, opb, opv, hz, w1, zcells]
        exact ⟨⟨k + 1, (overM (row.getD k default) p).1, by omega, okn, h⟩, by show row.length - (k + 1) < row.length - k; omega, ⟨rfl, (forall_cons rfl (forall_cons rfl (forall_cons rfl (forall_cons rfl (forall_nil))))), forall_cons ⟨rfl, rfl⟩ (forall_cons ⟨rfl, rfl⟩ forall_nil), forall_nil⟩⟩
  · simp only [go_sem]
    refine vCall_of (hW) ?_ ?_ ?_; (focus simp only [go_sem, opv]); (focus simp only [go_sem, opv])
    simp only [go_sem, opv]
    exact awp_label_seq (cut ⟨0, o, Nat.zero_le _, ho, rfl⟩ _ ⟨rfl, (forall_cons rfl (forall_cons rfl (forall_cons rfl (forall_cons rfl (forall_nil))))), forall_cons ⟨rfl, rfl⟩ (forall_cons ⟨rfl, rfl⟩ forall_nil), forall_nil⟩)
theorem along_ok : ∀ (xs : List Ln) {o : Opn}, OkOp o → OkOp (alongO xs o).1
  | [], o, h => h
  | x :: xs, o, h => by
    rw [alongO_cons]
    split
    · exact ⟨Nat.zero_le _⟩
    · exact along_ok xs (over_okD h)
theorem sch_ok {o : Opn} (h : OkOp o) (t : Tg) : OkOp (schO o t) := ⟨h.d⟩
theorem def_ok : OkOp (default : Opn) := ⟨Nat.zero_le _⟩
theorem way_ok {m : List Eg} {a b : Tg} {o : Opn} (h : OkOp o) : OkOp (wayO m a b o).1 := by
  unfold wayO
  split
  · exact def_ok
  · split
    · exact def_ok
    · exact sch_ok (along_ok _ h) _
theorem to_okO {m : List Eg} {b : Tg} {o : Opn} (h : OkOp o) : OkOp (toT m o b).o := by
  unfold toT
  split
  · exact def_ok
  · exact way_ok h
theorem round_okO {m : List Eg} {b : Tg} {o : Opn} (h : OkOp o) : OkOp (roundT m o b).o := by
  unfold roundT
  split
  · exact def_ok
  · exact way_ok (to_okO h)
theorem OkOp.len {o : Opn} (h : OkOp o) : o.drops.length ≤ maxLen := by have := h.d; rw [maxLen_eq]; omega
set_option maxRecDepth 20000 in
set_option maxHeartbeats 16000000 in
theorem talong_pure (m : List Eg) (o : Opn) (a b : Tg) (hm : OkM m) (hr : RightM m) (ho : OkOp o) : PL.Pure Tryz.prog 63 [tr (treeOf m), opv o, tg a, tg b] (opb (wayO m a b o)) := by
  have hR := Row_pure m a b hm hr
  obtain ⟨hrl, hro⟩ := row_ok (a := a) (b := b) hm
  have hA := SAlong_pure (rowM m a b).1 o hrl hro ho
  have hc2 : (rowM m a b).2 = pathC m a b := by unfold rowM; split <;> simp_all
  unfold wayO
  by_cases hc : pathC m a b = 0
  · rw [if_neg (fun h => h hc)]
    rw [hc] at hc2
    generalize rowM m a b = rw0 at *
    obtain ⟨row, c0⟩ := rw0
    simp only at hc2 hrl hro hA ⊢
    subst hc2
    cases hz : (alongO row o).2
    · simp only [if_true]
      refine PL.Pure.of_v Tryz.func63 (by decide) rfl Tryz.ntmps63 Tryz.results63 (by simp) (opb_dids _) ?_
      simp only [go_sem, tr, tg, opv]
      refine vCall_of (hR) ?_ ?_ ?_; (focus simp only [go_sem, tr, tg]); (focus simp only [go_sem, tr, tg])
      simp only [go_sem, lnsc, lnss]
      refine vCall_of (hA) ?_ ?_ ?_; (focus simp only [go_sem, lnss, opv]); (focus simp only [go_sem, lnss, opv])
      simp only [go_sem, opb, opv, hz]
      try rfl
    · simp only [Bool.true_eq_false, if_false]
      refine PL.Pure.of_v Tryz.func63 (by decide) rfl Tryz.ntmps63 Tryz.results63 (by simp) (opb_dids _) ?_
      simp only [go_sem, tr, tg, opv]
      refine vCall_of (hR) ?_ ?_ ?_; (focus simp only [go_sem, tr, tg]); (focus simp only [go_sem, tr, tg])
      simp only [go_sem, lnsc, lnss]
      refine vCall_of (hA) ?_ ?_ ?_; (focus simp only [go_sem, lnss, opv]); (focus simp only [go_sem, lnss, opv])
      simp only [go_sem, opb, opv, hz, schO]
  · have hc' : (pathC m a b != 0) = true := by simpa using hc
    rw [if_pos hc]
    refine PL.Pure.of_v Tryz.func63 (by decide) rfl Tryz.ntmps63 Tryz.results63 (by simp) (opb_dids _) ?_
    simp only [go_sem, tr, tg, opv]
    refine vCall_of (hR) ?_ ?_ ?_; (focus simp only [go_sem, tr, tg]); (focus simp only [go_sem, tr, tg])
    simp only [go_sem, lnsc, lnss, hc2, hc', opb, opv_default]
    try rfl
def seenv (x : SeenT) : PV := .tup [opv x.o, .bool x.ok, .int .i64 x.c]
theorem seenv_dids (x : SeenT) : (seenv x).dids = [] := by simp only [seenv, PV.dids, PV.didsL, opv_dids, List.append_nil]
theorem okSchO {m : List Eg} {a : Tg} (hm : OkM m) (hu : upC m a = 0) : OkFs (schM (treeOf m) a).1 := by
  obtain ⟨wa, fa, _⟩ := live_way hu
  exact okFold _ (fun e he => hm.l e (wa.mem e he)) okRoot fa
set_option maxRecDepth 20000 in
set_option maxHeartbeats 16000000 in
theorem TrTo_pure (m : List Eg) (o : Opn) (b : Tg) (hm : OkM m) (hr : RightM m) (ho : OkOp o) : PL.Pure Tryz.prog 25 [tr (treeOf m), opv o, tg b] (seenv (toT m o b)) := by
  have hR := ORight_pure o ho.len
  have hSa := Schema_pure m o.sch hm
  have hSb := Schema_pure m b hm
  have hA := talong_pure m o o.sch b hm hr ho
  cases h1 : rightO o
  · rw [h1] at hR
    have ht : toT m o b = ⟨default, false, 5⟩ := by simp [toT, checkO, h1]
    rw [ht]
    refine PL.Pure.of_v Tryz.func25 (by decide) rfl Tryz.ntmps25 Tryz.results25 (by simp) (seenv_dids _) ?_
    simp only [go_sem, tr, tg, opv]
    refine vCall_of (hR) ?_ ?_ ?_; (focus simp only [go_sem, opv]); (focus simp only [go_sem, opv])
    simp only [go_sem, seenv, opv_default]
    try rfl
  rw [h1] at hR
  by_cases h2 : upC m o.sch = 0
  · have okA := okSchO hm h2
    have hF := OFits_pure (schM (treeOf m) o.sch).1 o okA ho.len
    have v2 : (schM (treeOf m) o.sch).2 = 0 := h2
    by_cases h3 : upC m b = 0
    · have v3 : (schM (treeOf m) b).2 = 0 := h3
      cases h4 : fitsO (schM (treeOf m) o.sch).1 o
      · rw [h4] at hF
        have ht : toT m o b = ⟨default, false, 16⟩ := by simp [toT, checkO, h1, h2, h3, h4]
        rw [ht]
        clear ht h4 h2 h3 okA hA
        generalize schM (treeOf m) o.sch = ya at *
        obtain ⟨A, ca⟩ := ya
        generalize schM (treeOf m) b = yb at *
        obtain ⟨B, cb⟩ := yb
        simp only at v2 v3 hF
        subst v2 v3
        refine PL.Pure.of_v Tryz.func25 (by decide) rfl Tryz.ntmps25 Tryz.results25 (by simp) (seenv_dids _) ?_
        simp only [go_sem, tr, tg, opv]
        refine vCall_of (hR) ?_ ?_ ?_; (focus simp only [go_sem, opv]); (focus simp only [go_sem, opv])
        simp only [go_sem]
        refine vCall_of (hSa) ?_ ?_ ?_; (focus simp only [go_sem, tr, tg]); (focus simp only [go_sem, tr, tg])
        simp only [go_sem, fldsc, flds]
        refine vCall_of (hSb) ?_ ?_ ?_; (focus simp only [go_sem, tr, tg]); (focus simp only [go_sem, tr, tg])
        simp only [go_sem, fldsc, flds]
        refine vCall_of (hF) ?_ ?_ ?_; (focus simp only [go_sem, flds, opv]); (focus simp only [go_sem, flds, opv])
        simp only [go_sem, seenv, opv_default]
        try rfl
      · rw [h4] at hF
        have ht : toT m o b = ⟨(wayO m o.sch b o).1, (wayO m o.sch b o).2, 0⟩ := by simp [toT, checkO, h1, h2, h3, h4]
        rw [ht]
        clear ht h4 h2 h3 okA
        generalize wayO m o.sch b o = yw at *
        obtain ⟨wq, wk⟩ := yw
        generalize schM (treeOf m) o.sch = ya at *
        obtain ⟨A, ca⟩ := ya
        generalize schM (treeOf m) b = yb at *
        obtain ⟨B, cb⟩ := yb
        simp only at v2 v3 hF
        subst v2 v3
        refine PL.Pure.of_v Tryz.func25 (by decide) rfl Tryz.ntmps25 Tryz.results25 (by simp) (seenv_dids _) ?_
        simp only [go_sem, tr, tg, opv]
        refine vCall_of (hR) ?_ ?_ ?_; (focus simp only [go_sem, opv]); (focus simp only [go_sem, opv])
        simp only [go_sem]
        refine vCall_of (hSa) ?_ ?_ ?_; (focus simp only [go_sem, tr, tg]); (focus simp only [go_sem, tr, tg])
        simp only [go_sem, fldsc, flds]
        refine vCall_of (hSb) ?_ ?_ ?_; (focus simp only [go_sem, tr, tg]); (focus simp only [go_sem, tr, tg])
        simp only [go_sem, fldsc, flds]
        refine vCall_of (hF) ?_ ?_ ?_; (focus simp only [go_sem, flds, opv]); (focus simp only [go_sem, flds, opv])
        simp only [go_sem]
        refine vCall_of (hA) ?_ ?_ ?_; (focus simp only [go_sem, tr, opv, tg]); (focus simp only [go_sem, tr, opv, tg])
        simp only [go_sem, opb, opv, seenv]
    · have v3 : ((schM (treeOf m) b).2 != 0) = true := by have h' : (schM (treeOf m) b).2 ≠ 0 := h3; simpa using h'
      have ht : toT m o b = ⟨default, false, (schM (treeOf m) b).2⟩ := by
        have e : upC m b = (schM (treeOf m) b).2 := rfl
        rw [← e]; simp [toT, checkO, h1, h2, h3]
      rw [ht]
      clear ht h2 h3 okA hA
      generalize schM (treeOf m) o.sch = ya at *
      obtain ⟨A, ca⟩ := ya
      generalize schM (treeOf m) b = yb at *
      obtain ⟨B, cb⟩ := yb
      simp only at v2 v3 hF
      subst v2
      refine PL.Pure.of_v Tryz.func25 (by decide) rfl Tryz.ntmps25 Tryz.results25 (by simp) (seenv_dids _) ?_
      simp only [go_sem, tr, tg, opv]
      refine vCall_of (hR) ?_ ?_ ?_; (focus simp only [go_sem, opv]); (focus simp only [go_sem, opv])
      simp only [go_sem]
      refine vCall_of (hSa) ?_ ?_ ?_; (focus simp only [go_sem, tr, tg]); (focus simp only [go_sem, tr, tg])
      simp only [go_sem, fldsc, flds]
      refine vCall_of (hSb) ?_ ?_ ?_; (focus simp only [go_sem, tr, tg]); (focus simp only [go_sem, tr, tg])
      simp only [go_sem, fldsc, flds, v3, seenv, opv_default]
      try rfl
  · have v2 : ((schM (treeOf m) o.sch).2 != 0) = true := by have h' : (schM (treeOf m) o.sch).2 ≠ 0 := h2; simpa using h'
    have ht : toT m o b = ⟨default, false, (schM (treeOf m) o.sch).2⟩ := by
      have e : upC m o.sch = (schM (treeOf m) o.sch).2 := rfl
      rw [← e]; simp [toT, checkO, h1, h2]
    rw [ht]
    clear ht h2 hA
    generalize schM (treeOf m) o.sch = ya at *
    obtain ⟨A, ca⟩ := ya
    simp only at v2
    refine PL.Pure.of_v Tryz.func25 (by decide) rfl Tryz.ntmps25 Tryz.results25 (by simp) (seenv_dids _) ?_
    simp only [go_sem, tr, tg, opv]
    refine vCall_of (hR) ?_ ?_ ?_; (focus simp only [go_sem, opv]); (focus simp only [go_sem, opv])
    simp only [go_sem]
    refine vCall_of (hSa) ?_ ?_ ?_; (focus simp only [go_sem, tr, tg]); (focus simp only [go_sem, tr, tg])
    simp only [go_sem, fldsc, flds, v2, seenv, opv_default]
    try rfl
set_option maxRecDepth 20000 in
set_option maxHeartbeats 16000000 in
theorem TrRound_pure (m : List Eg) (o : Opn) (b : Tg) (hm : OkM m) (hr : RightM m) (ho : OkOp o) : PL.Pure Tryz.prog 26 [tr (treeOf m), opv o, tg b] (seenv (roundT m o b)) := by
  have hT := TrTo_pure m o b hm hr ho
  have okt := to_okO (m := m) (b := b) ho
  have hA := talong_pure m (toT m o b).o b o.sch hm hr okt
  unfold roundT
  generalize toT m o b = t at *
  obtain ⟨q, ok, c⟩ := t
  simp only at hA okt ⊢
  by_cases hc : c = 0
  · subst hc
    cases ok
    · refine PL.Pure.of_v Tryz.func26 (by decide) rfl Tryz.ntmps26 Tryz.results26 (by simp) (seenv_dids _) ?_
      simp only [go_sem, tr, tg, opv]
      refine vCall_of (hT) ?_ ?_ ?_; (focus simp only [go_sem, tr, tg, opv]); (focus simp only [go_sem, tr, tg, opv])
      simp only [go_sem, seenv, opv, opv_default, or_true, if_true]
      try rfl
    · refine PL.Pure.of_v Tryz.func26 (by decide) rfl Tryz.ntmps26 Tryz.results26 (by simp) (seenv_dids _) ?_
      simp only [go_sem, tr, tg, opv]
      refine vCall_of (hT) ?_ ?_ ?_; (focus simp only [go_sem, tr, tg, opv]); (focus simp only [go_sem, tr, tg, opv])
      simp only [go_sem, seenv, opv]
      refine vCall_of (hA) ?_ ?_ ?_; (focus simp only [go_sem, tr, opv, tg]); (focus simp only [go_sem, tr, opv, tg])
      simp only [go_sem, opb, opv, Bool.true_eq_false, or_false, if_false, ne_eq, not_true_eq_false, seenv]
  · have hc' : (c != 0) = true := by simpa using hc
    rw [if_pos (.inl hc)]
    refine PL.Pure.of_v Tryz.func26 (by decide) rfl Tryz.ntmps26 Tryz.results26 (by simp) (seenv_dids _) ?_
    simp only [go_sem, tr, tg, opv]
    refine vCall_of (hT) ?_ ?_ ?_; (focus simp only [go_sem, tr, tg, opv]); (focus simp only [go_sem, tr, tg, opv])
    simp only [go_sem, seenv, opv, opv_default, hc']
    try rfl
set_option maxRecDepth 20000 in
set_option maxHeartbeats 16000000 in
theorem TrRead_pure (m : List Eg) (o : Opn) (hm : OkM m) (ho : OkOp o) : PL.Pure Tryz.prog 27 [tr (treeOf m), opv o] (.bool (readO m o)) := by
  have hR := ORight_pure o ho.len
  have hSa := Schema_pure m o.sch hm
  unfold readO
  cases h1 : rightO o
  · rw [h1] at hR
    refine PL.Pure.of_v Tryz.func27 (by decide) rfl Tryz.ntmps27 Tryz.results27 (by simp) rfl ?_
    simp only [go_sem, tr, opv]
    refine vCall_of (hR) ?_ ?_ ?_; (focus simp only [go_sem, opv]); (focus simp only [go_sem, opv])
    simp only [go_sem, Bool.false_and]
  rw [h1] at hR
  by_cases h2 : upC m o.sch = 0
  · have hF := OFits_pure (schM (treeOf m) o.sch).1 o (okSchO hm h2) ho.len
    rw [decide_eq_true h2]
    have v2 : (schM (treeOf m) o.sch).2 = 0 := h2
    generalize schM (treeOf m) o.sch = ya at *
    obtain ⟨A, ca⟩ := ya
    simp only at v2 hF
    subst v2
    refine PL.Pure.of_v Tryz.func27 (by decide) rfl Tryz.ntmps27 Tryz.results27 (by simp) rfl ?_
    simp only [go_sem, tr, opv]
    refine vCall_of (hR) ?_ ?_ ?_; (focus simp only [go_sem, opv]); (focus simp only [go_sem, opv])
    simp only [go_sem, tg]
    refine vCall_of (hSa) ?_ ?_ ?_; (focus simp only [go_sem, tr, tg]); (focus simp only [go_sem, tr, tg])
    simp only [go_sem, fldsc, flds]
    refine vCall_of (hF) ?_ ?_ ?_; (focus simp only [go_sem, flds, opv]); (focus simp only [go_sem, flds, opv])
    simp only [go_sem, Bool.true_and]
  · have v2 : ((schM (treeOf m) o.sch).2 == 0) = false := by have h' : (schM (treeOf m) o.sch).2 ≠ 0 := h2; simpa using h'
    rw [decide_eq_false h2]
    refine PL.Pure.of_v Tryz.func27 (by decide) rfl Tryz.ntmps27 Tryz.results27 (by simp) rfl ?_
    simp only [go_sem, tr, opv]
    refine vCall_of (hR) ?_ ?_ ?_; (focus simp only [go_sem, opv]); (focus simp only [go_sem, opv])
    simp only [go_sem, tg]
    refine vCall_of (hSa) ?_ ?_ ?_; (focus simp only [go_sem, tr, tg]); (focus simp only [go_sem, tr, tg])
    simp only [go_sem, fldsc, flds, v2, Bool.false_and, Bool.and_false]
end Go.Proofs.YtnadlkjmdimjkaaGreat
