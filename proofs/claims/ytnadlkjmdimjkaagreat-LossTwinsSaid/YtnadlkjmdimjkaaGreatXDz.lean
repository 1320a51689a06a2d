/- Contracts of functions and laws of this seat, each for every input that it names: lemmas of the proof. -/
import Derived.Test.YtnadlkjmdimjkaaGreatXDt
import Derived.Test.YtnadlkjmdimjkaaGreatXDk
import Derived.Test.YtnadlkjmdimjkaaGreatXCl
import Derived.Test.YtnadlkjmdimjkaaGreatXCz
set_option linter.unusedSimpArgs false
set_option linter.unusedVariables false
set_option linter.unusedSimpArgs false
set_option linter.unusedVariables false
namespace Go.Proofs.YtnadlkjmdimjkaaGreat
open Go.PL
theorem not_comes {l m : List Fd} {x : Ln} {r : Rf} (ha : applyM l x = (m, 0)) (hon : On l r) (hn : r ∉ goesR x) : r ∉ comesR x := fun hc => by
  obtain ⟨hl, hx, cs, l1, e1, e2, e3⟩ := apply_fwd ha
  obtain ⟨a1, a2, a3, a4, a5⟩ := go_fwd hl e2
  obtain ⟨b1, b2, b3, b4, b5⟩ := come_fwd a1 e3
  obtain ⟨f, hfm, hfr⟩ := hon
  rw [← arr_places (rightLn_kind hx).1 e1] at hc
  obtain ⟨c, hc1, hc2⟩ := List.mem_map.1 hc
  exact (b3 c hc1).2 f ((a2 f).2 ⟨hfm, by rw [hfr]; exact hn⟩) (by rw [hfr, hc2])
theorem on_next {l m : List Fd} {x : Ln} {r : Rf} (ha : applyM l x = (m, 0)) (hon : On l r) (hz : (traceM x r).2 = true) : On m (traceM x r).1 := by
  obtain ⟨hl, hx, cs, l1, e1, e2, e3⟩ := apply_fwd ha
  obtain ⟨a1, a2, a3, a4, a5⟩ := go_fwd hl e2
  obtain ⟨b1, b2, b3, b4, b5⟩ := come_fwd a1 e3
  have hpl := arr_places (rightLn_kind hx).1 e1
  by_cases hin : r ∈ goesR x
  · have htg := trace_go hx hin
    have hlen : 0 < (comesR x).length := by
      refine Classical.byContradiction fun h => ?_
      rw [htg, if_pos (by omega)] at hz
      cases hz
    rw [htg, if_neg (by omega)]
    have hm : (comesR x).getD 0 default ∈ cs.map (·.at') := by rw [hpl]; exact getD_mem hlen
    obtain ⟨c, hc1, hc2⟩ := List.mem_map.1 hm
    exact ⟨c, (b2 c).2 (.inr hc1), hc2⟩
  · rw [trace_stay hx hin]
    obtain ⟨f, hfm, hfr⟩ := hon
    exact ⟨f, (b2 f).2 (.inl ((a2 f).2 ⟨hfm, by rw [hfr]; exact hin⟩)), hfr⟩
theorem comes_first {x : Ln} {r : Rf} (hx : rightLn x = true) (hin : r ∈ goesR x) (hz : (traceM x r).2 = true) : ∃ c cs, comesR x = c :: cs ∧ (traceM x r).1 = c := by
  have htg := trace_go hx hin
  cases hc : comesR x with
  | nil => rw [htg, if_pos (by rw [hc]; rfl)] at hz; cases hz
  | cons c cs => exact ⟨c, cs, rfl, by rw [htg, if_neg (by rw [hc]; simp), hc]; rfl⟩
theorem src_has {l m : List Fd} {x : Ln} {r : Rf} (ha : applyM l x = (m, 0)) (hon : On l r) (hz : (traceM x r).2 = true) : r ∈ srcM x (traceM x r).1 := by
  have hx := (apply_fwd ha).2.1
  unfold srcM
  rw [if_neg (by rw [hx]; simp)]
  by_cases hin : r ∈ goesR x
  · obtain ⟨c, cs, hc, ht⟩ := comes_first hx hin hz
    rw [ht, hc, placeI_self, if_neg (by omega), if_neg (by omega)]
    exact hin
  · rw [trace_stay hx hin]
    simp only
    rw [placeI_not (not_comes ha hon hin), if_pos (by omega)]
    simp
def SureT : List Ln → Rf → Prop
  | [], _ => True
  | x :: xs, r => sureM x (traceM x r).1 = true ∧ SureT xs (traceM x r).1
def InvT : List Ln → Rf → Prop
  | [], _ => True
  | x :: xs, r => sureM (invR x) r = true ∧ InvT xs (traceM x r).1
theorem sureR_cons (y : Ln) (v : List Ln) (p : Rf) : sureR (y :: v) p = (sureM y p && (srcM y p).all (sureR v)) := rfl
theorem sure_deep : ∀ (xs v : List Ln) {l m : List Fd} {r : Rf}, foldL xs l = some m → On l r → (traceL xs r).2 = true → sureR (xs.reverse ++ v) (traceL xs r).1 = true → SureT xs r ∧ sureR v r = true
  | [], v, l, m, r, _, _, _, h => ⟨trivial, h⟩
  | x :: xs, v, l, m, r, hf, hon, ht, h => by
    unfold foldL at hf
    split at hf
    · cases hf
    · rename_i hnz
      have ha : applyM l x = ((applyM l x).1, 0) := Prod.ext rfl (Classical.not_not.1 hnz)
      rw [traceL_cons] at ht h
      split at ht
      · cases ht
      · rename_i hz
        rw [if_neg hz] at h
        have hz' : (traceM x r).2 = true := by simpa using hz
        have e : (x :: xs).reverse ++ v = xs.reverse ++ (x :: v) := by simp
        rw [e] at h
        obtain ⟨h1, h2⟩ := sure_deep xs (x :: v) hf (on_next ha hon hz') ht h
        rw [sureR_cons, Bool.and_eq_true, List.all_eq_true] at h2
        exact ⟨⟨h2.1, h1⟩, h2.2 r (src_has ha hon hz')⟩
theorem sure_inv : ∀ (xs : List Ln) {l m : List Fd} {r : Rf}, foldL xs l = some m → On l r → (traceL xs r).2 = true → sureR (xs.map invR) r = true → InvT xs r
  | [], l, m, r, _, _, _, _ => trivial
  | x :: xs, l, m, r, hf, hon, ht, h => by
    unfold foldL at hf
    split at hf
    · cases hf
    · rename_i hnz
      have ha : applyM l x = ((applyM l x).1, 0) := Prod.ext rfl (Classical.not_not.1 hnz)
      have hx := (apply_fwd ha).2.1
      have hy := right_inv hx (rightLn_kind hx).1
      obtain ⟨p1, p2⟩ := inv_places hx
      rw [traceL_cons] at ht
      split at ht
      · cases ht
      · rename_i hz
        have hz' : (traceM x r).2 = true := by simpa using hz
        rw [List.map_cons, sureR_cons, Bool.and_eq_true, List.all_eq_true] at h
        refine ⟨h.1, sure_inv xs hf (on_next ha hon hz') ht (h.2 _ ?_)⟩
        unfold srcM
        rw [if_neg (by rw [hy]; simp)]
        by_cases hin : r ∈ goesR x
        · obtain ⟨c, cs, hc, htc⟩ := comes_first hx hin hz'
          have hp : ¬ placeI (comesR (invR x)) r < 0 := by
            rw [p2]
            intro hp
            exact placeI_neg hp hin
          rw [if_neg hp]
          have h6 : ¬ ((invR x).kind = 6 ∧ 0 < placeI (comesR (invR x)) r) := by
            rintro ⟨k, _⟩
            have hs := h.1
            unfold sureM at hs
            rw [if_neg (by rw [hy]; simp), if_neg (by rw [p2, any_goes.2 hin]; simp), if_neg (by omega), if_neg (by omega)] at hs
            cases hs
          rw [if_neg h6, p1, htc, hc]
          simp
        · rw [p2, placeI_not hin, if_pos (by omega), trace_stay hx hin]
          simp
theorem good_of : ∀ (xs : List Ln) {r : Rf}, (∀ x ∈ xs, rightLn x = true) → (traceL xs r).2 = true → SureT xs r → InvT xs r → GoodL xs r
  | [], r, _, _, _, _ => trivial
  | x :: xs, r, hxs, ht, hs, hi => by
    have hx := hxs x (by simp)
    have hy := right_inv hx (rightLn_kind hx).1
    obtain ⟨p1, p2⟩ := inv_places hx
    rw [traceL_cons] at ht
    split at ht
    · cases ht
    · rename_i hz
      have hz' : (traceM x r).2 = true := by simpa using hz
      refine ⟨fun hin => ?_, good_of xs (fun y hy => hxs y (by simp [hy])) ht hs.2 hi.2⟩
      obtain ⟨c, cs, hc, htc⟩ := comes_first hx hin hz'
      have h1 := hs.1
      have h2 := hi.1
      rw [htc] at h1
      unfold sureM at h1 h2
      rw [if_neg (by rw [hx]; simp), if_neg (by rw [any_goes.2 (by rw [hc]; simp)]; simp)] at h1
      rw [if_neg (by rw [hy]; simp), if_neg (by rw [p2, any_goes.2 hin]; simp)] at h2
      have hk := (rightLn_kind hx).1
      clear hs hi hz hz' htc hc ht p1 p2 hy hx
      obtain ⟨kind, at', nm, ot, fac, fd, fo, ba⟩ := x
      simp only at hk
      rcases hk with rfl | rfl | rfl | rfl | rfl | rfl | rfl | rfl | rfl | rfl
      all_goals simp [invR] at h1 h2 ⊢
      exact h2
theorem trace_on : ∀ (xs : List Ln) {l m : List Fd} {r : Rf}, foldL xs l = some m → On l r → (traceL xs r).2 = true → On m (traceL xs r).1
  | [], l, m, r, hf, hon, _ => by
    simp only [foldL, Option.some.injEq] at hf
    subst hf; exact hon
  | x :: xs, l, m, r, hf, hon, ht => by
    unfold foldL at hf
    split at hf
    · cases hf
    · rename_i hnz
      have ha : applyM l x = ((applyM l x).1, 0) := Prod.ext rfl (Classical.not_not.1 hnz)
      rw [traceL_cons] at ht ⊢
      split at ht
      · cases ht
      · rename_i hz
        rw [if_neg hz]
        exact trace_on xs hf (on_next ha hon (by simpa using hz)) ht
/-- what safe ends say of each field -/
theorem safe_from {m : List Eg} {a b : Tg} (hc : pathC m a b = 0) (h : safeM m a b = true) : (∀ r, On (schM (treeOf m) a).1 r → (traceL (rowM m a b).1 r).2 = true ∧ keptT m a b r = true) ∧ ∀ s, On (schM (treeOf m) b).1 s → sureR (rowM m a b).1.reverse s = true := by
  unfold safeM fatesM at h
  rw [if_neg (by rw [hc]; simp)] at h
  simp only [List.all_append, Bool.and_eq_true, List.all_eq_true] at h
  obtain ⟨h1, h2⟩ := h
  refine ⟨fun r ⟨f, hf, hr⟩ => ?_, fun s ⟨f, hf, hs⟩ => ?_⟩
  · have := h1 _ (List.mem_map.2 ⟨f, hf, rfl⟩)
    rw [hr] at this
    unfold keepF goesF at this
    have e1 : traceT m a b r = traceL (rowM m a b).1 r := by unfold traceT; rw [if_neg (by rw [hc]; simp)]
    rw [e1] at this
    by_cases ht : (traceL (rowM m a b).1 r).2 = false
    · rw [if_pos ht] at this; simp at this
    · rw [if_neg ht] at this
      by_cases hk : keptT m a b r = true
      · exact ⟨by simpa using ht, hk⟩
      · rw [if_neg hk] at this; simp at this
  · have := h2 _ (List.mem_map.2 ⟨f, hf, rfl⟩)
    rw [hs] at this
    rw [← sureT_row m a b s hc]
    unfold keepF lateF at this
    by_cases hk : sureT m a b s = true
    · exact hk
    · rw [if_neg hk] at this
      split at this <;> simp at this
theorem twins_good {m : List Eg} (hm : OkM m) (hr : RightM m) {a b : Tg} (hc : pathC m a b = 0) (h1 : safeM m a b = true) (h2 : safeM m b a = true) {r : Rf} (hon : On (schM (treeOf m) a).1 r) : (traceL (rowM m a b).1 r).2 = true ∧ GoodL (rowM m a b).1 r := by
  have hd := path_sym.1 hc
  obtain ⟨q1, q2⟩ := safe_from hc h1
  obtain ⟨q3, q4⟩ := safe_from hd h2
  have hf := row_fold hm hr (pathC_zero.1 hc).1 (pathC_zero.1 hc).2
  have ht := (q1 r hon).1
  have hs := q2 _ (trace_on _ hf hon ht)
  have hi := q4 r hon
  rw [row_back hm hr hc, List.reverse_reverse] at hi
  have hsd := (sure_deep _ [] hf hon ht (by rw [List.append_nil]; exact hs)).1
  exact ⟨ht, good_of _ (row_right hm hr) ht hsd (sure_inv _ hf hon ht hi)⟩
theorem place_on {l : List Fd} {sc : Int} {r : Rf} (h : ∃ g ∈ scopeM l sc, g.at' = r) : On l r := by
  obtain ⟨g, hg, e⟩ := h
  exact ⟨g, (of_scope hg).1, e⟩
theorem zero_all (l : List Fd) (sc : Int) (es : List En) : Zero l sc es (fun r => ∃ g ∈ scopeM l sc, g.at' = r) := fun f hf hn _ => absurd ⟨f, hf, rfl⟩ hn
/-- a run of entries, there and back -/
theorem twins_run {m : List Eg} (hm : OkM m) (hr : RightM m) {a b : Tg} (hc : pathC m a b = 0) (h1 : safeM m a b = true) (h2 : safeM m b a = true) (sc : Int) {es : List En} (he : entriesB (scopeM (schM (treeOf m) a).1 sc) es = true) :
    (projL sc (rowM m a b).1 (schM (treeOf m) a).1 es).2 = 0 ∧ projL sc (rowM m b a).1 (schM (treeOf m) b).1 (projL sc (rowM m a b).1 (schM (treeOf m) a).1 es).1 = (es, 0) := by
  have hd := path_sym.1 hc
  have hf := row_fold hm hr (pathC_zero.1 hc).1 (pathC_zero.1 hc).2
  have hf2 := row_fold hm hr (pathC_zero.1 hd).1 (pathC_zero.1 hd).2
  have hlA := sch_right hr (pathC_zero.1 hc).1
  have hlB := sch_right hr (pathC_zero.1 hc).2
  have g1 := fun r hon => twins_good hm hr hc h1 h2 (r := r) hon
  have g2 := fun r hon => twins_good hm hr hd h2 h1 (r := r) hon
  have hrow := row_right hm hr (a := a) (b := b)
  have hback := row_back hm hr hc
  generalize (schM (treeOf m) a).1 = A at *
  generalize (schM (treeOf m) b).1 = B at *
  generalize (rowM m a b).1 = xs at *
  generalize (rowM m b a).1 = ys at *
  obtain ⟨i1, i2, i3⟩ := fwd sc xs (R := fun r => ∃ g ∈ scopeM A sc, g.at' = r) hf hlA he (fun r h => h) (fun r h => (g1 r (place_on h)).2) (zero_all A sc es)
  obtain ⟨j1, j2, j3⟩ := fwd sc ys (R := fun r => ∃ g ∈ scopeM B sc, g.at' = r) hf2 hlB i2 (fun r h => h) (fun r h => (g2 r (place_on h)).2) (zero_all B sc _)
  refine ⟨i1, Prod.ext ?_ j1⟩
  have hlen1 : (scopeM A sc).length = es.length := by
    have := he
    simp only [entriesB, Bool.and_eq_true, decide_eq_true_eq] at this
    exact this.1
  have hlen2 : (scopeM A sc).length = (projL sc ys B (projL sc xs A es).1).1.length := by
    have := j2
    simp only [entriesB, Bool.and_eq_true, decide_eq_true_eq] at this
    exact this.1
  refine List.ext_getElem (by show _ = es.length; omega) fun i q1 q2 => ?_
  have q2 : i < es.length := q2
  have hi : i < (scopeM A sc).length := by omega
  obtain ⟨n1, _⟩ := ent_nth hlA he hi
  obtain ⟨n2, _⟩ := ent_nth hlA j2 hi
  have hgm := getD_mem (d := default) hi
  generalize (scopeM A sc).getD i default = g at *
  obtain ⟨k1, f, k2, k3, k4⟩ := i3 g hgm ⟨g, hgm, rfl⟩ _ n1
  obtain ⟨_, f', k6, k7, k8⟩ := j3 f k2 ⟨f, k2, rfl⟩ _ k4
  have hon : On A g.at' := place_on ⟨g, hgm, rfl⟩
  obtain ⟨t1, t2⟩ := g1 _ hon
  obtain ⟨c1, c2⟩ := conv_round xs hf hrow hon t2 k1 t1
  rw [← hback, ← k3] at c1 c2
  rw [k7, c1, c2] at k8
  simp only at k8
  rw [k8] at n2
  simp only [Option.some.injEq] at n2
  rw [getD_lt q2, getD_lt q1] at n2
  exact n2.symm
theorem twins_doc {m : List Eg} (hm : OkM m) (hr : RightM m) {a b : Tg} {d : Dc} (hc : pathC m a b = 0) (h1 : safeM m a b = true) (h2 : safeM m b a = true) (hd : rightD (schM (treeOf m) a).1 d = true) : (toM m a b d).2 = 0 ∧ toM m b a (toM m a b d).1 = (d, 0) := by
  have hd2 := path_sym.1 hc
  have hf := row_fold hm hr (pathC_zero.1 hc).1 (pathC_zero.1 hc).2
  have hf2 := row_fold hm hr (pathC_zero.1 hd2).1 (pathC_zero.1 hd2).2
  have run := fun sc es he => twins_run hm hr hc h1 h2 sc (es := es) he
  have hd' := hd
  simp only [rightD, headOk, Bool.and_eq_true, List.all_eq_true, List.mem_range] at hd'
  obtain ⟨⟨_, _, he0⟩, hrows⟩ := hd'
  have her : ∀ r ∈ d.rows, entriesB (scopeM (schM (treeOf m) a).1 1) r.l = true := fun r hr => by
    obtain ⟨i, hi, rfl⟩ := List.getElem_of_mem hr
    have := hrows i hi
    simp only [rowOk, Bool.and_eq_true] at this
    rw [getD_lt hi] at this
    exact this.2
  have t1 := toL_proj _ hf hd (run 0 _ he0).1 (fun r hr => (run 1 _ (her r hr)).1)
  have e1 : toM m a b d = toL (rowM m a b).1 (schM (treeOf m) a).1 d := by
    unfold toM
    rw [if_neg (by rw [hc]; simp), if_neg (by rw [hd]; simp)]
  have hz : (toM m a b d).2 = 0 := by rw [e1, t1]
  refine ⟨hz, ?_⟩
  have hrb := toL_right _ _ _ _ hf hd (by rw [← e1]; exact hz)
  rw [e1]
  have e2 : toM m b a (toL (rowM m a b).1 (schM (treeOf m) a).1 d).1 = toL (rowM m b a).1 (schM (treeOf m) b).1 (toL (rowM m a b).1 (schM (treeOf m) a).1 d).1 := by
    unfold toM
    rw [if_neg (by rw [hd2]; simp), if_neg (by rw [hrb]; simp)]
  rw [e2]
  rw [t1] at hrb ⊢
  rw [toL_proj _ hf2 hrb (by rw [(run 0 _ he0).2]) (fun r hr => by
    obtain ⟨r0, hr0, rfl⟩ := List.mem_map.1 hr
    rw [(run 1 _ (her r0 hr0)).2])]
  rw [(run 0 _ he0).2]
  obtain ⟨hd0, rws⟩ := d
  simp only at her ⊢
  refine Prod.ext ?_ rfl
  simp only [Dc.mk.injEq, true_and, List.map_map]
  refine (List.map_congr_left fun r hr => ?_).trans (List.map_id rws)
  simp only [Function.comp_apply, id]
  rw [(run 1 _ (her r hr)).2]
end Go.Proofs.YtnadlkjmdimjkaaGreat

set_option linter.unusedSimpArgs false
set_option linter.unusedVariables false
set_option linter.unusedSimpArgs false
set_option linter.unusedVariables false
namespace Go.Proofs.YtnadlkjmdimjkaaGreat
open Go.PL
theorem self_safe {m : List Eg} {a : Tg} (hu : upC m a = 0) : safeM m a a = true := by
  have hc : pathC m a a = 0 := pathC_zero.2 ⟨hu, hu⟩
  have hr := row_self m a
  have ht : ∀ r, goesF m a a r = ⟨1, r, r⟩ := fun r => by
    rw [goesF_row m a a r hc, hr]
    rfl
  have hs : ∀ met r, lateF m a a met r = ⟨4, r, default⟩ := fun met r => by
    unfold lateF
    rw [sureT_row m a a r hc, hr]
    rfl
  unfold safeM fatesM
  rw [if_neg (by rw [hc]; simp)]
  simp only [ht, hs, List.all_append, List.all_map, Bool.and_eq_true, List.all_eq_true]
  exact ⟨fun f _ => rfl, fun f _ => rfl⟩
theorem twins_round {m : List Eg} (hm : OkM m) (hr : RightM m) {a b : Tg} {o : Opn} (hc : pathC m a b = 0) (h1 : safeM m a b = true) (hrd : readO m o = true) (hs : o.sch = a) : roundT m o b = ⟨o, true, 0⟩ := by
  subst hs
  have hk := check_own.2 hrd
  obtain ⟨k1, k2, _, k4⟩ := check_zero.1 hk
  have hck : checkO m o b = 0 := check_zero.2 ⟨k1, k2, (pathC_zero.1 hc).2, k4⟩
  refine round_kept hm hr hck ?_
  by_cases hp : placedB o = false
  · exact .inr hp
  · left
    have hp' : placedB o = true := by simpa using hp
    obtain ⟨f0, _, _, _⟩ := fitsO_place k4 hp'
    obtain ⟨z1, z2⟩ := find_zero f0
    exact ((safe_from hc h1).1 _ ⟨_, z1, z2⟩).2
set_option maxRecDepth 20000 in
set_option maxHeartbeats 64000000 in
theorem LossTwins_pure (l : List Eg) (a b : Tg) (o : Opn) (d : Dc) (hl : l.length ≤ maxLen) (hx : ∀ e ∈ l, LenLn e.ln) (hd : Fine d) : PL.Pure Tryz.prog 10 [egs l, tg a, tg b, opv o, doc d] (.bool true) := by
  have hH := RHeavyE_pure l 50 hl hx
  have hJ := RHeavyO_pure o
  have hW := Heavy_pure d hd
  cases hh : heavyE l 50
  · rw [hh] at hH
    cases hj : heavyO o
    · rw [hj] at hJ
      cases hw : heavyD d
      · rw [hw] at hW
        have oko := OkOfHeavy o hj
        have okd := okDcOfHeavy hw
        obtain ⟨o1, o2⟩ := okL hh
        have hG := Grown_pure l (by omega) o2
        have hm : OkM (grownM l) := okGrown _ okM_nil o2
        have hr : RightM (grownM l) := rightGrown _ right_nil
        generalize grownM l = m at *
        have h1 := LTwins_pure m a b hm hr
        have h2 := LTwins_pure m b a hm hr
        have h3 := LTwins_pure m a a hm hr
        unfold twinsc at h1 h2 h3
        by_cases hc : pathC m a b = 0
        · have hd2 := path_sym.1 hc
          have hu := (pathC_zero.1 hc).1
          have hself : pathC m a a = 0 := pathC_zero.2 ⟨hu, hu⟩
          have htw : twinsM m a a = true := by unfold twinsM; rw [self_safe hu]; rfl
          have hba : twinsM m b a = twinsM m a b := by unfold twinsM; exact Bool.and_comm _ _
          rw [hc, if_neg (by simp)] at h1
          rw [hd2, if_neg (by simp), hba] at h2
          rw [hself, if_neg (by simp), htw] at h3
          cases ht : twinsM m a b
          · rw [ht] at h1 h2
            refine PL.Pure.of_v Tryz.func10 (by decide) rfl Tryz.ntmps10 Tryz.results10 (by simp) rfl ?_
            simp only [go_sem, egs, tg, opv, doc]
            refine vCall_of (awake39_pure) ?_ ?_ ?_; iterate 2 simp only [go_sem]
            simp only [go_sem]
            refine vCall_of (hH) ?_ ?_ ?_; iterate 2 simp only [go_sem, egs]
            simp only [go_sem, opv]
            refine vCall_of (hJ) ?_ ?_ ?_; iterate 2 simp only [go_sem, opv]
            simp only [go_sem, doc]
            refine vCall_of (hW) ?_ ?_ ?_; iterate 2 simp only [go_sem, doc]
            simp only [go_sem, egs]
            refine vCall_of (hG) ?_ ?_ ?_; iterate 2 simp only [go_sem, egs]
            simp only [go_sem, grv, tr, tg]
            refine vCall_of (h1) ?_ ?_ ?_; iterate 2 simp only [go_sem, tr, tg]
            simp only [go_sem, tr, tg]
            refine vCall_of (h2) ?_ ?_ ?_; iterate 2 simp only [go_sem, tr, tg]
            simp only [go_sem, tr, tg]
            refine vCall_of (h3) ?_ ?_ ?_; iterate 2 simp only [go_sem, tr, tg]
            simp only [go_sem]
          · rw [ht] at h1 h2
            have hs1 : safeM m a b = true := by unfold twinsM at ht; simp only [Bool.and_eq_true] at ht; exact ht.1
            have hs2 : safeM m b a = true := by unfold twinsM at ht; simp only [Bool.and_eq_true] at ht; exact ht.2
            have hS := Schema_pure m a hm
            have hu2 : (schM (treeOf m) a).2 = 0 := hu
            have okA := okSchL hm hu
            have hD := TrRead_pure m o hm oko
            have hR := RRightD_pure (schM (treeOf m) a).1 d (by have := okA.n; rw [maxLen_eq]; omega) (fun f hf => by have := okA.c f hf; rw [maxLen_eq]; omega) okd.fine
            have hO := ROSame_pure o o oko.len oko.len
            rw [decide_eq_true rfl] at hO
            have hE := RSameD_pure d d okd.fine okd.fine
            rw [decide_eq_true rfl] at hE
            have hX := To_pure m a b d hm hr okd
            have okx := to_ok (a := a) (b := b) (d := d) hm hr
            have hY := To_pure m b a (toM m a b d).1 hm hr okx
            have key := fun hrd => twins_doc hm hr (d := d) hc hs1 hs2 hrd
            have ring := fun hrd hs => twins_round hm hr (o := o) hc hs1 hrd hs
            have hU := TrRound_pure m o b hm hr oko
            generalize schM (treeOf m) a = ya at *
            obtain ⟨A, ca⟩ := ya
            simp only at hu2 hR key
            subst hu2
            cases hrr : rightD A d
            · rw [hrr] at hR
              cases hrd : readO m o
              · rw [hrd] at hD
                refine PL.Pure.of_v Tryz.func10 (by decide) rfl Tryz.ntmps10 Tryz.results10 (by simp) rfl ?_
                simp only [go_sem, egs, tg, opv, doc]
                refine vCall_of (awake39_pure) ?_ ?_ ?_; iterate 2 simp only [go_sem]
                simp only [go_sem]
                refine vCall_of (hH) ?_ ?_ ?_; iterate 2 simp only [go_sem, egs]
                simp only [go_sem, opv]
                refine vCall_of (hJ) ?_ ?_ ?_; iterate 2 simp only [go_sem, opv]
                simp only [go_sem, doc]
                refine vCall_of (hW) ?_ ?_ ?_; iterate 2 simp only [go_sem, doc]
                simp only [go_sem, egs]
                refine vCall_of (hG) ?_ ?_ ?_; iterate 2 simp only [go_sem, egs]
                simp only [go_sem, grv, tr, tg]
                refine vCall_of (h1) ?_ ?_ ?_; iterate 2 simp only [go_sem, tr, tg]
                simp only [go_sem, tr, tg]
                refine vCall_of (h2) ?_ ?_ ?_; iterate 2 simp only [go_sem, tr, tg]
                simp only [go_sem, tr, tg]
                refine vCall_of (h3) ?_ ?_ ?_; iterate 2 simp only [go_sem, tr, tg]
                simp only [go_sem, tr, tg]
                refine vCall_of (hS) ?_ ?_ ?_; iterate 2 simp only [go_sem, tr, tg]
                simp only [go_sem, fldsc, flds, tr, opv]
                refine vCall_of (hD) ?_ ?_ ?_; iterate 2 simp only [go_sem, tr, opv]
                simp only [go_sem, flds, doc]
                refine vCall_of (hR) ?_ ?_ ?_; iterate 2 simp only [go_sem, flds, doc]
                simp only [go_sem]
              · rw [hrd] at hD
                cases hq : decide (o.sch = a)
                · refine PL.Pure.of_v Tryz.func10 (by decide) rfl Tryz.ntmps10 Tryz.results10 (by simp) rfl ?_
                  simp only [go_sem, egs, tg, opv, doc]
                  refine vCall_of (awake39_pure) ?_ ?_ ?_; iterate 2 simp only [go_sem]
                  simp only [go_sem]
                  refine vCall_of (hH) ?_ ?_ ?_; iterate 2 simp only [go_sem, egs]
                  simp only [go_sem, opv]
                  refine vCall_of (hJ) ?_ ?_ ?_; iterate 2 simp only [go_sem, opv]
                  simp only [go_sem, doc]
                  refine vCall_of (hW) ?_ ?_ ?_; iterate 2 simp only [go_sem, doc]
                  simp only [go_sem, egs]
                  refine vCall_of (hG) ?_ ?_ ?_; iterate 2 simp only [go_sem, egs]
                  simp only [go_sem, grv, tr, tg]
                  refine vCall_of (h1) ?_ ?_ ?_; iterate 2 simp only [go_sem, tr, tg]
                  simp only [go_sem, tr, tg]
                  refine vCall_of (h2) ?_ ?_ ?_; iterate 2 simp only [go_sem, tr, tg]
                  simp only [go_sem, tr, tg]
                  refine vCall_of (h3) ?_ ?_ ?_; iterate 2 simp only [go_sem, tr, tg]
                  simp only [go_sem, tr, tg]
                  refine vCall_of (hS) ?_ ?_ ?_; iterate 2 simp only [go_sem, tr, tg]
                  simp only [go_sem, fldsc, flds, tr, opv]
                  refine vCall_of (hD) ?_ ?_ ?_; iterate 2 simp only [go_sem, tr, opv]
                  simp only [go_sem, tg_fold, hq, flds, doc]
                  refine vCall_of (hR) ?_ ?_ ?_; iterate 2 simp only [go_sem, flds, doc]
                  simp only [go_sem]
                · rw [ring hrd (of_decide_eq_true hq)] at hU
                  refine PL.Pure.of_v Tryz.func10 (by decide) rfl Tryz.ntmps10 Tryz.results10 (by simp) rfl ?_
                  simp only [go_sem, egs, tg, opv, doc]
                  refine vCall_of (awake39_pure) ?_ ?_ ?_; iterate 2 simp only [go_sem]
                  simp only [go_sem]
                  refine vCall_of (hH) ?_ ?_ ?_; iterate 2 simp only [go_sem, egs]
                  simp only [go_sem, opv]
                  refine vCall_of (hJ) ?_ ?_ ?_; iterate 2 simp only [go_sem, opv]
                  simp only [go_sem, doc]
                  refine vCall_of (hW) ?_ ?_ ?_; iterate 2 simp only [go_sem, doc]
                  simp only [go_sem, egs]
                  refine vCall_of (hG) ?_ ?_ ?_; iterate 2 simp only [go_sem, egs]
                  simp only [go_sem, grv, tr, tg]
                  refine vCall_of (h1) ?_ ?_ ?_; iterate 2 simp only [go_sem, tr, tg]
                  simp only [go_sem, tr, tg]
                  refine vCall_of (h2) ?_ ?_ ?_; iterate 2 simp only [go_sem, tr, tg]
                  simp only [go_sem, tr, tg]
                  refine vCall_of (h3) ?_ ?_ ?_; iterate 2 simp only [go_sem, tr, tg]
                  simp only [go_sem, tr, tg]
                  refine vCall_of (hS) ?_ ?_ ?_; iterate 2 simp only [go_sem, tr, tg]
                  simp only [go_sem, fldsc, flds, tr, opv]
                  refine vCall_of (hD) ?_ ?_ ?_; iterate 2 simp only [go_sem, tr, opv]
                  simp only [go_sem, tg_fold, hq, tr, opv, tg]
                  refine vCall_of (hU) ?_ ?_ ?_; iterate 2 simp only [go_sem, tr, opv, tg]
                  simp only [go_sem, seenv, opv]
                  refine vCall_of (hO) ?_ ?_ ?_; iterate 2 simp only [go_sem, opv]
                  simp only [go_sem, flds, doc]
                  refine vCall_of (hR) ?_ ?_ ?_; iterate 2 simp only [go_sem, flds, doc]
                  simp only [go_sem]
            · rw [hrr] at hR
              obtain ⟨kz, ky⟩ := key hrr
              rw [ky] at hY
              clear key ky
              generalize toM m a b d = x at *
              obtain ⟨x, cx⟩ := x
              simp only at kz hY
              subst kz
              cases hrd : readO m o
              · rw [hrd] at hD
                refine PL.Pure.of_v Tryz.func10 (by decide) rfl Tryz.ntmps10 Tryz.results10 (by simp) rfl ?_
                simp only [go_sem, egs, tg, opv, doc]
                refine vCall_of (awake39_pure) ?_ ?_ ?_; iterate 2 simp only [go_sem]
                simp only [go_sem]
                refine vCall_of (hH) ?_ ?_ ?_; iterate 2 simp only [go_sem, egs]
                simp only [go_sem, opv]
                refine vCall_of (hJ) ?_ ?_ ?_; iterate 2 simp only [go_sem, opv]
                simp only [go_sem, doc]
                refine vCall_of (hW) ?_ ?_ ?_; iterate 2 simp only [go_sem, doc]
                simp only [go_sem, egs]
                refine vCall_of (hG) ?_ ?_ ?_; iterate 2 simp only [go_sem, egs]
                simp only [go_sem, grv, tr, tg]
                refine vCall_of (h1) ?_ ?_ ?_; iterate 2 simp only [go_sem, tr, tg]
                simp only [go_sem, tr, tg]
                refine vCall_of (h2) ?_ ?_ ?_; iterate 2 simp only [go_sem, tr, tg]
                simp only [go_sem, tr, tg]
                refine vCall_of (h3) ?_ ?_ ?_; iterate 2 simp only [go_sem, tr, tg]
                simp only [go_sem, tr, tg]
                refine vCall_of (hS) ?_ ?_ ?_; iterate 2 simp only [go_sem, tr, tg]
                simp only [go_sem, fldsc, flds, tr, opv]
                refine vCall_of (hD) ?_ ?_ ?_; iterate 2 simp only [go_sem, tr, opv]
                simp only [go_sem, flds, doc]
                refine vCall_of (hR) ?_ ?_ ?_; iterate 2 simp only [go_sem, flds, doc]
                simp only [go_sem, tr, tg, doc]
                refine vCall_of (hX) ?_ ?_ ?_; iterate 2 simp only [go_sem, tr, tg, doc]
                simp only [go_sem, docc, doc, tr, tg]
                refine vCall_of (hY) ?_ ?_ ?_; iterate 2 simp only [go_sem, tr, tg, doc]
                simp only [go_sem, docc, doc]
                refine vCall_of (hE) ?_ ?_ ?_; iterate 2 simp only [go_sem, doc]
                simp only [go_sem]
              · rw [hrd] at hD
                cases hq : decide (o.sch = a)
                · refine PL.Pure.of_v Tryz.func10 (by decide) rfl Tryz.ntmps10 Tryz.results10 (by simp) rfl ?_
                  simp only [go_sem, egs, tg, opv, doc]
                  refine vCall_of (awake39_pure) ?_ ?_ ?_; iterate 2 simp only [go_sem]
                  simp only [go_sem]
                  refine vCall_of (hH) ?_ ?_ ?_; iterate 2 simp only [go_sem, egs]
                  simp only [go_sem, opv]
                  refine vCall_of (hJ) ?_ ?_ ?_; iterate 2 simp only [go_sem, opv]
                  simp only [go_sem, doc]
                  refine vCall_of (hW) ?_ ?_ ?_; iterate 2 simp only [go_sem, doc]
                  simp only [go_sem, egs]
                  refine vCall_of (hG) ?_ ?_ ?_; iterate 2 simp only [go_sem, egs]
                  simp only [go_sem, grv, tr, tg]
                  refine vCall_of (h1) ?_ ?_ ?_; iterate 2 simp only [go_sem, tr, tg]
                  simp only [go_sem, tr, tg]
                  refine vCall_of (h2) ?_ ?_ ?_; iterate 2 simp only [go_sem, tr, tg]
                  simp only [go_sem, tr, tg]
                  refine vCall_of (h3) ?_ ?_ ?_; iterate 2 simp only [go_sem, tr, tg]
                  simp only [go_sem, tr, tg]
                  refine vCall_of (hS) ?_ ?_ ?_; iterate 2 simp only [go_sem, tr, tg]
                  simp only [go_sem, fldsc, flds, tr, opv]
                  refine vCall_of (hD) ?_ ?_ ?_; iterate 2 simp only [go_sem, tr, opv]
                  simp only [go_sem, tg_fold, hq, flds, doc]
                  refine vCall_of (hR) ?_ ?_ ?_; iterate 2 simp only [go_sem, flds, doc]
                  simp only [go_sem, tr, tg, doc]
                  refine vCall_of (hX) ?_ ?_ ?_; iterate 2 simp only [go_sem, tr, tg, doc]
                  simp only [go_sem, docc, doc, tr, tg]
                  refine vCall_of (hY) ?_ ?_ ?_; iterate 2 simp only [go_sem, tr, tg, doc]
                  simp only [go_sem, docc, doc]
                  refine vCall_of (hE) ?_ ?_ ?_; iterate 2 simp only [go_sem, doc]
                  simp only [go_sem]
                · rw [ring hrd (of_decide_eq_true hq)] at hU
                  refine PL.Pure.of_v Tryz.func10 (by decide) rfl Tryz.ntmps10 Tryz.results10 (by simp) rfl ?_
                  simp only [go_sem, egs, tg, opv, doc]
                  refine vCall_of (awake39_pure) ?_ ?_ ?_; iterate 2 simp only [go_sem]
                  simp only [go_sem]
                  refine vCall_of (hH) ?_ ?_ ?_; iterate 2 simp only [go_sem, egs]
                  simp only [go_sem, opv]
                  refine vCall_of (hJ) ?_ ?_ ?_; iterate 2 simp only [go_sem, opv]
                  simp only [go_sem, doc]
                  refine vCall_of (hW) ?_ ?_ ?_; iterate 2 simp only [go_sem, doc]
                  simp only [go_sem, egs]
                  refine vCall_of (hG) ?_ ?_ ?_; iterate 2 simp only [go_sem, egs]
                  simp only [go_sem, grv, tr, tg]
                  refine vCall_of (h1) ?_ ?_ ?_; iterate 2 simp only [go_sem, tr, tg]
                  simp only [go_sem, tr, tg]
                  refine vCall_of (h2) ?_ ?_ ?_; iterate 2 simp only [go_sem, tr, tg]
                  simp only [go_sem, tr, tg]
                  refine vCall_of (h3) ?_ ?_ ?_; iterate 2 simp only [go_sem, tr, tg]
                  simp only [go_sem, tr, tg]
                  refine vCall_of (hS) ?_ ?_ ?_; iterate 2 simp only [go_sem, tr, tg]
                  simp only [go_sem, fldsc, flds, tr, opv]
                  refine vCall_of (hD) ?_ ?_ ?_; iterate 2 simp only [go_sem, tr, opv]
                  simp only [go_sem, tg_fold, hq, tr, opv, tg]
                  refine vCall_of (hU) ?_ ?_ ?_; iterate 2 simp only [go_sem, tr, opv, tg]
                  simp only [go_sem, seenv, opv]
                  refine vCall_of (hO) ?_ ?_ ?_; iterate 2 simp only [go_sem, opv]
                  simp only [go_sem, flds, doc]
                  refine vCall_of (hR) ?_ ?_ ?_; iterate 2 simp only [go_sem, flds, doc]
                  simp only [go_sem, tr, tg, doc]
                  refine vCall_of (hX) ?_ ?_ ?_; iterate 2 simp only [go_sem, tr, tg, doc]
                  simp only [go_sem, docc, doc, tr, tg]
                  refine vCall_of (hY) ?_ ?_ ?_; iterate 2 simp only [go_sem, tr, tg, doc]
                  simp only [go_sem, docc, doc]
                  refine vCall_of (hE) ?_ ?_ ?_; iterate 2 simp only [go_sem, doc]
                  simp only [go_sem]
        · have hd2 : pathC m b a ≠ 0 := fun h => hc (path_sym.2 h)
          rw [if_pos hc] at h1
          rw [if_pos hd2] at h2
          have n1 : (pathC m a b != 0) = true := by simpa using hc
          have n2 : (pathC m b a != 0) = true := by simpa using hd2
          by_cases hself : pathC m a a = 0
          · have htw : twinsM m a a = true := by unfold twinsM; rw [self_safe (pathC_zero.1 hself).1]; rfl
            rw [hself, if_neg (by simp), htw] at h3
            refine PL.Pure.of_v Tryz.func10 (by decide) rfl Tryz.ntmps10 Tryz.results10 (by simp) rfl ?_
            simp only [go_sem, egs, tg, opv, doc]
            refine vCall_of (awake39_pure) ?_ ?_ ?_; iterate 2 simp only [go_sem]
            simp only [go_sem]
            refine vCall_of (hH) ?_ ?_ ?_; iterate 2 simp only [go_sem, egs]
            simp only [go_sem, opv]
            refine vCall_of (hJ) ?_ ?_ ?_; iterate 2 simp only [go_sem, opv]
            simp only [go_sem, doc]
            refine vCall_of (hW) ?_ ?_ ?_; iterate 2 simp only [go_sem, doc]
            simp only [go_sem, egs]
            refine vCall_of (hG) ?_ ?_ ?_; iterate 2 simp only [go_sem, egs]
            simp only [go_sem, grv, tr, tg]
            refine vCall_of (h1) ?_ ?_ ?_; iterate 2 simp only [go_sem, tr, tg]
            simp only [go_sem, tr, tg]
            refine vCall_of (h2) ?_ ?_ ?_; iterate 2 simp only [go_sem, tr, tg]
            simp only [go_sem, tr, tg]
            refine vCall_of (h3) ?_ ?_ ?_; iterate 2 simp only [go_sem, tr, tg]
            simp only [go_sem, n1, n2]
          · rw [if_pos hself] at h3
            have n3 : (pathC m a a == 0) = false := by simpa using hself
            refine PL.Pure.of_v Tryz.func10 (by decide) rfl Tryz.ntmps10 Tryz.results10 (by simp) rfl ?_
            simp only [go_sem, egs, tg, opv, doc]
            refine vCall_of (awake39_pure) ?_ ?_ ?_; iterate 2 simp only [go_sem]
            simp only [go_sem]
            refine vCall_of (hH) ?_ ?_ ?_; iterate 2 simp only [go_sem, egs]
            simp only [go_sem, opv]
            refine vCall_of (hJ) ?_ ?_ ?_; iterate 2 simp only [go_sem, opv]
            simp only [go_sem, doc]
            refine vCall_of (hW) ?_ ?_ ?_; iterate 2 simp only [go_sem, doc]
            simp only [go_sem, egs]
            refine vCall_of (hG) ?_ ?_ ?_; iterate 2 simp only [go_sem, egs]
            simp only [go_sem, grv, tr, tg]
            refine vCall_of (h1) ?_ ?_ ?_; iterate 2 simp only [go_sem, tr, tg]
            simp only [go_sem, tr, tg]
            refine vCall_of (h2) ?_ ?_ ?_; iterate 2 simp only [go_sem, tr, tg]
            simp only [go_sem, tr, tg]
            refine vCall_of (h3) ?_ ?_ ?_; iterate 2 simp only [go_sem, tr, tg]
            simp only [go_sem, n1, n2, n3]
      · rw [hw] at hW
        refine PL.Pure.of_v Tryz.func10 (by decide) rfl Tryz.ntmps10 Tryz.results10 (by simp) rfl ?_
        simp only [go_sem, egs, tg, opv, doc]
        refine vCall_of (awake39_pure) ?_ ?_ ?_; iterate 2 simp only [go_sem]
        simp only [go_sem]
        refine vCall_of (hH) ?_ ?_ ?_; iterate 2 simp only [go_sem, egs]
        simp only [go_sem, opv]
        refine vCall_of (hJ) ?_ ?_ ?_; iterate 2 simp only [go_sem, opv]
        simp only [go_sem, doc]
        refine vCall_of (hW) ?_ ?_ ?_; iterate 2 simp only [go_sem, doc]
        simp only [go_sem]
    · rw [hj] at hJ
      refine PL.Pure.of_v Tryz.func10 (by decide) rfl Tryz.ntmps10 Tryz.results10 (by simp) rfl ?_
      simp only [go_sem, egs, tg, opv, doc]
      refine vCall_of (awake39_pure) ?_ ?_ ?_; iterate 2 simp only [go_sem]
      simp only [go_sem]
      refine vCall_of (hH) ?_ ?_ ?_; iterate 2 simp only [go_sem, egs]
      simp only [go_sem, opv]
      refine vCall_of (hJ) ?_ ?_ ?_; iterate 2 simp only [go_sem, opv]
      simp only [go_sem]
  · rw [hh] at hH
    refine PL.Pure.of_v Tryz.func10 (by decide) rfl Tryz.ntmps10 Tryz.results10 (by simp) rfl ?_
    simp only [go_sem, egs, tg, opv, doc]
    refine vCall_of (awake39_pure) ?_ ?_ ?_; iterate 2 simp only [go_sem]
    simp only [go_sem]
    refine vCall_of (hH) ?_ ?_ ?_; iterate 2 simp only [go_sem, egs]
    simp only [go_sem, opv]
end Go.Proofs.YtnadlkjmdimjkaaGreat
