/- Contracts of functions and laws of this seat, each for every input that it names: lemmas of the proof. -/
import Derived.Test.YtnadlkjmdimjkaaGreatXBk
import Derived.Test.YtnadlkjmdimjkaaGreatXAw
set_option linter.unusedSimpArgs false
set_option linter.unusedVariables false
set_option linter.unusedSimpArgs false
set_option linter.unusedVariables false
namespace Go.Proofs.YtnadlkjmdimjkaaGreat
open Go.PL
theorem legs_in {m : List Eg} {a b : Tg} (h : pathC m a b = 0) (ha : Apart m) : ∀ x ∈ legsW (wayD m a) (wayD m b), ∃ e, e ∈ m ∧ findE m x.id = some e ∧ x.id = e.id := by
  obtain ⟨h1, h2⟩ := pathC_zero.1 h
  obtain ⟨wa, _, _⟩ := live_way h1
  obtain ⟨wb, _, _⟩ := live_way h2
  intro x hx
  have key : ∀ e ∈ m, ∃ e', e' ∈ m ∧ findE m e.id = some e' ∧ e.id = e'.id := fun e he => ⟨e, he, ha.find he, rfl⟩
  unfold legsW at hx
  rcases List.mem_append.1 hx with hx | hx
  · obtain ⟨e, he, rfl⟩ := List.mem_map.1 hx
    exact key e (wa.mem e (List.mem_of_mem_drop (List.mem_reverse.1 he)))
  · obtain ⟨e, he, rfl⟩ := List.mem_map.1 hx
    exact key e (wb.mem e (List.mem_of_mem_drop he))
def lenses (m : List Eg) (l : List Lg) : List Ln := l.map fun x => (lensM m x).1
def rowM (m : List Eg) (a b : Tg) : List Ln × Int := if pathC m a b ≠ 0 then ([], pathC m a b) else (lenses m (legsW (wayD m a) (wayD m b)), 0)
def lnss (l : List Ln) : PV := .sl .no (l.map lns)
def lnsc (x : List Ln × Int) : PV := .tup [lnss x.1, .int .i64 x.2]
theorem lnss_dids (l : List Ln) : (lnss l).dids = [] := by
  unfold lnss
  simp only [PV.dids]
  induction l with
  | nil => rfl
  | cons e l ih => simp only [List.map_cons, PV.didsL, ih, lns_dids, List.append_nil]
theorem lnsc_dids (x : List Ln × Int) : (lnsc x).dids = [] := by simp only [lnsc, PV.dids, PV.didsL, lnss_dids, List.append_nil]
theorem sized_ln (l : List Ln) : Sized 16 (l.map lns) := fun e he => by
  obtain ⟨x, _, rfl⟩ := List.mem_map.1 he; rfl
theorem getD_ln {l : List Ln} {i : Nat} (h : i < l.length) : (l.map lns).getD i .any = lns (l.getD i default) := getD_map h
set_option maxRecDepth 20000 in
set_option maxHeartbeats 16000000 in
theorem Row_pure (m : List Eg) (a b : Tg) (hm : OkM m) (hr : RightM m) : PL.Pure Tryz.prog 76 [tr (treeOf m), tg a, tg b] (lnsc (rowM m a b)) := by
  have hP := Path_pure m a b hm
  have hll := legs_len m a b hm
  unfold rowM
  unfold pathM at hP hll
  by_cases hc : pathC m a b = 0
  · have hin := legs_in hc hm.a
    simp only [hc, ne_eq, not_true_eq_false, if_false] at hP hll ⊢
    generalize legsW (wayD m a) (wayD m b) = legs at *
    have hlm : legs.length ≤ maxLen := by rw [maxLen_eq]; omega
    refine PL.Pure.of_v Tryz.func76 (by decide) rfl Tryz.ntmps76 Tryz.results76 (by simp) (lnsc_dids _) ?_
    simp only [go_sem, tr, tg]
    refine vCall_of (hP) ?_ ?_ ?_; iterate 2 simp only [go_sem, tr, tg]
    simp only [go_sem, legsc, lgs, List.length_map]
    repeat ((with_reducible refine And.intro ?_ ?_); (focus ((repeat' (with_reducible apply And.intro)) <;> (first | omega | exact room_small (by omega) (by omega) | exact room_small (by simp; omega) (by omega) | exact sized_str _ | (simp; done) | (simp; omega)))))
    refine awp_moveRow 10 27 46 0 16 87 [] rfl rfl rfl ?_
    refine vLoopM (ι := { x : Nat // x ≤ (legs).length }) 49 (fun x => [(0, tr (treeOf m)), (10, .sl (.row 46) ((lenses m (legs.take x.1)).map lns)), (28, lgs legs), (29, .int .i64 (legs.length : Int)), (30, .int .i64 (x.1 : Int))]) (fun x => []) (fun x => [(46, .live (x.1) (16) (87))]) (fun x => (legs).length - x.1) ⟨0, Nat.zero_le _⟩ ⟨rfl, (forall_cons rfl (forall_cons rfl (forall_cons rfl (forall_cons rfl (forall_cons rfl forall_nil))))), forall_nil, (forall_cons rfl forall_nil)⟩ (fun x => ⟨(forall_cons rfl (forall_cons (by simp [PV.ids, refInM]) (forall_cons rfl (forall_cons rfl (forall_cons rfl forall_nil))))), forall_nil⟩) (fun x => ?_); obtain ⟨k, hk⟩ := x; simp only at hk ⊢
    by_cases h : (k : Int) < (legs.length : Int)
    · (have hka : k < (legs).length := by omega); (have w1 := w64s hka (hlm)); (have i1 : (0 : Int) ≤ (k : Int) := by omega)
      obtain ⟨e, he, hfe, _⟩ := hin _ (getD_mem (d := default) hka)
      have hL := TLens_pure m (legs.getD k default) hm hr
      have hz : (lensM m (legs.getD k default)).2 = 0 := by unfold lensM; rw [hfe]; simp only; split <;> rfl
      have hts : legs.take (k + 1) = legs.take k ++ [legs.getD k default] := by rw [List.take_add_one, getD_lt hka]; simp [hka]
      have hkl : (lenses m (legs.take k)).length = k := by simp [lenses]; omega
      have hrm := room1 (show k + 1 ≤ 1000000 by omega) (show 232 ≤ 1000 by omega)
      simp only [go_sem, tr, h, lgs, getD_lg hka, lg, i1]
      refine vCall_of (hL) ?_ ?_ ?_; iterate 2 simp only [go_sem, tr, lg]
      simp only [go_sem, lnc, hz, lns, sized_ln, List.length_map, hkl, hrm, w1]
      exact ⟨⟨k + 1, by (try simp only); omega⟩, by show (legs).length - (k + 1) < (legs).length - k; omega, ⟨rfl, (forall_cons rfl (forall_cons (by (show PV.sl _ _ = PV.sl _ _; simp [hts, lenses, lns])) (forall_cons rfl (forall_cons rfl (forall_cons rfl forall_nil))))), forall_nil, (forall_cons rfl forall_nil)⟩⟩
    · obtain rfl : k = legs.length := by omega
      have htk : legs.take legs.length = legs := List.take_length
      simp only [go_sem, h, htk, lnsc, lnss]
  · have hc' : (pathC m a b != 0) = true := by simpa using hc
    simp only [ne_eq, hc, not_false_eq_true, if_true] at hP ⊢
    refine PL.Pure.of_v Tryz.func76 (by decide) rfl Tryz.ntmps76 Tryz.results76 (by simp) (lnsc_dids _) ?_
    simp only [go_sem, tr, tg]
    refine vCall_of (hP) ?_ ?_ ?_; iterate 2 simp only [go_sem, tr, tg]
    simp only [go_sem, legsc, lgs, hc', lnsc, lnss, List.map_nil]
end Go.Proofs.YtnadlkjmdimjkaaGreat

set_option linter.unusedSimpArgs false
set_option linter.unusedVariables false
set_option linter.unusedSimpArgs false
set_option linter.unusedVariables false
namespace Go.Proofs.YtnadlkjmdimjkaaGreat
open Go.PL
/-! the order of places -/
theorem bl_irrefl : ∀ (a : Str), bytesLt a a = false
  | [] => rfl
  | x :: a => by
    have := bl_irrefl a
    unfold bytesLt at *
    simp [Op.bytesLess, this]
theorem bl_trans : ∀ {a b c : Str}, bytesLt a b = true → bytesLt b c = true → bytesLt a c = true
  | [], [], _, h, _ => by simp [bytesLt, Op.bytesLess] at h
  | [], _ :: _, [], _, h => by simp [bytesLt, Op.bytesLess] at h
  | [], _ :: _, _ :: _, _, _ => by simp [bytesLt, Op.bytesLess]
  | _ :: _, [], _, h, _ => by simp [bytesLt, Op.bytesLess] at h
  | _ :: _, _ :: _, [], _, h => by simp [bytesLt, Op.bytesLess] at h
  | x :: a, y :: b, z :: c, h1, h2 => by
    have ih := bl_trans (a := a) (b := b) (c := c)
    unfold bytesLt at *
    simp only [Op.bytesLess, Bool.or_eq_true, decide_eq_true_eq, Bool.and_eq_true, beq_iff_eq] at *
    rcases h1 with h1 | ⟨rfl, h1⟩
    · rcases h2 with h2 | ⟨rfl, h2⟩
      · exact .inl (UInt8.lt_trans h1 h2)
      · exact .inl h1
    · rcases h2 with h2 | ⟨rfl, h2⟩
      · exact .inl h2
      · exact .inr ⟨rfl, ih h1 h2⟩
theorem bl_total : ∀ (a b : Str), bytesLt a b = true ∨ a = b ∨ bytesLt b a = true
  | [], [] => .inr (.inl rfl)
  | [], _ :: _ => .inl (by simp [bytesLt, Op.bytesLess])
  | _ :: _, [] => .inr (.inr (by simp [bytesLt, Op.bytesLess]))
  | x :: a, y :: b => by
    have ih := bl_total a b
    unfold bytesLt at *
    simp only [Op.bytesLess, Bool.or_eq_true, decide_eq_true_eq, Bool.and_eq_true, beq_iff_eq] at *
    rcases Nat.lt_trichotomy x.toNat y.toNat with h | h | h
    · exact .inl (.inl h)
    · have e : x = y := UInt8.toNat_inj.1 h
      subst e
      rcases ih with ih | rfl | ih
      · exact .inl (.inr ⟨rfl, ih⟩)
      · exact .inr (.inl rfl)
      · exact .inr (.inr (.inr ⟨rfl, ih⟩))
    · exact .inr (.inr (.inl h))
theorem lb_irrefl (a : Rf) : lessB a a = false := by simp [lessB, bl_irrefl]
theorem lb_total (a b : Rf) : lessB a b = true ∨ a = b ∨ lessB b a = true := by
  unfold lessB
  by_cases h1 : a.sc = b.sc
  · by_cases h2 : a.gr = b.gr
    · simp only [h1, h2, ne_eq, not_true_eq_false, if_false]
      rcases bl_total a.nm b.nm with h | h | h
      · exact .inl h
      · exact .inr (.inl (by cases a; cases b; simp_all))
      · exact .inr (.inr h)
    · have h2' : b.gr ≠ a.gr := fun e => h2 e.symm
      simp only [h1, h2, h2', ne_eq, not_true_eq_false, not_false_eq_true, if_false, if_true]
      rcases bl_total a.gr b.gr with h | h | h
      · exact .inl h
      · exact absurd h h2
      · exact .inr (.inr h)
  · have h1' : b.sc ≠ a.sc := fun e => h1 e.symm
    simp only [h1, h1', ne_eq, not_false_eq_true, if_true, decide_eq_true_eq]
    omega
theorem lb_trans {a b c : Rf} (h1 : lessB a b = true) (h2 : lessB b c = true) : lessB a c = true := by
  unfold lessB at *
  by_cases e1 : a.sc = b.sc
  · by_cases e2 : b.sc = c.sc
    · simp only [e1, e2, ne_eq, not_true_eq_false, if_false] at *
      by_cases g1 : a.gr = b.gr
      · by_cases g2 : b.gr = c.gr
        · simp only [g1, g2, not_true_eq_false, if_false] at *
          exact bl_trans h1 h2
        · simp only [g1, g2, not_true_eq_false, not_false_eq_true, if_false, if_true] at *
          exact h2
      · by_cases g2 : b.gr = c.gr
        · rw [← g2]
          simp only [g1, not_false_eq_true, if_true] at *
          exact h1
        · simp only [g1, g2, not_false_eq_true, if_true] at *
          have := bl_trans h1 h2
          have hn : ¬ a.gr = c.gr := fun e => by rw [e, bl_irrefl] at this; cases this
          simp only [hn, not_false_eq_true, if_true]
          exact this
    · simp only [e1, e2, ne_eq, not_false_eq_true, if_true] at *
      exact h2
  · by_cases e2 : b.sc = c.sc
    · rw [← e2]
      simp only [e1, ne_eq, not_false_eq_true, if_true] at *
      exact h1
    · simp only [e1, e2, ne_eq, not_false_eq_true, if_true, decide_eq_true_eq] at *
      have hn : ¬ a.sc = c.sc := by omega
      simp only [hn, not_false_eq_true, if_true, decide_eq_true_eq]
      omega
/-- rising by places -/
def Rise (l : List Fd) : Prop := l.Pairwise fun a b => lessB a.at' b.at' = true
theorem rise_of_steps : ∀ {l : List Fd}, (∀ i, i < l.length → i = 0 ∨ lessB (l.getD (i - 1) default).at' (l.getD i default).at' = true) → Rise l
  | [], _ => List.Pairwise.nil
  | [a], _ => List.pairwise_singleton _ _
  | a :: b :: l, h => by
    have ih : Rise (b :: l) := rise_of_steps fun i hi => by
      cases i with
      | zero => exact .inl rfl
      | succ i =>
        have := h (i + 2) (by simp at hi ⊢; omega)
        right
        simpa using this
    have hab : lessB a.at' b.at' = true := by simpa using h 1 (by simp)
    refine List.pairwise_cons.2 ⟨fun x hx => ?_, ih⟩
    rcases List.mem_cons.1 hx with rfl | hx
    · exact hab
    · exact lb_trans hab ((List.pairwise_cons.1 ih).1 x hx)
theorem steps_of_rise {l : List Fd} (h : Rise l) : ∀ i, i < l.length → i = 0 ∨ lessB (l.getD (i - 1) default).at' (l.getD i default).at' = true := fun i hi => by
  by_cases h0 : i = 0
  · exact .inl h0
  · right
    rw [getD_lt (by omega), getD_lt hi]
    exact List.pairwise_iff_getElem.1 h (i - 1) i (by omega) hi (by omega)
theorem right_iff {l : List Fd} : rightL l = true ↔ l.length ≤ 16 ∧ Rise l ∧ ∀ f ∈ l, rightF f = true := by
  unfold rightL
  simp only [Bool.and_eq_true, Bool.not_eq_true', decide_eq_false_iff_not, List.all_eq_true, List.mem_range, fldOk, Bool.or_eq_true, decide_eq_true_eq]
  constructor
  · rintro ⟨h1, h2⟩
    refine ⟨by omega, rise_of_steps fun i hi => (h2 i hi).2, fun f hf => ?_⟩
    obtain ⟨i, hi, rfl⟩ := List.getElem_of_mem hf
    have := (h2 i hi).1
    rwa [getD_lt hi] at this
  · rintro ⟨h1, h2, h3⟩
    exact ⟨by omega, fun i hi => ⟨h3 _ (getD_mem hi), steps_of_rise h2 i hi⟩⟩
/-- two that rise and hold the same are the same -/
theorem rise_ext : ∀ {l m : List Fd}, Rise l → Rise m → (∀ f, f ∈ l ↔ f ∈ m) → l = m
  | [], [], _, _, _ => rfl
  | [], b :: m, _, _, h => by have := (h b).2 (by simp); cases this
  | a :: l, [], _, _, h => by have := (h a).1 (by simp); cases this
  | a :: l, b :: m, h1, h2, h => by
    obtain ⟨p1, q1⟩ := List.pairwise_cons.1 h1
    obtain ⟨p2, q2⟩ := List.pairwise_cons.1 h2
    have e : a = b := by
      rcases List.mem_cons.1 ((h a).1 (by simp)) with e | ha
      · exact e
      · rcases List.mem_cons.1 ((h b).2 (by simp)) with e | hb
        · exact e.symm
        · have := lb_trans (p1 b hb) (p2 a ha)
          rw [lb_irrefl] at this; cases this
    subst e
    congr 1
    refine rise_ext q1 q2 fun f => ⟨fun hf => ?_, fun hf => ?_⟩
    · rcases List.mem_cons.1 ((h f).1 (by simp [hf])) with e | hf'
      · subst e
        have := p1 f hf
        rw [lb_irrefl] at this; cases this
      · exact hf'
    · rcases List.mem_cons.1 ((h f).2 (by simp [hf])) with e | hf'
      · subst e
        have := p2 f hf
        rw [lb_irrefl] at this; cases this
      · exact hf'
theorem rise_at {l : List Fd} (h : Rise l) {f g : Fd} (hf : f ∈ l) (hg : g ∈ l) (e : f.at' = g.at') : f = g := by
  obtain ⟨i, hi, rfl⟩ := List.getElem_of_mem hf
  obtain ⟨j, hj, rfl⟩ := List.getElem_of_mem hg
  rcases Nat.lt_trichotomy i j with h1 | h1 | h1
  · have := List.pairwise_iff_getElem.1 h i j hi hj h1
    rw [e, lb_irrefl] at this; cases this
  · subst h1; rfl
  · have := List.pairwise_iff_getElem.1 h j i hj hi h1
    rw [e, lb_irrefl] at this; cases this
end Go.Proofs.YtnadlkjmdimjkaaGreat

set_option linter.unusedSimpArgs false
set_option linter.unusedVariables false
set_option linter.unusedSimpArgs false
set_option linter.unusedVariables false
namespace Go.Proofs.YtnadlkjmdimjkaaGreat
open Go.PL
theorem atF_idx (l : List Fd) (r : Rf) : (idx (atF r) l = -1 ∧ ∀ g ∈ l, g.at' ≠ r) ∨ ∃ i : Nat, ∃ h : i < l.length, idx (atF r) l = (i : Int) ∧ (l[i]).at' = r := by
  unfold idx
  cases hf : l.findIdx? (atF r) with
  | none =>
    left
    refine ⟨rfl, fun g hg e => ?_⟩
    rw [List.findIdx?_eq_none_iff] at hf
    have := hf g hg
    simp [atF, e] at this
  | some i =>
    right
    rw [List.findIdx?_eq_some_iff_getElem] at hf
    obtain ⟨h1, h2, _⟩ := hf
    exact ⟨i, h1, rfl, by simpa [atF] using h2⟩
theorem find_mem {l : List Fd} (h : Rise l) {f : Fd} (hf : f ∈ l) : findF l f.at' = (f, 0) := by
  unfold findF
  rcases atF_idx l f.at' with ⟨_, h2⟩ | ⟨i, hi, h1, h2⟩
  · exact absurd rfl (h2 f hf)
  · rw [h1, if_neg (by omega)]
    simp only [Int.toNat_natCast]
    rw [getD_lt hi]
    rw [rise_at h (List.getElem_mem hi) hf h2]
theorem find_zero {l : List Fd} {r : Rf} (h : (findF l r).2 = 0) : (findF l r).1 ∈ l ∧ (findF l r).1.at' = r := by
  unfold findF at *
  rcases atF_idx l r with ⟨h1, _⟩ | ⟨i, hi, h1, h2⟩
  · rw [h1] at h; simp at h
  · rw [h1, if_neg (by omega)]
    simp only [Int.toNat_natCast]
    rw [getD_lt hi]
    exact ⟨List.getElem_mem hi, h2⟩
theorem wo_fwd {l : List Fd} {r : Rf} (h : (withoutM l r).2 = 0) : rightL l = true ∧ (∃ f ∈ l, f.at' = r) ∧ rightL (withoutM l r).1 = true ∧ (∀ g, g ∈ (withoutM l r).1 ↔ g ∈ l ∧ g.at' ≠ r) ∧ (withoutM l r).1.length + 1 = l.length := by
  unfold withoutM at *
  cases hr : rightL l with
  | false => rw [hr] at h; simp at h
  | true =>
    rcases atF_idx l r with ⟨h1, _⟩ | ⟨i, hi, h1, h2⟩
    · rw [hr, h1] at h; simp at h
    · simp only [h1, Bool.true_eq_false, if_false, show ¬ (i : Int) < 0 by omega, Int.toNat_natCast]
      obtain ⟨k1, k2, k3⟩ := right_iff.1 hr
      have hsub : (l.eraseIdx i).Sublist l := List.eraseIdx_sublist _ _
      have hlen : (l.eraseIdx i).length + 1 = l.length := by rw [List.length_eraseIdx_of_lt hi]; omega
      refine ⟨trivial, ⟨_, List.getElem_mem hi, h2⟩, right_iff.2 ⟨by omega, List.Pairwise.sublist hsub k2, fun f hf => k3 f (hsub.mem hf)⟩, fun g => ?_, hlen⟩
      rw [List.mem_eraseIdx_iff_getElem]
      constructor
      · rintro ⟨j, hj, hne, rfl⟩
        refine ⟨List.getElem_mem hj, fun e => ?_⟩
        have e2 := rise_at k2 (List.getElem_mem hj) (List.getElem_mem hi) (e.trans h2.symm)
        rcases Nat.lt_trichotomy j i with q | q | q
        · have := List.pairwise_iff_getElem.1 k2 j i hj hi q
          rw [e2, lb_irrefl] at this; cases this
        · exact hne q
        · have := List.pairwise_iff_getElem.1 k2 i j hi hj q
          rw [e2, lb_irrefl] at this; cases this
      · rintro ⟨hg, hne⟩
        obtain ⟨j, hj, rfl⟩ := List.getElem_of_mem hg
        exact ⟨j, hj, fun e => hne (by subst e; exact h2), rfl⟩
theorem wo_bwd {l : List Fd} {r : Rf} (hr : rightL l = true) (h : ∃ f ∈ l, f.at' = r) : (withoutM l r).2 = 0 := by
  obtain ⟨f, hf, e⟩ := h
  unfold withoutM
  rcases atF_idx l r with ⟨_, h2⟩ | ⟨i, hi, h1, h2⟩
  · exact absurd e (h2 f hf)
  · simp [hr, h1, show ¬ (i : Int) < 0 by omega]
theorem ins_mem (l : List Fd) (f g : Fd) : g ∈ insM l f ↔ g ∈ l ∨ g = f := by
  unfold insM
  have := List.takeWhile_append_dropWhile (p := less' f.at') (l := l)
  constructor
  · intro h
    rcases List.mem_append.1 h with h | h
    · exact .inl (by rw [← this]; exact List.mem_append_left _ h)
    · rcases List.mem_cons.1 h with h | h
      · exact .inr h
      · exact .inl (by rw [← this]; exact List.mem_append_right _ h)
  · rintro (h | h)
    · rw [← this] at h
      rcases List.mem_append.1 h with h | h
      · exact List.mem_append_left _ h
      · exact List.mem_append_right _ (List.mem_cons_of_mem _ h)
    · exact List.mem_append_right _ (by simp [h])
theorem ins_rise : ∀ {l : List Fd} {f : Fd}, Rise l → (∀ g ∈ l, g.at' ≠ f.at') → Rise (insM l f)
  | [], f, _, _ => List.pairwise_singleton _ _
  | a :: l, f, h, hn => by
    obtain ⟨p, q⟩ := List.pairwise_cons.1 h
    cases hb : lessB a.at' f.at' with
    | true =>
      rw [ins_t hb]
      refine List.pairwise_cons.2 ⟨fun x hx => ?_, ins_rise q (fun g hg => hn g (by simp [hg]))⟩
      rcases (ins_mem l f x).1 hx with hx | hx
      · exact p x hx
      · rw [hx]; exact hb
    | false =>
      rw [ins_f hb]
      have hfa : lessB f.at' a.at' = true := by
        rcases lb_total a.at' f.at' with h1 | h1 | h1
        · rw [hb] at h1; cases h1
        · exact absurd h1 (hn a (by simp))
        · exact h1
      refine List.pairwise_cons.2 ⟨fun x hx => ?_, h⟩
      rcases List.mem_cons.1 hx with rfl | hx
      · exact hfa
      · exact lb_trans hfa (p x hx)
theorem wi_fwd {l : List Fd} {f : Fd} (h : (withM l f).2 = 0) : rightL l = true ∧ rightF f = true ∧ (∀ g ∈ l, g.at' ≠ f.at') ∧ rightL (withM l f).1 = true ∧ (∀ g, g ∈ (withM l f).1 ↔ g ∈ l ∨ g = f) ∧ (withM l f).1.length = l.length + 1 := by
  unfold withM at *
  cases hr : rightL l with
  | false => rw [hr] at h; simp at h
  | true =>
    cases hf : rightF f with
    | false => rw [hr, hf] at h; simp at h
    | true =>
      rcases atF_idx l f.at' with ⟨h1, h2⟩ | ⟨i, hi, h1, h2⟩
      · by_cases hl : 16 ≤ (l.length : Int)
        · rw [hr, hf, h1] at h; simp [hl] at h
        · simp only [h1, Bool.true_eq_false, or_self, if_false, hl, show ¬ (0 : Int) ≤ -1 by omega]
          obtain ⟨k1, k2, k3⟩ := right_iff.1 hr
          have hil := ins_len l f
          refine ⟨trivial, trivial, h2, right_iff.2 ⟨by omega, ins_rise k2 h2, fun g hg => ?_⟩, fun g => ins_mem l f g, hil⟩
          rcases (ins_mem l f g).1 hg with hg | hg
          · exact k3 g hg
          · rw [hg]; exact hf
      · rw [hr, hf, h1] at h; simp at h
theorem wi_bwd {l : List Fd} {f : Fd} (hr : rightL l = true) (hf : rightF f = true) (hn : ∀ g ∈ l, g.at' ≠ f.at') (hl : l.length < 16) : (withM l f).2 = 0 := by
  unfold withM
  rcases atF_idx l f.at' with ⟨h1, h2⟩ | ⟨i, hi, h1, h2⟩
  · simp [hr, hf, h1, show ¬ 16 ≤ (l.length : Int) by omega]
  · exact absurd h2 (hn _ (List.getElem_mem hi))
theorem go_fwd : ∀ {rs : List Rf} {l m : List Fd}, rightL l = true → goAll rs l = some m → rightL m = true ∧ (∀ g, g ∈ m ↔ g ∈ l ∧ g.at' ∉ rs) ∧ (∀ r ∈ rs, ∃ f ∈ l, f.at' = r) ∧ rs.Nodup ∧ m.length + rs.length = l.length
  | [], l, m, hr, h => by cases h; exact ⟨hr, by simp, by simp, by simp, by simp⟩
  | r :: rs, l, m, hr, h => by
    unfold goAll at h
    split at h
    · cases h
    · rename_i hz
      obtain ⟨a1, a2, a3, a4, a5⟩ := wo_fwd (by simpa using hz)
      obtain ⟨b1, b2, b3, b4, b5⟩ := go_fwd a3 h
      refine ⟨b1, fun g => ?_, fun q hq => ?_, List.nodup_cons.2 ⟨fun hin => ?_, b4⟩, by simp only [List.length_cons]; omega⟩
      · rw [b2, a4]
        simp only [List.mem_cons, not_or]
        exact ⟨fun h => ⟨h.1.1, h.1.2, h.2⟩, fun h => ⟨⟨h.1, h.2.1⟩, h.2.2⟩⟩
      · rcases List.mem_cons.1 hq with rfl | hq
        · exact a2
        · obtain ⟨f, hf, e⟩ := b3 q hq
          exact ⟨f, ((a4 f).1 hf).1, e⟩
      · obtain ⟨f, hf, e⟩ := b3 r hin
        exact ((a4 f).1 hf).2 e
theorem go_bwd : ∀ {rs : List Rf} {l : List Fd}, rightL l = true → rs.Nodup → (∀ r ∈ rs, ∃ f ∈ l, f.at' = r) → ∃ m, goAll rs l = some m
  | [], l, _, _, _ => ⟨l, rfl⟩
  | r :: rs, l, hr, hn, h => by
    rw [List.nodup_cons] at hn
    have hz := wo_bwd hr (h r (by simp))
    obtain ⟨a1, a2, a3, a4, a5⟩ := wo_fwd hz
    obtain ⟨m, hm⟩ := go_bwd (rs := rs) a3 hn.2 (fun q hq => by
      obtain ⟨f, hf, e⟩ := h q (by simp [hq])
      exact ⟨f, (a4 f).2 ⟨hf, fun e2 => hn.1 (by rw [← e2, e]; exact hq)⟩, e⟩)
    exact ⟨m, by unfold goAll; rw [if_neg (by simp [hz])]; exact hm⟩
theorem come_fwd : ∀ {fs l m : List Fd}, rightL l = true → comeAll fs l = some m → rightL m = true ∧ (∀ g, g ∈ m ↔ g ∈ l ∨ g ∈ fs) ∧ (∀ f ∈ fs, rightF f = true ∧ ∀ g ∈ l, g.at' ≠ f.at') ∧ (fs.map (·.at')).Nodup ∧ m.length = l.length + fs.length
  | [], l, m, hr, h => by cases h; exact ⟨hr, by simp, by simp, by simp, by simp⟩
  | f :: fs, l, m, hr, h => by
    unfold comeAll at h
    split at h
    · cases h
    · rename_i hz
      obtain ⟨a1, a2, a3, a4, a5, a6⟩ := wi_fwd (by simpa using hz)
      obtain ⟨b1, b2, b3, b4, b5⟩ := come_fwd a4 h
      refine ⟨b1, fun g => ?_, fun q hq => ?_, ?_, by simp only [List.length_cons]; omega⟩
      · rw [b2, a5, List.mem_cons, or_assoc]
      · rcases List.mem_cons.1 hq with rfl | hq
        · exact ⟨a2, a3⟩
        · exact ⟨(b3 q hq).1, fun g hg => (b3 q hq).2 g ((a5 g).2 (.inl hg))⟩
      · rw [List.map_cons, List.nodup_cons]
        refine ⟨fun hin => ?_, b4⟩
        obtain ⟨q, hq, e⟩ := List.mem_map.1 hin
        exact (b3 q hq).2 f ((a5 f).2 (.inr rfl)) e.symm
theorem come_bwd : ∀ {fs l : List Fd}, rightL l = true → (∀ f ∈ fs, rightF f = true) → (∀ f ∈ fs, ∀ g ∈ l, g.at' ≠ f.at') → (fs.map (·.at')).Nodup → l.length + fs.length ≤ 16 → ∃ m, comeAll fs l = some m
  | [], l, _, _, _, _, _ => ⟨l, rfl⟩
  | f :: fs, l, hr, hf, hp, hn, hl => by
    rw [List.map_cons, List.nodup_cons] at hn
    simp only [List.length_cons] at hl
    have hz := wi_bwd hr (hf f (by simp)) (hp f (by simp)) (by omega)
    obtain ⟨a1, a2, a3, a4, a5, a6⟩ := wi_fwd hz
    obtain ⟨m, hm⟩ := come_bwd (fs := fs) a4 (fun q hq => hf q (by simp [hq])) (fun q hq g hg e => by
      rcases (a5 g).1 hg with hg | hg
      · exact hp q (by simp [hq]) g hg e
      · exact hn.1 (List.mem_map.2 ⟨q, hq, by rw [← e, hg]⟩)) hn.2 (by omega)
    exact ⟨m, by unfold comeAll; rw [if_neg (by simp [hz])]; exact hm⟩
theorem apply_fwd {l m : List Fd} {x : Ln} (h : applyM l x = (m, 0)) : rightL l = true ∧ rightLn x = true ∧ ∃ cs l1, arrM l x = (cs, true) ∧ goAll (goesR x) l = some l1 ∧ comeAll cs l1 = some m := by
  unfold applyM at h
  split at h
  · simp at h
  · rename_i hh
    simp only [not_or, Bool.not_eq_false] at hh
    refine ⟨hh.1, hh.2, ?_⟩
    split at h
    · simp at h
    · rename_i k hk
      simp only [Prod.mk.injEq, and_true] at h
      subst h
      unfold applyR at hk
      split at hk
      · cases hk
      · rename_i ha
        obtain ⟨l1, h1, h2⟩ := Option.bind_eq_some_iff.1 hk
        refine ⟨(arrM l x).1, l1, ?_, h1, h2⟩
        have : (arrM l x).2 = true := by simpa using ha
        rw [← this]
/-- the way back of a lens leads back -/
theorem inv_gen {l l1 m cs gs : List Fd} {x y : Ln} (hl : rightL l = true) (h1 : goAll (goesR x) l = some l1) (h2 : comeAll cs l1 = some m) (hy : rightLn y = true) (k1 : goesR y = cs.map (·.at')) (k2 : arrM m y = (gs, true)) (k3 : ∀ g ∈ gs, g ∈ l) (k4 : gs.map (·.at') = goesR x) : applyM m y = (l, 0) := by
  obtain ⟨a1, a2, a3, a4, a5⟩ := go_fwd hl h1
  obtain ⟨b1, b2, b3, b4, b5⟩ := come_fwd a1 h2
  obtain ⟨r1, r2, r3⟩ := right_iff.1 hl
  obtain ⟨m1, hm1⟩ := go_bwd (rs := cs.map (·.at')) b1 b4 (fun r hr => by
    obtain ⟨f, hf, e⟩ := List.mem_map.1 hr
    exact ⟨f, (b2 f).2 (.inr hf), e⟩)
  obtain ⟨c1, c2, c3, c4, c5⟩ := go_fwd b1 hm1
  have e1 : m1 = l1 := rise_ext (right_iff.1 c1).2.1 (right_iff.1 a1).2.1 fun f => by
    rw [c2, b2]
    constructor
    · rintro ⟨hf | hf, hn⟩
      · exact hf
      · exact absurd (List.mem_map.2 ⟨f, hf, rfl⟩) hn
    · intro hf
      refine ⟨.inl hf, fun hin => ?_⟩
      obtain ⟨q, hq, e⟩ := List.mem_map.1 hin
      exact (b3 q hq).2 f hf e.symm
  subst e1
  have hgl : gs.length = (goesR x).length := by rw [← k4]; simp
  obtain ⟨l2, hl2⟩ := come_bwd (fs := gs) a1 (fun f hf => r3 f (k3 f hf)) (fun f hf g hg e => ((a2 g).1 hg).2 (by rw [e, ← k4]; exact List.mem_map.2 ⟨f, hf, rfl⟩)) (by rw [k4]; exact a4) (by omega)
  obtain ⟨d1, d2, d3, d4, d5⟩ := come_fwd a1 hl2
  have e2 : l2 = l := rise_ext (right_iff.1 d1).2.1 r2 fun f => by
    rw [d2, a2]
    constructor
    · rintro (hf | hf)
      · exact hf.1
      · exact k3 f hf
    · intro hf
      by_cases hin : f.at' ∈ goesR x
      · right
        rw [← k4] at hin
        obtain ⟨q, hq, e⟩ := List.mem_map.1 hin
        rw [← rise_at r2 (k3 q hq) hf e]; exact hq
      · exact .inl ⟨hf, hin⟩
  subst e2
  unfold applyM
  rw [if_neg (by simp [b1, hy])]
  have : applyR m y = some l2 := by
    unfold applyR
    rw [k2, if_neg (by simp), k1, hm1]
    exact hl2
  rw [this]
end Go.Proofs.YtnadlkjmdimjkaaGreat

set_option linter.unusedSimpArgs false
set_option linter.unusedVariables false
set_option linter.unusedSimpArgs false
set_option linter.unusedVariables false
namespace Go.Proofs.YtnadlkjmdimjkaaGreat
open Go.PL
theorem right_inv {x : Ln} (h : rightLn x = true) (hk : x.kind = 1 ∨ x.kind = 2 ∨ x.kind = 3 ∨ x.kind = 4 ∨ x.kind = 5 ∨ x.kind = 6 ∨ x.kind = 7 ∨ x.kind = 8 ∨ x.kind = 9 ∨ x.kind = 10) : rightLn (invR x) = true := by
  obtain ⟨kind, ⟨sc, gr, n0⟩, nm, ot, fac, fd, fo, ba⟩ := x
  simp only at hk
  rcases hk with rfl | rfl | rfl | rfl | rfl | rfl | rfl | rfl | rfl | rfl
  all_goals
    simp [rightLn, invR, placeB, tablesB] at h ⊢
    (try (simp_all; done))
    (try (obtain ⟨h1, h2⟩ := h; simp_all; done))
  obtain ⟨⟨⟨g1, g2, g3⟩, g4⟩, g5, g6, g7, g8, g9⟩ := h
  exact ⟨⟨⟨g1, g2, .inr g9⟩, g4⟩, g5, g6, g7, fun e => by subst e; exact absurd g9 (by decide)⟩
theorem fd_eta (f : Fd) (r : Rf) (h : f.at' = r) : (⟨r, f.kind, f.df, f.cases', f.worth⟩ : Fd) = f := by subst h; rfl
theorem right1 {f : Fd} (h : rightF f = true) (hk : f.kind = 1) : f = ⟨f.at', 1, [], [], f.worth⟩ := by
  obtain ⟨a, k, d, c, w⟩ := f
  simp only at hk
  subst hk
  simp [rightF] at h
  simp_all
theorem right2 {f : Fd} (h : rightF f = true) (hk : f.kind = 2) : f = ⟨f.at', 2, f.df, [], 0⟩ := by
  obtain ⟨a, k, d, c, w⟩ := f
  simp only at hk
  subst hk
  simp [rightF, tail2] at h
  simp_all
set_option maxHeartbeats 4000000 in
theorem apply_inv {l m : List Fd} {x : Ln} (hk : x.kind ≤ 8) (h : applyM l x = (m, 0)) : applyM m (invR x) = (l, 0) := by
  obtain ⟨hl, hx, cs, l1, h1, h2, h3⟩ := apply_fwd h
  have hkind : x.kind = 1 ∨ x.kind = 2 ∨ x.kind = 3 ∨ x.kind = 4 ∨ x.kind = 5 ∨ x.kind = 6 ∨ x.kind = 7 ∨ x.kind = 8 := by
    have := (rightLn_kind hx).1
    omega
  have hy := right_inv hx (by omega)
  obtain ⟨r1, r2, r3⟩ := right_iff.1 hl
  obtain ⟨a1, a2, a3, a4, a5⟩ := go_fwd hl h2
  obtain ⟨b1, b2, b3, b4, b5⟩ := come_fwd a1 h3
  have hm := (right_iff.1 b1).2.1
  have find1 : ∀ {r : Rf}, (findF l r).2 = 0 → (findF l r).1 ∈ l ∧ (findF l r).1.at' = r := fun h => find_zero h
  obtain ⟨kind, ⟨sc, gr, n0⟩, nm, ot, fac, fd, fo, ba⟩ := x
  simp only at hkind
  rcases hkind with rfl | rfl | rfl | rfl | rfl | rfl | rfl | rfl
  -- rename
  · simp only [arrM, comesR, named, Int.reduceEq, if_false, if_true, List.getD_cons_zero] at h1
    split at h1
    · cases h1
    · rename_i hz
      simp only [Prod.mk.injEq, and_true] at h1
      obtain ⟨f1, f2⟩ := find1 (by simpa using hz)
      generalize (findF l ⟨sc, gr, n0⟩).1 = f at *
      subst h1
      refine inv_gen hl h2 h3 hy (gs := [f]) rfl ?_ (by simpa using f1) (by simp [goesR, f2])
      have hc := find_mem hm ((b2 ⟨⟨sc, gr, nm⟩, f.kind, f.df, f.cases', f.worth⟩).2 (.inr (by simp)))
      simp only [arrM, invR, comesR, named, Int.reduceEq, if_false, if_true, List.getD_cons_zero, hc, ne_eq, not_true_eq_false]
      rw [fd_eta f _ f2]
  -- add
  · simp only [arrM, Int.reduceEq, if_true, Prod.mk.injEq, and_true] at h1
    subst h1
    have hc := find_mem hm ((b2 fd).2 (.inr (by simp)))
    refine inv_gen hl h2 h3 hy (gs := []) rfl ?_ (by simp) rfl
    simp [arrM, invR, hc]
  -- remove
  · simp only [arrM, Int.reduceEq, if_false, if_true, Prod.mk.injEq, Bool.and_eq_true, decide_eq_true_eq] at h1
    obtain ⟨rfl, h4, h5⟩ := h1
    obtain ⟨f1, f2⟩ := find1 h4
    rw [h5] at f1
    exact inv_gen hl h2 h3 hy (gs := [fd]) rfl (by simp [arrM, invR]) (by simpa using f1) rfl
  -- hoist
  · simp only [arrM, comesR, Int.reduceEq, if_false, if_true, List.getD_cons_zero] at h1
    split at h1
    · cases h1
    · rename_i hz
      simp only [Prod.mk.injEq, and_true] at h1
      obtain ⟨f1, f2⟩ := find1 (by simpa using hz)
      generalize (findF l ⟨sc, gr, n0⟩).1 = f at *
      subst h1
      refine inv_gen hl h2 h3 hy (gs := [f]) rfl ?_ (by simpa using f1) (by simp [goesR, f2])
      have hc := find_mem hm ((b2 ⟨⟨sc, [], n0⟩, f.kind, f.df, f.cases', f.worth⟩).2 (.inr (by simp)))
      simp only [arrM, invR, comesR, named, Int.reduceEq, if_false, if_true, List.getD_cons_zero, hc, ne_eq, not_true_eq_false]
      rw [fd_eta f _ f2]
  -- plunge
  · have hg : gr = [] := by simp [rightLn] at hx; exact hx.2.2.2.2.1
    subst hg
    simp only [arrM, comesR, Int.reduceEq, if_false, if_true, List.getD_cons_zero] at h1
    split at h1
    · cases h1
    · rename_i hz
      simp only [Prod.mk.injEq, and_true] at h1
      obtain ⟨f1, f2⟩ := find1 (by simpa using hz)
      generalize (findF l ⟨sc, [], n0⟩).1 = f at *
      subst h1
      refine inv_gen hl h2 h3 hy (gs := [f]) rfl ?_ (by simpa using f1) (by simp [goesR, f2])
      have hc := find_mem hm ((b2 ⟨⟨sc, nm, n0⟩, f.kind, f.df, f.cases', f.worth⟩).2 (.inr (by simp)))
      simp only [arrM, invR, comesR, named, Int.reduceEq, if_false, if_true, List.getD_cons_zero, hc, ne_eq, not_true_eq_false]
      rw [fd_eta f _ f2]
  -- split
  · simp only [arrM, named, Int.reduceEq, if_false, if_true] at h1
    split at h1
    · cases h1
    · rename_i hz
      simp only [Prod.mk.injEq, decide_eq_true_eq] at h1
      obtain ⟨h1, h4⟩ := h1
      obtain ⟨f1, f2⟩ := find1 (by simpa using hz)
      generalize (findF l ⟨sc, gr, n0⟩).1 = f at *
      subst h1
      have hf := right1 (r3 f f1) h4
      rw [f2] at hf
      refine inv_gen hl h2 h3 hy (gs := [f]) rfl ?_ (by simpa using f1) (by simp [goesR, f2])
      have hc := find_mem hm ((b2 ⟨⟨sc, gr, nm⟩, 1, [], [], f.worth⟩).2 (.inr (by simp)))
      have hd := find_mem hm ((b2 ⟨⟨sc, gr, ot⟩, 1, [], [], IntKind.i64.wrap (f.worth * fac)⟩).2 (.inr (by simp)))
      simp only [arrM, mergedM, invR, named, Int.reduceEq, if_false, if_true, hc, hd, ne_eq, not_true_eq_false, or_self]
      rw [← hf]
  -- wrap
  · simp only [arrM, Int.reduceEq, if_false, if_true] at h1
    split at h1
    · cases h1
    · rename_i hz
      simp only [Prod.mk.injEq, Bool.and_eq_true, decide_eq_true_eq] at h1
      obtain ⟨h1, h4, h5⟩ := h1
      obtain ⟨f1, f2⟩ := find1 (by simpa using hz)
      generalize (findF l ⟨sc, gr, n0⟩).1 = f at *
      subst h1
      have hf := right2 (r3 f f1) h4
      rw [f2, h5] at hf
      refine inv_gen hl h2 h3 hy (gs := [f]) rfl ?_ (by simpa using f1) (by simp [goesR, f2])
      have hc := find_mem hm ((b2 ⟨⟨sc, gr, n0⟩, 4, [], [], 0⟩).2 (.inr (by simp)))
      simp only [arrM, invR, Int.reduceEq, if_false, if_true, hc, ne_eq, not_true_eq_false, decide_true]
      rw [← hf]
  -- convert
  · simp only [arrM, Int.reduceEq, if_false, if_true] at h1
    split at h1
    · cases h1
    · rename_i hz
      simp only [Prod.mk.injEq, decide_eq_true_eq] at h1
      obtain ⟨h1, h4⟩ := h1
      obtain ⟨f1, f2⟩ := find1 (by simpa using hz)
      generalize (findF l ⟨sc, gr, n0⟩).1 = f at *
      subst h1
      refine inv_gen hl h2 h3 hy (gs := [f]) rfl ?_ (by simpa using f1) (by simp [goesR, f2])
      have hc := find_mem hm ((b2 ⟨⟨sc, gr, n0⟩, 3, ot, fromsM ba, 0⟩).2 (.inr (by simp)))
      simp only [arrM, invR, Int.reduceEq, if_false, if_true, hc, ne_eq, not_true_eq_false, decide_true]
      rw [h4]
end Go.Proofs.YtnadlkjmdimjkaaGreat

set_option linter.unusedSimpArgs false
set_option linter.unusedVariables false
set_option linter.unusedSimpArgs false
set_option linter.unusedVariables false
namespace Go.Proofs.YtnadlkjmdimjkaaGreat
open Go.PL
structure ChT where
  l : List Fd
  n : Nat
  c : Int
def chainA : List Fd → List Ln → Nat → ChT
  | fs, [], i => ⟨fs, i, 0⟩
  | fs, x :: xs, i => if (applyM fs x).2 ≠ 0 then ⟨[], i, (applyM fs x).2⟩ else chainA (applyM fs x).1 xs (i + 1)
structure ChS (l : List Fd) (row : List Ln) where
  k : Nat
  fs : List Fd
  hk : k ≤ row.length
  ok : OkFs fs
  h : chainA fs (row.drop k) k = chainA l row 0
theorem drop_ln {row : List Ln} {k : Nat} (hk : k < row.length) : row.drop k = row.getD k default :: row.drop (k + 1) := by
  rw [getD_lt hk, List.drop_eq_getElem_cons hk]
end Go.Proofs.YtnadlkjmdimjkaaGreat

set_option linter.unusedSimpArgs false
set_option linter.unusedVariables false
set_option linter.unusedSimpArgs false
set_option linter.unusedVariables false
namespace Go.Proofs.YtnadlkjmdimjkaaGreat
open Go.PL
def foldL : List Ln → List Fd → Option (List Fd)
  | [], fs => some fs
  | x :: xs, fs => if (applyM fs x).2 ≠ 0 then none else foldL xs (applyM fs x).1
theorem foldL_append (w v : List Ln) (fs : List Fd) : foldL (w ++ v) fs = (foldL w fs).bind (foldL v) := by
  induction w generalizing fs with
  | nil => rfl
  | cons e w ih =>
    simp only [List.cons_append, foldL]
    split
    · rfl
    · exact ih _
theorem foldL_down (w : List Eg) (fs : List Fd) : foldL (w.map (·.ln)) fs = foldA w fs := by
  induction w generalizing fs with
  | nil => rfl
  | cons e w ih =>
    simp only [List.map_cons, foldL, foldA]
    split
    · rfl
    · exact ih _
theorem foldA_cons {e : Eg} {w : List Eg} {fs gs : List Fd} (h : foldA (e :: w) fs = some gs) : ∃ f1, applyM fs e.ln = (f1, 0) ∧ foldA w f1 = some gs := by
  simp only [foldA] at h
  split at h
  · cases h
  · rename_i hz
    exact ⟨(applyM fs e.ln).1, Prod.ext rfl (Classical.not_not.1 hz), h⟩
theorem foldL_up : ∀ (w : List Eg) {fs gs : List Fd}, (∀ e ∈ w, e.ln.kind ≤ 8) → foldA w fs = some gs → foldL (w.reverse.map fun e => invR e.ln) gs = some fs
  | [], fs, gs, _, h => by cases h; rfl
  | e :: w, fs, gs, hk, h => by
    obtain ⟨f1, ha, hw⟩ := foldA_cons h
    have ih := foldL_up w (fun x hx => hk x (by simp [hx])) hw
    have hi := apply_inv (hk e (by simp)) ha
    rw [List.reverse_cons, List.map_append, foldL_append, ih]
    show foldL [invR e.ln] f1 = some fs
    simp [foldL, hi]
theorem foldA_right : ∀ (w : List Eg) {fs gs : List Fd}, (∀ e ∈ w, e.ln.kind ≤ 8) → rightL fs = true → foldA w fs = some gs → rightL gs = true
  | [], fs, gs, _, hr, h => by cases h; exact hr
  | e :: w, fs, gs, hk, hr, h => by
    obtain ⟨f1, ha, hw⟩ := foldA_cons h
    exact foldA_right w (fun x hx => hk x (by simp [hx])) (apply_fwd (apply_inv (hk e (by simp)) ha)).1 hw
theorem right_root : rightL rootL = true := by decide
theorem foldA_split {w : List Eg} {fs gs : List Fd} (c : Nat) (h : foldA w fs = some gs) : ∃ ms, foldA (w.take c) fs = some ms ∧ foldA (w.drop c) ms = some gs := by
  rw [← List.take_append_drop c w, foldA_append] at h
  cases h1 : foldA (w.take c) fs with
  | none => rw [h1] at h; cases h
  | some ms => rw [h1] at h; exact ⟨ms, rfl, h⟩
theorem lenses_way {m : List Eg} (ha : Apart m) {p q : List Eg} (hp : ∀ e ∈ p, e ∈ m) (hq : ∀ e ∈ q, e ∈ m) : lenses m (legsW p q) = ((p.drop (lcp p q)).reverse.map fun e => invR e.ln) ++ (q.drop (lcp p q)).map (·.ln) := by
  unfold lenses legsW
  rw [List.map_append, List.map_map, List.map_map]
  congr 1
  · apply List.map_congr_left
    intro e he
    have := ha.find (hp e (List.mem_of_mem_drop (List.mem_reverse.1 he)))
    simp [lensM, upg, this]
  · apply List.map_congr_left
    intro e he
    have := ha.find (hq e (List.mem_of_mem_drop he))
    simp [lensM, dn, this]
theorem edge_kind {e : Eg} (h : edgeB e = true) : e.ln.kind ≤ 8 := by
  simp only [edgeB, Bool.and_eq_true, decide_eq_true_eq] at h; exact h.2.2.2.1
end Go.Proofs.YtnadlkjmdimjkaaGreat

set_option linter.unusedSimpArgs false
set_option linter.unusedVariables false
set_option linter.unusedSimpArgs false
set_option linter.unusedVariables false
namespace Go.Proofs.YtnadlkjmdimjkaaGreat
open Go.PL
end Go.Proofs.YtnadlkjmdimjkaaGreat
