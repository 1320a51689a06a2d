/- Contracts of functions and laws of this seat, each for every input that it names: lemmas of the proof. -/
import Derived.Test.YtbojhapdidieoaaGreatXAz
import Derived.Test.YtbojhapdidieoaaGreatXBj
import Derived.Test.YtbojhapdidieoaaGreatXBn
set_option linter.unusedSimpArgs false
set_option linter.unusedVariables false
set_option linter.unusedSimpArgs false
set_option linter.unusedVariables false
namespace Go.Proofs.YtbojhapdidieoaaGreat
open Go.PL
/-! the order of places -/
theorem bl_irrefl : ∀ (a : Str), bytesLt a a = false
  | [] => rfl
  | x :: a => by
    have := bl_irrefl a
    unfold bytesLt at *
    simp [Op.bytesLess, this]
theorem bl_trans : ∀ {a b c : Str}, bytesLt a b = true → bytesLt b c = true → bytesLt a c = true
  | [], [], _, h, _ => by simp [bytesLt, Op.bytesLess] at h
  | [], _ :: _, [], _, h => by simp [bytesLt, Op.bytesLess] at h
  | [], _ :: _, _ :: _, _, _ => by simp [bytesLt, Op.bytesLess]
  | _ :: _, [], _, h, _ => by simp [bytesLt, Op.bytesLess] at h
  | _ :: _, _ :: _, [], _, h => by simp [bytesLt, Op.bytesLess] at h
  | x :: a, y :: b, z :: c, h1, h2 => by
    have ih := bl_trans (a := a) (b := b) (c := c)
    unfold bytesLt at *
    simp only [Op.bytesLess, Bool.or_eq_true, decide_eq_true_eq, Bool.and_eq_true, beq_iff_eq] at *
    rcases h1 with h1 | ⟨rfl, h1⟩
    · rcases h2 with h2 | ⟨rfl, h2⟩
      · exact .inl (UInt8.lt_trans h1 h2)
      · exact .inl h1
    · rcases h2 with h2 | ⟨rfl, h2⟩
      · exact .inl h2
      · exact .inr ⟨rfl, ih h1 h2⟩
theorem lb_irrefl (a : Rf) : lessB a a = false := by simp [lessB, bl_irrefl]
theorem lb_trans {a b c : Rf} (h1 : lessB a b = true) (h2 : lessB b c = true) : lessB a c = true := by
  unfold lessB at *
  by_cases e1 : a.sc = b.sc
  · by_cases e2 : b.sc = c.sc
    · simp only [e1, e2, ne_eq, not_true_eq_false, if_false] at *
      by_cases g1 : a.gr = b.gr
      · by_cases g2 : b.gr = c.gr
        · simp only [g1, g2, not_true_eq_false, if_false] at *
          exact bl_trans h1 h2
        · simp only [g1, g2, not_true_eq_false, not_false_eq_true, if_false, if_true] at *
          exact h2
      · by_cases g2 : b.gr = c.gr
        · rw [← g2]
          simp only [g1, not_false_eq_true, if_true] at *
          exact h1
        · simp only [g1, g2, not_false_eq_true, if_true] at *
          have := bl_trans h1 h2
          have hn : ¬ a.gr = c.gr := fun e => by rw [e, bl_irrefl] at this; cases this
          simp only [hn, not_false_eq_true, if_true]
          exact this
    · simp only [e1, e2, ne_eq, not_false_eq_true, if_true] at *
      exact h2
  · by_cases e2 : b.sc = c.sc
    · rw [← e2]
      simp only [e1, ne_eq, not_false_eq_true, if_true] at *
      exact h1
    · simp only [e1, e2, ne_eq, not_false_eq_true, if_true, decide_eq_true_eq] at *
      have hn : ¬ a.sc = c.sc := by omega
      simp only [hn, not_false_eq_true, if_true, decide_eq_true_eq]
      omega
/-- rising by places -/
def Rise (l : List Fd) : Prop := l.Pairwise fun a b => lessB a.at' b.at' = true
theorem rise_of_steps : ∀ {l : List Fd}, (∀ i, i < l.length → i = 0 ∨ lessB (l.getD (i - 1) default).at' (l.getD i default).at' = true) → Rise l
  | [], _ => List.Pairwise.nil
  | [a], _ => List.pairwise_singleton _ _
  | a :: b :: l, h => by
    have ih : Rise (b :: l) := rise_of_steps fun i hi => by
      cases i with
      | zero => exact .inl rfl
      | succ i =>
        have := h (i + 2) (by simp at hi ⊢; omega)
        right
        simpa using this
    have hab : lessB a.at' b.at' = true := by simpa using h 1 (by simp)
    refine List.pairwise_cons.2 ⟨fun x hx => ?_, ih⟩
    rcases List.mem_cons.1 hx with rfl | hx
    · exact hab
    · exact lb_trans hab ((List.pairwise_cons.1 ih).1 x hx)
theorem steps_of_rise {l : List Fd} (h : Rise l) : ∀ i, i < l.length → i = 0 ∨ lessB (l.getD (i - 1) default).at' (l.getD i default).at' = true := fun i hi => by
  by_cases h0 : i = 0
  · exact .inl h0
  · right
    rw [getD_lt (by omega), getD_lt hi]
    exact List.pairwise_iff_getElem.1 h (i - 1) i (by omega) hi (by omega)
theorem right_iff {l : List Fd} : rightL l = true ↔ l.length ≤ 16 ∧ Rise l ∧ ∀ f ∈ l, rightF f = true := by
  unfold rightL
  simp only [Bool.and_eq_true, Bool.not_eq_true', decide_eq_false_iff_not, List.all_eq_true, List.mem_range, fldOk, Bool.or_eq_true, decide_eq_true_eq]
  constructor
  · rintro ⟨h1, h2⟩
    refine ⟨by omega, rise_of_steps fun i hi => (h2 i hi).2, fun f hf => ?_⟩
    obtain ⟨i, hi, rfl⟩ := List.getElem_of_mem hf
    have := (h2 i hi).1
    rwa [getD_lt hi] at this
  · rintro ⟨h1, h2, h3⟩
    exact ⟨by omega, fun i hi => ⟨h3 _ (getD_mem hi), steps_of_rise h2 i hi⟩⟩
theorem rise_at {l : List Fd} (h : Rise l) {f g : Fd} (hf : f ∈ l) (hg : g ∈ l) (e : f.at' = g.at') : f = g := by
  obtain ⟨i, hi, rfl⟩ := List.getElem_of_mem hf
  obtain ⟨j, hj, rfl⟩ := List.getElem_of_mem hg
  rcases Nat.lt_trichotomy i j with h1 | h1 | h1
  · have := List.pairwise_iff_getElem.1 h i j hi hj h1
    rw [e, lb_irrefl] at this; cases this
  · subst h1; rfl
  · have := List.pairwise_iff_getElem.1 h j i hj hi h1
    rw [e, lb_irrefl] at this; cases this
end Go.Proofs.YtbojhapdidieoaaGreat

set_option linter.unusedSimpArgs false
set_option linter.unusedVariables false
set_option linter.unusedSimpArgs false
set_option linter.unusedVariables false
namespace Go.Proofs.YtbojhapdidieoaaGreat
open Go.PL
theorem atF_idx (l : List Fd) (r : Rf) : (idx (atF r) l = -1 ∧ ∀ g ∈ l, g.at' ≠ r) ∨ ∃ i : Nat, ∃ h : i < l.length, idx (atF r) l = (i : Int) ∧ (l[i]).at' = r := by
  unfold idx
  cases hf : l.findIdx? (atF r) with
  | none =>
    left
    refine ⟨rfl, fun g hg e => ?_⟩
    rw [List.findIdx?_eq_none_iff] at hf
    have := hf g hg
    simp [atF, e] at this
  | some i =>
    right
    rw [List.findIdx?_eq_some_iff_getElem] at hf
    obtain ⟨h1, h2, _⟩ := hf
    exact ⟨i, h1, rfl, by simpa [atF] using h2⟩
theorem find_mem {l : List Fd} (h : Rise l) {f : Fd} (hf : f ∈ l) : findF l f.at' = (f, 0) := by
  unfold findF
  rcases atF_idx l f.at' with ⟨_, h2⟩ | ⟨i, hi, h1, h2⟩
  · exact absurd rfl (h2 f hf)
  · rw [h1, if_neg (by omega)]
    simp only [Int.toNat_natCast]
    rw [getD_lt hi]
    rw [rise_at h (List.getElem_mem hi) hf h2]
theorem find_zero {l : List Fd} {r : Rf} (h : (findF l r).2 = 0) : (findF l r).1 ∈ l ∧ (findF l r).1.at' = r := by
  unfold findF at *
  rcases atF_idx l r with ⟨h1, _⟩ | ⟨i, hi, h1, h2⟩
  · rw [h1] at h; simp at h
  · rw [h1, if_neg (by omega)]
    simp only [Int.toNat_natCast]
    rw [getD_lt hi]
    exact ⟨List.getElem_mem hi, h2⟩
theorem wo_fwd {l : List Fd} {r : Rf} (h : (withoutM l r).2 = 0) : rightL l = true ∧ (∃ f ∈ l, f.at' = r) ∧ rightL (withoutM l r).1 = true ∧ (∀ g, g ∈ (withoutM l r).1 ↔ g ∈ l ∧ g.at' ≠ r) ∧ (withoutM l r).1.length + 1 = l.length := by
  unfold withoutM at *
  cases hr : rightL l with
  | false => rw [hr] at h; simp at h
  | true =>
    rcases atF_idx l r with ⟨h1, _⟩ | ⟨i, hi, h1, h2⟩
    · rw [hr, h1] at h; simp at h
    · simp only [h1, Bool.true_eq_false, if_false, show ¬ (i : Int) < 0 by omega, Int.toNat_natCast]
      obtain ⟨k1, k2, k3⟩ := right_iff.1 hr
      have hsub : (l.eraseIdx i).Sublist l := List.eraseIdx_sublist _ _
      have hlen : (l.eraseIdx i).length + 1 = l.length := by rw [List.length_eraseIdx_of_lt hi]; omega
      refine ⟨trivial, ⟨_, List.getElem_mem hi, h2⟩, right_iff.2 ⟨by omega, List.Pairwise.sublist hsub k2, fun f hf => k3 f (hsub.mem hf)⟩, fun g => ?_, hlen⟩
      rw [List.mem_eraseIdx_iff_getElem]
      constructor
      · rintro ⟨j, hj, hne, rfl⟩
        refine ⟨List.getElem_mem hj, fun e => ?_⟩
        have e2 := rise_at k2 (List.getElem_mem hj) (List.getElem_mem hi) (e.trans h2.symm)
        rcases Nat.lt_trichotomy j i with q | q | q
        · have := List.pairwise_iff_getElem.1 k2 j i hj hi q
          rw [e2, lb_irrefl] at this; cases this
        · exact hne q
        · have := List.pairwise_iff_getElem.1 k2 i j hi hj q
          rw [e2, lb_irrefl] at this; cases this
      · rintro ⟨hg, hne⟩
        obtain ⟨j, hj, rfl⟩ := List.getElem_of_mem hg
        exact ⟨j, hj, fun e => hne (by subst e; exact h2), rfl⟩
theorem wo_bwd {l : List Fd} {r : Rf} (hr : rightL l = true) (h : ∃ f ∈ l, f.at' = r) : (withoutM l r).2 = 0 := by
  obtain ⟨f, hf, e⟩ := h
  unfold withoutM
  rcases atF_idx l r with ⟨_, h2⟩ | ⟨i, hi, h1, h2⟩
  · exact absurd e (h2 f hf)
  · simp [hr, h1, show ¬ (i : Int) < 0 by omega]
theorem go_fwd : ∀ {rs : List Rf} {l m : List Fd}, rightL l = true → goAll rs l = some m → rightL m = true ∧ (∀ g, g ∈ m ↔ g ∈ l ∧ g.at' ∉ rs) ∧ (∀ r ∈ rs, ∃ f ∈ l, f.at' = r) ∧ rs.Nodup ∧ m.length + rs.length = l.length
  | [], l, m, hr, h => by cases h; exact ⟨hr, by simp, by simp, by simp, by simp⟩
  | r :: rs, l, m, hr, h => by
    unfold goAll at h
    split at h
    · cases h
    · rename_i hz
      obtain ⟨a1, a2, a3, a4, a5⟩ := wo_fwd (by simpa using hz)
      obtain ⟨b1, b2, b3, b4, b5⟩ := go_fwd a3 h
      refine ⟨b1, fun g => ?_, fun q hq => ?_, List.nodup_cons.2 ⟨fun hin => ?_, b4⟩, by simp only [List.length_cons]; omega⟩
      · rw [b2, a4]
        simp only [List.mem_cons, not_or]
        exact ⟨fun h => ⟨h.1.1, h.1.2, h.2⟩, fun h => ⟨⟨h.1, h.2.1⟩, h.2.2⟩⟩
      · rcases List.mem_cons.1 hq with rfl | hq
        · exact a2
        · obtain ⟨f, hf, e⟩ := b3 q hq
          exact ⟨f, ((a4 f).1 hf).1, e⟩
      · obtain ⟨f, hf, e⟩ := b3 r hin
        exact ((a4 f).1 hf).2 e
end Go.Proofs.YtbojhapdidieoaaGreat

set_option linter.unusedSimpArgs false
set_option linter.unusedVariables false
set_option linter.unusedSimpArgs false
set_option linter.unusedVariables false
namespace Go.Proofs.YtbojhapdidieoaaGreat
open Go.PL
end Go.Proofs.YtbojhapdidieoaaGreat

set_option linter.unusedSimpArgs false
set_option linter.unusedVariables false
set_option linter.unusedSimpArgs false
set_option linter.unusedVariables false
namespace Go.Proofs.YtbojhapdidieoaaGreat
open Go.PL
structure ChT where
  l : List Fd
  n : Nat
  c : Int
def chainA : List Fd → List Ln → Nat → ChT
  | fs, [], i => ⟨fs, i, 0⟩
  | fs, x :: xs, i => if (applyM fs x).2 ≠ 0 then ⟨[], i, (applyM fs x).2⟩ else chainA (applyM fs x).1 xs (i + 1)
structure ChS (l : List Fd) (row : List Ln) where
  k : Nat
  fs : List Fd
  hk : k ≤ row.length
  ok : OkFs fs
  h : chainA fs (row.drop k) k = chainA l row 0
end Go.Proofs.YtbojhapdidieoaaGreat

set_option linter.unusedSimpArgs false
set_option linter.unusedVariables false
set_option linter.unusedSimpArgs false
set_option linter.unusedVariables false
namespace Go.Proofs.YtbojhapdidieoaaGreat
open Go.PL
theorem lcp_max {p q : List Eg} {k : Nat} (hp : k ≤ p.length) (hq : k ≤ q.length) (h : p.take k = q.take k) : k ≤ lcp p q := by
  by_cases hk : k ≤ lcp p q
  · exact hk
  · exfalso
    apply lcp_stop p q (by omega) (by omega)
    have e : (p.take k).getD (lcp p q) default = (q.take k).getD (lcp p q) default := by rw [h]
    rw [getD_lt (by simp; omega), getD_lt (by simp; omega)] at e
    rw [getD_lt (by omega), getD_lt (by omega)]
    simpa using e
theorem meet_comm (p q : List Eg) : meetT p q = meetT q p := by unfold meetT; rw [lcp_take, lcp_comm p q]
theorem stops_eq (p q : List Eg) : stopsW p q = (upL p).take (p.length - lcp p q + 1) ++ (q.drop (lcp p q)).map (·.id) := by rw [upL_take1]; rfl
theorem stops_len (p q : List Eg) : (stopsW p q).length = p.length - lcp p q + (q.length - lcp p q) + 1 := by simp [stopsW]; omega
theorem stops_first {m : List Eg} {a : Tg} {p : List Eg} (q : List Eg) (h : Way m a p) : (stopsW p q).getD 0 default = a := by
  rw [stops_eq, upL_head h]
  rfl
theorem nodup_rev {l : List Tg} : l.reverse.Nodup ↔ l.Nodup := by
  unfold List.Nodup
  rw [List.pairwise_reverse]
  constructor <;> exact fun h => h.imp (fun h => h.symm)
theorem way_ids {m : List Eg} (ha : Apart m) {w : List Eg} (hw : ∀ e ∈ w, e ∈ m) (hn : w.Nodup) : (w.map (·.id)).Nodup := by
  induction w with
  | nil => simp
  | cons e w ih =>
    rw [List.map_cons, List.nodup_cons]
    rw [List.nodup_cons] at hn
    refine ⟨fun hx0 => ?_, ih (fun x hx => hw x (by simp [hx])) hn.2⟩
    obtain ⟨x, hx, he⟩ := List.mem_map.1 hx0
    have := ha.inj (hw x (by simp [hx])) (hw e (by simp)) he
    subst this
    exact hn.1 hx
theorem upL_nodup {m : List Eg} (ha : Apart m) {w : List Eg} (hw : ∀ e ∈ w, e ∈ m) (hn : w.Nodup) : (upL w).Nodup := by
  unfold upL
  rw [List.nodup_append]
  refine ⟨?_, by simp, ?_⟩
  · rw [List.map_reverse, nodup_rev]; exact way_ids ha hw hn
  · intro x hx y hy e
    obtain ⟨z, hz, rfl⟩ := List.mem_map.1 hx
    rw [List.mem_singleton.1 hy] at e
    exact ha.n z (hw z (List.mem_reverse.1 hz)) e
theorem stops_apart {m : List Eg} (ha : Apart m) {a b : Tg} {p q : List Eg} (hp : Way m a p) (hq : Way m b q) {e1 e2 : Eg} (h1 : e1 ∈ p.drop (lcp p q)) (h2 : e2 ∈ q.drop (lcp p q)) : e1.id ≠ e2.id := by
  intro e
  obtain ⟨i, hi, rfl⟩ := List.getElem_of_mem h1
  obtain ⟨j, hj, rfl⟩ := List.getElem_of_mem h2
  simp only [List.length_drop] at hi hj
  rw [List.getElem_drop, List.getElem_drop] at e
  have w1 := hp.take (lcp p q + i) (by omega)
  have w2 := hq.take (lcp p q + j) (by omega)
  rw [e] at w1
  have w3 := w1.fn w2
  have hl := congrArg List.length w3
  simp only [List.length_take] at hl
  have hij : i = j := by omega
  subst hij
  have := lcp_max (by omega) (by omega) w3
  omega
end Go.Proofs.YtbojhapdidieoaaGreat

set_option linter.unusedSimpArgs false
set_option linter.unusedVariables false
set_option linter.unusedSimpArgs false
set_option linter.unusedVariables false
namespace Go.Proofs.YtbojhapdidieoaaGreat
open Go.PL
def hasT (l : List Tg) (t : Tg) : Int := idx (fun x => decide (x = t)) l
theorem RHas18_pure (l : List Tg) (t : Tg) (hl : l.length ≤ maxLen) : PL.Pure Tryz.prog 50 [tgs l, tg t] (.int .i64 (hasT l t)) := RHasT_pure l t hl
theorem hasT_no {l : List Tg} {t : Tg} (h : t ∉ l) : hasT l t = -1 := by
  unfold hasT
  apply idx_none (d := default)
  intro j hj
  rw [decide_eq_false_iff_not]
  intro e
  exact h (e ▸ getD_mem hj)
theorem hasT_yes {l : List Tg} {t : Tg} (h : t ∈ l) : 0 ≤ hasT l t := by
  unfold hasT idx
  cases hf : l.findIdx? fun x => decide (x = t) with
  | none => rw [List.findIdx?_eq_none_iff] at hf; have := hf t h; simp at this
  | some i => simp
end Go.Proofs.YtbojhapdidieoaaGreat

set_option linter.unusedSimpArgs false
set_option linter.unusedVariables false
set_option linter.unusedSimpArgs false
set_option linter.unusedVariables false
namespace Go.Proofs.YtbojhapdidieoaaGreat
open Go.PL
def keptL : List Ln → Rf → Bool
  | [], r => true
  | x :: xs, r => if keptM x r = false then false else if (traceM x r).2 = false then false else keptL xs (traceM x r).1
structure TrS (row : List Ln) (f : List Ln → Rf → Rf × Bool) (r0 : Rf) where
  k : Nat
  r : Rf
  hk : k ≤ row.length
  h : f (row.drop k) r = f row r0
structure KpS (row : List Ln) (r0 : Rf) where
  k : Nat
  r : Rf
  hk : k ≤ row.length
  h : keptL (row.drop k) r = keptL row r0
theorem row_ok {m : List Eg} {a b : Tg} (hm : OkM m) : (rowM m a b).1.length ≤ 1000 ∧ ∀ x ∈ (rowM m a b).1, OkLn x := by
  unfold rowM
  split
  · simp
  · rename_i h
    have hl := legs_len m a b hm
    unfold pathM at hl
    rw [if_neg h] at hl
    refine ⟨by simp only at hl; simp [lenses]; omega, fun x hx => ?_⟩
    obtain ⟨y, _, rfl⟩ := List.mem_map.1 hx
    exact okLens hm y
end Go.Proofs.YtbojhapdidieoaaGreat

set_option linter.unusedSimpArgs false
set_option linter.unusedVariables false
set_option linter.unusedSimpArgs false
set_option linter.unusedVariables false
namespace Go.Proofs.YtbojhapdidieoaaGreat
open Go.PL
/-- the state of a tag, and its schema, by its way -/
def stateM (m : List Eg) (id : Tg) : Int × List Fd :=
  if id ≠ default ∧ findE m id = none then (0, []) else match wayM m id with
    | none => (1, [])
    | some w => match foldA w rootL with
      | none => (3, [])
      | some fs => (2, fs)
theorem sch_state (m : List Eg) (id : Tg) : schM (treeOf m) id = if (stateM m id).1 = 3 then ([], 16) else if (stateM m id).1 ≠ 2 then ([], 13) else ((stateM m id).2, 0) := by
  unfold stateM schM
  by_cases hd : id = default
  · subst hd
    have h1 : wayM m default = some [] := wayM_iff.2 .root
    simp [atN, rootN, h1, foldA]
  · rw [atN_tree m id hd]
    cases hf : findE m id with
    | none =>
      have hn : id ≠ default ∧ (none : Option Eg) = none := ⟨hd, rfl⟩
      rw [if_pos hn]
      rfl
    | some e =>
      obtain ⟨h1, h2⟩ := findE_id hf
      have hn : ¬ (id ≠ default ∧ (some e : Option Eg) = none) := fun h => by cases h.2
      rw [if_neg hn]
      simp only [Option.map_some, Option.getD_some, nodeOf, ← h1]
      have key : ∀ (w : Option (List Eg)), (if (nodeW e w).st = 2 then ((nodeW e w).sch, (0 : Int)) else if (nodeW e w).st = 3 then ([], 16) else ([], 13)) =
          (fun s : Int × List Fd => if s.1 = 3 then (([] : List Fd), (16 : Int)) else if s.1 ≠ 2 then ([], 13) else (s.2, 0)) (match w with | none => (1, []) | some w => match foldA w rootL with | none => (3, []) | some fs => (2, fs)) := by
        intro w
        cases w with
        | none => rfl
        | some w =>
          have k2 : ∀ F : Option (List Fd), (fun (n : Nd) (s : Int × List Fd) => (if n.st = 2 then (n.sch, (0 : Int)) else if n.st = 3 then ([], 16) else ([], 13)) = (if s.1 = 3 then (([] : List Fd), (16 : Int)) else if s.1 ≠ 2 then ([], 13) else (s.2, 0)))
              (match F with | none => ⟨e, 3, [], 0⟩ | some fs => ⟨e, 2, fs, w.length⟩) (match F with | none => (3, []) | some fs => (2, fs)) := by
            intro F
            cases F <;> rfl
          exact k2 (foldA w rootL)
      exact key (wayM m id)
theorem foldA_next {e : Eg} {w : List Eg} (fs : List Fd) : foldA (e :: w) fs = if (applyM fs e.ln).2 = 0 then foldA w (applyM fs e.ln).1 else none := by
  by_cases h : (applyM fs e.ln).2 = 0
  · simp [foldA, h]
  · simp [foldA, h]
theorem find_no {l : List Fd} {r : Rf} (h : idx (atF r) l = -1) : findF l r = (default, 6) := by unfold findF; rw [h]; rfl
theorem find_at {l : List Fd} {r : Rf} {i : Nat} (h : idx (atF r) l = (i : Int)) : findF l r = (l.getD i default, 0) := by
  unfold findF; rw [h, if_neg (by omega)]; simp
/-- the fields at places, and what is left without them -/
def pickF (l : List Fd) (r : Rf) : Fd := (findF l r).1
def restM : List Rf → List Fd → List Fd
  | [], l => l
  | r :: rs, l => restM rs (withoutM l r).1
theorem restM_snoc : ∀ (rs : List Rf) (r : Rf) (l : List Fd), restM (rs ++ [r]) l = (withoutM (restM rs l) r).1
  | [], r, l => rfl
  | x :: rs, r, l => by simp only [List.cons_append, restM]; exact restM_snoc rs r _
theorem okRest : ∀ (rs : List Rf) {l : List Fd}, OkFs l → OkFs (restM rs l)
  | [], l, h => h
  | r :: rs, l, h => okRest rs (okWithout h r)
theorem goAll_rest : ∀ (rs : List Rf) {l : List Fd}, rightL l = true → rs.Nodup → (∀ r ∈ rs, (findF l r).2 = 0) → goAll rs l = some (restM rs l)
  | [], l, _, _, _ => rfl
  | r :: rs, l, hr, hn, hf => by
    obtain ⟨h1, h2⟩ := find_zero (hf r (by simp))
    have w0 := wo_bwd hr ⟨_, h1, h2⟩
    obtain ⟨_, _, w3, w4, _⟩ := wo_fwd w0
    simp only [goAll, w0, ne_eq, not_true_eq_false, if_false, restM]
    rw [List.nodup_cons] at hn
    refine goAll_rest rs w3 hn.2 fun x hx => ?_
    obtain ⟨g1, g2⟩ := find_zero (hf x (by simp [hx]))
    have hm : (findF l x).1 ∈ (withoutM l r).1 := (w4 _).2 ⟨g1, fun e => hn.1 (by rw [← e, g2]; exact hx)⟩
    have := find_mem (right_iff.1 w3).2.1 hm
    rw [g2] at this
    rw [this]
theorem goAll_none {rs : List Rf} {l : List Fd} (hr : rightL l = true) {r : Rf} (h : r ∈ rs) (hf : (findF l r).2 ≠ 0) : goAll rs l = none := by
  cases hg : goAll rs l with
  | none => rfl
  | some m =>
    obtain ⟨f, hfm, e⟩ := (go_fwd hr hg).2.2.1 r h
    have := find_mem (right_iff.1 hr).2.1 hfm
    rw [e] at this
    rw [this] at hf
    exact absurd rfl hf
/-- a field more -/
def putR (l : List Fd) (f : Fd) (ok : Bool) : List Fd × Bool := ((withM l f).1, ok && decide ((withM l f).2 = 0))
theorem right_enum {f : Fd} (h : rightF f = true) (hk : f.kind = 3) : f.worth = 0 := by
  simp [rightF, hk] at h
  exact h.2.1
theorem right_cnt {r : Rf} {w : Int} (h : ¬ w < 1048577) : rightF ⟨r, 1, [], [], w⟩ = false := by
  simp [rightF, h]
def movedF (f : Fd) (r : Rf) : Fd := ⟨r, f.kind, f.df, f.cases', f.worth⟩
/-- what comes, told as the chapter tells it -/
def endR (x : Ln) (was rest : List Fd) : List Fd × Bool :=
  if x.kind = 2 then putR rest x.fd true
  else if x.kind = 3 then (rest, decide (was.getD 0 default = x.fd))
  else if x.kind = 6 then
    putR (putR rest ⟨named x.at' x.nm, 1, [], [], (was.getD 0 default).worth⟩ (decide ((was.getD 0 default).kind = 1) && decide (IntKind.i64.wrap ((was.getD 0 default).worth * x.fac) < 1048577))).1
      ⟨named x.at' x.ot, 1, [], [], IntKind.i64.wrap ((was.getD 0 default).worth * x.fac)⟩
      (putR rest ⟨named x.at' x.nm, 1, [], [], (was.getD 0 default).worth⟩ (decide ((was.getD 0 default).kind = 1) && decide (IntKind.i64.wrap ((was.getD 0 default).worth * x.fac) < 1048577))).2
  else if x.kind = 7 then putR rest ⟨x.at', 4, [], [], 0⟩ (decide ((was.getD 0 default).kind = 2) && decide ((was.getD 0 default).df = x.ot))
  else if x.kind = 8 then putR rest ⟨x.at', 3, x.ot, fromsM x.ba, 0⟩ ((decide ((was.getD 0 default).kind = 3) && decide ((was.getD 0 default).df = x.nm)) && decide ((was.getD 0 default).cases' = fromsM x.fo))
  else if x.kind = 9 then putR rest ⟨x.at', 1, [], [], (was.getD 0 default).worth⟩ ((decide ((was.getD 0 default).kind = 1) && decide ((was.getD 1 default).kind = 1)) && decide ((was.getD 1 default).worth = IntKind.i64.wrap ((was.getD 0 default).worth * x.fac)))
  else if x.kind = 10 then putR rest ⟨x.at', 2, x.ot, [], 0⟩ (decide ((was.getD 0 default).kind = 4))
  else putR rest (movedF (was.getD 0 default) ((comesR x).getD 0 default)) true
def outR (y : List Fd × Bool) : List Fd × Int := if y.2 = false then ([], 16) else (y.1, 0)
def outO (y : Option (List Fd)) : List Fd × Int := match y with | none => ([], 16) | some m => (m, 0)
theorem put1 (rest : List Fd) (f : Fd) (ok : Bool) : outO (if ok = false then none else comeAll [f] rest) = outR (putR rest f ok) := by
  unfold outO outR putR
  cases ok
  · simp
  · by_cases h : (withM rest f).2 = 0
    · simp [comeAll, h]
    · simp [comeAll, h]
theorem put0 (rest : List Fd) (f : Fd) : outO (comeAll [f] rest) = outR (putR rest f true) := put1 rest f true
theorem goes_nodup {x : Ln} (h : rightLn x = true) : (goesR x).Nodup := by
  unfold goesR
  split
  · simp
  split
  · simp
  split
  · rename_i h9
    simp only [List.nodup_cons, List.mem_singleton, List.not_mem_nil, not_false_eq_true, List.nodup_nil, and_true]
    intro e
    have e2 : x.nm = x.ot := by simpa [named] using congrArg (fun r : Rf => r.nm) e
    simp [rightLn, h9, e2] at h
  · simp
theorem apply_ref {l : List Fd} {x : Ln} (hl : rightL l = true) (hx : rightLn x = true) :
    applyM l x = if ∃ r ∈ goesR x, (findF l r).2 ≠ 0 then ([], 16) else outR (endR x ((goesR x).map (pickF l)) (restM (goesR x) l)) := by
  have hk := (rightLn_kind hx).1
  unfold applyM
  rw [if_neg (by simp [hl, hx])]
  show outO (applyR l x) = _
  split
  · rename_i h
    obtain ⟨r, hr, hf⟩ := h
    unfold applyR
    rw [goAll_none hl hr hf]
    split <;> rfl
  · rename_i h
    have hall : ∀ r ∈ goesR x, (findF l r).2 = 0 := fun r hr => by
      refine Decidable.byContradiction fun hn => h ⟨r, hr, hn⟩
    have hg := goAll_rest (goesR x) hl (goes_nodup hx) hall
    have hp : ∀ r ∈ goesR x, rightF (pickF l r) = true ∧ (pickF l r).at' = r := fun r hr => by
      obtain ⟨h1, h2⟩ := find_zero (hall r hr)
      exact ⟨(right_iff.1 hl).2.2 _ h1, h2⟩
    have pk : ∀ r, (findF l r).1 = pickF l r := fun _ => rfl
    unfold applyR
    rw [hg, Option.bind_some]
    clear hg h
    generalize restM (goesR x) l = rest
    have one : ∀ r ∈ goesR x, (findF l r).2 = 0 ∧ rightF (pickF l r) = true ∧ (pickF l r).at' = r := fun r hr => ⟨hall r hr, hp r hr⟩
    clear hall hp
    obtain ⟨kind, at', nm, ot, fac, fd, fo, ba⟩ := x
    simp only at hk
    rcases hk with rfl | rfl | rfl | rfl | rfl | rfl | rfl | rfl | rfl | rfl
    · obtain ⟨f0, -, -⟩ := one at' (by simp [goesR])
      simp only [arrM, goesR, comesR, endR, pk, f0, List.map_cons, List.map_nil, List.getD_cons_zero, movedF, Int.reduceEq, if_true, if_false, ne_eq, not_true_eq_false, not_false_eq_true, reduceCtorEq, decide_true, Bool.true_and]
      first | exact put1 _ _ _ | exact put0 _ _
    · simp only [arrM, goesR, comesR, endR, Int.reduceEq, if_true, if_false, ne_eq, not_true_eq_false, not_false_eq_true, reduceCtorEq, decide_true, Bool.true_and]
      first | exact put1 _ _ _ | exact put0 _ _
    · obtain ⟨f0, -, -⟩ := one fd.at' (by simp [goesR])
      simp only [arrM, goesR, endR, pk, f0, List.map_cons, List.map_nil, List.getD_cons_zero, Int.reduceEq, if_true, if_false, ne_eq, not_true_eq_false, not_false_eq_true, reduceCtorEq, decide_true, Bool.true_and]
      by_cases e : pickF l fd.at' = fd
      · simp [e, outO, outR, comeAll]
      · simp [e, outO, outR]
    · obtain ⟨f0, -, -⟩ := one at' (by simp [goesR])
      simp only [arrM, goesR, comesR, endR, pk, f0, List.map_cons, List.map_nil, List.getD_cons_zero, movedF, Int.reduceEq, if_true, if_false, ne_eq, not_true_eq_false, not_false_eq_true, reduceCtorEq, decide_true, Bool.true_and]
      first | exact put1 _ _ _ | exact put0 _ _
    · obtain ⟨f0, -, -⟩ := one at' (by simp [goesR])
      simp only [arrM, goesR, comesR, endR, pk, f0, List.map_cons, List.map_nil, List.getD_cons_zero, movedF, Int.reduceEq, if_true, if_false, ne_eq, not_true_eq_false, not_false_eq_true, reduceCtorEq, decide_true, Bool.true_and]
      first | exact put1 _ _ _ | exact put0 _ _
    · obtain ⟨f0, -, -⟩ := one at' (by simp [goesR])
      simp only [arrM, goesR, comesR, endR, pk, f0, List.map_cons, List.map_nil, List.getD_cons_zero, Int.reduceEq, if_true, if_false, ne_eq, not_true_eq_false, not_false_eq_true, reduceCtorEq, decide_true, Bool.true_and]
      generalize pickF l at' = f
      by_cases hw : IntKind.i64.wrap (f.worth * fac) < 1048577
      · by_cases h1 : f.kind = 1
        · by_cases w1 : (withM rest ⟨named at' nm, 1, [], [], f.worth⟩).2 = 0
          · by_cases w2 : (withM (withM rest ⟨named at' nm, 1, [], [], f.worth⟩).1 ⟨named at' ot, 1, [], [], IntKind.i64.wrap (f.worth * fac)⟩).2 = 0
            · simp [putR, outO, outR, comeAll, hw, h1, w1, w2]
            · simp [putR, outO, outR, comeAll, hw, h1, w1, w2]
          · simp [putR, outO, outR, comeAll, hw, h1, w1]
        · simp [putR, outO, outR, comeAll, hw, h1]
      · have w2 : ∀ m, (withM m ⟨named at' ot, 1, [], [], IntKind.i64.wrap (f.worth * fac)⟩).2 ≠ 0 := fun m => by
          unfold withM
          rw [if_pos (.inr (right_cnt hw))]
          decide
        have e : outR (putR (putR rest ⟨named at' nm, 1, [], [], f.worth⟩ (decide (f.kind = 1) && decide (IntKind.i64.wrap (f.worth * fac) < 1048577))).1 ⟨named at' ot, 1, [], [], IntKind.i64.wrap (f.worth * fac)⟩ (putR rest ⟨named at' nm, 1, [], [], f.worth⟩ (decide (f.kind = 1) && decide (IntKind.i64.wrap (f.worth * fac) < 1048577))).2) = ([], 16) := by
          simp [putR, outR, hw]
        rw [e]
        by_cases h1 : f.kind = 1
        · simp [outO, comeAll, h1, w2]
        · simp [outO, h1]
    · obtain ⟨f0, -, -⟩ := one at' (by simp [goesR])
      simp only [arrM, goesR, comesR, endR, pk, f0, List.map_cons, List.map_nil, List.getD_cons_zero, movedF, Int.reduceEq, if_true, if_false, ne_eq, not_true_eq_false, not_false_eq_true, reduceCtorEq, decide_true, Bool.true_and]
      first | exact put1 _ _ _ | exact put0 _ _
    · obtain ⟨f0, f1, f2⟩ := one at' (by simp [goesR])
      have e8 : decide (pickF l at' = ⟨at', 3, nm, fromsM fo, 0⟩) = ((decide ((pickF l at').kind = 3) && decide ((pickF l at').df = nm)) && decide ((pickF l at').cases' = fromsM fo)) := by
        generalize pickF l at' = f at *
        by_cases k3 : f.kind = 3
        · have w0 := right_enum f1 k3
          obtain ⟨a, b, c, d, e⟩ := f
          simp only at k3 w0 f2
          subst k3 w0 f2
          simp
        · have : ¬ f = ⟨at', 3, nm, fromsM fo, 0⟩ := fun e => k3 (by rw [e])
          simp [this, k3]
      simp only [arrM, goesR, comesR, endR, pk, f0, List.map_cons, List.map_nil, List.getD_cons_zero, movedF, e8, Int.reduceEq, if_true, if_false, ne_eq, not_true_eq_false, not_false_eq_true, reduceCtorEq, decide_true, Bool.true_and]
      first | exact put1 _ _ _ | exact put0 _ _
    · obtain ⟨f0, -, -⟩ := one (named at' nm) (by simp [goesR])
      obtain ⟨g0, -, -⟩ := one (named at' ot) (by simp [goesR])
      simp only [arrM, mergedM, goesR, comesR, endR, pk, f0, g0, List.map_cons, List.map_nil, List.getD_cons_zero, List.getD_cons_succ, Int.reduceEq, if_true, if_false, ne_eq, not_true_eq_false, not_false_eq_true, reduceCtorEq, decide_true, Bool.true_and]
      generalize pickF l (named at' nm) = f
      generalize pickF l (named at' ot) = g
      by_cases h1 : f.kind = 1
      · by_cases h2 : g.kind = 1
        · by_cases h3 : g.worth = IntKind.i64.wrap (f.worth * fac)
          · simp [h1, h2, h3, put0]
          · simp [h1, h2, h3, outO, outR, putR]
        · simp [h1, h2, outO, outR, putR]
      · simp [h1, outO, outR, putR]
    · obtain ⟨f0, -, -⟩ := one at' (by simp [goesR])
      simp only [arrM, goesR, comesR, endR, pk, f0, List.map_cons, List.map_nil, List.getD_cons_zero, movedF, Int.reduceEq, if_true, if_false, ne_eq, not_true_eq_false, not_false_eq_true, reduceCtorEq, decide_true, Bool.true_and]
      first | exact put1 _ _ _ | exact put0 _ _
end Go.Proofs.YtbojhapdidieoaaGreat
