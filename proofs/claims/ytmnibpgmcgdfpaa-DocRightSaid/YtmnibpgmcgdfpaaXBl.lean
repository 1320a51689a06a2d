/- Contracts of functions and laws of this seat, each for every input that it names: lemmas of the proof. -/
import Derived.Test.YtmnibpgmcgdfpaaXAv
import Derived.Test.YtmnibpgmcgdfpaaPlI
set_option linter.unusedSimpArgs false
set_option linter.unusedVariables false
set_option linter.unusedSimpArgs false
set_option linter.unusedVariables false
namespace Go.Proofs.Ytmnibpgmcgdfpaa
open Go.PL
/-! the order of places -/
theorem bl_irrefl : ∀ (a : Str), bytesLt a a = false
  | [] => rfl
  | x :: a => by
    have := bl_irrefl a
    unfold bytesLt at *
    simp [Op.bytesLess, this]
theorem bl_trans : ∀ {a b c : Str}, bytesLt a b = true → bytesLt b c = true → bytesLt a c = true
  | [], [], _, h, _ => by simp [bytesLt, Op.bytesLess] at h
  | [], _ :: _, [], _, h => by simp [bytesLt, Op.bytesLess] at h
  | [], _ :: _, _ :: _, _, _ => by simp [bytesLt, Op.bytesLess]
  | _ :: _, [], _, h, _ => by simp [bytesLt, Op.bytesLess] at h
  | _ :: _, _ :: _, [], _, h => by simp [bytesLt, Op.bytesLess] at h
  | x :: a, y :: b, z :: c, h1, h2 => by
    have ih := bl_trans (a := a) (b := b) (c := c)
    unfold bytesLt at *
    simp only [Op.bytesLess, Bool.or_eq_true, decide_eq_true_eq, Bool.and_eq_true, beq_iff_eq] at *
    rcases h1 with h1 | ⟨rfl, h1⟩
    · rcases h2 with h2 | ⟨rfl, h2⟩
      · exact .inl (UInt8.lt_trans h1 h2)
      · exact .inl h1
    · rcases h2 with h2 | ⟨rfl, h2⟩
      · exact .inl h2
      · exact .inr ⟨rfl, ih h1 h2⟩
theorem bl_total : ∀ (a b : Str), bytesLt a b = true ∨ a = b ∨ bytesLt b a = true
  | [], [] => .inr (.inl rfl)
  | [], _ :: _ => .inl (by simp [bytesLt, Op.bytesLess])
  | _ :: _, [] => .inr (.inr (by simp [bytesLt, Op.bytesLess]))
  | x :: a, y :: b => by
    have ih := bl_total a b
    unfold bytesLt at *
    simp only [Op.bytesLess, Bool.or_eq_true, decide_eq_true_eq, Bool.and_eq_true, beq_iff_eq] at *
    rcases Nat.lt_trichotomy x.toNat y.toNat with h | h | h
    · exact .inl (.inl h)
    · have e : x = y := UInt8.toNat_inj.1 h
      subst e
      rcases ih with ih | rfl | ih
      · exact .inl (.inr ⟨rfl, ih⟩)
      · exact .inr (.inl rfl)
      · exact .inr (.inr (.inr ⟨rfl, ih⟩))
    · exact .inr (.inr (.inl h))
theorem lb_irrefl (a : Rf) : lessB a a = false := by simp [lessB, bl_irrefl]
theorem lb_total (a b : Rf) : lessB a b = true ∨ a = b ∨ lessB b a = true := by
  unfold lessB
  by_cases h1 : a.sc = b.sc
  · by_cases h2 : a.gr = b.gr
    · simp only [h1, h2, ne_eq, not_true_eq_false, if_false]
      rcases bl_total a.nm b.nm with h | h | h
      · exact .inl h
      · exact .inr (.inl (by cases a; cases b; simp_all))
      · exact .inr (.inr h)
    · have h2' : b.gr ≠ a.gr := fun e => h2 e.symm
      simp only [h1, h2, h2', ne_eq, not_true_eq_false, not_false_eq_true, if_false, if_true]
      rcases bl_total a.gr b.gr with h | h | h
      · exact .inl h
      · exact absurd h h2
      · exact .inr (.inr h)
  · have h1' : b.sc ≠ a.sc := fun e => h1 e.symm
    simp only [h1, h1', ne_eq, not_false_eq_true, if_true, decide_eq_true_eq]
    omega
theorem lb_trans {a b c : Rf} (h1 : lessB a b = true) (h2 : lessB b c = true) : lessB a c = true := by
  unfold lessB at *
  by_cases e1 : a.sc = b.sc
  · by_cases e2 : b.sc = c.sc
    · simp only [e1, e2, ne_eq, not_true_eq_false, if_false] at *
      by_cases g1 : a.gr = b.gr
      · by_cases g2 : b.gr = c.gr
        · simp only [g1, g2, not_true_eq_false, if_false] at *
          exact bl_trans h1 h2
        · simp only [g1, g2, not_true_eq_false, not_false_eq_true, if_false, if_true] at *
          exact h2
      · by_cases g2 : b.gr = c.gr
        · rw [← g2]
          simp only [g1, not_false_eq_true, if_true] at *
          exact h1
        · simp only [g1, g2, not_false_eq_true, if_true] at *
          have := bl_trans h1 h2
          have hn : ¬ a.gr = c.gr := fun e => by rw [e, bl_irrefl] at this; cases this
          simp only [hn, not_false_eq_true, if_true]
          exact this
    · simp only [e1, e2, ne_eq, not_false_eq_true, if_true] at *
      exact h2
  · by_cases e2 : b.sc = c.sc
    · rw [← e2]
      simp only [e1, ne_eq, not_false_eq_true, if_true] at *
      exact h1
    · simp only [e1, e2, ne_eq, not_false_eq_true, if_true, decide_eq_true_eq] at *
      have hn : ¬ a.sc = c.sc := by omega
      simp only [hn, not_false_eq_true, if_true, decide_eq_true_eq]
      omega
/-- rising by places -/
def Rise (l : List Fd) : Prop := l.Pairwise fun a b => lessB a.at' b.at' = true
theorem rise_of_steps : ∀ {l : List Fd}, (∀ i, i < l.length → i = 0 ∨ lessB (l.getD (i - 1) default).at' (l.getD i default).at' = true) → Rise l
  | [], _ => List.Pairwise.nil
  | [a], _ => List.pairwise_singleton _ _
  | a :: b :: l, h => by
    have ih : Rise (b :: l) := rise_of_steps fun i hi => by
      cases i with
      | zero => exact .inl rfl
      | succ i =>
        have := h (i + 2) (by simp at hi ⊢; omega)
        right
        simpa using this
    have hab : lessB a.at' b.at' = true := by simpa using h 1 (by simp)
    refine List.pairwise_cons.2 ⟨fun x hx => ?_, ih⟩
    rcases List.mem_cons.1 hx with rfl | hx
    · exact hab
    · exact lb_trans hab ((List.pairwise_cons.1 ih).1 x hx)
theorem steps_of_rise {l : List Fd} (h : Rise l) : ∀ i, i < l.length → i = 0 ∨ lessB (l.getD (i - 1) default).at' (l.getD i default).at' = true := fun i hi => by
  by_cases h0 : i = 0
  · exact .inl h0
  · right
    rw [getD_lt (by omega), getD_lt hi]
    exact List.pairwise_iff_getElem.1 h (i - 1) i (by omega) hi (by omega)
theorem right_iff {l : List Fd} : rightL l = true ↔ l.length ≤ 16 ∧ Rise l ∧ ∀ f ∈ l, rightF f = true := by
  unfold rightL
  simp only [Bool.and_eq_true, Bool.not_eq_true', decide_eq_false_iff_not, List.all_eq_true, List.mem_range, fldOk, Bool.or_eq_true, decide_eq_true_eq]
  constructor
  · rintro ⟨h1, h2⟩
    refine ⟨by omega, rise_of_steps fun i hi => (h2 i hi).2, fun f hf => ?_⟩
    obtain ⟨i, hi, rfl⟩ := List.getElem_of_mem hf
    have := (h2 i hi).1
    rwa [getD_lt hi] at this
  · rintro ⟨h1, h2, h3⟩
    exact ⟨by omega, fun i hi => ⟨h3 _ (getD_mem hi), steps_of_rise h2 i hi⟩⟩
theorem rise_at {l : List Fd} (h : Rise l) {f g : Fd} (hf : f ∈ l) (hg : g ∈ l) (e : f.at' = g.at') : f = g := by
  obtain ⟨i, hi, rfl⟩ := List.getElem_of_mem hf
  obtain ⟨j, hj, rfl⟩ := List.getElem_of_mem hg
  rcases Nat.lt_trichotomy i j with h1 | h1 | h1
  · have := List.pairwise_iff_getElem.1 h i j hi hj h1
    rw [e, lb_irrefl] at this; cases this
  · subst h1; rfl
  · have := List.pairwise_iff_getElem.1 h j i hj hi h1
    rw [e, lb_irrefl] at this; cases this
end Go.Proofs.Ytmnibpgmcgdfpaa

set_option linter.unusedSimpArgs false
set_option linter.unusedVariables false
set_option linter.unusedSimpArgs false
set_option linter.unusedVariables false
namespace Go.Proofs.Ytmnibpgmcgdfpaa
open Go.PL
theorem atF_idx (l : List Fd) (r : Rf) : (idx (atF r) l = -1 ∧ ∀ g ∈ l, g.at' ≠ r) ∨ ∃ i : Nat, ∃ h : i < l.length, idx (atF r) l = (i : Int) ∧ (l[i]).at' = r := by
  unfold idx
  cases hf : l.findIdx? (atF r) with
  | none =>
    left
    refine ⟨rfl, fun g hg e => ?_⟩
    rw [List.findIdx?_eq_none_iff] at hf
    have := hf g hg
    simp [atF, e] at this
  | some i =>
    right
    rw [List.findIdx?_eq_some_iff_getElem] at hf
    obtain ⟨h1, h2, _⟩ := hf
    exact ⟨i, h1, rfl, by simpa [atF] using h2⟩
theorem wo_fwd {l : List Fd} {r : Rf} (h : (withoutM l r).2 = 0) : rightL l = true ∧ (∃ f ∈ l, f.at' = r) ∧ rightL (withoutM l r).1 = true ∧ (∀ g, g ∈ (withoutM l r).1 ↔ g ∈ l ∧ g.at' ≠ r) ∧ (withoutM l r).1.length + 1 = l.length := by
  unfold withoutM at *
  cases hr : rightL l with
  | false => rw [hr] at h; simp at h
  | true =>
    rcases atF_idx l r with ⟨h1, _⟩ | ⟨i, hi, h1, h2⟩
    · rw [hr, h1] at h; simp at h
    · simp only [h1, Bool.true_eq_false, if_false, show ¬ (i : Int) < 0 by omega, Int.toNat_natCast]
      obtain ⟨k1, k2, k3⟩ := right_iff.1 hr
      have hsub : (l.eraseIdx i).Sublist l := List.eraseIdx_sublist _ _
      have hlen : (l.eraseIdx i).length + 1 = l.length := by rw [List.length_eraseIdx_of_lt hi]; omega
      refine ⟨trivial, ⟨_, List.getElem_mem hi, h2⟩, right_iff.2 ⟨by omega, List.Pairwise.sublist hsub k2, fun f hf => k3 f (hsub.mem hf)⟩, fun g => ?_, hlen⟩
      rw [List.mem_eraseIdx_iff_getElem]
      constructor
      · rintro ⟨j, hj, hne, rfl⟩
        refine ⟨List.getElem_mem hj, fun e => ?_⟩
        have e2 := rise_at k2 (List.getElem_mem hj) (List.getElem_mem hi) (e.trans h2.symm)
        rcases Nat.lt_trichotomy j i with q | q | q
        · have := List.pairwise_iff_getElem.1 k2 j i hj hi q
          rw [e2, lb_irrefl] at this; cases this
        · exact hne q
        · have := List.pairwise_iff_getElem.1 k2 i j hi hj q
          rw [e2, lb_irrefl] at this; cases this
      · rintro ⟨hg, hne⟩
        obtain ⟨j, hj, rfl⟩ := List.getElem_of_mem hg
        exact ⟨j, hj, fun e => hne (by subst e; exact h2), rfl⟩
theorem ins_mem (l : List Fd) (f g : Fd) : g ∈ insM l f ↔ g ∈ l ∨ g = f := by
  unfold insM
  have := List.takeWhile_append_dropWhile (p := less' f.at') (l := l)
  constructor
  · intro h
    rcases List.mem_append.1 h with h | h
    · exact .inl (by rw [← this]; exact List.mem_append_left _ h)
    · rcases List.mem_cons.1 h with h | h
      · exact .inr h
      · exact .inl (by rw [← this]; exact List.mem_append_right _ h)
  · rintro (h | h)
    · rw [← this] at h
      rcases List.mem_append.1 h with h | h
      · exact List.mem_append_left _ h
      · exact List.mem_append_right _ (List.mem_cons_of_mem _ h)
    · exact List.mem_append_right _ (by simp [h])
theorem ins_rise : ∀ {l : List Fd} {f : Fd}, Rise l → (∀ g ∈ l, g.at' ≠ f.at') → Rise (insM l f)
  | [], f, _, _ => List.pairwise_singleton _ _
  | a :: l, f, h, hn => by
    obtain ⟨p, q⟩ := List.pairwise_cons.1 h
    cases hb : lessB a.at' f.at' with
    | true =>
      rw [ins_t hb]
      refine List.pairwise_cons.2 ⟨fun x hx => ?_, ins_rise q (fun g hg => hn g (by simp [hg]))⟩
      rcases (ins_mem l f x).1 hx with hx | hx
      · exact p x hx
      · rw [hx]; exact hb
    | false =>
      rw [ins_f hb]
      have hfa : lessB f.at' a.at' = true := by
        rcases lb_total a.at' f.at' with h1 | h1 | h1
        · rw [hb] at h1; cases h1
        · exact absurd h1 (hn a (by simp))
        · exact h1
      refine List.pairwise_cons.2 ⟨fun x hx => ?_, h⟩
      rcases List.mem_cons.1 hx with rfl | hx
      · exact hfa
      · exact lb_trans hfa (p x hx)
theorem wi_fwd {l : List Fd} {f : Fd} (h : (withM l f).2 = 0) : rightL l = true ∧ rightF f = true ∧ (∀ g ∈ l, g.at' ≠ f.at') ∧ rightL (withM l f).1 = true ∧ (∀ g, g ∈ (withM l f).1 ↔ g ∈ l ∨ g = f) ∧ (withM l f).1.length = l.length + 1 := by
  unfold withM at *
  cases hr : rightL l with
  | false => rw [hr] at h; simp at h
  | true =>
    cases hf : rightF f with
    | false => rw [hr, hf] at h; simp at h
    | true =>
      rcases atF_idx l f.at' with ⟨h1, h2⟩ | ⟨i, hi, h1, h2⟩
      · by_cases hl : 16 ≤ (l.length : Int)
        · rw [hr, hf, h1] at h; simp [hl] at h
        · simp only [h1, Bool.true_eq_false, or_self, if_false, hl, show ¬ (0 : Int) ≤ -1 by omega]
          obtain ⟨k1, k2, k3⟩ := right_iff.1 hr
          have hil := ins_len l f
          refine ⟨trivial, trivial, h2, right_iff.2 ⟨by omega, ins_rise k2 h2, fun g hg => ?_⟩, fun g => ins_mem l f g, hil⟩
          rcases (ins_mem l f g).1 hg with hg | hg
          · exact k3 g hg
          · rw [hg]; exact hf
      · rw [hr, hf, h1] at h; simp at h
theorem go_fwd : ∀ {rs : List Rf} {l m : List Fd}, rightL l = true → goAll rs l = some m → rightL m = true ∧ (∀ g, g ∈ m ↔ g ∈ l ∧ g.at' ∉ rs) ∧ (∀ r ∈ rs, ∃ f ∈ l, f.at' = r) ∧ rs.Nodup ∧ m.length + rs.length = l.length
  | [], l, m, hr, h => by cases h; exact ⟨hr, by simp, by simp, by simp, by simp⟩
  | r :: rs, l, m, hr, h => by
    unfold goAll at h
    split at h
    · cases h
    · rename_i hz
      obtain ⟨a1, a2, a3, a4, a5⟩ := wo_fwd (by simpa using hz)
      obtain ⟨b1, b2, b3, b4, b5⟩ := go_fwd a3 h
      refine ⟨b1, fun g => ?_, fun q hq => ?_, List.nodup_cons.2 ⟨fun hin => ?_, b4⟩, by simp only [List.length_cons]; omega⟩
      · rw [b2, a4]
        simp only [List.mem_cons, not_or]
        exact ⟨fun h => ⟨h.1.1, h.1.2, h.2⟩, fun h => ⟨⟨h.1, h.2.1⟩, h.2.2⟩⟩
      · rcases List.mem_cons.1 hq with rfl | hq
        · exact a2
        · obtain ⟨f, hf, e⟩ := b3 q hq
          exact ⟨f, ((a4 f).1 hf).1, e⟩
      · obtain ⟨f, hf, e⟩ := b3 r hin
        exact ((a4 f).1 hf).2 e
theorem come_fwd : ∀ {fs l m : List Fd}, rightL l = true → comeAll fs l = some m → rightL m = true ∧ (∀ g, g ∈ m ↔ g ∈ l ∨ g ∈ fs) ∧ (∀ f ∈ fs, rightF f = true ∧ ∀ g ∈ l, g.at' ≠ f.at') ∧ (fs.map (·.at')).Nodup ∧ m.length = l.length + fs.length
  | [], l, m, hr, h => by cases h; exact ⟨hr, by simp, by simp, by simp, by simp⟩
  | f :: fs, l, m, hr, h => by
    unfold comeAll at h
    split at h
    · cases h
    · rename_i hz
      obtain ⟨a1, a2, a3, a4, a5, a6⟩ := wi_fwd (by simpa using hz)
      obtain ⟨b1, b2, b3, b4, b5⟩ := come_fwd a4 h
      refine ⟨b1, fun g => ?_, fun q hq => ?_, ?_, by simp only [List.length_cons]; omega⟩
      · rw [b2, a5, List.mem_cons, or_assoc]
      · rcases List.mem_cons.1 hq with rfl | hq
        · exact ⟨a2, a3⟩
        · exact ⟨(b3 q hq).1, fun g hg => (b3 q hq).2 g ((a5 g).2 (.inl hg))⟩
      · rw [List.map_cons, List.nodup_cons]
        refine ⟨fun hin => ?_, b4⟩
        obtain ⟨q, hq, e⟩ := List.mem_map.1 hin
        exact (b3 q hq).2 f ((a5 f).2 (.inr rfl)) e.symm
theorem apply_fwd {l m : List Fd} {x : Ln} (h : applyM l x = (m, 0)) : rightL l = true ∧ rightLn x = true ∧ ∃ cs l1, arrM l x = (cs, true) ∧ goAll (goesR x) l = some l1 ∧ comeAll cs l1 = some m := by
  unfold applyM at h
  split at h
  · simp at h
  · rename_i hh
    simp only [not_or, Bool.not_eq_false] at hh
    refine ⟨hh.1, hh.2, ?_⟩
    split at h
    · simp at h
    · rename_i k hk
      simp only [Prod.mk.injEq, and_true] at h
      subst h
      unfold applyR at hk
      split at hk
      · cases hk
      · rename_i ha
        obtain ⟨l1, h1, h2⟩ := Option.bind_eq_some_iff.1 hk
        refine ⟨(arrM l x).1, l1, ?_, h1, h2⟩
        have : (arrM l x).2 = true := by simpa using ha
        rw [← this]
end Go.Proofs.Ytmnibpgmcgdfpaa

set_option linter.unusedSimpArgs false
set_option linter.unusedVariables false
set_option linter.unusedSimpArgs false
set_option linter.unusedVariables false
namespace Go.Proofs.Ytmnibpgmcgdfpaa
open Go.PL
structure Nd where
  e : Eg
  st : Int
  sch : List Fd
  dep : Int
  deriving DecidableEq, Inhabited
def nd (n : Nd) : PV := .agg [.int .i64 n.e.id.r, .int .i64 n.e.id.n, .int .i64 n.e.par.r, .int .i64 n.e.par.n, .int .i64 n.e.ln.kind, .int .i64 n.e.ln.at'.sc, .str n.e.ln.at'.gr, .str n.e.ln.at'.nm, .str n.e.ln.nm, .str n.e.ln.ot, .int .i64 n.e.ln.fac, .int .i64 n.e.ln.fd.at'.sc, .str n.e.ln.fd.at'.gr, .str n.e.ln.fd.at'.nm, .int .i64 n.e.ln.fd.kind, .str n.e.ln.fd.df, .sl .no (n.e.ln.fd.cases'.map .str), .int .i64 n.e.ln.fd.worth, .sl .no (n.e.ln.fo.map pr), .sl .no (n.e.ln.ba.map pr), .int .i64 n.st, .sl .no (n.sch.map fld), .int .i64 n.dep]
def kts (l : List Nd) : List PV := l.map fun n => tg n.e.id
def nds (l : List Nd) : List PV := l.map nd
def mc (l : List Nd) : MapC := ⟨kts l, nds l⟩
end Go.Proofs.Ytmnibpgmcgdfpaa

set_option linter.unusedSimpArgs false
set_option linter.unusedVariables false
set_option linter.unusedSimpArgs false
set_option linter.unusedVariables false
namespace Go.Proofs.Ytmnibpgmcgdfpaa
open Go.PL
def findE (m : List Eg) (id : Tg) : Option Eg := m.find? fun e => decide (id = e.id)
theorem findE_id {m : List Eg} {id : Tg} {e : Eg} (h : findE m id = some e) : id = e.id ∧ e ∈ m := by
  unfold findE at h
  exact ⟨by simpa using List.find?_some h, List.mem_of_find?_eq_some h⟩
/-- the edges from the root to a tag -/
inductive Way (m : List Eg) : Tg → List Eg → Prop
  | root : Way m default []
  | step {id : Tg} {e : Eg} {w : List Eg} (hn : id ≠ default) (he : findE m id = some e) (hw : Way m e.par w) : Way m id (w ++ [e])
theorem Way.fn {m : List Eg} {id : Tg} {w w' : List Eg} (h : Way m id w) (h' : Way m id w') : w = w' := by
  induction h generalizing w' with
  | root => cases h' with
    | root => rfl
    | step hn he hw => exact absurd rfl hn
  | step hn he hw ih =>
    cases h' with
    | root => exact absurd rfl hn
    | step hn' he' hw' =>
      rw [he] at he'
      cases he'
      rw [ih hw']
theorem Way.mem {m : List Eg} {id : Tg} {w : List Eg} (h : Way m id w) : ∀ e ∈ w, e ∈ m := by
  induction h with
  | root => intro e he; cases he
  | step hn he hw ih =>
    intro x hx
    rcases List.mem_append.1 hx with hx | hx
    · exact ih x hx
    · rw [List.mem_singleton.1 hx]; exact (findE_id he).2
/-- each part of a way is a way -/
theorem Way.take {m : List Eg} {id : Tg} {w : List Eg} (h : Way m id w) : ∀ k (hk : k < w.length), Way m (w[k]).id (w.take (k + 1)) := by
  induction h with
  | root => intro k hk; simp at hk
  | step hn he hw ih =>
    rename_i id e w
    intro k hk
    by_cases hlt : k < w.length
    · rw [List.getElem_append_left hlt, List.take_append_of_le_length (by omega)]
      exact ih k hlt
    · have hk' : k = w.length := by simp at hk; omega
      subst hk'
      have e1 : (w ++ [e])[w.length]'hk = e := by simp
      rw [e1, List.take_of_length_le (by simp)]
      have := (findE_id he).1
      rw [← this]
      exact .step hn he hw
theorem Way.nodup {m : List Eg} {id : Tg} {w : List Eg} (h : Way m id w) : w.Nodup := by
  rw [List.nodup_iff_pairwise_ne, List.pairwise_iff_getElem]
  intro i j hi hj hij e
  have h1 := h.take i hi
  have h2 := h.take j hj
  rw [e] at h1
  have := congrArg List.length (h1.fn h2)
  simp at this
  omega
theorem nodup_le {α : Type} [DecidableEq α] : ∀ {l m : List α}, l.Nodup → (∀ x ∈ l, x ∈ m) → l.length ≤ m.length
  | [], _, _, _ => Nat.zero_le _
  | a :: l, m, hn, hs => by
    rw [List.nodup_cons] at hn
    have ha : a ∈ m := hs a (by simp)
    have := nodup_le (l := l) (m := m.erase a) hn.2 (fun x hx => (List.mem_erase_of_ne (fun e : x = a => hn.1 (e ▸ hx))).2 (hs x (by simp [hx])))
    rw [List.length_erase_of_mem ha] at this
    have : 0 < m.length := List.length_pos_of_mem ha
    simp only [List.length_cons]
    omega
theorem Way.len {m : List Eg} {id : Tg} {w : List Eg} (h : Way m id w) : w.length ≤ m.length := nodup_le h.nodup h.mem
/-- unlike tags, none of them the root's -/
structure Apart (m : List Eg) : Prop where
  d : (m.map (·.id)).Nodup
  n : ∀ e ∈ m, e.id ≠ default
theorem Apart.find {m : List Eg} (h : Apart m) {e : Eg} (he : e ∈ m) : findE m e.id = some e := by
  obtain ⟨l1, l2, rfl⟩ := List.append_of_mem he
  have hd := h.d
  simp only [List.map_append, List.map_cons] at hd
  unfold findE
  rw [List.find?_append]
  have hno : l1.find? (fun x => decide (e.id = x.id)) = none := by
    rw [List.find?_eq_none]
    intro x hx hh
    have hx' : x.id ∈ l1.map (·.id) := List.mem_map.2 ⟨x, hx, rfl⟩
    have := (List.nodup_append.1 hd).2.2 _ hx' e.id (by simp)
    exact this (by simpa using Eq.symm (by simpa using hh))
  rw [hno]
  simp
end Go.Proofs.Ytmnibpgmcgdfpaa

set_option linter.unusedSimpArgs false
set_option linter.unusedVariables false
set_option linter.unusedSimpArgs false
set_option linter.unusedVariables false
namespace Go.Proofs.Ytmnibpgmcgdfpaa
open Go.PL
structure Seen (n : Nat) (p : Nat → Prop) where
  l : List Nat
  d : l.Nodup
  h : ∀ i ∈ l, i < n ∧ p i
def Seen.next {n : Nat} {p : Nat → Prop} (s : Seen n p) (i : Nat) (hi : i < n) (hp : p i) (hn : i ∉ s.l) : Seen n p :=
  ⟨s.l ++ [i], by rw [List.nodup_append]; exact ⟨s.d, by simp, fun a ha b hb => by simp at hb; subst hb; exact fun e => hn (e ▸ ha)⟩, fun j hj => by
    rcases List.mem_append.1 hj with hj | hj
    · exact s.h j hj
    · simp at hj; subst hj; exact ⟨hi, hp⟩⟩
theorem Seen.len {n : Nat} {p : Nat → Prop} (s : Seen n p) : s.l.length ≤ n := by
  have := nodup_le (m := List.range n) s.d (fun i hi => List.mem_range.2 (s.h i hi).1)
  simpa using this
end Go.Proofs.Ytmnibpgmcgdfpaa

set_option linter.unusedSimpArgs false
set_option linter.unusedVariables false
set_option linter.unusedSimpArgs false
set_option linter.unusedVariables false
namespace Go.Proofs.Ytmnibpgmcgdfpaa
open Go.PL
end Go.Proofs.Ytmnibpgmcgdfpaa

set_option linter.unusedSimpArgs false
set_option linter.unusedVariables false
set_option linter.unusedSimpArgs false
set_option linter.unusedVariables false
namespace Go.Proofs.Ytmnibpgmcgdfpaa
open Go.PL
def edgeB (e : Eg) : Bool := tagB e.id && ((decide (e.par = default) || (tagB e.par && !decide (e.par = e.id))) && (decide (1 ≤ e.ln.kind) && (decide (e.ln.kind ≤ 8) && rightLn e.ln)))
end Go.Proofs.Ytmnibpgmcgdfpaa

set_option linter.unusedSimpArgs false
set_option linter.unusedVariables false
set_option linter.unusedSimpArgs false
set_option linter.unusedVariables false
namespace Go.Proofs.Ytmnibpgmcgdfpaa
open Go.PL
structure LenLn (x : Ln) : Prop where
  c : x.fd.cases'.length ≤ maxLen
  f : x.fo.length ≤ maxLen
  b : x.ba.length ≤ maxLen
end Go.Proofs.Ytmnibpgmcgdfpaa

set_option linter.unusedSimpArgs false
set_option linter.unusedVariables false
set_option linter.unusedSimpArgs false
set_option linter.unusedVariables false
namespace Go.Proofs.Ytmnibpgmcgdfpaa
open Go.PL
def putM (m : List Eg) (e : Eg) : List Eg × Int :=
  if edgeB e = false then (m, 5) else match findE m e.id with
    | some x => if x = e then (m, 7) else (m, 15)
    | none => if 40 ≤ m.length then (m, 9) else (m ++ [e], 0)
/-- a list of edges that a tree holds -/
structure OkM (m : List Eg) : Prop where
  a : Apart m
  l : ∀ e ∈ m, OkLn e.ln
  n : m.length ≤ 40
/-- with one more edge the settled ones are as they were -/
theorem findE_append {m : List Eg} {e x : Eg} {id : Tg} (h : findE m id = some x) : findE (m ++ [e]) id = some x := by
  unfold findE at *; rw [List.find?_append, h]; rfl
theorem Way.append {m : List Eg} {e : Eg} {id : Tg} {w : List Eg} (h : Way m id w) : Way (m ++ [e]) id w := by
  induction h with
  | root => exact .root
  | step hn he hw ih => exact .step hn (findE_append he) ih
end Go.Proofs.Ytmnibpgmcgdfpaa

set_option linter.unusedSimpArgs false
set_option linter.unusedVariables false
set_option linter.unusedSimpArgs false
set_option linter.unusedVariables false
namespace Go.Proofs.Ytmnibpgmcgdfpaa
open Go.PL
end Go.Proofs.Ytmnibpgmcgdfpaa

set_option linter.unusedSimpArgs false
set_option linter.unusedVariables false
set_option linter.unusedSimpArgs false
set_option linter.unusedVariables false
namespace Go.Proofs.Ytmnibpgmcgdfpaa
open Go.PL
/-- the way up of a tag, from the way down to it -/
def upL (w : List Eg) : List Tg := (w.reverse.map (·.id)) ++ [default]
structure UpS (m : List Eg) (w : List Eg) where
  id : Tg
  r : List Eg
  acc : List Tg
  hw : Way m id r
  hx : acc ++ (upL r).tail = upL w
end Go.Proofs.Ytmnibpgmcgdfpaa

set_option linter.unusedSimpArgs false
set_option linter.unusedVariables false
set_option linter.unusedSimpArgs false
set_option linter.unusedVariables false
namespace Go.Proofs.Ytmnibpgmcgdfpaa
open Go.PL
theorem Apart.inj {m : List Eg} (h : Apart m) {a b : Eg} (ha : a ∈ m) (hb : b ∈ m) (e : a.id = b.id) : a = b := by
  have h1 := h.find ha
  rw [e, h.find hb] at h1
  cases h1; rfl
structure WayT where
  up : List Tg
  down : List Tg
  i : Nat
  j : Nat
  c : Int
end Go.Proofs.Ytmnibpgmcgdfpaa

set_option linter.unusedSimpArgs false
set_option linter.unusedVariables false
set_option linter.unusedSimpArgs false
set_option linter.unusedVariables false
namespace Go.Proofs.Ytmnibpgmcgdfpaa
open Go.PL
end Go.Proofs.Ytmnibpgmcgdfpaa

set_option linter.unusedSimpArgs false
set_option linter.unusedVariables false
set_option linter.unusedSimpArgs false
set_option linter.unusedVariables false
namespace Go.Proofs.Ytmnibpgmcgdfpaa
open Go.PL
def awX : Ln := ⟨1, ⟨1, [], [110, 111, 116, 101]⟩, [109, 101, 109, 111], [], 0, default, [], []⟩
def awA : Eg := ⟨⟨1, 1⟩, default, awX⟩
def awB : Eg := ⟨⟨2, 1⟩, default, awX⟩
theorem putB : putM [awA] awB = ([awA, awB], 0) := by decide +kernel
end Go.Proofs.Ytmnibpgmcgdfpaa

set_option linter.unusedSimpArgs false
set_option linter.unusedVariables false
set_option linter.unusedSimpArgs false
set_option linter.unusedVariables false
namespace Go.Proofs.Ytmnibpgmcgdfpaa
open Go.PL
theorem rightLn_kind {x : Ln} (h : rightLn x = true) : (x.kind = 1 ∨ x.kind = 2 ∨ x.kind = 3 ∨ x.kind = 4 ∨ x.kind = 5 ∨ x.kind = 6 ∨ x.kind = 7 ∨ x.kind = 8 ∨ x.kind = 9 ∨ x.kind = 10) ∧ (x.kind ≠ 8 → x.fo = [] ∧ x.ba = []) := by
  unfold rightLn at h
  split at h
  · rename_i hk
    simp only [Bool.and_eq_true, Bool.not_eq_true'] at h
    exact ⟨by omega, fun _ => tablesB_false.1 h.2.2.2.2.1⟩
  · simp only [Bool.and_eq_true] at h
    obtain ⟨_, h⟩ := h
    split at h
    · rename_i hk; exact ⟨by omega, fun hn => absurd hk hn⟩
    · simp only [Bool.and_eq_true, Bool.not_eq_true'] at h
      refine ⟨?_, fun _ => tablesB_false.1 h.1⟩
      have h := h.2
      split at h
      · omega
      · simp only [Bool.and_eq_true] at h
        have h := h.2
        split at h
        · omega
        · simp only [Bool.and_eq_true] at h
          have h := h.2
          split at h
          · omega
          · split at h
            · omega
            · simp only [Bool.and_eq_true, decide_eq_true_eq] at h
              omega
structure RightM (m : List Eg) : Prop where
  r : ∀ e ∈ m, edgeB e = true
end Go.Proofs.Ytmnibpgmcgdfpaa

set_option linter.unusedSimpArgs false
set_option linter.unusedVariables false
set_option linter.unusedSimpArgs false
set_option linter.unusedVariables false
namespace Go.Proofs.Ytmnibpgmcgdfpaa
open Go.PL
end Go.Proofs.Ytmnibpgmcgdfpaa

set_option linter.unusedSimpArgs false
set_option linter.unusedVariables false
set_option linter.unusedSimpArgs false
set_option linter.unusedVariables false
namespace Go.Proofs.Ytmnibpgmcgdfpaa
open Go.PL
end Go.Proofs.Ytmnibpgmcgdfpaa

set_option linter.unusedSimpArgs false
set_option linter.unusedVariables false
set_option linter.unusedSimpArgs false
set_option linter.unusedVariables false
namespace Go.Proofs.Ytmnibpgmcgdfpaa
open Go.PL
end Go.Proofs.Ytmnibpgmcgdfpaa

set_option linter.unusedSimpArgs false
set_option linter.unusedVariables false
set_option linter.unusedSimpArgs false
set_option linter.unusedVariables false
namespace Go.Proofs.Ytmnibpgmcgdfpaa
open Go.PL
structure OkOp (o : Opn) : Prop where
  d : o.drops.length ≤ 1000000
end Go.Proofs.Ytmnibpgmcgdfpaa

set_option linter.unusedSimpArgs false
set_option linter.unusedVariables false
set_option linter.unusedSimpArgs false
set_option linter.unusedVariables false
namespace Go.Proofs.Ytmnibpgmcgdfpaa
open Go.PL
structure ChT where
  l : List Fd
  n : Nat
  c : Int
def chainA : List Fd → List Ln → Nat → ChT
  | fs, [], i => ⟨fs, i, 0⟩
  | fs, x :: xs, i => if (applyM fs x).2 ≠ 0 then ⟨[], i, (applyM fs x).2⟩ else chainA (applyM fs x).1 xs (i + 1)
structure ChS (l : List Fd) (row : List Ln) where
  k : Nat
  fs : List Fd
  hk : k ≤ row.length
  ok : OkFs fs
  h : chainA fs (row.drop k) k = chainA l row 0
end Go.Proofs.Ytmnibpgmcgdfpaa

set_option linter.unusedSimpArgs false
set_option linter.unusedVariables false
set_option linter.unusedSimpArgs false
set_option linter.unusedVariables false
namespace Go.Proofs.Ytmnibpgmcgdfpaa
open Go.PL
end Go.Proofs.Ytmnibpgmcgdfpaa

set_option linter.unusedSimpArgs false
set_option linter.unusedVariables false
set_option linter.unusedSimpArgs false
set_option linter.unusedVariables false
namespace Go.Proofs.Ytmnibpgmcgdfpaa
open Go.PL
def traceL : List Ln → Rf → Rf × Bool
  | [], r => (r, true)
  | x :: xs, r => if (traceM x r).2 = false then (default, false) else traceL xs (traceM x r).1
def keptL : List Ln → Rf → Bool
  | [], r => true
  | x :: xs, r => if keptM x r = false then false else if (traceM x r).2 = false then false else keptL xs (traceM x r).1
theorem traceL_cons (x : Ln) (xs : List Ln) (r : Rf) : traceL (x :: xs) r = if (traceM x r).2 = false then (default, false) else traceL xs (traceM x r).1 := rfl
theorem keptL_cons (x : Ln) (xs : List Ln) (r : Rf) : keptL (x :: xs) r = if keptM x r = false then false else if (traceM x r).2 = false then false else keptL xs (traceM x r).1 := rfl
structure TrS (row : List Ln) (f : List Ln → Rf → Rf × Bool) (r0 : Rf) where
  k : Nat
  r : Rf
  hk : k ≤ row.length
  h : f (row.drop k) r = f row r0
structure KpS (row : List Ln) (r0 : Rf) where
  k : Nat
  r : Rf
  hk : k ≤ row.length
  h : keptL (row.drop k) r = keptL row r0
end Go.Proofs.Ytmnibpgmcgdfpaa

set_option linter.unusedSimpArgs false
set_option linter.unusedVariables false
set_option linter.unusedSimpArgs false
set_option linter.unusedVariables false
namespace Go.Proofs.Ytmnibpgmcgdfpaa
open Go.PL
theorem arr_places {l cs : List Fd} {x : Ln} (hk : x.kind = 1 ∨ x.kind = 2 ∨ x.kind = 3 ∨ x.kind = 4 ∨ x.kind = 5 ∨ x.kind = 6 ∨ x.kind = 7 ∨ x.kind = 8 ∨ x.kind = 9 ∨ x.kind = 10) (h : arrM l x = (cs, true)) : cs.map (·.at') = comesR x := by
  obtain ⟨kind, at0, nm, ot, fac, fd, fo, ba⟩ := x
  simp only at hk
  rcases hk with rfl | rfl | rfl | rfl | rfl | rfl | rfl | rfl | rfl | rfl
  all_goals
    simp only [arrM, mergedM, comesR, Int.reduceEq, if_false, if_true, List.getD_cons_zero] at h ⊢
    (repeat' split at h)
    all_goals
      simp only [Prod.mk.injEq, Bool.false_eq_true, and_false, reduceCtorEq] at h
      try (rw [← h.1]; rfl)
/-- two lenses that lead to and back between two schemas -/
structure Pair (l m : List Fd) (x y : Ln) : Prop where
  a : applyM l x = (m, 0)
  b : applyM m y = (l, 0)
  g : goesR y = comesR x
  c : comesR y = goesR x
theorem Pair.back {l m : List Fd} {x y : Ln} (h : Pair l m x y) : Pair m l y x := ⟨h.b, h.a, h.c.symm, h.g.symm⟩
def On (l : List Fd) (r : Rf) : Prop := ∃ f ∈ l, f.at' = r
theorem any_goes {l : List Rf} {r : Rf} : (l.any fun a => decide (r = a)) = true ↔ r ∈ l := by
  simp [List.any_eq_true]
theorem Pair.right {l m : List Fd} {x y : Ln} (h : Pair l m x y) : rightLn x = true := (apply_fwd h.a).2.1
/-- what comes is on the far side -/
theorem Pair.comes {l m : List Fd} {x y : Ln} (h : Pair l m x y) : ∀ r ∈ comesR x, On m r := by
  obtain ⟨hm, hy, cs, l1, h1, h2, h3⟩ := apply_fwd h.b
  obtain ⟨a1, a2, a3, a4, a5⟩ := go_fwd hm h2
  rw [← h.g]; exact a3
/-- what does not go stays, and is none of those that come -/
theorem Pair.stays {l m : List Fd} {x y : Ln} (h : Pair l m x y) {r : Rf} (hr : On l r) (hg : r ∉ goesR x) : On m r ∧ r ∉ comesR x := by
  obtain ⟨hl, hx, cs, l1, h1, h2, h3⟩ := apply_fwd h.a
  obtain ⟨a1, a2, a3, a4, a5⟩ := go_fwd hl h2
  obtain ⟨b1, b2, b3, b4, b5⟩ := come_fwd a1 h3
  obtain ⟨f, hf, rfl⟩ := hr
  have hf1 : f ∈ l1 := (a2 f).2 ⟨hf, hg⟩
  refine ⟨⟨f, (b2 f).2 (.inl hf1), rfl⟩, fun hc => ?_⟩
  rw [← arr_places (rightLn_kind hx).1 h1] at hc
  obtain ⟨c, hc1, hc2⟩ := List.mem_map.1 hc
  exact (b3 c hc1).2 f hf1 hc2.symm
theorem trace_stay {x : Ln} {r : Rf} (hx : rightLn x = true) (h : r ∉ goesR x) : traceM x r = (r, true) := by
  have : ((goesR x).any fun a => decide (r = a)) = false := by
    rw [Bool.eq_false_iff]; exact fun e => h (any_goes.1 e)
  unfold traceM
  rw [hx, if_neg (by simp), if_pos this]
theorem trace_go {x : Ln} {r : Rf} (hx : rightLn x = true) (h : r ∈ goesR x) : traceM x r = if (comesR x).length = 0 then (default, false) else ((comesR x).getD 0 default, true) := by
  unfold traceM
  rw [hx, if_neg (by simp), if_neg (by rw [any_goes.2 h]; simp)]
theorem Pair.trace {l m : List Fd} {x y : Ln} (h : Pair l m x y) {r : Rf} (hr : On l r) (ht : (traceM x r).2 = true) : On m (traceM x r).1 := by
  by_cases hg : r ∈ goesR x
  · rw [trace_go h.right hg] at ht ⊢
    split at ht
    · cases ht
    · rename_i hz
      rw [if_neg hz]
      exact h.comes _ (getD_mem (by omega))
  · rw [trace_stay h.right hg]
    exact (h.stays hr hg).1
theorem kept_goes {x : Ln} {r : Rf} (hx : rightLn x = true) (h : r ∈ goesR x) (hk : keptM x r = true) : (goesR x).getD 0 default = r ∧ comesR x ≠ [] := by
  have hkind := (rightLn_kind hx).1
  unfold keptM at hk
  rw [hx, if_neg (by simp)] at hk
  have h0 : ¬ idx (fun a => decide (r = a)) (goesR x) < 0 := by
    unfold idx
    cases hf : (goesR x).findIdx? fun a => decide (r = a) with
    | none => rw [List.findIdx?_eq_none_iff] at hf; have := hf r h; simp at this
    | some i => simp
  rw [if_neg h0] at hk
  clear h0 hx
  obtain ⟨kind, at0, nm, ot, fac, fd, fo, ba⟩ := x
  simp only at hkind
  rcases hkind with rfl | rfl | rfl | rfl | rfl | rfl | rfl | rfl | rfl | rfl
  all_goals simp [goesR, comesR, idx, List.findIdx?_cons] at h hk ⊢
  all_goals try (simp_all; done)
  by_cases e : r = named at0 nm
  · exact e.symm
  · rw [if_neg e] at hk
    by_cases e2 : r = named at0 ot
    · rw [if_pos e2] at hk; simp at hk
    · rw [if_neg e2] at hk; simp at hk
theorem Pair.kept {l m : List Fd} {x y : Ln} (h : Pair l m x y) {r : Rf} (hr : On l r) (hk : keptM x r = true) : (traceM x r).2 = true ∧ traceM y (traceM x r).1 = (r, true) := by
  by_cases hg : r ∈ goesR x
  · obtain ⟨k1, k2⟩ := kept_goes h.right hg hk
    have hl : 0 < (comesR x).length := List.length_pos_iff.2 k2
    rw [trace_go h.right hg, if_neg (by omega)]
    refine ⟨rfl, ?_⟩
    have hm : (comesR x).getD 0 default ∈ goesR y := by rw [h.g]; exact getD_mem hl
    have hgl : 0 < (goesR x).length := List.length_pos_of_mem hg
    rw [trace_go h.back.right hm, h.c, if_neg (by omega), k1]
  · rw [trace_stay h.right hg]
    refine ⟨rfl, trace_stay h.back.right ?_⟩
    rw [h.g]; exact (h.stays hr hg).2
/-- a row of lenses with those that lead back -/
inductive Pairs : List Fd → List Fd → List Ln → List Ln → Prop
  | nil (l : List Fd) : Pairs l l [] []
  | cons {l m n : List Fd} {x y : Ln} {xs ys : List Ln} (h : Pair l m x y) (hs : Pairs m n xs ys) : Pairs l n (x :: xs) (ys ++ [y])
theorem Pairs.append {l m n : List Fd} {xs ys us vs : List Ln} (h1 : Pairs l m xs ys) (h2 : Pairs m n us vs) : Pairs l n (xs ++ us) (vs ++ ys) := by
  induction h1 with
  | nil => simpa using h2
  | cons h hs ih => rw [← List.append_assoc]; exact .cons h (ih h2)
theorem Pairs.back {l m : List Fd} {xs ys : List Ln} (h : Pairs l m xs ys) : Pairs m l ys xs := by
  induction h with
  | nil => exact .nil _
  | cons h hs ih => exact ih.append (.cons h.back (.nil _))
theorem Pairs.trace {l m : List Fd} {xs ys : List Ln} (h : Pairs l m xs ys) : ∀ {r : Rf}, On l r → (traceL xs r).2 = true → On m (traceL xs r).1 := by
  induction h with
  | nil => intro r hr _; exact hr
  | cons h hs ih =>
    intro r hr ht
    rw [traceL_cons] at ht ⊢
    split at ht
    · cases ht
    · rename_i hz
      rw [if_neg hz]
      exact ih (h.trace hr (by simpa using hz)) ht
theorem traceL_append (xs ys : List Ln) (r : Rf) : traceL (xs ++ ys) r = if (traceL xs r).2 = false then (default, false) else traceL ys (traceL xs r).1 := by
  induction xs generalizing r with
  | nil => simp [traceL]
  | cons x xs ih =>
    rw [List.cons_append, traceL_cons, traceL_cons]
    split
    · simp
    · exact ih _
theorem Pairs.kept {l m : List Fd} {xs ys : List Ln} (h : Pairs l m xs ys) : ∀ {r : Rf}, On l r → keptL xs r = true → (traceL xs r).2 = true ∧ traceL ys (traceL xs r).1 = (r, true) := by
  induction h with
  | nil => intro r _ _; exact ⟨rfl, rfl⟩
  | @cons l m n x y xs ys h hs ih =>
    intro r hr hk
    rw [keptL_cons] at hk
    split at hk
    · cases hk
    · rename_i hz
      obtain ⟨t1, t2⟩ := h.kept hr (by simpa using hz)
      rw [if_neg (by rw [t1]; simp)] at hk
      obtain ⟨u1, u2⟩ := ih (h.trace hr t1) hk
      rw [traceL_cons, if_neg (by rw [t1]; simp)]
      refine ⟨u1, ?_⟩
      rw [traceL_append, u2]
      simp only [Bool.true_eq_false, if_false]
      rw [traceL_cons, t2]
      rfl
end Go.Proofs.Ytmnibpgmcgdfpaa

set_option linter.unusedSimpArgs false
set_option linter.unusedVariables false
set_option linter.unusedSimpArgs false
set_option linter.unusedVariables false
namespace Go.Proofs.Ytmnibpgmcgdfpaa
open Go.PL
theorem right_kinds {f : Fd} (h : rightF f = true) : f.kind = 1 ∨ f.kind = 2 ∨ f.kind = 3 ∨ f.kind = 4 := by
  simp only [rightF, Bool.and_eq_true] at h
  have h := h.2
  by_cases k1 : f.kind = 1
  · exact .inl k1
  · rw [if_neg k1] at h
    by_cases k3 : f.kind = 3
    · exact .inr (.inr (.inl k3))
    · simp only [if_neg k3, Bool.and_eq_true] at h
      have h := h.2
      simp [tail2] at h
      omega
set_option maxRecDepth 20000 in
set_option maxHeartbeats 8000000 in
theorem FFits_pure (f : Fd) (s : Str) (hf : f.cases'.length ≤ maxLen) : PL.Pure Try.prog 128 [fld f, .str s] (.bool (fitsF f s)) := by
  have hR := Right_pure f hf
  have hT := Text_pure s
  have hC := ConStr_pure f.cases' s hf
  unfold fitsF
  cases hr : rightF f
  · rw [hr] at hR
    refine PL.Pure.of_v Try.func128 (by decide) rfl Try.ntmps128 Try.results128 (by simp) rfl ?_
    simp only [go_sem, fld]
    refine vCall_of (hR) ?_ ?_ ?_; (focus simp only [go_sem, fld]); (focus simp only [go_sem, fld])
    simp only [go_sem, Bool.false_and]
  · have hk := right_kinds hr
    rw [hr] at hR
    have e41 : decide ((s.length : Int) ≤ 40) = decide ((s.length : Int) < 41) := by rw [Bool.eq_iff_iff]; simp; omega
    rw [e41] at hT
    obtain ⟨a, kind, d, c, w⟩ := f
    simp only at hk hR hT hC ⊢
    rcases hk with rfl | rfl | rfl | rfl
    · refine PL.Pure.of_v Try.func128 (by decide) rfl Try.ntmps128 Try.results128 (by simp) rfl ?_
      simp only [go_sem, fld]
      refine vCall_of (hR) ?_ ?_ ?_; (focus simp only [go_sem, fld]); (focus simp only [go_sem, fld])
      simp only [go_sem]
      rfl
    · refine PL.Pure.of_v Try.func128 (by decide) rfl Try.ntmps128 Try.results128 (by simp) rfl ?_
      simp only [go_sem, fld]
      refine vCall_of (hR) ?_ ?_ ?_; (focus simp only [go_sem, fld]); (focus simp only [go_sem, fld])
      simp only [go_sem]
      refine vCall_of (hT) ?_ ?_ ?_; (focus simp only [go_sem]); (focus simp only [go_sem])
      simp only [go_sem]
      simp
    · refine PL.Pure.of_v Try.func128 (by decide) rfl Try.ntmps128 Try.results128 (by simp) rfl ?_
      simp only [go_sem, fld]
      refine vCall_of (hR) ?_ ?_ ?_; (focus simp only [go_sem, fld]); (focus simp only [go_sem, fld])
      simp only [go_sem]
      refine vCall_of (hC) ?_ ?_ ?_; (focus simp only [go_sem, strs]); (focus simp only [go_sem, strs])
      simp only [go_sem]
      simp
    · refine PL.Pure.of_v Try.func128 (by decide) rfl Try.ntmps128 Try.results128 (by simp) rfl ?_
      simp only [go_sem, fld]
      refine vCall_of (hR) ?_ ?_ ?_; (focus simp only [go_sem, fld]); (focus simp only [go_sem, fld])
      simp only [go_sem]
      refine vCall_of (hT) ?_ ?_ ?_; (focus simp only [go_sem]); (focus simp only [go_sem])
      simp only [go_sem]
      simp
end Go.Proofs.Ytmnibpgmcgdfpaa
