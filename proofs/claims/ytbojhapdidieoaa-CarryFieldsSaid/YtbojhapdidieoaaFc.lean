/- Contracts of functions and laws of this seat, each for every input that it names: lemmas of the proof. -/
import Derived.Test.YtbojhapdidieoaaFb
set_option linter.unusedSimpArgs false
set_option linter.unusedVariables false
set_option linter.unusedSimpArgs false
set_option linter.unusedVariables false
namespace Go.Proofs.Ytbojhapdidieoaa
open Go.PL
theorem okGoAll : ∀ (rs : List Rf) {l m : List Fd}, OkFs l → goAll rs l = some m → OkFs m
  | [], l, m, h, e => by cases e; exact h
  | r :: rs, l, m, h, e => by
    unfold goAll at e
    split at e
    · cases e
    · exact okGoAll rs (okWithout h r) e
theorem okComeAll : ∀ (fs : List Fd) {l m : List Fd}, (∀ f ∈ fs, f.cases'.length ≤ 1000000) → OkFs l → comeAll fs l = some m → OkFs m
  | [], l, m, _, h, e => by cases e; exact h
  | f :: fs, l, m, hc, h, e => by
    unfold comeAll at e
    split at e
    · cases e
    · exact okComeAll fs (fun g hg => hc g (by simp [hg])) (okWith h (hc f (by simp))) e
theorem okApply {l : List Fd} {x : Ln} (hl : OkFs l) (hx : OkLn x) : OkFs (applyM l x).1 := by
  have o0 : OkFs [] := ⟨Nat.zero_le _, fun f hf => by cases hf⟩
  unfold applyM
  split
  · exact o0
  split
  · exact o0
  · rename_i m hm
    unfold applyR at hm
    split at hm
    · cases hm
    · obtain ⟨k, h1, h2⟩ := Option.bind_eq_some_iff.1 hm
      exact okComeAll _ (okArr hl hx).c (okGoAll _ hl h1) h2
theorem okRoot : OkFs rootL := ⟨by decide, by decide⟩
theorem okFold : ∀ (w : List Eg) {fs gs : List Fd}, (∀ e ∈ w, OkLn e.ln) → OkFs fs → foldA w fs = some gs → OkFs gs
  | [], fs, gs, _, h, e => by cases e; exact h
  | e :: w, fs, gs, hw, h, he => by
    unfold foldA at he
    split at he
    · cases he
    · exact okFold w (fun x hx => hw x (by simp [hx])) (okApply h (hw e (by simp))) he
theorem okNode {m : List Eg} (hm : ∀ e ∈ m, OkLn e.ln) (e : Eg) : OkFs (nodeOf m e).sch ∧ 0 ≤ (nodeOf m e).dep ∧ (nodeOf m e).dep ≤ (m.length : Int) := by
  have o0 : OkFs [] := ⟨Nat.zero_le _, fun f hf => by cases hf⟩
  unfold nodeOf nodeW
  split
  · exact ⟨o0, by simp, by simp⟩
  · rename_i w hw
    have h1 := wayM_iff.1 hw
    split
    · exact ⟨o0, by simp, by simp⟩
    · rename_i fs hf
      have := h1.len
      exact ⟨okFold w (fun x hx => hm x (h1.mem x hx)) okRoot hf, by simp, by simp only; omega⟩
theorem okAtN {m : List Eg} {c : List Nd} (hm : ∀ e ∈ m, OkLn e.ln) (h : Semi m c) (id : Tg) : OkFs (atN c id).sch ∧ 0 ≤ (atN c id).dep ∧ (atN c id).dep ≤ (m.length : Int) := by
  have o0 : OkFs [] := ⟨Nat.zero_le _, fun f hf => by cases hf⟩
  unfold atN
  split
  · exact ⟨okRoot, by simp [rootN], by simp [rootN]⟩
  · cases hf : findN c id with
    | none => exact ⟨o0, Int.le_refl _, by show (0 : Int) ≤ _; omega⟩
    | some n =>
      simp only [Option.getD_some]
      obtain ⟨_, hk⟩ := mem_semi h (List.mem_of_find?_eq_some hf)
      rcases hk with hk | ⟨hk, _⟩
      · rw [hk]; exact ⟨o0, by simp [pend], by simp [pend]⟩
      · rw [hk]; exact okNode hm _
theorem semi_ids {m : List Eg} {c : List Nd} (ha : Apart m) (h : Semi m c) {i : Nat} (hi : i < c.length) : (c.findIdx? fun n => decide ((c.getD i default).e.id = n.e.id)) = some i := by
  rw [List.findIdx?_eq_some_iff_getElem]
  refine ⟨hi, by rw [getD_lt hi]; simp, fun j hj => ?_⟩
  have hd := ha.d
  rw [← semi_map h, List.map_map] at hd
  rw [List.nodup_iff_pairwise_ne, List.pairwise_iff_getElem] at hd
  have := hd j i (by simp; omega) (by simpa using hi) hj
  simp only [List.getElem_map, Function.comp] at this
  rw [getD_lt hi]
  simp only [decide_eq_true_eq]
  exact fun e => this e.symm
theorem semi_set {m : List Eg} {c : List Nd} (ha : Apart m) (h : Semi m c) {i : Nat} (hi : i < c.length) (hu : (atN c (c.getD i default).e.par).st = 2 ∨ (atN c (c.getD i default).e.par).st = 3) : Semi m (c.set i (nextN (c.getD i default).e (atN c (c.getD i default).e.par))) := by
  have him : i < m.length := by have := h.1; omega
  have he := semi_e h him
  rw [he] at hu ⊢
  obtain ⟨k1, k2⟩ := semi_next ha h (getD_mem him) hu
  rw [k1]
  refine ⟨by simp [h.1], fun j hj => ?_⟩
  by_cases e : i = j
  · subst e
    right
    have : (c.set i (nodeOf m (m.getD i default))).getD i default = nodeOf m (m.getD i default) := by
      rw [getD_lt (by simpa using hi)]; simp
    rw [this]
    exact ⟨rfl, k2⟩
  · have : (c.set i (nodeOf m (m.getD i default))).getD j default = c.getD j default := by
      simp only [List.getD_eq_getElem?_getD, List.getElem?_set_ne e]
    rw [this]
    exact h.2 j hj
def pends (c : List Nd) : Nat := c.countP fun n => decide (n.st = 1)
theorem pends_set {c : List Nd} {i : Nat} {n : Nd} (hi : i < c.length) (h1 : (c.getD i default).st = 1) (h2 : n.st ≠ 1) : pends (c.set i n) < pends c := by
  unfold pends
  rw [getD_lt hi] at h1
  rw [List.countP_set hi]
  have : 0 < c.countP fun n => decide (n.st = 1) := List.countP_pos_iff.2 ⟨c[i], List.getElem_mem hi, by simpa using h1⟩
  simp only [h1, decide_true, if_true, h2, decide_false, Bool.false_eq_true, if_false]
  omega
theorem kts_set (c : List Nd) (i : Nat) (n : Nd) (h : n.e = (c.getD i default).e) : kts (c.set i n) = kts c := by
  unfold kts
  apply List.ext_getElem?
  intro j
  simp only [List.getElem?_map, List.getElem?_set]
  by_cases e : i = j
  · subst e
    by_cases hi : i < c.length
    · simp [hi, h, getD_lt hi]
    · simp [hi]
  · simp [e]
theorem nds_set (c : List Nd) (i : Nat) (n : Nd) : nds (c.set i n) = (nds c).set i (nd n) := by simp [nds, List.map_set]
theorem nextN_e (e : Eg) (u : Nd) : (nextN e u).e = e := by unfold nextN; split <;> rfl
theorem nextN_st (e : Eg) (u : Nd) : (nextN e u).st ≠ 1 := by unfold nextN; split <;> simp
theorem kts_len (c : List Nd) : (kts c).length = c.length := by simp [kts]
structure Seen (n : Nat) (p : Nat → Prop) where
  l : List Nat
  d : l.Nodup
  h : ∀ i ∈ l, i < n ∧ p i
def Seen.next {n : Nat} {p : Nat → Prop} (s : Seen n p) (i : Nat) (hi : i < n) (hp : p i) (hn : i ∉ s.l) : Seen n p :=
  ⟨s.l ++ [i], by rw [List.nodup_append]; exact ⟨s.d, by simp, fun a ha b hb => by simp at hb; subst hb; exact fun e => hn (e ▸ ha)⟩, fun j hj => by
    rcases List.mem_append.1 hj with hj | hj
    · exact s.h j hj
    · simp at hj; subst hj; exact ⟨hi, hp⟩⟩
theorem Seen.len {n : Nat} {p : Nat → Prop} (s : Seen n p) : s.l.length ≤ n := by
  have := nodup_le (m := List.range n) s.d (fun i hi => List.mem_range.2 (s.h i hi).1)
  simpa using this
end Go.Proofs.Ytbojhapdidieoaa
