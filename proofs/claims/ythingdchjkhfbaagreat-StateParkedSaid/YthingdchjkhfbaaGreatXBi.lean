/- Contracts of functions and laws of this seat, each for every input that it names: lemmas of the proof. -/
import Derived.Test.YthingdchjkhfbaaGreatXBb
set_option linter.unusedSimpArgs false
set_option linter.unusedVariables false
set_option linter.unusedSimpArgs false
set_option linter.unusedVariables false
namespace Go.Proofs.YthingdchjkhfbaaGreat
open Go.PL
def findE (m : List Eg) (id : Tg) : Option Eg := m.find? fun e => decide (id = e.id)
theorem findE_id {m : List Eg} {id : Tg} {e : Eg} (h : findE m id = some e) : id = e.id ∧ e ∈ m := by
 unfold findE at h
 exact ⟨by simpa using List.find?_some h, List.mem_of_find?_eq_some h⟩
inductive Way (m : List Eg) : Tg → List Eg → Prop
 | root : Way m default []
 | step {id : Tg} {e : Eg} {w : List Eg} (hn : id ≠ default) (he : findE m id = some e) (hw : Way m e.par w) : Way m id (w ++ [e])
theorem Way.fn {m : List Eg} {id : Tg} {w w' : List Eg} (h : Way m id w) (h' : Way m id w') : w = w' := by
 induction h generalizing w' with
 | root => cases h' with
  | root => rfl
  | step hn he hw => exact absurd rfl hn
 | step hn he hw ih =>
  cases h' with
  | root => exact absurd rfl hn
  | step hn' he' hw' =>
   rw [he] at he'
   cases he'
   rw [ih hw']
theorem Way.mem {m : List Eg} {id : Tg} {w : List Eg} (h : Way m id w) : ∀ e ∈ w, e ∈ m := by
 induction h with
 | root => intro e he; cases he
 | step hn he hw ih =>
  intro x hx
  rcases List.mem_append.1 hx with hx | hx
  ·exact ih x hx
  ·rw [List.mem_singleton.1 hx]; exact (findE_id he).2
theorem Way.take {m : List Eg} {id : Tg} {w : List Eg} (h : Way m id w) : ∀ k (hk : k < w.length), Way m (w[k]).id (w.take (k + 1)) := by
 induction h with
 | root => intro k hk; simp at hk
 | step hn he hw ih =>
  rename_i id e w
  intro k hk
  by_cases hlt : k < w.length
  ·rw [List.getElem_append_left hlt, List.take_append_of_le_length (by omega)]
   exact ih k hlt
  ·have hk' : k = w.length := by simp at hk; omega
   subst hk'
   have e1 : (w ++ [e])[w.length]'hk = e := by simp
   rw [e1, List.take_of_length_le (by simp)]
   have := (findE_id he).1
   rw [← this]
   exact .step hn he hw
theorem Way.nodup {m : List Eg} {id : Tg} {w : List Eg} (h : Way m id w) : w.Nodup := by
 rw [List.nodup_iff_pairwise_ne, List.pairwise_iff_getElem]
 intro i j hi hj hij e
 have h1 := h.take i hi
 have h2 := h.take j hj
 rw [e] at h1
 have := congrArg List.length (h1.fn h2)
 simp at this
 omega
theorem nodup_le {α : Type} [DecidableEq α] : ∀ {l m : List α}, l.Nodup → (∀ x ∈ l, x ∈ m) → l.length ≤ m.length
 | [], _, _, _ => Nat.zero_le _
 | a :: l, m, hn, hs => by
  rw [List.nodup_cons] at hn
  have ha : a ∈ m := hs a (by simp)
  have := nodup_le (l := l) (m := m.erase a) hn.2 (fun x hx => (List.mem_erase_of_ne (fun e : x = a => hn.1 (e ▸ hx))).2 (hs x (by simp [hx])))
  rw [List.length_erase_of_mem ha] at this
  have : 0 < m.length := List.length_pos_of_mem ha
  simp only [List.length_cons]
  omega
theorem Way.len {m : List Eg} {id : Tg} {w : List Eg} (h : Way m id w) : w.length ≤ m.length := nodup_le h.nodup h.mem
def wayF (m : List Eg) : Nat → Tg → List Eg → Option (List Eg)
 | 0, _, _ => none
 | k + 1, id, way => if id = default then some way else match findE m id with
  | none => none
  | some e => wayF m k e.par (e :: way)
def wayM (m : List Eg) (id : Tg) : Option (List Eg) := wayF m (m.length + 1) id []
theorem wayF_sound {m : List Eg} : ∀ {k : Nat} {id : Tg} {acc r : List Eg}, wayF m k id acc = some r → ∃ w, Way m id w ∧ r = w ++ acc
 | 0, _, _, _, h => by cases h
 | k + 1, id, acc, r, h => by
  unfold wayF at h
  split at h
  ·rename_i hd
   cases h
   exact ⟨[], hd ▸ .root, rfl⟩
  ·rename_i hd
   split at h
   ·cases h
   ·rename_i e he
    obtain ⟨w, h1, h2⟩ := wayF_sound h
    exact ⟨w ++ [e], .step hd he h1, by rw [h2]; simp⟩
theorem wayF_full {m : List Eg} {id : Tg} {w : List Eg} (h : Way m id w) : ∀ {k : Nat} (acc : List Eg), w.length < k → wayF m k id acc = some (w ++ acc) := by
 induction h with
 | root => intro k acc hk; cases k with
  | zero => simp at hk
  | succ k => simp [wayF]
 | step hn he hw ih =>
  intro k acc hk
  cases k with
  | zero => simp at hk
  | succ k =>
   simp only [List.length_append, List.length_cons, List.length_nil] at hk
   simp only [wayF, if_neg hn, he]
   rw [ih _ (by omega)]
   simp
theorem wayM_iff {m : List Eg} {id : Tg} {w : List Eg} : wayM m id = some w ↔ Way m id w := by
 constructor
 ·intro h
  obtain ⟨w', h1, h2⟩ := wayF_sound h
  rw [h2, List.append_nil]; exact h1
 ·intro h
  have := wayF_full h (k := m.length + 1) [] (by have := h.len; omega)
  simpa [wayM] using this
def foldA : List Eg → List Fd → Option (List Fd)
 | [], fs => some fs
 | e :: es, fs => if (applyM fs e.ln).2 ≠ 0 then none else foldA es (applyM fs e.ln).1
theorem foldA_append (w v : List Eg) (fs : List Fd) : foldA (w ++ v) fs = (foldA w fs).bind (foldA v) := by
 induction w generalizing fs with
 | nil => rfl
 | cons e w ih =>
  simp only [List.cons_append, foldA]
  split
  ·rfl
  ·exact ih _
def nodeW (e : Eg) : Option (List Eg) → Nd
 | none => ⟨e, 1, [], 0⟩
 | some w => match foldA w rootL with
  | none => ⟨e, 3, [], 0⟩
  | some fs => ⟨e, 2, fs, w.length⟩
def nodeOf (m : List Eg) (e : Eg) : Nd := nodeW e (wayM m e.id)
def treeOf (m : List Eg) : List Nd := m.map (nodeOf m)
def pend (e : Eg) : Nd := ⟨e, 1, [], 0⟩
theorem nodeOf_e (m : List Eg) (e : Eg) : (nodeOf m e).e = e := by
 unfold nodeOf nodeW; split
 ·rfl
 ·split <;> rfl
structure Apart (m : List Eg) : Prop where
 d : (m.map (·.id)).Nodup
 n : ∀ e ∈ m, e.id ≠ default
theorem Apart.find {m : List Eg} (h : Apart m) {e : Eg} (he : e ∈ m) : findE m e.id = some e := by
 obtain ⟨l1, l2, rfl⟩ := List.append_of_mem he
 have hd := h.d
 simp only [List.map_append, List.map_cons] at hd
 unfold findE
 rw [List.find?_append]
 have hno : l1.find? (fun x => decide (e.id = x.id)) = none := by
  rw [List.find?_eq_none]
  intro x hx hh
  have hx' : x.id ∈ l1.map (·.id) := List.mem_map.2 ⟨x, hx, rfl⟩
  have := (List.nodup_append.1 hd).2.2 _ hx' e.id (by simp)
  exact this (by simpa using Eq.symm (by simpa using hh))
 rw [hno]
 simp
def Semi (m : List Eg) (c : List Nd) : Prop := c.length = m.length ∧ ∀ i, i < m.length → c.getD i default = pend (m.getD i default) ∨ (c.getD i default = nodeOf m (m.getD i default) ∧ (c.getD i default).st ≠ 1)
theorem nodeOf_st {m : List Eg} {e : Eg} : (nodeOf m e).st = 1 ↔ wayM m e.id = none := by
 unfold nodeOf nodeW
 split
 ·rename_i h; simp [h]
 ·rename_i w h
  constructor
  ·intro hh; split at hh <;> cases hh
  ·intro hh; rw [h] at hh; cases hh
theorem nodeOf_none {m : List Eg} {e : Eg} (h : wayM m e.id = none) : nodeOf m e = pend e := by simp [nodeOf, nodeW, h, pend]
theorem pend_st (e : Eg) : (pend e).st = 1 := rfl
theorem semi_e {m : List Eg} {c : List Nd} (h : Semi m c) {i : Nat} (hi : i < m.length) : (c.getD i default).e = m.getD i default := by
 rcases h.2 i hi with h | ⟨h, _⟩
 ·rw [h]; rfl
 ·rw [h, nodeOf_e]
theorem semi_map {m : List Eg} {c : List Nd} (h : Semi m c) : c.map (·.e) = m := by
 apply List.ext_getElem
 ·simp [h.1]
 ·intro i h1 h2
  have := semi_e h h2
  rw [getD_lt (by have := h.1; omega), getD_lt h2] at this
  simpa using this
theorem find_semi {m : List Eg} {c : List Nd} (h : Semi m c) (id : Tg) : (findN c id).map (·.e) = findE m id := by
 rw [← semi_map h]
 unfold findN findE
 rw [List.find?_map]
 rfl
theorem mem_semi {m : List Eg} {c : List Nd} (h : Semi m c) {n : Nd} (hn : n ∈ c) : n.e ∈ m ∧ (n = pend n.e ∨ (n = nodeOf m n.e ∧ n.st ≠ 1)) := by
 obtain ⟨i, hi, rfl⟩ := List.getElem_of_mem hn
 have hi' : i < m.length := by have := h.1; omega
 have e := semi_e h hi'
 have k := h.2 i hi'
 rw [getD_lt hi] at e k
 rw [e]
 exact ⟨getD_mem hi', k⟩
def nextN (e : Eg) (up : Nd) : Nd := if up.st = 2 ∧ (applyM up.sch e.ln).2 = 0 then ⟨e, 2, (applyM up.sch e.ln).1, up.dep + 1⟩ else ⟨e, 3, [], 0⟩
theorem next_of_way {m : List Eg} {e : Eg} {w : List Eg} (ha : Apart m) (he : e ∈ m) (hw : Way m e.par w) : nodeOf m e = match foldA w rootL with
  | none => ⟨e, 3, [], 0⟩
  | some fs => nextN e ⟨default, 2, fs, w.length⟩ := by
 have h1 : Way m e.id (w ++ [e]) := .step (ha.n e he) (ha.find he) hw
 have h2 := wayM_iff.2 h1
 unfold nodeOf nodeW
 rw [h2]
 simp only [foldA_append]
 cases hf : foldA w rootL with
 | none => rfl
 | some fs =>
  simp only [Option.bind_some, foldA, nextN]
  by_cases hz : (applyM fs e.ln).2 = 0
  ·simp [hz]
  ·simp [hz]
theorem semi_next {m : List Eg} {c : List Nd} (ha : Apart m) (h : Semi m c) {e : Eg} (he : e ∈ m) (hu : (atN c e.par).st = 2 ∨ (atN c e.par).st = 3) : nextN e (atN c e.par) = nodeOf m e ∧ (nodeOf m e).st ≠ 1 := by
 have key : ∃ w, Way m e.par w ∧ nextN e (atN c e.par) = (match foldA w rootL with | none => ⟨e, 3, [], 0⟩ | some fs => nextN e ⟨default, 2, fs, w.length⟩) := by
  unfold atN at hu ⊢
  by_cases hp : e.par = default
  ·rw [if_pos hp]
   exact ⟨[], hp ▸ .root, by simp [foldA, nextN, rootN]⟩
  ·rw [if_neg hp] at hu ⊢
   cases hf : findN c e.par with
   | none => rw [hf] at hu; simp at hu; rcases hu with hu | hu <;> cases hu
   | some n =>
    rw [hf] at hu
    simp only [Option.getD_some] at hu ⊢
    have hn : n ∈ c := List.mem_of_find?_eq_some hf
    obtain ⟨hm, hk⟩ := mem_semi h hn
    rcases hk with hk | ⟨hk, hst⟩
    ·rw [hk] at hu; simp [pend] at hu
    ·have hid : e.par = n.e.id := by
      have := find_semi h e.par
      rw [hf] at this
      exact (findE_id this.symm).1
     cases hw : wayM m n.e.id with
     | none => rw [hk] at hst; exact absurd (nodeOf_st.2 hw) hst
     | some w =>
      refine ⟨w, by rw [hid]; exact wayM_iff.1 hw, ?_⟩
      have hnw : n = nodeW n.e (some w) := by rw [← hw]; exact hk
      unfold nodeW at hnw
      cases hfa : foldA w rootL with
      | none =>
       simp only [hfa] at hnw
       rw [hnw]; simp [nextN]
      | some fs =>
       simp only [hfa] at hnw
       rw [hnw]; simp [nextN]
 obtain ⟨w, hw, hk⟩ := key
 refine ⟨by rw [hk, next_of_way ha he hw], fun hh => ?_⟩
 have := nodeOf_st.1 hh
 have h2 := wayM_iff.2 (Way.step (ha.n e he) (ha.find he) hw)
 rw [this] at h2
 cases h2
theorem semi_done {m : List Eg} {c : List Nd} (ha : Apart m) (h : Semi m c) (hd : ∀ i, i < m.length → (c.getD i default).st ≠ 1 ∨ ((atN c (m.getD i default).par).st ≠ 2 ∧ (atN c (m.getD i default).par).st ≠ 3)) : c = treeOf m := by
 have hs : ∀ {id w}, Way m id w → ∀ e, findE m id = some e → id ≠ default → nodeOf m e ∈ c := by
  intro id w hw
  induction hw with
  | root => intro e _ hn; exact absurd rfl hn
  | step hn he hw ih =>
   rename_i id e w
   intro e' he' _
   rw [he] at he'
   cases he'
   obtain ⟨hid, hem⟩ := findE_id he
   obtain ⟨i, hi, rfl⟩ := List.getElem_of_mem hem
   have hic : i < c.length := by have := h.1; omega
   rcases h.2 i hi with hk | ⟨hk, _⟩
   ·exfalso
    rcases hd i hi with h1 | ⟨h1, h2⟩
    ·rw [hk] at h1; exact h1 rfl
    ·rw [getD_lt hi] at h1 h2
     by_cases hp : (m[i]).par = default
     ·simp [atN, hp, rootN] at h1
     ·cases hfe : findE m (m[i]).par with
      | none =>
       generalize (m[i]).par = p at *
       cases hw with
       | root => exact hp rfl
       | step _ hq _ => rw [hfe] at hq; cases hq
      | some q =>
       have hq := ih q hfe hp
       obtain ⟨hqid, hqm⟩ := findE_id hfe
       have hfn : findN c (m[i]).par = some (nodeOf m q) := by
        have h3 := find_semi h (m[i]).par
        rw [hfe] at h3
        cases hx : findN c (m[i]).par with
        | none => rw [hx] at h3; cases h3
        | some n =>
         rw [hx] at h3
         simp only [Option.map_some, Option.some.injEq] at h3
         have hn : n ∈ c := List.mem_of_find?_eq_some hx
         have hcd : (c.map (·.e.id)).Nodup := by
          have := semi_map h
          have h4 := ha.d
          rw [← this, List.map_map] at h4
          exact h4
         congr 1
         obtain ⟨a1, b1, ha1⟩ := List.getElem_of_mem hn
         obtain ⟨a2, b2, ha2⟩ := List.getElem_of_mem hq
         have hee : n.e.id = (nodeOf m q).e.id := by rw [nodeOf_e, h3]
         have : a1 = a2 := by
          rw [List.nodup_iff_pairwise_ne, List.pairwise_iff_getElem] at hcd
          rcases Nat.lt_trichotomy a1 a2 with hlt | heq | hlt
          ·exact absurd (show (c.map (·.e.id))[a1]'(by simpa using b1) = (c.map (·.e.id))[a2]'(by simpa using b2) by rw [List.getElem_map, List.getElem_map, ha1, ha2]; exact hee) (hcd a1 a2 (by simpa using b1) (by simpa using b2) hlt)
          ·exact heq
          ·exact absurd (show (c.map (·.e.id))[a2]'(by simpa using b2) = (c.map (·.e.id))[a1]'(by simpa using b1) by rw [List.getElem_map, List.getElem_map, ha1, ha2]; exact hee.symm) (hcd a2 a1 (by simpa using b2) (by simpa using b1) hlt)
         subst this
         rw [← ha1, ← ha2]
       have hst : (nodeOf m q).st ≠ 1 := fun hh => by
        have := nodeOf_st.1 hh
        rw [← hqid] at this
        rw [wayM_iff.2 hw] at this
        cases this
       have hst2 : (nodeOf m q).st = 2 ∨ (nodeOf m q).st = 3 := by
        revert hst
        unfold nodeOf nodeW
        split
        ·exact fun h => absurd rfl h
        ·split
         ·exact fun _ => .inr rfl
         ·exact fun _ => .inl rfl
       have hat : atN c (m[i]).par = nodeOf m q := by simp [atN, hp, hfn]
       rw [hat] at h1 h2
       rcases hst2 with h5 | h5
       ·exact h1 h5
       ·exact h2 h5
   ·rw [getD_lt hic, getD_lt hi] at hk
    rw [← hk]; exact List.getElem_mem hic
 apply List.ext_getElem
 ·simp [treeOf, h.1]
 ·intro i h1 h2
  have hi : i < m.length := by have := h.1; omega
  have hk := h.2 i hi
  rw [getD_lt h1, getD_lt hi] at hk
  simp only [treeOf, List.getElem_map]
  rcases hk with hk | ⟨hk, _⟩
  ·rw [hk]
   cases hw : wayM m (m[i]).id with
   | none => exact (nodeOf_none hw).symm
   | some w =>
    exfalso
    have hem : m[i] ∈ m := List.getElem_mem hi
    have hmem := hs (wayM_iff.1 hw) _ (ha.find hem) (ha.n _ hem)
    obtain ⟨j, hj, hje⟩ := List.getElem_of_mem hmem
    have hjm : j < m.length := by have := h.1; omega
    have h3 := semi_e h hjm
    rw [getD_lt hj, getD_lt hjm, hje, nodeOf_e] at h3
    have hij : i = j := by
     have hd := ha.d
     rw [List.nodup_iff_pairwise_ne, List.pairwise_iff_getElem] at hd
     rcases Nat.lt_trichotomy i j with hlt | heq | hlt
     ·exact absurd (show (m.map (·.id))[i]'(by simpa using hi) = (m.map (·.id))[j]'(by simpa using hjm) by rw [List.getElem_map, List.getElem_map, h3]) (hd i j (by simpa using hi) (by simpa using hjm) hlt)
     ·exact heq
     ·exact absurd (show (m.map (·.id))[j]'(by simpa using hjm) = (m.map (·.id))[i]'(by simpa using hi) by rw [List.getElem_map, List.getElem_map, h3]) (hd j i (by simpa using hjm) (by simpa using hi) hlt)
    subst hij
    rw [hk] at hje
    have := congrArg Nd.st hje
    rw [pend_st] at this
    have := nodeOf_st.1 this.symm
    rw [hw] at this
    cases this
  ·exact hk
end Go.Proofs.YthingdchjkhfbaaGreat
set_option linter.unusedSimpArgs false
set_option linter.unusedVariables false
set_option linter.unusedSimpArgs false
set_option linter.unusedVariables false
namespace Go.Proofs.YthingdchjkhfbaaGreat
open Go.PL
theorem okGoAll : ∀ (rs : List Rf) {l m : List Fd}, OkFs l → goAll rs l = some m → OkFs m
 | [], l, m, h, e => by cases e; exact h
 | r :: rs, l, m, h, e => by
  unfold goAll at e
  split at e
  ·cases e
  ·exact okGoAll rs (okWithout h r) e
theorem okComeAll : ∀ (fs : List Fd) {l m : List Fd}, (∀ f ∈ fs, f.cases'.length ≤ 1000000) → OkFs l → comeAll fs l = some m → OkFs m
 | [], l, m, _, h, e => by cases e; exact h
 | f :: fs, l, m, hc, h, e => by
  unfold comeAll at e
  split at e
  ·cases e
  ·exact okComeAll fs (fun g hg => hc g (by simp [hg])) (okWith h (hc f (by simp))) e
theorem okApply {l : List Fd} {x : Ln} (hl : OkFs l) (hx : OkLn x) : OkFs (applyM l x).1 := by
 have o0 : OkFs [] := ⟨Nat.zero_le _, fun f hf => by cases hf⟩
 unfold applyM
 split
 ·exact o0
 split
 ·exact o0
 ·rename_i m hm
  unfold applyR at hm
  split at hm
  ·cases hm
  ·obtain ⟨k, h1, h2⟩ := Option.bind_eq_some_iff.1 hm
   exact okComeAll _ (okArr hl hx).c (okGoAll _ hl h1) h2
theorem okRoot : OkFs rootL := ⟨by decide, by decide⟩
theorem okFold : ∀ (w : List Eg) {fs gs : List Fd}, (∀ e ∈ w, OkLn e.ln) → OkFs fs → foldA w fs = some gs → OkFs gs
 | [], fs, gs, _, h, e => by cases e; exact h
 | e :: w, fs, gs, hw, h, he => by
  unfold foldA at he
  split at he
  ·cases he
  ·exact okFold w (fun x hx => hw x (by simp [hx])) (okApply h (hw e (by simp))) he
theorem okNode {m : List Eg} (hm : ∀ e ∈ m, OkLn e.ln) (e : Eg) : OkFs (nodeOf m e).sch ∧ 0 ≤ (nodeOf m e).dep ∧ (nodeOf m e).dep ≤ (m.length : Int) := by
 have o0 : OkFs [] := ⟨Nat.zero_le _, fun f hf => by cases hf⟩
 unfold nodeOf nodeW
 split
 ·exact ⟨o0, by simp, by simp⟩
 ·rename_i w hw
  have h1 := wayM_iff.1 hw
  split
  ·exact ⟨o0, by simp, by simp⟩
  ·rename_i fs hf
   have := h1.len
   exact ⟨okFold w (fun x hx => hm x (h1.mem x hx)) okRoot hf, by simp, by simp only; omega⟩
theorem okAtN {m : List Eg} {c : List Nd} (hm : ∀ e ∈ m, OkLn e.ln) (h : Semi m c) (id : Tg) : OkFs (atN c id).sch ∧ 0 ≤ (atN c id).dep ∧ (atN c id).dep ≤ (m.length : Int) := by
 have o0 : OkFs [] := ⟨Nat.zero_le _, fun f hf => by cases hf⟩
 unfold atN
 split
 ·exact ⟨okRoot, by simp [rootN], by simp [rootN]⟩
 ·cases hf : findN c id with
  | none => exact ⟨o0, Int.le_refl _, by show (0 : Int) ≤ _; omega⟩
  | some n =>
   simp only [Option.getD_some]
   obtain ⟨_, hk⟩ := mem_semi h (List.mem_of_find?_eq_some hf)
   rcases hk with hk | ⟨hk, _⟩
   ·rw [hk]; exact ⟨o0, by simp [pend], by simp [pend]⟩
   ·rw [hk]; exact okNode hm _
theorem semi_ids {m : List Eg} {c : List Nd} (ha : Apart m) (h : Semi m c) {i : Nat} (hi : i < c.length) : (c.findIdx? fun n => decide ((c.getD i default).e.id = n.e.id)) = some i := by
 rw [List.findIdx?_eq_some_iff_getElem]
 refine ⟨hi, by rw [getD_lt hi]; simp, fun j hj => ?_⟩
 have hd := ha.d
 rw [← semi_map h, List.map_map] at hd
 rw [List.nodup_iff_pairwise_ne, List.pairwise_iff_getElem] at hd
 have := hd j i (by simp; omega) (by simpa using hi) hj
 simp only [List.getElem_map, Function.comp] at this
 rw [getD_lt hi]
 simp only [decide_eq_true_eq]
 exact fun e => this e.symm
theorem semi_set {m : List Eg} {c : List Nd} (ha : Apart m) (h : Semi m c) {i : Nat} (hi : i < c.length) (hu : (atN c (c.getD i default).e.par).st = 2 ∨ (atN c (c.getD i default).e.par).st = 3) : Semi m (c.set i (nextN (c.getD i default).e (atN c (c.getD i default).e.par))) := by
 have him : i < m.length := by have := h.1; omega
 have he := semi_e h him
 rw [he] at hu ⊢
 obtain ⟨k1, k2⟩ := semi_next ha h (getD_mem him) hu
 rw [k1]
 refine ⟨by simp [h.1], fun j hj => ?_⟩
 by_cases e : i = j
 ·subst e
  right
  have : (c.set i (nodeOf m (m.getD i default))).getD i default = nodeOf m (m.getD i default) := by
   rw [getD_lt (by simpa using hi)]; simp
  rw [this]
  exact ⟨rfl, k2⟩
 ·have : (c.set i (nodeOf m (m.getD i default))).getD j default = c.getD j default := by
   simp only [List.getD_eq_getElem?_getD, List.getElem?_set_ne e]
  rw [this]
  exact h.2 j hj
def pends (c : List Nd) : Nat := c.countP fun n => decide (n.st = 1)
theorem pends_set {c : List Nd} {i : Nat} {n : Nd} (hi : i < c.length) (h1 : (c.getD i default).st = 1) (h2 : n.st ≠ 1) : pends (c.set i n) < pends c := by
 unfold pends
 rw [getD_lt hi] at h1
 rw [List.countP_set hi]
 have : 0 < c.countP fun n => decide (n.st = 1) := List.countP_pos_iff.2 ⟨c[i], List.getElem_mem hi, by simpa using h1⟩
 simp only [h1, decide_true, if_true, h2, decide_false, Bool.false_eq_true, if_false]
 omega
theorem kts_set (c : List Nd) (i : Nat) (n : Nd) (h : n.e = (c.getD i default).e) : kts (c.set i n) = kts c := by
 unfold kts
 apply List.ext_getElem?
 intro j
 simp only [List.getElem?_map, List.getElem?_set]
 by_cases e : i = j
 ·subst e
  by_cases hi : i < c.length
  ·simp [hi, h, getD_lt hi]
  ·simp [hi]
 ·simp [e]
theorem nds_set (c : List Nd) (i : Nat) (n : Nd) : nds (c.set i n) = (nds c).set i (nd n) := by simp [nds, List.map_set]
theorem nextN_e (e : Eg) (u : Nd) : (nextN e u).e = e := by unfold nextN; split <;> rfl
theorem nextN_st (e : Eg) (u : Nd) : (nextN e u).st ≠ 1 := by unfold nextN; split <;> simp
theorem kts_len (c : List Nd) : (kts c).length = c.length := by simp [kts]
structure Seen (n : Nat) (p : Nat → Prop) where
 l : List Nat
 d : l.Nodup
 h : ∀ i ∈ l, i < n ∧ p i
def Seen.next {n : Nat} {p : Nat → Prop} (s : Seen n p) (i : Nat) (hi : i < n) (hp : p i) (hn : i ∉ s.l) : Seen n p :=
 ⟨s.l ++ [i], by rw [List.nodup_append]; exact ⟨s.d, by simp, fun a ha b hb => by simp at hb; subst hb; exact fun e => hn (e ▸ ha)⟩, fun j hj => by
  rcases List.mem_append.1 hj with hj | hj
  ·exact s.h j hj
  ·simp at hj; subst hj; exact ⟨hi, hp⟩⟩
theorem Seen.len {n : Nat} {p : Nat → Prop} (s : Seen n p) : s.l.length ≤ n := by
 have := nodup_le (m := List.range n) s.d (fun i hi => List.mem_range.2 (s.h i hi).1)
 simpa using this
end Go.Proofs.YthingdchjkhfbaaGreat
set_option linter.unusedSimpArgs false
set_option linter.unusedVariables false
set_option linter.unusedSimpArgs false
set_option linter.unusedVariables false
namespace Go.Proofs.YthingdchjkhfbaaGreat
open Go.PL
def SemiT (m : List Eg) : Type := { c : List Nd // Semi m c }
def skipN (c : List Nd) (i : Nat) : Prop := (c.getD i default).st ≠ 1 ∨ ((atN c (c.getD i default).e.par).st ≠ 2 ∧ (atN c (c.getD i default).e.par).st ≠ 3)
theorem last_snoc (l : List Nat) (i : Nat) : (l ++ [i]).getLast? = some i := by simp
theorem semi_pend {m : List Eg} {c : List Nd} (h : Semi m c) {i : Nat} (hi : i < m.length) (h1 : (c.getD i default).st = 1) : (c.getD i default).sch = [] ∧ (c.getD i default).dep = 0 := by
 rcases h.2 i hi with hk | ⟨_, hk⟩
 ·rw [hk]; exact ⟨rfl, rfl⟩
 ·exact absurd h1 hk
set_option maxRecDepth 20000 in
set_option maxHeartbeats 16000000 in
theorem settle_wr (m : List Eg) (c0 : List Nd) (ha : Apart m) (h0 : Semi m c0) (hm : ∀ e ∈ m, OkLn e.ln) (hl : m.length ≤ 1000) : PL.Wr Tryz.prog 63 (fun b => [.rptr [.mref b]]) (mc c0) (.tup []) (mc (treeOf m)) := by
 refine PL.Wr.of_v Tryz.func63 (by decide) rfl Tryz.ntmps63 Tryz.results63 (by simp) rfl (fun b => ?_)
 simp only [go_sem]
 refine vScopeO (ι := SemiT m) 61 (fun x => [(0, .rptr [.mref b])]) (fun x => []) (fun x => []) (fun x => [(b, mc x.1)]) (fun x => []) (fun x => pends x.1) 0 _ (by exact rfl) (fun x => ⟨(fcs rfl fnl), fnl⟩) (fun x => ?_) (fun cut => ?_)
 ·obtain ⟨c, hc⟩ := x
  simp only
  have hcl := hc.1
  simp only [go_sem, List.map_cons, List.map_nil]
  intro ib
  simp only [go_sem, forall_const, mc, kts_len]
  refine vLoopO (ι := Seen c.length (skipN c)) 61 (fun x => [(0, .rptr [.mref b]), (11, .iptr ib)]) (fun x => []) (fun x => []) (fun x => [(b, mc c)]) (fun x => [(ib, ⟨b, c.length, x.l, none⟩)]) (fun x => c.length - x.l.length) ⟨[], by simp, fun i hi => by cases hi⟩
   ⟨⟨rfl, (fcs rfl (fcs rfl fnl)), fnl, fnl⟩, fcs (by simp [upd, mc]) fnl, fcs (by simp [upd]) fnl⟩ (fun x => ⟨(fcs rfl (fcs rfl fnl)), fnl⟩) (fun x => ?_)
  have hsl := x.len
  simp only [go_sem, List.map_cons, List.map_nil, mc, kts_len]
  refine ⟨fun hall => ?_, fun i hi hns => ?_⟩
  ·have hdone : c = treeOf m := semi_done ha hc fun i hi => by
    have := (x.h i (hall i (by omega))).2
    unfold skipN at this
    rw [semi_e hc hi] at this
    exact this
   rw [← hdone]
  ·have him : i < m.length := by omega
   have hA := at_pure c (c.getD i default).e.par
   obtain ⟨ok1, ok2, ok3⟩ := okAtN hm hc (c.getD i default).e.par
   have hL := Apply_pure (atN c (c.getD i default).e.par).sch (c.getD i default).e.ln ok1 (by rw [semi_e hc him]; exact hm _ (getD_mem him))
   have hset := semi_ids ha hc hi
   have hwd : IntKind.i64.wrap ((atN c (c.getD i default).e.par).dep + 1) = (atN c (c.getD i default).e.par).dep + 1 := w64 (by omega)
   have hnx : ∀ (s' : St) (j : Seen c.length (skipN c)), j.l.length = x.l.length + 1 → HasO 61 [(0, .rptr [.mref b]), (11, .iptr ib)] [] [] [(b, mc c)] [(ib, ⟨b, c.length, j.l, none⟩)] s' → NextO 61 (fun x => [(0, .rptr [.mref b]), (11, .iptr ib)]) (fun x => []) (fun x => []) (fun x => [(b, mc c)]) (fun x => [(ib, ⟨b, c.length, x.l, none⟩)]) (fun x : Seen c.length (skipN c) => c.length - x.l.length) x s' := fun s' j hj hh => ⟨j, by have := j.len; show c.length - j.l.length < c.length - x.l.length; omega, hh⟩
   by_cases h1 : (c.getD i default).st = 1
   ·obtain ⟨hp1, hp2⟩ := semi_pend hc him h1
    have e1 : ((c.getD i default).st != 1) = false := by rw [h1]; rfl
    simp only [go_sem, last_snoc, getD_nd hi, getD_kt hi, hi, kts_len, tg, nd, e1]
    refine vCall_sl hA (nomap_nd _) ?_ ?_ ?_
    ·simp only [go_sem]
    ·simp only [go_sem, tr, tg, kts, nds]
    by_cases hs2 : (atN c (c.getD i default).e.par).st = 2
    ·have e2 : ((atN c (c.getD i default).e.par).st != 2) = false := by rw [hs2]; rfl
     have e2' : ((atN c (c.getD i default).e.par).st == 2) = true := by rw [hs2]; rfl
     have hsem := semi_set ha hc hi (.inl hs2)
     simp only [go_sem, nd, e2, e2']
     refine vCall_of (hL) ?_ ?_ ?_; iterate 2 simp only [go_sem, flds, lns]
     simp only [go_sem, fldsc, flds]
     by_cases hz : (applyM (atN c (c.getD i default).e.par).sch (c.getD i default).e.ln).2 = 0
     ·have hnn : nextN (c.getD i default).e (atN c (c.getD i default).e.par) = ⟨(c.getD i default).e, 2, (applyM (atN c (c.getD i default).e.par).sch (c.getD i default).e.ln).1, (atN c (c.getD i default).e.par).dep + 1⟩ := by unfold nextN; rw [if_pos ⟨hs2, hz⟩]
      simp only [go_sem, hz]
      refine vDrawS [(4, 3)] (by kernel_rfl) (by kernel_rfl) (by exact rfl) ?_
      simp only [go_sem, hwd]
      refine vDrawQ (by kernel_rfl) (by kernel_rfl) ?_
      simp only [go_sem, findP_tags0, hset]
      refine ⟨⟨_, hsem⟩, pends_set hi h1 (nextN_st _ _), ⟨⟨rfl, (fcs rfl fnl), fnl, fnl⟩, fcs ?_ fnl, fnl⟩⟩
      simp only [upd_same]
      rw [kts_set c i _ (nextN_e _ _), nds_set, hnn]
      rfl
     ·have hnn : nextN (c.getD i default).e (atN c (c.getD i default).e.par) = ⟨(c.getD i default).e, 3, [], 0⟩ := by unfold nextN; rw [if_neg (fun hh => hz hh.2)]
      have hzb : ((applyM (atN c (c.getD i default).e.par).sch (c.getD i default).e.ln).2 == 0) = false := by simpa using hz
      simp only [go_sem, hzb]
      refine vDrawQ (by kernel_rfl) (by kernel_rfl) ?_
      simp only [go_sem, findP_tags0, hset]
      refine ⟨⟨_, hsem⟩, pends_set hi h1 (nextN_st _ _), ⟨⟨rfl, (fcs rfl fnl), fnl, fnl⟩, fcs ?_ fnl, fnl⟩⟩
      simp only [upd_same]
      rw [kts_set c i _ (nextN_e _ _), nds_set, hnn]
      simp only [nd, hp1, hp2]
    ·by_cases hs3 : (atN c (c.getD i default).e.par).st = 3
     ·have e2 : ((atN c (c.getD i default).e.par).st != 2) = true := by rw [hs3]; rfl
      have e2' : ((atN c (c.getD i default).e.par).st == 2) = false := by rw [hs3]; rfl
      have e3 : ((atN c (c.getD i default).e.par).st != 3) = false := by rw [hs3]; rfl
      have hsem := semi_set ha hc hi (.inr hs3)
      have hnn : nextN (c.getD i default).e (atN c (c.getD i default).e.par) = ⟨(c.getD i default).e, 3, [], 0⟩ := by unfold nextN; rw [if_neg (fun hh => hs2 hh.1)]
      simp only [go_sem, nd, e2, e2', e3]
      refine vDrawQ (by kernel_rfl) (by kernel_rfl) ?_
      simp only [go_sem, findP_tags0, hset]
      refine ⟨⟨_, hsem⟩, pends_set hi h1 (nextN_st _ _), ⟨⟨rfl, (fcs rfl fnl), fnl, fnl⟩, fcs ?_ fnl, fnl⟩⟩
      simp only [upd_same]
      rw [kts_set c i _ (nextN_e _ _), nds_set, hnn]
      simp only [nd, hp1, hp2]
     ·have e2 : ((atN c (c.getD i default).e.par).st != 2) = true := by simpa using hs2
      have e3 : ((atN c (c.getD i default).e.par).st != 3) = true := by simpa using hs3
      simp only [go_sem, nd, e2, e3]
      refine hnx _ (x.next i hi (.inr ⟨hs2, hs3⟩) hns) (by simp [Seen.next]) ?_
      exact ⟨⟨rfl, (fcs rfl (fcs rfl fnl)), fnl, fnl⟩, fcs (by simp [upd, mc]) fnl, fcs (by simp [upd, Seen.next]) fnl⟩
   ·have e1 : ((c.getD i default).st != 1) = true := by simpa using h1
    simp only [go_sem, last_snoc, getD_nd hi, getD_kt hi, hi, kts_len, tg, nd, e1]
    refine hnx _ (x.next i hi (.inl h1) hns) (by simp [Seen.next]) ?_
    exact ⟨⟨rfl, (fcs rfl (fcs rfl fnl)), fnl, fnl⟩, fcs (by simp [upd, mc]) fnl, fcs (by simp [upd, Seen.next]) fnl⟩
 ·simp only [go_sem]
  exact awp_label_seq (cut ⟨c0, h0⟩ _ ⟨⟨rfl, (fcs rfl fnl), fnl, fnl⟩, fcs (by simp [upd]) fnl, fnl⟩)
end Go.Proofs.YthingdchjkhfbaaGreat
set_option linter.unusedSimpArgs false
set_option linter.unusedVariables false
set_option linter.unusedSimpArgs false
set_option linter.unusedVariables false
namespace Go.Proofs.YthingdchjkhfbaaGreat
open Go.PL
def edgeB (e : Eg) : Bool := tagB e.id && ((decide (e.par = default) || (tagB e.par && !decide (e.par = e.id))) && (decide (1 ≤ e.ln.kind) && (decide (e.ln.kind ≤ 8) && rightLn e.ln)))
theorem tagB_default {t : Tg} (h : tagB t = true) : t ≠ default := fun e => by subst e; exact absurd h (by decide)
theorem rightLn_pos {x : Ln} (h : rightLn x = true) : 1 ≤ x.kind := by
 unfold rightLn at h
 split at h
 ·rename_i hk; omega
 ·split at h
  ·omega
  ·split at h
   ·omega
   ·split at h
    ·omega
    ·split at h
     ·omega
     ·split at h
      ·omega
      ·simp only [Bool.and_eq_true, decide_eq_true_eq] at h
       omega
set_option maxRecDepth 20000 in
set_option maxHeartbeats 8000000 in
theorem tedge_pure (e : Eg) (he : OkLn e.ln) : PL.Pure Tryz.prog 60 [eg e] (.bool (edgeB e)) := by
 have hT := Tag_pure e.id
 have hU := Tag_pure e.par
 have hR := LRight_pure e.ln he
 unfold edgeB
 cases ht : tagB e.id
 ·rw [ht] at hT
  refine PL.Pure.of_v Tryz.func60 (by decide) rfl Tryz.ntmps60 Tryz.results60 (by simp) rfl ?_
  simp only [go_sem, eg]
  refine vCall_of (hT) ?_ ?_ ?_; iterate 2 simp only [go_sem, tg]
  simp only [go_sem, Bool.false_and]
 rw [ht] at hT
 generalize hdp : decide (e.par = default) = dp at *
 generalize hde : decide (e.par = e.id) = de at *
 generalize tagB e.par = tp at *
 generalize rightLn e.ln = rl at *
 have hdp' : (e.par.r == 0 && e.par.n == 0) = dp := by rw [← hdp]; exact tg_fold e.par default
 refine PL.Pure.of_v Tryz.func60 (by decide) rfl Tryz.ntmps60 Tryz.results60 (by simp) rfl ?_
 simp only [go_sem, eg]
 refine vCall_of (hT) ?_ ?_ ?_; iterate 2 simp only [go_sem, tg]
 simp only [go_sem]
 cases dp <;> cases tp <;> cases de
 all_goals
  refine vDrawQ (by kernel_rfl) (by kernel_rfl) ?_
  simp only [go_sem]
  refine vCall_of (TRoot_pure) ?_ ?_ ?_; iterate 2 simp only [go_sem, tg]
  simp only [go_sem, tg, tg_fold, hdp, hde, hdp']
  (try refine vCall_of (hU) ?_ ?_ ?_; iterate 2 simp only [go_sem, tg])
  (try simp only [go_sem, tg_fold, hde])
  (try repeat' (first | (refine vGuard_t (fun h => ?_) (fun h => ?_) <;> (try simp only [go_sem, h])) | (refine vGuard_f (fun h => ?_) (fun h => ?_) <;> (try simp only [go_sem, h])) | (refine vCond_b (fun h => ?_) (fun h => ?_) <;> (try simp only [go_sem, h])) | ((refine vCall_of (hR) ?_ ?_ ?_); (focus simp only [go_sem, lns]); (focus exact rfl); (try simp only [go_sem])) | ((refine vDrawQ (by kernel_rfl) (by kernel_rfl) ?_); (try simp only [go_sem]))))
  (try (all_goals simp_all))
end Go.Proofs.YthingdchjkhfbaaGreat
