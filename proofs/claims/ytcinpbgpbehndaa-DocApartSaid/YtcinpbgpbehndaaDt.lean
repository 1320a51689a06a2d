/- Contracts of functions and laws of this seat, each for every input that it names: lemmas of the proof. -/
import Derived.Test.YtcinpbgpbehndaaDs
set_option linter.unusedSimpArgs false
set_option linter.unusedVariables false
set_option linter.unusedSimpArgs false
set_option linter.unusedVariables false
namespace Go.Proofs.Ytcinpbgpbehndaa
open Go.PL
open Go.RowKit
/-! numbers -/
def valD (l : Str) : Nat := l.foldl (fun a c => a * 10 + (c.toNat - 48)) 0
theorem valD_snoc (l : Str) (c : UInt8) : valD (l ++ [c]) = valD l * 10 + (c.toNat - 48) := by simp [valD]
theorem dig_nat {x : Nat} (h : x < 10) : (UInt8.ofNat (48 + x)).toNat = 48 + x := by rw [UInt8.toNat_ofNat', Nat.mod_eq_of_lt (by omega)]
theorem valD_dg (n : Nat) : valD (dg n) = n := by
  induction n using Nat.strongRecOn with
  | _ n ih =>
    unfold dg
    split
    · rename_i h
      simp only [valD, List.foldl_cons, List.foldl_nil, dig_nat h]; omega
    · rw [valD_snoc, ih (n / 10) (by omega), dig_nat (Nat.mod_lt _ (by omega))]; omega
theorem dg_inj {n m : Nat} (h : dg n = dg m) : n = m := by rw [← valD_dg n, h, valD_dg]
theorem dg_head (n : Nat) : ∃ c t, dg n = c :: t ∧ 48 ≤ c.toNat ∧ c.toNat ≤ 57 := by
  induction n using Nat.strongRecOn with
  | _ n ih =>
    unfold dg
    split
    · rename_i h
      exact ⟨_, [], rfl, by rw [dig_nat h]; omega, by rw [dig_nat h]; omega⟩
    · obtain ⟨c, t, e, h1, h2⟩ := ih (n / 10) (by omega)
      exact ⟨c, t ++ [_], by rw [e]; rfl, h1, h2⟩
theorem printZ_inj {n m : Int} (h : printZ n = printZ m) : n = m := by
  unfold printZ at h
  split at h <;> split at h
  · have := dg_inj (List.cons.inj h).2; omega
  · obtain ⟨c, t, e, h1, h2⟩ := dg_head m.natAbs
    rw [e] at h
    have := (List.cons.inj h).1
    subst this
    exact absurd h1 (by decide)
  · obtain ⟨c, t, e, h1, h2⟩ := dg_head n.natAbs
    rw [e] at h
    have := (List.cons.inj h).1
    subst this
    exact absurd h1 (by decide)
  · have := dg_inj h; omega
theorem printZ_head (n : Int) : ∃ c t, printZ n = c :: t ∧ c ≠ 34 := by
  obtain ⟨c, t, e, h1, h2⟩ := dg_head n.natAbs
  unfold printZ
  split
  · exact ⟨45, _, rfl, by decide⟩
  · refine ⟨c, t, e, ?_⟩
    rintro rfl
    exact absurd h1 (by decide)
/-! quotes -/
theorem digs_ne : ∀ i, i < 16 → digs.getD i 0 ≠ 34 := by decide
theorem digs_inj : ∀ i, i < 16 → ∀ j, j < 16 → digs.getD i 0 = digs.getD j 0 → i = j := by decide
theorem esc_no34 (c : UInt8) : ∀ x ∈ esc c, x ≠ 34 := by
  unfold esc
  split
  · rename_i h
    intro x hx
    simp only [List.mem_singleton] at hx
    subst hx
    rintro rfl
    exact absurd h (by decide)
  · intro x hx
    simp only [List.mem_cons, List.not_mem_nil, or_false] at hx
    rcases hx with rfl | rfl | rfl
    · decide
    · exact digs_ne _ (hi_lt c)
    · exact digs_ne _ (lo_lt c)
theorem escs_no34 (s : Str) : ∀ x ∈ escs s, x ≠ 34 := by
  intro x hx
  simp only [escs, List.mem_flatten, List.mem_map] at hx
  obtain ⟨l, ⟨c, _, rfl⟩, hx⟩ := hx
  exact esc_no34 c x hx
theorem plain_ne92 {c : UInt8} (h : plainB c.toNat = true) : c ≠ 92 := by
  rintro rfl
  exact absurd h (by decide)
theorem esc_inj {c d : UInt8} {s t : Str} (h : esc c ++ s = esc d ++ t) : c = d ∧ s = t := by
  unfold esc at h
  split at h <;> split at h
  · simpa using h
  · rename_i h1 h2
    exact absurd (List.cons.inj h).1 (plain_ne92 h1)
  · rename_i h1 h2
    exact absurd (List.cons.inj h).1.symm (plain_ne92 h2)
  · simp only [List.cons_append, List.nil_append, List.cons.injEq, true_and] at h
    obtain ⟨h1, h2, h3⟩ := h
    have a := digs_inj _ (hi_lt c) _ (hi_lt d) h1
    have b := digs_inj _ (lo_lt c) _ (lo_lt d) h2
    refine ⟨UInt8.toNat_inj.1 ?_, h3⟩
    unfold hiN at a
    unfold loN at b
    omega
theorem escs_inj : ∀ {s t : Str}, escs s = escs t → s = t
  | [], [], _ => rfl
  | [], d :: t, h => by
    simp only [escs, List.map_nil, List.flatten_nil, List.map_cons, List.flatten_cons] at h
    have := congrArg List.length h
    have e : 1 ≤ (esc d).length := by unfold esc; split <;> simp
    simp only [List.length_nil, List.length_append] at this
    omega
  | c :: s, [], h => by
    simp only [escs, List.map_nil, List.flatten_nil, List.map_cons, List.flatten_cons] at h
    have := congrArg List.length h
    have e : 1 ≤ (esc c).length := by unfold esc; split <;> simp
    simp only [List.length_nil, List.length_append] at this
    omega
  | c :: s, d :: t, h => by
    simp only [escs, List.map_cons, List.flatten_cons] at h
    obtain ⟨e, h2⟩ := esc_inj h
    rw [e, escs_inj (s := s) (t := t) h2]
/-- two texts without the byte, each with the byte and something behind it -/
theorem split_at {x : UInt8} : ∀ {a b s t : Str}, (∀ y ∈ a, y ≠ x) → (∀ y ∈ b, y ≠ x) → a ++ x :: s = b ++ x :: t → a = b ∧ s = t
  | [], [], s, t, _, _, h => ⟨rfl, (List.cons.inj h).2⟩
  | [], c :: b, s, t, _, hb, h => absurd (List.cons.inj h).1.symm (hb c (by simp))
  | c :: a, [], s, t, ha, _, h => absurd (List.cons.inj h).1 (ha c (by simp))
  | c :: a, d :: b, s, t, ha, hb, h => by
    obtain ⟨h1, h2⟩ := List.cons.inj h
    obtain ⟨h3, h4⟩ := split_at (fun y hy => ha y (by simp [hy])) (fun y hy => hb y (by simp [hy])) h2
    exact ⟨by rw [h1, h3], h4⟩
def quo (s : Str) : Str := 34 :: (escs s ++ [34])
theorem quo_split {s t u v : Str} (h : quo s ++ u = quo t ++ v) : s = t ∧ u = v := by
  simp only [quo, List.cons_append, List.append_assoc, List.singleton_append, List.cons.injEq, true_and] at h
  obtain ⟨h1, h2⟩ := split_at (escs_no34 s) (escs_no34 t) h
  exact ⟨escs_inj h1, h2⟩
theorem join_cons2 (a b : Str) (m : List Str) : Lib.join (a :: b :: m) [44] = a ++ ([44] ++ Lib.join (b :: m) [44]) := by
  show ([44] : Str).intercalate (a :: b :: m) = a ++ ([44] ++ ([44] : Str).intercalate (b :: m))
  cases m <;> simp [List.intercalate, List.intersperse]
theorem join_one (a : Str) : Lib.join [a] [44] = a := by simp [Lib.join, List.intercalate]
theorem join_inj : ∀ (l m : List Str), l ≠ [] → m ≠ [] → Lib.join (l.map quo) [44] = Lib.join (m.map quo) [44] → l = m
  | [], _, h, _, _ => absurd rfl h
  | _, [], _, h, _ => absurd rfl h
  | [a], [b], _, _, h => by
    simp only [List.map_cons, List.map_nil, join_one] at h
    have := quo_split (s := a) (t := b) (u := []) (v := []) (by simpa using h)
    rw [this.1]
  | [a], b :: b' :: m, _, _, h => by
    simp only [List.map_cons, List.map_nil, join_one, join_cons2] at h
    have := quo_split (s := a) (t := b) (u := []) (by simpa using h)
    exact absurd this.2 (by simp)
  | a :: a' :: l, [b], _, _, h => by
    simp only [List.map_cons, List.map_nil, join_one, join_cons2] at h
    have := quo_split (s := a) (t := b) (v := []) (by simpa using h)
    exact absurd this.2 (by simp)
  | a :: a' :: l, b :: b' :: m, _, _, h => by
    simp only [List.map_cons, join_cons2] at h
    obtain ⟨h1, h2⟩ := quo_split h
    have h3 := join_inj (a' :: l) (b' :: m) (by simp) (by simp) (by simpa using h2)
    rw [h1, h3]
/-! entries -/
theorem quoteS_short {s : Str} (h : (s.length : Int) ≤ 40) : quoteS s = quo s := by simp [quoteS, h, quo]
theorem cases_name {l : List Str} (h : casesB l = true) {s : Str} (hs : s ∈ l) : s.length ≤ 12 := by
  simp only [casesB, List.all_eq_true, List.mem_range] at h
  obtain ⟨i, hi, rfl⟩ := List.getElem_of_mem hs
  have := h i hi
  simp only [caseOk, Bool.and_eq_true] at this
  have e : l.getD i [] = l[i] := by rw [List.getD_eq_getElem?_getD, List.getElem?_eq_getElem hi]; rfl
  rw [e] at this
  exact (name_len this.1).2
theorem fitsF_short {f : Fd} {s : Str} (h : fitsF f s = true) : (s.length : Int) ≤ 40 := by
  simp only [fitsF, Bool.and_eq_true, Bool.not_eq_true', decide_eq_false_iff_not] at h
  obtain ⟨⟨h1, h2⟩, h3⟩ := h
  split at h3
  · rename_i hk
    simp only [rightF, Bool.and_eq_true] at h1
    rw [if_neg h2, if_pos hk, Bool.and_eq_true] at h1
    have h4 := h1.2.2
    simp only [tail3, Bool.and_eq_true] at h4
    simp only [List.any_eq_true, beq_iff_eq] at h3
    obtain ⟨x, hx, rfl⟩ := h3
    have := cases_name h4.1 hx
    omega
  · simp only [decide_eq_true_eq] at h3; omega
theorem line_inj {f : Fd} {a b : En} (ha : fitsE f a = true) (hb : fitsE f b = true) (h : lineM a = lineM b) : a = b := by
  obtain ⟨ra, na, la⟩ := a
  obtain ⟨rb, nb, lb⟩ := b
  simp only [fitsE, Bool.and_eq_true, decide_eq_true_eq] at ha hb
  obtain ⟨⟨_, a1⟩, a2⟩ := ha
  obtain ⟨⟨_, b1⟩, b2⟩ := hb
  subst a1
  subst b1
  simp only [lineM, List.append_assoc, List.append_cancel_left_eq] at h
  split at a2
  · rename_i hk
    rw [if_pos hk] at b2
    simp only [fitsN, Bool.and_eq_true, beq_iff_eq] at a2 b2
    have l1 : la = [] := List.length_eq_zero_iff.1 (by omega)
    have l2 : lb = [] := List.length_eq_zero_iff.1 (by omega)
    subst l1 l2
    simp only [if_true] at h
    rw [printZ_inj h]
  · rename_i hk
    rw [if_neg hk] at b2
    simp only [Bool.and_eq_true, fitsT, decide_eq_true_eq, List.all_eq_true] at a2 b2
    obtain ⟨_, a3, rfl⟩ := a2
    obtain ⟨_, b3, rfl⟩ := b2
    have ea : la.map quoteS = la.map quo := List.map_congr_left fun s hs => quoteS_short (fitsF_short (a3 s hs))
    have eb : lb.map quoteS = lb.map quo := List.map_congr_left fun s hs => quoteS_short (fitsF_short (b3 s hs))
    rw [ea, eb] at h
    have jh : ∀ m : List Str, m ≠ [] → ∃ t, Lib.join (m.map quo) [44] = 34 :: t := fun m hm => by
      match m, hm with
      | [a], _ => exact ⟨_, by rw [List.map_cons, List.map_nil, join_one]; rfl⟩
      | a :: b :: m, _ => exact ⟨_, by rw [List.map_cons, List.map_cons, join_cons2]; rfl⟩
    obtain ⟨c, t, e, hc⟩ := printZ_head 0
    by_cases h1 : la = [] <;> by_cases h2 : lb = []
    · rw [h1, h2]
    · rw [if_pos h1, if_neg h2, e] at h
      obtain ⟨u, hu⟩ := jh lb h2
      rw [hu] at h
      exact absurd (List.cons.inj h).1 hc
    · rw [if_neg h1, if_pos h2, e] at h
      obtain ⟨u, hu⟩ := jh la h1
      rw [hu] at h
      exact absurd (List.cons.inj h).1.symm hc
    · rw [if_neg h1, if_neg h2] at h
      rw [join_inj la lb h1 h2 h]
theorem ents_inj {l : List Fd} {a b : List En} {g : En → Str} (hg : ∀ x y, g x = g y → lineM x = lineM y) (ha : entriesB l a = true) (hb : entriesB l b = true) (h : a.map g = b.map g) : a = b := by
  simp only [entriesB, Bool.and_eq_true, decide_eq_true_eq, List.all_eq_true, List.mem_range] at ha hb
  refine List.ext_getElem (by omega) fun i h1 h2 => ?_
  have fa := ha.2 i (by omega)
  have fb := hb.2 i (by omega)
  have e1 : a.getD i default = a[i] := by rw [List.getD_eq_getElem?_getD, List.getElem?_eq_getElem h1]; rfl
  have e2 : b.getD i default = b[i] := by rw [List.getD_eq_getElem?_getD, List.getElem?_eq_getElem h2]; rfl
  rw [e1] at fa
  rw [e2] at fb
  refine line_inj fa fb (hg _ _ ?_)
  have h3 := congrArg (fun l => l[i]?) h
  simpa [List.getElem?_eq_getElem h1, List.getElem?_eq_getElem h2] using h3
theorem row_inj {l : List Fd} {a b : Rw} (ha : entriesB l a.l = true) (hb : entriesB l b.l = true) (h : rowLines a = rowLines b) : a = b := by
  obtain ⟨ia, la⟩ := a
  obtain ⟨ib, lb⟩ := b
  simp only [rowLines, List.cons.injEq] at h
  obtain ⟨rfl, h⟩ := h
  have e : la = lb := ents_inj (g := entLine ia) (fun x y hxy => by
    simpa only [entLine, List.append_assoc, List.append_cancel_left_eq] using hxy) ha hb h
  rw [e]
theorem rows_inj {l : List Fd} : ∀ {a b : List Rw}, (∀ r ∈ a, entriesB l r.l = true) → (∀ r ∈ b, entriesB l r.l = true) → (a.map rowLines).flatten = (b.map rowLines).flatten → a = b
  | [], [], _, _, _ => rfl
  | [], r :: b, _, _, h => by simp [rowLines] at h
  | r :: a, [], _, _, h => by simp [rowLines] at h
  | r :: a, s :: b, ha, hb, h => by
    have ra := ha r (by simp)
    have sb := hb s (by simp)
    simp only [List.map_cons, List.flatten_cons] at h
    have hl : (rowLines r).length = (rowLines s).length := by
      have h1 := ra
      have h2 := sb
      simp only [entriesB, Bool.and_eq_true, decide_eq_true_eq] at h1 h2
      simp only [rowLines, List.length_cons, List.length_map]
      omega
    obtain ⟨h1, h2⟩ := List.append_inj h hl
    rw [row_inj ra sb h1, rows_inj (fun r hr => ha r (by simp [hr])) (fun r hr => hb r (by simp [hr])) h2]
theorem rightD_rows {l : List Fd} {d : Dc} (h : rightD l d = true) : ∀ r ∈ d.rows, entriesB (scopeM l 1) r.l = true := by
  intro r hr
  simp only [rightD, Bool.and_eq_true, List.all_eq_true, List.mem_range] at h
  obtain ⟨i, hi, rfl⟩ := List.getElem_of_mem hr
  have h1 := h.2 i hi
  have e1 : d.rows.getD i default = d.rows[i] := by rw [List.getD_eq_getElem?_getD, List.getElem?_eq_getElem hi]; rfl
  rw [rowOk, e1, Bool.and_eq_true] at h1
  exact h1.2
theorem rightD_head {l : List Fd} {d : Dc} (h : rightD l d = true) : entriesB (scopeM l 0) d.head = true := by
  simp only [rightD, headOk, Bool.and_eq_true] at h
  exact h.1.2.2
theorem apart {l : List Fd} {a b : Dc} (ha : rightD l a = true) (hb : rightD l b = true) (h : linesM a = linesM b) : a = b := by
  have h1 := rightD_head ha
  have h2 := rightD_head hb
  have hl : (a.head.map lineM).length = (b.head.map lineM).length := by
    have g1 := h1
    have g2 := h2
    simp only [entriesB, Bool.and_eq_true, decide_eq_true_eq] at g1 g2
    simp only [List.length_map]; omega
  obtain ⟨h3, h4⟩ := List.append_inj h hl
  have e1 := ents_inj (g := lineM) (fun _ _ h => h) h1 h2 h3
  have e2 := rows_inj (rightD_rows ha) (rightD_rows hb) h4
  obtain ⟨x, y⟩ := a
  obtain ⟨z, t⟩ := b
  simp only at e1 e2
  rw [e1, e2]
end Go.Proofs.Ytcinpbgpbehndaa
