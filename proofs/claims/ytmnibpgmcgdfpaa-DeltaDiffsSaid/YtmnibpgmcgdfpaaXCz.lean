/- Contracts of functions and laws of this seat, each for every input that it names: lemmas of the proof. -/
import Derived.Test.YtmnibpgmcgdfpaaXCh
import Derived.Test.YtmnibpgmcgdfpaaXAr
import Derived.Test.YtmnibpgmcgdfpaaXBu
set_option linter.unusedSimpArgs false
set_option linter.unusedVariables false
set_option linter.unusedSimpArgs false
set_option linter.unusedVariables false
namespace Go.Proofs.Ytmnibpgmcgdfpaa
open Go.PL
/-! texts that rise, each once -/
def aheadS (s x : Str) : Bool := bytesLt x s
def posS (l : List Str) (s : Str) : Nat := (l.takeWhile (aheadS s)).length
def putS (l : List Str) (s : Str) : List Str := if posS l s < l.length ∧ (l.getD (posS l s) [] == s) = true then l else l.take (posS l s) ++ [s] ++ l.drop (posS l s)
theorem posS_le (l : List Str) (s : Str) : posS l s ≤ l.length := (List.takeWhile_prefix (aheadS s)).length_le
theorem posS_lt : ∀ (l : List Str) (s : Str) (k : Nat), k < posS l s → bytesLt (l.getD k []) s = true
  | [], s, k, h => by simp [posS] at h
  | x :: l, s, k, h => by
    unfold posS at h
    rw [List.takeWhile_cons] at h
    by_cases hx : aheadS s x = true
    · rw [if_pos hx] at h
      cases k with
      | zero => exact hx
      | succ k => exact posS_lt l s k (by simpa [posS] using h)
    · rw [if_neg hx] at h; simp at h
theorem posS_stop : ∀ (l : List Str) (s : Str), posS l s < l.length → bytesLt (l.getD (posS l s) []) s = false
  | [], s, h => by simp at h
  | x :: l, s, h => by
    by_cases hx : aheadS s x = true
    · have hp : posS (x :: l) s = posS l s + 1 := by unfold posS; rw [List.takeWhile_cons, if_pos hx]; rfl
      rw [hp] at h ⊢
      exact posS_stop l s (by simpa using h)
    · have hp : posS (x :: l) s = 0 := by unfold posS; rw [List.takeWhile_cons, if_neg hx]; rfl
      rw [hp]
      have : aheadS s x = false := by simpa using hx
      exact this
def RiseS (l : List Str) : Prop := l.Pairwise fun x y => bytesLt x y = true
theorem getD_drop0 {l : List Str} {k : Nat} (h : k < l.length) : l.drop k = l.getD k [] :: l.drop (k + 1) := by
  rw [List.drop_eq_getElem_cons h, getD_lt h]
theorem putS_mem (l : List Str) (s x : Str) : x ∈ putS l s ↔ x ∈ l ∨ x = s := by
  unfold putS
  by_cases h : posS l s < l.length ∧ (l.getD (posS l s) [] == s) = true
  · rw [if_pos h]
    refine ⟨.inl, fun h' => h'.elim id fun e => ?_⟩
    have e2 : l.getD (posS l s) [] = s := by simpa using h.2
    rw [e, ← e2, getD_lt h.1]; exact List.getElem_mem h.1
  · rw [if_neg h]
    simp only [List.mem_append, List.mem_singleton]
    constructor
    · rintro ((h1 | h1) | h1)
      · exact .inl (List.mem_of_mem_take h1)
      · exact .inr h1
      · exact .inl (List.mem_of_mem_drop h1)
    · rintro (h1 | h1)
      · rw [← List.take_append_drop (posS l s) l, List.mem_append] at h1
        exact h1.imp .inl id
      · exact .inl (.inr h1)
theorem putS_rise {l : List Str} (hl : RiseS l) (s : Str) : RiseS (putS l s) := by
  unfold putS
  by_cases h : posS l s < l.length ∧ (l.getD (posS l s) [] == s) = true
  · rw [if_pos h]; exact hl
  · rw [if_neg h]
    have hsp := List.take_append_drop (posS l s) l
    have ht : ∀ x ∈ l.take (posS l s), bytesLt x s = true := fun x hx => by
      obtain ⟨i, hi, rfl⟩ := List.getElem_of_mem hx
      have hi' : i < posS l s := by have := hi; rw [List.length_take] at this; omega
      have := posS_lt l s i hi'
      rw [getD_lt (by have := posS_le l s; omega)] at this
      rw [List.getElem_take]; exact this
    have hd : ∀ x ∈ l.drop (posS l s), bytesLt s x = true := fun x hx => by
      have hlt : posS l s < l.length := by
        rcases Nat.lt_or_ge (posS l s) l.length with h1 | h1
        · exact h1
        · rw [List.drop_eq_nil_of_le h1] at hx; cases hx
      have h0 : bytesLt s (l.getD (posS l s) []) = true := by
        rcases bl_total (l.getD (posS l s) []) s with k | k | k
        · rw [posS_stop l s hlt] at k; cases k
        · exact absurd ⟨hlt, by simpa using k⟩ h
        · exact k
      have hp : RiseS (l.drop (posS l s)) := List.Pairwise.sublist (List.drop_sublist _ _) hl
      rw [getD_drop0 hlt] at hx hp
      rcases List.mem_cons.1 hx with rfl | hx
      · exact h0
      · exact bl_trans h0 ((List.pairwise_cons.1 hp).1 x hx)
    unfold RiseS at hl ⊢
    rw [← hsp, List.pairwise_append] at hl
    rw [List.append_assoc, List.pairwise_append]
    refine ⟨hl.1, ?_, fun x hx y hy => ?_⟩
    · rw [List.singleton_append, List.pairwise_cons]
      exact ⟨hd, hl.2.1⟩
    · rcases List.mem_append.1 hy with h1 | h1
      · rw [List.mem_singleton.1 h1]; exact ht x hx
      · exact hl.2.2 x hx y h1
theorem rise_eq : ∀ {a b : List Str}, RiseS a → RiseS b → (∀ x, x ∈ a ↔ x ∈ b) → a = b
  | [], [], _, _, _ => rfl
  | [], y :: b, _, _, h => by have := (h y).2 (by simp); cases this
  | x :: a, [], _, _, h => by have := (h x).1 (by simp); cases this
  | x :: a, y :: b, ha, hb, h => by
    have pa := List.pairwise_cons.1 ha
    have pb := List.pairwise_cons.1 hb
    have hxy : x = y := by
      rcases List.mem_cons.1 ((h x).1 (by simp)) with e | e
      · exact e
      · rcases List.mem_cons.1 ((h y).2 (by simp)) with e' | e'
        · exact e'.symm
        · have h1 := pb.1 x e
          have h2 := pa.1 y e'
          have := bl_trans h1 h2
          rw [bl_irrefl] at this; cases this
    subst hxy
    congr 1
    refine rise_eq pa.2 pb.2 fun z => ?_
    have := h z
    simp only [List.mem_cons] at this
    constructor
    · intro hz
      rcases this.1 (.inr hz) with rfl | h'
      · have := pa.1 z hz; rw [bl_irrefl] at this; cases this
      · exact h'
    · intro hz
      rcases this.2 (.inr hz) with rfl | h'
      · have := pb.1 z hz; rw [bl_irrefl] at this; cases this
      · exact h'
/-! the items of both -/
def itemsD (P Q : List Rw) : List Str := (Q.map Rw.item).foldl putS ((P.map Rw.item).foldl putS [])
theorem foldS_rise (xs : List Str) : ∀ (l : List Str), RiseS l → RiseS (xs.foldl putS l) := by
  induction xs with
  | nil => exact fun l h => h
  | cons x xs ih => exact fun l h => ih _ (putS_rise h x)
theorem foldS_mem (xs : List Str) : ∀ (l : List Str) (y : Str), y ∈ xs.foldl putS l ↔ y ∈ l ∨ y ∈ xs := by
  induction xs with
  | nil => intro l y; simp
  | cons x xs ih =>
    intro l y
    rw [List.foldl_cons, ih, putS_mem, List.mem_cons, or_assoc]
theorem itemsD_rise (P Q : List Rw) : RiseS (itemsD P Q) := foldS_rise _ _ (foldS_rise _ _ List.Pairwise.nil)
theorem itemsD_mem (P Q : List Rw) (y : Str) : y ∈ itemsD P Q ↔ y ∈ P.map Rw.item ∨ y ∈ Q.map Rw.item := by
  unfold itemsD
  rw [foldS_mem, foldS_mem]
  simp
/-- what is told at an item -/
def stepD (P Q : List Rw) (it : Str) : List Cg :=
  match Q.find? (fun r => r.item == it) with
  | none => [wentC ⟨it, ((P.find? fun r => r.item == it).getD default).l⟩]
  | some q => match P.find? (fun r => r.item == it) with
    | none => [cameC ⟨it, q.l⟩]
    | some p => othersL it p.l q.l
def RiseR (l : List Rw) : Prop := l.Pairwise fun x y => bytesLt x.item y.item = true
theorem find_none_of {l : List Rw} {s : Str} (h : ∀ r ∈ l, bytesLt s r.item = true) : l.find? (fun r => r.item == s) = none := by
  rw [List.find?_eq_none]
  intro r hr e
  have e : r.item = s := by simpa using e
  have := h r hr
  rw [e, bl_irrefl] at this; cases this
theorem find_cons_ne {p : Rw} {ps : List Rw} {s : Str} (h : bytesLt p.item s = true) : (p :: ps).find? (fun r => r.item == s) = ps.find? (fun r => r.item == s) := by
  rw [List.find?_cons_of_neg]
  intro e
  have e : p.item = s := by simpa using e
  rw [e, bl_irrefl] at h; cases h
theorem items_cons {x : Str} {a b : List Str} (h1 : RiseS a) (h2 : RiseS b) (hx : ∀ y ∈ b, bytesLt x y = true) (hm : ∀ y, y ∈ a ↔ y = x ∨ y ∈ b) : a = x :: b :=
  rise_eq h1 (List.pairwise_cons.2 ⟨hx, h2⟩) fun y => by rw [hm, List.mem_cons]
theorem flatMapC {α β : Type} {l : List α} {f g : α → List β} (h : ∀ x ∈ l, f x = g x) : l.flatMap f = l.flatMap g := by
  induction l with
  | nil => rfl
  | cons x l ih => rw [List.flatMap_cons, List.flatMap_cons, h x (by simp), ih fun y hy => h y (by simp [hy])]
theorem diffR_items : ∀ (n : Nat) (P Q : List Rw), P.length + Q.length ≤ n → RiseR P → RiseR Q → diffR P Q = (itemsD P Q).flatMap (stepD P Q)
  | _, [], [], _, _, _ => by rw [diffR]; rfl
  | 0, p :: ps, Q, h, _, _ => by simp at h
  | 0, [], q :: qs, h, _, _ => by simp at h
  | n + 1, p :: ps, [], h, hP, hQ => by
    have pp := List.pairwise_cons.1 hP
    have hlt : ∀ y ∈ itemsD ps [], bytesLt p.item y = true := fun y hy => by
      rw [itemsD_mem] at hy
      rcases hy with hy | hy
      · obtain ⟨r, hr, rfl⟩ := List.mem_map.1 hy; exact pp.1 r hr
      · simp at hy
    have e := items_cons (itemsD_rise (p :: ps) []) (itemsD_rise ps []) hlt fun y => by simp [itemsD_mem]
    rw [diffR, e, List.flatMap_cons, diffR_items n ps [] (by simp at h ⊢; omega) pp.2 hQ]
    have e1 : stepD (p :: ps) [] p.item = [wentC p] := by simp [stepD, wentC]
    rw [e1]
    congr 1
    refine flatMapC fun y hy => ?_
    unfold stepD
    rw [find_cons_ne (hlt y hy)]
  | n + 1, [], q :: qs, h, hP, hQ => by
    have pq := List.pairwise_cons.1 hQ
    have hlt : ∀ y ∈ itemsD [] qs, bytesLt q.item y = true := fun y hy => by
      rw [itemsD_mem] at hy
      rcases hy with hy | hy
      · simp at hy
      · obtain ⟨r, hr, rfl⟩ := List.mem_map.1 hy; exact pq.1 r hr
    have e := items_cons (itemsD_rise [] (q :: qs)) (itemsD_rise [] qs) hlt fun y => by simp [itemsD_mem]
    rw [diffR, e, List.flatMap_cons, diffR_items n [] qs (by simp at h ⊢; omega) hP pq.2]
    have e1 : stepD [] (q :: qs) q.item = [cameC q] := by simp [stepD, cameC]
    rw [e1]
    congr 1
    refine flatMapC fun y hy => ?_
    unfold stepD
    rw [find_cons_ne (hlt y hy)]
  | n + 1, p :: ps, q :: qs, h, hP, hQ => by
    have pp := List.pairwise_cons.1 hP
    have pq := List.pairwise_cons.1 hQ
    by_cases h1 : bytesLt p.item q.item = true
    · have hlt : ∀ y ∈ itemsD ps (q :: qs), bytesLt p.item y = true := fun y hy => by
        rw [itemsD_mem] at hy
        rcases hy with hy | hy
        · obtain ⟨r, hr, rfl⟩ := List.mem_map.1 hy; exact pp.1 r hr
        · obtain ⟨r, hr, rfl⟩ := List.mem_map.1 hy
          rcases List.mem_cons.1 hr with rfl | hr
          · exact h1
          · exact bl_trans h1 (pq.1 r hr)
      have e := items_cons (itemsD_rise (p :: ps) (q :: qs)) (itemsD_rise ps (q :: qs)) hlt fun y => by simp [itemsD_mem, or_assoc]
      rw [diffR, if_pos h1, e, List.flatMap_cons, diffR_items n ps (q :: qs) (by simp at h ⊢; omega) pp.2 hQ]
      have hn : (q :: qs).find? (fun r => r.item == p.item) = none := find_none_of fun r hr => by
        rcases List.mem_cons.1 hr with rfl | hr
        · exact h1
        · exact bl_trans h1 (pq.1 r hr)
      have e1 : stepD (p :: ps) (q :: qs) p.item = [wentC p] := by unfold stepD; rw [hn]; simp [wentC]
      rw [e1]
      congr 1
      refine flatMapC fun y hy => ?_
      unfold stepD
      rw [find_cons_ne (hlt y hy)]
    · by_cases h2 : bytesLt q.item p.item = true
      · have hlt : ∀ y ∈ itemsD (p :: ps) qs, bytesLt q.item y = true := fun y hy => by
          rw [itemsD_mem] at hy
          rcases hy with hy | hy
          · obtain ⟨r, hr, rfl⟩ := List.mem_map.1 hy
            rcases List.mem_cons.1 hr with rfl | hr
            · exact h2
            · exact bl_trans h2 (pp.1 r hr)
          · obtain ⟨r, hr, rfl⟩ := List.mem_map.1 hy; exact pq.1 r hr
        have e := items_cons (itemsD_rise (p :: ps) (q :: qs)) (itemsD_rise (p :: ps) qs) hlt fun y => by
          simp only [itemsD_mem, List.map_cons, List.mem_cons]
          constructor
          · rintro ((a | a) | (a | a))
            · exact .inr (.inl (.inl a))
            · exact .inr (.inl (.inr a))
            · exact .inl a
            · exact .inr (.inr a)
          · rintro (a | (a | a) | a)
            · exact .inr (.inl a)
            · exact .inl (.inl a)
            · exact .inl (.inr a)
            · exact .inr (.inr a)
        rw [diffR, if_neg h1, if_pos h2, e, List.flatMap_cons, diffR_items n (p :: ps) qs (by simp at h ⊢; omega) hP pq.2]
        have hn : (p :: ps).find? (fun r => r.item == q.item) = none := find_none_of fun r hr => by
          rcases List.mem_cons.1 hr with rfl | hr
          · exact h2
          · exact bl_trans h2 (pp.1 r hr)
        have e1 : stepD (p :: ps) (q :: qs) q.item = [cameC q] := by unfold stepD; rw [hn]; simp [cameC]
        rw [e1]
        congr 1
        refine flatMapC fun y hy => ?_
        unfold stepD
        rw [find_cons_ne (hlt y hy)]
      · have heq : p.item = q.item := by
          rcases bl_total p.item q.item with k | k | k
          · exact absurd k h1
          · exact k
          · exact absurd k h2
        have hlt : ∀ y ∈ itemsD ps qs, bytesLt q.item y = true := fun y hy => by
          rw [itemsD_mem] at hy
          rcases hy with hy | hy
          · obtain ⟨r, hr, rfl⟩ := List.mem_map.1 hy; rw [← heq]; exact pp.1 r hr
          · obtain ⟨r, hr, rfl⟩ := List.mem_map.1 hy; exact pq.1 r hr
        have e := items_cons (itemsD_rise (p :: ps) (q :: qs)) (itemsD_rise ps qs) hlt fun y => by
          simp only [itemsD_mem, List.map_cons, List.mem_cons, heq]
          constructor
          · rintro ((a | a) | (a | a))
            · exact .inl a
            · exact .inr (.inl a)
            · exact .inl a
            · exact .inr (.inr a)
          · rintro (a | a | a)
            · exact .inl (.inl a)
            · exact .inl (.inr a)
            · exact .inr (.inr a)
        rw [diffR, if_neg h1, if_neg h2, e, List.flatMap_cons, diffR_items n ps qs (by simp at h ⊢; omega) pp.2 pq.2]
        have e1 : stepD (p :: ps) (q :: qs) q.item = othersL q.item p.l q.l := by simp [stepD, heq]
        rw [e1]
        congr 1
        refine flatMapC fun y hy => ?_
        unfold stepD
        rw [find_cons_ne (hlt y hy), find_cons_ne (by rw [heq]; exact hlt y hy)]
theorem rise_of_right {l : List Fd} {d : Dc} (h : rightD l d = true) : RiseR d.rows := by
  simp only [rightD, Bool.and_eq_true, List.all_eq_true, List.mem_range] at h
  have hs : ∀ i, 0 < i → i < d.rows.length → bytesLt (d.rows.getD (i - 1) default).item (d.rows.getD i default).item = true := fun i h0 hi => by
    have := h.2 i hi
    simp only [rowOk, Bool.and_eq_true, Bool.or_eq_true, decide_eq_true_eq] at this
    rcases this.1.2 with e | e
    · omega
    · exact e
  unfold RiseR
  rw [List.pairwise_iff_getElem]
  intro i j hi hj hij
  rw [← getD_lt (d := default) hi, ← getD_lt (d := default) hj]
  induction j with
  | zero => omega
  | succ j ih =>
    have h1 := hs (j + 1) (by omega) hj
    simp only [Nat.add_sub_cancel] at h1
    by_cases e : i = j
    · subst e; exact h1
    · exact bl_trans (ih (by omega) (by omega)) h1
end Go.Proofs.Ytmnibpgmcgdfpaa

set_option linter.unusedSimpArgs false
set_option linter.unusedVariables false
set_option linter.unusedSimpArgs false
set_option linter.unusedVariables false
namespace Go.Proofs.Ytmnibpgmcgdfpaa
open Go.PL
theorem cut_takeS (l : List Str) (k : Nat) : cut (l.map PV.str) 0 (k : Int) = (l.take k).map PV.str := by simp [cut, List.map_take]
theorem cut_dropS (l : List Str) (k : Nat) : cut (l.map PV.str) (k : Int) (l.length : Int) = (l.drop k).map PV.str := by
  unfold cut
  rw [Int.toNat_natCast, Int.toNat_natCast, ← List.map_drop, ← List.map_take]
  congr 1
  rw [List.take_of_length_le (by rw [List.length_drop]; omega)]
set_option maxRecDepth 20000 in
set_option maxHeartbeats 8000000 in
theorem RPutS_pure (l : List Str) (s : Str) (hl : l.length ≤ 100000) : PL.Pure Try.prog 50 [strs l, .str s] (strs (putS l s)) := by
  have hp := posS_le l s
  have hpI : ((posS l s : Nat) : Int) ≤ (l.length : Int) := by omega
  have hlp : (l.take (posS l s)).length = posS l s := by rw [List.length_take]; omega
  have hld : (l.drop (posS l s)).length = l.length - posS l s := by rw [List.length_drop]
  have hrm1 := room1 (show posS l s ≤ 1000000 by omega) (show 16 ≤ 1000 by omega)
  have hrm2 := room1 (show posS l s + 1 ≤ 1000000 by omega) (show 16 ≤ 1000 by omega)
  have hrm3 := room1 (show posS l s + 1 + (l.length - posS l s) ≤ 1000000 by omega) (show 16 ≤ 1000 by omega)
  have hs1 : ∀ (a : List Str), Sized 1 (a.map PV.str ++ [PV.str s]) := fun a => by have := sized_str (a ++ [s]); rwa [List.map_append] at this
  have p0 : (0 : Int) ≤ ((posS l s : Nat) : Int) := by omega
  have hX : (l.take (posS l s) ++ [s] ++ l.drop (posS l s)).map PV.str = (l.take (posS l s)).map PV.str ++ [.str s] ++ (l.drop (posS l s)).map PV.str := by
    simp only [List.map_append, List.map_cons, List.map_nil]
  refine PL.Pure.of_v Try.func50 (by decide) rfl Try.ntmps50 Try.results50 (by simp) (strs_dids _) ?_
  simp only [go_sem, strs]
  refine vLoopM (ι := { j : Nat // j ≤ posS l s }) 48 (fun x => [(0, strs l), (1, .str s), (5, .int .i64 (x.1 : Int))]) (fun x => []) (fun x => []) (fun x => posS l s - x.1) ⟨0, Nat.zero_le _⟩ ⟨rfl, (forall_cons rfl (forall_cons rfl (forall_cons rfl (forall_nil)))), forall_nil, forall_nil⟩ (fun x => ⟨(forall_cons rfl (forall_cons rfl (forall_cons rfl (forall_nil)))), forall_nil⟩) (fun x => ?_)
  obtain ⟨j, hj⟩ := x
  simp only
  by_cases hjl : (j : Int) < (l.length : Int)
  · have hja : j < l.length := by omega
    have j0 : (0 : Int) ≤ (j : Int) := by omega
    by_cases hjp : j < posS l s
    · have ht := posS_lt l s j hjp
      have w2 : IntKind.i64.wrap ((j : Int) + 1) = ((j + 1 : Nat) : Int) := by rw [w64 (by omega)]; rfl
      simp only [go_sem, strs, hjl, List.length_map, getD_str hja, j0, ht, w2]
      exact ⟨⟨j + 1, by omega⟩, by show posS l s - (j + 1) < posS l s - j; omega, ⟨rfl, (forall_cons rfl (forall_cons rfl (forall_cons rfl (forall_nil)))), forall_nil, forall_nil⟩⟩
    · obtain rfl : j = posS l s := by omega
      have ht := posS_stop l s hja
      cases he : (l.getD (posS l s) [] == s)
      · have hz : putS l s = l.take (posS l s) ++ [s] ++ l.drop (posS l s) := by unfold putS; rw [if_neg (by rw [he]; simp)]
        rw [hz]
        simp only [go_sem, strs, hjl, List.length_map, getD_str hja, j0, ht, he, p0, hpI, cut_takeS, cut_dropS, sized_str, hs1, atoms_str, hrm1, hrm2, hrm3, hlp, hld, List.length_append, List.length_cons, List.length_nil, hX]
        exact Int.le_refl _
      · have hz : putS l s = l := by unfold putS; rw [if_pos ⟨hja, he⟩]
        rw [hz]
        simp only [go_sem, strs, hjl, List.length_map, getD_str hja, j0, ht, he]
  · obtain rfl : j = posS l s := by omega
    have hz : putS l s = l.take (posS l s) ++ [s] ++ l.drop (posS l s) := by unfold putS; rw [if_neg (fun h => hjl (by omega))]
    rw [hz]
    simp only [go_sem, strs, hjl, List.length_map, p0, hpI, cut_takeS, cut_dropS, sized_str, hs1, atoms_str, hrm1, hrm2, hrm3, hlp, hld, List.length_append, List.length_cons, List.length_nil, hX]
    exact Int.le_refl _
set_option maxRecDepth 20000 in
set_option maxHeartbeats 16000000 in
theorem REntries37_eff (it : Str) (a b : List En) (hl : a.length ≤ 100000) (hlb : a.length ≤ b.length) (ha' : ∀ e ∈ a, e.l.length ≤ 1000000) (hb' : ∀ e ∈ b, e.l.length ≤ 1000000) : PL.Pure Try.prog 49 [.str it, ents a, ents b] (chgs (othersL it a b)) := by
  have hol : a.length ≤ maxLen := by rw [maxLen_eq]; omega
  have hK : othersL it a b = othersK it a b a.length := rfl
  have one : (1 : Nat) ≤ maxLen := by rw [maxLen_eq]; omega
  rw [hK]
  refine PL.Pure.of_v Try.func49 (by decide) rfl Try.ntmps49 Try.results49 (by simp) (chgs_dids _) ?_
  simp only [go_sem, ents, List.length_map]
  refine awp_moveRow 7 9 40 0 13 30 [] rfl rfl rfl ?_
  refine vLoopM (ι := { x : Nat // x ≤ (a).length }) 42 (fun x => [(0, .str it), (1, ents a), (2, ents b), (7, .sl (.row 40) ((othersK it a b x.1).map chg)), (8, .int .i64 (x.1 : Int))]) (fun x => []) (fun x => [(40, .live ((othersK it a b x.1).length) (13) (30))]) (fun x => (a).length - x.1) ⟨0, Nat.zero_le _⟩ ⟨rfl, (forall_cons rfl (forall_cons rfl (forall_cons rfl (forall_cons rfl (forall_cons rfl forall_nil))))), forall_nil, (forall_cons rfl forall_nil)⟩ (fun x => ⟨(forall_cons rfl (forall_cons rfl (forall_cons rfl (forall_cons (by simp [PV.ids, refInM]) (forall_cons rfl forall_nil))))), forall_nil⟩) (fun x => ?_); obtain ⟨k, hk⟩ := x; simp only at hk ⊢
  by_cases h : (k : Int) < (a.length : Int)
  · (have hka : k < (a).length := by omega); (have w1 := w64s hka (hol)); (have i1 : (0 : Int) ≤ (k : Int) := by omega)
    have hkb : k < b.length := by omega
    have h' : (k : Int) < (b.length : Int) := by omega
    have hsn := othersK_snoc it a b k
    have hkl := othersK_len it a b k
    have h1 := ROne_pure (a.getD k default)
    have h2 := ROne_pure (b.getD k default)
    have hE := SameEntries_pure [a.getD k default] [b.getD k default] one one (fun e he => by rw [List.mem_singleton.1 he, maxLen_eq]; have := ha' _ (getD_mem' (d := default) hka); omega) (fun e he => by rw [List.mem_singleton.1 he, maxLen_eq]; have := hb' _ (getD_mem' (d := default) hkb); omega)
    simp only [List.cons.injEq, and_true] at hE
    have hml : ((othersK it a b k).map chg).length = (othersK it a b k).length := List.length_map _
    have hsz := sized_chg (othersK it a b k)
    have hrm := room1 (show (othersK it a b k).length + 1 ≤ 1000000 by omega) (show 192 ≤ 1000 by omega)
    by_cases he : a.getD k default = b.getD k default
    · rw [decide_eq_true he] at hE
      rw [if_pos he, List.append_nil] at hsn
      simp only [go_sem, ents, h, List.length_map, getD_ent' hka, getD_ent' hkb, ent, i1, h']
      refine vDrawQ (by kernel_rfl) (by kernel_rfl) ?_
      simp only [go_sem, ents, h, List.length_map, getD_ent' hka, getD_ent' hkb, ent, i1, h']
      refine vCall_of (h1) ?_ ?_ ?_; (focus simp only [go_sem, ent]); (focus simp only [go_sem, ent])
      simp only [go_sem, ents, h, List.length_map, getD_ent' hka, getD_ent' hkb, ent, i1, h']
      refine vCall_of (h2) ?_ ?_ ?_; (focus simp only [go_sem, ent]); (focus simp only [go_sem, ent])
      simp only [go_sem]
      refine vCall_of (hE) ?_ ?_ ?_; (focus simp only [go_sem, ents, List.map_cons, List.map_nil, ent]); (focus simp only [go_sem, ents, List.map_cons, List.map_nil, ent])
      simp only [go_sem, w1]
      exact ⟨⟨k + 1, by omega⟩, by show a.length - (k + 1) < a.length - k; omega, ⟨rfl, by simp only; rw [hsn]; exact (forall_cons rfl (forall_cons rfl (forall_cons rfl (forall_cons rfl (forall_cons rfl (forall_nil)))))), forall_nil, by simp only; rw [hsn]; exact forall_cons rfl forall_nil⟩⟩
    · rw [decide_eq_false he] at hE
      rw [if_neg he] at hsn
      simp only [go_sem, ents, h, List.length_map, getD_ent' hka, getD_ent' hkb, ent, i1, h']
      refine vDrawQ (by kernel_rfl) (by kernel_rfl) ?_
      simp only [go_sem, ents, h, List.length_map, getD_ent' hka, getD_ent' hkb, ent, i1, h']
      refine vCall_of (h1) ?_ ?_ ?_; (focus simp only [go_sem, ent]); (focus simp only [go_sem, ent])
      simp only [go_sem, ents, h, List.length_map, getD_ent' hka, getD_ent' hkb, ent, i1, h']
      refine vCall_of (h2) ?_ ?_ ?_; (focus simp only [go_sem, ent]); (focus simp only [go_sem, ent])
      simp only [go_sem]
      refine vCall_of (hE) ?_ ?_ ?_; (focus simp only [go_sem, ents, List.map_cons, List.map_nil, ent]); (focus simp only [go_sem, ents, List.map_cons, List.map_nil, ent])
      simp only [go_sem]
      refine vDrawQ (by kernel_rfl) (by kernel_rfl) ?_
      simp only [go_sem, ents, h, List.length_map, getD_ent' hka, getD_ent' hkb, ent, i1, h', hml, hsz, hrm, sized_str, atoms_str, w1]
      exact ⟨⟨k + 1, by omega⟩, by show a.length - (k + 1) < a.length - k; omega, ⟨rfl, by simp only; rw [hsn, List.map_append]; exact (forall_cons rfl (forall_cons rfl (forall_cons rfl (forall_cons rfl (forall_cons rfl (forall_nil)))))), forall_nil, by simp only; rw [hsn, List.length_append]; exact forall_cons rfl forall_nil⟩⟩
  · obtain rfl : k = a.length := by omega
    simp only [go_sem, chgs, ents, List.length_map, h]
end Go.Proofs.Ytmnibpgmcgdfpaa
