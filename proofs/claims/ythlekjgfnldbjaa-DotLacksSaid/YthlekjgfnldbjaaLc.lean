/- Contracts of functions and laws of this seat, each for every input that it names: lemmas of the proof. -/
import Derived.Test.YthlekjgfnldbjaaLb
set_option linter.unusedSimpArgs false
set_option linter.unusedVariables false
set_option linter.unusedSimpArgs false
set_option linter.unusedVariables false
namespace Go.Proofs.Ythlekjgfnldbjaa
open Go.PL
def run (v : List Int) : List (Int × Int) → List Int
  | [] => v
  | t :: l => run (v.set (t.1 - 1).toNat t.2) l
def Takes : List Int → List (Int × Int) → Prop
  | _, [] => True
  | v, t :: l => (rightB v = true ∧ tagB t.1 t.2 = true ∧ t.2 = v.getD (t.1 - 1).toNat 0 + 1 ∧ t.2 ≤ 400) ∧ Takes (v.set (t.1 - 1).toNat t.2) l
theorem run_append (l m : List (Int × Int)) : ∀ v, run v (l ++ m) = run (run v l) m := by
  induction l with
  | nil => intro v; rfl
  | cons t l ih => intro v; exact ih _
theorem takes_append (l m : List (Int × Int)) : ∀ v, Takes v l → Takes (run v l) m → Takes v (l ++ m) := by
  induction l with
  | nil => intro v _ h; exact h
  | cons t l ih => intro v h h'; exact ⟨h.1, ih _ h.2 h'⟩
theorem run_len (l : List (Int × Int)) : ∀ v : List Int, (run v l).length = v.length := by
  induction l with
  | nil => intro v; rfl
  | cons t l ih => intro v; rw [run, ih, List.length_set]
theorem takes_at : ∀ (l : List (Int × Int)) (v : List Int) (k : Nat), Takes v l → k < l.length →
    withM (run v (l.take k)) (l.getD k (0, 0)).1 (l.getD k (0, 0)).2 = (run v (l.take (k + 1)), 0)
  | [], _, k, _, h => by simp at h
  | t :: l, v, 0, ⟨⟨h1, h2, h3, h4⟩, _⟩, _ => by
    simp only [List.take_zero, run, List.getD_cons_zero, List.take_succ_cons]
    unfold withM
    rw [if_neg (by simp [h1]), if_neg (by simp [h2]), if_neg (by omega), if_pos h3, if_neg (by omega)]
  | t :: l, v, k + 1, ⟨_, h⟩, hk => by
    simp only [List.take_succ_cons, run, List.getD_cons_succ]
    exact takes_at l _ k h (by simpa using hk)
theorem seg_cons {i : Nat} {x y : Int} (h : x < y) : seg i x y = ((i : Int) + 1, x + 1) :: seg i (x + 1) y := by
  have e : (y - x).toNat = (y - (x + 1)).toNat + 1 := by omega
  simp only [seg, e, List.range_succ_eq_map, List.map_cons, List.map_map]
  congr 1
  · simp
  · apply List.map_congr_left
    intro k _
    simp only [Function.comp]
    congr 1
    simp only [Nat.succ_eq_add_one]
    omega
theorem rightB_set {v : List Int} (hv : v.length = 6) (hr : rightB v = true) {i : Nat} (hi : i < 6) {y : Int} (h : 0 ≤ y ∧ y ≤ 400) : rightB (v.set i y) = true := by
  refine rightB_true fun j hj => ?_
  rw [getD_set hv hi]
  split
  · exact h
  · exact vec_at hv hr (by simpa [hv] using hj)
theorem takes_seg {i : Nat} (hi : i < 6) : ∀ (n : Nat) (v : List Int) (x y : Int), v.length = 6 → rightB v = true → v.getD i 0 = x → (y - x).toNat = n → x ≤ y → y ≤ 400 → Takes v (seg i x y) ∧ run v (seg i x y) = v.set i y
  | 0, v, x, y, hv, hr, hx, hn, hxy, hy => by
    obtain rfl : x = y := by omega
    rw [seg_nil (Int.le_refl _)]
    refine ⟨trivial, ?_⟩
    rw [← hx, List.getD_eq_getElem?_getD, List.getElem?_eq_getElem (by omega)]
    simp [run]
  | n + 1, v, x, y, hv, hr, hx, hn, hxy, hy => by
    have h0 := vec_at hv hr hi
    have e : ((i : Int) + 1 - 1).toNat = i := by omega
    rw [seg_cons (by omega)]
    have ih := takes_seg hi n (v.set i (x + 1)) (x + 1) y (by simp [hv]) (rightB_set hv hr hi (by omega)) (by rw [getD_set hv hi, if_pos rfl]) (by omega) (by omega) hy
    refine ⟨⟨⟨hr, tagB_spec.2 (by simp only; omega), by simp only [e, hx], by simp only; omega⟩, ?_⟩, ?_⟩
    · simp only [e]; exact ih.1
    · simp only [run, e]
      rw [ih.2, List.set_set]
theorem joinTo_getD {a b : List Int} (ha : a.length = 6) (hb : b.length = 6) {i j : Nat} (hi : i ≤ 6) (hj : j < 6) : (joinTo a b i).getD j 0 = if j < i then max (a.getD j 0) (b.getD j 0) else a.getD j 0 := by
  have hk : (joinV a b).length = 6 := joinV_len ha hb
  simp only [joinTo, List.getD_eq_getElem?_getD]
  by_cases h : j < i
  · rw [if_pos h, List.getElem?_append_left (by simp [hk]; omega), List.getElem?_take_of_lt h]
    have := joinV_getD ha hb hj
    simpa only [List.getD_eq_getElem?_getD] using this
  · rw [if_neg h, List.getElem?_append_right (by simp [hk]; omega), List.getElem?_drop]
    have e : i + (j - (List.take i (joinV a b)).length) = j := by simp [hk]; omega
    rw [e]
theorem joinTo_right {a b : List Int} (ha : a.length = 6) (hb : b.length = 6) (hra : rightB a = true) (hrb : rightB b = true) {i : Nat} (hi : i ≤ 6) : rightB (joinTo a b i) = true := by
  refine rightB_true fun j hj => ?_
  rw [joinTo_len ha hb hi] at hj
  have h1 := vec_at ha hra hj
  have h2 := vec_at hb hrb hj
  rw [joinTo_getD ha hb hi hj]
  split <;> omega
theorem lacks_takes {a b : List Int} (ha : a.length = 6) (hb : b.length = 6) (hra : rightB a = true) (hrb : rightB b = true) : ∀ i, i ≤ 6 → Takes a (lacksTo a b i) ∧ run a (lacksTo a b i) = joinTo a b i
  | 0, _ => by
    refine ⟨trivial, ?_⟩
    simp [lacksTo, joinTo, run]
  | i + 1, hi => by
    obtain ⟨h1, h2⟩ := lacks_takes ha hb hra hrb i (by omega)
    have b2 := vec_at hb hrb (show i < 6 by omega)
    rw [lacksTo_succ]
    by_cases h : a.getD i 0 < b.getD i 0
    · have hs := takes_seg (show i < 6 by omega) _ (joinTo a b i) (a.getD i 0) (b.getD i 0) (joinTo_len ha hb (by omega)) (joinTo_right ha hb hra hrb (by omega)) (joinTo_at ha hb (by omega)) rfl (by omega) (by omega)
      refine ⟨takes_append _ _ _ h1 (by rw [h2]; exact hs.1), ?_⟩
      rw [run_append, h2, hs.2, ← joinTo_step ha hb (by omega), show max (a.getD i 0) (b.getD i 0) = b.getD i 0 by omega]
    · rw [seg_nil (by omega), List.append_nil]
      exact ⟨h1, by rw [h2]; exact joinTo_step' ha hb (by omega) h⟩
theorem mem_lacksTo {a b : List Int} {t : Int × Int} {i : Nat} (h : t ∈ lacksTo a b i) : ∃ j k : Nat, j < i ∧ (k : Int) < b.getD j 0 - a.getD j 0 ∧ t = ((j : Int) + 1, a.getD j 0 + 1 + k) := by
  simp only [lacksTo, List.mem_flatten, List.mem_map, List.mem_range] at h
  obtain ⟨l, ⟨j, hj, rfl⟩, ht⟩ := h
  simp only [seg, List.mem_map, List.mem_range] at ht
  obtain ⟨k, hk, rfl⟩ := ht
  exact ⟨j, k, hj, by omega, rfl⟩
theorem lacks_has {a b : List Int} (ha : a.length = 6) (hb : b.length = 6) (hra : rightB a = true) (hrb : rightB b = true) {t : Int × Int} (h : t ∈ lacksTo a b 6) : hasB b t.1 t.2 = true ∧ hasB a t.1 t.2 = false := by
  obtain ⟨j, k, hj, hk, rfl⟩ := mem_lacksTo h
  have h1 := vec_at ha hra hj
  have h2 := vec_at hb hrb hj
  have ht : tagB ((j : Int) + 1) (a.getD j 0 + 1 + k) = true := tagB_spec.2 (by omega)
  have e : ((j : Int) + 1 - 1).toNat = j := by omega
  simp only [hasB, ht, Bool.true_and, e, decide_eq_true_eq, decide_eq_false_iff_not]
  omega
theorem sum_set {v : List Int} : ∀ {i : Nat} {y : Int}, i < v.length → (v.set i y).sum = v.sum - v.getD i 0 + y := by
  induction v with
  | nil => intro i y h; simp at h
  | cons x v ih =>
    intro i y h
    cases i with
    | zero => simp; omega
    | succ i =>
      have := ih (i := i) (y := y) (by simpa using h)
      simp only [List.set_cons_succ, List.sum_cons, List.getD_cons_succ, this]
      omega
theorem sum_run : ∀ (l : List (Int × Int)) (v : List Int), v.length = 6 → Takes v l → (run v l).sum = v.sum + l.length
  | [], v, _, _ => by simp [run]
  | t :: l, v, hv, ⟨⟨h1, h2, h3, h4⟩, h⟩ => by
    obtain ⟨_, _, _, e4, _⟩ := tagB_ix h2
    rw [run, sum_run l _ (by simp [hv]) h, sum_set (by omega)]
    simp only [List.length_cons]
    omega
