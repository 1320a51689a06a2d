/- Contracts of functions and laws of this seat, each for every input that it names: lemmas of the proof. -/
import Derived.Test.YtcomkajmhlhphaaGreatXBg
import Derived.Shelf.SlSortCmp.WholeK
import Derived.Test.YtcomkajmhlhphaaGreatXAa
import Derived.Test.YtcomkajmhlhphaaGreatPlG
import Derived.Test.YtcomkajmhlhphaaGreatXAw
set_option linter.unusedSimpArgs false
set_option linter.unusedVariables false
set_option linter.unusedSimpArgs false
set_option linter.unusedVariables false
namespace Go.Proofs.YtcomkajmhlhphaaGreat
open Go.Shelf
def sortTag_ren : Go.Shelf.Ren := ⟨fun | 6 => 64 | 15 => 107 | 14 => 106 | 28 => 147 | 29 => 148 | 20 => 139 | 21 => 140 | 22 => 141 | 23 => 142 | 24 => 143 | 25 => 144 | 26 => 145 | 27 => 146 | 46 => 154 | 47 => 155 | 48 => 156 | 49 => 157 | 50 => 158 | 57 => 159 | n => n, fun | 22 => 60 | 24 => 24 | 25 => 128 | 3 => 3 | 39 => 158 | 0 => 0 | 53 => 184 | 55 => 186 | 4 => 4 | 46 => 177 | 45 => 176 | 50 => 181 | 5 => 5 | 9 => 9 | 66 => 189 | 70 => 193 | 76 => 195 | 77 => 196 | n => n, fun | n => n⟩
theorem sortTag : Go.Proofs.SlLaysF0.n6 Tryz.prog sortTag_ren where
  mixed := by kernel_rfl
  f6 := ⟨ "slices.SortFunc[[]punnet/api.Tag,punnet/api.Tag]", by decide, Tryz.func64.trans (congrArg some (by kernel_rfl))⟩
  f14 := ⟨ "slices.pdqsortCmpFunc[punnet/api.Tag]", by decide, Tryz.func106.trans (congrArg some (by kernel_rfl))⟩
  f15 := Tryz.func107.trans (congrArg some (by kernel_rfl))
  f20 := ⟨ "slices.insertionSortCmpFunc[punnet/api.Tag]", by decide, Tryz.func139.trans (congrArg some (by kernel_rfl))⟩
  f21 := ⟨ "slices.heapSortCmpFunc[punnet/api.Tag]", by decide, Tryz.func140.trans (congrArg some (by kernel_rfl))⟩
  f22 := ⟨ "slices.breakPatternsCmpFunc[punnet/api.Tag]", by decide, Tryz.func141.trans (congrArg some (by kernel_rfl))⟩
  f23 := ⟨ "slices.choosePivotCmpFunc[punnet/api.Tag]", by decide, Tryz.func142.trans (congrArg some (by kernel_rfl))⟩
  f24 := ⟨ "slices.reverseRangeCmpFunc[punnet/api.Tag]", by decide, Tryz.func143.trans (congrArg some (by kernel_rfl))⟩
  f25 := ⟨ "slices.partialInsertionSortCmpFunc[punnet/api.Tag]", by decide, Tryz.func144.trans (congrArg some (by kernel_rfl))⟩
  f26 := ⟨ "slices.partitionEqualCmpFunc[punnet/api.Tag]", by decide, Tryz.func145.trans (congrArg some (by kernel_rfl))⟩
  f27 := ⟨ "slices.partitionCmpFunc[punnet/api.Tag]", by decide, Tryz.func146.trans (congrArg some (by kernel_rfl))⟩
  f28 := Tryz.func147.trans (congrArg some (by kernel_rfl))
  f29 := Tryz.func148.trans (congrArg some (by kernel_rfl))
  f46 := ⟨ "slices.siftDownCmpFunc[punnet/api.Tag]", by decide, Tryz.func154.trans (congrArg some (by kernel_rfl))⟩
  f47 := Tryz.func155.trans (congrArg some (by kernel_rfl))
  f48 := Tryz.func156.trans (congrArg some (by kernel_rfl))
  f49 := ⟨ "slices.medianAdjacentCmpFunc[punnet/api.Tag]", by decide, Tryz.func157.trans (congrArg some (by kernel_rfl))⟩
  f50 := ⟨ "slices.medianCmpFunc[punnet/api.Tag]", by decide, Tryz.func158.trans (congrArg some (by kernel_rfl))⟩
  f57 := ⟨ "slices.order2CmpFunc[punnet/api.Tag]", by decide, Tryz.func159.trans (congrArg some (by kernel_rfl))⟩
  t0 := Tryz.underlying0
  a0 := Tryz.isAgg0
  z0 := Tryz.sizeOf0
  v0 := Tryz.zeroValue0
  t3 := Tryz.underlying3
  a3 := Tryz.isAgg3
  z3 := Tryz.sizeOf3
  v3 := Tryz.zeroValue3
  t4 := Tryz.underlying4
  a4 := Tryz.isAgg4
  z4 := Tryz.sizeOf4
  v4 := Tryz.zeroValue4
  t5 := Tryz.underlying5
  a5 := Tryz.isAgg5
  z5 := Tryz.sizeOf5
  v5 := Tryz.zeroValue5
  t9 := Tryz.underlying9
  a9 := Tryz.isAgg9
  z9 := Tryz.sizeOf9
  v9 := Tryz.zeroValue9
  t22 := Tryz.underlying60
  a22 := Tryz.isAgg60
  z22 := Tryz.sizeOf60
  v22 := Tryz.zeroValue60
  t25 := Tryz.underlying128
  a25 := Tryz.isAgg128
  z25 := Tryz.sizeOf128
  v25 := Tryz.zeroValue128
  t39 := Tryz.underlying158
  a39 := Tryz.isAgg158
  z39 := Tryz.sizeOf158
  v39 := Tryz.zeroValue158
  t45 := Tryz.underlying176
  a45 := Tryz.isAgg176
  z45 := Tryz.sizeOf176
  v45 := Tryz.zeroValue176
  t46 := Tryz.underlying177
  a46 := Tryz.isAgg177
  z46 := Tryz.sizeOf177
  v46 := Tryz.zeroValue177
  t50 := Tryz.underlying181
  a50 := Tryz.isAgg181
  z50 := Tryz.sizeOf181
  v50 := Tryz.zeroValue181
  t53 := Tryz.underlying184
  a53 := Tryz.isAgg184
  z53 := Tryz.sizeOf184
  v53 := Tryz.zeroValue184
  t55 := Tryz.underlying186
  a55 := Tryz.isAgg186
  z55 := Tryz.sizeOf186
  v55 := Tryz.zeroValue186
  t66 := Tryz.underlying189
  a66 := Tryz.isAgg189
  z66 := Tryz.sizeOf189
  v66 := Tryz.zeroValue189
  t70 := Tryz.underlying193
  a70 := Tryz.isAgg193
  z70 := Tryz.sizeOf193
  v70 := Tryz.zeroValue193
  t76 := Tryz.underlying195
  a76 := Tryz.isAgg195
  z76 := Tryz.sizeOf195
  v76 := Tryz.zeroValue195
  t77 := Tryz.underlying196
  a77 := Tryz.isAgg196
  z77 := Tryz.sizeOf196
  v77 := Tryz.zeroValue196
end Go.Proofs.YtcomkajmhlhphaaGreat

set_option linter.unusedSimpArgs false
set_option linter.unusedVariables false
set_option linter.unusedSimpArgs false
set_option linter.unusedVariables false
namespace Go.Proofs.YtcomkajmhlhphaaGreat
open Go.PL
open Go.Shelf Go.RowKit Go.Lib Go.Sort
def cmpT (a b : Tg) : Int := if tlessB a b then -1 else if tlessB b a then 1 else 0
/-- draws and blocks further on -/
def Grew (W w' : World) : Prop := ∃ q os', w' = grow (W.drewN q) os'
theorem Grew.trans {a b c : World} (h : Grew a b) (k : Grew b c) : Grew a c := by
  obtain ⟨q, os, rfl⟩ := h
  obtain ⟨p, os', rfl⟩ := k
  refine ⟨q + p, os ++ os', ?_⟩
  rw [← grow_grow]
  show grow (grow ((a.drewN q).drewN p) os) os' = _
  rw [World.drewN_drewN]
theorem grew2 (W : World) (o1 o2 : Obj) : Grew W ((W.alloc o1).alloc o2) := ⟨0, _, by rw [alloc_eq_grow, alloc_eq_grow, grow_grow]; rfl⟩
theorem lessT (x y : Tg) (W : World) : Calls Tryz.prog 66 #[.agg #[.int .i64 x.r, .int .i64 x.n], .agg #[.int .i64 y.r, .int .i64 y.n]] W fun e w' => e = .returned (.bool (tlessB x y)) ∧ Grew W w' := by
  unfold tlessB
  go_enter Tryz.func66, Tryz.ntmps66
  go_wp2
  all_goals
    go_ret
    refine ⟨?_, grew2 _ _ _⟩
    simp_all
theorem boxes {W w' : World} {c1 c2 : List Value} {t1 t2 : TypeId} (h : Grew ((W.alloc (.cells ⟨c1⟩ t1)).alloc (.cells ⟨c2⟩ t2)) w') :
    (∀ o, w'.cell? ⟨W.heap.size, o, none⟩ = c1[o]?) ∧ ∀ o, w'.cell? ⟨W.heap.size + 1, o, none⟩ = c2[o]? := by
  obtain ⟨q, os, rfl⟩ := h
  have hsz : (((W.alloc (.cells ⟨c1⟩ t1)).alloc (.cells ⟨c2⟩ t2)).drewN q).heap.size = W.heap.size + 2 := by
    show ((W.heap.push _).push _).size = _
    simp
  refine ⟨fun o => ?_, fun o => ?_⟩
  · rw [cell?_grow _ _ _ (by rw [hsz]; show W.heap.size < _; omega)]
    refine cell_of (t := t1) (f := (0, 0)) ?_
    show ((W.heap.push _).push _)[W.heap.size]? = _
    simp [Array.getElem?_push]
  · rw [cell?_grow _ _ _ (by rw [hsz]; show W.heap.size + 1 < _; omega)]
    refine cell_of (t := t2) (f := (0, 0)) ?_
    show ((W.heap.push _).push _)[W.heap.size + 1]? = _
    rw [Array.getElem?_push, if_pos (by simp)]
theorem cmpTags (x y : Tg) (W : World) : Calls Tryz.prog 65 #[.agg #[.int .i64 x.r, .int .i64 x.n], .agg #[.int .i64 y.r, .int .i64 y.n]] W fun e w' => e = .returned (.int .i64 (cmpT x y)) ∧ Grew W w' := by
  unfold cmpT
  generalize h1 : tlessB x y = b1
  generalize h2 : tlessB y x = b2
  have c1 := fun W => lessT x y W
  have c2 := fun W => lessT y x W
  rw [h1] at c1
  rw [h2] at c2
  clear h1 h2
  cases b1
  · cases b2
    all_goals
      simp only [if_true, if_false, Bool.false_eq_true]
      go_enter Tryz.func65, Tryz.ntmps65
      go_wp2_with (go_at_call 66; refine (c1 _).mono ?_; rintro e w' ⟨rfl, hw⟩; have k1 := (boxes hw).1 0; have k2 := (boxes hw).1 1; have k3 := (boxes hw).2 0; have k4 := (boxes hw).2 1; simp only [List.getElem?_cons_zero, List.getElem?_cons_succ] at k1 k2 k3 k4; clear c1)
      refine (c2 _).mono ?_
      rintro e w2 ⟨rfl, hw2⟩
      clear c2
      go_wp2
      go_ret
      exact ⟨rfl, ((grew2 _ _ _).trans hw).trans hw2⟩
  · simp only [if_true, if_false, Bool.false_eq_true]
    go_enter Tryz.func65, Tryz.ntmps65
    go_wp2_with (go_at_call 66; refine (c1 _).mono ?_; rintro e w' ⟨rfl, hw⟩; clear c1)
    go_ret
    exact ⟨rfl, (grew2 _ _ _).trans hw⟩
end Go.Proofs.YtcomkajmhlhphaaGreat

set_option linter.unusedSimpArgs false
set_option linter.unusedVariables false
set_option linter.unusedSimpArgs false
set_option linter.unusedVariables false
namespace Go.Proofs.YtcomkajmhlhphaaGreat
open Go.PL
open Go.Shelf Go.RowKit Go.Lib Go.Sort
section
variable {α : Type} [Inhabited α] (F : Flat α)
theorem cell_of_block {w : World} {b o : Nat} {vs : List Value} {e : TypeId} (h : w.heap[b]? = some (.cells ⟨vs⟩ e (0, 0))) (ho : o < vs.length) : w.cell? ⟨b, o, none⟩ = some (vs.getD o undef) := by
  rw [cell_of h, List.getElem?_eq_getElem ho, PL.getD_lt ho]
theorem row_at {k : Nat} (h : 0 < k) {n j : Nat} (hj : j < n * k) : j / k < n ∧ j % k < k ∧ j = j / k * k + j % k := by
  refine ⟨?_, Nat.mod_lt _ h, ?_⟩
  · exact Nat.div_lt_of_lt_mul (by rwa [Nat.mul_comm])
  · rw [Nat.mul_comm]; exact (Nat.div_add_mod j k).symm
theorem flat_get (xs : List α) (j : Nat) (hj : j < xs.length * F.sz) : (flatK F.v F.sz xs.toArray)[j]! = (F.v (xs.getD (j / F.sz) default)).getD (j % F.sz) undef := by
  obtain ⟨h1, h2, h3⟩ := row_at F.pos hj
  rw [get_flatK _ _ _ _ (by simpa using hj)]
  have e1 : (xs.toArray)[j / F.sz]! = xs.getD (j / F.sz) default := by
    rw [PL.getD_lt h1]
    simp [h1]
  rw [e1]
  have hv := F.hv (xs.getD (j / F.sz) default)
  generalize F.v (xs.getD (j / F.sz) default) = L at hv ⊢
  have hL : j % F.sz < L.length := by omega
  rw [PL.getD_lt hL]
  exact getElem!_pos L _ hL
theorem raw_holds {w : World} {b c : Nat} {xs : List α} {e : TypeId} {vs : List Value} (hw : w.heap[b]? = some (.cells ⟨vs⟩ e (0, 0))) (hl : xs.length * F.sz ≤ vs.length)
    (hv : ∀ i j, i < xs.length → j < F.sz → vs.getD (i * F.sz + j) undef = (F.v (xs.getD i default)).getD j undef) : HoldsK F.v F.sz w b 0 xs.toArray := by
  intro j hj
  have hj' : j < xs.length * F.sz := by simpa using hj
  obtain ⟨h1, h2, h3⟩ := row_at F.pos hj'
  rw [flat_get F xs j hj', Nat.zero_add]
  refine ⟨?_, ?_⟩
  · rw [cell_of_block hw (by omega), ← hv _ _ h1 h2, ← h3]; rfl
  · simp [World.frozen?, hw]
theorem raw_sorted {w : World} {b c n lo : Nat} {xs ys : List α} {e : TypeId} {vs : List Value} {os : Array Obj} (hlo : lo ≤ b) (hc : xs.length ≤ c) (hw : w.heap[b]? = some (.cells ⟨vs⟩ e (0, 0))) (hl : xs.length * F.sz ≤ vs.length) (hy : ys.length = xs.length) :
    RawRow F (sortWorldK F.v F.sz w b 0 n ys.toArray os) lo ys (.slice (some ⟨b, 0, none⟩) ys.length c) ∧ BelowF (fun k => k < lo) w (sortWorldK F.v F.sz w b 0 n ys.toArray os) := by
  have hb : b < w.heap.size := (Array.getElem?_eq_some_iff.1 hw).1
  have hs : (sortWorldK F.v F.sz w b 0 n ys.toArray os).heap = w.heap.modify b (onCells (putCells id 0 (flatK F.v F.sz ys.toArray))) ++ os := rfl
  have hat : ∀ k, k < w.heap.size → (sortWorldK F.v F.sz w b 0 n ys.toArray os).heap[k]? = (w.heap.modify b (onCells (putCells id 0 (flatK F.v F.sz ys.toArray))))[k]? := fun k hk => by
    rw [hs, Array.getElem?_append_left (by simpa using hk)]
  refine ⟨.inr ⟨b, c, e, (putCells id 0 (flatK F.v F.sz ys.toArray) ⟨vs⟩).toList, hlo, rfl, by omega, ?_, ?_, fun i j hi hj => ?_⟩, ?_⟩
  · rw [hat b hb, Array.getElem?_modify, if_pos rfl, hw]; rfl
  · rw [hy]; simpa [putCells] using hl
  · have q1 : (i + 1) * F.sz ≤ ys.length * F.sz := Nat.mul_le_mul_right _ (by omega)
    rw [Nat.succ_mul] at q1
    have hij : i * F.sz + j < vs.length := by rw [hy] at q1; omega
    have d1 : (i * F.sz + j) / F.sz = i := (blk_iff F.sz i _ F.pos).1 ⟨by omega, by omega⟩
    have d2 : (i * F.sz + j) % F.sz = j := by rw [Nat.mod_eq_sub_div_mul, d1]; omega
    have hf := flat_get F ys (i * F.sz + j) (by omega)
    rw [d1, d2] at hf
    rw [PL.getD_lt (by simpa [putCells] using hij)]
    rw [← hf]
    simp only [putCells, Array.getElem_toList, Array.getElem_mapIdx]
    rw [if_pos ⟨Nat.zero_le _, by rw [size_flatK]; simp; omega⟩]
    rfl
  · refine ⟨rfl, rfl, rfl, ?_, fun k hk => ?_⟩
    · rw [hs]; simp
    · have hk' : k < lo := hk
      rw [hat k (by omega), Array.getElem?_modify, if_neg (by omega)]
end
end Go.Proofs.YtcomkajmhlhphaaGreat

set_option linter.unusedSimpArgs false
set_option linter.unusedVariables false
set_option linter.unusedSimpArgs false
set_option linter.unusedVariables false
namespace Go.Proofs.YtcomkajmhlhphaaGreat
open Go.PL
/-! the order of places -/
theorem bl_irrefl : ∀ (a : Str), bytesLt a a = false
  | [] => rfl
  | x :: a => by
    have := bl_irrefl a
    unfold bytesLt at *
    simp [Op.bytesLess, this]
theorem bl_trans : ∀ {a b c : Str}, bytesLt a b = true → bytesLt b c = true → bytesLt a c = true
  | [], [], _, h, _ => by simp [bytesLt, Op.bytesLess] at h
  | [], _ :: _, [], _, h => by simp [bytesLt, Op.bytesLess] at h
  | [], _ :: _, _ :: _, _, _ => by simp [bytesLt, Op.bytesLess]
  | _ :: _, [], _, h, _ => by simp [bytesLt, Op.bytesLess] at h
  | _ :: _, _ :: _, [], _, h => by simp [bytesLt, Op.bytesLess] at h
  | x :: a, y :: b, z :: c, h1, h2 => by
    have ih := bl_trans (a := a) (b := b) (c := c)
    unfold bytesLt at *
    simp only [Op.bytesLess, Bool.or_eq_true, decide_eq_true_eq, Bool.and_eq_true, beq_iff_eq] at *
    rcases h1 with h1 | ⟨rfl, h1⟩
    · rcases h2 with h2 | ⟨rfl, h2⟩
      · exact .inl (UInt8.lt_trans h1 h2)
      · exact .inl h1
    · rcases h2 with h2 | ⟨rfl, h2⟩
      · exact .inl h2
      · exact .inr ⟨rfl, ih h1 h2⟩
theorem lb_irrefl (a : Rf) : lessB a a = false := by simp [lessB, bl_irrefl]
theorem lb_trans {a b c : Rf} (h1 : lessB a b = true) (h2 : lessB b c = true) : lessB a c = true := by
  unfold lessB at *
  by_cases e1 : a.sc = b.sc
  · by_cases e2 : b.sc = c.sc
    · simp only [e1, e2, ne_eq, not_true_eq_false, if_false] at *
      by_cases g1 : a.gr = b.gr
      · by_cases g2 : b.gr = c.gr
        · simp only [g1, g2, not_true_eq_false, if_false] at *
          exact bl_trans h1 h2
        · simp only [g1, g2, not_true_eq_false, not_false_eq_true, if_false, if_true] at *
          exact h2
      · by_cases g2 : b.gr = c.gr
        · rw [← g2]
          simp only [g1, not_false_eq_true, if_true] at *
          exact h1
        · simp only [g1, g2, not_false_eq_true, if_true] at *
          have := bl_trans h1 h2
          have hn : ¬ a.gr = c.gr := fun e => by rw [e, bl_irrefl] at this; cases this
          simp only [hn, not_false_eq_true, if_true]
          exact this
    · simp only [e1, e2, ne_eq, not_false_eq_true, if_true] at *
      exact h2
  · by_cases e2 : b.sc = c.sc
    · rw [← e2]
      simp only [e1, ne_eq, not_false_eq_true, if_true] at *
      exact h1
    · simp only [e1, e2, ne_eq, not_false_eq_true, if_true, decide_eq_true_eq] at *
      have hn : ¬ a.sc = c.sc := by omega
      simp only [hn, not_false_eq_true, if_true, decide_eq_true_eq]
      omega
/-- rising by places -/
def Rise (l : List Fd) : Prop := l.Pairwise fun a b => lessB a.at' b.at' = true
theorem rise_of_steps : ∀ {l : List Fd}, (∀ i, i < l.length → i = 0 ∨ lessB (l.getD (i - 1) default).at' (l.getD i default).at' = true) → Rise l
  | [], _ => List.Pairwise.nil
  | [a], _ => List.pairwise_singleton _ _
  | a :: b :: l, h => by
    have ih : Rise (b :: l) := rise_of_steps fun i hi => by
      cases i with
      | zero => exact .inl rfl
      | succ i =>
        have := h (i + 2) (by simp at hi ⊢; omega)
        right
        simpa using this
    have hab : lessB a.at' b.at' = true := by simpa using h 1 (by simp)
    refine List.pairwise_cons.2 ⟨fun x hx => ?_, ih⟩
    rcases List.mem_cons.1 hx with rfl | hx
    · exact hab
    · exact lb_trans hab ((List.pairwise_cons.1 ih).1 x hx)
theorem steps_of_rise {l : List Fd} (h : Rise l) : ∀ i, i < l.length → i = 0 ∨ lessB (l.getD (i - 1) default).at' (l.getD i default).at' = true := fun i hi => by
  by_cases h0 : i = 0
  · exact .inl h0
  · right
    rw [getD_lt (by omega), getD_lt hi]
    exact List.pairwise_iff_getElem.1 h (i - 1) i (by omega) hi (by omega)
theorem right_iff {l : List Fd} : rightL l = true ↔ l.length ≤ 16 ∧ Rise l ∧ ∀ f ∈ l, rightF f = true := by
  unfold rightL
  simp only [Bool.and_eq_true, Bool.not_eq_true', decide_eq_false_iff_not, List.all_eq_true, List.mem_range, fldOk, Bool.or_eq_true, decide_eq_true_eq]
  constructor
  · rintro ⟨h1, h2⟩
    refine ⟨by omega, rise_of_steps fun i hi => (h2 i hi).2, fun f hf => ?_⟩
    obtain ⟨i, hi, rfl⟩ := List.getElem_of_mem hf
    have := (h2 i hi).1
    rwa [getD_lt hi] at this
  · rintro ⟨h1, h2, h3⟩
    exact ⟨by omega, fun i hi => ⟨h3 _ (getD_mem hi), steps_of_rise h2 i hi⟩⟩
theorem rise_at {l : List Fd} (h : Rise l) {f g : Fd} (hf : f ∈ l) (hg : g ∈ l) (e : f.at' = g.at') : f = g := by
  obtain ⟨i, hi, rfl⟩ := List.getElem_of_mem hf
  obtain ⟨j, hj, rfl⟩ := List.getElem_of_mem hg
  rcases Nat.lt_trichotomy i j with h1 | h1 | h1
  · have := List.pairwise_iff_getElem.1 h i j hi hj h1
    rw [e, lb_irrefl] at this; cases this
  · subst h1; rfl
  · have := List.pairwise_iff_getElem.1 h j i hj hi h1
    rw [e, lb_irrefl] at this; cases this
end Go.Proofs.YtcomkajmhlhphaaGreat

set_option linter.unusedSimpArgs false
set_option linter.unusedVariables false
set_option linter.unusedSimpArgs false
set_option linter.unusedVariables false
namespace Go.Proofs.YtcomkajmhlhphaaGreat
open Go.PL
def roundP (fo ba : List Pr) (p : Pr) : Bool := (caseM fo p.fr').2 && ((caseM ba (caseM fo p.fr').1).2 && ((caseM ba (caseM fo p.fr').1).1 == p.fr'))
def roundM (fo ba : List Pr) : Bool := fo.all (roundP fo ba)
set_option maxHeartbeats 4000000 in
theorem round_pure (fo ba : List Pr) (hf : fo.length ≤ maxLen) (hb : ba.length ≤ maxLen) : PL.Pure Tryz.prog 134 [prs fo, prs ba] (.bool (roundM fo ba)) := by
  refine PL.Pure.of_v Tryz.func134 (by decide) rfl Tryz.ntmps134 Tryz.results134 (by simp) rfl ?_
  simp only [go_sem, prs]
  refine vLoopM (ι := { x : Nat // x ≤ (fo).length ∧ (∀ j, j < x → roundP fo ba (fo.getD j default) = true) }) 40 (fun x => [(0, prs fo), (1, prs ba), (10, prs fo), (11, .int .i64 (fo.length : Int)), (12, .int .i64 (x.1 : Int))]) (fun x => []) (fun x => []) (fun x => (fo).length - x.1) ⟨0, Nat.zero_le _, fun j hj => absurd hj (Nat.not_lt_zero j)⟩ ⟨rfl, (forall_cons rfl (forall_cons rfl (forall_cons rfl (forall_cons rfl (forall_cons rfl forall_nil))))), forall_nil, forall_nil⟩ (fun x => ⟨(forall_cons rfl (forall_cons rfl (forall_cons rfl (forall_cons rfl (forall_cons rfl forall_nil))))), forall_nil⟩) (fun x => ?_); obtain ⟨k, hk, hI⟩ := x; simp only at hk hI ⊢
  by_cases h : (k : Int) < (fo.length : Int)
  · (have hka : k < (fo).length := by omega); (have w1 := w64s hka (hf)); (have i1 : (0 : Int) ≤ (k : Int) := by omega)
    have h1 := Case_pure fo (fo.getD k default).fr' hf
    have h2 := Case_pure ba (caseM fo (fo.getD k default).fr').1 hb
    cases hr : roundP fo ba (fo.getD k default)
    · have hz := all_false (p := roundP fo ba) hka hr
      unfold roundP at hr
      generalize caseM fo (fo.getD k default).fr' = c at *
      generalize caseM ba c.1 = d at *
      obtain ⟨c1, c2⟩ := c
      obtain ⟨d1, d2⟩ := d
      simp only at hr h2
      simp only [go_sem, prs, h, i1, getD_pr hka, pr]
      refine vCall_of (h1) ?_ ?_ ?_; (focus simp only [go_sem, prs]); (focus simp only [go_sem, prs])
      simp only [go_sem, strb]
      cases c2
      · simp only [go_sem, roundM, hz]
      · simp only [go_sem, prs]
        refine vCall_of (h2) ?_ ?_ ?_; (focus simp only [go_sem, prs]); (focus simp only [go_sem, prs])
        simp only [go_sem, strb]
        cases d2
        · simp only [go_sem, roundM, hz]
        · simp only [Bool.true_and] at hr
          simp only [go_sem, hr, roundM, hz]
    · have hr0 := hr
      unfold roundP at hr
      generalize caseM fo (fo.getD k default).fr' = c at *
      generalize caseM ba c.1 = d at *
      obtain ⟨c1, c2⟩ := c
      obtain ⟨d1, d2⟩ := d
      simp only [Bool.and_eq_true] at hr h2
      obtain ⟨rfl, rfl, hr⟩ := hr
      simp only [go_sem, prs, h, i1, getD_pr hka, pr]
      refine vCall_of (h1) ?_ ?_ ?_; (focus simp only [go_sem, prs]); (focus simp only [go_sem, prs])
      simp only [go_sem, strb, prs]
      refine vCall_of (h2) ?_ ?_ ?_; (focus simp only [go_sem, prs]); (focus simp only [go_sem, prs])
      simp only [go_sem, strb, hr, w1]
      exact ⟨⟨k + 1, by (try simp only); omega, below_succ hI hr0⟩, by show (fo).length - (k + 1) < (fo).length - k; omega, ⟨rfl, (forall_cons rfl (forall_cons rfl (forall_cons rfl (forall_cons rfl (forall_cons rfl forall_nil))))), forall_nil, forall_nil⟩⟩
  · have hz := all_true (p := roundP fo ba) (d := default) (l := fo) (fun j hj => hI j (by omega))
    simp only [go_sem, prs, h, roundM, hz]
def keptM (x : Ln) (r : Rf) : Bool :=
  if rightLn x = false then false else if idx (fun a => decide (r = a)) (goesR x) < 0 then true
  else if x.kind = 1 ∨ x.kind = 4 ∨ x.kind = 5 ∨ x.kind = 6 ∨ x.kind = 7 ∨ x.kind = 10 then true
  else if x.kind = 9 then idx (fun a => decide (r = a)) (goesR x) == 0
  else if x.kind = 8 then roundM x.fo x.ba else false
theorem goesR_len (x : Ln) : (goesR x).length ≤ 2 := by
  unfold goesR
  split
  · simp
  split
  · simp
  split <;> simp
theorem comesR_len (x : Ln) : (comesR x).length ≤ 2 := by
  unfold comesR
  repeat' split
  all_goals simp
set_option maxRecDepth 20000 in
set_option maxHeartbeats 8000000 in
theorem Kept_pure (x : Ln) (r : Rf) (hx : OkLn x) : PL.Pure Tryz.prog 92 [lns x, ref r] (.bool (keptM x r)) := by
  have hR := LRight_pure x hx
  have hG := Goes_pure x hx
  unfold keptM
  cases hlr : rightLn x
  · rw [hlr] at hR
    refine PL.Pure.of_v Tryz.func92 (by decide) rfl Tryz.ntmps92 Tryz.results92 (by simp) rfl ?_
    simp only [go_sem, lns, ref]
    refine vCall_of (hR) ?_ ?_ ?_; (focus simp only [go_sem, lns]); (focus simp only [go_sem, lns])
    simp only [go_sem, if_true]
  rw [hlr] at hR
  have hg : goesM x = goesR x := by simp [goesM, hlr]
  rw [hg] at hG
  have hI := IdxRef_pure (goesR x) r (by have := goesR_len x; rw [maxLen_eq]; omega)
  have hO := round_pure x.fo x.ba (by have := hx.f; rw [maxLen_eq]; omega) (by have := hx.b; rw [maxLen_eq]; omega)
  generalize idx (fun a => decide (r = a)) (goesR x) = i at *
  refine PL.Pure.of_v Tryz.func92 (by decide) rfl Tryz.ntmps92 Tryz.results92 (by simp) rfl ?_
  simp only [go_sem, lns, ref]
  refine vCall_of (hR) ?_ ?_ ?_; (focus simp only [go_sem, lns]); (focus simp only [go_sem, lns])
  simp only [go_sem, lns]
  repeat' (first | (refine vGuard_t (fun h => ?_) (fun h => ?_) <;> (try simp only [go_sem, h, refs, ref])) | (refine vGuard_f (fun h => ?_) (fun h => ?_) <;> (try simp only [go_sem, h, refs, ref])) | (refine vCond_b (fun h => ?_) (fun h => ?_) <;> (try simp only [go_sem, h, refs, ref])) | ((refine vCall_of (hG) ?_ ?_ ?_); (focus simp only [go_sem, lns, refs, ref, prs]); (focus exact rfl); (try simp only [go_sem, refs, ref])) | ((refine vCall_of (hI) ?_ ?_ ?_); (focus simp only [go_sem, lns, refs, ref, prs]); (focus exact rfl); (try simp only [go_sem, refs, ref])) | ((refine vCall_of (hO) ?_ ?_ ?_); (focus simp only [go_sem, lns, refs, ref, prs]); (focus exact rfl); (try simp only [go_sem, refs, ref])) | ((refine vDrawQ (by kernel_rfl) (by kernel_rfl) ?_); (try simp only [go_sem, refs, ref])))
  all_goals (clear hR hG hI hO hx; simp_all <;> (intro; omega))
def traceM (x : Ln) (r : Rf) : Rf × Bool :=
  if rightLn x = false then (default, false) else if ((goesR x).any fun a => decide (r = a)) = false then (r, true)
  else if (comesR x).length = 0 then (default, false) else ((comesR x).getD 0 default, true)
def refb (x : Rf × Bool) : PV := .tup [ref x.1, .bool x.2]
theorem refb_dids (x : Rf × Bool) : (refb x).dids = [] := by simp only [refb, PV.dids, PV.didsL, ref_dids, List.append_nil]
theorem ref_default : ref default = .agg [.int .i64 0, .str [], .str []] := rfl
set_option maxRecDepth 20000 in
set_option maxHeartbeats 8000000 in
theorem Trace_pure (x : Ln) (r : Rf) (hx : OkLn x) : PL.Pure Tryz.prog 91 [lns x, ref r] (refb (traceM x r)) := by
  have hR := LRight_pure x hx
  have hG := Goes_pure x hx
  have hC := Comes_pure x hx
  unfold traceM
  cases hlr : rightLn x
  · rw [hlr] at hR
    refine PL.Pure.of_v Tryz.func91 (by decide) rfl Tryz.ntmps91 Tryz.results91 (by simp) (refb_dids _) ?_
    simp only [go_sem, lns, ref]
    refine vCall_of (hR) ?_ ?_ ?_; (focus simp only [go_sem, lns]); (focus simp only [go_sem, lns])
    simp only [go_sem, if_true, refb, ref_default]
  rw [hlr] at hR
  have hg : goesM x = goesR x := by simp [goesM, hlr]
  have hc : comesM x = comesR x := by simp [comesM, hlr]
  rw [hg] at hG
  rw [hc] at hC
  have hI := ConRef_pure (goesR x) r (by have := goesR_len x; rw [maxLen_eq]; omega)
  generalize (goesR x).any (fun a => decide (r = a)) = b at *
  generalize goesR x = goes at *
  generalize comesR x = comes at *
  cases b
  · refine PL.Pure.of_v Tryz.func91 (by decide) rfl Tryz.ntmps91 Tryz.results91 (by simp) (refb_dids _) ?_
    simp only [go_sem, lns, ref]
    refine vCall_of (hR) ?_ ?_ ?_; (focus simp only [go_sem, lns]); (focus simp only [go_sem, lns])
    simp only [go_sem, lns]
    refine vDrawQ (by kernel_rfl) (by kernel_rfl) ?_
    simp only [go_sem, lns]
    refine vCall_of (hG) ?_ ?_ ?_; (focus simp only [go_sem, lns]); (focus simp only [go_sem, lns])
    simp only [go_sem, refs]
    refine vCall_of (hI) ?_ ?_ ?_; (focus simp only [go_sem, refs, ref]); (focus simp only [go_sem, refs, ref])
    simp only [go_sem, refb, ref, Bool.true_eq_false, if_false, if_true]
  · cases comes with
    | nil =>
      refine PL.Pure.of_v Tryz.func91 (by decide) rfl Tryz.ntmps91 Tryz.results91 (by simp) (refb_dids _) ?_
      simp only [go_sem, lns, ref]
      refine vCall_of (hR) ?_ ?_ ?_; (focus simp only [go_sem, lns]); (focus simp only [go_sem, lns])
      simp only [go_sem, lns]
      refine vDrawQ (by kernel_rfl) (by kernel_rfl) ?_
      simp only [go_sem, lns]
      refine vCall_of (hG) ?_ ?_ ?_; (focus simp only [go_sem, lns]); (focus simp only [go_sem, lns])
      simp only [go_sem, refs]
      refine vCall_of (hI) ?_ ?_ ?_; (focus simp only [go_sem, refs, ref]); (focus simp only [go_sem, refs, ref])
      simp only [go_sem, lns]
      refine vCall_of (hC) ?_ ?_ ?_; (focus simp only [go_sem, lns]); (focus simp only [go_sem, lns])
      simp only [go_sem, refs, refb, ref_default, Bool.true_eq_false, if_false, if_true]
    | cons c cs =>
      have e0 : ((((cs.length + 1 : Nat) : Int)) == 0) = false := beq_eq_false_iff_ne.2 (by omega)
      have e1 : (0 : Int) < ((cs.length + 1 : Nat) : Int) := by omega
      have e2 : ¬ (cs.length + 1 = 0) := by omega
      refine PL.Pure.of_v Tryz.func91 (by decide) rfl Tryz.ntmps91 Tryz.results91 (by simp) (refb_dids _) ?_
      simp only [go_sem, lns, ref]
      refine vCall_of (hR) ?_ ?_ ?_; (focus simp only [go_sem, lns]); (focus simp only [go_sem, lns])
      simp only [go_sem, lns]
      refine vDrawQ (by kernel_rfl) (by kernel_rfl) ?_
      simp only [go_sem, lns]
      refine vCall_of (hG) ?_ ?_ ?_; (focus simp only [go_sem, lns]); (focus simp only [go_sem, lns])
      simp only [go_sem, refs]
      refine vCall_of (hI) ?_ ?_ ?_; (focus simp only [go_sem, refs, ref]); (focus simp only [go_sem, refs, ref])
      simp only [go_sem, lns]
      refine vCall_of (hC) ?_ ?_ ?_; (focus simp only [go_sem, lns]); (focus simp only [go_sem, lns])
      simp only [go_sem, refs, e0, e1, e2, refb, ref, Bool.true_eq_false, if_false, if_true]
def sureM (x : Ln) (r : Rf) : Bool :=
  if rightLn x = false then false else if ((comesR x).any fun a => decide (r = a)) = false then true
  else if x.kind = 1 ∨ x.kind = 4 ∨ x.kind = 5 ∨ x.kind = 9 ∨ x.kind = 10 then true else if x.kind = 8 then roundM x.ba x.fo else false
set_option maxRecDepth 20000 in
set_option maxHeartbeats 8000000 in
theorem Sure_pure (x : Ln) (r : Rf) (hx : OkLn x) : PL.Pure Tryz.prog 94 [lns x, ref r] (.bool (sureM x r)) := by
  have hR := LRight_pure x hx
  have hC := Comes_pure x hx
  unfold sureM
  cases hlr : rightLn x
  · rw [hlr] at hR
    refine PL.Pure.of_v Tryz.func94 (by decide) rfl Tryz.ntmps94 Tryz.results94 (by simp) rfl ?_
    simp only [go_sem, lns, ref]
    refine vCall_of (hR) ?_ ?_ ?_; (focus simp only [go_sem, lns]); (focus simp only [go_sem, lns])
    simp only [go_sem, if_true]
  rw [hlr] at hR
  have hc : comesM x = comesR x := by simp [comesM, hlr]
  rw [hc] at hC
  have hI := ConRef_pure (comesR x) r (by have := comesR_len x; rw [maxLen_eq]; omega)
  have hO := round_pure x.ba x.fo (by have := hx.b; rw [maxLen_eq]; omega) (by have := hx.f; rw [maxLen_eq]; omega)
  generalize (comesR x).any (fun a => decide (r = a)) = b at *
  refine PL.Pure.of_v Tryz.func94 (by decide) rfl Tryz.ntmps94 Tryz.results94 (by simp) rfl ?_
  simp only [go_sem, lns, ref]
  refine vCall_of (hR) ?_ ?_ ?_; (focus simp only [go_sem, lns]); (focus simp only [go_sem, lns])
  simp only [go_sem, lns]
  repeat' (first | (refine vGuard_t (fun h => ?_) (fun h => ?_) <;> (try simp only [go_sem, h, refs, ref])) | (refine vGuard_f (fun h => ?_) (fun h => ?_) <;> (try simp only [go_sem, h, refs, ref])) | (refine vCond_b (fun h => ?_) (fun h => ?_) <;> (try simp only [go_sem, h, refs, ref])) | ((refine vCall_of (hC) ?_ ?_ ?_); (focus simp only [go_sem, lns, refs, ref, prs]); (focus exact rfl); (try simp only [go_sem, refs, ref])) | ((refine vCall_of (hI) ?_ ?_ ?_); (focus simp only [go_sem, lns, refs, ref, prs]); (focus exact rfl); (try simp only [go_sem, refs, ref])) | ((refine vCall_of (hO) ?_ ?_ ?_); (focus simp only [go_sem, lns, refs, ref, prs]); (focus exact rfl); (try simp only [go_sem, refs, ref])) | ((refine vDrawQ (by kernel_rfl) (by kernel_rfl) ?_); (try simp only [go_sem, refs, ref])))
  all_goals (clear hR hC hI hO hx; simp_all)
def invR (x : Ln) : Ln :=
  if x.kind = 1 then ⟨1, ⟨x.at'.sc, x.at'.gr, x.nm⟩, x.at'.nm, x.ot, x.fac, x.fd, x.fo, x.ba⟩
  else if x.kind = 2 then ⟨3, x.at', x.nm, x.ot, x.fac, x.fd, x.fo, x.ba⟩
  else if x.kind = 3 then ⟨2, x.at', x.nm, x.ot, x.fac, x.fd, x.fo, x.ba⟩
  else if x.kind = 4 then ⟨5, ⟨x.at'.sc, [], x.at'.nm⟩, x.at'.gr, x.ot, x.fac, x.fd, x.fo, x.ba⟩
  else if x.kind = 5 then ⟨4, ⟨x.at'.sc, x.nm, x.at'.nm⟩, [], x.ot, x.fac, x.fd, x.fo, x.ba⟩
  else if x.kind = 6 then ⟨9, x.at', x.nm, x.ot, x.fac, x.fd, x.fo, x.ba⟩
  else if x.kind = 9 then ⟨6, x.at', x.nm, x.ot, x.fac, x.fd, x.fo, x.ba⟩
  else if x.kind = 7 then ⟨10, x.at', x.nm, x.ot, x.fac, x.fd, x.fo, x.ba⟩
  else if x.kind = 10 then ⟨7, x.at', x.nm, x.ot, x.fac, x.fd, x.fo, x.ba⟩
  else if x.kind = 8 then ⟨8, x.at', x.ot, x.nm, x.fac, x.fd, x.ba, x.fo⟩ else x
def lnc (x : Ln × Int) : PV := .tup [lns x.1, .int .i64 x.2]
theorem lnc_dids (x : Ln × Int) : (lnc x).dids = [] := by simp only [lnc, PV.dids, PV.didsL, lns_dids, List.append_nil]
def invM (x : Ln) : Ln × Int := if rightLn x = false then (default, 5) else (invR x, 0)
set_option maxRecDepth 20000 in
set_option maxHeartbeats 8000000 in
theorem Inverse_pure (x : Ln) (hx : OkLn x) : PL.Pure Tryz.prog 136 [lns x] (lnc (invM x)) := by
  have hR := LRight_pure x hx
  have hO := LOwn_pure x hx
  unfold invM
  cases hlr : rightLn x
  · rw [hlr] at hR
    refine PL.Pure.of_v Tryz.func136 (by decide) rfl Tryz.ntmps136 Tryz.results136 (by simp) (lnc_dids _) ?_
    simp only [go_sem, lns]
    refine vCall_of (hR) ?_ ?_ ?_; (focus simp only [go_sem, lns]); (focus simp only [go_sem, lns])
    simp only [go_sem, if_true, lnc, lns_default]
  rw [hlr] at hR
  refine PL.Pure.of_v Tryz.func136 (by decide) rfl Tryz.ntmps136 Tryz.results136 (by simp) (lnc_dids _) ?_
  simp only [go_sem, lns]
  refine vCall_of (hR) ?_ ?_ ?_; (focus simp only [go_sem, lns]); (focus simp only [go_sem, lns])
  simp only [go_sem, lns]
  refine vCall_of (hO) ?_ ?_ ?_; (focus simp only [go_sem, lns]); (focus simp only [go_sem, lns])
  simp only [go_sem, lns]
  repeat' (first | (refine vGuard_t (fun h => ?_) (fun h => ?_) <;> (try simp only [go_sem, h])) | (refine vGuard_f (fun h => ?_) (fun h => ?_) <;> (try simp only [go_sem, h])) | (refine vCond_b (fun h => ?_) (fun h => ?_) <;> (try simp only [go_sem, h])) | ((refine vDrawS [(1, 4)] (by kernel_rfl) (by kernel_rfl) (by exact rfl) ?_); (try simp only [go_sem])) | ((refine vDrawQ (by kernel_rfl) (by kernel_rfl) ?_); (try simp only [go_sem])))
  all_goals (simp only [beq_iff_eq, beq_eq_false_iff_ne, ne_eq] at *; clear hR hO hx; simp [invR, lnc, lns, *])
def placeI (l : List Rf) (r : Rf) : Int := idx (fun a => decide (r = a)) l
theorem placeI_cases (l : List Rf) (r : Rf) : placeI l r = -1 ∨ ∃ g : Nat, g < l.length ∧ placeI l r = (g : Int) := idx_cases _ _
end Go.Proofs.YtcomkajmhlhphaaGreat

set_option linter.unusedSimpArgs false
set_option linter.unusedVariables false
set_option linter.unusedSimpArgs false
set_option linter.unusedVariables false
namespace Go.Proofs.YtcomkajmhlhphaaGreat
open Go.PL
theorem atF_idx (l : List Fd) (r : Rf) : (idx (atF r) l = -1 ∧ ∀ g ∈ l, g.at' ≠ r) ∨ ∃ i : Nat, ∃ h : i < l.length, idx (atF r) l = (i : Int) ∧ (l[i]).at' = r := by
  unfold idx
  cases hf : l.findIdx? (atF r) with
  | none =>
    left
    refine ⟨rfl, fun g hg e => ?_⟩
    rw [List.findIdx?_eq_none_iff] at hf
    have := hf g hg
    simp [atF, e] at this
  | some i =>
    right
    rw [List.findIdx?_eq_some_iff_getElem] at hf
    obtain ⟨h1, h2, _⟩ := hf
    exact ⟨i, h1, rfl, by simpa [atF] using h2⟩
theorem find_mem {l : List Fd} (h : Rise l) {f : Fd} (hf : f ∈ l) : findF l f.at' = (f, 0) := by
  unfold findF
  rcases atF_idx l f.at' with ⟨_, h2⟩ | ⟨i, hi, h1, h2⟩
  · exact absurd rfl (h2 f hf)
  · rw [h1, if_neg (by omega)]
    simp only [Int.toNat_natCast]
    rw [getD_lt hi]
    rw [rise_at h (List.getElem_mem hi) hf h2]
theorem find_zero {l : List Fd} {r : Rf} (h : (findF l r).2 = 0) : (findF l r).1 ∈ l ∧ (findF l r).1.at' = r := by
  unfold findF at *
  rcases atF_idx l r with ⟨h1, _⟩ | ⟨i, hi, h1, h2⟩
  · rw [h1] at h; simp at h
  · rw [h1, if_neg (by omega)]
    simp only [Int.toNat_natCast]
    rw [getD_lt hi]
    exact ⟨List.getElem_mem hi, h2⟩
theorem wo_fwd {l : List Fd} {r : Rf} (h : (withoutM l r).2 = 0) : rightL l = true ∧ (∃ f ∈ l, f.at' = r) ∧ rightL (withoutM l r).1 = true ∧ (∀ g, g ∈ (withoutM l r).1 ↔ g ∈ l ∧ g.at' ≠ r) ∧ (withoutM l r).1.length + 1 = l.length := by
  unfold withoutM at *
  cases hr : rightL l with
  | false => rw [hr] at h; simp at h
  | true =>
    rcases atF_idx l r with ⟨h1, _⟩ | ⟨i, hi, h1, h2⟩
    · rw [hr, h1] at h; simp at h
    · simp only [h1, Bool.true_eq_false, if_false, show ¬ (i : Int) < 0 by omega, Int.toNat_natCast]
      obtain ⟨k1, k2, k3⟩ := right_iff.1 hr
      have hsub : (l.eraseIdx i).Sublist l := List.eraseIdx_sublist _ _
      have hlen : (l.eraseIdx i).length + 1 = l.length := by rw [List.length_eraseIdx_of_lt hi]; omega
      refine ⟨trivial, ⟨_, List.getElem_mem hi, h2⟩, right_iff.2 ⟨by omega, List.Pairwise.sublist hsub k2, fun f hf => k3 f (hsub.mem hf)⟩, fun g => ?_, hlen⟩
      rw [List.mem_eraseIdx_iff_getElem]
      constructor
      · rintro ⟨j, hj, hne, rfl⟩
        refine ⟨List.getElem_mem hj, fun e => ?_⟩
        have e2 := rise_at k2 (List.getElem_mem hj) (List.getElem_mem hi) (e.trans h2.symm)
        rcases Nat.lt_trichotomy j i with q | q | q
        · have := List.pairwise_iff_getElem.1 k2 j i hj hi q
          rw [e2, lb_irrefl] at this; cases this
        · exact hne q
        · have := List.pairwise_iff_getElem.1 k2 i j hi hj q
          rw [e2, lb_irrefl] at this; cases this
      · rintro ⟨hg, hne⟩
        obtain ⟨j, hj, rfl⟩ := List.getElem_of_mem hg
        exact ⟨j, hj, fun e => hne (by subst e; exact h2), rfl⟩
theorem wo_bwd {l : List Fd} {r : Rf} (hr : rightL l = true) (h : ∃ f ∈ l, f.at' = r) : (withoutM l r).2 = 0 := by
  obtain ⟨f, hf, e⟩ := h
  unfold withoutM
  rcases atF_idx l r with ⟨_, h2⟩ | ⟨i, hi, h1, h2⟩
  · exact absurd e (h2 f hf)
  · simp [hr, h1, show ¬ (i : Int) < 0 by omega]
theorem go_fwd : ∀ {rs : List Rf} {l m : List Fd}, rightL l = true → goAll rs l = some m → rightL m = true ∧ (∀ g, g ∈ m ↔ g ∈ l ∧ g.at' ∉ rs) ∧ (∀ r ∈ rs, ∃ f ∈ l, f.at' = r) ∧ rs.Nodup ∧ m.length + rs.length = l.length
  | [], l, m, hr, h => by cases h; exact ⟨hr, by simp, by simp, by simp, by simp⟩
  | r :: rs, l, m, hr, h => by
    unfold goAll at h
    split at h
    · cases h
    · rename_i hz
      obtain ⟨a1, a2, a3, a4, a5⟩ := wo_fwd (by simpa using hz)
      obtain ⟨b1, b2, b3, b4, b5⟩ := go_fwd a3 h
      refine ⟨b1, fun g => ?_, fun q hq => ?_, List.nodup_cons.2 ⟨fun hin => ?_, b4⟩, by simp only [List.length_cons]; omega⟩
      · rw [b2, a4]
        simp only [List.mem_cons, not_or]
        exact ⟨fun h => ⟨h.1.1, h.1.2, h.2⟩, fun h => ⟨⟨h.1, h.2.1⟩, h.2.2⟩⟩
      · rcases List.mem_cons.1 hq with rfl | hq
        · exact a2
        · obtain ⟨f, hf, e⟩ := b3 q hq
          exact ⟨f, ((a4 f).1 hf).1, e⟩
      · obtain ⟨f, hf, e⟩ := b3 r hin
        exact ((a4 f).1 hf).2 e
theorem apply_fwd {l m : List Fd} {x : Ln} (h : applyM l x = (m, 0)) : rightL l = true ∧ rightLn x = true ∧ ∃ cs l1, arrM l x = (cs, true) ∧ goAll (goesR x) l = some l1 ∧ comeAll cs l1 = some m := by
  unfold applyM at h
  split at h
  · simp at h
  · rename_i hh
    simp only [not_or, Bool.not_eq_false] at hh
    refine ⟨hh.1, hh.2, ?_⟩
    split at h
    · simp at h
    · rename_i k hk
      simp only [Prod.mk.injEq, and_true] at h
      subst h
      unfold applyR at hk
      split at hk
      · cases hk
      · rename_i ha
        obtain ⟨l1, h1, h2⟩ := Option.bind_eq_some_iff.1 hk
        refine ⟨(arrM l x).1, l1, ?_, h1, h2⟩
        have : (arrM l x).2 = true := by simpa using ha
        rw [← this]
end Go.Proofs.YtcomkajmhlhphaaGreat
