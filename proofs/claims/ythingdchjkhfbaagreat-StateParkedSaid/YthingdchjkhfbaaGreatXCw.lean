/- Contracts of functions and laws of this seat, each for every input that it names: lemmas of the proof. -/
import Derived.Test.YthingdchjkhfbaaGreatXCt
import Derived.Test.YthingdchjkhfbaaGreatPlH
import Derived.Test.YthingdchjkhfbaaGreatXBb
set_option linter.unusedSimpArgs false
set_option linter.unusedVariables false
set_option linter.unusedSimpArgs false
set_option linter.unusedVariables false
namespace Go.Proofs.YthingdchjkhfbaaGreat
open Go.PL
open Go.Shelf Go.RowKit Go.Lib Go.Sort
def flatStr : Flat Str where
 p := .str
 v := fun s => [.string ⟨⟨s⟩⟩]
 sz := 1
 pos := by decide
 hp := fun _ => rfl
 hv := fun _ => rfl
 to := fun S x j u hj h => by
  match j, hj with
  | 0, _ => cases h; rfl
 of := fun S x j hj => by
  match j, hj with
  | 0, _ => exact .str _
theorem cellS {w : World} {b o : Nat} {vs : List Value} {e : TypeId} (h : w.heap[b]? = some (.cells ⟨vs⟩ e (0, 0))) (ho : o < vs.length) : w.cell? ⟨b, o, none⟩ = some (vs.getD o undef) := by
 rw [cell_of h, List.getElem?_eq_getElem ho, PL.getD_lt ho]
theorem getS (xs : List Str) (j : Nat) (h : j < xs.length) : xs.toArray[j]! = xs.getD j default := by
 rw [PL.getD_lt h]
 simp [h]
theorem raw_holdsS {w : World} {b : Nat} {xs : List Str} {e : TypeId} {vs : List Value} (hw : w.heap[b]? = some (.cells ⟨vs⟩ e (0, 0))) (hl : xs.length * flatStr.sz ≤ vs.length)
  (hv : ∀ i j, i < xs.length → j < flatStr.sz → vs.getD (i * flatStr.sz + j) undef = (flatStr.v (xs.getD i default)).getD j undef) : Holds encStr w b 0 xs.toArray := by
 intro j hj
 have hj' : j < xs.length := by simpa using hj
 have hl' : xs.length ≤ vs.length := by simpa [flatStr] using hl
 have h1 := hv j 0 hj' (by decide)
 simp only [flatStr, Nat.mul_one, Nat.add_zero, List.getD_cons_zero] at h1
 rw [Nat.zero_add, getS xs j hj']
 refine ⟨?_, ?_⟩
 ·rw [cellS hw (by omega), h1]
 ·simp [World.frozen?, hw]
theorem raw_putS {w : World} {b c n lo : Nat} {xs ys rest : List Str} {e : TypeId} {vs : List Value} {os : Array Obj} (hlo : lo ≤ b) (hc : xs.length ≤ c) (hw : w.heap[b]? = some (.cells ⟨vs⟩ e (0, 0))) (hl : xs.length * flatStr.sz ≤ vs.length) (hy : (ys ++ rest).length = xs.length) :
  RawRow flatStr (grow (putRow encStr (Sort.ahead w n) b 0 (ys ++ rest).toArray) os) lo ys (.slice (some ⟨b, 0, none⟩) ys.length c) ∧ BelowF (fun k => k < lo) w (grow (putRow encStr (Sort.ahead w n) b 0 (ys ++ rest).toArray) os) := by
 have hb : b < w.heap.size := (Array.getElem?_eq_some_iff.1 hw).1
 have hl' : xs.length ≤ vs.length := by simpa [flatStr] using hl
 have hyl : ys.length ≤ xs.length := by rw [← hy]; simp
 have hs : (grow (putRow encStr (Sort.ahead w n) b 0 (ys ++ rest).toArray) os).heap = w.heap.modify b (onCells (putCells encStr 0 (ys ++ rest).toArray)) ++ os := rfl
 have hat : ∀ k, k < w.heap.size → (grow (putRow encStr (Sort.ahead w n) b 0 (ys ++ rest).toArray) os).heap[k]? = (w.heap.modify b (onCells (putCells encStr 0 (ys ++ rest).toArray)))[k]? := fun k hk => by
  rw [hs, Array.getElem?_append_left (by simpa using hk)]
 refine ⟨.inr ⟨b, c, e, (putCells encStr 0 (ys ++ rest).toArray ⟨vs⟩).toList, hlo, rfl, by omega, ?_, ?_, fun i j hi hj => ?_⟩, ?_⟩
 ·rw [hat b hb, Array.getElem?_modify, if_pos rfl, hw]; rfl
 ·show ys.length * 1 ≤ _
  simp only [putCells, Array.length_toList, Array.size_mapIdx, List.size_toArray]; omega
 ·have hj0 : j = 0 := by have : j < 1 := hj; omega
  subst hj0
  have hiv : i < vs.length := by omega
  show (putCells encStr 0 (ys ++ rest).toArray ⟨vs⟩).toList.getD (i * 1 + 0) undef = [Value.string ⟨⟨ys.getD i default⟩⟩].getD 0 undef
  simp only [Nat.mul_one, Nat.add_zero, List.getD_cons_zero]
  rw [PL.getD_lt (by simpa [putCells] using hiv)]
  simp only [putCells, Array.getElem_toList, Array.getElem_mapIdx]
  rw [if_pos ⟨Nat.zero_le _, by simp; omega⟩]
  simp only [Nat.sub_zero]
  rw [getS (ys ++ rest) i (by simp; omega), PL.getD_lt (by simp; omega), PL.getD_lt hi, List.getElem_append_left hi]
 ·refine ⟨rfl, rfl, rfl, ?_, fun k hk => ?_⟩
  ·rw [hs]; simp
  ·have hk' : k < lo := hk
   rw [hat k (by omega), Array.getElem?_modify, if_neg (by omega)]
def sortS (xs : List Str) : List Str := xs.mergeSort fun x y => decide (x ≤ y)
theorem sort_callS (xs : List Str) (lo : Nat) (w : World) (v : Value) (hx : xs.length ≤ 1000000) (hr : RawRow flatStr w lo xs v) (hlo : lo ≤ w.heap.size) :
  Calls Tryz.prog 70 #[v] w fun e w' => e = .returned (.tuple #[]) ∧ RawRow flatStr w' lo (sortS xs) v ∧ BelowF (fun k => k < lo) w w' := by
 rcases hr with ⟨h0, rfl⟩ | ⟨b, c, e, vs, h1, rfl, h3, h4, h5, h6⟩
 ·obtain rfl := List.length_eq_zero_iff.1 h0
  refine (Any.slices_Sort_string_none sortStr none 0 w).mono fun e w' ⟨he, hw⟩ => ?_
  subst hw
  exact ⟨he, .inl ⟨by simp [sortS], rfl⟩, BelowF.refl _ _⟩
 ·have hb : b < w.heap.size := (Array.getElem?_eq_some_iff.1 h4).1
  refine (Any.slices_Sort_string sortStr b 0 c xs w (raw_holdsS h4 h5 h6) hb (by omega)).mono fun e w' ⟨he, n, os, hw⟩ => ⟨he, ?_⟩
  have hly : (sortS xs ++ []).length = xs.length := by simp [sortS]
  have hrs := raw_putS (ys := sortS xs) (rest := []) (n := n) (os := os) h1 h3 h4 h5 hly
  rw [List.append_nil] at hrs hly
  rw [hly] at hrs
  rw [hw]
  exact hrs
theorem compact_len (xs : List Str) : (Lib.compact xs).length ≤ xs.length := by
 unfold Lib.compact Lib.compactUpTo
 rw [List.length_map]
 exact Nat.le_trans (List.length_filter_le _ _) (by simp)
theorem comp_callS (xs : List Str) (lo : Nat) (w : World) (v : Value) (hx : xs.length ≤ 1000000) (hr : RawRow flatStr w lo xs v) :
  Calls Tryz.prog 71 #[v] w fun e w' => ∃ u, e = .returned u ∧ RawRow flatStr w' lo (Lib.compact xs) u ∧ BelowF (fun k => k < lo) w w' := by
 rcases hr with ⟨h0, rfl⟩ | ⟨b, c, e, vs, h1, rfl, h3, h4, h5, h6⟩
 ·obtain rfl := List.length_eq_zero_iff.1 h0
  refine (Any.slices_Compact_string_empty compStr none 0 w).mono fun e w' ⟨he, hw⟩ => ?_
  subst hw
  exact ⟨_, he, .inl ⟨by have := compact_len []; simpa using this, rfl⟩, BelowF.refl _ _⟩
 ·refine (Any.slices_Compact_string compStr b 0 c xs w (raw_holdsS h4 h5 h6) (by omega) h3).mono fun e w' ⟨he, n, hw⟩ => ⟨_, he, ?_⟩
  have hcl := compact_len xs
  have hrs := raw_putS (ys := Lib.compact xs) (rest := List.replicate (xs.length - (Lib.compact xs).length) []) (n := n) (os := #[]) h1 h3 h4 h5 (by simp; omega)
  have hg : ∀ W : World, grow W #[] = W := fun W => by simp [grow]
  rw [hg] at hrs
  rw [hw]
  exact hrs
def namesM (l : List Opn) (c : Str) : List Str := (l.filter fun o => o.kind == 1 && o.cart == c).map Opn.item
def itemsM (l : List Opn) (c : Str) : List Str := Lib.compact (sortS (namesM l c))
theorem namesM_snoc {l : List Opn} {k : Nat} (c : Str) (h : k < l.length) : namesM (l.take (k + 1)) c = namesM (l.take k) c ++ (if ((l.getD k default).kind == 1 && (l.getD k default).cart == c) = true then [(l.getD k default).item] else []) := by
 unfold namesM
 rw [take_snoc (d := default) h, List.filter_append, List.map_append]
 congr 1
 generalize l.getD k default = x
 cases hr : (x.kind == 1 && x.cart == c)
 ·rw [List.filter_cons_of_neg (by rw [hr]; simp), if_neg (by simp)]; rfl
 ·rw [List.filter_cons_of_pos (by exact hr), if_pos rfl]; rfl
theorem namesM_len (l : List Opn) (c : Str) : (namesM l c).length ≤ l.length := by unfold namesM; rw [List.length_map]; exact List.length_filter_le _ _
theorem sized_strL (l : List Str) : Sized 1 (l.map .str) := fun e he => by
 obtain ⟨o, _, rfl⟩ := List.mem_map.1 he; rfl
set_option maxRecDepth 20000 in
set_option maxHeartbeats 4000000 in
theorem items_told (l : List Opn) (ct : Str) (hl : l.length ≤ 100000) {c : Code} (hc : Tryz.f38.body = some c) : tawp Tryz.prog (fun s => s.n = 33 ∧ s.fr 5 = .sl (.row 27) ((namesM l ct).map .str) ∧ s.m.q 27 = some (.live (namesM l ct).length 1 9)) 3 c (St.init [opvs l, .str ct] 33) := by
 cases hc
 have hlm : l.length ≤ maxLen := by rw [maxLen_eq]; omega
 refine tawp_seq ?_
 simp only [go_sem]
 refine tawp_seq ?_
 simp only [go_sem]
 refine tawp_seq ?_
 simp only [go_sem, opvs]
 refine awp_nilRow 5 27 1 9 rfl rfl ?_
 refine vLoopM (ι := { x : Nat // x ≤ (l).length }) 33 (fun x => [(1, .str ct), (5, .sl (.row 27) ((namesM (l.take x.1) ct).map .str)), (8, opvs l), (9, .int .i64 (l.length : Int)), (10, .int .i64 (x.1 : Int))]) (fun x => []) (fun x => [(27, .live ((namesM (l.take x.1) ct).length) (1) (9))]) (fun x => (l).length - x.1) ⟨0, Nat.zero_le _⟩ ⟨rfl, (fcs rfl (fcs rfl (fcs rfl (fcs rfl (fcs rfl fnl))))), fnl, (fcs rfl fnl)⟩ (fun x => ⟨(fcs rfl (fcs (by simp [PV.ids, refInM]) (fcs rfl (fcs rfl (fcs rfl fnl))))), fnl⟩) (fun x => ?_); obtain ⟨k, hk⟩ := x; simp only at hk ⊢
 by_cases h : (k : Int) < (l.length : Int)
 ·(have hka : k < (l).length := by omega); (have w1 := w64s hka (hlm)); (have i1 : (0 : Int) ≤ (k : Int) := by omega)
  have hsn := namesM_snoc ct hka
  have hnl := namesM_len (l.take k) ct
  have htl : (l.take k).length ≤ k := List.length_take_le _ _
  have hrm := room1 (show (namesM (l.take k) ct).length + 1 ≤ 1000000 by omega) (show 16 ≤ 1000 by omega)
  have hml : ((namesM (l.take k) ct).map PV.str).length = (namesM (l.take k) ct).length := List.length_map _
  have hsz := sized_strL (namesM (l.take k) ct)
  generalize hx : l.getD k default = x at *
  cases k1 : (x.kind == 1)
  ·rw [k1, Bool.false_and, if_neg (by simp), List.append_nil] at hsn
   simp only [go_sem, opvs, h, getD_op hka, hx, opv, i1, k1, w1]
   exact ⟨⟨k + 1, by omega⟩, by show l.length - (k + 1) < l.length - k; omega, ⟨rfl, by simp only; rw [hsn]; exact (fcs rfl (fcs rfl (fcs rfl (fcs rfl (fcs rfl fnl))))), fnl, by simp only; rw [hsn]; exact fcs rfl fnl⟩⟩
  ·cases k2 : (x.cart == ct)
   ·rw [k1, k2, Bool.and_false, if_neg (by simp), List.append_nil] at hsn
    simp only [go_sem, opvs, h, getD_op hka, hx, opv, i1, k1, k2, w1]
    exact ⟨⟨k + 1, by omega⟩, by show l.length - (k + 1) < l.length - k; omega, ⟨rfl, by simp only; rw [hsn]; exact (fcs rfl (fcs rfl (fcs rfl (fcs rfl (fcs rfl fnl))))), fnl, by simp only; rw [hsn]; exact fcs rfl fnl⟩⟩
   ·rw [k1, k2, Bool.and_self, if_pos rfl] at hsn
    simp only [go_sem, opvs, h, getD_op hka, hx, opv, i1, k1, k2, w1, hml, hsz, hrm]
    exact ⟨⟨k + 1, by omega⟩, by show l.length - (k + 1) < l.length - k; omega, ⟨rfl, by simp only; rw [hsn, List.map_append]; exact (fcs rfl (fcs rfl (fcs rfl (fcs rfl (fcs rfl fnl))))), fnl, by simp only; rw [hsn, List.length_append]; exact fcs rfl fnl⟩⟩
 ·have htk : l.take k = l := List.take_of_length_le (by omega)
  simp only [go_sem, opvs, h, htk]
  exact ⟨rfl, rfl, rfl⟩
theorem items_pure (l : List Opn) (ct : Str) (hl : l.length ≤ 100000) : PL.Pure Tryz.prog 38 [opvs l, .str ct] (.sl .no ((itemsM l ct).map .str)) := by
 have hnl := namesM_len l ct
 refine PL.Pure.tail flatStr (k := 3) (i := 5) (d := 27) (N := 33) (G := fun xs => xs = namesM l ct) (g := fun xs => Lib.compact (sortS xs)) Tryz.func38 (by decide) rfl (by show 2 ≤ 33; decide) (by simp only [PV.dids, didsL_str]) (items_told l ct hl rfl) (fun s ⟨h2, h3, h4⟩ => ⟨namesM l ct, _, rfl, h2, h3, h4⟩) ?_ (fun xs h => by rw [h]; rfl)
 intro xs lo a w hG hd hN hr hlo
 subst hG
 have hcall := sort_callS _ lo w _ (by omega) hr hlo
 refine wp_sort_comp (N := 33) hN (by decide) (by decide) (by decide) (by decide) (by decide) (by decide) (by decide) Tryz.func70 (by decide) (by intro h; cases h) Tryz.func71 (by decide) (by intro h; cases h) ?_
 refine hcall.mono fun e w' ⟨he, h1, h2⟩ => ⟨_, he, ?_⟩
 refine (comp_callS _ lo w' _ (by simp [sortS]; omega) h1).mono fun e w'' ⟨u, he, h3, h4⟩ => ⟨u, he, fun a' hd' hr' => ⟨.inr rfl, by rw [hd', hd], ?_⟩⟩
 exact ⟨a'.tmps.getD 4 undef, Go.results_tmp rfl _ _ _, by rw [hr']; exact h3, h2.trans h4⟩
end Go.Proofs.YthingdchjkhfbaaGreat
set_option linter.unusedSimpArgs false
set_option linter.unusedVariables false
set_option linter.unusedSimpArgs false
set_option linter.unusedVariables false
namespace Go.Proofs.YthingdchjkhfbaaGreat
open Go.PL
def plusV (a b : Int) : PV := if fitsI a = true ∧ fitsI b = true then .tup [.cpx .f64 (flOf a) (flOf b), .int .i64 0] else .tup [.cpx .f64 0 0, .int .i64 3]
theorem flOf_zero : flOf 0 = 0 := by decide +kernel
set_option maxHeartbeats 4000000 in
theorem Plus_pure (a b c d : Int) (ha : Lim a) (hb : Lim b) (hc : Lim c) (hd : Lim d) : PL.Pure Tryz.prog 110 [.cpx .f64 (flOf a) (flOf b), .cpx .f64 (flOf c) (flOf d)] (plusV (a + c) (b + d)) := by
 have hW1 := Whole_pure a b ha hb
 have hW2 := Whole_pure c d hc hd
 have hP1 := Parts_pure a b ha hb
 have hP2 := Parts_pure c d hc hd
 have hO := Of_pure (a + c) (b + d)
 have w1 : IntKind.i64.wrap (a + c) = a + c := w64 (by obtain ⟨_, _⟩ := ha; obtain ⟨_, _⟩ := hc; omega)
 have w2 : IntKind.i64.wrap (b + d) = b + d := w64 (by obtain ⟨_, _⟩ := hb; obtain ⟨_, _⟩ := hd; omega)
 unfold plusV
 generalize fitsI (a + c) = x at *
 generalize fitsI (b + d) = y at *
 by_cases h : x = true ∧ y = true
 ·rw [if_pos h] at hO ⊢
  refine PL.Pure.of_v Tryz.func110 (by decide) rfl Tryz.ntmps110 Tryz.results110 (by simp) rfl ?_
  simp only [go_sem]
  refine vCall_of (hW1) ?_ ?_ ?_; iterate 2 simp only [go_sem]
  simp only [go_sem]
  refine vCall_of (hW2) ?_ ?_ ?_; iterate 2 simp only [go_sem]
  simp only [go_sem]
  refine vCall_of (hP1) ?_ ?_ ?_; iterate 2 simp only [go_sem]
  simp only [go_sem]
  refine vCall_of (hP2) ?_ ?_ ?_; iterate 2 simp only [go_sem]
  simp only [go_sem, w1, w2]
  refine vCall_of (hO) ?_ ?_ ?_; iterate 2 simp only [go_sem]
  simp only [go_sem]
 ·rw [if_neg h] at hO ⊢
  refine PL.Pure.of_v Tryz.func110 (by decide) rfl Tryz.ntmps110 Tryz.results110 (by simp) rfl ?_
  simp only [go_sem]
  refine vCall_of (hW1) ?_ ?_ ?_; iterate 2 simp only [go_sem]
  simp only [go_sem]
  refine vCall_of (hW2) ?_ ?_ ?_; iterate 2 simp only [go_sem]
  simp only [go_sem]
  refine vCall_of (hP1) ?_ ?_ ?_; iterate 2 simp only [go_sem]
  simp only [go_sem]
  refine vCall_of (hP2) ?_ ?_ ?_; iterate 2 simp only [go_sem]
  simp only [go_sem, w1, w2]
  refine vCall_of (hO) ?_ ?_ ?_; iterate 2 simp only [go_sem]
  simp only [go_sem]
def stepT (s : Int) (o : Opn) : Int := if o.kind = 3 ∧ fitsI o.delta = true ∧ fitsI (s + o.delta) = true then s + o.delta else s
def totM (l : List Opn) : Int := l.foldl stepT 0
theorem stepT_lim {s : Int} {o : Opn} (h : Lim s) : Lim (stepT s o) := by
 unfold stepT
 split
 ·rename_i h2; exact fitsI_iff.1 h2.2.2
 ·exact h
theorem totM_lim : ∀ (l : List Opn) {s : Int}, Lim s → Lim (l.foldl stepT s)
 | [], s, h => h
 | o :: l, s, h => totM_lim l (stepT_lim h)
theorem lim0 : Lim 0 := by unfold Lim; omega
theorem totM_snoc {l : List Opn} {k : Nat} (h : k < l.length) : totM (l.take (k + 1)) = stepT (totM (l.take k)) (l.getD k default) := by
 unfold totM
 rw [take_snoc (d := default) h, List.foldl_append]
 rfl
set_option maxRecDepth 20000 in
set_option maxHeartbeats 8000000 in
theorem total_pure (l : List Opn) (hl : l.length ≤ maxLen) : PL.Pure Tryz.prog 69 [opvs l] (.int .i64 (totM l)) := by
 have f0 : fitsI 0 = true := by decide
 have hP := Parts_pure (totM l) 0 (totM_lim l lim0) lim0
 have hl2 := hl
 rw [maxLen_eq] at hl2
 refine PL.Pure.of_v Tryz.func69 (by decide) rfl Tryz.ntmps69 Tryz.results69 (by simp) rfl ?_
 simp only [go_sem, opvs]
 refine vLoopM (ι := { k : Nat // k ≤ l.length }) 47 (fun x => [(3, .cpx .f64 (flOf (totM (l.take x.1))) (flOf 0)), (13, opvs l), (14, .int .i64 (l.length : Int)), (15, .int .i64 (x.1 : Int))]) (fun x => []) (fun x => []) (fun x => l.length - x.1) ⟨0, Nat.zero_le _⟩
  ⟨rfl, fcs (by show PV.cpx .f64 0 0 = PV.cpx .f64 (flOf 0) (flOf 0); rw [flOf_zero]) (fcs rfl (fcs rfl (fcs rfl fnl))), fnl, fnl⟩ (fun x => ⟨(fcs rfl (fcs rfl (fcs rfl (fcs rfl fnl)))), fnl⟩) (fun x => ?_)
 obtain ⟨k, hk⟩ := x
 simp only
 by_cases h : (k : Int) < (l.length : Int)
 ·have hka : k < l.length := by omega
  have i1 : (0 : Int) ≤ (k : Int) := by omega
  have w1 : IntKind.i64.wrap ((k : Int) + 1) = ((k + 1 : Nat) : Int) := by rw [w64 (by omega)]; rfl
  have hsn := totM_snoc hka
  have hs : Lim (totM (l.take k)) := totM_lim _ lim0
  generalize totM (l.take k) = s at *
  generalize hx : l.getD k default = x at *
  by_cases k3 : x.kind = 3
  ·have e3 : (x.kind != 3) = false := by simpa using k3
   have hO := Of_pure x.delta 0
   cases f1 : fitsI x.delta
   ·rw [f1] at hO
    have hz : stepT s x = s := by unfold stepT; rw [if_neg (by rw [f1]; simp)]
    rw [hz] at hsn
    simp only [Bool.false_eq_true, false_and, if_false] at hO
    simp only [go_sem, opvs, h, getD_op hka, hx, opv, i1, e3]
    refine vCall_of (hO) ?_ ?_ ?_; iterate 2 simp only [go_sem]
    simp only [go_sem, w1]
    exact ⟨⟨k + 1, by omega⟩, by show l.length - (k + 1) < l.length - k; omega, ⟨rfl, fcs (by simp only; rw [hsn]; rfl) (fcs rfl (fcs rfl (fcs rfl fnl))), fnl, fnl⟩⟩
   ·have hd : Lim x.delta := fitsI_iff.1 f1
    rw [f1, f0] at hO
    simp only [and_self, if_true] at hO
    have hPl := Plus_pure s 0 x.delta 0 hs lim0 hd lim0
    cases f2 : fitsI (s + x.delta)
    ·have hz : stepT s x = s := by unfold stepT; rw [if_neg (by rw [f2]; simp)]
     rw [hz] at hsn
     unfold plusV at hPl
     rw [f2] at hPl
     simp only [Bool.false_eq_true, false_and, if_false] at hPl
     simp only [go_sem, opvs, h, getD_op hka, hx, opv, i1, e3]
     refine vCall_of (hO) ?_ ?_ ?_; iterate 2 simp only [go_sem]
     simp only [go_sem]
     refine vCall_of (hPl) ?_ ?_ ?_; iterate 2 simp only [go_sem]
     simp only [go_sem, w1]
     exact ⟨⟨k + 1, by omega⟩, by show l.length - (k + 1) < l.length - k; omega, ⟨rfl, fcs (by simp only; rw [hsn]; rfl) (fcs rfl (fcs rfl (fcs rfl fnl))), fnl, fnl⟩⟩
    ·have hz : stepT s x = s + x.delta := by unfold stepT; rw [if_pos ⟨k3, f1, f2⟩]
     rw [hz] at hsn
     unfold plusV at hPl
     rw [f2, show fitsI (0 + 0) = true by decide] at hPl
     simp only [and_self, if_true, Int.zero_add] at hPl
     simp only [go_sem, opvs, h, getD_op hka, hx, opv, i1, e3]
     refine vCall_of (hO) ?_ ?_ ?_; iterate 2 simp only [go_sem]
     simp only [go_sem]
     refine vCall_of (hPl) ?_ ?_ ?_; iterate 2 simp only [go_sem]
     simp only [go_sem, w1]
     exact ⟨⟨k + 1, by omega⟩, by show l.length - (k + 1) < l.length - k; omega, ⟨rfl, fcs (by simp only; rw [hsn]; rfl) (fcs rfl (fcs rfl (fcs rfl fnl))), fnl, fnl⟩⟩
  ·have e3 : (x.kind != 3) = true := by simpa using k3
   have hz : stepT s x = s := by unfold stepT; rw [if_neg (fun hh => k3 hh.1)]
   rw [hz] at hsn
   simp only [go_sem, opvs, h, getD_op hka, hx, opv, i1, e3, w1]
   exact ⟨⟨k + 1, by omega⟩, by show l.length - (k + 1) < l.length - k; omega, ⟨rfl, fcs (by simp only; rw [hsn]; rfl) (fcs rfl (fcs rfl (fcs rfl fnl))), fnl, fnl⟩⟩
 ·have htk : l.take k = l := List.take_of_length_le (by omega)
  simp only [go_sem, opvs, h, htk]
  refine vCall_of (hP) ?_ ?_ ?_; iterate 2 simp only [go_sem]
  simp only [go_sem]
def textsM (l : List Opn) : List Str := (l.filter fun o => o.kind == 4 && o.has).map Opn.text
theorem textsM_snoc {l : List Opn} {k : Nat} (h : k < l.length) : textsM (l.take (k + 1)) = textsM (l.take k) ++ (if ((l.getD k default).kind == 4 && (l.getD k default).has) = true then [(l.getD k default).text] else []) := by
 unfold textsM
 rw [take_snoc (d := default) h, List.filter_append, List.map_append]
 congr 1
 generalize l.getD k default = x
 cases hr : (x.kind == 4 && x.has)
 ·rw [List.filter_cons_of_neg (by rw [hr]; simp), if_neg (by simp)]; rfl
 ·rw [List.filter_cons_of_pos (by exact hr), if_pos rfl]; rfl
theorem textsM_len (l : List Opn) : (textsM l).length ≤ l.length := by unfold textsM; rw [List.length_map]; exact List.length_filter_le _ _
def valE (f : Fd) (ops : List Opn) : En :=
 if f.kind = 1 then ⟨f.at', totM ops, (valueM f).l⟩
 else ⟨f.at', 0, if f.kind = 4 then textsM ops else if (textsM ops).length = 0 then (valueM f).l else [(textsM ops).getD ((textsM ops).length - 1) []]⟩
set_option maxRecDepth 20000 in
set_option maxHeartbeats 16000000 in
theorem value_pure (f : Fd) (l : List Opn) (hl : l.length ≤ 100000) : PL.Pure Tryz.prog 37 [fld f, opvs l] (ent (valE f l)) := by
 have hV := Value_pure f
 have hlm : l.length ≤ maxLen := by rw [maxLen_eq]; omega
 have hT := total_pure l hlm
 have hva : (valueM f).at' = f.at' := rfl
 have hvn : (valueM f).n = 0 := rfl
 unfold valE
 generalize valueM f = v at *
 obtain ⟨va, vn, vl⟩ := v
 simp only at hva hvn
 subst hva hvn
 by_cases k1 : f.kind = 1
 ·have e1 : (f.kind == 1) = true := by simpa using k1
  rw [if_pos k1]
  refine PL.Pure.of_v Tryz.func37 (by decide) rfl Tryz.ntmps37 Tryz.results37 (by simp) (ent_dids _) ?_
  simp only [go_sem, fld, opvs]
  refine vCall_of (hV) ?_ ?_ ?_; iterate 2 simp only [go_sem, fld]
  simp only [go_sem, ent, e1]
  refine vCall_of (hT) ?_ ?_ ?_; iterate 2 simp only [go_sem, opvs]
  simp only [go_sem, ent]
 ·have e1 : (f.kind == 1) = false := by simpa using k1
  rw [if_neg k1]
  refine PL.Pure.of_v Tryz.func37 (by decide) rfl Tryz.ntmps37 Tryz.results37 (by simp) (ent_dids _) ?_
  simp only [go_sem, fld, opvs]
  refine vCall_of (hV) ?_ ?_ ?_; iterate 2 simp only [go_sem, fld]
  simp only [go_sem, ent, e1]
  refine awp_nilRow 6 35 1 9 rfl rfl ?_
  refine vLoopM (ι := { x : Nat // x ≤ (l).length }) 56 (fun x => [(2, .ptr 2 0), (4, .ptr 4 0), (5, .ptr 5 0), (6, .sl (.row 35) ((textsM (l.take x.1)).map .str)), (18, opvs l), (19, .int .i64 (l.length : Int)), (20, .int .i64 (x.1 : Int))]) (fun x => [(2, [.int .i64 f.at'.sc, .str f.at'.gr, .str f.at'.nm, .int .i64 f.kind, .str f.df, .sl .no (f.cases'.map .str), .int .i64 f.worth], false), (4, [.int .i64 0, .str [], .str [], .int .i64 0, .sl .nil []], false), (5, [.int .i64 f.at'.sc, .str f.at'.gr, .str f.at'.nm, .int .i64 0, .sl .no (vl.map .str)], false)]) (fun x => [(35, .live ((textsM (l.take x.1)).length) (1) (9))]) (fun x => (l).length - x.1) ⟨0, Nat.zero_le _⟩ ⟨rfl, (fcs rfl (fcs rfl (fcs rfl (fcs rfl (fcs rfl (fcs rfl (fcs rfl fnl))))))), (fcs ⟨rfl, rfl⟩ (fcs ⟨rfl, rfl⟩ (fcs ⟨rfl, rfl⟩ fnl))), (fcs rfl fnl)⟩ (fun x => ⟨(fcs rfl (fcs rfl (fcs rfl (fcs (by simp [PV.ids, refInM]) (fcs rfl (fcs rfl (fcs rfl fnl))))))), (fcs rfl (fcs rfl (fcs rfl fnl)))⟩) (fun x => ?_); obtain ⟨k, hk⟩ := x; simp only at hk ⊢
  by_cases h : (k : Int) < (l.length : Int)
  ·(have hka : k < (l).length := by omega); (have w1 := w64s hka (hlm)); (have i1 : (0 : Int) ≤ (k : Int) := by omega)
   have hsn := textsM_snoc hka
   have hnl := textsM_len (l.take k)
   have htl : (l.take k).length ≤ k := List.length_take_le _ _
   have hrm := room1 (show (textsM (l.take k)).length + 1 ≤ 1000000 by omega) (show 16 ≤ 1000 by omega)
   have hml : ((textsM (l.take k)).map PV.str).length = (textsM (l.take k)).length := List.length_map _
   have hsz := sized_strL (textsM (l.take k))
   generalize hx : l.getD k default = x at *
   cases k1 : (x.kind == 4)
   ·rw [k1, Bool.false_and, if_neg (by simp), List.append_nil] at hsn
    simp only [go_sem, opvs, h, getD_op hka, hx, opv, i1, k1, w1]
    exact ⟨⟨k + 1, by omega⟩, by show l.length - (k + 1) < l.length - k; omega, ⟨rfl, by simp only; rw [hsn]; exact (fcs rfl (fcs rfl (fcs rfl (fcs rfl (fcs rfl (fcs rfl (fcs rfl fnl))))))), (fcs ⟨rfl, rfl⟩ (fcs ⟨rfl, rfl⟩ (fcs ⟨rfl, rfl⟩ fnl))), by simp only; rw [hsn]; exact fcs rfl fnl⟩⟩
   ·cases k2 : x.has
    ·rw [k1, k2, Bool.and_false, if_neg (by simp), List.append_nil] at hsn
     simp only [go_sem, opvs, h, getD_op hka, hx, opv, i1, k1, k2, w1]
     exact ⟨⟨k + 1, by omega⟩, by show l.length - (k + 1) < l.length - k; omega, ⟨rfl, by simp only; rw [hsn]; exact (fcs rfl (fcs rfl (fcs rfl (fcs rfl (fcs rfl (fcs rfl (fcs rfl fnl))))))), (fcs ⟨rfl, rfl⟩ (fcs ⟨rfl, rfl⟩ (fcs ⟨rfl, rfl⟩ fnl))), by simp only; rw [hsn]; exact fcs rfl fnl⟩⟩
    ·rw [k1, k2, Bool.and_self, if_pos rfl] at hsn
     simp only [go_sem, opvs, h, getD_op hka, hx, opv, i1, k1, k2, w1, hml, hsz, hrm]
     exact ⟨⟨k + 1, by omega⟩, by show l.length - (k + 1) < l.length - k; omega, ⟨rfl, by simp only; rw [hsn, List.map_append]; exact (fcs rfl (fcs rfl (fcs rfl (fcs rfl (fcs rfl (fcs rfl (fcs rfl fnl))))))), (fcs ⟨rfl, rfl⟩ (fcs ⟨rfl, rfl⟩ (fcs ⟨rfl, rfl⟩ fnl))), by simp only; rw [hsn, List.length_append]; exact fcs rfl fnl⟩⟩
  ·have htk : l.take k = l := List.take_of_length_le (by omega)
   rw [htk]
   have hnl := textsM_len l
   by_cases k4 : f.kind = 4
   ·have e4 : (f.kind == 4) = true := by simpa using k4
    rw [if_pos k4]
    simp only [go_sem, opvs, h, e4, ent]
   ·have e4 : (f.kind == 4) = false := by simpa using k4
    rw [if_neg k4]
    have hml : ((textsM l).map PV.str).length = (textsM l).length := List.length_map _
    by_cases k5 : (textsM l).length = 0
    ·have e5 : ¬ (0 : Int) < ((textsM l).length : Int) := by omega
     rw [if_pos k5]
     simp only [go_sem, opvs, h, e4, ent, hml, e5]
    ·have e5 : (0 : Int) < ((textsM l).length : Int) := by omega
     have w5 : IntKind.i64.wrap (((textsM l).length : Int) - 1) = (((textsM l).length - 1 : Nat) : Int) := by rw [w64 (by omega)]; omega
     have hlt : (textsM l).length - 1 < (textsM l).length := by omega
     have b5 : (0 : Int) ≤ (((textsM l).length - 1 : Nat) : Int) ∧ (((textsM l).length - 1 : Nat) : Int) < ((textsM l).length : Int) := by omega
     rw [if_neg k5]
     simp only [go_sem, opvs, h, e4, ent, hml, e5, w5, b5.1, b5.2, getD_str hlt]
end Go.Proofs.YthingdchjkhfbaaGreat
set_option linter.unusedSimpArgs false
set_option linter.unusedVariables false
set_option linter.unusedSimpArgs false
set_option linter.unusedVariables false
namespace Go.Proofs.YthingdchjkhfbaaGreat
open Go.PL Go.PL.Srt
set_option maxRecDepth 20000 in
set_option maxHeartbeats 16000000 in
theorem Alive_pure (m : List Eg) (l : List Opn) (hm : OkM m) (hl : l.length ≤ 100000) (ho : ∀ o ∈ l, OkOp o) (hU : (l.map Opn.id).Nodup) : PL.Pure Tryz.prog 18 [tr (treeOf m), opvs l] (opvs (livM m l)) := by
 have hcl : ∀ l : List Opn, ∀ p ∈ l.map opv, p.ids = [] := fun l => ids_mapV opv_ids l
 have hL := living_eff m l hm hl ho hU
 have hll := livM_len m l
 have hlo : ∀ o ∈ livM m l, OkOp o := fun o h => ho o (livM_mem h)
 generalize livM m l = A at *
 refine PL.Pure.of_p [] Tryz.func18 (by decide) rfl Tryz.ntmps18 Tryz.results18 (by simp) (opvs_dids _) ?_
 simp only [go_sem, tr, opvs]
 refine vCall_vn 10 hL (hcl _) (by simp [PV.ids, tr, opvs]) rfl rfl ?_
 simp only [go_sem, PV.ren, id]
 refine vLoopX (ι := { k : Nat // k ≤ A.length }) 25 (fun x => [(5, .vsl 10 A.length 15), (11, .vsl 10 A.length 15), (12, .int .i64 (A.length : Int)), (13, .int .i64 (x.1 : Int))]) (fun _ => []) (fun _ => [(10, .vec A.length 15 37)]) (fun _ => []) (fun _ => []) (fun _ => [(10, A.map opv)]) (fun _ => []) [] [] [] (fun x => A.length - x.1) ⟨0, Nat.zero_le _⟩
  (hasX_v1 rfl (fcs rfl (fcs rfl (fcs rfl (fcs rfl fnl)))) rfl rfl) (fun x => wholeX_v1 (by simp [PV.ids, PV.idsL, refInM]) (idsL_mapV opv_ids _)) (fun x => ?_)
 obtain ⟨k, hk⟩ := x
 simp only
 by_cases h : (k : Int) < (A.length : Int)
 ·have hka : k < A.length := by omega
  have i0 : (0 : Int) ≤ (k : Int) := by omega
  have w1 : IntKind.i64.wrap ((k : Int) + 1) = ((k + 1 : Nat) : Int) := by rw [w64 (by omega)]; rfl
  have hO := OOwn_pure (A.getD k default) (hlo _ (getD_mem' hka))
  have hset : (A.map opv).set k (opv (A.getD k default)) = A.map opv := by
   rw [set_mapV]
   congr 1
   rw [getD_lt hka]
   exact List.set_getElem_self hka
  simp only [opv] at hset
  simp only [go_sem, h, i0, List.length_map, getD_op hka, opv]
  refine vCall_of (hO) ?_ ?_ ?_; iterate 2 simp only [go_sem, opv]
  simp only [go_sem, h, i0, List.length_map, getD_op hka, opv, hset, w1]
  exact ⟨⟨k + 1, by omega⟩, by show A.length - (k + 1) < A.length - k; omega, hasX_v1 rfl (fcs rfl (fcs rfl (fcs rfl (fcs rfl fnl)))) rfl rfl⟩
 ·simp only [go_sem, h]
  exact ⟨_, rfl, Pub.vec0 (by simp) rfl (List.length_map _) (hcl _)⟩
def seenL (m : List Eg) (l : List Opn) (b : Tg) : List Opn := (l.filter fun o => (toT m o b).c == 0 && (toT m o b).ok).map fun o => (toT m o b).o
theorem seenL_snoc (m : List Eg) {l : List Opn} (b : Tg) {k : Nat} (h : k < l.length) : seenL m (l.take (k + 1)) b = seenL m (l.take k) b ++ (if ((toT m (l.getD k default) b).c == 0 && (toT m (l.getD k default) b).ok) = true then [(toT m (l.getD k default) b).o] else []) := by
 unfold seenL
 rw [take_snoc (d := default) h, List.filter_append, List.map_append]
 congr 1
 generalize l.getD k default = x
 cases hr : ((toT m x b).c == 0 && (toT m x b).ok)
 ·rw [List.filter_cons_of_neg (by rw [hr]; simp), if_neg (by simp)]; rfl
 ·rw [List.filter_cons_of_pos (by exact hr), if_pos rfl]; rfl
theorem seenL_len (m : List Eg) (l : List Opn) (b : Tg) : (seenL m l b).length ≤ l.length := by unfold seenL; rw [List.length_map]; exact List.length_filter_le _ _
set_option maxRecDepth 20000 in
set_option maxHeartbeats 16000000 in
theorem TrAll_pure (m : List Eg) (l : List Opn) (b : Tg) (hm : OkM m) (hr : RightM m) (hl : l.length ≤ 100000) (ho : ∀ o ∈ l, OkOp o) : PL.Pure Tryz.prog 34 [tr (treeOf m), opvs l, tg b] (opvs (seenL m l b)) := by
 have hlm : l.length ≤ maxLen := by rw [maxLen_eq]; omega
 refine PL.Pure.of_v Tryz.func34 (by decide) rfl Tryz.ntmps34 Tryz.results34 (by simp) (opvs_dids _) ?_
 simp only [go_sem, tr, opvs, tg]
 refine awp_nilRow 7 35 15 37 rfl rfl ?_
 refine vLoopM (ι := { x : Nat // x ≤ (l).length }) 38 (fun x => [(0, tr (treeOf m)), (5, .ptr 5 0), (7, .sl (.row 35) ((seenL m (l.take x.1) b).map opv)), (13, opvs l), (14, .int .i64 (l.length : Int)), (15, .int .i64 (x.1 : Int))]) (fun x => [(5, [.int .i64 b.r, .int .i64 b.n], false)]) (fun x => [(35, .live ((seenL m (l.take x.1) b).length) (15) (37))]) (fun x => (l).length - x.1) ⟨0, Nat.zero_le _⟩ ⟨rfl, (fcs rfl (fcs rfl (fcs rfl (fcs rfl (fcs rfl (fcs rfl fnl)))))), (fcs ⟨rfl, rfl⟩ fnl), (fcs rfl fnl)⟩ (fun x => ⟨(fcs rfl (fcs rfl (fcs (by simp [PV.ids, refInM]) (fcs rfl (fcs rfl (fcs rfl fnl)))))), (fcs rfl fnl)⟩) (fun x => ?_); obtain ⟨k, hk⟩ := x; simp only at hk ⊢
 by_cases h : (k : Int) < (l.length : Int)
 ·(have hka : k < (l).length := by omega); (have w1 := w64s hka (hlm)); (have i1 : (0 : Int) ≤ (k : Int) := by omega)
  have hT := TrTo_pure m (l.getD k default) b hm hr (ho _ (getD_mem' hka))
  have hsn := seenL_snoc m b hka
  have hsl := seenL_len m (l.take k) b
  have htl : (l.take k).length ≤ k := List.length_take_le _ _
  have hrm := room1 (show (seenL m (l.take k) b).length + 1 ≤ 1000000 by omega) (show 176 ≤ 1000 by omega)
  have hml : ((seenL m (l.take k) b).map opv).length = (seenL m (l.take k) b).length := List.length_map _
  have hsz := sized_op (seenL m (l.take k) b)
  generalize toT m (l.getD k default) b = y at *
  obtain ⟨yo, yk, yc⟩ := y
  have hsx : Sized 15 [opv yo] := sized_op [yo]
  have hax : Atoms [opv yo] := atoms_op [yo]
  generalize hx : l.getD k default = x at *
  simp only at hsn
  simp only [opv] at hsx hax
  cases k1 : (yc == 0)
  ·rw [k1, Bool.false_and, if_neg (by simp), List.append_nil] at hsn
   simp only [go_sem, opvs, h, getD_op hka, hx, opv, i1]
   refine vCall_of (hT) ?_ ?_ ?_; iterate 2 simp only [go_sem, tr, opv, tg]
   simp only [go_sem, seenv, opv, k1, w1]
   exact ⟨⟨k + 1, by omega⟩, by show l.length - (k + 1) < l.length - k; omega, ⟨rfl, by simp only; rw [hsn]; exact (fcs rfl (fcs rfl (fcs rfl (fcs rfl (fcs rfl (fcs rfl fnl)))))), fcs ⟨rfl, rfl⟩ fnl, by simp only; rw [hsn]; exact fcs rfl fnl⟩⟩
  ·cases yk
   ·rw [k1, Bool.and_false, if_neg (by simp), List.append_nil] at hsn
    simp only [go_sem, opvs, h, getD_op hka, hx, opv, i1]
    refine vCall_of (hT) ?_ ?_ ?_; iterate 2 simp only [go_sem, tr, opv, tg]
    simp only [go_sem, seenv, opv, k1, w1]
    exact ⟨⟨k + 1, by omega⟩, by show l.length - (k + 1) < l.length - k; omega, ⟨rfl, by simp only; rw [hsn]; exact (fcs rfl (fcs rfl (fcs rfl (fcs rfl (fcs rfl (fcs rfl fnl)))))), fcs ⟨rfl, rfl⟩ fnl, by simp only; rw [hsn]; exact fcs rfl fnl⟩⟩
   ·rw [k1, Bool.and_self, if_pos rfl] at hsn
    simp only [go_sem, opvs, h, getD_op hka, hx, opv, i1]
    refine vCall_of (hT) ?_ ?_ ?_; iterate 2 simp only [go_sem, tr, opv, tg]
    simp only [go_sem, seenv, opv, k1, w1, hml, hsz, hrm, hsx, hax]
    exact ⟨⟨k + 1, by omega⟩, by show l.length - (k + 1) < l.length - k; omega, ⟨rfl, by simp only; rw [hsn, List.map_append]; exact (fcs rfl (fcs rfl (fcs rfl (fcs rfl (fcs rfl (fcs rfl fnl)))))), fcs ⟨rfl, rfl⟩ fnl, by simp only; rw [hsn, List.length_append]; exact fcs rfl fnl⟩⟩
 ·have htk : l.take k = l := List.take_of_length_le (by omega)
  simp only [go_sem, opvs, h, htk]
end Go.Proofs.YthingdchjkhfbaaGreat
set_option linter.unusedSimpArgs false
set_option linter.unusedVariables false
set_option linter.unusedSimpArgs false
set_option linter.unusedVariables false
namespace Go.Proofs.YthingdchjkhfbaaGreat
open Go.PL Go.PL.Srt
structure Sp where
 item : Str
 at' : Rf
 deriving DecidableEq, Inhabited
def spv (s : Sp) : PV := .agg [.str s.item, .int .i64 s.at'.sc, .str s.at'.gr, .str s.at'.nm]
def spO (o : Opn) : Sp := ⟨o.item, o.at'⟩
def thereM (seen : List Opn) (s : Sp) : List Opn := seen.filter fun o => decide (spO o = s)
theorem sp_fold (a b : Sp) : (a.item == b.item && (a.at'.sc == b.at'.sc && (a.at'.gr == b.at'.gr && a.at'.nm == b.at'.nm))) = decide (a = b) := by
 obtain ⟨i1, r1⟩ := a
 obtain ⟨i2, r2⟩ := b
 cases r1
 cases r2
 rw [Bool.eq_iff_iff]
 simp
theorem findP_sps (s : Sp) : ∀ (l : List Sp) (i : Nat), findP [.str, .int, .str, .str] [.str s.item, .int .i64 s.at'.sc, .str s.at'.gr, .str s.at'.nm] (l.map spv) i = some ((l.findIdx? fun x => decide (s = x)).map (· + i))
 | [], i => rfl
 | n :: l, i => by
  have ih := findP_sps s l (i + 1)
  simp only [List.map_cons, spv, findP, eqLeaves, eqLeaf, if_true, List.findIdx?_cons, Bool.and_true, sp_fold]
  by_cases h : s = n
  ·simp [h]
  ·simp only [h, decide_false, ih]
   simp only [Bool.false_eq_true, if_false, Option.map_map]
   congr 2
   funext x
   simp; omega
theorem findP_sps0 (s : Sp) (l : List Sp) : findP [.str, .int, .str, .str] [.str s.item, .int .i64 s.at'.sc, .str s.at'.gr, .str s.at'.nm] (l.map spv) 0 = some (l.findIdx? fun x => decide (s = x)) := by
 rw [findP_sps]; congr 1; cases List.findIdx? (fun x => decide (s = x)) l <;> rfl
theorem idxS_mem {t : Sp} {l : List Sp} : (l.findIdx? fun x => decide (t = x)) = none ↔ t ∉ l := by
 rw [List.findIdx?_eq_none_iff]
 constructor
 ·intro h hm; have := h t hm; simp at this
 ·intro h x hx; simp only [decide_eq_false_iff_not]; intro e; exact h (e ▸ hx)
theorem idxS_at {t : Sp} {l : List Sp} {i : Nat} (h : (l.findIdx? fun x => decide (t = x)) = some i) : i < l.length ∧ l.getD i default = t := by
 obtain ⟨h1, h2, _⟩ := List.findIdx?_eq_some_iff_getElem.1 h
 exact ⟨h1, by rw [getD_lt h1]; exact (of_decide_eq_true h2).symm⟩
theorem there_none {seen : List Opn} {s : Sp} (h : ¬ ∃ o ∈ seen, spO o = s) : thereM seen s = [] := by
 unfold thereM
 rw [List.filter_eq_nil_iff]
 intro o ho hd
 exact h ⟨o, ho, of_decide_eq_true hd⟩
theorem there_len (seen : List Opn) (s : Sp) : (thereM seen s).length ≤ seen.length := List.length_filter_le _ _
def fillM (F : List Fd) (seen : List Opn) (sc : Int) (item : Str) : List En := (scopeM F sc).map fun f => valE f (thereM seen ⟨item, f.at'⟩)
set_option maxRecDepth 20000 in
set_option maxHeartbeats 16000000 in
theorem fill_pure (F : List Fd) (seen : List Opn) (ks : List Sp) (sc : Int) (item : Str) (hF : OkFs F) (hs : seen.length ≤ 100000) (hks : ∀ s, s ∈ ks ↔ ∃ o ∈ seen, spO o = s) :
  PL.Pure Tryz.prog 35 [.int .i64 sc, .str item, .rptr [flds F], .rptr [.rmap (ks.map spv) (ks.map fun s => opvs (thereM seen s))]] (ents (fillM F seen sc item)) := by
 have hFn := hF.n
 have hSc := Scope_pure F sc (by omega) hF.c
 have hscl : (scopeM F sc).length ≤ F.length := List.length_filter_le _ _
 unfold fillM
 generalize hA : scopeM F sc = A at *
 have hAm : A.length ≤ maxLen := by rw [maxLen_eq]; omega
 have hV : ∀ f s, PL.Pure Tryz.prog 37 [fld f, opvs (thereM seen s)] (ent (valE f (thereM seen s))) := fun f s => value_pure f _ (Nat.le_trans (there_len _ _) hs)
 refine PL.Pure.of_v Tryz.func35 (by decide) rfl Tryz.ntmps35 Tryz.results35 (by simp) (ents_dids _) ?_
 simp only [go_sem, flds]
 refine vCall_of (hSc) ?_ ?_ ?_; iterate 2 simp only [go_sem, flds]
 simp only [go_sem, flds]
 refine awp_nilRow 7 28 5 66 rfl rfl ?_
 refine vLoopM (ι := { x : Nat // x ≤ (A).length }) 31 (fun x => [(1, .str item), (3, .rptr [.rmap (ks.map spv) (ks.map fun s => opvs (thereM seen s))]), (7, .sl (.row 28) (((A.take x.1).map fun f => valE f (thereM seen ⟨item, f.at'⟩)).map ent)), (12, flds A), (13, .int .i64 (A.length : Int)), (14, .int .i64 (x.1 : Int))]) (fun x => []) (fun x => [(28, .live (x.1) (5) (66))]) (fun x => (A).length - x.1) ⟨0, Nat.zero_le _⟩ ⟨rfl, (fcs rfl (fcs rfl (fcs rfl (fcs rfl (fcs rfl (fcs rfl fnl)))))), fnl, (fcs rfl fnl)⟩ (fun x => ⟨(fcs rfl (fcs rfl (fcs (by simp [PV.ids, refInM]) (fcs rfl (fcs rfl (fcs rfl fnl)))))), fnl⟩) (fun x => ?_); obtain ⟨k, hk⟩ := x; simp only at hk ⊢
 by_cases h : (k : Int) < (A.length : Int)
 ·(have hka : k < (A).length := by omega); (have w1 := w64s hka (hAm)); (have i1 : (0 : Int) ≤ (k : Int) := by omega)
  have htk : ((A.take (k + 1)).map fun f => valE f (thereM seen ⟨item, f.at'⟩)) = ((A.take k).map fun f => valE f (thereM seen ⟨item, f.at'⟩)) ++ [valE (A.getD k default) (thereM seen ⟨item, (A.getD k default).at'⟩)] := by rw [take_snoc (d := default) hka, List.map_append]; rfl
  have hlk : ((A.take k).map fun f => valE f (thereM seen ⟨item, f.at'⟩)).length = k := by simp; omega
  have hrm := room1 (show k + 1 ≤ 1000000 by omega) (show 72 ≤ 1000 by omega)
  have hsz := sized_ent ((A.take k).map fun f => valE f (thereM seen ⟨item, f.at'⟩))
  have hV1 := hV (A.getD k default) ⟨item, (A.getD k default).at'⟩
  have hfp := findP_sps0 ⟨item, (A.getD k default).at'⟩ ks
  have hget : ∀ i, i < ks.length → (ks.map fun s => opvs (thereM seen s)).getD i .any = opvs (thereM seen (ks.getD i default)) := fun i hi => by rw [getD_lt (by simpa using hi), getD_lt hi, List.getElem_map]
  generalize hx : A.getD k default = x at *
  generalize ((A.take k).map fun f => valE f (thereM seen ⟨item, f.at'⟩)) = E at *
  generalize hv : valE x (thereM seen ⟨item, x.at'⟩) = v at *
  have hsx : Sized 5 [ent v] := sized_ent [v]
  have hax : Atoms [ent v] := atoms_ent [v]
  have hml : (E.map ent).length = k := by rw [List.length_map]; exact hlk
  simp only [ent] at hsx hax
  simp only at hfp
  cases hf : ks.findIdx? (fun y => decide ((⟨item, x.at'⟩ : Sp) = y)) with
  | none =>
   rw [hf] at hfp
   have hn : thereM seen ⟨item, x.at'⟩ = [] := there_none (fun hh => idxS_mem.1 hf ((hks _).2 hh))
   rw [hn] at hV1
   simp only [go_sem, flds, h, getD_fld hka, hx, fld, i1]
   refine vDrawQ (by kernel_rfl) (by kernel_rfl) ?_
   simp only [go_sem, hfp]
   refine vCall_of (hV1) ?_ ?_ ?_; iterate 2 simp only [go_sem, fld, opvs]
   simp only [go_sem, ent, hsz, hsx, hax, hml, hrm, w1]
   exact ⟨⟨k + 1, by omega⟩, by show A.length - (k + 1) < A.length - k; omega, ⟨rfl, by simp only; rw [htk, List.map_append]; exact (fcs rfl (fcs rfl (fcs rfl (fcs rfl (fcs rfl (fcs rfl fnl)))))), fnl, fcs rfl fnl⟩⟩
  | some i =>
   rw [hf] at hfp
   obtain ⟨hi, he⟩ := idxS_at hf
   have hg := hget i hi
   rw [he] at hg
   simp only [go_sem, flds, h, getD_fld hka, hx, fld, i1]
   refine vDrawQ (by kernel_rfl) (by kernel_rfl) ?_
   simp only [go_sem, hfp, hg]
   refine vCall_of (hV1) ?_ ?_ ?_; iterate 2 simp only [go_sem, fld, opvs]
   simp only [go_sem, ent, hsz, hsx, hax, hml, hrm, w1]
   exact ⟨⟨k + 1, by omega⟩, by show A.length - (k + 1) < A.length - k; omega, ⟨rfl, by simp only; rw [htk, List.map_append]; exact (fcs rfl (fcs rfl (fcs rfl (fcs rfl (fcs rfl (fcs rfl fnl)))))), fnl, fcs rfl fnl⟩⟩
 ·have htk : A.take k = A := List.take_of_length_le (by omega)
  simp only [go_sem, flds, h, htk, ents]
end Go.Proofs.YthingdchjkhfbaaGreat
