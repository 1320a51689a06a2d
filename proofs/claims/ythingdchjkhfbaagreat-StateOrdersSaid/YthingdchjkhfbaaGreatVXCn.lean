/- Contracts of functions and laws of this seat, each for every input that it names: lemmas of the proof. -/
import Derived.Test.YthingdchjkhfbaaGreatVXBy
set_option linter.unusedSimpArgs false
set_option linter.unusedVariables false
set_option linter.unusedSimpArgs false
set_option linter.unusedVariables false
namespace Go.Proofs.YthingdchjkhfbaaGreat
open Go.PL Go.PL.Srt
section
variable {α : Type} [Inhabited α] {pv : α → PV} {g : FuncId} {lt : α → α → Bool} {cv : α → α → Int}
theorem drop_getD {l : List α} {i : Nat} (h : i < l.length) : l.drop i = l.getD i default :: l.drop (i + 1) := by rw [List.drop_eq_getElem_cons h, getD_lt h]
theorem take_getD {l : List α} {i : Nat} (h : i < l.length) : l.take (i + 1) = l.take i ++ [l.getD i default] := by rw [List.take_succ_eq_append_getElem h, getD_lt h]
set_option maxHeartbeats 4000000 in
theorem swapRange_eff (K : SortK pv g lt cv) (e : TypeId) (n : Nat) (X A B C Y : List α) (hAC : A.length = C.length) (hn : X.length + A.length + B.length + C.length + Y.length = n) (hm : n ≤ 1000000000000) (l0 r : List PV) (hl0 : l0 = (X ++ (A ++ (B ++ (C ++ Y)))).map pv) (hr : r = (X ++ (C ++ (B ++ (A ++ Y)))).map pv) (ia ib ic : Int) (ha : ia = (X.length : Int)) (hb : ib = ((X.length + A.length + B.length : Nat) : Int)) (hc : ic = (A.length : Int)) :
  Eff Tryz.prog 184 [.vsl 1000 n 15, .int .i64 ia, .int .i64 ib, .int .i64 ic, .fn g []] (oneV n 15 e l0) (.tup []) (oneV n 15 e r) := by
 subst hr hl0 ha hb hc
 have hcl : ∀ l : List α, ∀ p ∈ l.map pv, p.ids = [] := fun l => ids_mapV K.ids l
 refine Eff.vw [] Tryz.func184 (by decide) rfl Tryz.ntmps184 Tryz.results184 (by simp) (hcl _) (hcl _) (by simp [PV.ids, PV.idsL]) (by simp [PV.ids, PV.idsL]) fun q => ?_
 have klen := K.len
 have kpart := K.part
 have katom := K.atom
 have kknown := K.known
 simp only [go_sem] at klen kpart katom kknown
 simp only [go_sem]
 refine vLoopX (ι := { i : Nat // i ≤ A.length }) 38 (fun x => [(0, .vsl 1000 n 15), (1, .int .i64 (X.length : Int)), (2, .int .i64 ((X.length + A.length + B.length : Nat) : Int)), (3, .int .i64 (A.length : Int)), (10, .int .i64 (x.1 : Int))]) (fun _ => []) (fun _ => [(1000, .vec n 15 e)]) (fun _ => []) (fun _ => []) (fun x => [(1000, (X ++ (C.take x.1 ++ (A.drop x.1 ++ (B ++ (A.take x.1 ++ (C.drop x.1 ++ Y)))))).map pv)]) (fun _ => []) [] [(1000, q)] [] (fun x => A.length - x.1) ⟨0, Nat.zero_le _⟩
  (hasX_v rfl (fcs rfl (fcs rfl (fcs rfl (fcs rfl (fcs rfl fnl))))) rfl (by show some _ = some _; simp) rfl) (fun x => wholeX_v (by simp [PV.ids, PV.idsL, refInM]) (idsL_mapV K.ids _)) (fun x => ?_)
 obtain ⟨i, hi⟩ := x
 simp only
 by_cases hk : i < A.length
 ·have hk' : i < C.length := by omega
  have c1 : (i : Int) < (A.length : Int) := by omega
  obtain ⟨p, hp⟩ : ∃ p, p = X.length + i := ⟨_, rfl⟩
  obtain ⟨p2, hp2⟩ : ∃ p2, p2 = X.length + A.length + B.length + i := ⟨_, rfl⟩
  have w1 : IntKind.i64.wrap ((X.length : Int) + (i : Int)) = (p : Int) := by rw [w64n (by omega) (by omega)]; omega
  have w2 : IntKind.i64.wrap (((X.length + A.length + B.length : Nat) : Int) + (i : Int)) = (p2 : Int) := by rw [w64n (by omega) (by omega)]; omega
  have w3 : IntKind.i64.wrap ((i : Int) + 1) = ((i + 1 : Nat) : Int) := by rw [w64n (by omega) (by omega)]; omega
  have el : X ++ (C.take i ++ (A.drop i ++ (B ++ (A.take i ++ (C.drop i ++ Y))))) = (X ++ C.take i) ++ A.getD i default :: ((A.drop (i + 1) ++ (B ++ A.take i)) ++ C.getD i default :: (C.drop (i + 1) ++ Y)) := by
   rw [drop_getD hk, drop_getD hk']; simp
  have en : X ++ (C.take (i + 1) ++ (A.drop (i + 1) ++ (B ++ (A.take (i + 1) ++ (C.drop (i + 1) ++ Y))))) = (X ++ C.take i) ++ C.getD i default :: ((A.drop (i + 1) ++ (B ++ A.take i)) ++ A.getD i default :: (C.drop (i + 1) ++ Y)) := by
   rw [take_getD hk, take_getD hk']; simp
  have hx1 : p = (X ++ C.take i).length := by simp; omega
  have hx2 : p2 = (X ++ C.take i).length + 1 + (A.drop (i + 1) ++ (B ++ A.take i)).length := by simp; omega
  have hlen : ((X ++ C.take i) ++ A.getD i default :: ((A.drop (i + 1) ++ (B ++ A.take i)) ++ C.getD i default :: (C.drop (i + 1) ++ Y))).length = n := by simp; omega
  rw [el]
  obtain ⟨G, hG⟩ : ∃ G : List α, G = X ++ (C.take (i + 1) ++ (A.drop (i + 1) ++ (B ++ (A.take (i + 1) ++ (C.drop (i + 1) ++ Y))))) := ⟨_, rfl⟩
  rw [← hG] at en
  generalize C.drop (i + 1) ++ Y = Z at hx1 hx2 hlen en ⊢
  generalize A.drop (i + 1) ++ (B ++ A.take i) = M at hx1 hx2 hlen en ⊢
  generalize X ++ C.take i = X' at hx1 hx2 hlen en ⊢
  generalize A.getD i default = a at hx1 hx2 hlen en ⊢
  generalize C.getD i default = c at hx1 hx2 hlen en ⊢
  have sw := swap_at X' M Z a c (i := p) (j := p2) hx1 hx2
  have d0 : (X' ++ a :: (M ++ c :: Z)).getD p default = a := getD_at _ _ _ hx1
  have d1 : (X' ++ a :: (M ++ c :: Z)).getD p2 default = c := by
   rw [show X' ++ a :: (M ++ c :: Z) = (X' ++ a :: M) ++ c :: Z by simp, getD_at _ _ _ (by simp; omega)]
  have hpl : p2 < n := by omega
  generalize X' ++ a :: (M ++ c :: Z) = l at sw d0 d1 hlen ⊢
  unfold swap at sw
  rw [d0, d1] at sw
  have g0 : (l.map pv).getD p .any = pv a := by rw [getD_mapV (by omega), d0]
  have g1 : (l.map pv).getD p2 .any = pv c := by rw [getD_mapV (by omega), d1]
  have g2 : ((l.set p c).map pv).getD p2 .any = pv c := by
   rw [getD_mapV (by simp; omega), getD_setN (by omega), d1]
  have b0 : 0 ≤ (p : Int) ∧ (p : Int) < (n : Int) := by omega
  have b1 : 0 ≤ (p2 : Int) ∧ (p2 : Int) < (n : Int) := by omega
  simp only [go_sem, c1]
  refine vDrawQ (by kernel_rfl) (by kernel_rfl) ?_
  simp only [go_sem, w1, w2, w3, b1.1, b1.2, b0.1, b0.2, Int.toNat_natCast, g0, g1, klen, kpart, katom, kknown, List.length_map, hlen, set_mapV, g2, List.length_set, sw, and_self]
  exact ⟨⟨i + 1, by omega⟩, by show A.length - (i + 1) < A.length - i; omega, hasX_v rfl (fcs rfl (fcs rfl (fcs rfl (fcs rfl (fcs rfl fnl))))) rfl (by show some _ = some _; rw [← en, hG]) rfl⟩
 ·have c1 : ¬ (i : Int) < (A.length : Int) := by omega
  have hi : i = A.length := by omega
  subst hi
  simp only [go_sem, c1]
  refine eret_vw (r0 := .tup []) (hcl _) rfl (.clean rfl) rfl ?_ rfl
  show some _ = some _
  rw [List.drop_length, List.take_length, show C.take A.length = C by rw [hAC, List.take_length], show C.drop A.length = [] by rw [hAC, List.drop_length]]
  simp
end
end Go.Proofs.YthingdchjkhfbaaGreat
set_option linter.unusedSimpArgs false
set_option linter.unusedVariables false
set_option linter.unusedSimpArgs false
set_option linter.unusedVariables false
namespace Go.Proofs.YthingdchjkhfbaaGreat
open Go.PL Go.PL.Srt
section
variable {α : Type} [Inhabited α] {pv : α → PV} {g : FuncId} {lt : α → α → Bool} {cv : α → α → Int}
def RotI (R : List α) (m : Nat) (s : List α × List α × List α × List α) : Prop := s.1 ++ (s.2.2.1 ++ (s.2.1 ++ s.2.2.2)) = R ∧ s.1.length + s.2.1.length = m ∧ 0 < s.2.1.length ∧ 0 < s.2.2.1.length
set_option maxHeartbeats 4000000 in
theorem rotate_eff (K : SortK pv g lt cv) (e : TypeId) (n : Nat) (X A B Y : List α) (hA : 0 < A.length) (hB : 0 < B.length) (hn : X.length + A.length + B.length + Y.length = n) (hm : n ≤ 1000000000000) (l0 r : List PV) (hl0 : l0 = (X ++ (A ++ (B ++ Y))).map pv) (hr : r = (X ++ (B ++ (A ++ Y))).map pv) (ia ib ic : Int) (ha : ia = (X.length : Int)) (hb : ib = ((X.length + A.length : Nat) : Int)) (hc : ic = ((X.length + A.length + B.length : Nat) : Int)) :
  Eff Tryz.prog 173 [.vsl 1000 n 15, .int .i64 ia, .int .i64 ib, .int .i64 ic, .fn g []] (oneV n 15 e l0) (.tup []) (oneV n 15 e r) := by
 subst hr hl0 ha hb hc
 have hcl : ∀ l : List α, ∀ p ∈ l.map pv, p.ids = [] := fun l => ids_mapV K.ids l
 refine Eff.vw [] Tryz.func173 (by decide) rfl Tryz.ntmps173 Tryz.results173 (by simp) (hcl _) (hcl _) (by simp [PV.ids, PV.idsL]) (by simp [PV.ids, PV.idsL]) fun q => ?_
 have w1 : IntKind.i64.wrap (((X.length + A.length : Nat) : Int) - (X.length : Int)) = (A.length : Int) := by rw [w64n (by omega) (by omega)]; omega
 have w2 : IntKind.i64.wrap (((X.length + A.length + B.length : Nat) : Int) - ((X.length + A.length : Nat) : Int)) = (B.length : Int) := by rw [w64n (by omega) (by omega)]; omega
 simp only [go_sem, w1, w2]
 generalize hR : X ++ (B ++ (A ++ Y)) = R
 generalize hM : X.length + A.length = m
 have hRl : R.length = n := by rw [← hR]; simp; omega
 refine vLoopX (ι := { s : List α × List α × List α × List α // RotI R m s }) 58 (fun x => [(0, .vsl 1000 n 15), (2, .int .i64 (m : Int)), (4, .fn g []), (10, .int .i64 (x.1.2.1.length : Int)), (11, .int .i64 (x.1.2.2.1.length : Int))]) (fun _ => []) (fun _ => [(1000, .vec n 15 e)]) (fun _ => []) (fun _ => []) (fun x => [(1000, (x.1.1 ++ (x.1.2.1 ++ (x.1.2.2.1 ++ x.1.2.2.2))).map pv)]) (fun _ => []) [] [(1000, q)] [] (fun x => x.1.2.1.length + x.1.2.2.1.length) ⟨(X, A, B, Y), hR, hM, hA, hB⟩
  (hasX_v rfl (fcs rfl (fcs rfl (fcs rfl (fcs rfl (fcs rfl fnl))))) rfl rfl rfl) (fun x => wholeX_v (by simp [PV.ids, PV.idsL, refInM]) (idsL_mapV K.ids _)) (fun x => ?_)
 obtain ⟨⟨X', A', B', Y'⟩, h1, h2, h3, h4⟩ := x
 simp only at h1 h2 h3 h4 ⊢
 have hlen : X'.length + A'.length + B'.length + Y'.length = n := by rw [← hRl, ← h1]; simp; omega
 have w3 : IntKind.i64.wrap ((m : Int) - (A'.length : Int)) = (X'.length : Int) := by rw [w64n (by omega) (by omega)]; omega
 by_cases hne : (A'.length : Int) = (B'.length : Int)
 ·have hne' : A'.length = B'.length := by omega
  have w4 : IntKind.i64.wrap ((m : Int) - (B'.length : Int)) = (X'.length : Int) := by rw [← hne]; exact w3
  simp only [go_sem, hne, w4]
  refine vCall_vw 1000 (swapRange_eff K e n X' A' [] B' Y' hne' (by simp; omega) hm _ (R.map pv) (by simp) (by rw [← h1]; simp) _ _ _ rfl (by simp; omega) hne.symm) (by simp [PV.ids, PV.idsL]) (hcl _) (hcl _) rfl rfl rfl ?_
  simp only [go_sem]
  exact eret_vw (r0 := .tup []) (hcl _) rfl (.clean rfl) rfl rfl rfl
 ·have hbn : ((A'.length : Int) != (B'.length : Int)) = true := bne_iff_ne.2 hne
  by_cases hgt : (B'.length : Int) < (A'.length : Int)
  ·have e1 : A'.take B'.length ++ A'.drop B'.length = A' := List.take_append_drop _ _
   have l1 : (A'.take B'.length).length = B'.length := by rw [List.length_take]; omega
   have l2 : (A'.drop B'.length).length = A'.length - B'.length := List.length_drop
   generalize A'.take B'.length = A1 at e1 l1
   generalize A'.drop B'.length = A2 at e1 l2
   subst e1
   have w5 : IntKind.i64.wrap (((A1 ++ A2).length : Int) - (B'.length : Int)) = (A2.length : Int) := by rw [w64n (by omega) (by omega)]; omega
   simp only [go_sem, hbn, hgt, w3, w5]
   refine vCall_vw 1000 (swapRange_eff K e n X' A1 A2 B' Y' l1 (by simp at hlen; omega) hm _ ((X' ++ (B' ++ (A2 ++ (A1 ++ Y')))).map pv) (by simp) rfl _ _ _ rfl (by simp at h2; omega) (by omega)) (by simp [PV.ids, PV.idsL]) (hcl _) (hcl _) rfl rfl rfl ?_
   simp only [go_sem, w5]
   refine ⟨⟨(X' ++ B', A2, A1, Y'), by simpa using h1, by simp at h2 ⊢; omega, by show 0 < A2.length; omega, by show 0 < A1.length; omega⟩, by show A2.length + A1.length < (A1 ++ A2).length + B'.length; simp; omega, hasX_v rfl ?_ rfl (by show some _ = some _; simp) rfl⟩
   show ∀ x ∈ [(0, PV.vsl 1000 n 15), (2, .int .i64 (m : Int)), (4, .fn g []), (10, .int .i64 (A2.length : Int)), (11, .int .i64 (A1.length : Int))], _
   rw [l1]
   exact (fcs rfl (fcs rfl (fcs rfl (fcs rfl (fcs rfl fnl)))))
  ·have e1 : B'.take (B'.length - A'.length) ++ B'.drop (B'.length - A'.length) = B' := List.take_append_drop _ _
   have l1 : (B'.take (B'.length - A'.length)).length = B'.length - A'.length := by rw [List.length_take]; omega
   have l2 : (B'.drop (B'.length - A'.length)).length = A'.length := by rw [List.length_drop]; omega
   generalize B'.take (B'.length - A'.length) = B1 at e1 l1
   generalize B'.drop (B'.length - A'.length) = B2 at e1 l2
   subst e1
   have w5 : IntKind.i64.wrap (((B1 ++ B2).length : Int) - (A'.length : Int)) = (B1.length : Int) := by rw [w64n (by omega) (by omega)]; omega
   have w6 : IntKind.i64.wrap ((m : Int) + ((B1 ++ B2).length : Int)) = ((m + (B1 ++ B2).length : Nat) : Int) := by rw [w64n (by omega) (by omega)]; omega
   have w7 : IntKind.i64.wrap (((m + (B1 ++ B2).length : Nat) : Int) - (A'.length : Int)) = ((m + B1.length : Nat) : Int) := by rw [w64n (by omega) (by omega)]; omega
   simp only [go_sem, hbn, hgt, w3, w6, w7]
   refine vCall_vw 1000 (swapRange_eff K e n X' A' B1 B2 Y' l2.symm (by simp at hlen; omega) hm _ ((X' ++ (B2 ++ (B1 ++ (A' ++ Y')))).map pv) (by simp) rfl _ _ _ rfl (by omega) rfl) (by simp [PV.ids, PV.idsL]) (hcl _) (hcl _) rfl rfl rfl ?_
   simp only [go_sem, w5]
   refine ⟨⟨(X', B2, B1, A' ++ Y'), by simpa using h1, by simp at h2 ⊢; omega, by show 0 < B2.length; omega, by show 0 < B1.length; omega⟩, by show B2.length + B1.length < A'.length + (B1 ++ B2).length; simp; omega, hasX_v rfl ?_ rfl (by show some _ = some _; simp) rfl⟩
   show ∀ x ∈ [(0, PV.vsl 1000 n 15), (2, .int .i64 (m : Int)), (4, .fn g []), (10, .int .i64 (B2.length : Int)), (11, .int .i64 (B1.length : Int))], _
   rw [l2]
   exact (fcs rfl (fcs rfl (fcs rfl (fcs rfl (fcs rfl fnl)))))
end
end Go.Proofs.YthingdchjkhfbaaGreat
set_option linter.unusedSimpArgs false
set_option linter.unusedVariables false
set_option linter.unusedSimpArgs false
set_option linter.unusedVariables false
namespace Go.Proofs.YthingdchjkhfbaaGreat
open Go.PL Go.PL.Srt
section
variable {α : Type} [Inhabited α] {pv : α → PV} {g : FuncId} {lt : α → α → Bool} {cv : α → α → Int}
theorem half_eq {a b h : Nat} (hh : h = (a + b) / 2) (hm : a + b ≤ 4000000000000) : IntKind.i64.wrap ((IntKind.u64.wrap ((a + b : Nat) : Int)).fdiv (2 ^ min 1 64)) = (h : Int) := by
 have e1 : IntKind.u64.wrap ((a + b : Nat) : Int) = ((a + b : Nat) : Int) := IntWalk.u64_in _ (by omega)
 have e2 : ((a + b : Nat) : Int).fdiv (2 ^ min 1 64) = (h : Int) := by
  show Int.fdiv ((a + b : Nat) : Int) 2 = (h : Int)
  rw [Int.fdiv_eq_ediv_of_nonneg _ (by omega)]
  omega
 rw [e1, e2, w64n (by omega) (by omega)]
set_option maxHeartbeats 4000000 in
theorem symMerge_one (K : SortK pv g lt cv) (e : TypeId) (n : Nat) (X B Y : List α) (x : α) (hB : Inc lt B) (hU : ∀ y ∈ B, lt x y = true ∨ lt y x = true) (hB0 : 0 < B.length) (hn : X.length + 1 + B.length + Y.length = n) (hm : n ≤ 1000000000000) (l0 r : List PV) (hl0 : l0 = (X ++ (x :: (B ++ Y))).map pv) (hr : r = (X ++ (srt lt (x :: B) ++ Y)).map pv) (ia ib ic : Int) (ha : ia = (X.length : Int)) (hb : ib = ((X.length + 1 : Nat) : Int)) (hc : ic = ((X.length + 1 + B.length : Nat) : Int)) :
  Eff Tryz.prog 147 [.vsl 1000 n 15, .int .i64 ia, .int .i64 ib, .int .i64 ic, .fn g []] (oneV n 15 e l0) (.tup []) (oneV n 15 e r) := by
 subst hr hl0 ha hb hc
 have hcl : ∀ l : List α, ∀ p ∈ l.map pv, p.ids = [] := fun l => ids_mapV K.ids l
 refine Eff.vw [] Tryz.func147 (by decide) rfl Tryz.ntmps147 Tryz.results147 (by simp) (hcl _) (hcl _) (by simp [PV.ids, PV.idsL]) (by simp [PV.ids, PV.idsL]) fun q => ?_
 have klen := K.len
 have kpart := K.part
 have katom := K.atom
 have kknown := K.known
 simp only [go_sem] at klen kpart katom kknown
 have w1 : IntKind.i64.wrap (((X.length + 1 : Nat) : Int) - (X.length : Int)) = 1 := by rw [w64n (by omega) (by omega)]; omega
 have hl : (X ++ (x :: (B ++ Y))).length = n := by simp; omega
 simp only [go_sem, w1]
 refine vLoopX (ι := { uv : Nat × Nat // uv.1 ≤ uv.2 ∧ uv.2 ≤ B.length ∧ (∀ t, t < uv.1 → lt (B.getD t default) x = true) ∧ ∀ t, uv.2 ≤ t → t < B.length → lt x (B.getD t default) = true }) 220 (fun y => [(0, .vsl 1000 n 15), (1, .int .i64 (X.length : Int)), (4, .fn g []), (10, .int .i64 ((X.length + 1 + y.1.1 : Nat) : Int)), (11, .int .i64 ((X.length + 1 + y.1.2 : Nat) : Int))]) (fun _ => []) (fun _ => [(1000, .vec n 15 e)]) (fun _ => []) (fun _ => []) (fun y => [(1000, (X ++ (x :: (B ++ Y))).map pv)]) (fun _ => []) [] [(1000, q)] [] (fun y => y.1.2 - y.1.1) ⟨(0, B.length), Nat.zero_le _, Nat.le_refl _, fun t h => absurd h (Nat.not_lt_zero _), fun t h1 h2 => absurd h2 (by omega)⟩
  (hasX_v rfl (fcs rfl (fcs rfl (fcs rfl (fcs rfl (fcs rfl fnl))))) rfl rfl rfl) (fun x => wholeX_v (by simp [PV.ids, PV.idsL, refInM]) (idsL_mapV K.ids _)) (fun y => ?_)
 obtain ⟨⟨u, v⟩, h1, h2, h3, h4⟩ := y
 simp only at h1 h2 h3 h4 ⊢
 by_cases huv : u < v
 ·have c1 : ((X.length + 1 + u : Nat) : Int) < ((X.length + 1 + v : Nat) : Int) := by omega
  have w2 : IntKind.i64.wrap (((X.length + 1 + u : Nat) : Int) + ((X.length + 1 + v : Nat) : Int)) = (((X.length + 1 + u) + (X.length + 1 + v) : Nat) : Int) := by rw [w64n (by omega) (by omega)]; omega
  obtain ⟨d, hd⟩ : ∃ d, d = (u + v) / 2 := ⟨_, rfl⟩
  have hw := half_eq (a := X.length + 1 + u) (b := X.length + 1 + v) (h := X.length + 1 + d) (by omega) (by omega)
  have hdB : d < B.length := by omega
  have g0 : ((X ++ (x :: (B ++ Y))).map pv).getD X.length .any = pv x := by rw [getD_mapV (by omega), getD_at _ _ _ rfl]
  have g1 : ((X ++ (x :: (B ++ Y))).map pv).getD (X.length + 1 + d) .any = pv (B.getD d default) := by
   rw [getD_mapV (by omega), show X ++ (x :: (B ++ Y)) = (X ++ x :: B.take d) ++ (B.drop d ++ Y) by rw [List.append_assoc, List.cons_append, ← List.append_assoc (List.take d B), List.take_append_drop], drop_getD hdB]
   exact congrArg pv (getD_at _ _ _ (by simp; omega))
  have b0 : 0 ≤ (X.length : Int) ∧ (X.length : Int) < (n : Int) := by omega
  have b1 : 0 ≤ ((X.length + 1 + d : Nat) : Int) ∧ ((X.length + 1 + d : Nat) : Int) < (n : Int) := by omega
  have w3 : IntKind.i64.wrap (((X.length + 1 + d : Nat) : Int) + 1) = ((X.length + 1 + (d + 1) : Nat) : Int) := by rw [w64n (by omega) (by omega)]; omega
  have hv := K.cv (B.getD d default) x
  simp only [go_sem, c1, w2, hw]
  refine vDrawQ (by kernel_rfl) (by kernel_rfl) ?_
  simp only [go_sem, b1.1, b1.2, b0.1, b0.2, Int.toNat_natCast, g0, g1, klen, kpart, List.length_map, hl]
  refine vCall_of (K.cmp (B.getD d default) x) ?_ ?_ ?_
  ·simp only [go_sem, K.give, K.givable]
  ·simp only [go_sem, K.give, K.givable]
  by_cases hlt : lt (B.getD d default) x = true
  ·rw [hlt] at hv
   simp only [go_sem, hv, of_decide_eq_true hv, w3]
   refine ⟨⟨(d + 1, v), by show d + 1 ≤ v; omega, h2, fun t ht => ?_, h4⟩, by show v - (d + 1) < v - u; omega, hasX_v rfl (fcs rfl (fcs rfl (fcs rfl (fcs rfl (fcs rfl fnl))))) rfl rfl rfl⟩
   have ht : t < d + 1 := ht
   by_cases e : t = d
   ·subst e; exact hlt
   ·refine K.good.trans _ _ _ ?_ hlt
    rw [getD_lt (by omega), getD_lt (by omega)]
    exact hB.lt_get K.good (by omega) (by omega)
  ·have hv' : ¬ cv (B.getD d default) x < 0 := by
    have : lt (B.getD d default) x = false := by simpa using hlt
    rw [this] at hv; simpa using hv
   have hx : lt x (B.getD d default) = true := by
    rw [getD_lt hdB] at hlt ⊢
    exact (hU _ (List.getElem_mem _)).resolve_right hlt
   simp only [go_sem, hv']
   refine ⟨⟨(u, d), by show u ≤ d; omega, by show d ≤ B.length; omega, h3, fun t ht ht2 => ?_⟩, by show d - u < v - u; omega, hasX_v rfl (fcs rfl (fcs rfl (fcs rfl (fcs rfl (fcs rfl fnl))))) rfl rfl rfl⟩
   have ht : d ≤ t := ht
   by_cases e : t = d
   ·subst e; exact hx
   ·refine K.good.trans _ _ _ hx ?_
    rw [getD_lt (by omega), getD_lt (by omega)]
    exact hB.lt_get K.good (by omega) (by omega)
 ·have c1 : ¬ ((X.length + 1 + u : Nat) : Int) < ((X.length + 1 + v : Nat) : Int) := by omega
  have huv : v = u := by omega
  subst huv
  have hs : srt lt (x :: B) = B.take v ++ x :: B.drop v := srt_put K.good (by rw [List.take_append_drop]; exact hB) (fun p hp => by
    obtain ⟨t, ht, rfl⟩ := List.getElem_of_mem hp
    rw [List.length_take] at ht
    have := h3 t (by omega)
    rw [getD_lt (by omega)] at this
    simpa using this) (fun p hp => by
    obtain ⟨t, ht, rfl⟩ := List.getElem_of_mem hp
    rw [List.length_drop] at ht
    have := h4 (v + t) (by omega) (by omega)
    rw [getD_lt (by omega)] at this
    simpa using this) (by
    refine List.perm_middle.trans ?_
    rw [List.take_append_drop])
  simp only [go_sem, c1]
  refine vLoopX (ι := { t : Nat // t ≤ v }) 220 (fun y => [(0, .vsl 1000 n 15), (10, .int .i64 ((X.length + 1 + v : Nat) : Int)), (13, .int .i64 ((X.length + y.1 : Nat) : Int))]) (fun _ => []) (fun _ => [(1000, .vec n 15 e)]) (fun _ => []) (fun _ => []) (fun y => [(1000, (X ++ (B.take y.1 ++ x :: (B.drop y.1 ++ Y))).map pv)]) (fun _ => []) [] [(1000, q)] [] (fun y => v - y.1) ⟨0, Nat.zero_le _⟩
   (hasX_v rfl (fcs rfl (fcs rfl (fcs rfl fnl))) rfl (by show some _ = some _; simp) rfl) (fun x => wholeX_v (by simp [PV.ids, PV.idsL, refInM]) (idsL_mapV K.ids _)) (fun y => ?_)
  obtain ⟨t, ht⟩ := y
  simp only
  have w5 : IntKind.i64.wrap (((X.length + 1 + v : Nat) : Int) - 1) = ((X.length + v : Nat) : Int) := by rw [w64n (by omega) (by omega)]; omega
  by_cases htv : t < v
  ·have c2 : ((X.length + t : Nat) : Int) < ((X.length + v : Nat) : Int) := by omega
   have htB : t < B.length := by omega
   obtain ⟨p, hp⟩ : ∃ p, p = X.length + t := ⟨_, rfl⟩
   rw [← hp]
   rw [← hp] at c2
   have w6 : IntKind.i64.wrap ((p : Int) + 1) = ((p + 1 : Nat) : Int) := by rw [w64n (by omega) (by omega)]; omega
   have el : X ++ (B.take t ++ x :: (B.drop t ++ Y)) = (X ++ B.take t) ++ x :: ([] ++ B.getD t default :: (B.drop (t + 1) ++ Y)) := by rw [drop_getD htB]; simp
   have en : X ++ (B.take (t + 1) ++ x :: (B.drop (t + 1) ++ Y)) = (X ++ B.take t) ++ B.getD t default :: ([] ++ x :: (B.drop (t + 1) ++ Y)) := by rw [take_getD htB]; simp
   have sw := swap_at (X ++ B.take t) [] (B.drop (t + 1) ++ Y) x (B.getD t default) (i := p) (j := p + 1) (by simp; omega) (by simp; omega)
   rw [← en] at sw
   have d0 : ((X ++ B.take t) ++ x :: ([] ++ B.getD t default :: (B.drop (t + 1) ++ Y))).getD p default = x := getD_at _ _ _ (by simp; omega)
   have d1 : ((X ++ B.take t) ++ x :: ([] ++ B.getD t default :: (B.drop (t + 1) ++ Y))).getD (p + 1) default = B.getD t default := by
    rw [show (X ++ B.take t) ++ x :: ([] ++ B.getD t default :: (B.drop (t + 1) ++ Y)) = (X ++ B.take t ++ [x]) ++ B.getD t default :: (B.drop (t + 1) ++ Y) by simp, getD_at _ _ _ (by simp; omega)]
   have hlen : ((X ++ B.take t) ++ x :: ([] ++ B.getD t default :: (B.drop (t + 1) ++ Y))).length = n := by simp; omega
   rw [el]
   generalize (X ++ B.take t) ++ x :: ([] ++ B.getD t default :: (B.drop (t + 1) ++ Y)) = l at sw d0 d1 hlen ⊢
   generalize B.getD t default = y at sw d0 d1 ⊢
   unfold swap at sw
   rw [d0, d1] at sw
   have g0 : (l.map pv).getD p .any = pv x := by rw [getD_mapV (by omega), d0]
   have g1 : (l.map pv).getD (p + 1) .any = pv y := by rw [getD_mapV (by omega), d1]
   have g2 : ((l.set p y).map pv).getD (p + 1) .any = pv y := by rw [getD_mapV (by simp; omega), getD_setN (by omega), d1]
   have b0 : 0 ≤ (p : Int) ∧ (p : Int) < (n : Int) := by omega
   have b1 : 0 ≤ ((p + 1 : Nat) : Int) ∧ ((p + 1 : Nat) : Int) < (n : Int) := by omega
   simp only [go_sem, w5, c2]
   refine vDrawQ (by kernel_rfl) (by kernel_rfl) ?_
   simp only [go_sem, w6, b1.1, b1.2, b0.1, b0.2, Int.toNat_natCast, g0, g1, klen, kpart, katom, kknown, List.length_map, hlen, set_mapV, g2, List.length_set, sw, and_self]
   subst hp
   exact ⟨⟨t + 1, by omega⟩, by show v - (t + 1) < v - t; omega, hasX_v rfl (fcs rfl (fcs rfl (fcs rfl fnl))) rfl rfl rfl⟩
  ·have c2 : ¬ ((X.length + t : Nat) : Int) < ((X.length + v : Nat) : Int) := by omega
   have htv : t = v := by omega
   subst htv
   simp only [go_sem, w5, c2]
   refine eret_vw (r0 := .tup []) (hcl _) rfl (.clean rfl) rfl ?_ rfl
   show some _ = some _
   rw [hs]
   simp
end
end Go.Proofs.YthingdchjkhfbaaGreat
set_option linter.unusedSimpArgs false
set_option linter.unusedVariables false
set_option linter.unusedSimpArgs false
set_option linter.unusedVariables false
namespace Go.Proofs.YthingdchjkhfbaaGreat
open Go.PL Go.PL.Srt
section
variable {α : Type} [Inhabited α] {pv : α → PV} {g : FuncId} {lt : α → α → Bool} {cv : α → α → Int}
set_option maxHeartbeats 4000000 in
theorem symMerge_last (K : SortK pv g lt cv) (e : TypeId) (n : Nat) (X A Y : List α) (x : α) (hA : Inc lt A) (hU : ∀ y ∈ A, lt x y = true ∨ lt y x = true) (hA0 : 1 < A.length) (hn : X.length + A.length + 1 + Y.length = n) (hm : n ≤ 1000000000000) (l0 r : List PV) (hl0 : l0 = (X ++ (A ++ (x :: Y))).map pv) (hr : r = (X ++ (srt lt (A ++ [x]) ++ Y)).map pv) (ia ib ic : Int) (ha : ia = (X.length : Int)) (hb : ib = ((X.length + A.length : Nat) : Int)) (hc : ic = ((X.length + A.length + 1 : Nat) : Int)) :
  Eff Tryz.prog 147 [.vsl 1000 n 15, .int .i64 ia, .int .i64 ib, .int .i64 ic, .fn g []] (oneV n 15 e l0) (.tup []) (oneV n 15 e r) := by
 subst hr hl0 ha hb hc
 have hcl : ∀ l : List α, ∀ p ∈ l.map pv, p.ids = [] := fun l => ids_mapV K.ids l
 refine Eff.vw [] Tryz.func147 (by decide) rfl Tryz.ntmps147 Tryz.results147 (by simp) (hcl _) (hcl _) (by simp [PV.ids, PV.idsL]) (by simp [PV.ids, PV.idsL]) fun q => ?_
 have klen := K.len
 have kpart := K.part
 have katom := K.atom
 have kknown := K.known
 simp only [go_sem] at klen kpart katom kknown
 have w0 : IntKind.i64.wrap (((X.length + A.length : Nat) : Int) - (X.length : Int)) = (A.length : Int) := by rw [w64n (by omega) (by omega)]; omega
 have w1 : IntKind.i64.wrap (((X.length + A.length + 1 : Nat) : Int) - ((X.length + A.length : Nat) : Int)) = 1 := by rw [w64n (by omega) (by omega)]; omega
 have c0 : ((A.length : Int) == 1) = false := by simp; omega
 have hl : (X ++ (A ++ (x :: Y))).length = n := by simp; omega
 simp only [go_sem, w0, w1, c0]
 refine vLoopX (ι := { uv : Nat × Nat // uv.1 ≤ uv.2 ∧ uv.2 ≤ A.length ∧ (∀ t, t < uv.1 → lt (A.getD t default) x = true) ∧ ∀ t, uv.2 ≤ t → t < A.length → lt x (A.getD t default) = true }) 220 (fun y => [(0, .vsl 1000 n 15), (2, .int .i64 ((X.length + A.length : Nat) : Int)), (4, .fn g []), (14, .int .i64 ((X.length + y.1.1 : Nat) : Int)), (15, .int .i64 ((X.length + y.1.2 : Nat) : Int))]) (fun _ => []) (fun _ => [(1000, .vec n 15 e)]) (fun _ => []) (fun _ => []) (fun y => [(1000, (X ++ (A ++ (x :: Y))).map pv)]) (fun _ => []) [] [(1000, q)] [] (fun y => y.1.2 - y.1.1) ⟨(0, A.length), Nat.zero_le _, Nat.le_refl _, fun t h => absurd h (Nat.not_lt_zero _), fun t h1 h2 => absurd h2 (by omega)⟩
  (hasX_v rfl (fcs rfl (fcs rfl (fcs rfl (fcs rfl (fcs rfl fnl))))) rfl rfl rfl) (fun x => wholeX_v (by simp [PV.ids, PV.idsL, refInM]) (idsL_mapV K.ids _)) (fun y => ?_)
 obtain ⟨⟨u, v⟩, h1, h2, h3, h4⟩ := y
 simp only at h1 h2 h3 h4 ⊢
 by_cases huv : u < v
 ·have c1 : ((X.length + u : Nat) : Int) < ((X.length + v : Nat) : Int) := by omega
  have w2 : IntKind.i64.wrap (((X.length + u : Nat) : Int) + ((X.length + v : Nat) : Int)) = (((X.length + u) + (X.length + v) : Nat) : Int) := by rw [w64n (by omega) (by omega)]; omega
  obtain ⟨d, hd⟩ : ∃ d, d = (u + v) / 2 := ⟨_, rfl⟩
  have hw := half_eq (a := X.length + u) (b := X.length + v) (h := X.length + d) (by omega) (by omega)
  have hdA : d < A.length := by omega
  have g0 : ((X ++ (A ++ (x :: Y))).map pv).getD (X.length + A.length) .any = pv x := by
   rw [getD_mapV (by omega), show X ++ (A ++ (x :: Y)) = (X ++ A) ++ x :: Y by simp]
   exact congrArg pv (getD_at _ _ _ (by simp))
  have g1 : ((X ++ (A ++ (x :: Y))).map pv).getD (X.length + d) .any = pv (A.getD d default) := by
   rw [getD_mapV (by omega), show X ++ (A ++ (x :: Y)) = (X ++ A.take d) ++ (A.drop d ++ (x :: Y)) by rw [List.append_assoc, ← List.append_assoc (List.take d A), List.take_append_drop], drop_getD hdA]
   exact congrArg pv (getD_at _ _ _ (by simp; omega))
  have b0 : 0 ≤ ((X.length + A.length : Nat) : Int) ∧ ((X.length + A.length : Nat) : Int) < (n : Int) := by omega
  have b1 : 0 ≤ ((X.length + d : Nat) : Int) ∧ ((X.length + d : Nat) : Int) < (n : Int) := by omega
  have w3 : IntKind.i64.wrap (((X.length + d : Nat) : Int) + 1) = ((X.length + (d + 1) : Nat) : Int) := by rw [w64n (by omega) (by omega)]; omega
  have hv := K.cv x (A.getD d default)
  simp only [go_sem, c1, w2, hw]
  refine vDrawQ (by kernel_rfl) (by kernel_rfl) ?_
  simp only [go_sem, b1.1, b1.2, b0.1, b0.2, Int.toNat_natCast, g0, g1, klen, kpart, List.length_map, hl]
  refine vCall_of (K.cmp x (A.getD d default)) ?_ ?_ ?_
  ·simp only [go_sem, K.give, K.givable]
  ·simp only [go_sem, K.give, K.givable]
  by_cases hlt : lt x (A.getD d default) = true
  ·rw [hlt] at hv
   simp only [go_sem, hv, of_decide_eq_true hv, Bool.not_true]
   refine ⟨⟨(u, d), by show u ≤ d; omega, by show d ≤ A.length; omega, h3, fun t ht ht2 => ?_⟩, by show d - u < v - u; omega, hasX_v rfl (fcs rfl (fcs rfl (fcs rfl (fcs rfl (fcs rfl fnl))))) rfl rfl rfl⟩
   have ht : d ≤ t := ht
   by_cases e : t = d
   ·subst e; exact hlt
   ·refine K.good.trans _ _ _ hlt ?_
    rw [getD_lt (by omega), getD_lt (by omega)]
    exact hA.lt_get K.good (by omega) (by omega)
  ·have hv' : ¬ cv x (A.getD d default) < 0 := by
    have : lt x (A.getD d default) = false := by simpa using hlt
    rw [this] at hv; simpa using hv
   have hx : lt (A.getD d default) x = true := by
    rw [getD_lt hdA] at hlt ⊢
    exact (hU _ (List.getElem_mem _)).resolve_left hlt
   simp only [go_sem, hv', Bool.not_false, w3]
   refine ⟨⟨(d + 1, v), by show d + 1 ≤ v; omega, h2, fun t ht => ?_, h4⟩, by show v - (d + 1) < v - u; omega, hasX_v rfl (fcs rfl (fcs rfl (fcs rfl (fcs rfl (fcs rfl fnl))))) rfl rfl rfl⟩
   have ht : t < d + 1 := ht
   by_cases e : t = d
   ·subst e; exact hx
   ·refine K.good.trans _ _ _ ?_ hx
    rw [getD_lt (by omega), getD_lt (by omega)]
    exact hA.lt_get K.good (by omega) (by omega)
 ·have c1 : ¬ ((X.length + u : Nat) : Int) < ((X.length + v : Nat) : Int) := by omega
  have huv : v = u := by omega
  subst huv
  have hs : srt lt (A ++ [x]) = A.take v ++ x :: A.drop v := srt_put K.good (by rw [List.take_append_drop]; exact hA) (fun p hp => by
    obtain ⟨t, ht, rfl⟩ := List.getElem_of_mem hp
    rw [List.length_take] at ht
    have := h3 t (by omega)
    rw [getD_lt (by omega)] at this
    simpa using this) (fun p hp => by
    obtain ⟨t, ht, rfl⟩ := List.getElem_of_mem hp
    rw [List.length_drop] at ht
    have := h4 (v + t) (by omega) (by omega)
    rw [getD_lt (by omega)] at this
    simpa using this) (by
    refine List.perm_middle.trans ?_
    rw [List.take_append_drop]
    exact List.perm_append_comm (l₁ := [x]))
  simp only [go_sem, c1]
  refine vLoopX (ι := { t : Nat // v ≤ t ∧ t ≤ A.length }) 220 (fun y => [(0, .vsl 1000 n 15), (14, .int .i64 ((X.length + v : Nat) : Int)), (17, .int .i64 ((X.length + y.1 : Nat) : Int))]) (fun _ => []) (fun _ => [(1000, .vec n 15 e)]) (fun _ => []) (fun _ => []) (fun y => [(1000, (X ++ (A.take y.1 ++ x :: (A.drop y.1 ++ Y))).map pv)]) (fun _ => []) [] [(1000, q)] [] (fun y => y.1 - v) ⟨A.length, h2, Nat.le_refl _⟩
   (hasX_v rfl (fcs rfl (fcs rfl (fcs rfl fnl))) rfl (by show some _ = some _; simp) rfl) (fun x => wholeX_v (by simp [PV.ids, PV.idsL, refInM]) (idsL_mapV K.ids _)) (fun y => ?_)
  obtain ⟨t, ht1, ht2⟩ := y
  simp only
  by_cases htv : v < t
  ·obtain ⟨t, rfl⟩ : ∃ t', t = t' + 1 := ⟨t - 1, by omega⟩
   have c2 : ((X.length + v : Nat) : Int) < ((X.length + (t + 1) : Nat) : Int) := by omega
   have htA : t < A.length := by omega
   obtain ⟨p, hp⟩ : ∃ p, p = X.length + t := ⟨_, rfl⟩
   have ep : X.length + (t + 1) = p + 1 := by omega
   rw [ep]
   rw [ep] at c2
   have w6 : IntKind.i64.wrap (((p + 1 : Nat) : Int) - 1) = (p : Int) := by rw [w64n (by omega) (by omega)]; omega
   have el : X ++ (A.take (t + 1) ++ x :: (A.drop (t + 1) ++ Y)) = (X ++ A.take t) ++ A.getD t default :: ([] ++ x :: (A.drop (t + 1) ++ Y)) := by rw [take_getD htA]; simp
   have en : X ++ (A.take t ++ x :: (A.drop t ++ Y)) = (X ++ A.take t) ++ x :: ([] ++ A.getD t default :: (A.drop (t + 1) ++ Y)) := by rw [drop_getD htA]; simp
   have sw := swap_at (X ++ A.take t) [] (A.drop (t + 1) ++ Y) (A.getD t default) x (i := p) (j := p + 1) (by simp; omega) (by simp; omega)
   rw [← en] at sw
   have d0 : ((X ++ A.take t) ++ A.getD t default :: ([] ++ x :: (A.drop (t + 1) ++ Y))).getD p default = A.getD t default := getD_at _ _ _ (by simp; omega)
   have d1 : ((X ++ A.take t) ++ A.getD t default :: ([] ++ x :: (A.drop (t + 1) ++ Y))).getD (p + 1) default = x := by
    rw [show (X ++ A.take t) ++ A.getD t default :: ([] ++ x :: (A.drop (t + 1) ++ Y)) = (X ++ A.take t ++ [A.getD t default]) ++ x :: (A.drop (t + 1) ++ Y) by simp, getD_at _ _ _ (by simp; omega)]
   have hlen : ((X ++ A.take t) ++ A.getD t default :: ([] ++ x :: (A.drop (t + 1) ++ Y))).length = n := by simp; omega
   rw [el]
   generalize (X ++ A.take t) ++ A.getD t default :: ([] ++ x :: (A.drop (t + 1) ++ Y)) = l at sw d0 d1 hlen ⊢
   generalize A.getD t default = y at sw d0 d1 ⊢
   rw [swap_comm _ _ _ (by omega) (by omega)] at sw
   unfold swap at sw
   rw [d0, d1] at sw
   have g0 : (l.map pv).getD p .any = pv y := by rw [getD_mapV (by omega), d0]
   have g1 : (l.map pv).getD (p + 1) .any = pv x := by rw [getD_mapV (by omega), d1]
   have g2 : ((l.set (p + 1) y).map pv).getD p .any = pv y := by rw [getD_mapV (by simp; omega), getD_setN (by omega), d0]
   have b0 : 0 ≤ (p : Int) ∧ (p : Int) < (n : Int) := by omega
   have b1 : 0 ≤ ((p + 1 : Nat) : Int) ∧ ((p + 1 : Nat) : Int) < (n : Int) := by omega
   simp only [go_sem, c2]
   refine vDrawQ (by kernel_rfl) (by kernel_rfl) ?_
   simp only [go_sem, w6, b1.1, b1.2, b0.1, b0.2, Int.toNat_natCast, g0, g1, klen, kpart, katom, kknown, List.length_map, hlen, set_mapV, g2, List.length_set, sw, and_self]
   subst hp
   exact ⟨⟨t, by omega, by omega⟩, by show t - v < t + 1 - v; omega, hasX_v rfl (fcs rfl (fcs rfl (fcs rfl fnl))) rfl rfl rfl⟩
  ·have c2 : ¬ ((X.length + v : Nat) : Int) < ((X.length + t : Nat) : Int) := by omega
   have htv : t = v := by omega
   subst htv
   simp only [go_sem, c2]
   refine eret_vw (r0 := .tup []) (hcl _) rfl (.clean rfl) rfl ?_ rfl
   show some _ = some _
   rw [hs]
   simp
end
end Go.Proofs.YthingdchjkhfbaaGreat
