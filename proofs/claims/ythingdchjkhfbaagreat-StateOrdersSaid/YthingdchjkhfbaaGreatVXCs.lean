/- Contracts of functions and laws of this seat, each for every input that it names: lemmas of the proof. -/
import Derived.Test.YthingdchjkhfbaaGreatVXCr
import Derived.Test.YthingdchjkhfbaaGreatVXAa
import Derived.Shelf.Slices.CompactS
import Derived.Shelf.Sort.Plain
import Derived.Shelf.Slices.In.SortNone
import Derived.Test.YthingdchjkhfbaaGreatVXBy
set_option linter.unusedSimpArgs false
set_option linter.unusedVariables false
set_option linter.unusedSimpArgs false
set_option linter.unusedVariables false
set_option linter.unusedSectionVars false
namespace Go.Proofs.YthingdchjkhfbaaGreat
open Go.PL Go.PL.Srt
section
variable {α : Type} [Inhabited α] {pv : α → PV} {g : FuncId} {lt : α → α → Bool} {cv : α → α → Int}
inductive Blk (lt : α → α → Bool) (bs : Nat) : List α → List α → Prop
 | last (l : List α) (h : l.length ≤ bs) : Blk lt bs l (srt lt l)
 | more (l l' r' : List α) (h : l.length = bs) (t : Blk lt bs l' r') : Blk lt bs (l ++ l') (srt lt l ++ r')
theorem Blk.small {bs : Nat} (hb : 0 < bs) {R C : List α} (h : Blk lt bs R C) (hR : R.length ≤ bs) : C = srt lt R := by
 cases h with
 | last l h => rfl
 | more l l' r' h t =>
  simp only [List.length_append] at hR
  have : l' = [] := List.length_eq_zero_iff.1 (by omega)
  subst this
  have hr : r' = [] := by
   generalize hx : ([] : List α) = x at t
   cases t with
   | last l h => subst hx; rfl
   | more l2 l3 r3 h t =>
    have := congrArg List.length hx
    simp only [List.length_nil, List.length_append] at this
    omega
  subst hr
  simp
theorem Blk.first {bs : Nat} {R C : List α} (h : Blk lt bs R C) (hR : bs < R.length) : ∃ l l' r', R = l ++ l' ∧ C = srt lt l ++ r' ∧ l.length = bs ∧ Blk lt bs l' r' := by
 cases h with
 | last l h => omega
 | more l l' r' h t => exact ⟨l, l', r', rfl, rfl, h, t⟩
theorem Blk.len {bs : Nat} {R C : List α} (h : Blk lt bs R C) : C.length = R.length := by
 induction h with
 | last l h => exact srt_length l
 | more l l' r' h t ih => simp [srt_length, ih]
theorem Blk.nil (bs : Nat) : Blk lt bs ([] : List α) [] := .last [] (Nat.zero_le _)
theorem Blk.two {bs : Nat} (hb : 0 < bs) {R C : List α} (h : Blk lt bs R C) (hR : 2 * bs ≤ R.length) : ∃ l1 l2 R2 C2, R = l1 ++ (l2 ++ R2) ∧ C = srt lt l1 ++ (srt lt l2 ++ C2) ∧ l1.length = bs ∧ l2.length = bs ∧ Blk lt bs R2 C2 := by
 obtain ⟨l1, l', r', rfl, rfl, h1, t⟩ := h.first (by omega)
 simp only [List.length_append] at hR
 by_cases h2 : bs < l'.length
 ·obtain ⟨l2, l3, r3, rfl, rfl, h3, t3⟩ := t.first h2
  exact ⟨l1, l2, l3, r3, rfl, rfl, h1, h3, t3⟩
 ·have := t.small hb (by omega)
  subst this
  exact ⟨l1, l', [], [], by simp, by simp, h1, by omega, Blk.nil bs⟩
theorem srt_two (gd : Srt.Good lt) {l1 l2 : List α} (h : Unl lt (l1 ++ l2)) : srt lt (srt lt l1 ++ srt lt l2) = srt lt (l1 ++ l2) :=
 (srt_congr gd h ((srt_perm l1).append (srt_perm l2)).symm).symm
theorem unl_sub {A B : List α} (h : Unl lt B) (s : A.Sublist B) : Unl lt A := List.Pairwise.sublist s h
theorem insertion_at (K : SortK pv g lt cv) (e : TypeId) (n : Nat) (X L Y : List α) (hU : Unl lt L) (hn : X.length + L.length + Y.length = n) (hm : n ≤ 1000000000000) (l0 r : List PV) (hl0 : l0 = (X ++ (L ++ Y)).map pv) (hr : r = (X ++ (srt lt L ++ Y)).map pv) (ia ib : Int) (ha : ia = (X.length : Int)) (hb : ib = ((X.length + L.length : Nat) : Int)) :
  Eff Tryz.prog 146 [.vsl 1000 n 15, .int .i64 ia, .int .i64 ib, .fn g []] (oneV n 15 e l0) (.tup []) (oneV n 15 e r) := by
 subst ha hb hl0
 exact insertion_eff K e n X L Y hU hn hm r hr
set_option maxRecDepth 20000 in
set_option maxHeartbeats 16000000 in
theorem stable_eff (K : SortK pv g lt cv) (e : TypeId) (n : Nat) (hm : n ≤ 1000000000000) (L : List α) (hU : Unl lt L) (hn : L.length = n) (r : List PV) (hr : r = (srt lt L).map pv) :
  Eff Tryz.prog 106 [.vsl 1000 n 15, .int .i64 (n : Int), .fn g []] (oneV n 15 e (L.map pv)) (.tup []) (oneV n 15 e r) := by
 subst hr
 have hcl : ∀ l : List α, ∀ p ∈ l.map pv, p.ids = [] := fun l => ids_mapV K.ids l
 refine Eff.vw [] Tryz.func106 (by decide) rfl Tryz.ntmps106 Tryz.results106 (by simp) (hcl _) (hcl _) (by simp [PV.ids, PV.idsL]) (by simp [PV.ids, PV.idsL]) fun q => ?_
 simp only [go_sem]
 refine vLoopX (ι := { s : List α × List α // (∀ C, Blk lt 20 s.2 C → Blk lt 20 L (s.1 ++ C)) ∧ s.1.length + s.2.length = n ∧ s.2.Sublist L }) 63 (fun y => [(0, .vsl 1000 n 15), (1, .int .i64 (n : Int)), (2, .fn g []), (6, .int .i64 20), (7, .int .i64 (y.1.1.length : Int)), (8, .int .i64 ((y.1.1.length + 20 : Nat) : Int))]) (fun _ => []) (fun _ => [(1000, .vec n 15 e)]) (fun _ => []) (fun _ => []) (fun y => [(1000, (y.1.1 ++ y.1.2).map pv)]) (fun _ => []) [] [(1000, q)] [] (fun y => y.1.2.length) ⟨([], L), fun C h => h, by simpa using hn, List.Sublist.refl L⟩
  (hasX_v rfl (fcs rfl (fcs rfl (fcs rfl (fcs rfl (fcs rfl (fcs rfl fnl)))))) rfl rfl rfl) (fun x => wholeX_v (by simp [PV.ids, PV.idsL, refInM]) (idsL_mapV K.ids _)) (fun y => ?_)
 obtain ⟨⟨D, R⟩, h1, h2, h3⟩ := y
 simp only at h1 h2 h3 ⊢
 by_cases hk : 20 ≤ R.length
 ·have c1 : ((D.length + 20 : Nat) : Int) ≤ (n : Int) := by omega
  have w1 : IntKind.i64.wrap (((D.length + 20 : Nat) : Int) + 20) = ((D.length + 20 + 20 : Nat) : Int) := by rw [w64n (by omega) (by omega)]; omega
  have e1 : R.take 20 ++ R.drop 20 = R := List.take_append_drop _ _
  have l1 : (R.take 20).length = 20 := by rw [List.length_take]; omega
  generalize R.take 20 = l at e1 l1
  generalize R.drop 20 = R' at e1
  subst e1
  simp only [List.length_append] at h2
  simp only [go_sem, c1]
  refine vCall_vw 1000 (insertion_at K e n D l R' (unl_sub hU ((List.sublist_append_left _ _).trans h3)) (by omega) hm _ ((D ++ (srt lt l ++ R')).map pv) rfl rfl _ _ rfl (by omega)) (by simp [PV.ids, PV.idsL]) (hcl _) (hcl _) rfl rfl rfl ?_
  simp only [go_sem, w1]
  refine ⟨⟨(D ++ srt lt l, R'), fun C hC => by rw [List.append_assoc]; exact h1 _ (.more l R' C l1 hC), by simp [srt_length]; omega, (List.sublist_append_right _ _).trans h3⟩, by show R'.length < (l ++ R').length; simp; omega, hasX_v rfl ?_ rfl (by show some _ = some _; simp) rfl⟩
  show ∀ x ∈ [(0, PV.vsl 1000 n 15), (1, .int .i64 (n : Int)), (2, .fn g []), (6, .int .i64 20), (7, .int .i64 ((D ++ srt lt l).length : Int)), (8, .int .i64 (((D ++ srt lt l).length + 20 : Nat) : Int))], _
  rw [show (D ++ srt lt l).length = D.length + 20 by simp [srt_length, l1]]
  exact (fcs rfl (fcs rfl (fcs rfl (fcs rfl (fcs rfl (fcs rfl fnl))))))
 ·have c1 : ¬ ((D.length + 20 : Nat) : Int) ≤ (n : Int) := by omega
  simp only [go_sem, c1]
  refine vCall_vw 1000 (insertion_at K e n D R [] (unl_sub hU h3) (by simpa using h2) hm _ ((D ++ srt lt R).map pv) (by simp) (by simp) _ _ rfl (by omega)) (by simp [PV.ids, PV.idsL]) (hcl _) (hcl _) rfl rfl rfl ?_
  have hB := h1 _ (.last R (by omega))
  generalize D ++ srt lt R = C at hB
  clear h1 h2 h3 hk c1
  simp only [go_sem]
  refine vLoopX (ι := { s : Nat × List α // Blk lt s.1 L s.2 ∧ 0 < s.1 ∧ (s.1 = 20 ∨ s.1 ≤ 2 * n) }) 63 (fun y => [(0, .vsl 1000 n 15), (1, .int .i64 (n : Int)), (2, .fn g []), (6, .int .i64 (y.1.1 : Int))]) (fun _ => []) (fun _ => [(1000, .vec n 15 e)]) (fun _ => []) (fun _ => []) (fun y => [(1000, y.1.2.map pv)]) (fun _ => []) [] [(1000, q)] [] (fun y => n - y.1.1) ⟨(20, C), hB, by show 0 < 20; omega, .inl rfl⟩
   (hasX_v rfl (fcs rfl (fcs rfl (fcs rfl (fcs rfl fnl)))) rfl rfl rfl) (fun x => wholeX_v (by simp [PV.ids, PV.idsL, refInM]) (idsL_mapV K.ids _)) (fun y => ?_)
  clear hB C
  obtain ⟨⟨bs, C⟩, hB, hb0, hb1⟩ := y
  simp only at hB hb0 hb1 ⊢
  by_cases hk : bs < n
  ·have c1 : (bs : Int) < (n : Int) := by omega
   have w1 : IntKind.i64.wrap (2 * (bs : Int)) = ((2 * bs : Nat) : Int) := by rw [w64n (by omega) (by omega)]; omega
   have w2 : IntKind.i64.wrap ((bs : Int) * 2) = ((2 * bs : Nat) : Int) := by rw [w64n (by omega) (by omega)]; omega
   simp only [go_sem, c1, w1]
   refine vLoopX (ι := { s : List α × List α × List α // (∀ C, Blk lt (2 * bs) s.2.1 C → Blk lt (2 * bs) L (s.1 ++ C)) ∧ Blk lt bs s.2.1 s.2.2 ∧ s.1.length + s.2.1.length = n ∧ s.2.1.Sublist L }) 63 (fun y => [(0, .vsl 1000 n 15), (1, .int .i64 (n : Int)), (2, .fn g []), (6, .int .i64 (bs : Int)), (7, .int .i64 (y.1.1.length : Int)), (8, .int .i64 ((y.1.1.length + 2 * bs : Nat) : Int))]) (fun _ => []) (fun _ => [(1000, .vec n 15 e)]) (fun _ => []) (fun _ => []) (fun y => [(1000, (y.1.1 ++ y.1.2.2).map pv)]) (fun _ => []) [] [(1000, q)] [] (fun y => y.1.2.1.length) ⟨([], L, C), fun C h => h, hB, by simpa using hn, List.Sublist.refl L⟩
    (hasX_v rfl (by show ∀ x ∈ [(0, PV.vsl 1000 n 15), (1, .int .i64 (n : Int)), (2, .fn g []), (6, .int .i64 (bs : Int)), (7, .int .i64 0), (8, .int .i64 ((0 + 2 * bs : Nat) : Int))], _; rw [Nat.zero_add]; exact (fcs rfl (fcs rfl (fcs rfl (fcs rfl (fcs rfl (fcs rfl fnl))))))) rfl rfl rfl) (fun x => wholeX_v (by simp [PV.ids, PV.idsL, refInM]) (idsL_mapV K.ids _)) (fun y => ?_)
   obtain ⟨⟨D, R, CR⟩, h1, h2, h3, h4⟩ := y
   simp only at h1 h2 h3 h4 ⊢
   by_cases hk2 : 2 * bs ≤ R.length
   ·have c2 : ((D.length + 2 * bs : Nat) : Int) ≤ (n : Int) := by omega
    have w3 : IntKind.i64.wrap ((D.length : Int) + (bs : Int)) = ((D.length + bs : Nat) : Int) := by rw [w64n (by omega) (by omega)]; omega
    have w4 : IntKind.i64.wrap (((D.length + 2 * bs : Nat) : Int) + ((2 * bs : Nat) : Int)) = ((D.length + 2 * bs + 2 * bs : Nat) : Int) := by rw [w64n (by omega) (by omega)]; omega
    obtain ⟨l1, l2, R2, C2, rfl, rfl, k1, k2, k3⟩ := h2.two hb0 hk2
    have k4 := k3.len
    simp only [List.length_append] at h3
    have hU2 : Unl lt (l1 ++ l2) := unl_sub hU ((by rw [← List.append_assoc]; exact List.sublist_append_left _ _ : (l1 ++ l2).Sublist (l1 ++ (l2 ++ R2))).trans h4)
    obtain ⟨u1, u2, u3⟩ := Unl.append.1 hU2
    have hU3 : Unl lt (srt lt l1 ++ srt lt l2) := Unl.perm hU2 ((srt_perm l1).append (srt_perm l2)).symm
    simp only [go_sem, c2, w1, w3]
    refine vCall_vw 1000 (symMerge_eff K e n hm _ D (srt lt l1) (srt lt l2) C2 (Nat.le_refl _) (srt_inc K.good u1) (srt_inc K.good u2) hU3 (by rw [srt_length]; omega) (by rw [srt_length]; omega) (by simp only [srt_length]; omega) _ ((D ++ (srt lt (l1 ++ l2) ++ C2)).map pv) (by simp) (by rw [srt_two K.good hU2]) _ _ _ rfl (by simp only [srt_length]; omega) (by simp only [srt_length]; omega)) (by simp [PV.ids, PV.idsL]) (hcl _) (hcl _) rfl rfl rfl ?_
    simp only [go_sem, w1, w4]
    have hx : (D ++ srt lt (l1 ++ l2)).length = D.length + 2 * bs := by simp [srt_length]; omega
    refine ⟨⟨(D ++ srt lt (l1 ++ l2), R2, C2), fun C hC => by rw [List.append_assoc]; exact h1 _ (by rw [← List.append_assoc]; exact .more (l1 ++ l2) R2 C (by simp; omega) hC), k3, by show (D ++ srt lt (l1 ++ l2)).length + R2.length = n; rw [hx]; omega, ((List.sublist_append_right _ _).trans (List.sublist_append_right _ _)).trans h4⟩, by show R2.length < (l1 ++ (l2 ++ R2)).length; simp; omega, hasX_v rfl ?_ rfl (by show some _ = some _; simp) rfl⟩
    show ∀ x ∈ [(0, PV.vsl 1000 n 15), (1, .int .i64 (n : Int)), (2, .fn g []), (6, .int .i64 (bs : Int)), (7, .int .i64 ((D ++ srt lt (l1 ++ l2)).length : Int)), (8, .int .i64 (((D ++ srt lt (l1 ++ l2)).length + 2 * bs : Nat) : Int))], _
    rw [hx]
    exact (fcs rfl (fcs rfl (fcs rfl (fcs rfl (fcs rfl (fcs rfl fnl))))))
   ·have c2 : ¬ ((D.length + 2 * bs : Nat) : Int) ≤ (n : Int) := by omega
    have w3 : IntKind.i64.wrap ((D.length : Int) + (bs : Int)) = ((D.length + bs : Nat) : Int) := by rw [w64n (by omega) (by omega)]; omega
    by_cases hk3 : bs < R.length
    ·have c3 : ((D.length + bs : Nat) : Int) < (n : Int) := by omega
     obtain ⟨l1, R1, C1, rfl, rfl, k1, k2⟩ := h2.first hk3
     simp only [List.length_append] at h3 hk2 hk3
     have := k2.small hb0 (by omega)
     subst this
     have hU2 : Unl lt (l1 ++ R1) := unl_sub hU h4
     obtain ⟨u1, u2, u3⟩ := Unl.append.1 hU2
     have hU3 : Unl lt (srt lt l1 ++ srt lt R1) := Unl.perm hU2 ((srt_perm l1).append (srt_perm R1)).symm
     simp only [go_sem, c2, w3, c3]
     refine vCall_vw 1000 (symMerge_eff K e n hm _ D (srt lt l1) (srt lt R1) [] (Nat.le_refl _) (srt_inc K.good u1) (srt_inc K.good u2) hU3 (by rw [srt_length]; omega) (by rw [srt_length]; omega) (by simp only [srt_length, List.length_nil]; omega) _ ((D ++ srt lt (l1 ++ R1)).map pv) (by simp) (by rw [srt_two K.good hU2]; simp) _ _ _ rfl (by simp only [srt_length]; omega) (by simp only [srt_length]; omega)) (by simp [PV.ids, PV.idsL]) (hcl _) (hcl _) rfl rfl rfl ?_
     simp only [go_sem, w2]
     exact ⟨⟨(2 * bs, D ++ srt lt (l1 ++ R1)), h1 _ (.last _ (by simp; omega)), by show 0 < 2 * bs; omega, .inr (by show 2 * bs ≤ 2 * n; omega)⟩, by show n - 2 * bs < n - bs; omega, hasX_v rfl (fcs rfl (fcs rfl (fcs rfl (fcs rfl fnl)))) rfl rfl rfl⟩
    ·have c3 : ¬ ((D.length + bs : Nat) : Int) < (n : Int) := by omega
     have := h2.small hb0 (by omega)
     subst this
     simp only [go_sem, c2, w3, c3, w2]
     exact ⟨⟨(2 * bs, D ++ srt lt R), h1 _ (.last _ (by omega)), by show 0 < 2 * bs; omega, .inr (by show 2 * bs ≤ 2 * n; omega)⟩, by show n - 2 * bs < n - bs; omega, hasX_v rfl (fcs rfl (fcs rfl (fcs rfl (fcs rfl fnl)))) rfl rfl rfl⟩
  ·have c1 : ¬ (bs : Int) < (n : Int) := by omega
   have := hB.small hb0 (by omega)
   subst this
   simp only [go_sem, c1]
   exact eret_vw (r0 := .tup []) (hcl _) rfl (.clean rfl) rfl rfl rfl
theorem SortStable_eff (K : SortK pv g lt cv) (e : TypeId) (n : Nat) (hm : n ≤ 1000000000000) (L : List α) (hU : Unl lt L) (hn : L.length = n) (r : List PV) (hr : r = (srt lt L).map pv) :
  Eff Tryz.prog 64 [.vsl 1000 n 15, .fn g []] (oneV n 15 e (L.map pv)) (.tup []) (oneV n 15 e r) := by
 subst hr
 have hcl : ∀ l : List α, ∀ p ∈ l.map pv, p.ids = [] := fun l => ids_mapV K.ids l
 refine Eff.vw [] Tryz.func64 (by decide) rfl Tryz.ntmps64 Tryz.results64 (by simp) (hcl _) (hcl _) (by simp [PV.ids, PV.idsL]) (by simp [PV.ids, PV.idsL]) fun q => ?_
 simp only [go_sem]
 refine vCall_vw 1000 (stable_eff K e n hm L hU hn _ rfl) (by simp [PV.ids, PV.idsL]) (hcl _) (hcl _) rfl rfl rfl ?_
 simp only [go_sem]
 exact eret_vw (r0 := .tup []) (hcl _) rfl (.clean rfl) rfl rfl rfl
end
end Go.Proofs.YthingdchjkhfbaaGreat
set_option linter.unusedSimpArgs false
set_option linter.unusedVariables false
set_option linter.unusedSimpArgs false
set_option linter.unusedVariables false
namespace Go.Proofs.YthingdchjkhfbaaGreat
open Go.Shelf
def sortStr_ren : Go.Shelf.Ren := ⟨fun | 190 => 70 | 125 => 113 | 258 => 112 | 128 => 160 | 129 => 161 | 302 => 151 | 303 => 152 | 304 => 153 | 305 => 154 | 306 => 155 | 307 => 156 | 308 => 157 | 309 => 158 | 310 => 159 | 333 => 177 | 329 => 178 | 330 => 179 | 334 => 180 | 335 => 181 | 336 => 182 | 344 => 189 | n => n, fun | 31 => 61 | 9 => 9 | 3 => 3 | 46 => 183 | 0 => 0 | 51 => 222 | 53 => 224 | 4 => 4 | 183 => 214 | 182 => 213 | 131 => 219 | 5 => 5 | 218 => 234 | 222 => 238 | 228 => 247 | 229 => 248 | n => n, fun | n => n⟩
theorem sortStr : Go.Proofs.Lays.n190 Tryz.prog sortStr_ren where
 mixed := by kernel_rfl
 f125 := Tryz.func113.trans (congrArg some (by kernel_rfl))
 f128 := Tryz.func160.trans (congrArg some (by kernel_rfl))
 f129 := Tryz.func161.trans (congrArg some (by kernel_rfl))
 f190 := Tryz.func70.trans (congrArg some (by kernel_rfl))
 f258 := Tryz.func112.trans (congrArg some (by kernel_rfl))
 f302 := Tryz.func151.trans (congrArg some (by kernel_rfl))
 f303 := Tryz.func152.trans (congrArg some (by kernel_rfl))
 f304 := Tryz.func153.trans (congrArg some (by kernel_rfl))
 f305 := Tryz.func154.trans (congrArg some (by kernel_rfl))
 f306 := Tryz.func155.trans (congrArg some (by kernel_rfl))
 f307 := Tryz.func156.trans (congrArg some (by kernel_rfl))
 f308 := Tryz.func157.trans (congrArg some (by kernel_rfl))
 f309 := Tryz.func158.trans (congrArg some (by kernel_rfl))
 f310 := Tryz.func159.trans (congrArg some (by kernel_rfl))
 f329 := Tryz.func178.trans (congrArg some (by kernel_rfl))
 f330 := Tryz.func179.trans (congrArg some (by kernel_rfl))
 f333 := Tryz.func177.trans (congrArg some (by kernel_rfl))
 f334 := Tryz.func180.trans (congrArg some (by kernel_rfl))
 f335 := Tryz.func181.trans (congrArg some (by kernel_rfl))
 f336 := Tryz.func182.trans (congrArg some (by kernel_rfl))
 f344 := Tryz.func189.trans (congrArg some (by kernel_rfl))
 t0 := Tryz.underlying0
 a0 := Tryz.isAgg0
 z0 := Tryz.sizeOf0
 v0 := Tryz.zeroValue0
 t3 := Tryz.underlying3
 a3 := Tryz.isAgg3
 z3 := Tryz.sizeOf3
 v3 := Tryz.zeroValue3
 t4 := Tryz.underlying4
 a4 := Tryz.isAgg4
 z4 := Tryz.sizeOf4
 v4 := Tryz.zeroValue4
 t5 := Tryz.underlying5
 a5 := Tryz.isAgg5
 z5 := Tryz.sizeOf5
 v5 := Tryz.zeroValue5
 t9 := Tryz.underlying9
 a9 := Tryz.isAgg9
 z9 := Tryz.sizeOf9
 v9 := Tryz.zeroValue9
 t31 := Tryz.underlying61
 a31 := Tryz.isAgg61
 z31 := Tryz.sizeOf61
 v31 := Tryz.zeroValue61
 t46 := Tryz.underlying183
 a46 := Tryz.isAgg183
 z46 := Tryz.sizeOf183
 v46 := Tryz.zeroValue183
 t51 := Tryz.underlying222
 a51 := Tryz.isAgg222
 z51 := Tryz.sizeOf222
 v51 := Tryz.zeroValue222
 t53 := Tryz.underlying224
 a53 := Tryz.isAgg224
 z53 := Tryz.sizeOf224
 v53 := Tryz.zeroValue224
 t131 := Tryz.underlying219
 a131 := Tryz.isAgg219
 z131 := Tryz.sizeOf219
 v131 := Tryz.zeroValue219
 t182 := Tryz.underlying213
 a182 := Tryz.isAgg213
 z182 := Tryz.sizeOf213
 v182 := Tryz.zeroValue213
 t183 := Tryz.underlying214
 a183 := Tryz.isAgg214
 z183 := Tryz.sizeOf214
 v183 := Tryz.zeroValue214
 t218 := Tryz.underlying234
 a218 := Tryz.isAgg234
 z218 := Tryz.sizeOf234
 v218 := Tryz.zeroValue234
 t222 := Tryz.underlying238
 a222 := Tryz.isAgg238
 z222 := Tryz.sizeOf238
 v222 := Tryz.zeroValue238
 t228 := Tryz.underlying247
 a228 := Tryz.isAgg247
 z228 := Tryz.sizeOf247
 v228 := Tryz.zeroValue247
 t229 := Tryz.underlying248
 a229 := Tryz.isAgg248
 z229 := Tryz.sizeOf248
 v229 := Tryz.zeroValue248
def compStr_ren : Go.Shelf.Ren := ⟨fun | 194 => 71 | n => n, fun | 31 => 61 | 9 => 9 | 3 => 3 | 4 => 4 | 0 => 0 | n => n, fun | n => n⟩
theorem compStr : Go.Proofs.Lays.n194 Tryz.prog compStr_ren where
 mixed := by kernel_rfl
 f194 := Tryz.func71.trans (congrArg some (by kernel_rfl))
 t0 := Tryz.underlying0
 a0 := Tryz.isAgg0
 z0 := Tryz.sizeOf0
 v0 := Tryz.zeroValue0
 t3 := Tryz.underlying3
 a3 := Tryz.isAgg3
 z3 := Tryz.sizeOf3
 v3 := Tryz.zeroValue3
 t4 := Tryz.underlying4
 a4 := Tryz.isAgg4
 z4 := Tryz.sizeOf4
 v4 := Tryz.zeroValue4
 t9 := Tryz.underlying9
 a9 := Tryz.isAgg9
 z9 := Tryz.sizeOf9
 v9 := Tryz.zeroValue9
 t31 := Tryz.underlying61
 a31 := Tryz.isAgg61
 z31 := Tryz.sizeOf61
 v31 := Tryz.zeroValue61
end Go.Proofs.YthingdchjkhfbaaGreat
set_option linter.unusedSimpArgs false
set_option linter.unusedVariables false
set_option linter.unusedSimpArgs false
set_option linter.unusedVariables false
namespace Go.Proofs.YthingdchjkhfbaaGreat
open Go.PL Go.PL.Srt
def olessB (a b : Opn) : Bool := if a.time = b.time then tlessB a.id b.id else decide (a.time < b.time)
set_option maxHeartbeats 4000000 in
theorem OLess_pure (a b : Opn) : PL.Pure Tryz.prog 107 [opv a, opv b] (.bool (olessB a b)) := by
 have hT := TLess_pure a.id b.id
 unfold olessB
 by_cases h : a.time = b.time
 ·have e : (a.time != b.time) = false := by simpa using h
  rw [if_pos h]
  refine PL.Pure.of_v Tryz.func107 (by decide) rfl Tryz.ntmps107 Tryz.results107 (by simp) rfl ?_
  simp only [go_sem, opv, e]
  refine vCall_of (hT) ?_ ?_ ?_; iterate 2 simp only [go_sem, tg]
  simp only [go_sem]
 ·have e : (a.time != b.time) = true := by simpa using h
  rw [if_neg h]
  refine PL.Pure.of_v Tryz.func107 (by decide) rfl Tryz.ntmps107 Tryz.results107 (by simp) rfl ?_
  simp only [go_sem, opv, e]
def oordI (a b : Opn) : Int := if olessB a b = true then -1 else if olessB b a = true then 1 else 0
set_option maxHeartbeats 4000000 in
theorem OOrder_pure (a b : Opn) : PL.Pure Tryz.prog 65 [opv a, opv b] (.int .i64 (oordI a b)) := by
 have h1 := OLess_pure a b
 have h2 := OLess_pure b a
 unfold oordI
 cases e1 : olessB a b
 ·cases e2 : olessB b a
  all_goals
   rw [e1] at h1
   rw [e2] at h2
   refine PL.Pure.of_v Tryz.func65 (by decide) rfl Tryz.ntmps65 Tryz.results65 (by simp) rfl ?_
   simp only [go_sem, opv]
   refine vCall_of (h1) ?_ ?_ ?_; iterate 2 simp only [go_sem, opv]
   simp only [go_sem]
   refine vCall_of (h2) ?_ ?_ ?_; iterate 2 simp only [go_sem, opv]
   simp only [go_sem]
 ·rw [e1] at h1
  refine PL.Pure.of_v Tryz.func65 (by decide) rfl Tryz.ntmps65 Tryz.results65 (by simp) rfl ?_
  simp only [go_sem, opv]
  refine vCall_of (h1) ?_ ?_ ?_; iterate 2 simp only [go_sem, opv]
  simp only [go_sem]
theorem tlessO_iff (a b : Tg) : tlessB a b = true ↔ a.r < b.r ∨ (a.r = b.r ∧ a.n < b.n) := by
 unfold tlessB
 split
 ·rename_i h
  rw [decide_eq_true_eq]
  exact ⟨fun k => .inr ⟨h, k⟩, fun k => by rcases k with k | k; exact absurd h (by omega); exact k.2⟩
 ·rename_i h
  rw [decide_eq_true_eq]
  exact ⟨.inl, fun k => by rcases k with k | k; exact k; exact absurd k.1 h⟩
theorem tless_asym {a b : Tg} (h : tlessB a b = true) : tlessB b a = false := by
 rw [Bool.eq_false_iff, ne_eq, tlessO_iff]
 rw [tlessO_iff] at h
 omega
theorem tless_trans {a b c : Tg} (h1 : tlessB a b = true) (h2 : tlessB b c = true) : tlessB a c = true := by
 rw [tlessO_iff] at *
 omega
theorem tless_tot {a b : Tg} (h : a ≠ b) : tlessB a b = true ∨ tlessB b a = true := by
 rw [tlessO_iff, tlessO_iff]
 by_cases e : a.r = b.r
 ·have hn : a.n ≠ b.n := fun en => h (by cases a; cases b; simp only at e en; subst e en; rfl)
  omega
 ·omega
theorem oless_good : Srt.Good olessB where
 asym a b h := by
  unfold olessB at *
  by_cases e : a.time = b.time
  ·rw [if_pos e] at h; rw [if_pos e.symm]; exact tless_asym h
  ·rw [if_neg e] at h; rw [if_neg (fun x => e x.symm)]; simp at h ⊢; omega
 trans a b c h1 h2 := by
  unfold olessB at *
  by_cases p : a.time = b.time
  ·rw [if_pos p] at h1
   by_cases q : b.time = c.time
   ·rw [if_pos q] at h2; rw [if_pos (p.trans q)]; exact tless_trans h1 h2
   ·rw [if_neg q] at h2; rw [if_neg (fun x => q (p.symm.trans x))]; simp at h2 ⊢; omega
  ·rw [if_neg p] at h1
   by_cases q : b.time = c.time
   ·rw [if_pos q] at h2; rw [if_neg (fun x => p (x.trans q.symm))]; simp at h1 ⊢; omega
   ·rw [if_neg q] at h2; simp at h1 h2; rw [if_neg (by omega)]; simp; omega
theorem oless_tot {a b : Opn} (h : a.id ≠ b.id) : olessB a b = true ∨ olessB b a = true := by
 unfold olessB
 by_cases e : a.time = b.time
 ·rw [if_pos e, if_pos e.symm]; exact tless_tot h
 ·rw [if_neg e, if_neg (fun x => e x.symm)]; simp; omega
theorem ops_sort : SortK opv 65 olessB oordI where
 len _ := rfl
 atom a := rfl
 ids a := by simp [opv, PV.ids, PV.idsL]
 known _ := rfl
 give a m := by simp [opv, PV.give, PV.giveL]
 givable a m := by simp [opv, PV.givable, PV.givableL]
 part a := rfl
 cmp := OOrder_pure
 cv a b := by
  unfold oordI
  cases h1 : olessB a b
  ·cases h2 : olessB b a <;> simp
  ·simp
 good := oless_good
def opvs (l : List Opn) : PV := .sl .no (l.map opv)
theorem sized_op (l : List Opn) : Sized 15 (l.map opv) := fun e he => by
 obtain ⟨o, _, rfl⟩ := List.mem_map.1 he; rfl
theorem atoms_op (l : List Opn) : Atoms (l.map opv) := fun e he => by
 obtain ⟨o, _, rfl⟩ := List.mem_map.1 he; rfl
theorem didsL_op (l : List Opn) : PV.didsL (l.map opv) = [] := by
 induction l with
 | nil => rfl
 | cons o l ih => simp only [List.map_cons, PV.didsL, opv_dids, ih, List.append_nil]
theorem opvs_dids (l : List Opn) : (opvs l).dids = [] := by simp only [opvs, PV.dids, didsL_op]
theorem getD_op {l : List Opn} {k : Nat} (h : k < l.length) : (l.map opv).getD k .any = opv (l.getD k default) := getD_map h
theorem opv_ids (o : Opn) : (opv o).ids = [] := ops_sort.ids o
set_option maxHeartbeats 4000000 in
theorem OOwn_pure (o : Opn) (ho : OkOp o) : PL.Pure Tryz.prog 42 [opv o] (opv o) := by
 have hr := room1 ho.d (show 16 ≤ 1000 by omega)
 refine PL.Pure.of_v Tryz.func42 (by decide) rfl Tryz.ntmps42 Tryz.results42 (by simp) (opv_dids _) ?_
 simp only [go_sem, opv, sized_tg, atoms_tg, List.length_map, hr]
def heavyOps (l : List Opn) (most : Int) : Bool := decide (most < (l.length : Int)) || l.any heavyO
set_option maxHeartbeats 4000000 in
theorem RHeavyOps_pure (l : List Opn) (most : Int) (hl : l.length ≤ maxLen) : PL.Pure Tryz.prog 10 [opvs l, .int .i64 most] (.bool (heavyOps l most)) := by
 by_cases hm : most < (l.length : Int)
 ·refine PL.Pure.of_v Tryz.func10 (by decide) rfl Tryz.ntmps10 Tryz.results10 (by simp) rfl ?_
  simp only [go_sem, opvs, hm, heavyOps, Bool.true_or]
 ·have hz : heavyOps l most = l.any heavyO := by simp only [heavyOps, hm, decide_false, Bool.false_or]
  rw [hz]
  refine PL.Pure.of_v Tryz.func10 (by decide) rfl Tryz.ntmps10 Tryz.results10 (by simp) rfl ?_
  simp only [go_sem, opvs, hm]
  refine vLoopM (ι := { x : Nat // x ≤ (l).length ∧ (∀ j, j < x → heavyO (l.getD j default) = false) }) 21 (fun x => [(0, opvs l), (5, .int .i64 (x.1 : Int))]) (fun x => []) (fun x => []) (fun x => (l).length - x.1) ⟨0, Nat.zero_le _, fun j hj => absurd hj (Nat.not_lt_zero j)⟩ ⟨rfl, (fcs rfl (fcs rfl fnl)), fnl, fnl⟩ (fun x => ⟨(fcs rfl (fcs rfl fnl)), fnl⟩) (fun x => ?_); obtain ⟨k, hk, hI⟩ := x; simp only at hk hI ⊢
  by_cases h : (k : Int) < (l.length : Int)
  ·(have hka : k < (l).length := by omega); (have w1 := w64s hka (hl)); (have i1 : (0 : Int) ≤ (k : Int) := by omega)
   have hF := RHeavyO_pure (l.getD k default)
   cases hf : heavyO (l.getD k default)
   ·rw [hf] at hF
    simp only [go_sem, opvs, h, getD_op hka, opv, i1]
    refine vCall_of (hF) ?_ ?_ ?_; iterate 2 simp only [go_sem, opv]
    simp only [go_sem, w1]
    exact ⟨⟨k + 1, by (try simp only); omega, below_succ hI hf⟩, by show (l).length - (k + 1) < (l).length - k; omega, ⟨rfl, (fcs rfl (fcs rfl fnl)), fnl, fnl⟩⟩
   ·rw [hf] at hF
    have hz := any_true (p := heavyO) hka hf
    simp only [go_sem, opvs, h, getD_op hka, opv, i1]
    refine vCall_of (hF) ?_ ?_ ?_; iterate 2 simp only [go_sem, opv]
    simp only [go_sem, hz]
  ·have hz := any_false (p := heavyO) (d := default) (l := l) (fun j hj => hI j (by omega))
   simp only [go_sem, opvs, h, hz]
theorem okOps {l : List Opn} {most : Nat} (h : heavyOps l (most : Int) = false) : l.length ≤ most ∧ ∀ o ∈ l, OkOp o := by
 simp only [heavyOps, Bool.or_eq_false_iff, decide_eq_false_iff_not, List.any_eq_false] at h
 refine ⟨by omega, fun o ho => ⟨?_⟩⟩
 have := h.2 o ho
 simp only [heavyO, Bool.not_eq_true, Bool.or_eq_false_iff, decide_eq_false_iff_not] at this
 omega
def apartB (l : List Opn) : Bool := decide (l.map Opn.id).Nodup
theorem apart_yes {l : List Opn} (h : ∀ i, i < l.length → ∀ j, j < i → (l.getD i default).id ≠ (l.getD j default).id) : apartB l = true := by
 unfold apartB
 rw [decide_eq_true_eq, List.nodup_iff_pairwise_ne, List.pairwise_iff_getElem]
 intro i j hi hj hij
 simp only [List.length_map] at hi hj
 have := h j hj i hij
 rw [getD_lt hi, getD_lt hj] at this
 simp only [List.getElem_map]
 exact fun e => this e.symm
theorem apart_no {l : List Opn} {i j : Nat} (hi : i < l.length) (hj : j < i) (h : (l.getD i default).id = (l.getD j default).id) : apartB l = false := by
 unfold apartB
 rw [decide_eq_false_iff_not, List.nodup_iff_pairwise_ne, List.pairwise_iff_getElem]
 intro hn
 have := hn j i (by simp; omega) (by simpa using hi) hj
 simp only [List.getElem_map] at this
 rw [getD_lt hi, getD_lt (by omega)] at h
 exact this h.symm
set_option maxHeartbeats 8000000 in
theorem RApart_pure (l : List Opn) (hl : l.length ≤ maxLen) : PL.Pure Tryz.prog 11 [opvs l] (.bool (apartB l)) := by
 refine PL.Pure.of_v Tryz.func11 (by decide) rfl Tryz.ntmps11 Tryz.results11 (by simp) rfl ?_
 simp only [go_sem, opvs]
 refine vLoopM (ι := { x : Nat // x ≤ (l).length ∧ (∀ i, i < x → ∀ j, j < i → (l.getD i default).id ≠ (l.getD j default).id) }) 27 (fun x => [(0, opvs l), (3, .int .i64 (x.1 : Int))]) (fun x => []) (fun x => []) (fun x => (l).length - x.1) ⟨0, Nat.zero_le _, fun j hj => absurd hj (Nat.not_lt_zero j)⟩ ⟨rfl, (fcs rfl (fcs rfl fnl)), fnl, fnl⟩ (fun x => ⟨(fcs rfl (fcs rfl fnl)), fnl⟩) (fun x => ?_); obtain ⟨k, hk, hI⟩ := x; simp only at hk hI ⊢
 by_cases h : (k : Int) < (l.length : Int)
 ·(have hka : k < (l).length := by omega); (have w1 := w64s hka (hl)); (have i1 : (0 : Int) ≤ (k : Int) := by omega)
  simp only [go_sem, opvs, h]
  refine vLoopM (ι := { x : Nat // x ≤ (l.take k).length ∧ (∀ j, j < x → (l.getD k default).id ≠ (l.getD j default).id) }) 27 (fun x => [(0, opvs l), (3, .int .i64 (k : Int)), (4, .int .i64 (x.1 : Int))]) (fun x => []) (fun x => []) (fun x => (l.take k).length - x.1) ⟨0, Nat.zero_le _, fun j hj => absurd hj (Nat.not_lt_zero j)⟩ ⟨rfl, (fcs rfl (fcs rfl (fcs rfl fnl))), fnl, fnl⟩ (fun x => ⟨(fcs rfl (fcs rfl (fcs rfl fnl))), fnl⟩) (fun x => ?_); obtain ⟨kb, hkb, hIb⟩ := x; simp only at hkb hIb ⊢
  have hlt : (l.take k).length = k := by rw [List.length_take]; omega
  rw [hlt] at hkb
  by_cases hb : (kb : Int) < (k : Int)
  ·have hkb2 : kb < l.length := by omega
   have w2 : IntKind.i64.wrap ((kb : Int) + 1) = ((kb + 1 : Nat) : Int) := by rw [w64 (by rw [maxLen_eq] at hl; omega)]; rfl
   have b1 : (0 : Int) ≤ (kb : Int) ∧ (kb : Int) < (l.length : Int) := by omega
   by_cases he : (l.getD k default).id = (l.getD kb default).id
   ·have hz := apart_no hka (show kb < k by omega) he
    simp only [go_sem, opvs, hb]
    refine vDrawQ (by kernel_rfl) (by kernel_rfl) ?_
    simp only [go_sem, getD_op hka, getD_op hkb2, opv, i1, h, b1.1, b1.2, tg_fold, he, hz]
   ·simp only [go_sem, opvs, hb]
    refine vDrawQ (by kernel_rfl) (by kernel_rfl) ?_
    simp only [go_sem, getD_op hka, getD_op hkb2, opv, i1, h, b1.1, b1.2, tg_fold, he, w2]
    exact ⟨⟨kb + 1, by rw [hlt]; omega, fun j hj => by
     have hj : j < kb + 1 := hj
     by_cases e : j = kb
     ·subst e; exact he
     ·exact hIb j (by omega)⟩, by show (l.take k).length - (kb + 1) < (l.take k).length - kb; rw [hlt]; omega, ⟨rfl, (fcs rfl (fcs rfl (fcs rfl fnl))), fnl, fnl⟩⟩
  ·simp only [go_sem, opvs, hb, w1]
   exact ⟨⟨k + 1, by omega, fun i hi j hj => by
    have hi : i < k + 1 := hi
    by_cases e : i = k
    ·subst e; exact hIb j (by omega)
    ·exact hI i (by omega) j hj⟩, by show l.length - (k + 1) < l.length - k; omega, ⟨rfl, (fcs rfl (fcs rfl fnl)), fnl, fnl⟩⟩
 ·have hz := apart_yes (l := l) (fun i hi => hI i (by omega))
  simp only [go_sem, opvs, h, hz]
theorem ops_eq {a b : List Opn} (hl : a.length = b.length) (h : ∀ j, j < a.length → a.getD j default = b.getD j default) : a = b := List.ext_getElem hl fun i h1 h2 => by
 have := h i h1
 rwa [getD_lt h1, getD_lt h2] at this
set_option maxHeartbeats 4000000 in
theorem RSameOps_pure (a b : List Opn) (ha : a.length ≤ maxLen) (hb : b.length ≤ maxLen) (oa : ∀ o ∈ a, OkOp o) (ob : ∀ o ∈ b, OkOp o) : PL.Pure Tryz.prog 17 [opvs a, opvs b] (.bool (decide (a = b))) := by
 by_cases hl : a.length = b.length
 ·have hne : ((a.length : Int) != (b.length : Int)) = false := by simp [hl]
  refine PL.Pure.of_v Tryz.func17 (by decide) rfl Tryz.ntmps17 Tryz.results17 (by simp) rfl ?_
  simp only [go_sem, opvs, hne]
  refine vLoopM (ι := { x : Nat // x ≤ (a).length ∧ (∀ j, j < x → a.getD j default = b.getD j default) }) 27 (fun x => [(0, opvs a), (1, opvs b), (5, .int .i64 (x.1 : Int))]) (fun x => []) (fun x => []) (fun x => (a).length - x.1) ⟨0, Nat.zero_le _, fun j hj => absurd hj (Nat.not_lt_zero j)⟩ ⟨rfl, (fcs rfl (fcs rfl (fcs rfl fnl))), fnl, fnl⟩ (fun x => ⟨(fcs rfl (fcs rfl (fcs rfl fnl))), fnl⟩) (fun x => ?_); obtain ⟨k, hk, hI⟩ := x; simp only at hk hI ⊢
  by_cases h : (k : Int) < (a.length : Int)
  ·(have hka : k < (a).length := by omega); (have w1 := w64s hka (ha)); (have i1 : (0 : Int) ≤ (k : Int) := by omega)
   have hkb : k < b.length := by omega
   have h' : (k : Int) < (b.length : Int) := by omega
   have hS := ROSame_pure (a.getD k default) (b.getD k default) (oa _ (getD_mem' hka)).len (ob _ (getD_mem' hkb)).len
   by_cases he : a.getD k default = b.getD k default
   ·rw [decide_eq_true he] at hS
    simp only [go_sem, opvs, h]
    refine vDrawQ (by kernel_rfl) (by kernel_rfl) ?_
    simp only [go_sem, getD_op hka, getD_op hkb, opv, i1, h, h']
    refine vCall_of (hS) ?_ ?_ ?_; iterate 2 simp only [go_sem, opv]
    simp only [go_sem, w1]
    exact ⟨⟨k + 1, by (try simp only); omega, below_succ hI he⟩, by show (a).length - (k + 1) < (a).length - k; omega, ⟨rfl, (fcs rfl (fcs rfl (fcs rfl fnl))), fnl, fnl⟩⟩
   ·rw [decide_eq_false he] at hS
    have hz : ¬ a = b := fun e => he (by rw [e])
    simp only [go_sem, opvs, h]
    refine vDrawQ (by kernel_rfl) (by kernel_rfl) ?_
    simp only [go_sem, getD_op hka, getD_op hkb, opv, i1, h, h']
    refine vCall_of (hS) ?_ ?_ ?_; iterate 2 simp only [go_sem, opv]
    simp only [go_sem, hz]
  ·have hz : decide (a = b) = true := decide_eq_true (ops_eq hl (fun j hj => hI j (by omega)))
   simp only [go_sem, opvs, h, hz]
 ·have hne : ((a.length : Int) != (b.length : Int)) = true := by simpa using (fun h : (a.length : Int) = b.length => hl (by omega))
  have hz : ¬ a = b := fun e => hl (by rw [e])
  refine PL.Pure.of_v Tryz.func17 (by decide) rfl Tryz.ntmps17 Tryz.results17 (by simp) rfl ?_
  simp only [go_sem, opvs, hne, hz]
end Go.Proofs.YthingdchjkhfbaaGreat
