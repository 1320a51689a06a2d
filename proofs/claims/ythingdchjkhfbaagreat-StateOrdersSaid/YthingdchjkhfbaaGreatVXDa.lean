/- Contracts of functions and laws of this seat, each for every input that it names: lemmas of the proof. -/
import Derived.Test.YthingdchjkhfbaaGreatVXCy
import Derived.Test.YthingdchjkhfbaaGreatVXBy
import Derived.Test.YthingdchjkhfbaaGreatVPlI
import Derived.Test.YthingdchjkhfbaaGreatVXAf
import Derived.Test.YthingdchjkhfbaaGreatVXBo
set_option linter.unusedSimpArgs false
set_option linter.unusedVariables false
set_option linter.unusedSimpArgs false
set_option linter.unusedVariables false
namespace Go.Proofs.YthingdchjkhfbaaGreat
open Go.PL Go.PL.Srt
def docV (y : Dc × Int) : PV := .tup [doc y.1, .int .i64 y.2]
theorem docV_dids (y : Dc × Int) : (docV y).dids = [] := by simp only [docV, PV.dids, PV.didsL, doc_dids, List.append_nil]
def mineM (A : List Opn) (c : Str) : List Opn := A.filter fun o => o.cart == c
theorem mineM_snoc {l : List Opn} {k : Nat} (c : Str) (h : k < l.length) : mineM (l.take (k + 1)) c = mineM (l.take k) c ++ (if ((l.getD k default).cart == c) = true then [l.getD k default] else []) := by
 unfold mineM
 rw [take_snoc (d := default) h, List.filter_append]
 congr 1
 generalize l.getD k default = x
 cases hr : (x.cart == c)
 ·rw [List.filter_cons_of_neg (by rw [hr]; simp), if_neg (by simp)]; rfl
 ·rw [List.filter_cons_of_pos (by exact hr), if_pos rfl]; rfl
def viewM (m : List Eg) (l : List Opn) (cart : Str) (b : Tg) : Dc × Int :=
 if 400 < (l.length : Int) then (default, 14) else if nameB cart = false then (default, 5) else if (schM (treeOf m) b).2 ≠ 0 then (default, (schM (treeOf m) b).2)
 else (⟨fillM (schM (treeOf m) b).1 (seenL m (mineM (livM m l) cart) b) 0 [], (itemsM (mineM (livM m l) cart) cart).map fun i => ⟨i, fillM (schM (treeOf m) b).1 (seenL m (mineM (livM m l) cart) b) 1 i⟩⟩, 0)
def vsV (pre : List Opn) (ks : List Sp) : List PV := (List.range ks.length).map fun j => .sl (.row (1000 + j)) ((thereM pre (ks.getD j default)).map opv)
def qV (n : Nat) (pre : List Opn) (ks : List Sp) : PL.Rows := fun i => if i = 59 then some (.live n 15 37) else if 1000 ≤ i ∧ i < 1000 + ks.length then some (.live (thereM pre (ks.getD (i - 1000) default)).length 15 37) else none
theorem vsV_len (pre : List Opn) (ks : List Sp) : (vsV pre ks).length = ks.length := by simp [vsV]
theorem vsV_at (pre : List Opn) {ks : List Sp} {j : Nat} (h : j < ks.length) : (vsV pre ks).getD j .any = .sl (.row (1000 + j)) ((thereM pre (ks.getD j default)).map opv) := by
 unfold vsV
 rw [getD_lt (by simpa using h), List.getElem_map, List.getElem_range]
theorem there_snoc (pre : List Opn) (o : Opn) (s : Sp) : thereM (pre ++ [o]) s = thereM pre s ++ (if spO o = s then [o] else []) := by
 unfold thereM
 rw [List.filter_append]
 congr 1
 by_cases h : spO o = s <;> simp [h]
theorem nodup_getD {ks : List Sp} (h : ks.Nodup) {i j : Nat} (hi : i < ks.length) (hj : j < ks.length) (e : ks.getD i default = ks.getD j default) : i = j := by
 rw [getD_lt hi, getD_lt hj] at e
 exact (List.getElem_inj h).1 e
theorem vsV_set {pre : List Opn} {ks : List Sp} {o : Opn} {j : Nat} (hn : ks.Nodup) (hj : j < ks.length) (hs : ks.getD j default = spO o) :
  (vsV pre ks).set j (.sl (.row (1000 + j)) ((thereM pre (spO o) ++ [o]).map opv)) = vsV (pre ++ [o]) ks := by
 apply List.ext_getElem
 ·simp [vsV]
 ·intro i h1 h2
  have hi : i < ks.length := by simpa [vsV] using h2
  rw [List.getElem_set]
  by_cases e : j = i
  ·subst e
   rw [if_pos rfl]
   simp only [vsV, List.getElem_map, List.getElem_range]
   rw [there_snoc, hs, if_pos rfl]
  ·rw [if_neg e]
   simp only [vsV, List.getElem_map, List.getElem_range]
   rw [there_snoc, if_neg (fun h => e (nodup_getD hn hj hi (by rw [hs, h]))), List.append_nil]
theorem vsV_new {pre : List Opn} {ks : List Sp} {o : Opn} (hn : spO o ∉ ks) (h0 : thereM pre (spO o) = []) (z : PV) :
  (vsV pre ks ++ [z]).set ks.length (.sl (.row (1000 + ks.length)) ([o].map opv)) = vsV (pre ++ [o]) (ks ++ [spO o]) := by
 apply List.ext_getElem
 ·simp [vsV]
 ·intro i h1 h2
  have hi : i < ks.length + 1 := by simpa [vsV] using h2
  rw [List.getElem_set]
  by_cases e : ks.length = i
  ·subst e
   rw [if_pos rfl]
   simp only [vsV, List.getElem_map, List.getElem_range]
   have : (ks ++ [spO o]).getD ks.length default = spO o := by rw [getD_lt (by simp)]; simp
   rw [this, there_snoc, if_pos rfl, h0, List.nil_append]
  ·have hi' : i < ks.length := by omega
   rw [if_neg e, List.getElem_append_left (by simpa [vsV] using hi')]
   simp only [vsV, List.getElem_map, List.getElem_range]
   have : (ks ++ [spO o]).getD i default = ks.getD i default := by rw [getD_lt (by simp; omega), getD_lt hi', List.getElem_append_left hi']
   rw [this, there_snoc, if_neg, List.append_nil]
   intro h
   rw [getD_lt hi'] at h
   exact hn (h ▸ List.getElem_mem hi')
theorem qV_row (n : Nat) (pre : List Opn) {ks : List Sp} {j : Nat} (h : j < ks.length) : qV n pre ks (1000 + j) = some (.live (thereM pre (ks.getD j default)).length 15 37) := by
 unfold qV
 rw [if_neg (by omega), if_pos (by omega), show 1000 + j - 1000 = j by omega]
theorem vsV_ids {pre : List Opn} {ks : List Sp} {i : Nat} (h : i < ks.length) : ∀ r ∈ ((vsV pre ks).getD i .any).ids, r = .r (1000 + i) := fun r hr => by
 rw [vsV_at pre h] at hr
 simpa [PV.ids] using hr
theorem qV_keep {n : Nat} {pre : List Opn} {ks : List Sp} {x : Opn} {j i : Nat} (hnd : ks.Nodup) (hj : j < ks.length) (hje : ks.getD j default = spO x) (hi : i ≠ 1000 + j) : qV n (pre ++ [x]) ks i = qV n pre ks i := by
 unfold qV
 by_cases h1 : i = 59
 ·rw [if_pos h1, if_pos h1]
 ·rw [if_neg h1, if_neg h1]
  by_cases h2 : 1000 ≤ i ∧ i < 1000 + ks.length
  ·rw [if_pos h2, if_pos h2, there_snoc, if_neg, List.append_nil]
   intro e
   have := nodup_getD hnd hj (show i - 1000 < ks.length by omega) (by rw [hje, e])
   omega
  ·rw [if_neg h2, if_neg h2]
theorem qV_add {n : Nat} {pre : List Opn} {ks : List Sp} {x : Opn} {i : Nat} (hn : spO x ∉ ks) (hi : i ≠ 1000 + ks.length) : qV n (pre ++ [x]) (ks ++ [spO x]) i = qV n pre ks i := by
 unfold qV
 by_cases h1 : i = 59
 ·rw [if_pos h1, if_pos h1]
 ·rw [if_neg h1, if_neg h1]
  by_cases h2 : 1000 ≤ i ∧ i < 1000 + ks.length
  ·have hlt : i - 1000 < ks.length := by omega
   have e : (ks ++ [spO x]).getD (i - 1000) default = ks.getD (i - 1000) default := by rw [getD_lt (by simp; omega), getD_lt hlt, List.getElem_append_left hlt]
   rw [if_pos h2, if_pos (by simp; omega), e, there_snoc, if_neg, List.append_nil]
   intro e
   rw [getD_lt hlt] at e
   exact hn (e ▸ List.getElem_mem hlt)
  ·rw [if_neg h2, if_neg (by simp; omega)]
def vwL (cart : Str) (mine seen : List Opn) (k : Nat) : List (Nat × PV) := [(2, .str cart), (8, .ptr 8 0), (10, .ptr 10 0), (12, .sl (.row 59) (mine.map opv)), (15, .ptr 15 0), (65, opvs seen), (66, .int .i64 (seen.length : Int)), (67, .int .i64 (k : Int))]
def vwH (F : List Fd) (x : PV) : List (Nat × List PV) := [(8, [.sl .nil [], .sl .nil []]), (10, [.sl .no (F.map fld)]), (15, [x])]
theorem vwL_ids {cart : Str} {mine seen : List Opn} {k : Nat} {F : List Fd} {x : PV} {q : PL.Rows} (h : q 59 ≠ none) : ∀ y ∈ vwL cart mine seen k, ∀ r ∈ y.2.ids, inHq (vwH F x) q r ∧ ∀ d, 1000 ≤ d → r ≠ .r d := by
 refine fcs ?_ (fcs ?_ (fcs ?_ (fcs ?_ (fcs ?_ (fcs ?_ (fcs ?_ (fcs ?_ fnl))))))) <;> intro r hr <;> simp [PV.ids, opvs] at hr <;> subst hr
 ·exact ⟨⟨_, List.mem_cons_self, rfl⟩, fun d _ => by simp⟩
 ·exact ⟨⟨_, List.mem_cons_of_mem _ List.mem_cons_self, rfl⟩, fun d _ => by simp⟩
 ·exact ⟨h, fun d hd => by simp; omega⟩
 ·exact ⟨⟨_, List.mem_cons_of_mem _ (List.mem_cons_of_mem _ List.mem_cons_self), rfl⟩, fun d _ => by simp⟩
theorem vwH_ids {F : List Fd} {x : PV} (hx : x.ids = []) : ∀ y ∈ vwH F x, ∀ c ∈ y.2, c.ids = [] :=
 fcs (by simp [PV.ids]) (fcs (by simp [PV.ids]) (fcs (by simp [hx]) fnl))
theorem qV_59 (n : Nat) (pre : List Opn) (ks : List Sp) : qV n pre ks 59 ≠ none := by unfold qV; simp
theorem vsV_share (pre : List Opn) (ks : List Sp) : (vsV pre ks).map PV.share = ks.map fun s => opvs (thereM pre s) := by
 apply List.ext_getElem
 ·simp [vsV]
 ·intro i h1 h2
  have hi : i < ks.length := by simpa using h2
  simp only [vsV, List.getElem_map, List.getElem_range, PV.share, opvs]
  rw [getD_lt hi]
theorem vsV_clean (pre : List Opn) (ks : List Sp) : ∀ p ∈ vsV pre ks, p.clean = true := fun p hp => by
 obtain ⟨j, _, rfl⟩ := List.mem_map.1 hp
 rfl
def q59 (n : Nat) : PL.Rows := upd (fun _ => none) 59 (some (.live n 15 37))
set_option maxRecDepth 20000 in
set_option maxHeartbeats 32000000 in
theorem View_main (m : List Eg) (l : List Opn) (cart : Str) (b : Tg) (hm : OkM m) (hr : RightM m) (hl : l.length ≤ 400) (ho : ∀ o ∈ l, OkOp o) (hU : (l.map Opn.id).Nodup) (hn : nameB cart = true) (hc : (schM (treeOf m) b).2 = 0) :
  PL.Pure Tryz.prog 13 [tr (treeOf m), opvs l, .str cart, tg b] (docV (⟨fillM (schM (treeOf m) b).1 (seenL m (mineM (livM m l) cart) b) 0 [], (itemsM (mineM (livM m l) cart) cart).map fun i => ⟨i, fillM (schM (treeOf m) b).1 (seenL m (mineM (livM m l) cart) b) 1 i⟩⟩, 0)) := by
 have hcl : ∀ l : List Opn, ∀ p ∈ l.map opv, p.ids = [] := fun l => ids_mapV opv_ids l
 have hN := Name_pure cart
 rw [hn] at hN
 have hS := Schema_pure m b hm
 have hF := okSchO hm (a := b) hc
 have hL := living_eff m l hm (by omega) ho hU
 have hll := livM_len m l
 have hlo : ∀ o ∈ livM m l, OkOp o := fun o h => ho o (livM_mem h)
 generalize livM m l = A at *
 have hmo : ∀ o ∈ mineM A cart, OkOp o := fun o h => hlo o (List.mem_filter.1 h).1
 have hml0 : (mineM A cart).length ≤ A.length := List.length_filter_le _ _
 have hT := TrAll_pure m (mineM A cart) b hm hr (by omega) hmo
 have hI := items_pure (mineM A cart) cart (by omega)
 have hsl := seenL_len m (mineM A cart) b
 have hfill := fun sc it ks hks => fill_pure (schM (treeOf m) b).1 (seenL m (mineM A cart) b) ks sc it hF (by omega) hks
 have c1 : ¬ (400 : Int) < (l.length : Int) := by omega
 have c2 : ((schM (treeOf m) b).2 != 0) = false := by simp [hc]
 generalize schM (treeOf m) b = X at *
 obtain ⟨F, xc⟩ := X
 simp only at hc hF hfill c2 ⊢
 subst hc
 refine PL.Pure.of_v Tryz.func13 (by decide) rfl Tryz.ntmps13 Tryz.results13 (by simp) (docV_dids _) ?_
 simp only [go_sem, tr, opvs, tg, c1]
 refine vCall_of (hN) ?_ ?_ ?_; iterate 2 simp only [go_sem]
 simp only [go_sem]
 refine vCall_of (hS) ?_ ?_ ?_; iterate 2 simp only [go_sem, tr, tg]
 simp only [go_sem, fldsc, flds, c2]
 refine vCall_vn 46 hL (hcl _) (by simp [PV.ids, tr, opvs]) rfl rfl ?_
 simp only [go_sem, PV.ren, id]
 refine awp_nilRow 12 59 15 37 rfl rfl ?_
 refine vLoopX (ι := { k : Nat // k ≤ A.length }) 109 (fun x => [(0, tr (treeOf m)), (2, .str cart), (7, .ptr 7 0), (8, .ptr 8 0), (10, .ptr 10 0), (12, .sl (.row 59) ((mineM (A.take x.1) cart).map opv)), (46, .vsl 46 A.length 15), (47, .int .i64 (A.length : Int)), (48, .int .i64 (x.1 : Int))]) (fun _ => [(7, [.int .i64 b.r, .int .i64 b.n], false), (8, [.sl .nil [], .sl .nil []], false), (10, [.sl .no (F.map fld)], false)]) (fun x => [(46, .vec A.length 15 37), (59, .live (mineM (A.take x.1) cart).length 15 37)]) (fun _ => []) (fun _ => []) (fun _ => [(46, A.map opv)]) (fun _ => []) [] [] [] (fun x => A.length - x.1) ⟨0, Nat.zero_le _⟩
  ⟨⟨rfl, (fcs rfl (fcs rfl (fcs rfl (fcs rfl (fcs rfl (fcs rfl (fcs rfl (fcs rfl (fcs rfl fnl))))))))), (fcs ⟨rfl, rfl⟩ (fcs ⟨rfl, rfl⟩ (fcs ⟨rfl, rfl⟩ fnl))), (fcs rfl (fcs rfl fnl))⟩, fnl, fnl, (fcs rfl fnl), fnl, fnl, fnl⟩ (fun x => ⟨⟨(fcs rfl (fcs rfl (fcs rfl (fcs rfl (fcs rfl (fcs rfl (fcs rfl (fcs rfl (fcs rfl fnl))))))))), (fcs rfl (fcs rfl (fcs rfl fnl)))⟩, by simp [idsL_mapV opv_ids], fnl, by simp, fnl, fnl⟩) (fun x => ?_)
 obtain ⟨k, hk⟩ := x
 simp only
 by_cases h : (k : Int) < (A.length : Int)
 ·have hka : k < A.length := by omega
  have i0 : (0 : Int) ≤ (k : Int) := by omega
  have w1 : IntKind.i64.wrap ((k : Int) + 1) = ((k + 1 : Nat) : Int) := by rw [w64 (by omega)]; rfl
  have hsn := mineM_snoc cart hka
  have hml1 : (mineM (A.take k) cart).length ≤ k := Nat.le_trans (List.length_filter_le _ _) (List.length_take_le _ _)
  have hrm := room1 (show (mineM (A.take k) cart).length + 1 ≤ 1000000 by omega) (show 176 ≤ 1000 by omega)
  have hml : ((mineM (A.take k) cart).map opv).length = (mineM (A.take k) cart).length := List.length_map _
  have hsz := sized_op (mineM (A.take k) cart)
  generalize hx : A.getD k default = x at *
  have hsx : Sized 15 [opv x] := sized_op [x]
  have hax : Atoms [opv x] := atoms_op [x]
  simp only [opv] at hsx hax
  cases k1 : (x.cart == cart)
  ·rw [k1, if_neg (by simp), List.append_nil] at hsn
   simp only [go_sem, h, i0, List.length_map, getD_op hka, hx, opv, k1, w1]
   exact ⟨⟨k + 1, by omega⟩, by show A.length - (k + 1) < A.length - k; omega, ⟨⟨rfl, by simp only; rw [hsn]; exact (fcs rfl (fcs rfl (fcs rfl (fcs rfl (fcs rfl (fcs rfl (fcs rfl (fcs rfl (fcs rfl fnl))))))))), (fcs ⟨rfl, rfl⟩ (fcs ⟨rfl, rfl⟩ (fcs ⟨rfl, rfl⟩ fnl))), by simp only; rw [hsn]; exact (fcs rfl (fcs rfl fnl))⟩, fnl, fnl, (fcs rfl fnl), fnl, fnl, fnl⟩⟩
  ·rw [k1, if_pos rfl] at hsn
   simp only [go_sem, h, i0, List.length_map, getD_op hka, hx, opv, k1, w1, hml, hsz, hrm, hsx, hax]
   exact ⟨⟨k + 1, by omega⟩, by show A.length - (k + 1) < A.length - k; omega, ⟨⟨rfl, by simp only; rw [hsn, List.map_append]; exact (fcs rfl (fcs rfl (fcs rfl (fcs rfl (fcs rfl (fcs rfl (fcs rfl (fcs rfl (fcs rfl fnl))))))))), (fcs ⟨rfl, rfl⟩ (fcs ⟨rfl, rfl⟩ (fcs ⟨rfl, rfl⟩ fnl))), by simp only; rw [hsn, List.length_append]; exact (fcs rfl (fcs rfl fnl))⟩, fnl, fnl, (fcs rfl fnl), fnl, fnl, fnl⟩⟩
 ·have htk : A.take k = A := List.take_of_length_le (by omega)
  simp only [go_sem, h, htk]
  intro mb
  refine vCall_of (hT) ?_ ?_ ?_; iterate 2 simp only [go_sem, tr, opvs, tg]
  simp only [go_sem, opvs, List.length_map]
  generalize hse : seenL m (mineM A cart) b = seen at *
  generalize hmi : mineM A cart = mine at *
  refine vLoopG2 (ι := { x : Nat × List Sp // x.1 ≤ seen.length ∧ (∀ s, s ∈ x.2 ↔ ∃ o ∈ seen.take x.1, spO o = s) ∧ x.2.Nodup })
   (fun x => vst 109 (vwL cart mine seen x.1.1) (vwH F (.mref mb)) (qV mine.length (seen.take x.1.1) x.1.2) (omOne mb ⟨x.1.2.map spv, vsV (seen.take x.1.1) x.1.2⟩))
   (fun x => seen.length - x.1.1) ⟨(0, []), Nat.zero_le _, fun s => by simp, List.nodup_nil⟩ ?_ (fun x => ?_)
  ·refine (Gh.oToOm (b := mb) (c := ⟨[], []⟩) (by simp [upd, St.with, Hp.new])).trans (gh_vst rfl (fcs rfl (fcs rfl (fcs rfl (fcs rfl (fcs rfl (fcs rfl (fcs rfl (fcs rfl fnl)))))))) (fcs ⟨rfl, rfl⟩ (fcs ⟨rfl, rfl⟩ (fcs ⟨rfl, rfl⟩ fnl))) (fun i => ?_) (fun i => ?_) (fun y hy r hr => (vwL_ids (qV_59 _ _ _) y hy r hr).1) (fun y hy c hc r hr => by rw [vwH_ids (x := .mref mb) rfl y hy c hc] at hr; cases hr) (fun b' c' hbc p hp r hr => ?_))
   ·by_cases e : i = 59
    ·right; subst e; rfl
    ·left; show qV mine.length [] [] i = none
     unfold qV; rw [if_neg e, if_neg (by rintro ⟨h1, h2⟩; rw [List.length_nil] at h2; omega)]
   ·by_cases e : mb = i
    ·right; subst e; show omOne mb _ mb = upd _ mb _ mb; rw [omOne_same, upd_same]; rfl
    ·left; unfold omOne; exact upd_ne _ _ e
   ·obtain ⟨rfl, rfl⟩ := omOne_of hbc
    simp [vsV] at hp
  obtain ⟨⟨k, ks⟩, hk, hks, hnd⟩ := x
  simp only at hk hks hnd ⊢
  by_cases h : (k : Int) < (seen.length : Int)
  ·refine ⟨_, Gh.refl _, ?_⟩
   have hka : k < seen.length := by omega
   have i0 : (0 : Int) ≤ (k : Int) := by omega
   have w1 : IntKind.i64.wrap ((k : Int) + 1) = ((k + 1 : Nat) : Int) := by rw [w64 (by omega)]; rfl
   have htk1 : seen.take (k + 1) = seen.take k ++ [seen.getD k default] := take_snoc (d := default) hka
   generalize hx : seen.getD k default = x at *
   have hfp := findP_sps0 (spO x) ks
   simp only [spO] at hfp
   have hsx : Sized 15 [opv x] := sized_op [x]
   have hax : Atoms [opv x] := atoms_op [x]
   simp only [opv] at hsx hax
   have q80 : qV mine.length (seen.take k) ks 80 = none := by unfold qV; rw [if_neg (by omega), if_neg (by omega)]
   have q82 : qV mine.length (seen.take k) ks 82 = none := by unfold qV; rw [if_neg (by omega), if_neg (by omega)]
   have hr1 := room1 (show 1 ≤ 1000000 by omega) (show 176 ≤ 1000 by omega)
   cases hf : ks.findIdx? (fun y => decide (spO x = y)) with
   | none =>
    have hnk : spO x ∉ ks := idxS_mem.1 hf
    have h00 : thereM (seen.take k) (spO x) = [] := there_none fun hh => hnk ((hks _).2 hh)
    have hnew := vsV_new hnk h00 (.sl .nil [])
    simp only [spO] at hf
    rw [hf] at hfp
    simp only [go_sem, vst, vwL, vwH, h, i0, List.length_map, opvs, getD_op hka, hx, opv, omOne_same, hfp, q80, q82, hr1, w1]
    refine ⟨by omega, by simp, ⟨(k + 1, ks ++ [spO x]), hka, fun s => ?_, ?_⟩, by show seen.length - (k + 1) < seen.length - k; omega, ?_⟩
    ·rw [htk1, List.mem_append, hks s, List.mem_singleton]
     constructor
     ·rintro (⟨o, h1, h2⟩ | rfl)
      ·exact ⟨o, List.mem_append.2 (.inl h1), h2⟩
      ·exact ⟨x, by simp, rfl⟩
     ·rintro ⟨o, h1, h2⟩
      rcases List.mem_append.1 h1 with h1 | h1
      ·exact .inl ⟨o, h1, h2⟩
      ·rw [List.mem_singleton.1 h1] at h2; exact .inr h2.symm
    ·refine List.nodup_append.2 ⟨hnd, by simp, fun a ha c hc e => ?_⟩
     rw [List.mem_singleton.1 hc] at e
     exact hnk (e ▸ ha)
    ·show Gh _ (vst 109 (vwL cart mine seen (k + 1)) (vwH F (.mref mb)) (qV mine.length (seen.take (k + 1)) (ks ++ [spO x])) (omOne mb ⟨(ks ++ [spO x]).map spv, vsV (seen.take (k + 1)) (ks ++ [spO x])⟩))
     have e : ((vsV (seen.take k) ks ++ [PV.sl .nil []]).set ks.length (.sl (.row 82) [opv x])).set ks.length (.sl (.row (1000 + ks.length)) [opv x]) = vsV (seen.take k ++ [x]) (ks ++ [spO x]) := by rw [List.set_set]; exact hnew
     rw [htk1, ← e, List.map_append]
     refine gh_rename (kk := 82) (d := 1000 + ks.length) (sz := 15) (k := 1) (e := 37) (c := ⟨ks.map spv ++ [spv (spO x)], (vsV (seen.take k) ks ++ [PV.sl .nil []]).set ks.length (.sl (.row 82) [opv x])⟩) (es := [opv x]) rfl (fcs rfl (fcs rfl (fcs rfl (fcs rfl (fcs rfl (fcs rfl (fcs rfl (fcs rfl fnl)))))))) (fcs ⟨rfl, rfl⟩ (fcs ⟨rfl, rfl⟩ (fcs ⟨rfl, rfl⟩ fnl))) ?_ ?_ ?_ rfl (by omega) ?_ ?_ (fun i h1 h2 => ?_) (fun y hy r hr => ?_) (fun y hy c hc r hr => by rw [vwH_ids (x := .mref mb) rfl y hy c hc] at hr; cases hr) (fun i h1 h2 r hr => ?_)
     ·show upd _ mb _ mb = _
      rw [upd_same]
      rfl
     ·simp [vsV_len]
     ·rw [getD_lt (by simp [vsV_len])]; simp
     ·have hl0 : ks.length < (ks ++ [spO x]).length := by simp
      rw [qV_row _ _ hl0, getD_lt hl0, List.getElem_append_right (Nat.le_refl _)]
      simp only [Nat.sub_self, List.getElem_cons_zero]
      rw [there_snoc, h00, if_pos rfl]
      rfl
     ·rw [qV_add hnk (by omega)]; exact q82
     ·rw [qV_add hnk h1]
      by_cases e80 : i = 80
      ·left; rw [e80]; exact q80
      ·right
       show _ = upd (upd (qV mine.length (seen.take k) ks) 80 _) 82 _ i
       rw [upd_ne _ _ (fun e => h2 e.symm), upd_ne _ _ (fun e => e80 e.symm)]
     ·have := vwL_ids (F := F) (x := .mref mb) (qV_59 mine.length (seen.take k ++ [x]) (ks ++ [spO x])) y hy r hr
      exact ⟨this.1, this.2 _ (by omega)⟩
     ·have hi : i < ks.length := by simp [vsV_len] at h1; omega
      have hg : ((vsV (seen.take k) ks ++ [PV.sl .nil []]).set ks.length (.sl (.row 82) [opv x])).getD i .any = (vsV (seen.take k) ks).getD i .any := by
       rw [getD_lt (by simp [vsV_len]; omega), getD_lt (by rw [vsV_len]; exact hi), List.getElem_set_ne (by omega), List.getElem_append_left (by rw [vsV_len]; exact hi)]
      rw [show (({ ks := ks.map spv ++ [spv (spO x)], vs := (vsV (seen.take k) ks ++ [PV.sl .nil []]).set ks.length (.sl (.row 82) [opv x]) } : MapC).vs.getD i .any) = (vsV (seen.take k) ks).getD i .any from hg] at hr
      rw [vsV_ids hi r hr]
      refine ⟨?_, by simp; omega⟩
      show qV _ _ _ (1000 + i) ≠ none
      rw [qV_row _ _ (by simp; omega)]
      simp
   | some j =>
    obtain ⟨hj, hje⟩ := idxS_at hf
    have hvs := vsV_at (seen.take k) hj
    have hqj := qV_row mine.length (seen.take k) hj
    rw [hje] at hvs hqj
    have hset := vsV_set hnd hj hje (pre := seen.take k)
    have htl := there_len (seen.take k) (spO x)
    have htk2 : (seen.take k).length ≤ k := List.length_take_le _ _
    generalize hth : thereM (seen.take k) (spO x) = th at *
    have hml2 : (th.map opv).length = th.length := List.length_map _
    have hszt := sized_op th
    have hrm := room1 (show th.length + 1 ≤ 1000000 by omega) (show 176 ≤ 1000 by omega)
    simp only [spO] at hf
    rw [hf] at hfp
    have n80 : ¬ (80 = 1000 + j) := by omega
    have n82 : ¬ (82 = 1000 + j) := by omega
    simp only [go_sem, vst, vwL, vwH, h, i0, List.length_map, opvs, getD_op hka, hx, opv, omOne_same, hfp, q80, q82, hr1, w1, n80, n82, hvs, hqj, hml2, hszt, hrm, hsx, hax]
    refine ⟨by omega, hj, ⟨(k + 1, ks), hka, fun s => ?_, hnd⟩, by show seen.length - (k + 1) < seen.length - k; omega, ?_⟩
    ·rw [htk1, hks s]
     constructor
     ·rintro ⟨o, h1, h2⟩; exact ⟨o, List.mem_append.2 (.inl h1), h2⟩
     ·rintro ⟨o, h1, h2⟩
      rcases List.mem_append.1 h1 with h1 | h1
      ·exact ⟨o, h1, h2⟩
      ·rw [List.mem_singleton.1 h1] at h2
       have : spO x ∈ ks := by rw [← hje, getD_lt hj]; exact List.getElem_mem hj
       obtain ⟨o', h3, h4⟩ := (hks _).1 this
       exact ⟨o', h3, h4.trans h2⟩
    ·show Gh _ (vst 109 (vwL cart mine seen (k + 1)) (vwH F (.mref mb)) (qV mine.length (seen.take (k + 1)) ks) (omOne mb ⟨ks.map spv, vsV (seen.take (k + 1)) ks⟩))
     rw [List.map_append] at hset
     have e : ((vsV (seen.take k) ks).set j (.sl (.row 82) (th.map opv ++ [opv x]))).set j (.sl (.row (1000 + j)) (th.map opv ++ [opv x])) = vsV (seen.take k ++ [x]) ks := by rw [List.set_set]; exact hset
     rw [htk1, ← e]
     refine gh_rename (kk := 82) (d := 1000 + j) (sz := 15) (k := th.length + 1) (e := 37) (c := ⟨ks.map spv, (vsV (seen.take k) ks).set j (.sl (.row 82) (th.map opv ++ [opv x]))⟩) (es := th.map opv ++ [opv x]) rfl (fcs rfl (fcs rfl (fcs rfl (fcs rfl (fcs rfl (fcs rfl (fcs rfl (fcs rfl fnl)))))))) (fcs ⟨rfl, rfl⟩ (fcs ⟨rfl, rfl⟩ (fcs ⟨rfl, rfl⟩ fnl))) ?_ ?_ ?_ rfl (by omega) ?_ ?_ (fun i h1 h2 => ?_) (fun y hy r hr => ?_) (fun y hy c hc r hr => by rw [vwH_ids (x := .mref mb) rfl y hy c hc] at hr; cases hr) (fun i h1 h2 r hr => ?_)
     ·show upd _ mb _ mb = _
      rw [upd_same]
      rfl
     ·show j < (List.set _ _ _).length
      rw [List.length_set, vsV_len]; exact hj
     ·show (List.set _ _ _).getD j PV.any = _
      rw [getD_lt (by rw [List.length_set, vsV_len]; exact hj)]; simp
     ·rw [qV_row _ _ hj, hje, there_snoc, hth, if_pos rfl, List.length_append]
      rfl
     ·rw [qV_keep hnd hj hje (by omega)]; exact q82
     ·rw [qV_keep hnd hj hje h1]
      by_cases e80 : i = 80
      ·left; rw [e80]; exact q80
      ·right
       show _ = upd (upd (upd (qV mine.length (seen.take k) ks) 80 _) (1000 + j) _) 82 _ i
       rw [upd_ne _ _ (fun e => h2 e.symm), upd_ne _ _ (fun e => h1 e.symm), upd_ne _ _ (fun e => e80 e.symm)]
     ·have := vwL_ids (F := F) (x := .mref mb) (qV_59 mine.length (seen.take k ++ [x]) ks) y hy r hr
      exact ⟨this.1, this.2 _ (by omega)⟩
     ·have hi : i < ks.length := by simpa [vsV_len] using h1
      have hr : r ∈ ((List.set (vsV (seen.take k) ks) j (.sl (.row 82) (th.map opv ++ [opv x]))).getD i .any).ids := hr
      rw [getD_lt (d := PV.any) (by rw [List.length_set, vsV_len]; exact hi), List.getElem_set_ne (Ne.symm h2), ← getD_lt (d := PV.any) (by rw [vsV_len]; exact hi)] at hr
      rw [vsV_ids hi r hr]
      refine ⟨?_, by simp; omega⟩
      show qV _ _ _ (1000 + i) ≠ none
      rw [qV_row _ _ hi]
      simp
  ·have htk2 : seen.take k = seen := List.take_of_length_le (by omega)
   have hks2 := hks
   rw [htk2] at hks2
   have g : Gh (vst 109 (vwL cart mine seen k) (vwH F (.mref mb)) (qV mine.length seen ks) (omOne mb ⟨ks.map spv, vsV seen ks⟩)) (vst 109 (vwL cart mine seen k) (vwH F (.rmap (ks.map spv) (ks.map fun s => opvs (thereM seen s)))) (q59 mine.length) (fun _ => none)) := by
    refine (Gh.omToO (b := mb) (c := ⟨ks.map spv, vsV seen ks⟩) (omOne_same _ _) (vsV_clean _ _)).trans ?_
    rw [vsV_share]
    refine (Gh.pubMap (b := mb) (i := 15) (c := ⟨ks.map spv, ks.map fun s => opvs (thereM seen s)⟩) (upd_same _ _ _) rfl rfl).trans ?_
    refine gh_vst rfl (fcs rfl (fcs rfl (fcs rfl (fcs rfl (fcs rfl (fcs rfl (fcs rfl (fcs rfl fnl)))))))) (fcs ⟨rfl, rfl⟩ (fcs ⟨rfl, rfl⟩ (fcs ⟨rfl, rfl⟩ fnl))) (fun i => ?_) (fun i => .inl rfl) (fun y hy r hr => (vwL_ids (q := q59 mine.length) (by simp [q59, upd]) y hy r hr).1) (fun y hy c hc r hr => by rw [vwH_ids (x := .rmap (ks.map spv) (ks.map fun s => opvs (thereM seen s))) rfl y hy c hc] at hr; cases hr) (fun b' c' hbc => by cases hbc)
    by_cases e : 59 = i
    ·right; subst e; rfl
    ·left; exact upd_ne _ _ e
   refine ⟨_, by rw [htk2]; exact g, ?_⟩
   have hf0 := hfill 0 [] ks hks2
   have hf1 := fun it => hfill 1 it ks hks2
   generalize fillM F seen 0 [] = E0 at *
   have hrl : (itemsM mine cart).length ≤ 1000 := by
    unfold itemsM
    have h1 := compact_len (sortS (namesM mine cart))
    have h2 := namesM_len mine cart
    have h3 : (sortS (namesM mine cart)).length = (namesM mine cart).length := by simp [sortS]
    omega
   generalize itemsM mine cart = its at *
   generalize hfm : (fun i => fillM F seen 1 i) = fm at *
   have hf1 : ∀ it, PL.Pure Tryz.prog 35 [.int .i64 1, .str it, .rptr [flds F], .rptr [.rmap (ks.map spv) (ks.map fun s => opvs (thereM seen s))]] (ents (fm it)) := fun it => by rw [← hfm]; exact hf1 it
   have hrw : (its.map fun i => (⟨i, fillM F seen 1 i⟩ : Rw)) = its.map fun i => ⟨i, fm i⟩ := by rw [← hfm]
   rw [hrw]
   obtain ⟨rws, hrws⟩ : ∃ rws : List Rw, rws = its.map fun i => ⟨i, fm i⟩ := ⟨_, rfl⟩
   rw [← hrws]
   have hlr : its.length = rws.length := by rw [hrws]; simp
   have hgr : ∀ k, k < rws.length → rws.getD k default = ⟨its.getD k [], fm (its.getD k [])⟩ := fun k hk => by
    have hki : k < its.length := by omega
    subst hrws
    rw [getD_lt hk, getD_lt hki]; simp
   clear hrw hfill hrws
   have him : its.length ≤ maxLen := by rw [maxLen_eq]; omega
   simp only [go_sem, vst, vwL, vwH, h, q59]
   refine vCall_of (hf0) ?_ ?_ ?_; iterate 2 simp only [go_sem, flds]
   simp only [go_sem, ents]
   refine vCall_of (hI) ?_ ?_ ?_; iterate 2 simp only [go_sem, opvs]
   simp only [go_sem, List.length_map]
   rw [hlr]
   refine vLoopM (ι := { k : Nat // k ≤ rws.length }) 109 (fun x => [(8, .ptr 8 0), (19, .fn 35 [.ptr 10 0, .ptr 15 0]), (20, .ptr 20 0), (91, .sl .no (its.map .str)), (92, .int .i64 (rws.length : Int)), (93, .int .i64 (x.1 : Int))]) (fun x => [(8, [.sl .nil [], .sl .nil []], false), (10, [.sl .no (F.map fld)], true), (15, [.rmap (ks.map spv) (ks.map fun s => opvs (thereM seen s))], true), (20, [.sl .no (E0.map ent), gatC 105 rws x.1], false)]) (fun x => gatR 105 x.1) (fun x => rws.length - x.1) ⟨0, Nat.zero_le _⟩
    ⟨rfl, (fcs rfl (fcs rfl (fcs rfl (fcs rfl (fcs rfl (fcs rfl fnl)))))), fcs ⟨rfl, rfl⟩ (fcs ⟨rfl, rfl⟩ (fcs ⟨rfl, rfl⟩ (fcs ⟨rfl, rfl⟩ fnl))), fnl⟩ (fun x => ?_) (fun x => ?_)
   ·obtain ⟨k, hk⟩ := x
    cases k with
    | zero => exact ⟨(fcs rfl (fcs rfl (fcs rfl (fcs rfl (fcs rfl (fcs rfl fnl)))))), (fcs rfl (fcs rfl (fcs rfl (fcs rfl fnl))))⟩
    | succ k => exact ⟨(fcs rfl (fcs rfl (fcs rfl (fcs rfl (fcs rfl (fcs rfl fnl)))))), fcs rfl (fcs rfl (fcs rfl (fcs (by simp [gatC, gatR, PV.ids, PV.idsL, refInM]) fnl)))⟩
   clear hk hks hks2 hnd g h htk2
   obtain ⟨k, hk⟩ := x
   simp only
   by_cases h : (k : Int) < (rws.length : Int)
   ·have hka : k < rws.length := by omega
    have hki : k < its.length := by omega
    have w1 : IntKind.i64.wrap ((k : Int) + 1) = ((k + 1 : Nat) : Int) := by rw [w64 (by omega)]; rfl
    have i1 : (0 : Int) ≤ (k : Int) := by omega
    have hli : (its.map PV.str).length = rws.length := by rw [List.length_map, hlr]
    have hO := hf1 (its.getD k [])
    have hsn : (rws.take (k + 1)).map row = (rws.take k).map row ++ [row (rws.getD k default)] := by rw [take_snoc (d := default) hka, List.map_append]; rfl
    rw [hgr k hka] at hsn
    have hsz := sized_row (rws.take k)
    have hr0 := room1 (show 1 ≤ 1000000 by omega) (show 40 ≤ 1000 by omega)
    have hln : ((rws.take k).map row).length = k := by simp; omega
    have g0 := getD_str hki
    generalize its.getD k [] = it at *
    have hat := atoms_row [⟨it, fm it⟩]
    have hst := sized_row [⟨it, fm it⟩]
    cases k with
    | zero =>
     have h' : (0 : Int) < (rws.length : Int) := by simpa using h
     simp only [go_sem, gatC, gatR, h', g0, i1, hli]
     refine vDrawQ (by kernel_rfl) (by kernel_rfl) ?_
     simp only [go_sem]
     refine vCall_of (hO) ?_ ?_ ?_; iterate 2 simp only [go_sem, flds]
     have w0 : IntKind.i64.wrap 1 = 1 := w64 (by omega)
     simp only [go_sem, ents, w1, w0]
     refine ⟨hr0, ⟨⟨0 + 1, by omega⟩, by show rws.length - (0 + 1) < rws.length - 0; omega, ⟨rfl, (fcs rfl (fcs rfl (fcs rfl (fcs rfl (fcs rfl (fcs rfl fnl)))))), fcs ⟨rfl, rfl⟩ (fcs ⟨rfl, rfl⟩ (fcs ⟨rfl, rfl⟩ (fcs ⟨?_, rfl⟩ fnl))), fcs rfl fnl⟩⟩⟩
     show some [PV.sl .no _, PV.sl (.row 105) _] = some [PV.sl .no _, PV.sl (.row 105) _]
     rw [hsn]
     rfl
    | succ k =>
     have hl3 : (rws.take (k + 1)).length = k + 1 := by rw [List.length_take]; omega
     have hr := room1 (show k + 1 + 1 ≤ 1000000 by omega) (show 40 ≤ 1000 by omega)
     simp only [go_sem, gatC, gatR, h, g0, i1, hli]
     refine vDrawQ (by kernel_rfl) (by kernel_rfl) ?_
     simp only [go_sem]
     refine vCall_of (hO) ?_ ?_ ?_; iterate 2 simp only [go_sem, flds]
     simp only [go_sem, ents, w1]
     refine ⟨⟨hl3.symm, sized_row _, by rw [hl3]; exact hr⟩, ⟨⟨k + 1 + 1, by omega⟩, by show rws.length - (k + 1 + 1) < rws.length - (k + 1); omega, ⟨rfl, (fcs rfl (fcs rfl (fcs rfl (fcs rfl (fcs rfl (fcs rfl fnl)))))), fcs ⟨rfl, rfl⟩ (fcs ⟨rfl, rfl⟩ (fcs ⟨rfl, rfl⟩ (fcs ⟨?_, rfl⟩ fnl))), fcs ?_ fnl⟩⟩⟩
     ·show some [PV.sl .no _, PV.sl (.row 105) _] = some [PV.sl .no _, PV.sl (.row 105) _]
      rw [hsn]
      rfl
     ·show some _ = some _
      rw [hl3]
   ·obtain rfl : k = rws.length := by omega
    cases rws with
    | nil =>
     have h' : ¬ (0 : Int) < 0 := by omega
     simp only [go_sem, gatC, gatR, h', List.length_nil]
     rfl
    | cons r rs =>
     have ht : (r :: rs).take (rs.length + 1) = r :: rs := List.take_length (l := r :: rs)
     have h' : ¬ ((rs.length + 1 : Nat) : Int) < ((rs.length + 1 : Nat) : Int) := by omega
     simp only [go_sem, gatC, gatR, h', List.length_cons, ht]
     rw [List.take_length]
     rfl
theorem doc_default : doc default = .agg [.sl .no [], .sl .no []] := rfl
set_option maxRecDepth 20000 in
set_option maxHeartbeats 8000000 in
theorem View_pure (m : List Eg) (l : List Opn) (cart : Str) (b : Tg) (hm : OkM m) (hr : RightM m) (ho : ∀ o ∈ l, OkOp o) (hU : (l.map Opn.id).Nodup) :
  PL.Pure Tryz.prog 13 [tr (treeOf m), opvs l, .str cart, tg b] (docV (viewM m l cart b)) := by
 unfold viewM
 by_cases h1 : 400 < (l.length : Int)
 ·rw [if_pos h1]
  refine PL.Pure.of_v Tryz.func13 (by decide) rfl Tryz.ntmps13 Tryz.results13 (by simp) (docV_dids _) ?_
  simp only [go_sem, tr, opvs, tg, h1, List.length_map]
  simp only [docV, doc_default]
 ·rw [if_neg h1]
  have hN := Name_pure cart
  cases h2 : nameB cart
  ·rw [h2] at hN
   rw [if_pos rfl]
   refine PL.Pure.of_v Tryz.func13 (by decide) rfl Tryz.ntmps13 Tryz.results13 (by simp) (docV_dids _) ?_
   simp only [go_sem, tr, opvs, tg, h1, List.length_map]
   refine vCall_of (hN) ?_ ?_ ?_; iterate 2 simp only [go_sem]
   simp only [go_sem]
   simp only [docV, doc_default]
  ·rw [if_neg (by simp)]
   by_cases h3 : (schM (treeOf m) b).2 = 0
   ·rw [if_neg (by simpa using h3)]
    exact View_main m l cart b hm hr (by omega) ho hU h2 h3
   ·rw [if_pos h3]
    rw [h2] at hN
    have hS := Schema_pure m b hm
    have e3 : ((schM (treeOf m) b).2 != 0) = true := by simpa using h3
    generalize schM (treeOf m) b = X at *
    obtain ⟨F, xc⟩ := X
    simp only at h3 e3 ⊢
    refine PL.Pure.of_v Tryz.func13 (by decide) rfl Tryz.ntmps13 Tryz.results13 (by simp) (docV_dids _) ?_
    simp only [go_sem, tr, opvs, tg, h1, List.length_map]
    refine vCall_of (hN) ?_ ?_ ?_; iterate 2 simp only [go_sem]
    simp only [go_sem]
    refine vCall_of (hS) ?_ ?_ ?_; iterate 2 simp only [go_sem, tr, tg]
    simp only [go_sem, fldsc, flds, e3]
    simp only [docV, doc_default]
end Go.Proofs.YthingdchjkhfbaaGreat
set_option linter.unusedSimpArgs false
set_option linter.unusedVariables false
set_option linter.unusedSimpArgs false
set_option linter.unusedVariables false
namespace Go.Proofs.YthingdchjkhfbaaGreat
open Go.PL Go.PL.Srt
def svA : Opn := ⟨⟨1, 1⟩, default, 1, [97], 1, [112, 101, 97, 114], default, 0, false, [], []⟩
def svB : Opn := ⟨⟨1, 2⟩, default, 1, [97], 3, [112, 101, 97, 114], ⟨1, [], [113, 116, 121]⟩, 3, false, [], []⟩
def svC : Opn := ⟨⟨2, 1⟩, default, 1, [97], 3, [112, 101, 97, 114], ⟨1, [], [113, 116, 121]⟩, 2, false, [], []⟩
def svD : Dc := ⟨[⟨⟨0, [], [99, 111, 117, 112, 111, 110]⟩, 0, [[]]⟩], [⟨[112, 101, 97, 114], [⟨⟨1, [], [110, 111, 116, 101]⟩, 0, [[]]⟩, ⟨⟨1, [], [113, 116, 121]⟩, 5, []⟩, ⟨⟨1, [], [115, 105, 122, 101]⟩, 0, [[109, 101, 100, 105, 117, 109]]⟩, ⟨⟨1, [], [116, 97, 103, 115]⟩, 0, []⟩]⟩]⟩
theorem svV : viewM [] [svA, svB, svC] [97] default = (svD, 0) := by decide +kernel
theorem svF : findM svD [112, 101, 97, 114] ⟨1, [], [113, 116, 121]⟩ = (⟨⟨1, [], [113, 116, 121]⟩, 5, []⟩, 0) := by decide +kernel
theorem nomap_ent (e : En) : (ent e).nomap = true := by simp only [ent, PV.nomap, PV.nomapL, nomapL_str, Bool.and_self]
theorem nomap_row (r : Rw) : (row r).nomap = true := by simp only [row, PV.nomap, PV.nomapL, nomapL_map _ nomap_ent, Bool.and_self]
theorem nomap_docV (x : Dc × Int) : (docV x).nomap = true := by simp only [docV, doc, PV.nomap, PV.nomapL, nomapL_map _ nomap_ent, nomapL_map _ nomap_row, Bool.and_self]
theorem svOk : ∀ o ∈ [svA, svB, svC], OkOp o := by
 intro o ho
 simp only [List.mem_cons, List.not_mem_nil, or_false] at ho
 rcases ho with rfl | rfl | rfl <;> exact ⟨by decide⟩
theorem svFine : Fine svD ∧ Small svD := by
 refine ⟨⟨by rw [maxLen_eq]; decide, by rw [maxLen_eq]; decide, ?_, ?_⟩, ?_, ?_⟩ <;> simp [svD, maxLen_eq]
set_option maxRecDepth 20000 in
set_option maxHeartbeats 16000000 in
theorem awake27_pure : PL.Pure Tryz.prog 8 [] (.bool true) := by
 have hV := View_pure [] [svA, svB, svC] [97] default okM_nil right_nil svOk (by decide)
 have hF := Find_pure svD [112, 101, 97, 114] ⟨1, [], [113, 116, 121]⟩ svFine.1 svFine.2
 rw [svV] at hV
 rw [svF] at hF
 have hne := nomap_docV (svD, 0)
 generalize svD = d at *
 obtain ⟨hd, rws⟩ := d
 refine PL.Pure.of_vs Tryz.func8 (by decide) rfl Tryz.ntmps8 Tryz.results8 (by simp) rfl ?_
 simp only [go_sem]
 refine vCall_mk mk_new ?_ ?_ (fun b hb => ?_)
 ·simp only [go_sem]
 ·simp only [go_sem]
 simp only [go_sem]
 refine vDrawA [] [(2, 3), (2, 4)] (by kernel_rfl) (by kernel_rfl) (by exact rfl) (by exact rfl) ?_
 simp only [go_sem]
 refine vCall_sl hV hne ?_ ?_ ?_
 ·simp only [go_sem]
 ·simp only [go_sem, mc]
  rfl
 simp only [go_sem, docV, doc]
 refine vCall_of hF ?_ ?_ ?_
 ·simp only [go_sem]
 ·simp only [go_sem, doc, ref]
 simp only [go_sem, entc, ent]
 exact ⟨_, rfl, rfl⟩
end Go.Proofs.YthingdchjkhfbaaGreat
set_option linter.unusedSimpArgs false
set_option linter.unusedVariables false
set_option linter.unusedSimpArgs false
set_option linter.unusedVariables false
namespace Go.Proofs.YthingdchjkhfbaaGreat
open Go.PL Go.PL.Srt
theorem valE_len (f : Fd) (ops : List Opn) : (valE f ops).l.length ≤ ops.length + 1 := by
 have h1 : (valueM f).l.length ≤ 1 := by unfold valueM; simp only; split <;> simp
 have h2 := textsM_len ops
 unfold valE
 split
 ·simp only; omega
 ·simp only
  split
  ·omega
  ·split
   ·omega
   ·simp
theorem items_len (l : List Opn) (c : Str) : (itemsM l c).length ≤ l.length := by
 unfold itemsM
 have h1 := compact_len (sortS (namesM l c))
 have h2 := namesM_len l c
 have h3 : (sortS (namesM l c)).length = (namesM l c).length := by simp [sortS]
 omega
theorem fill_fine {F : List Fd} {seen : List Opn} {sc : Int} {it : Str} : (fillM F seen sc it).length ≤ F.length ∧ ∀ e ∈ fillM F seen sc it, e.l.length ≤ seen.length + 1 := by
 refine ⟨by unfold fillM; rw [List.length_map]; exact List.length_filter_le _ _, fun e he => ?_⟩
 obtain ⟨f, _, rfl⟩ := List.mem_map.1 he
 have := valE_len f (thereM seen ⟨it, f.at'⟩)
 have := there_len seen ⟨it, f.at'⟩
 omega
theorem view_fine {m : List Eg} {l : List Opn} {cart : Str} {b : Tg} (hm : OkM m) : Fine (viewM m l cart b).1 := by
 have hd : Fine (default : Dc) := ⟨Nat.zero_le _, Nat.zero_le _, (fun e h => by cases h), (fun e h => by cases h)⟩
 unfold viewM
 split
 ·exact hd
 ·split
  ·exact hd
  ·split
   ·exact hd
   ·rename_i h1 _ h3
    have hF := (okSchO hm (a := b) (show (schM (treeOf m) b).2 = 0 from Classical.not_not.1 h3)).n
    have hs := seenL_len m (mineM (livM m l) cart) b
    have hmi : (mineM (livM m l) cart).length ≤ (livM m l).length := List.length_filter_le _ _
    have hli := livM_len m l
    have hit := items_len (mineM (livM m l) cart) cart
    generalize (schM (treeOf m) b).1 = F at *
    generalize seenL m (mineM (livM m l) cart) b = seen at *
    have f := fun sc it => fill_fine (F := F) (seen := seen) (sc := sc) (it := it)
    refine ⟨by have := (f 0 []).1; rw [maxLen_eq]; simp only; omega, by rw [maxLen_eq]; simp only [List.length_map]; omega, fun e he => ?_, fun r hr => ?_⟩
    ·have := (f 0 []).2 e he
     rw [maxLen_eq]; omega
    ·simp only [List.mem_map] at hr
     obtain ⟨i, _, rfl⟩ := hr
     refine ⟨by have := (f 1 i).1; rw [maxLen_eq]; simp only; omega, fun e he => ?_⟩
     have := (f 1 i).2 e he
     rw [maxLen_eq]; omega
theorem alive_nodup {m : List Eg} {l : List Opn} (h : (l.map Opn.id).Nodup) : Unl olessB (aliveL m l) := unl_ids (List.Nodup.sublist ((aliveL_sub m l).map _) h)
theorem view_congr {m : List Eg} {l l' : List Opn} {cart : Str} {b : Tg} (h1 : l.length ≤ 400) (h2 : l'.length ≤ 400) (h : mineM (livM m l) cart = mineM (livM m l') cart) : viewM m l cart b = viewM m l' cart b := by
 unfold viewM
 rw [if_neg (show ¬ 400 < (l.length : Int) by omega), if_neg (show ¬ 400 < (l'.length : Int) by omega), h]
end Go.Proofs.YthingdchjkhfbaaGreat
