/- Contracts of functions and laws of this seat, each for every input that it names: lemmas of the proof. -/
import Derived.Test.YthingdchjkhfbaaGreatXDc
import Derived.Test.YthingdchjkhfbaaGreatXBb
import Derived.Test.YthingdchjkhfbaaGreatXBy
set_option linter.unusedSimpArgs false
set_option linter.unusedVariables false
set_option linter.unusedSimpArgs false
set_option linter.unusedVariables false
namespace Go.Proofs.YthingdchjkhfbaaGreat
open Go.PL Go.PL.Srt
set_option maxRecDepth 20000 in
set_option maxHeartbeats 8000000 in
theorem TStateO_pure (m : List Eg) (id : Tg) : PL.Pure Tryz.prog 40 [tr (treeOf m), tg id] (.int .i64 (atN (treeOf m) id).st) := by
 have hA := at_pure (treeOf m) id
 generalize atN (treeOf m) id = n at *
 refine PL.Pure.of_v Tryz.func40 (by decide) rfl Tryz.ntmps40 Tryz.results40 (by simp) rfl ?_
 simp only [go_sem, tr, tg]
 refine vCall_of (hA) ?_ ?_ ?_; iterate 2 simp only [go_sem, tr, tg]
 simp only [go_sem, nd]
def parkedO (m : List Eg) (o : Opn) : Bool := rightO o && !decide (upC m o.sch = 0)
theorem stO_up (m : List Eg) (id : Tg) : ((atN (treeOf m) id).st != 2) = !decide (upC m id = 0) := by
 have e : upC m id = (schM (treeOf m) id).2 := rfl
 rw [e]
 unfold schM
 by_cases h : (atN (treeOf m) id).st = 2
 ·rw [if_pos h]; simp [h]
 ·rw [if_neg h]
  have : ((atN (treeOf m) id).st != 2) = true := by simpa using h
  rw [this]
  split <;> simp
set_option maxRecDepth 20000 in
set_option maxHeartbeats 8000000 in
theorem ParkedO_pure (m : List Eg) (o : Opn) (ho : OkOp o) : PL.Pure Tryz.prog 15 [tr (treeOf m), opv o] (.bool (parkedO m o)) := by
 have hR := ORight_pure o ho.len
 have hS := TStateO_pure m o.sch
 have e := stO_up m o.sch
 unfold parkedO
 cases h1 : rightO o
 ·rw [h1] at hR
  refine PL.Pure.of_v Tryz.func15 (by decide) rfl Tryz.ntmps15 Tryz.results15 (by simp) rfl ?_
  simp only [go_sem, tr, opv]
  refine vCall_of (hR) ?_ ?_ ?_; iterate 2 simp only [go_sem, opv]
  simp only [go_sem, Bool.false_and]
 ·rw [h1] at hR
  rw [← e]
  refine PL.Pure.of_v Tryz.func15 (by decide) rfl Tryz.ntmps15 Tryz.results15 (by simp) rfl ?_
  simp only [go_sem, tr, opv]
  refine vCall_of (hR) ?_ ?_ ?_; iterate 2 simp only [go_sem, opv]
  simp only [go_sem]
  refine vCall_of (hS) ?_ ?_ ?_; iterate 2 simp only [go_sem, tr, tg]
  simp only [go_sem, Bool.true_and]
theorem parked_read {m : List Eg} {o : Opn} (h : parkedO m o = true) : readO m o = false := by
 unfold parkedO at h
 unfold readO
 simp only [Bool.and_eq_true, Bool.not_eq_true', decide_eq_false_iff_not] at h
 simp [h.2]
theorem readL_readL (m : List Eg) (l : List Opn) : readL m (readL m l) = readL m l := by
 unfold readL
 rw [List.filter_filter]
 exact List.filter_congr fun o _ => Bool.and_self _
theorem livM_read (m : List Eg) (l : List Opn) : livM m (readL m l) = livM m l := by
 unfold livM aliveL
 rw [readL_readL]
set_option maxRecDepth 20000 in
set_option maxHeartbeats 16000000 in
theorem StateParked_pure (l : List Eg) (ops : List Opn) (cart : Str) (b : Tg) (hl : l.length ≤ maxLen) (hx : ∀ e ∈ l, LenLn e.ln) (hol : ops.length ≤ maxLen) : PL.Pure Tryz.prog 4 [egs l, opvs ops, .str cart, tg b] (.bool true) := by
 have hH := RHeavyE_pure l 50 hl hx
 have hJ := RHeavyOps_pure ops 40 hol
 have hA := RApart_pure ops hol
 cases hh : heavyE l 50
 ·rw [hh] at hH
  cases hj : heavyOps ops 40
  ·rw [hj] at hJ
   cases ha : apartB ops
   ·rw [ha] at hA
    refine PL.Pure.of_v Tryz.func4 (by decide) rfl Tryz.ntmps4 Tryz.results4 (by simp) rfl ?_
    simp only [go_sem, egs, opvs, tg]
    refine vCall_of (awake27_pure) ?_ ?_ ?_; iterate 2 simp only [go_sem]
    simp only [go_sem]
    refine vCall_of (hH) ?_ ?_ ?_; iterate 2 simp only [go_sem, egs]
    simp only [go_sem]
    refine vCall_of (hJ) ?_ ?_ ?_; iterate 2 simp only [go_sem, opvs]
    simp only [go_sem]
    refine vCall_of (hA) ?_ ?_ ?_; iterate 2 simp only [go_sem, opvs]
    simp only [go_sem]
   ·rw [ha] at hA
    have hU : (ops.map Opn.id).Nodup := of_decide_eq_true ha
    obtain ⟨o1, o2⟩ := okL hh
    obtain ⟨p1, p2⟩ := okOps (most := 40) hj
    have hG := Grown_pure l (by omega) o2
    have hm : OkM (grownM l) := okGrown _ okM_nil o2
    have hr : RightM (grownM l) := rightGrown _ right_nil
    generalize grownM l = m at *
    have hown : (readL m ops).length ≤ ops.length := List.length_filter_le _ _
    have hV := View_pure m ops cart b hm hr p2 hU
    have hW := View_pure m (readL m ops) cart b hm hr (fun o ho => p2 o (List.mem_filter.1 ho).1) (nodup_sub hU List.filter_sublist)
    rw [view_congr (l' := ops) (by omega) (by omega) (by rw [livM_read])] at hW
    have hfi : Fine (viewM m ops cart b).1 := view_fine hm
    have hS := RSameD_pure _ _ hfi hfi
    rw [decide_eq_true rfl] at hS
    generalize viewM m ops cart b = y at *
    obtain ⟨⟨hd, rws⟩, c⟩ := y
    refine PL.Pure.of_v Tryz.func4 (by decide) rfl Tryz.ntmps4 Tryz.results4 (by simp) rfl ?_
    simp only [go_sem, egs, opvs, tg]
    refine vCall_of (awake27_pure) ?_ ?_ ?_; iterate 2 simp only [go_sem]
    simp only [go_sem]
    refine vCall_of (hH) ?_ ?_ ?_; iterate 2 simp only [go_sem, egs]
    simp only [go_sem]
    refine vCall_of (hJ) ?_ ?_ ?_; iterate 2 simp only [go_sem, opvs]
    simp only [go_sem]
    refine vCall_of (hA) ?_ ?_ ?_; iterate 2 simp only [go_sem, opvs]
    simp only [go_sem]
    refine vCall_of (hG) ?_ ?_ ?_; iterate 2 simp only [go_sem, egs]
    simp only [go_sem, grv]
    refine awp_moveRow 12 39 72 0 15 37 [] rfl rfl rfl ?_
    refine vLoopM (ι := { x : Nat // x ≤ (ops).length }) 97 (fun x => [(1, opvs ops), (2, .str cart), (7, .ptr 7 0), (9, tr (treeOf m)), (12, .sl (.row 72) ((readL m (ops.take x.1)).map opv)), (13, .int .i64 (x.1 : Int))]) (fun x => [(7, [.int .i64 b.r, .int .i64 b.n], false)]) (fun x => [(72, .live ((readL m (ops.take x.1)).length) (15) (37))]) (fun x => (ops).length - x.1) ⟨0, Nat.zero_le _⟩ ⟨rfl, (fcs rfl (fcs rfl (fcs rfl (fcs rfl (fcs rfl (fcs rfl fnl)))))), (fcs ⟨rfl, rfl⟩ fnl), (fcs rfl fnl)⟩ (fun x => ⟨(fcs rfl (fcs rfl (fcs rfl (fcs rfl (fcs (by simp [PV.ids, refInM]) (fcs rfl fnl)))))), (fcs rfl fnl)⟩) (fun x => ?_); obtain ⟨k, hk⟩ := x; simp only at hk ⊢
    by_cases h : (k : Int) < (ops.length : Int)
    ·(have hka : k < (ops).length := by omega); (have w1 := w64s hka (hol)); (have i1 : (0 : Int) ≤ (k : Int) := by omega)
     have hsn := readL_snoc m hka
     have hnl : (readL m (ops.take k)).length ≤ k := Nat.le_trans (List.length_filter_le _ _) (List.length_take_le _ _)
     have hrm := room1 (show (readL m (ops.take k)).length + 1 ≤ 1000000 by omega) (show 176 ≤ 1000 by omega)
     have hml : ((readL m (ops.take k)).map opv).length = (readL m (ops.take k)).length := List.length_map _
     have hsz := sized_op (readL m (ops.take k))
     have hpx := p2 _ (getD_mem' (d := default) hka)
     have hP := ParkedO_pure m (ops.getD k default) hpx
     have hR := TrRead_pure m (ops.getD k default) hm hpx
     generalize hxx : ops.getD k default = x at *
     have hsx : Sized 15 [opv x] := sized_op [x]
     have hax : Atoms [opv x] := atoms_op [x]
     simp only [opv] at hsx hax
     cases k1 : parkedO m x
     ·rw [k1] at hP
      cases k2 : readO m x
      ·rw [k2] at hR
       rw [k2, if_neg (by simp), List.append_nil] at hsn
       simp only [go_sem, opvs, h, List.length_map, getD_op hka, hxx, opv, i1]
       refine vCall_of (hP) ?_ ?_ ?_; iterate 2 simp only [go_sem, tr, opv]
       simp only [go_sem, opvs, h, List.length_map, getD_op hka, hxx, opv, i1]
       refine vCall_of (hR) ?_ ?_ ?_; iterate 2 simp only [go_sem, tr, opv]
       simp only [go_sem, w1]
       exact ⟨⟨k + 1, by omega⟩, by show ops.length - (k + 1) < ops.length - k; omega, ⟨rfl, by simp only; rw [hsn]; exact (fcs rfl (fcs rfl (fcs rfl (fcs rfl (fcs rfl (fcs rfl fnl)))))), fcs ⟨rfl, rfl⟩ fnl, by simp only; rw [hsn]; exact fcs rfl fnl⟩⟩
      ·rw [k2] at hR
       rw [k2, if_pos rfl] at hsn
       simp only [go_sem, opvs, h, List.length_map, getD_op hka, hxx, opv, i1]
       refine vCall_of (hP) ?_ ?_ ?_; iterate 2 simp only [go_sem, tr, opv]
       simp only [go_sem, opvs, h, List.length_map, getD_op hka, hxx, opv, i1]
       refine vCall_of (hR) ?_ ?_ ?_; iterate 2 simp only [go_sem, tr, opv]
       simp only [go_sem, opvs, h, List.length_map, getD_op hka, hxx, opv, i1, hml, hsz, hsx, hax, hrm, w1]
       exact ⟨⟨k + 1, by omega⟩, by show ops.length - (k + 1) < ops.length - k; omega, ⟨rfl, by simp only; rw [hsn, List.map_append]; exact (fcs rfl (fcs rfl (fcs rfl (fcs rfl (fcs rfl (fcs rfl fnl)))))), fcs ⟨rfl, rfl⟩ fnl, by simp only; rw [hsn, List.length_append]; exact fcs rfl fnl⟩⟩
     ·rw [k1] at hP
      have k2 := parked_read k1
      rw [k2] at hR
      rw [k2, if_neg (by simp), List.append_nil] at hsn
      simp only [go_sem, opvs, h, List.length_map, getD_op hka, hxx, opv, i1]
      refine vCall_of (hP) ?_ ?_ ?_; iterate 2 simp only [go_sem, tr, opv]
      simp only [go_sem, opvs, h, List.length_map, getD_op hka, hxx, opv, i1]
      refine vCall_of (hR) ?_ ?_ ?_; iterate 2 simp only [go_sem, tr, opv]
      simp only [go_sem, opvs, h, List.length_map, getD_op hka, hxx, opv, i1]
      refine vCall_of (hR) ?_ ?_ ?_; iterate 2 simp only [go_sem, tr, opv]
      simp only [go_sem, w1]
      exact ⟨⟨k + 1, by omega⟩, by show ops.length - (k + 1) < ops.length - k; omega, ⟨rfl, by simp only; rw [hsn]; exact (fcs rfl (fcs rfl (fcs rfl (fcs rfl (fcs rfl (fcs rfl fnl)))))), fcs ⟨rfl, rfl⟩ fnl, by simp only; rw [hsn]; exact fcs rfl fnl⟩⟩
    ·have htk : ops.take k = ops := List.take_of_length_le (by omega)
     have hcc : (c == c) = true := by simp
     simp only [go_sem, opvs, h, htk, List.length_map]
     refine vCall_of (hV) ?_ ?_ ?_; iterate 2 simp only [go_sem, tr, opvs, tg]
     simp only [go_sem, docV, doc]
     refine vCall_of (hW) ?_ ?_ ?_; iterate 2 simp only [go_sem, tr, opvs, tg]
     simp only [go_sem, docV, doc, hcc]
     refine vCall_of (hS) ?_ ?_ ?_; iterate 2 simp only [go_sem, doc]
     simp only [go_sem]
  ·rw [hj] at hJ
   refine PL.Pure.of_v Tryz.func4 (by decide) rfl Tryz.ntmps4 Tryz.results4 (by simp) rfl ?_
   simp only [go_sem, egs, opvs, tg]
   refine vCall_of (awake27_pure) ?_ ?_ ?_; iterate 2 simp only [go_sem]
   simp only [go_sem]
   refine vCall_of (hH) ?_ ?_ ?_; iterate 2 simp only [go_sem, egs]
   simp only [go_sem]
   refine vCall_of (hJ) ?_ ?_ ?_; iterate 2 simp only [go_sem, opvs]
   simp only [go_sem]
 ·rw [hh] at hH
  refine PL.Pure.of_v Tryz.func4 (by decide) rfl Tryz.ntmps4 Tryz.results4 (by simp) rfl ?_
  simp only [go_sem, egs, opvs, tg]
  refine vCall_of (awake27_pure) ?_ ?_ ?_; iterate 2 simp only [go_sem]
  simp only [go_sem]
  refine vCall_of (hH) ?_ ?_ ?_; iterate 2 simp only [go_sem, egs]
  simp only [go_sem]
end Go.Proofs.YthingdchjkhfbaaGreat
