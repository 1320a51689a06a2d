/- Contracts of functions and laws of this seat, each for every input that it names: lemmas of the proof. -/
import Derived.Test.YthingdchjkhfbaaGreatVXDa
set_option linter.unusedSimpArgs false
set_option linter.unusedVariables false
set_option linter.unusedSimpArgs false
set_option linter.unusedVariables false
namespace Go.Proofs.YthingdchjkhfbaaGreat
open Go.PL Go.PL.Srt
theorem srt_perm_eq {α : Type} {lt : α → α → Bool} (g : Srt.Good lt) {L L' : List α} (h : Unl lt L) (p : L'.Perm L) (h' : Unl lt L') : srt lt L' = srt lt L := by
 symm
 exact srt_eq g (srt_inc g h') ((srt_perm L').trans p)
theorem livM_congr {m : List Eg} {l l' : List Opn} (p : l'.Perm l) (h : (l.map Opn.id).Nodup) : livM m l' = livM m l := by
 have h' : (l'.map Opn.id).Nodup := (p.map Opn.id).nodup_iff.2 h
 have pr : (readL m l').Perm (readL m l) := p.filter _
 have ed : ∀ t, dropT (readL m l') t = dropT (readL m l) t := fun t => by
  rw [Bool.eq_iff_iff]
  unfold dropT
  simp only [List.any_eq_true]
  exact ⟨fun ⟨o, h1, h2⟩ => ⟨o, pr.mem_iff.1 h1, h2⟩, fun ⟨o, h1, h2⟩ => ⟨o, pr.mem_iff.2 h1, h2⟩⟩
 have pa : (aliveL m l').Perm (aliveL m l) := by
  unfold aliveL
  simp only [ed]
  exact pr.filter _
 exact srt_perm_eq oless_good (alive_nodup h) pa (alive_nodup h')
def turnI (l : List Opn) (t : Int) (i : Nat) : Nat := ((t.tmod l.length).toNat + i) % l.length
def turnL (l : List Opn) (t : Int) : List Opn := (List.range l.length).map fun j => l.getD (turnI l t (l.length - 1 - j)) default
theorem turn_len (l : List Opn) (t : Int) : (turnL l t).length = l.length := by simp [turnL]
theorem turn_snoc (l : List Opn) (t : Int) {k : Nat} (h : k < l.length) : (turnL l t).take (k + 1) = (turnL l t).take k ++ [l.getD (turnI l t (l.length - 1 - k)) default] := by
 rw [take_snoc (d := default) (by rw [turn_len]; exact h)]
 congr 2
 rw [getD_lt (by rw [turn_len]; exact h)]
 simp [turnL]
theorem turn_perm (l : List Opn) (t : Int) (ht : 0 ≤ t) : (turnL l t).Perm l := by
 by_cases hn : l.length = 0
 ·rw [List.length_eq_zero_iff] at hn; subst hn; exact .refl _
 have hp : 0 < l.length := by omega
 have e : turnL l t = (l.drop ((t.tmod l.length).toNat) ++ l.take ((t.tmod l.length).toNat)).reverse := by
  have hr : (t.tmod l.length).toNat < l.length := by
   have h1 := Int.tmod_lt_of_pos t (show (0 : Int) < l.length by omega)
   have h2 := Int.tmod_nonneg (l.length : Int) ht
   omega
  apply List.ext_getElem
  ·rw [turn_len]; simp; omega
  ·intro i h1 h2
   rw [turn_len] at h1
   simp only [turnL, List.getElem_map, List.getElem_range, List.getElem_reverse]
   unfold turnI
   generalize (t.tmod l.length).toNat = r at *
   have hlen : (l.drop r ++ l.take r).length = l.length := by simp; omega
   simp only [hlen]
   by_cases hc : l.length - 1 - i < (l.drop r).length
   ·rw [List.getElem_append_left hc, List.getElem_drop]
    simp only [List.length_drop] at hc
    have : (r + (l.length - 1 - i)) % l.length = r + (l.length - 1 - i) := Nat.mod_eq_of_lt (by omega)
    simp only [this]
    rw [getD_lt (by omega)]
   ·rw [List.getElem_append_right (by omega), List.getElem_take]
    simp only [List.length_drop] at hc ⊢
    have : (r + (l.length - 1 - i)) % l.length = l.length - 1 - i - (l.length - r) := by
     rw [Nat.mod_eq_sub_mod (by omega), Nat.mod_eq_of_lt (by omega)]; omega
    simp only [this]
    rw [getD_lt (by omega)]
 rw [e]
 refine (List.reverse_perm _).trans (List.perm_append_comm.trans ?_)
 rw [List.take_append_drop]
theorem turn_at {l : List Opn} {t : Int} (ht : 0 ≤ t) (hl : l.length ≤ 40) {k : Nat} (hk : k < l.length) (hm : t ≤ 9223372036854775807) :
  Int.tmod (Int.tmod t l.length + ((l.length - 1 - k : Nat) : Int)) l.length = (turnI l t (l.length - 1 - k) : Int) := by
 have h1 := Int.tmod_lt_of_pos t (show (0 : Int) < l.length by omega)
 have h2 := Int.tmod_nonneg (l.length : Int) ht
 unfold turnI
 obtain ⟨r, hr⟩ : ∃ r : Nat, Int.tmod t l.length = (r : Int) := ⟨_, (Int.toNat_of_nonneg h2).symm⟩
 rw [hr]
 simp only [Int.toNat_natCast]
 rw [Int.tmod_eq_emod_of_nonneg (by omega), ← Int.natCast_add, ← Int.natCast_emod]
theorem tz_op : aMakeFull.tz Tryz.prog 37 = some (.agg [.int .i64 0, .int .i64 0, .int .i64 0, .int .i64 0, .int .i64 0, .str [], .int .i64 0, .str [], .int .i64 0, .str [], .str [], .int .i64 0, .bool false, .str [], .sl .nil []]) := by kernel_rfl
theorem View_long2 (m : List Eg) (es : List PV) (cart : Str) (b : Tg) (h1 : 400 < (es.length : Int)) : PL.Pure Tryz.prog 13 [tr (treeOf m), .sl .no es, .str cart, tg b] (docV (default, 14)) := by
 refine PL.Pure.of_v Tryz.func13 (by decide) rfl Tryz.ntmps13 Tryz.results13 (by simp) (docV_dids _) ?_
 simp only [go_sem, tr, tg, h1]
 simp only [docV, doc_default]
set_option maxRecDepth 20000 in
set_option maxHeartbeats 16000000 in
theorem StateOrders_pure (l : List Eg) (ops : List Opn) (cart : Str) (b : Tg) (t : Int) (hl : l.length ≤ maxLen) (hx : ∀ e ∈ l, LenLn e.ln) (hol : ops.length ≤ maxLen) (t1 : IntKind.i64.min ≤ t) (t2 : t ≤ IntKind.i64.max) : PL.Pure Tryz.prog 5 [egs l, opvs ops, .str cart, tg b, .int .i64 t] (.bool true) := by
 have hH := RHeavyE_pure l 50 hl hx
 have hJ := RHeavyOps_pure ops 40 hol
 have hA := RApart_pure ops hol
 cases hh : heavyE l 50
 ·rw [hh] at hH
  cases hj : heavyOps ops 40
  ·rw [hj] at hJ
   cases ha : apartB ops
   ·rw [ha] at hA
    refine PL.Pure.of_v Tryz.func5 (by decide) rfl Tryz.ntmps5 Tryz.results5 (by simp) rfl ?_
    simp only [go_sem, egs, opvs, tg]
    refine vCall_of (awake27_pure) ?_ ?_ ?_; iterate 2 simp only [go_sem]
    simp only [go_sem]
    refine vCall_of (hH) ?_ ?_ ?_; iterate 2 simp only [go_sem, egs]
    simp only [go_sem]
    refine vCall_of (hJ) ?_ ?_ ?_; iterate 2 simp only [go_sem, opvs]
    simp only [go_sem]
    refine vCall_of (hA) ?_ ?_ ?_; iterate 2 simp only [go_sem, opvs]
    simp only [go_sem]
   ·rw [ha] at hA
    by_cases ht : t < 0
    ·refine PL.Pure.of_v Tryz.func5 (by decide) rfl Tryz.ntmps5 Tryz.results5 (by simp) rfl ?_
     simp only [go_sem, egs, opvs, tg]
     refine vCall_of (awake27_pure) ?_ ?_ ?_; iterate 2 simp only [go_sem]
     simp only [go_sem]
     refine vCall_of (hH) ?_ ?_ ?_; iterate 2 simp only [go_sem, egs]
     simp only [go_sem]
     refine vCall_of (hJ) ?_ ?_ ?_; iterate 2 simp only [go_sem, opvs]
     simp only [go_sem]
     refine vCall_of (hA) ?_ ?_ ?_; iterate 2 simp only [go_sem, opvs]
     simp only [go_sem, ht]
    have ht0 : 0 ≤ t := by omega
    have htm : t ≤ 9223372036854775807 := t2
    have hU : (ops.map Opn.id).Nodup := of_decide_eq_true ha
    obtain ⟨o1, o2⟩ := okL hh
    obtain ⟨p1, p2⟩ := okOps (most := 40) hj
    have hG := Grown_pure l (by omega) o2
    have hm : OkM (grownM l) := okGrown _ okM_nil o2
    have hr : RightM (grownM l) := rightGrown _ right_nil
    generalize grownM l = m at *
    have hpm := turn_perm ops t ht0
    have hUt : ((turnL ops t).map Opn.id).Nodup := (hpm.map Opn.id).nodup_iff.2 hU
    have htl := turn_len ops t
    have p2t : ∀ o ∈ turnL ops t, OkOp o := fun o ho => p2 o (hpm.mem_iff.1 ho)
    have hliv := livM_congr (m := m) hpm hU
    have hV := View_pure m ops cart b hm hr p2 hU
    have hW := View_pure m (turnL ops t) cart b hm hr p2t hUt
    rw [view_congr (l' := ops) (by omega) (by omega) (by rw [hliv])] at hW
    have hL := View_long2 m (List.replicate 401 (.agg [.int .i64 0, .int .i64 0, .int .i64 0, .int .i64 0, .int .i64 0, .str [], .int .i64 0, .str [], .int .i64 0, .str [], .str [], .int .i64 0, .bool false, .str [], .sl .nil []])) cart b (by rw [List.length_replicate]; decide)
    have hfi : Fine (viewM m ops cart b).1 := view_fine hm
    have hS := RSameD_pure _ _ hfi hfi
    rw [decide_eq_true rfl] at hS
    have hB := Alive_pure m ops hm (by omega) p2 hU
    have hC := Alive_pure m (turnL ops t) hm (by omega) p2t hUt
    rw [hliv] at hC
    have hlok : ∀ x ∈ livM m ops, OkOp x := fun x hx => p2 x (livM_mem hx)
    have hll : (livM m ops).length ≤ maxLen := by have := livM_len m ops; rw [maxLen_eq]; omega
    have hD := RSameOps_pure (livM m ops) (livM m ops) hll hll hlok hlok
    rw [decide_eq_true rfl] at hD
    generalize livM m ops = A at *
    generalize viewM m ops cart b = y at *
    obtain ⟨⟨hd, rws⟩, c⟩ := y
    have w0 : IntKind.i64.wrap ((ops.length : Int) - 1) = (ops.length : Int) - 1 - ((0 : Nat) : Int) := by rw [w64 (by omega)]; omega
    refine PL.Pure.of_v Tryz.func5 (by decide) rfl Tryz.ntmps5 Tryz.results5 (by simp) rfl ?_
    simp only [go_sem, egs, opvs, tg]
    refine vCall_of (awake27_pure) ?_ ?_ ?_; iterate 2 simp only [go_sem]
    simp only [go_sem]
    refine vCall_of (hH) ?_ ?_ ?_; iterate 2 simp only [go_sem, egs]
    simp only [go_sem]
    refine vCall_of (hJ) ?_ ?_ ?_; iterate 2 simp only [go_sem, opvs]
    simp only [go_sem]
    refine vCall_of (hA) ?_ ?_ ?_; iterate 2 simp only [go_sem, opvs]
    simp only [go_sem, ht]
    refine vCall_of (hG) ?_ ?_ ?_; iterate 2 simp only [go_sem, egs]
    simp only [go_sem, grv, w0]
    refine awp_moveRow 14 47 69 0 15 37 [] rfl rfl rfl ?_
    refine vLoopM (ι := { x : Nat // x ≤ (ops).length }) 115 (fun x => [(1, opvs ops), (2, .str cart), (4, .int .i64 t), (8, .ptr 8 0), (11, tr (treeOf m)), (14, .sl (.row 69) (((turnL ops t).take x.1).map opv)), (15, .int .i64 ((ops.length : Int) - 1 - (x.1 : Int)))]) (fun x => [(8, [.int .i64 b.r, .int .i64 b.n], false)]) (fun x => [(69, .live (((turnL ops t).take x.1).length) (15) (37))]) (fun x => (ops).length - x.1) ⟨0, Nat.zero_le _⟩ ⟨rfl, (fcs rfl (fcs rfl (fcs rfl (fcs rfl (fcs rfl (fcs rfl (fcs rfl fnl))))))), (fcs ⟨rfl, rfl⟩ fnl), (fcs rfl fnl)⟩ (fun x => ⟨(fcs rfl (fcs rfl (fcs rfl (fcs rfl (fcs rfl (fcs (by simp [PV.ids, refInM]) (fcs rfl fnl))))))), (fcs rfl fnl)⟩) (fun x => ?_); obtain ⟨k, hk⟩ := x; simp only at hk ⊢
    by_cases h : (ops.length : Int) - 1 - (k : Int) ≥ 0
    ·have hka : k < ops.length := by omega
     have hn0 : (ops.length : Int) ≠ 0 := by omega
     have hat := turn_at (l := ops) ht0 p1 hka htm
     have hti : turnI ops t (ops.length - 1 - k) < ops.length := Nat.mod_lt _ (by omega)
     have i2 : ((turnI ops t (ops.length - 1 - k) : Nat) : Int) < (ops.length : Int) := by omega
     have i0 : (0 : Int) ≤ ((turnI ops t (ops.length - 1 - k) : Nat) : Int) := by omega
     have hsn := turn_snoc ops t hka
     have hkk : ((ops.length - 1 - k : Nat) : Int) = (ops.length : Int) - 1 - (k : Int) := by omega
     rw [hkk] at hat
     have w1 : IntKind.i64.wrap ((ops.length : Int) - 1 - (k : Int) - 1) = (ops.length : Int) - 1 - ((k + 1 : Nat) : Int) := by rw [w64 (by omega)]; omega
     have hwr : IntKind.i64.wrap (t.tmod (ops.length : Int) + ((ops.length : Int) - 1 - (k : Int))) = t.tmod (ops.length : Int) + ((ops.length : Int) - 1 - (k : Int)) := by
      have h1 := Int.tmod_lt_of_pos t (show (0 : Int) < ops.length by omega)
      have h2 := Int.tmod_nonneg (ops.length : Int) ht0
      exact w64 (by omega)
     have hkl : ((turnL ops t).take k).length ≤ 40 := Nat.le_trans (List.length_take_le' _ _) (by omega)
     have hrm := room1 (show ((turnL ops t).take k).length + 1 ≤ 1000000 by omega) (show 176 ≤ 1000 by omega)
     have hml : (((turnL ops t).take k).map opv).length = ((turnL ops t).take k).length := List.length_map _
     have hsz := sized_op ((turnL ops t).take k)
     generalize hti' : turnI ops t (ops.length - 1 - k) = i at *
     have hxi := getD_op hti
     generalize hxx : ops.getD i default = x at *
     have hsx : Sized 15 [opv x] := sized_op [x]
     have hax : Atoms [opv x] := atoms_op [x]
     have hdl : (x.drops.map tg).length = x.drops.length := List.length_map _
     simp only [opv] at hsx hax
     simp only [go_sem, opvs, h, List.length_map, hn0, hwr, hat, i0, i2, Int.toNat_natCast, hxi, opv, hml, hsz, hsx, hax, hrm, w1]
     exact ⟨⟨k + 1, by omega⟩, by show ops.length - (k + 1) < ops.length - k; omega, ⟨rfl, by simp only; rw [hsn, List.map_append]; exact (fcs rfl (fcs rfl (fcs rfl (fcs rfl (fcs rfl (fcs rfl (fcs rfl fnl))))))), fcs ⟨rfl, rfl⟩ fnl, by simp only; rw [hsn, List.length_append]; exact fcs rfl fnl⟩⟩
    ·have htk : (turnL ops t).take k = turnL ops t := List.take_of_length_le (by omega)
     have hcc : (c == c) = true := by simp
     simp only [go_sem, opvs, h, htk, List.length_map]
     refine vCall_of (hV) ?_ ?_ ?_; iterate 2 simp only [go_sem, tr, opvs, tg]
     simp only [go_sem, docV, doc]
     refine vCall_of (hW) ?_ ?_ ?_; iterate 2 simp only [go_sem, tr, opvs, tg]
     simp only [go_sem, docV, doc, hcc]
     refine vDrawQ (by kernel_rfl) (by kernel_rfl) ?_
     simp only [go_sem, tz_op]
     refine ⟨by decide, ?_⟩
     refine vCall_of (hL) ?_ ?_ ?_; iterate 2 simp only [go_sem, tr, tg]
     simp only [go_sem, docV, doc, hcc]
     refine vCall_of (hS) ?_ ?_ ?_; iterate 2 simp only [go_sem, doc]
     simp only [go_sem]
     refine vCall_of (hB) ?_ ?_ ?_; iterate 2 simp only [go_sem, tr, opvs]
     simp only [go_sem, opvs]
     refine vCall_of (hC) ?_ ?_ ?_; iterate 2 simp only [go_sem, tr, opvs]
     simp only [go_sem, opvs]
     refine vCall_of (hD) ?_ ?_ ?_; iterate 2 simp only [go_sem, opvs]
     simp only [go_sem]
  ·rw [hj] at hJ
   refine PL.Pure.of_v Tryz.func5 (by decide) rfl Tryz.ntmps5 Tryz.results5 (by simp) rfl ?_
   simp only [go_sem, egs, opvs, tg]
   refine vCall_of (awake27_pure) ?_ ?_ ?_; iterate 2 simp only [go_sem]
   simp only [go_sem]
   refine vCall_of (hH) ?_ ?_ ?_; iterate 2 simp only [go_sem, egs]
   simp only [go_sem]
   refine vCall_of (hJ) ?_ ?_ ?_; iterate 2 simp only [go_sem, opvs]
   simp only [go_sem]
 ·rw [hh] at hH
  refine PL.Pure.of_v Tryz.func5 (by decide) rfl Tryz.ntmps5 Tryz.results5 (by simp) rfl ?_
  simp only [go_sem, egs, opvs, tg]
  refine vCall_of (awake27_pure) ?_ ?_ ?_; iterate 2 simp only [go_sem]
  simp only [go_sem]
  refine vCall_of (hH) ?_ ?_ ?_; iterate 2 simp only [go_sem, egs]
  simp only [go_sem]
end Go.Proofs.YthingdchjkhfbaaGreat
