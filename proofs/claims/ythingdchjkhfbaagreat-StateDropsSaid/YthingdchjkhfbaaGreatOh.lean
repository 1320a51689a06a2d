/- Contracts of functions and laws of this seat, each for every input that it names: lemmas of the proof. -/
import Derived.Test.YthingdchjkhfbaaGreatXDc
import Derived.Test.YthingdchjkhfbaaGreatXBb
set_option linter.unusedSimpArgs false
set_option linter.unusedVariables false
set_option linter.unusedSimpArgs false
set_option linter.unusedVariables false
namespace Go.Proofs.YthingdchjkhfbaaGreat
open Go.PL Go.PL.Srt
def hasT (l : List Tg) (t : Tg) : Int := idx (fun x => decide (x = t)) l
theorem RHas18_pure (l : List Tg) (t : Tg) (hl : l.length ≤ maxLen) : PL.Pure Tryz.prog 21 [tgs l, tg t] (.int .i64 (hasT l t)) := RHasT_pure l t hl
theorem hasT_iff {l : List Tg} {t : Tg} : decide (hasT l t ≥ 0) = decide (t ∈ l) := by
 by_cases h : t ∈ l
 ·rw [decide_eq_true h, decide_eq_true_eq]
  unfold hasT idx
  cases hf : l.findIdx? fun x => decide (x = t) with
  | none => rw [List.findIdx?_eq_none_iff] at hf; have := hf t h; simp at this
  | some i => simp
 ·rw [decide_eq_false h, decide_eq_false_iff_not]
  have : hasT l t = -1 := by
   unfold hasT
   apply idx_none (d := default)
   intro j hj
   rw [decide_eq_false_iff_not]
   intro e
   exact h (e ▸ getD_mem hj)
  omega
def goneB (m : List Eg) (o : Opn) (t : Tg) : Bool := decide (t ∈ o.drops) && readO m o
theorem alive_snoc (m : List Eg) (l : List Opn) (o : Opn) : aliveL m (l ++ [o]) = (aliveL m l).filter (fun x => !goneB m o x.id) ++ (if (readO m o && !dropT (readL m (l ++ [o])) o.id) = true then [o] else []) := by
 unfold aliveL
 rw [List.filter_filter]
 cases hr : readO m o
 ·have e : readL m (l ++ [o]) = readL m l := by unfold readL; rw [List.filter_append, List.filter_cons_of_neg (by simp [hr])]; simp
  rw [e]
  simp only [goneB, hr, Bool.and_false, Bool.not_false, Bool.true_and, Bool.false_and, Bool.false_eq_true, if_false, List.append_nil]
 ·have e : readL m (l ++ [o]) = readL m l ++ [o] := by unfold readL; rw [List.filter_append, List.filter_cons_of_pos (by simp [hr])]; simp
  rw [e, List.filter_append]
  congr 1
  ·refine List.filter_congr fun x _ => ?_
   simp [dropT, goneB, hr, Bool.and_comm]
  ·cases hd : dropT (readL m l ++ [o]) o.id
   ·rw [List.filter_cons_of_pos (by simp [hd])]; simp
   ·rw [List.filter_cons_of_neg (by simp [hd])]; simp
def notO (o : Opn) (x : Opn) : Bool := !decide (x.id = o.id)
theorem now_perm {m : List Eg} {l : List Opn} {o : Opn} (h : o.id ∉ l.map Opn.id) : ((livM m (l ++ [o])).filter (notO o)).Perm ((livM m l).filter fun x => !goneB m o x.id) := by
 refine ((livM_perm m (l ++ [o])).filter _).trans (.trans ?_ ((livM_perm m l).filter _).symm)
 rw [alive_snoc, List.filter_append]
 have h1 : ((aliveL m l).filter fun x => !goneB m o x.id).filter (notO o) = (aliveL m l).filter fun x => !goneB m o x.id := by
  rw [List.filter_eq_self]
  intro x hx
  have hx' := (aliveL_sub m l).mem (List.mem_filter.1 hx).1
  unfold notO
  rw [Bool.not_eq_true', decide_eq_false_iff_not]
  exact fun e => h (e ▸ List.mem_map_of_mem hx')
 have h2 : (if (readO m o && !dropT (readL m (l ++ [o])) o.id) = true then [o] else []).filter (notO o) = [] := by
  split <;> simp [notO]
 rw [h1, h2, List.append_nil]
theorem now_mem {m : List Eg} {l : List Opn} {o x : Opn} (h : o.id ∉ l.map Opn.id) (hx : x ∈ livM m (l ++ [o])) (hn : ¬ x.id = o.id) : x ∈ livM m l ∧ goneB m o x.id = false := by
 have := (now_perm (m := m) h).mem_iff.1 (List.mem_filter.2 ⟨hx, by simp [notO, hn]⟩)
 rw [List.mem_filter] at this
 exact ⟨this.1, by simpa using this.2⟩
theorem count_both (p : Opn → Bool) : ∀ l : List Opn, (l.filter fun x => !p x).length + (l.filter p).length = l.length
 | [] => rfl
 | x :: l => by
  have := count_both p l
  cases hp : p x
  ·rw [List.filter_cons_of_pos (by simp [hp]), List.filter_cons_of_neg (by simp [hp]), List.length_cons, List.length_cons]; omega
  ·rw [List.filter_cons_of_neg (by simp [hp]), List.filter_cons_of_pos (by simp [hp]), List.length_cons, List.length_cons]; omega
theorem now_len {m : List Eg} {l : List Opn} {o : Opn} (h : o.id ∉ l.map Opn.id) : (((livM m (l ++ [o])).filter (notO o)).length : Int) = (livM m l).length - ((livM m l).filter fun x => goneB m o x.id).length := by
 rw [(now_perm h).length_eq]
 have := count_both (fun x => goneB m o x.id) (livM m l)
 omega
theorem count_snoc {l : List Opn} {k : Nat} (p : Opn → Bool) (h : k < l.length) : ((l.take (k + 1)).filter p).length = ((l.take k).filter p).length + (if p (l.getD k default) = true then 1 else 0) := by
 rw [take_snoc (d := default) h, List.filter_append, List.length_append]
 congr 1
 generalize l.getD k default = x
 cases hr : p x
 ·rw [List.filter_cons_of_neg (by rw [hr]; simp)]; simp
 ·rw [List.filter_cons_of_pos (by exact hr)]; simp
theorem take_mem {l : List Opn} {k : Nat} (x : Opn) (h : k < l.length) : decide (x ∈ l.take (k + 1)) = (decide (x ∈ l.take k) || decide (l.getD k default = x)) := by
 rw [take_snoc (d := default) h]
 simp [eq_comm]
def ocs (o : Opn) : List PV := [.int .i64 o.id.r, .int .i64 o.id.n, .int .i64 o.sch.r, .int .i64 o.sch.n, .int .i64 o.time, .str o.cart, .int .i64 o.kind, .str o.item, .int .i64 o.at'.sc, .str o.at'.gr, .str o.at'.nm, .int .i64 o.delta, .bool o.has, .str o.text, .sl .no (o.drops.map tg)]
set_option maxRecDepth 20000 in
set_option maxHeartbeats 16000000 in
theorem StateDrops_pure (l : List Eg) (ops : List Opn) (o : Opn) (hl : l.length ≤ maxLen) (hx : ∀ e ∈ l, LenLn e.ln) (hol : ops.length ≤ maxLen) : PL.Pure Tryz.prog 6 [egs l, opvs ops, opv o] (.bool true) := by
 have hH := RHeavyE_pure l 50 hl hx
 have hJ := RHeavyOps_pure ops 40 hol
 have hV := RHeavyO_pure o
 cases hh : heavyE l 50
 ·rw [hh] at hH
  cases hj : heavyOps ops 40
  ·rw [hj] at hJ
   cases hv : heavyO o
   ·rw [hv] at hV
    obtain ⟨p1, p2⟩ := okOps (most := 40) hj
    have hA := RApart_pure (ops ++ [o]) (by rw [maxLen_eq, List.length_append]; simp only [List.length_cons, List.length_nil]; omega)
    have hml : (ops.map opv).length = ops.length := List.length_map _
    have hsz := sized_op ops
    have hat := atoms_op ops
    have hso := sized_op [o]
    have hao := atoms_op [o]
    have hszo := sized_op (ops ++ [o])
    have hrm1 := room1 (show ops.length ≤ 1000000 by omega) (show 176 ≤ 1000 by omega)
    have hrm2 := room1 (show ops.length + 1 ≤ 1000000 by omega) (show 176 ≤ 1000 by omega)
    cases ha : apartB (ops ++ [o])
    ·rw [ha] at hA
     simp only [opvs, List.map_append, List.map_cons, List.map_nil] at hA
     refine PL.Pure.of_v Tryz.func6 (by decide) rfl Tryz.ntmps6 Tryz.results6 (by simp) rfl ?_
     simp only [go_sem, egs, opvs, opv]
     refine vCall_of (awake27_pure) ?_ ?_ ?_; iterate 2 simp only [go_sem]
     simp only [go_sem]
     refine vDrawQ (by kernel_rfl) (by kernel_rfl) ?_
     simp only [go_sem]
     refine vCall_of (hH) ?_ ?_ ?_; iterate 2 simp only [go_sem, egs]
     simp only [go_sem]
     refine vCall_of (hJ) ?_ ?_ ?_; iterate 2 simp only [go_sem, opvs]
     simp only [go_sem]
     refine vCall_of (hV) ?_ ?_ ?_; iterate 2 simp only [go_sem, opv]
     simp only [go_sem, hml, hsz, hat, hso, hao, hrm1, hrm2]
     refine vCall_of (hA) ?_ ?_ ?_; iterate 2 simp only [go_sem, opv]
     simp only [go_sem]
    ·rw [ha] at hA
     simp only [opvs, List.map_append, List.map_cons, List.map_nil] at hA
     have hU' : ((ops ++ [o]).map Opn.id).Nodup := of_decide_eq_true ha
     have hnew : o.id ∉ ops.map Opn.id := by
      rw [List.map_append, List.nodup_append] at hU'
      intro hm
      exact hU'.2.2 _ hm _ (by simp) rfl
     have hU : (ops.map Opn.id).Nodup := nodup_sub hU' (List.sublist_append_left _ _)
     have hoO : OkOp o := ⟨by simp only [heavyO, Bool.or_eq_false_iff, decide_eq_false_iff_not] at hv; omega⟩
     have p2' : ∀ x ∈ ops ++ [o], OkOp x := fun x hx => by
      rcases List.mem_append.1 hx with hx | hx
      ·exact p2 x hx
      ·simp only [List.mem_singleton] at hx; subst hx; exact hoO
     obtain ⟨o1, o2⟩ := okL hh
     have hG := Grown_pure l (by omega) o2
     have hm : OkM (grownM l) := okGrown _ okM_nil o2
     generalize grownM l = m at *
     have hWp := Alive_pure m ops hm (by omega) p2 hU
     have hNp := Alive_pure m (ops ++ [o]) hm (by rw [List.length_append]; simp only [List.length_cons, List.length_nil]; omega) p2' hU'
     have hR := TrRead_pure m o hm hoO
     have hlen := now_len (m := m) hnew
     have hmem : ∀ x ∈ livM m (ops ++ [o]), ¬ x.id = o.id → x ∈ livM m ops ∧ goneB m o x.id = false := fun x hx hn => now_mem hnew hx hn
     have hWok : ∀ x ∈ livM m ops, OkOp x := fun x hx => p2 x (livM_mem hx)
     have hNok : ∀ x ∈ livM m (ops ++ [o]), OkOp x := fun x hx => p2' x (livM_mem hx)
     have hWl : (livM m ops).length ≤ 100 := Nat.le_trans (livM_len m ops) (by omega)
     have hNl : (livM m (ops ++ [o])).length ≤ 100 := Nat.le_trans (livM_len m _) (by rw [List.length_append]; simp only [List.length_cons, List.length_nil]; omega)
     generalize livM m ops = W at *
     generalize livM m (ops ++ [o]) = N at *
     simp only [opvs, List.map_append, List.map_cons, List.map_nil] at hNp
     have hWm : W.length ≤ maxLen := by rw [maxLen_eq]; omega
     have hNm : N.length ≤ maxLen := by rw [maxLen_eq]; omega
     refine PL.Pure.of_v Tryz.func6 (by decide) rfl Tryz.ntmps6 Tryz.results6 (by simp) rfl ?_
     simp only [go_sem, egs, opvs, opv]
     refine vCall_of (awake27_pure) ?_ ?_ ?_; iterate 2 simp only [go_sem]
     simp only [go_sem]
     refine vDrawQ (by kernel_rfl) (by kernel_rfl) ?_
     simp only [go_sem]
     refine vCall_of (hH) ?_ ?_ ?_; iterate 2 simp only [go_sem, egs]
     simp only [go_sem]
     refine vCall_of (hJ) ?_ ?_ ?_; iterate 2 simp only [go_sem, opvs]
     simp only [go_sem]
     refine vCall_of (hV) ?_ ?_ ?_; iterate 2 simp only [go_sem, opv]
     simp only [go_sem, hml, hsz, hat, hso, hao, hrm1, hrm2]
     refine vCall_of (hA) ?_ ?_ ?_; iterate 2 simp only [go_sem, opv]
     simp only [go_sem]
     refine vCall_of (hG) ?_ ?_ ?_; iterate 2 simp only [go_sem, egs]
     simp only [go_sem, grv]
     refine vCall_of (hWp) ?_ ?_ ?_; iterate 2 simp only [go_sem, tr, opvs]
     simp only [go_sem, opvs]
     refine vDrawQ (by kernel_rfl) (by kernel_rfl) ?_
     simp only [go_sem, hml, hsz, hat, hso, hao, hrm1, hrm2]
     refine vCall_of (hNp) ?_ ?_ ?_; iterate 2 simp only [go_sem, tr, opv]
     simp only [go_sem]
     refine vLoopM (ι := { x : Nat // x ≤ (N).length }) 139 (fun x => [(5, .ptr 5 0), (7, tr (treeOf m)), (10, opvs W), (11, opvs N), (12, .int .i64 (((N.take x.1).filter (notO o)).length : Int)), (13, .int .i64 (x.1 : Int))]) (fun x => [(5, ocs o, false)]) (fun x => []) (fun x => (N).length - x.1) ⟨0, Nat.zero_le _⟩ ⟨rfl, (fcs rfl (fcs rfl (fcs rfl (fcs rfl (fcs rfl (fcs rfl fnl)))))), (fcs ⟨rfl, rfl⟩ fnl), fnl⟩ (fun x => ⟨(fcs rfl (fcs rfl (fcs rfl (fcs rfl (fcs rfl (fcs rfl fnl)))))), (fcs rfl fnl)⟩) (fun x => ?_); obtain ⟨k, hk⟩ := x; simp only at hk ⊢
     by_cases h : (k : Int) < (N.length : Int)
     ·(have hka : k < (N).length := by omega); (have w1 := w64s hka (hNm)); (have i1 : (0 : Int) ≤ (k : Int) := by omega)
      have hsn := count_snoc (notO o) hka
      have hx := hmem _ (getD_mem' (d := default) hka)
      have hxo := (hNok _ (getD_mem' (d := default) hka)).len
      have hcl : ((N.take k).filter (notO o)).length ≤ 100 := Nat.le_trans (List.length_filter_le _ _) (by rw [List.length_take]; omega)
      have w3 : IntKind.i64.wrap ((((N.take k).filter (notO o)).length : Int) + 1) = ((((N.take k).filter (notO o)).length + 1 : Nat) : Int) := by rw [w64 (by omega)]; rfl
      by_cases he : (N.getD k default).id = o.id
      ·rw [show notO o (N.getD k default) = false by unfold notO; rw [decide_eq_true he]; rfl, if_neg (by simp), Nat.add_zero] at hsn
       simp only [go_sem, opvs, h, List.length_map, ocs]
       refine vDrawQ (by kernel_rfl) (by kernel_rfl) ?_
       simp only [go_sem, getD_op hka, opv, i1, h, tg_fold, he, w1]
       exact ⟨⟨k + 1, by omega⟩, by show N.length - (k + 1) < N.length - k; omega, ⟨rfl, by simp only; rw [hsn]; exact (fcs rfl (fcs rfl (fcs rfl (fcs rfl (fcs rfl (fcs rfl fnl)))))), fcs ⟨rfl, rfl⟩ fnl, fnl⟩⟩
      ·obtain ⟨hxw, hxg⟩ := hx he
       have hxo' : (N.getD k default).drops.length ≤ maxLen := hxo
       rw [show notO o (N.getD k default) = true by unfold notO; rw [decide_eq_false he]; rfl, if_pos rfl] at hsn
       simp only [go_sem, opvs, h, List.length_map, ocs]
       refine vDrawQ (by kernel_rfl) (by kernel_rfl) ?_
       simp only [go_sem, getD_op hka, opv, i1, h, tg_fold, he, w3]
       refine vLoopM (ι := { x : Nat // x ≤ (W).length }) 139 (fun x => [(5, .ptr 5 0), (7, tr (treeOf m)), (10, opvs W), (11, opvs N), (12, .int .i64 ((((N.take k).filter (notO o)).length + 1 : Nat) : Int)), (13, .int .i64 (k : Int)), (14, .bool (decide ((N.getD k default) ∈ W.take x.1))), (15, .int .i64 (x.1 : Int))]) (fun x => [(5, ocs o, false)]) (fun x => []) (fun x => (W).length - x.1) ⟨0, Nat.zero_le _⟩ ⟨rfl, (fcs rfl (fcs rfl (fcs rfl (fcs rfl (fcs rfl (fcs rfl (fcs rfl (fcs rfl fnl)))))))), (fcs ⟨rfl, rfl⟩ fnl), fnl⟩ (fun x => ⟨(fcs rfl (fcs rfl (fcs rfl (fcs rfl (fcs rfl (fcs rfl (fcs rfl (fcs rfl fnl)))))))), (fcs rfl fnl)⟩) (fun x => ?_); obtain ⟨kb, hkb⟩ := x; simp only at hkb ⊢
       by_cases hb : (kb : Int) < (W.length : Int)
       ·(have hkab : kb < (W).length := by omega); (have w1b := w64s hkab (hWm)); (have i1b : (0 : Int) ≤ (kb : Int) := by omega)
        have htm := take_mem (N.getD k default) hkab
        have hO := ROSame_pure (W.getD kb default) (N.getD k default) (hWok _ (getD_mem' (d := default) hkab)).len hxo'
        cases hf : decide ((N.getD k default) ∈ W.take kb)
        ·rw [hf, Bool.false_or] at htm
         simp only [go_sem, opvs, hb, List.length_map, hf]
         refine vDrawQ (by kernel_rfl) (by kernel_rfl) ?_
         simp only [go_sem, getD_op hkab, getD_op hka, opv, i1, i1b, h, hb]
         refine vCall_of (hO) ?_ ?_ ?_; iterate 2 simp only [go_sem, opv]
         simp only [go_sem, w1b]
         exact ⟨⟨kb + 1, by omega⟩, by show W.length - (kb + 1) < W.length - kb; omega, ⟨rfl, by simp only; rw [htm]; exact (fcs rfl (fcs rfl (fcs rfl (fcs rfl (fcs rfl (fcs rfl (fcs rfl (fcs rfl fnl)))))))), fcs ⟨rfl, rfl⟩ fnl, fnl⟩⟩
        ·rw [hf, Bool.true_or] at htm
         simp only [go_sem, opvs, hb, List.length_map, hf]
         refine vDrawQ (by kernel_rfl) (by kernel_rfl) ?_
         simp only [go_sem, getD_op hkab, getD_op hka, opv, i1, i1b, h, hb, w1b]
         exact ⟨⟨kb + 1, by omega⟩, by show W.length - (kb + 1) < W.length - kb; omega, ⟨rfl, by simp only; rw [htm]; exact (fcs rfl (fcs rfl (fcs rfl (fcs rfl (fcs rfl (fcs rfl (fcs rfl (fcs rfl fnl)))))))), fcs ⟨rfl, rfl⟩ fnl, fnl⟩⟩
       ·have htk : decide ((N.getD k default) ∈ W.take kb) = true := by rw [List.take_of_length_le (by omega)]; exact decide_eq_true hxw
        have hHs := RHas18_pure o.drops (N.getD k default).id hoO.len
        have hIf : decide (hasT o.drops (N.getD k default).id ≥ 0) = decide ((N.getD k default).id ∈ o.drops) := hasT_iff
        simp only [go_sem, opvs, hb, List.length_map, htk]
        refine vDrawQ (by kernel_rfl) (by kernel_rfl) ?_
        simp only [go_sem, getD_op hka, opv, i1, h, tgs, tg, ocs]
        cases hgm : decide ((N.getD k default).id ∈ o.drops)
        ·rw [hgm] at hIf
         refine vCall_of (hHs) ?_ ?_ ?_; iterate 2 simp only [go_sem, tgs, tg]
         simp only [go_sem, hIf, w1]
         exact ⟨⟨k + 1, by omega⟩, by show N.length - (k + 1) < N.length - k; omega, ⟨rfl, by simp only; rw [hsn]; exact (fcs rfl (fcs rfl (fcs rfl (fcs rfl (fcs rfl (fcs rfl fnl)))))), fcs ⟨rfl, rfl⟩ fnl, fnl⟩⟩
        ·rw [hgm] at hIf
         have hrd : readO m o = false := by unfold goneB at hxg; rw [hgm, Bool.true_and] at hxg; exact hxg
         rw [hrd] at hR
         refine vCall_of (hHs) ?_ ?_ ?_; iterate 2 simp only [go_sem, tgs, tg]
         simp only [go_sem, hIf, ocs]
         refine vCall_of (hR) ?_ ?_ ?_; iterate 2 simp only [go_sem, tr, opv]
         simp only [go_sem, w1]
         exact ⟨⟨k + 1, by omega⟩, by show N.length - (k + 1) < N.length - k; omega, ⟨rfl, by simp only; rw [hsn]; exact (fcs rfl (fcs rfl (fcs rfl (fcs rfl (fcs rfl (fcs rfl fnl)))))), fcs ⟨rfl, rfl⟩ fnl, fnl⟩⟩
     ·have htk : N.take k = N := List.take_of_length_le (by omega)
      simp only [go_sem, opvs, h, List.length_map, htk]
      refine vLoopM (ι := { x : Nat // x ≤ (W).length }) 139 (fun x => [(5, .ptr 5 0), (7, tr (treeOf m)), (10, opvs W), (12, .int .i64 ((N.filter (notO o)).length : Int)), (16, .int .i64 (((W.take x.1).filter fun x => goneB m o x.id).length : Int)), (17, .int .i64 (x.1 : Int))]) (fun x => [(5, ocs o, false)]) (fun x => []) (fun x => (W).length - x.1) ⟨0, Nat.zero_le _⟩ ⟨rfl, (fcs rfl (fcs rfl (fcs rfl (fcs rfl (fcs rfl (fcs rfl fnl)))))), (fcs ⟨rfl, rfl⟩ fnl), fnl⟩ (fun x => ⟨(fcs rfl (fcs rfl (fcs rfl (fcs rfl (fcs rfl (fcs rfl fnl)))))), (fcs rfl fnl)⟩) (fun x => ?_); obtain ⟨kc, hkc⟩ := x; simp only at hkc ⊢
      by_cases hc : (kc : Int) < (W.length : Int)
      ·(have hkac : kc < (W).length := by omega); (have w1c := w64s hkac (hWm)); (have i1c : (0 : Int) ≤ (kc : Int) := by omega)
       have hsn := count_snoc (fun x => goneB m o x.id) hkac
       have hcl : ((W.take kc).filter fun x => goneB m o x.id).length ≤ 100 := Nat.le_trans (List.length_filter_le _ _) (by rw [List.length_take]; omega)
       have w3 : IntKind.i64.wrap ((((W.take kc).filter fun x => goneB m o x.id).length : Int) + 1) = ((((W.take kc).filter fun x => goneB m o x.id).length + 1 : Nat) : Int) := by rw [w64 (by omega)]; rfl
       have hHs := RHas18_pure o.drops (W.getD kc default).id hoO.len
       have hIf : decide (hasT o.drops (W.getD kc default).id ≥ 0) = decide ((W.getD kc default).id ∈ o.drops) := hasT_iff
       cases hgm : decide ((W.getD kc default).id ∈ o.drops)
       ·rw [hgm] at hIf
        rw [show goneB m o (W.getD kc default).id = false by unfold goneB; rw [hgm]; rfl, if_neg (by simp), Nat.add_zero] at hsn
        simp only [go_sem, opvs, hc, List.length_map]
        refine vDrawQ (by kernel_rfl) (by kernel_rfl) ?_
        simp only [go_sem, getD_op hkac, opv, i1c, hc, tgs, tg, ocs]
        refine vCall_of (hHs) ?_ ?_ ?_; iterate 2 simp only [go_sem, tgs, tg]
        simp only [go_sem, hIf, w1c]
        exact ⟨⟨kc + 1, by omega⟩, by show W.length - (kc + 1) < W.length - kc; omega, ⟨rfl, by simp only; rw [hsn]; exact (fcs rfl (fcs rfl (fcs rfl (fcs rfl (fcs rfl (fcs rfl fnl)))))), fcs ⟨rfl, rfl⟩ fnl, fnl⟩⟩
       ·rw [hgm] at hIf
        cases hrd : readO m o
        ·rw [hrd] at hR
         rw [show goneB m o (W.getD kc default).id = false by unfold goneB; rw [hgm, hrd]; rfl, if_neg (by simp), Nat.add_zero] at hsn
         simp only [go_sem, opvs, hc, List.length_map]
         refine vDrawQ (by kernel_rfl) (by kernel_rfl) ?_
         simp only [go_sem, getD_op hkac, opv, i1c, hc, tgs, tg, ocs]
         refine vCall_of (hHs) ?_ ?_ ?_; iterate 2 simp only [go_sem, tgs, tg]
         simp only [go_sem, hIf, ocs]
         refine vCall_of (hR) ?_ ?_ ?_; iterate 2 simp only [go_sem, tr, opv]
         simp only [go_sem, w1c]
         exact ⟨⟨kc + 1, by omega⟩, by show W.length - (kc + 1) < W.length - kc; omega, ⟨rfl, by simp only; rw [hsn]; exact (fcs rfl (fcs rfl (fcs rfl (fcs rfl (fcs rfl (fcs rfl fnl)))))), fcs ⟨rfl, rfl⟩ fnl, fnl⟩⟩
        ·rw [hrd] at hR
         rw [show goneB m o (W.getD kc default).id = true by unfold goneB; rw [hgm, hrd]; rfl, if_pos rfl] at hsn
         simp only [go_sem, opvs, hc, List.length_map]
         refine vDrawQ (by kernel_rfl) (by kernel_rfl) ?_
         simp only [go_sem, getD_op hkac, opv, i1c, hc, tgs, tg, ocs]
         refine vCall_of (hHs) ?_ ?_ ?_; iterate 2 simp only [go_sem, tgs, tg]
         simp only [go_sem, hIf, ocs]
         refine vCall_of (hR) ?_ ?_ ?_; iterate 2 simp only [go_sem, tr, opv]
         simp only [go_sem, w1c, w3]
         exact ⟨⟨kc + 1, by omega⟩, by show W.length - (kc + 1) < W.length - kc; omega, ⟨rfl, by simp only; rw [hsn]; exact (fcs rfl (fcs rfl (fcs rfl (fcs rfl (fcs rfl (fcs rfl fnl)))))), fcs ⟨rfl, rfl⟩ fnl, fnl⟩⟩
      ·have htc : W.take kc = W := List.take_of_length_le (by omega)
       have hgl : (W.filter fun x => goneB m o x.id).length ≤ 100 := Nat.le_trans (List.length_filter_le _ _) hWl
       have hw : IntKind.i64.wrap ((W.length : Int) - ((W.filter fun x => goneB m o x.id).length : Int)) = ((N.filter (notO o)).length : Int) := by rw [w64 (by omega), hlen]
       simp only [go_sem, opvs, hc, List.length_map, htc, hw]
   ·rw [hv] at hV
    refine PL.Pure.of_v Tryz.func6 (by decide) rfl Tryz.ntmps6 Tryz.results6 (by simp) rfl ?_
    simp only [go_sem, egs, opvs, opv]
    refine vCall_of (awake27_pure) ?_ ?_ ?_; iterate 2 simp only [go_sem]
    simp only [go_sem]
    refine vDrawQ (by kernel_rfl) (by kernel_rfl) ?_
    simp only [go_sem]
    refine vCall_of (hH) ?_ ?_ ?_; iterate 2 simp only [go_sem, egs]
    simp only [go_sem]
    refine vCall_of (hJ) ?_ ?_ ?_; iterate 2 simp only [go_sem, opvs]
    simp only [go_sem]
    refine vCall_of (hV) ?_ ?_ ?_; iterate 2 simp only [go_sem, opv]
    simp only [go_sem]
  ·rw [hj] at hJ
   refine PL.Pure.of_v Tryz.func6 (by decide) rfl Tryz.ntmps6 Tryz.results6 (by simp) rfl ?_
   simp only [go_sem, egs, opvs, opv]
   refine vCall_of (awake27_pure) ?_ ?_ ?_; iterate 2 simp only [go_sem]
   simp only [go_sem]
   refine vDrawQ (by kernel_rfl) (by kernel_rfl) ?_
   simp only [go_sem]
   refine vCall_of (hH) ?_ ?_ ?_; iterate 2 simp only [go_sem, egs]
   simp only [go_sem]
   refine vCall_of (hJ) ?_ ?_ ?_; iterate 2 simp only [go_sem, opvs]
   simp only [go_sem]
 ·rw [hh] at hH
  refine PL.Pure.of_v Tryz.func6 (by decide) rfl Tryz.ntmps6 Tryz.results6 (by simp) rfl ?_
  simp only [go_sem, egs, opvs, opv]
  refine vCall_of (awake27_pure) ?_ ?_ ?_; iterate 2 simp only [go_sem]
  simp only [go_sem]
  refine vDrawQ (by kernel_rfl) (by kernel_rfl) ?_
  simp only [go_sem]
  refine vCall_of (hH) ?_ ?_ ?_; iterate 2 simp only [go_sem, egs]
  simp only [go_sem]
end Go.Proofs.YthingdchjkhfbaaGreat
