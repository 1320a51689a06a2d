/- Contracts of functions and laws of this seat, each for every input that it names: lemmas of the proof. -/
import Derived.Test.YthingdchjkhfbaaGreatXDa
import Derived.Test.YthingdchjkhfbaaGreatXBq
import Derived.Test.YthingdchjkhfbaaGreatXAn
import Derived.Test.YthingdchjkhfbaaGreatRows
import Derived.ProofKit
import Derived.Test.YthingdchjkhfbaaGreatXBb
import Derived.Test.YthingdchjkhfbaaGreatXCt
import Derived.Test.YthingdchjkhfbaaGreatXBm
set_option linter.unusedSimpArgs false
set_option linter.unusedVariables false
set_option linter.unusedSimpArgs false
set_option linter.unusedVariables false
namespace Go.Proofs.YthingdchjkhfbaaGreat
open Go.PL Go.PL.Srt
theorem valE_len (f : Fd) (ops : List Opn) : (valE f ops).l.length ≤ ops.length + 1 := by
 have h1 : (valueM f).l.length ≤ 1 := by unfold valueM; simp only; split <;> simp
 have h2 := textsM_len ops
 unfold valE
 split
 ·simp only; omega
 ·simp only
  split
  ·omega
  ·split
   ·omega
   ·simp
theorem items_len (l : List Opn) (c : Str) : (itemsM l c).length ≤ l.length := by
 unfold itemsM
 have h1 := compact_len (sortS (namesM l c))
 have h2 := namesM_len l c
 have h3 : (sortS (namesM l c)).length = (namesM l c).length := by simp [sortS]
 omega
theorem fill_fine {F : List Fd} {seen : List Opn} {sc : Int} {it : Str} : (fillM F seen sc it).length ≤ F.length ∧ ∀ e ∈ fillM F seen sc it, e.l.length ≤ seen.length + 1 := by
 refine ⟨by unfold fillM; rw [List.length_map]; exact List.length_filter_le _ _, fun e he => ?_⟩
 obtain ⟨f, _, rfl⟩ := List.mem_map.1 he
 have := valE_len f (thereM seen ⟨it, f.at'⟩)
 have := there_len seen ⟨it, f.at'⟩
 omega
theorem view_fine {m : List Eg} {l : List Opn} {cart : Str} {b : Tg} (hm : OkM m) : Fine (viewM m l cart b).1 := by
 have hd : Fine (default : Dc) := ⟨Nat.zero_le _, Nat.zero_le _, (fun e h => by cases h), (fun e h => by cases h)⟩
 unfold viewM
 split
 ·exact hd
 ·split
  ·exact hd
  ·split
   ·exact hd
   ·rename_i h1 _ h3
    have hF := (okSchO hm (a := b) (show (schM (treeOf m) b).2 = 0 from Classical.not_not.1 h3)).n
    have hs := seenL_len m (mineM (livM m l) cart) b
    have hmi : (mineM (livM m l) cart).length ≤ (livM m l).length := List.length_filter_le _ _
    have hli := livM_len m l
    have hit := items_len (mineM (livM m l) cart) cart
    generalize (schM (treeOf m) b).1 = F at *
    generalize seenL m (mineM (livM m l) cart) b = seen at *
    have f := fun sc it => fill_fine (F := F) (seen := seen) (sc := sc) (it := it)
    refine ⟨by have := (f 0 []).1; rw [maxLen_eq]; simp only; omega, by rw [maxLen_eq]; simp only [List.length_map]; omega, fun e he => ?_, fun r hr => ?_⟩
    ·have := (f 0 []).2 e he
     rw [maxLen_eq]; omega
    ·simp only [List.mem_map] at hr
     obtain ⟨i, _, rfl⟩ := hr
     refine ⟨by have := (f 1 i).1; rw [maxLen_eq]; simp only; omega, fun e he => ?_⟩
     have := (f 1 i).2 e he
     rw [maxLen_eq]; omega
theorem srt_filter {α : Type} {lt : α → α → Bool} (g : Srt.Good lt) {L : List α} (h : Unl lt L) (p : α → Bool) : (srt lt L).filter p = srt lt (L.filter p) := by
 symm
 exact srt_eq g (List.Pairwise.sublist List.filter_sublist (srt_inc g h)) ((srt_perm L).filter p)
theorem alive_nodup {m : List Eg} {l : List Opn} (h : (l.map Opn.id).Nodup) : Unl olessB (aliveL m l) := unl_ids (List.Nodup.sublist ((aliveL_sub m l).map _) h)
theorem mine_eq {m : List Eg} {l : List Opn} (h : (l.map Opn.id).Nodup) (c : Str) : mineM (livM m l) c = srt olessB (l.filter fun o => (o.cart == c) && ((!dropT (readL m l) o.id) && readO m o)) := by
 unfold mineM livM
 rw [srt_filter oless_good (alive_nodup h)]
 unfold aliveL readL
 rw [List.filter_filter, List.filter_filter]
 exact congrArg _ (List.filter_congr fun o _ => Bool.and_assoc _ _ _)
theorem view_congr {m : List Eg} {l l' : List Opn} {cart : Str} {b : Tg} (h1 : l.length ≤ 400) (h2 : l'.length ≤ 400) (h : mineM (livM m l) cart = mineM (livM m l') cart) : viewM m l cart b = viewM m l' cart b := by
 unfold viewM
 rw [if_neg (show ¬ 400 < (l.length : Int) by omega), if_neg (show ¬ 400 < (l'.length : Int) by omega), h]
def ownL (l : List Opn) (c : Str) : List Opn := l.filter fun o => (o.cart == c) || decide (0 < o.drops.length)
theorem own_drop (m : List Eg) (l : List Opn) (c : Str) (t : Tg) : dropT (readL m (ownL l c)) t = dropT (readL m l) t := by
 rw [Bool.eq_iff_iff]
 unfold dropT readL ownL
 rw [List.filter_filter]
 simp only [List.any_eq_true, List.mem_filter, Bool.and_eq_true, Bool.or_eq_true, decide_eq_true_eq]
 constructor
 ·rintro ⟨o, ⟨h1, h2, h3⟩, h4⟩; exact ⟨o, ⟨h1, h2⟩, h4⟩
 ·rintro ⟨o, ⟨h1, h2⟩, h4⟩; exact ⟨o, ⟨h1, h2, .inr (List.length_pos_of_mem h4)⟩, h4⟩
theorem nodup_sub {l l' : List Opn} (h : (l.map Opn.id).Nodup) (s : l'.Sublist l) : (l'.map Opn.id).Nodup := List.Nodup.sublist (s.map _) h
theorem carts_law {m : List Eg} {l : List Opn} (h : (l.map Opn.id).Nodup) (c : Str) : mineM (livM m (ownL l c)) c = mineM (livM m l) c := by
 rw [mine_eq h, mine_eq (l := ownL l c) (nodup_sub h List.filter_sublist)]
 congr 1
 simp only [own_drop]
 unfold ownL
 rw [List.filter_filter]
 refine List.filter_congr fun o _ => ?_
 cases o.cart == c <;> simp
theorem ownL_snoc {l : List Opn} {k : Nat} (c : Str) (h : k < l.length) : ownL (l.take (k + 1)) c = ownL (l.take k) c ++ (if ((l.getD k default).cart == c || decide (0 < (l.getD k default).drops.length)) = true then [l.getD k default] else []) := by
 unfold ownL
 rw [take_snoc (d := default) h, List.filter_append]
 congr 1
 generalize l.getD k default = x
 cases hr : (x.cart == c || decide (0 < x.drops.length))
 ·rw [List.filter_cons_of_neg (by rw [hr]; simp), if_neg (by simp)]; rfl
 ·rw [List.filter_cons_of_pos (by exact hr), if_pos rfl]; rfl
set_option maxRecDepth 20000 in
set_option maxHeartbeats 16000000 in
theorem StateCarts_pure (l : List Eg) (ops : List Opn) (cart : Str) (b : Tg) (hl : l.length ≤ maxLen) (hx : ∀ e ∈ l, LenLn e.ln) (hol : ops.length ≤ maxLen) : PL.Pure Tryz.prog 3 [egs l, opvs ops, .str cart, tg b] (.bool true) := by
 have hH := RHeavyE_pure l 50 hl hx
 have hJ := RHeavyOps_pure ops 40 hol
 have hA := RApart_pure ops hol
 cases hh : heavyE l 50
 ·rw [hh] at hH
  cases hj : heavyOps ops 40
  ·rw [hj] at hJ
   cases ha : apartB ops
   ·rw [ha] at hA
    refine PL.Pure.of_v Tryz.func3 (by decide) rfl Tryz.ntmps3 Tryz.results3 (by simp) rfl ?_
    simp only [go_sem, egs, opvs, tg]
    refine vCall_of (awake27_pure) ?_ ?_ ?_; iterate 2 simp only [go_sem]
    simp only [go_sem]
    refine vCall_of (hH) ?_ ?_ ?_; iterate 2 simp only [go_sem, egs]
    simp only [go_sem]
    refine vCall_of (hJ) ?_ ?_ ?_; iterate 2 simp only [go_sem, opvs]
    simp only [go_sem]
    refine vCall_of (hA) ?_ ?_ ?_; iterate 2 simp only [go_sem, opvs]
    simp only [go_sem]
   ·rw [ha] at hA
    have hU : (ops.map Opn.id).Nodup := of_decide_eq_true ha
    obtain ⟨o1, o2⟩ := okL hh
    obtain ⟨p1, p2⟩ := okOps (most := 40) hj
    have hG := Grown_pure l (by omega) o2
    have hm : OkM (grownM l) := okGrown _ okM_nil o2
    have hr : RightM (grownM l) := rightGrown _ right_nil
    generalize grownM l = m at *
    have hown : (ownL ops cart).length ≤ ops.length := List.length_filter_le _ _
    have hV := View_pure m ops cart b hm hr p2 hU
    have hW := View_pure m (ownL ops cart) cart b hm hr (fun o ho => p2 o (List.mem_filter.1 ho).1) (nodup_sub hU List.filter_sublist)
    rw [view_congr (by omega) (by omega) (carts_law hU cart)] at hW
    have hfi : Fine (viewM m ops cart b).1 := view_fine hm
    have hS := RSameD_pure _ _ hfi hfi
    rw [decide_eq_true rfl] at hS
    generalize viewM m ops cart b = y at *
    obtain ⟨⟨hd, rws⟩, c⟩ := y
    refine PL.Pure.of_v Tryz.func3 (by decide) rfl Tryz.ntmps3 Tryz.results3 (by simp) rfl ?_
    simp only [go_sem, egs, opvs, tg]
    refine vCall_of (awake27_pure) ?_ ?_ ?_; iterate 2 simp only [go_sem]
    simp only [go_sem]
    refine vCall_of (hH) ?_ ?_ ?_; iterate 2 simp only [go_sem, egs]
    simp only [go_sem]
    refine vCall_of (hJ) ?_ ?_ ?_; iterate 2 simp only [go_sem, opvs]
    simp only [go_sem]
    refine vCall_of (hA) ?_ ?_ ?_; iterate 2 simp only [go_sem, opvs]
    simp only [go_sem]
    refine vCall_of (hG) ?_ ?_ ?_; iterate 2 simp only [go_sem, egs]
    simp only [go_sem, grv]
    refine awp_moveRow 12 39 68 0 15 37 [] rfl rfl rfl ?_
    refine vLoopM (ι := { x : Nat // x ≤ (ops).length }) 93 (fun x => [(1, opvs ops), (2, .str cart), (7, .ptr 7 0), (9, tr (treeOf m)), (12, .sl (.row 68) ((ownL (ops.take x.1) cart).map opv)), (13, .int .i64 (x.1 : Int))]) (fun x => [(7, [.int .i64 b.r, .int .i64 b.n], false)]) (fun x => [(68, .live ((ownL (ops.take x.1) cart).length) (15) (37))]) (fun x => (ops).length - x.1) ⟨0, Nat.zero_le _⟩ ⟨rfl, (fcs rfl (fcs rfl (fcs rfl (fcs rfl (fcs rfl (fcs rfl fnl)))))), (fcs ⟨rfl, rfl⟩ fnl), (fcs rfl fnl)⟩ (fun x => ⟨(fcs rfl (fcs rfl (fcs rfl (fcs rfl (fcs (by simp [PV.ids, refInM]) (fcs rfl fnl)))))), (fcs rfl fnl)⟩) (fun x => ?_); obtain ⟨k, hk⟩ := x; simp only at hk ⊢
    by_cases h : (k : Int) < (ops.length : Int)
    ·(have hka : k < (ops).length := by omega); (have w1 := w64s hka (hol)); (have i1 : (0 : Int) ≤ (k : Int) := by omega)
     have hsn := ownL_snoc cart hka
     have hnl : (ownL (ops.take k) cart).length ≤ k := Nat.le_trans (List.length_filter_le _ _) (List.length_take_le _ _)
     have hrm := room1 (show (ownL (ops.take k) cart).length + 1 ≤ 1000000 by omega) (show 176 ≤ 1000 by omega)
     have hml : ((ownL (ops.take k) cart).map opv).length = (ownL (ops.take k) cart).length := List.length_map _
     have hsz := sized_op (ownL (ops.take k) cart)
     generalize hxx : ops.getD k default = x at *
     have hsx : Sized 15 [opv x] := sized_op [x]
     have hax : Atoms [opv x] := atoms_op [x]
     have hdl : (x.drops.map tg).length = x.drops.length := List.length_map _
     simp only [opv] at hsx hax
     cases k1 : (x.cart == cart)
     ·by_cases k2 : (0 : Int) < (x.drops.length : Int)
      ·rw [k1, decide_eq_true (by omega), Bool.or_true, if_pos rfl] at hsn
       simp only [go_sem, opvs, h, List.length_map, getD_op hka, hxx, opv, i1, k1, k2, hml, hsz, hsx, hax, hrm, w1]
       exact ⟨⟨k + 1, by omega⟩, by show ops.length - (k + 1) < ops.length - k; omega, ⟨rfl, by simp only; rw [hsn, List.map_append]; exact (fcs rfl (fcs rfl (fcs rfl (fcs rfl (fcs rfl (fcs rfl fnl)))))), fcs ⟨rfl, rfl⟩ fnl, by simp only; rw [hsn, List.length_append]; exact fcs rfl fnl⟩⟩
      ·rw [k1, decide_eq_false (by omega), Bool.or_false, if_neg (by simp), List.append_nil] at hsn
       simp only [go_sem, opvs, h, List.length_map, getD_op hka, hxx, opv, i1, k1, k2, w1]
       exact ⟨⟨k + 1, by omega⟩, by show ops.length - (k + 1) < ops.length - k; omega, ⟨rfl, by simp only; rw [hsn]; exact (fcs rfl (fcs rfl (fcs rfl (fcs rfl (fcs rfl (fcs rfl fnl)))))), fcs ⟨rfl, rfl⟩ fnl, by simp only; rw [hsn]; exact fcs rfl fnl⟩⟩
     ·rw [k1, Bool.true_or, if_pos rfl] at hsn
      simp only [go_sem, opvs, h, List.length_map, getD_op hka, hxx, opv, i1, k1, hml, hsz, hsx, hax, hrm, w1]
      exact ⟨⟨k + 1, by omega⟩, by show ops.length - (k + 1) < ops.length - k; omega, ⟨rfl, by simp only; rw [hsn, List.map_append]; exact (fcs rfl (fcs rfl (fcs rfl (fcs rfl (fcs rfl (fcs rfl fnl)))))), fcs ⟨rfl, rfl⟩ fnl, by simp only; rw [hsn, List.length_append]; exact fcs rfl fnl⟩⟩
    ·have htk : ops.take k = ops := List.take_of_length_le (by omega)
     have hcc : (c == c) = true := by simp
     simp only [go_sem, opvs, h, htk, List.length_map]
     refine vCall_of (hV) ?_ ?_ ?_; iterate 2 simp only [go_sem, tr, opvs, tg]
     simp only [go_sem, docV, doc]
     refine vCall_of (hW) ?_ ?_ ?_; iterate 2 simp only [go_sem, tr, opvs, tg]
     simp only [go_sem, docV, doc, hcc]
     refine vCall_of (hS) ?_ ?_ ?_; iterate 2 simp only [go_sem, doc]
     simp only [go_sem]
  ·rw [hj] at hJ
   refine PL.Pure.of_v Tryz.func3 (by decide) rfl Tryz.ntmps3 Tryz.results3 (by simp) rfl ?_
   simp only [go_sem, egs, opvs, tg]
   refine vCall_of (awake27_pure) ?_ ?_ ?_; iterate 2 simp only [go_sem]
   simp only [go_sem]
   refine vCall_of (hH) ?_ ?_ ?_; iterate 2 simp only [go_sem, egs]
   simp only [go_sem]
   refine vCall_of (hJ) ?_ ?_ ?_; iterate 2 simp only [go_sem, opvs]
   simp only [go_sem]
 ·rw [hh] at hH
  refine PL.Pure.of_v Tryz.func3 (by decide) rfl Tryz.ntmps3 Tryz.results3 (by simp) rfl ?_
  simp only [go_sem, egs, opvs, tg]
  refine vCall_of (awake27_pure) ?_ ?_ ?_; iterate 2 simp only [go_sem]
  simp only [go_sem]
  refine vCall_of (hH) ?_ ?_ ?_; iterate 2 simp only [go_sem, egs]
  simp only [go_sem]
end Go.Proofs.YthingdchjkhfbaaGreat
set_option linter.unusedSimpArgs false
set_option linter.unusedVariables false
set_option linter.unusedSimpArgs false
set_option linter.unusedVariables false
namespace Go.Proofs.YthingdchjkhfbaaGreat
open Go.PL
open Go.ChangeShapes Go.WideShapes Go.ChangeAt Go.RowKit
theorem Tryz.own : ownKnob Tryz.prog.godebug = Option.none := by kernel_rfl
theorem Tryz.laidOut : laidOutB Tryz.prog = true := by kernel_rfl
theorem Tryz.lays : layAll Tryz.prog = true := by kernel_rfl
theorem oddStrs : oddB Tryz.prog 61 = false := by kernel_rfl
theorem oddPrs : oddB Tryz.prog 73 = false := by kernel_rfl
theorem oddEgs : oddB Tryz.prog 22 = false := by kernel_rfl
structure LenLn' (x : Ln) : Prop where
 c : x.fd.cases'.length ≤ maxLen
 f : x.fo.length ≤ maxLen
 b : x.ba.length ≤ maxLen
theorem pt_strs {cs : List PV} (h : PT Tryz.prog 61 cs) : ∃ l : List Str, cs = [.sl .no (l.map .str)] ∧ l.length ≤ maxLen := by
 obtain ⟨l, rfl, h1, h2⟩ := h.slice_inv oddStrs Tryz.underlying61
 obtain ⟨xs, rfl, _⟩ := all_told (enc := PV.str) (Q := fun _ => True) (fun p hp => by
  obtain ⟨s, rfl, _⟩ := (h2 p hp).string Tryz.underlying9
  exact ⟨s, rfl, trivial⟩)
 exact ⟨xs, rfl, by simpa using h1⟩
theorem pt_tag {cs : List PV} (h : PT Tryz.prog 25 cs) : ∃ r : Tg, cs = [.int .i64 r.r, .int .i64 r.n] := by
 have h1 : PTs Tryz.prog [3, 3] cs := h.struct_inv Tryz.underlying25
 obtain ⟨a, b, rfl, h2, h3⟩ := h1.cons_inv
 obtain ⟨c, d, rfl, h4, h5⟩ := h3.cons_inv
 obtain ⟨x, rfl, _⟩ := h2.int_inv Tryz.underlying3
 obtain ⟨y, rfl, _⟩ := h4.int_inv Tryz.underlying3
 rw [h5.nil_inv]
 exact ⟨⟨x, y⟩, rfl⟩
theorem pt_ref {cs : List PV} (h : PT Tryz.prog 34 cs) : ∃ r : Rf, cs = [.int .i64 r.sc, .str r.gr, .str r.nm] := by
 have h1 : PTs Tryz.prog [3, 9, 9] cs := h.struct_inv Tryz.underlying34
 obtain ⟨a, b, rfl, h2, h3⟩ := h1.cons_inv
 obtain ⟨c, d, rfl, h4, h5⟩ := h3.cons_inv
 obtain ⟨e, f, rfl, h6, h7⟩ := h5.cons_inv
 obtain ⟨x, rfl, _⟩ := h2.int_inv Tryz.underlying3
 obtain ⟨y, rfl, _⟩ := h4.string_inv Tryz.underlying9
 obtain ⟨z, rfl, _⟩ := h6.string_inv Tryz.underlying9
 rw [h7.nil_inv]
 exact ⟨⟨x, y, z⟩, rfl⟩
theorem pt_fld {cs : List PV} (h : PT Tryz.prog 63 cs) : ∃ f : Fd, cs = [.int .i64 f.at'.sc, .str f.at'.gr, .str f.at'.nm, .int .i64 f.kind, .str f.df, .sl .no (f.cases'.map .str), .int .i64 f.worth] ∧ f.cases'.length ≤ maxLen := by
 have h1 : PTs Tryz.prog [34, 3, 9, 61, 2] cs := h.struct_inv Tryz.underlying63
 obtain ⟨a1, b1, rfl, h2, h3⟩ := h1.cons_inv
 obtain ⟨a2, b2, rfl, h4, h5⟩ := h3.cons_inv
 obtain ⟨a3, b3, rfl, h6, h7⟩ := h5.cons_inv
 obtain ⟨a4, b4, rfl, h8, h9⟩ := h7.cons_inv
 obtain ⟨a5, b5, rfl, h10, h11⟩ := h9.cons_inv
 obtain ⟨r, rfl⟩ := pt_ref h2
 obtain ⟨x, rfl, _⟩ := h4.int_inv Tryz.underlying3
 obtain ⟨y, rfl, _⟩ := h6.string_inv Tryz.underlying9
 obtain ⟨l, rfl, hl⟩ := pt_strs h8
 obtain ⟨z, rfl, _⟩ := h10.int_inv Tryz.underlying2
 rw [h11.nil_inv]
 exact ⟨⟨r, x, y, l, z⟩, rfl, hl⟩
theorem pa_pair {p : PV} (h : PA Tryz.prog 170 p) : ∃ e : Pr, p = pr e := by
 obtain ⟨cs, rfl, h1⟩ := PA.agg tagg_170 h
 have h1 : PTs Tryz.prog [9, 9] cs := h1.struct_inv Tryz.underlying170
 obtain ⟨a, b, rfl, h2, h3⟩ := h1.cons_inv
 obtain ⟨c, d, rfl, h4, h5⟩ := h3.cons_inv
 obtain ⟨x, rfl, _⟩ := h2.string_inv Tryz.underlying9
 obtain ⟨y, rfl, _⟩ := h4.string_inv Tryz.underlying9
 rw [h5.nil_inv]
 exact ⟨⟨x, y⟩, rfl⟩
theorem pt_prs {cs : List PV} (h : PT Tryz.prog 73 cs) : ∃ l : List Pr, cs = [.sl .no (l.map pr)] ∧ l.length ≤ maxLen := by
 obtain ⟨l, rfl, h1, h2⟩ := h.slice_inv oddPrs Tryz.underlying73
 obtain ⟨xs, rfl, _⟩ := all_told (enc := pr) (Q := fun _ => True) (fun p hp => by
  obtain ⟨s, rfl⟩ := pa_pair (h2 p hp)
  exact ⟨s, rfl, trivial⟩)
 exact ⟨xs, rfl, by simpa using h1⟩
def lncellsG (x : Ln) : List PV := [.int .i64 x.kind, .int .i64 x.at'.sc, .str x.at'.gr, .str x.at'.nm, .str x.nm, .str x.ot, .int .i64 x.fac, .int .i64 x.fd.at'.sc, .str x.fd.at'.gr, .str x.fd.at'.nm, .int .i64 x.fd.kind, .str x.fd.df, .sl .no (x.fd.cases'.map .str), .int .i64 x.fd.worth, .sl .no (x.fo.map pr), .sl .no (x.ba.map pr)]
theorem pt_lens {cs : List PV} (h : PT Tryz.prog 75 cs) : ∃ x : Ln, cs = lncellsG x ∧ LenLn' x := by
 have h1 : PTs Tryz.prog [3, 34, 9, 9, 2, 63, 73, 73] cs := h.struct_inv Tryz.underlying75
 obtain ⟨a1, b1, rfl, h2, h3⟩ := h1.cons_inv
 obtain ⟨a2, b2, rfl, h4, h5⟩ := h3.cons_inv
 obtain ⟨a3, b3, rfl, h6, h7⟩ := h5.cons_inv
 obtain ⟨a4, b4, rfl, h8, h9⟩ := h7.cons_inv
 obtain ⟨a5, b5, rfl, h10, h11⟩ := h9.cons_inv
 obtain ⟨a6, b6, rfl, h12, h13⟩ := h11.cons_inv
 obtain ⟨a7, b7, rfl, h14, h15⟩ := h13.cons_inv
 obtain ⟨a8, b8, rfl, h16, h17⟩ := h15.cons_inv
 obtain ⟨x1, rfl, _⟩ := h2.int_inv Tryz.underlying3
 obtain ⟨x2, rfl⟩ := pt_ref h4
 obtain ⟨x3, rfl, _⟩ := h6.string_inv Tryz.underlying9
 obtain ⟨x4, rfl, _⟩ := h8.string_inv Tryz.underlying9
 obtain ⟨x5, rfl, _⟩ := h10.int_inv Tryz.underlying2
 obtain ⟨x6, rfl, k6⟩ := pt_fld h12
 obtain ⟨x7, rfl, k7⟩ := pt_prs h14
 obtain ⟨x8, rfl, k8⟩ := pt_prs h16
 rw [h17.nil_inv]
 exact ⟨⟨x1, x2, x3, x4, x5, x6, x7, x8⟩, rfl, ⟨k6, k7, k8⟩⟩
theorem pa_edge {p : PV} (h : PA Tryz.prog 77 p) : ∃ e : Eg, p = eg e ∧ LenLn' e.ln := by
 obtain ⟨cs, rfl, h1⟩ := PA.agg tagg_77 h
 have h1 : PTs Tryz.prog [25, 25, 75] cs := h1.struct_inv Tryz.underlying77
 obtain ⟨a1, b1, rfl, h2, h3⟩ := h1.cons_inv
 obtain ⟨a2, b2, rfl, h4, h5⟩ := h3.cons_inv
 obtain ⟨a3, b3, rfl, h6, h7⟩ := h5.cons_inv
 obtain ⟨x1, rfl⟩ := pt_tag h2
 obtain ⟨x2, rfl⟩ := pt_tag h4
 obtain ⟨x3, rfl, k3⟩ := pt_lens h6
 rw [h7.nil_inv]
 exact ⟨⟨x1, x2, x3⟩, rfl, k3⟩
theorem pa_edges {p : PV} (h : PA Tryz.prog 22 p) : ∃ l : List Eg, p = egs l ∧ l.length ≤ maxLen ∧ ∀ e ∈ l, LenLn' e.ln := by
 obtain ⟨l, rfl, h1, h2⟩ := h.slice oddEgs Tryz.underlying22
 obtain ⟨xs, rfl, h3⟩ := all_told (fun p hp => pa_edge (h2 p hp))
 exact ⟨xs, rfl, by simpa using h1, h3⟩
theorem pa_tag {p : PV} (h : PA Tryz.prog 25 p) : ∃ t : Tg, p = tg t := by
 obtain ⟨cs, rfl, h1⟩ := PA.agg tagg_25 h
 obtain ⟨r, rfl⟩ := pt_tag h1
 exact ⟨r, rfl⟩
end Go.Proofs.YthingdchjkhfbaaGreat
set_option linter.unusedSimpArgs false
set_option linter.unusedVariables false
set_option linter.unusedSimpArgs false
set_option linter.unusedVariables false
namespace Go.Proofs.YthingdchjkhfbaaGreat
open Go.PL
open Go.ChangeShapes Go.WideShapes Go.ChangeAt Go.RowKit
theorem oddTgs : oddB Tryz.prog 35 = false := by kernel_rfl
theorem pt_tgs {cs : List PV} (h : PT Tryz.prog 35 cs) : ∃ l : List Tg, cs = [.sl .no (l.map tg)] ∧ l.length ≤ maxLen := by
 obtain ⟨l, rfl, h1, h2⟩ := h.slice_inv oddTgs Tryz.underlying35
 obtain ⟨xs, rfl, _⟩ := all_told (enc := tg) (Q := fun _ => True) (fun p hp => by
  obtain ⟨s, rfl⟩ := pa_tag (h2 p hp)
  exact ⟨s, rfl, trivial⟩)
 exact ⟨xs, rfl, by simpa using h1⟩
theorem pa_op {p : PV} (h : PA Tryz.prog 37 p) : ∃ o : Opn, p = opv o ∧ o.drops.length ≤ maxLen := by
 obtain ⟨cs, rfl, h1⟩ := PA.agg tagg_37 h
 have h1 : PTs Tryz.prog [25, 25, 2, 9, 3, 9, 34, 2, 4, 9, 35] cs := h1.struct_inv Tryz.underlying37
 obtain ⟨a1, b1, rfl, h2, h3⟩ := h1.cons_inv
 obtain ⟨a2, b2, rfl, h4, h5⟩ := h3.cons_inv
 obtain ⟨a3, b3, rfl, h6, h7⟩ := h5.cons_inv
 obtain ⟨a4, b4, rfl, h8, h9⟩ := h7.cons_inv
 obtain ⟨a5, b5, rfl, h10, h11⟩ := h9.cons_inv
 obtain ⟨a6, b6, rfl, h12, h13⟩ := h11.cons_inv
 obtain ⟨a7, b7, rfl, h14, h15⟩ := h13.cons_inv
 obtain ⟨a8, b8, rfl, h16, h17⟩ := h15.cons_inv
 obtain ⟨a9, b9, rfl, h18, h19⟩ := h17.cons_inv
 obtain ⟨aa, ba, rfl, h20, h21⟩ := h19.cons_inv
 obtain ⟨ab, bb, rfl, h22, h23⟩ := h21.cons_inv
 obtain ⟨x1, rfl⟩ := pt_tag h2
 obtain ⟨x2, rfl⟩ := pt_tag h4
 obtain ⟨x3, rfl, _⟩ := h6.int_inv Tryz.underlying2
 obtain ⟨x4, rfl, _⟩ := h8.string_inv Tryz.underlying9
 obtain ⟨x5, rfl, _⟩ := h10.int_inv Tryz.underlying3
 obtain ⟨x6, rfl, _⟩ := h12.string_inv Tryz.underlying9
 obtain ⟨x7, rfl⟩ := pt_ref h14
 obtain ⟨x8, rfl, _⟩ := h16.int_inv Tryz.underlying2
 obtain ⟨x9, rfl⟩ := h18.bool_inv Tryz.underlying4
 obtain ⟨xa, rfl, _⟩ := h20.string_inv Tryz.underlying9
 obtain ⟨xb, rfl, kb⟩ := pt_tgs h22
 rw [h23.nil_inv]
 exact ⟨⟨x1, x2, x3, x4, x5, x6, x7, x8, x9, xa, xb⟩, rfl, kb⟩
end Go.Proofs.YthingdchjkhfbaaGreat
set_option linter.unusedSimpArgs false
set_option linter.unusedVariables false
set_option linter.unusedSimpArgs false
set_option linter.unusedVariables false
namespace Go.Proofs.YthingdchjkhfbaaGreat
open Go.PL
open Go.ChangeShapes Go.WideShapes Go.ChangeAt Go.RowKit
theorem oddOps : oddB Tryz.prog 23 = false := by kernel_rfl
theorem pa_ops {p : PV} (h : PA Tryz.prog 23 p) : ∃ l : List Opn, p = opvs l ∧ l.length ≤ maxLen := by
 obtain ⟨l, rfl, h1, h2⟩ := h.slice oddOps Tryz.underlying23
 obtain ⟨xs, rfl, h3⟩ := all_told (enc := opv) (Q := fun _ => True) (fun p hp => by
  obtain ⟨s, rfl, _⟩ := pa_op (h2 p hp)
  exact ⟨s, rfl, trivial⟩)
 exact ⟨xs, rfl, by simpa using h1⟩
theorem lenLn {x : Ln} (h : LenLn' x) : LenLn x := ⟨h.c, h.f, h.b⟩
end Go.Proofs.YthingdchjkhfbaaGreat
