/- Contracts of functions and laws of this seat, each for every input that it names: lemmas of the proof. -/
import Derived.Test.YthingdchjkhfbaaGreatVXBk
import Derived.Test.YthingdchjkhfbaaGreatVXAw
set_option linter.unusedSimpArgs false
set_option linter.unusedVariables false
set_option linter.unusedSimpArgs false
set_option linter.unusedVariables false
namespace Go.Proofs.YthingdchjkhfbaaGreat
open Go.PL
def grownM (l : List Eg) : List Eg := l.foldl (fun m e => (putM m e).1) []
theorem okGrown : ∀ (l : List Eg) {m : List Eg}, OkM m → (∀ e ∈ l, OkLn e.ln) → OkM (l.foldl (fun m e => (putM m e).1) m)
 | [], m, h, _ => h
 | e :: l, m, h, hl => okGrown l (okPut h (hl e (by simp))) (fun x hx => hl x (by simp [hx]))
theorem foldl_take {l : List Eg} {k : Nat} (hk : k < l.length) : (l.take (k + 1)).foldl (fun m e => (putM m e).1) [] = (putM ((l.take k).foldl (fun m e => (putM m e).1) []) (l.getD k default)).1 := by
 have : l.take (k + 1) = l.take k ++ [l.getD k default] := by
  rw [getD_lt hk, List.take_add_one]; simp [hk]
 rw [this, List.foldl_append]; rfl
def grv (m : List Eg) : PV := .tup [tr (treeOf m), egs m, .bool true]
theorem didsL_kts (l : List Nd) : PV.didsL (kts l) = [] := by
 unfold kts
 induction l with
 | nil => rfl
 | cons e l ih => simp only [List.map_cons, PV.didsL, ih, tg_dids, List.append_nil]
theorem didsL_nds (l : List Nd) : PV.didsL (nds l) = [] := by
 unfold nds
 induction l with
 | nil => rfl
 | cons e l ih => simp only [List.map_cons, PV.didsL, ih, nd_dids, List.append_nil]
theorem tr_dids (l : List Nd) : (tr l).dids = [] := by simp only [tr, PV.dids, PV.didsL, didsL_kts, didsL_nds, List.append_nil]
theorem grv_dids (m : List Eg) : (grv m).dids = [] := by simp only [grv, PV.dids, PV.didsL, tr_dids, egs_dids, List.append_nil]
set_option maxRecDepth 20000 in
set_option maxHeartbeats 16000000 in
theorem Grown_pure (l : List Eg) (hl : l.length ≤ 1000) (hx : ∀ e ∈ l, OkLn e.ln) : PL.Pure Tryz.prog 12 [egs l] (grv (grownM l)) := by
 have hml : l.length ≤ maxLen := by rw [maxLen_eq]; omega
 refine PL.Pure.of_vs Tryz.func12 (by decide) rfl Tryz.ntmps12 Tryz.results12 (by simp) (grv_dids _) ?_
 simp only [go_sem, egs]
 refine vCall_mk mk_new ?_ ?_ (fun b hb => ?_)
 ·simp only [go_sem]
 ·simp only [go_sem]
 simp only [go_sem]
 refine awp_plain 6 11 [] rfl ?_
 refine vLoopO (ι := { k : Nat // k ≤ l.length }) 40 (fun x => [(0, egs l), (5, .rptr [.mref b]), (6, egs (grownM (l.take x.1))), (7, .int .i64 (x.1 : Int))]) (fun x => []) (fun x => []) (fun x => [(b, mc (treeOf (grownM (l.take x.1))))]) (fun x => []) (fun x => l.length - x.1) ⟨0, Nat.zero_le _⟩
  ⟨⟨rfl, (fcs rfl (fcs rfl (fcs rfl (fcs rfl fnl)))), fnl, fnl⟩, fcs (by simp [upd]; rfl) fnl, fnl⟩ (fun x => ⟨(fcs rfl (fcs rfl (fcs rfl (fcs rfl fnl)))), fnl⟩) (fun x => ?_)
 obtain ⟨k, hk⟩ := x
 simp only
 by_cases h : (k : Int) < (l.length : Int)
 ·have hka : k < l.length := by omega
  have w1 := w64s hka hml
  have i1 : (0 : Int) ≤ (k : Int) := by omega
  have hft := foldl_take hka
  have hom : OkM (grownM (l.take k)) := okGrown _ okM_nil (fun e he => hx e (List.mem_of_mem_take he))
  have hR := RPut_pure (grownM (l.take k)) (l.getD k default) hom (hx _ (getD_mem hka))
  have hW := put_wr (grownM (l.take k)) (l.getD k default) hom (hx _ (getD_mem hka))
  have hne : ((putM (grownM (l.take k)) (l.getD k default)).2 != (putM (grownM (l.take k)) (l.getD k default)).2) = false := by simp
  simp only [go_sem, List.map_cons, List.map_nil, egs, h, getD_eg hka, eg, i1]
  refine vCall_of (hR) ?_ ?_ ?_; iterate 2 simp only [go_sem, egs, eg]
  simp only [go_sem, egsc, egs, h, getD_eg hka, eg, i1]
  refine vCall_wr b hW ?_ ?_ ?_ ?_
  ·simp only [go_sem]
  ·simp only [go_sem, eg]
  ·simp [upd]
  ·simp only [go_sem, hne, w1]
   refine ⟨⟨k + 1, by omega⟩, by show l.length - (k + 1) < l.length - k; omega, ⟨⟨rfl, fcs rfl (fcs rfl (fcs ?_ (fcs ?_ fnl))), fnl, fnl⟩, fcs ?_ fnl, fnl⟩⟩
   ·show _ = egs (grownM (l.take (k + 1)))
    unfold grownM
    rw [hft]
    rfl
   ·rfl
   ·show _ = some (mc (treeOf (grownM (l.take (k + 1)))))
    unfold grownM
    rw [hft]
    simp [upd]
 ·obtain rfl : k = l.length := by omega
  have htl : l.take l.length = l := List.take_length
  simp only [go_sem, List.map_cons, List.map_nil, egs, h, htl, mc]
  exact ⟨_, rfl, by simp [PV.shut, PV.sealL, upd, grv, tr, egs]⟩
def edc (x : Eg × Int) : PV := .tup [eg x.1, .int .i64 x.2]
theorem edc_dids (x : Eg × Int) : (edc x).dids = [] := by simp only [edc, PV.dids, PV.didsL, eg_dids, List.append_nil]
theorem eg_default : eg default = .agg [.int .i64 0, .int .i64 0, .int .i64 0, .int .i64 0, .int .i64 0, .int .i64 0, .str [], .str [], .str [], .str [], .int .i64 0, .int .i64 0, .str [], .str [], .int .i64 0, .str [], .sl .no [], .int .i64 0, .sl .no [], .sl .no []] := rfl
def findTM (m : List Eg) (id : Tg) : Eg × Int := match findE m id with | some e => (e, 0) | none => (default, 6)
set_option maxRecDepth 20000 in
set_option maxHeartbeats 8000000 in
theorem TFind_pure (m : List Eg) (id : Tg) (hm : OkM m) : PL.Pure Tryz.prog 120 [tr (treeOf m), tg id] (edc (findTM m id)) := by
 have hidx := idx_tree m id
 unfold findTM
 cases hf : m.findIdx? (fun x => decide (id = x.id)) with
 | some i =>
  rw [hf] at hidx
  obtain ⟨h1, h2⟩ := findIdx_some hidx
  rw [find_tree] at h2
  cases hfe : findE m id with
  | none => rw [hfe] at h2; cases h2
  | some x =>
   rw [hfe] at h2
   simp only [Option.map_some, Option.some.injEq] at h2
   have hO := town_pure x (hm.l x (findE_id hfe).2)
   have hval : (nds (treeOf m)).getD i .any = nd (nodeOf m x) := by rw [getD_nd h1, h2]
   have hne := nodeOf_e m x
   refine PL.Pure.of_v Tryz.func120 (by decide) rfl Tryz.ntmps120 Tryz.results120 (by simp) (edc_dids _) ?_
   simp only [go_sem, tr, tg]
   refine vDrawQ (by kernel_rfl) (by kernel_rfl) ?_
   simp only [go_sem, findP_tags0, hidx, hval, nd, hne]
   refine vCall_of (hO) ?_ ?_ ?_; iterate 2 simp only [go_sem, eg]
   simp only [go_sem, eg, edc]
 | none =>
  rw [hf] at hidx
  have h2 := findIdx_find.1 hidx
  rw [find_tree] at h2
  have hfe : findE m id = none := by
   cases hx : findE m id with
   | none => rfl
   | some x => rw [hx] at h2; cases h2
  rw [hfe]
  refine PL.Pure.of_v Tryz.func120 (by decide) rfl Tryz.ntmps120 Tryz.results120 (by simp) (edc_dids _) ?_
  simp only [go_sem, tr, tg]
  refine vDrawQ (by kernel_rfl) (by kernel_rfl) ?_
  simp only [go_sem, findP_tags0, hidx, edc, eg_default]
def schM (l : List Nd) (id : Tg) : List Fd × Int := if (atN l id).st = 2 then ((atN l id).sch, 0) else if (atN l id).st = 3 then ([], 16) else ([], 13)
set_option maxRecDepth 20000 in
set_option maxHeartbeats 8000000 in
theorem Schema_pure (m : List Eg) (id : Tg) (hm : OkM m) : PL.Pure Tryz.prog 23 [tr (treeOf m), tg id] (fldsc (schM (treeOf m) id)) := by
 have hA := at_pure (treeOf m) id
 obtain ⟨o1, o2, o3⟩ := okAtN hm.l (tree_semi m) id
 have hO := SOwn_pure (atN (treeOf m) id).sch (by have := o1.n; omega) o1.c
 unfold schM
 by_cases h2 : (atN (treeOf m) id).st = 2
 ·have e2 : ((atN (treeOf m) id).st == 2) = true := by rw [h2]; rfl
  simp only [h2, if_true]
  refine PL.Pure.of_v Tryz.func23 (by decide) rfl Tryz.ntmps23 Tryz.results23 (by simp) (fldsc_dids _) ?_
  simp only [go_sem, tr, tg]
  refine vCall_of (hA) ?_ ?_ ?_; iterate 2 simp only [go_sem, tr, tg]
  simp only [go_sem, nd, e2]
  refine vCall_of (hO) ?_ ?_ ?_; iterate 2 simp only [go_sem, flds]
  simp only [go_sem, flds, fldsc]
 ·by_cases h3 : (atN (treeOf m) id).st = 3
  ·have e2 : ((atN (treeOf m) id).st == 2) = false := by simpa using h2
   have e3 : ((atN (treeOf m) id).st == 3) = true := by rw [h3]; rfl
   simp only [h2, h3, if_true, if_false]
   refine PL.Pure.of_v Tryz.func23 (by decide) rfl Tryz.ntmps23 Tryz.results23 (by simp) (fldsc_dids _) ?_
   simp only [go_sem, tr, tg]
   refine vCall_of (hA) ?_ ?_ ?_; iterate 2 simp only [go_sem, tr, tg]
   simp only [go_sem, nd, e2, e3, fldsc, flds, List.map_nil]
  ·have e2 : ((atN (treeOf m) id).st == 2) = false := by simpa using h2
   have e3 : ((atN (treeOf m) id).st == 3) = false := by simpa using h3
   simp only [h2, h3, if_false]
   refine PL.Pure.of_v Tryz.func23 (by decide) rfl Tryz.ntmps23 Tryz.results23 (by simp) (fldsc_dids _) ?_
   simp only [go_sem, tr, tg]
   refine vCall_of (hA) ?_ ?_ ?_; iterate 2 simp only [go_sem, tr, tg]
   simp only [go_sem, nd, e2, e3, fldsc, flds, List.map_nil]
def depM (l : List Nd) (id : Tg) : Int := if (atN l id).st = 2 then (atN l id).dep else -1
end Go.Proofs.YthingdchjkhfbaaGreat
set_option linter.unusedSimpArgs false
set_option linter.unusedVariables false
set_option linter.unusedSimpArgs false
set_option linter.unusedVariables false
namespace Go.Proofs.YthingdchjkhfbaaGreat
open Go.PL
def upL (w : List Eg) : List Tg := (w.reverse.map (·.id)) ++ [default]
def upC (m : List Eg) (id : Tg) : Int := (schM (treeOf m) id).2
def wayD (m : List Eg) (id : Tg) : List Eg := (wayM m id).getD []
theorem atN_tree (m : List Eg) (id : Tg) (h : id ≠ default) : atN (treeOf m) id = ((findE m id).map (nodeOf m)).getD default := by
 simp only [atN, h, if_false, find_tree]
theorem live_way {m : List Eg} {id : Tg} (h : upC m id = 0) : Way m id (wayD m id) ∧ foldA (wayD m id) rootL = some (schM (treeOf m) id).1 ∧ depM (treeOf m) id = ((wayD m id).length : Int) := by
 have hst : (atN (treeOf m) id).st = 2 := by
  unfold upC schM at h
  split at h
  ·assumption
  ·split at h <;> cases h
 have hs : (schM (treeOf m) id).1 = (atN (treeOf m) id).sch := by simp only [schM, hst, if_true]
 have hdp : depM (treeOf m) id = (atN (treeOf m) id).dep := by simp only [depM, hst, if_true]
 rw [hs, hdp]
 by_cases hd : id = default
 ·subst hd
  have hw : wayD m default = [] := by
   have := wayM_iff.2 (Way.root (m := m))
   simp [wayD, this]
  rw [hw]
  exact ⟨.root, by simp [foldA, atN, rootN], by simp [atN, rootN]⟩
 ·rw [atN_tree m id hd] at hst ⊢
  cases hf : findE m id with
  | none => rw [hf] at hst; cases hst
  | some e =>
   rw [hf] at hst
   simp only [Option.map_some, Option.getD_some] at hst ⊢
   have hid := (findE_id hf).1
   unfold nodeOf nodeW at hst ⊢
   rw [← hid] at hst ⊢
   cases hw : wayM m id with
   | none => rw [hw] at hst; cases hst
   | some w =>
    have hwd : wayD m id = w := by simp [wayD, hw]
    rw [hw] at hst
    rw [hwd]
    simp only at hst ⊢
    cases hfa : foldA w rootL with
    | none => rw [hfa] at hst; cases hst
    | some fs => exact ⟨wayM_iff.1 hw, rfl, rfl⟩
theorem upL_snoc (w : List Eg) (e : Eg) : upL (w ++ [e]) = e.id :: upL w := by simp [upL]
theorem upL_len (w : List Eg) : (upL w).length = w.length + 1 := by simp [upL]
theorem upL_get (w : List Eg) (t : Nat) (ht : t < w.length) : (upL w).getD (w.length - t - 1) default = (w.getD t default).id := by
 unfold upL
 rw [getD_append_left (by simp; omega)]
 rw [getD_lt (by simp; omega), getD_lt ht]
 simp only [List.getElem_map, List.getElem_reverse]
 congr 2
 omega
theorem upL_head {m : List Eg} {id : Tg} {w : List Eg} (h : Way m id w) : upL w = id :: (upL w).tail := by
 cases h with
 | root => rfl
 | step hn he hw => rw [upL_snoc, (findE_id he).1]; rfl
def tgsc (x : List Tg × Int) : PV := .tup [tgs x.1, .int .i64 x.2]
theorem tgs_dids (l : List Tg) : (tgs l).dids = [] := by simp only [tgs, PV.dids, didsL_tg]
theorem tgsc_dids (x : List Tg × Int) : (tgsc x).dids = [] := by simp only [tgsc, PV.dids, PV.didsL, tgs_dids, List.append_nil]
def upM (m : List Eg) (id : Tg) : List Tg × Int := if upC m id ≠ 0 then ([], upC m id) else (upL (wayD m id), 0)
structure UpS (m : List Eg) (w : List Eg) where
 id : Tg
 r : List Eg
 acc : List Tg
 hw : Way m id r
 hx : acc ++ (upL r).tail = upL w
theorem tgd (t : Tg) : (t.r == 0 && t.n == 0) = decide (t = default) := tg_fold t default
set_option maxRecDepth 20000 in
set_option maxHeartbeats 16000000 in
theorem Up_pure (m : List Eg) (id : Tg) (hm : OkM m) : PL.Pure Tryz.prog 164 [tr (treeOf m), tg id] (tgsc (upM m id)) := by
 have hS := Schema_pure m id hm
 unfold upM
 by_cases hc : upC m id = 0
 ·obtain ⟨hw, _, _⟩ := live_way hc
  simp only [hc, ne_eq, not_true_eq_false, if_false]
  have hc' : (schM (treeOf m) id).2 = 0 := hc
  generalize wayD m id = w at *
  have hwl : w.length ≤ 40 := by have := hw.len; have := hm.n; omega
  refine PL.Pure.of_v Tryz.func164 (by decide) rfl Tryz.ntmps164 Tryz.results164 (by simp) (tgsc_dids _) ?_
  simp only [go_sem, tr, tg]
  refine vCall_of (hS) ?_ ?_ ?_; iterate 2 simp only [go_sem, tr, tg]
  simp only [go_sem, fldsc, hc']
  refine awp_moveRow 8 21 39 1 2 25 [tg id] rfl rfl rfl ?_
  refine vLoopM (ι := UpS m w) 41 (fun x => [(0, tr (treeOf m)), (3, .ptr 3 0), (8, .sl (.row 39) (x.acc.map tg))]) (fun x => [(3, [.int .i64 x.id.r, .int .i64 x.id.n], false)]) (fun x => [(39, .live x.acc.length 2 25)]) (fun x => x.r.length) ⟨id, w, [id], hw, by rw [upL_head hw]; rfl⟩
   ⟨rfl, (fcs rfl (fcs rfl (fcs rfl fnl))), fcs ⟨rfl, rfl⟩ fnl, fcs rfl fnl⟩ (fun x => ⟨fcs rfl (fcs rfl (fcs (by simp [PV.ids, refInM]) fnl)), (fcs rfl fnl)⟩) (fun x => ?_)
  obtain ⟨id', r, acc, hr, hx⟩ := x
  simp only
  have hal : acc.length ≤ 41 := by
   have := congrArg List.length hx
   rw [List.length_append, upL_len] at this
   omega
  have hrm := room1 (show acc.length + 1 ≤ 1000000 by omega) (show 16 ≤ 1000 by omega)
  by_cases hd : id' = default
  ·have hb : decide (id' = default) = true := by simpa using hd
   have hacc : acc = upL w := by
    rw [← hx]
    subst hd
    cases hr with
    | root => simp [upL]
    | step hn _ _ => exact absurd rfl hn
   simp only [go_sem, tgd, hb, Bool.not_true, tgsc, tgs, hacc]
  ·have hb : decide (id' = default) = false := by simpa using hd
   have hF := TFind_pure m id' hm
   cases hr with
   | root => exact absurd rfl hd
   | step hn he hw' =>
    rename_i e u
    have hfm : findTM m id' = (e, 0) := by simp [findTM, he]
    rw [hfm] at hF
    have hx' : (acc ++ [e.par]) ++ (upL u).tail = upL w := by
     rw [← hx, upL_snoc, List.tail_cons, upL_head hw']; simp
    simp only [go_sem, tr, tgd, hb, Bool.not_false]
    refine vCall_of (hF) ?_ ?_ ?_; iterate 2 simp only [go_sem, tr, tg]
    simp only [go_sem, edc, eg, sized_tg, hrm, List.length_map]
    exact ⟨⟨e.par, u, acc ++ [e.par], hw', hx'⟩, by show u.length < (u ++ [e]).length; simp, ⟨rfl, fcs rfl (fcs rfl (fcs (by simp [upd, tg]) fnl)), fcs ⟨rfl, rfl⟩ fnl, fcs (by simp [upd]) fnl⟩⟩
 ·have hc' : ((schM (treeOf m) id).2 != 0) = true := by have h : (schM (treeOf m) id).2 ≠ 0 := hc; simpa using h
  simp only [ne_eq, hc, not_false_eq_true, if_true]
  refine PL.Pure.of_v Tryz.func164 (by decide) rfl Tryz.ntmps164 Tryz.results164 (by simp) (tgsc_dids _) ?_
  simp only [go_sem, tr, tg]
  refine vCall_of (hS) ?_ ?_ ?_; iterate 2 simp only [go_sem, tr, tg]
  simp only [go_sem, fldsc, hc', tgsc, tgs, List.map_nil, upC]
end Go.Proofs.YthingdchjkhfbaaGreat
set_option linter.unusedSimpArgs false
set_option linter.unusedVariables false
set_option linter.unusedSimpArgs false
set_option linter.unusedVariables false
namespace Go.Proofs.YthingdchjkhfbaaGreat
open Go.PL
def lcp : List Eg → List Eg → Nat
 | a :: xs, b :: ys => if a = b then lcp xs ys + 1 else 0
 | _, _ => 0
theorem lcp_le : ∀ (a b : List Eg), lcp a b ≤ a.length ∧ lcp a b ≤ b.length
 | [], b => by simp [lcp]
 | a :: xs, [] => by simp [lcp]
 | a :: xs, b :: ys => by
  have := lcp_le xs ys
  simp only [lcp]
  split
  ·simp; omega
  ·simp
theorem lcp_get : ∀ (a b : List Eg) (t : Nat), t < lcp a b → a.getD t default = b.getD t default
 | [], b, t, h => by simp [lcp] at h
 | a :: xs, [], t, h => by simp [lcp] at h
 | a :: xs, b :: ys, t, h => by
  simp only [lcp] at h
  split at h
  ·rename_i e
   cases t with
   | zero => simpa using e
   | succ t => simpa using lcp_get xs ys t (by omega)
  ·omega
theorem lcp_stop : ∀ (a b : List Eg), lcp a b < a.length → lcp a b < b.length → a.getD (lcp a b) default ≠ b.getD (lcp a b) default
 | [], b, h, _ => by simp at h
 | a :: xs, [], _, h => by simp at h
 | a :: xs, b :: ys, h1, h2 => by
  simp only [lcp] at h1 h2 ⊢
  split
  ·rename_i e
   rw [if_pos e] at h1 h2
   simpa using lcp_stop xs ys (by simpa using h1) (by simpa using h2)
  ·rename_i e; simpa using e
theorem Apart.inj {m : List Eg} (h : Apart m) {a b : Eg} (ha : a ∈ m) (hb : b ∈ m) (e : a.id = b.id) : a = b := by
 have h1 := h.find ha
 rw [e, h.find hb] at h1
 cases h1; rfl
structure WayT where
 up : List Tg
 down : List Tg
 i : Nat
 j : Nat
 c : Int
def wayv (x : WayT) : PV := .tup [tgs x.up, tgs x.down, .int .i64 (x.i : Int), .int .i64 (x.j : Int), .int .i64 x.c]
theorem wayv_dids (x : WayT) : (wayv x).dids = [] := by simp only [wayv, PV.dids, PV.didsL, tgs_dids, List.append_nil]
def waysM (m : List Eg) (a b : Tg) : WayT :=
 if upC m a ≠ 0 then ⟨[], [], 0, 0, upC m a⟩ else if upC m b ≠ 0 then ⟨[], [], 0, 0, upC m b⟩
 else ⟨upL (wayD m a), upL (wayD m b), (wayD m a).length - lcp (wayD m a) (wayD m b), (wayD m b).length - lcp (wayD m a) (wayD m b), 0⟩
set_option maxRecDepth 20000 in
set_option maxHeartbeats 16000000 in
theorem ways_pure (m : List Eg) (a b : Tg) (hm : OkM m) : PL.Pure Tryz.prog 119 [tr (treeOf m), tg a, tg b] (wayv (waysM m a b)) := by
 have hA := Up_pure m a hm
 have hB := Up_pure m b hm
 unfold waysM
 unfold upM at hA hB
 by_cases ha : upC m a = 0
 ·by_cases hb : upC m b = 0
  ·obtain ⟨wa, _, _⟩ := live_way ha
   obtain ⟨wb, _, _⟩ := live_way hb
   simp only [ha, hb, ne_eq, not_true_eq_false, if_false] at hA hB ⊢
   generalize wayD m a = p at *
   generalize wayD m b = q at *
   have hlc := lcp_le p q
   have hpl : p.length ≤ 40 := by have := wa.len; have := hm.n; omega
   have hql : q.length ≤ 40 := by have := wb.len; have := hm.n; omega
   have l1 : ((upL p).length : Int) = (p.length : Int) + 1 := by rw [upL_len]; rfl
   have l2 : ((upL q).length : Int) = (q.length : Int) + 1 := by rw [upL_len]; rfl
   have s1 : IntKind.i64.wrap ((p.length : Int) + 1 - 1) = (p.length : Int) := by rw [w64 (by omega)]; omega
   have s2 : IntKind.i64.wrap ((q.length : Int) + 1 - 1) = (q.length : Int) := by rw [w64 (by omega)]; omega
   refine PL.Pure.of_v Tryz.func119 (by decide) rfl Tryz.ntmps119 Tryz.results119 (by simp) (wayv_dids _) ?_
   simp only [go_sem, tr, tg]
   refine vScopeM (ι := { t : Nat // t ≤ lcp p q }) 62 (fun x => [(6, tgs (upL p)), (7, tgs (upL q)), (8, .int .i64 ((p.length - x.1 : Nat) : Int)), (9, .int .i64 ((q.length - x.1 : Nat) : Int))]) (fun x => []) (fun x => []) (fun x => lcp p q - x.1) 0 _ (by exact rfl) (fun x => ⟨(fcs rfl (fcs rfl (fcs rfl (fcs rfl fnl)))), fnl⟩) (fun x => ?_) (fun cut => ?_)
   ·obtain ⟨t, ht⟩ := x
    simp only
    by_cases g1 : t < p.length
    ·have c1 : (0 : Int) < ((p.length - t : Nat) : Int) := by omega
     by_cases g2 : t < q.length
     ·have c2 : (0 : Int) < ((q.length - t : Nat) : Int) := by omega
      have w1 : IntKind.i64.wrap (((p.length - t : Nat) : Int) - 1) = ((p.length - t - 1 : Nat) : Int) := by rw [w64 (by omega)]; omega
      have w2 : IntKind.i64.wrap (((q.length - t : Nat) : Int) - 1) = ((q.length - t - 1 : Nat) : Int) := by rw [w64 (by omega)]; omega
      have k1 : p.length - t - 1 < (upL p).length := by rw [upL_len]; omega
      have k2 : q.length - t - 1 < (upL q).length := by rw [upL_len]; omega
      have b1 : (0 : Int) ≤ ((p.length - t - 1 : Nat) : Int) := by omega
      have b2 : (0 : Int) ≤ ((q.length - t - 1 : Nat) : Int) := by omega
      have b3 : ((p.length - t - 1 : Nat) : Int) < ((upL p).length : Int) := by omega
      have b4 : ((q.length - t - 1 : Nat) : Int) < ((upL q).length : Int) := by omega
      have v1 := upL_get p t g1
      have v2 := upL_get q t g2
      by_cases hlt : t < lcp p q
      ·have heq : decide ((p.getD t default).id = (q.getD t default).id) = true := by rw [lcp_get p q t hlt]; simp
       simp only [go_sem, tgs]
       refine vDrawQ (by kernel_rfl) (by kernel_rfl) ?_
       simp only [go_sem, c1, c2, w1, w2, getD_tg k1, getD_tg k2, v1, v2, tg, b1, b2, b3, b4, tg_fold, heq]
       exact ⟨⟨t + 1, by omega⟩, by show lcp p q - (t + 1) < lcp p q - t; omega, ⟨rfl, fcs rfl (fcs rfl (fcs (by simp only [Nat.sub_sub]; rfl) (fcs (by simp only [Nat.sub_sub]; rfl) fnl))), fnl, fnl⟩⟩
      ·obtain rfl : t = lcp p q := by omega
       have hne : decide ((p.getD (lcp p q) default).id = (q.getD (lcp p q) default).id) = false := by
        rw [decide_eq_false_iff_not]
        intro e
        have hs := lcp_stop p q (by omega) (by omega)
        exact hs (hm.a.inj (wa.mem _ (getD_mem g1)) (wb.mem _ (getD_mem g2)) e)
       simp only [go_sem, tgs]
       refine vDrawQ (by kernel_rfl) (by kernel_rfl) ?_
       simp only [go_sem, c1, c2, w1, w2, getD_tg k1, getD_tg k2, v1, v2, tg, b1, b2, b3, b4, tg_fold, hne, wayv, tgs]
     ·have c2 : ¬ (0 : Int) < ((q.length - t : Nat) : Int) := by omega
      obtain rfl : t = lcp p q := by omega
      simp only [go_sem, tgs]
      refine vDrawQ (by kernel_rfl) (by kernel_rfl) ?_
      simp only [go_sem, c1, c2, wayv, tgs]
    ·have c1 : ¬ (0 : Int) < ((p.length - t : Nat) : Int) := by omega
     obtain rfl : t = lcp p q := by omega
     simp only [go_sem, tgs]
     refine vDrawQ (by kernel_rfl) (by kernel_rfl) ?_
     simp only [go_sem, c1, wayv, tgs]
   ·simp only [go_sem]
    refine vCall_of (hA) ?_ ?_ ?_; iterate 2 simp only [go_sem, tr, tg]
    simp only [go_sem, tgsc]
    refine vCall_of (hB) ?_ ?_ ?_; iterate 2 simp only [go_sem, tr, tg]
    simp only [go_sem, tgsc, tgs, l1, l2, s1, s2, List.length_map]
    exact awp_label_seq (cut ⟨0, Nat.zero_le _⟩ _ ⟨rfl, (fcs rfl (fcs rfl (fcs rfl (fcs rfl fnl)))), fnl, fnl⟩)
  ·have hb' : (upC m b != 0) = true := by simpa using hb
   simp only [ha, hb, ne_eq, not_true_eq_false, not_false_eq_true, if_true, if_false] at hA hB ⊢
   refine PL.Pure.of_v Tryz.func119 (by decide) rfl Tryz.ntmps119 Tryz.results119 (by simp) (wayv_dids _) ?_
   simp only [go_sem, tr, tg]
   refine vScope0 ?_
   simp only [go_sem]
   refine vCall_of (hA) ?_ ?_ ?_; iterate 2 simp only [go_sem, tr, tg]
   simp only [go_sem, tgsc]
   refine vCall_of (hB) ?_ ?_ ?_; iterate 2 simp only [go_sem, tr, tg]
   simp only [go_sem, tgsc, tgs, hb', wayv, List.map_nil]
 ·have ha' : (upC m a != 0) = true := by simpa using ha
  simp only [ha, ne_eq, not_false_eq_true, if_true] at hA ⊢
  refine PL.Pure.of_v Tryz.func119 (by decide) rfl Tryz.ntmps119 Tryz.results119 (by simp) (wayv_dids _) ?_
  simp only [go_sem, tr, tg]
  refine vScope0 ?_
  simp only [go_sem]
  refine vCall_of (hA) ?_ ?_ ?_; iterate 2 simp only [go_sem, tr, tg]
  simp only [go_sem, tgsc, tgs, ha', wayv, List.map_nil]
end Go.Proofs.YthingdchjkhfbaaGreat
set_option linter.unusedSimpArgs false
set_option linter.unusedVariables false
set_option linter.unusedSimpArgs false
set_option linter.unusedVariables false
namespace Go.Proofs.YthingdchjkhfbaaGreat
open Go.PL
def dn (e : Eg) : Lg := ⟨e.id, true⟩
def upg (i : Tg) : Lg := ⟨i, false⟩
def legsW (p q : List Eg) : List Lg := ((p.drop (lcp p q)).reverse.map fun e => upg e.id) ++ (q.drop (lcp p q)).map dn
theorem upL_take (p : List Eg) (c : Nat) (hc : c ≤ p.length) : (upL p).take (p.length - c) = (p.drop c).reverse.map (·.id) := by
 unfold upL
 rw [List.take_append_of_le_length (by simp), ← List.map_take, List.take_reverse]
 congr 3
 omega
def legsc (x : List Lg × Int) : PV := .tup [lgs x.1, .int .i64 x.2]
theorem didsL_lg (l : List Lg) : PV.didsL (l.map lg) = [] := by
 induction l with
 | nil => rfl
 | cons t l ih => simp only [List.map_cons, PV.didsL, ih, lg, PV.dids, List.append_nil]
theorem lgs_dids (l : List Lg) : (lgs l).dids = [] := by simp only [lgs, PV.dids, didsL_lg]
theorem legsc_dids (x : List Lg × Int) : (legsc x).dids = [] := by simp only [legsc, PV.dids, PV.didsL, lgs_dids, List.append_nil]
theorem sized_lg (l : List Lg) : Sized 3 (l.map lg) := fun e he => by
 obtain ⟨x, _, rfl⟩ := List.mem_map.1 he; rfl
def pathC (m : List Eg) (a b : Tg) : Int := if upC m a ≠ 0 then upC m a else upC m b
def pathM (m : List Eg) (a b : Tg) : List Lg × Int := if pathC m a b ≠ 0 then ([], pathC m a b) else (legsW (wayD m a) (wayD m b), 0)
theorem pathC_zero {m : List Eg} {a b : Tg} : pathC m a b = 0 ↔ upC m a = 0 ∧ upC m b = 0 := by
 unfold pathC
 split
 ·rename_i h; exact ⟨fun h' => absurd h' h, fun h' => absurd h'.1 h⟩
 ·rename_i h; exact ⟨fun h' => ⟨by simpa using h, h'⟩, fun h' => h'.2⟩
theorem waysM_bad {m : List Eg} {a b : Tg} (h : pathC m a b ≠ 0) : waysM m a b = ⟨[], [], 0, 0, pathC m a b⟩ := by
 unfold waysM pathC at *
 split
 ·rfl
 ·rename_i h1
  rw [if_neg h1] at h
  rw [if_pos h]
theorem waysM_good {m : List Eg} {a b : Tg} (h : pathC m a b = 0) : waysM m a b = ⟨upL (wayD m a), upL (wayD m b), (wayD m a).length - lcp (wayD m a) (wayD m b), (wayD m b).length - lcp (wayD m a) (wayD m b), 0⟩ := by
 obtain ⟨h1, h2⟩ := pathC_zero.1 h
 unfold waysM
 rw [if_neg (by simp [h1]), if_neg (by simp [h2])]
theorem drop_take_snoc {q : List Eg} {c s : Nat} (h : c + s < q.length) : (q.drop c).take (s + 1) = (q.drop c).take s ++ [q.getD (c + s) default] := by
 rw [List.take_add_one]
 congr 1
 rw [List.getElem?_drop, List.getElem?_eq_getElem h, getD_lt h]
 rfl
set_option maxRecDepth 20000 in
set_option maxHeartbeats 16000000 in
theorem Path_pure (m : List Eg) (a b : Tg) (hm : OkM m) : PL.Pure Tryz.prog 81 [tr (treeOf m), tg a, tg b] (legsc (pathM m a b)) := by
 have hW := ways_pure m a b hm
 unfold pathM
 by_cases hc : pathC m a b = 0
 ·rw [waysM_good hc] at hW
  obtain ⟨ha, hb⟩ := pathC_zero.1 hc
  obtain ⟨wa, _, _⟩ := live_way ha
  obtain ⟨wb, _, _⟩ := live_way hb
  simp only [hc, ne_eq, not_true_eq_false, if_false]
  generalize wayD m a = p at *
  generalize wayD m b = q at *
  have hlc := lcp_le p q
  have hpl : p.length ≤ 40 := by have := wa.len; have := hm.n; omega
  have hql : q.length ≤ 40 := by have := wb.len; have := hm.n; omega
  unfold legsW
  have hut := upL_take p (lcp p q) hlc.1
  have hdl : (p.drop (lcp p q)).length = p.length - lcp p q := by simp
  have hql' : (q.drop (lcp p q)).length = q.length - lcp p q := by simp
  generalize hids : (p.drop (lcp p q)).reverse.map (·.id) = ids at *
  have hidl : ids.length = p.length - lcp p q := by rw [← hids]; simp
  have hfst : ((p.drop (lcp p q)).reverse.map fun e => upg e.id) = ids.map upg := by rw [← hids, List.map_map]; rfl
  rw [hfst]
  have hlen : ids.length ≤ maxLen := by rw [maxLen_eq]; omega
  have s0 : IntKind.i64.wrap (((p.length - lcp p q : Nat) : Int) + ((q.length - lcp p q : Nat) : Int)) = ((p.length - lcp p q + (q.length - lcp p q) : Nat) : Int) := by rw [w64 (by omega)]; omega
  have hup : (upL p).length = p.length + 1 := upL_len p
  refine PL.Pure.of_v Tryz.func81 (by decide) rfl Tryz.ntmps81 Tryz.results81 (by simp) (legsc_dids _) ?_
  simp only [go_sem, tr, tg]
  refine vScopeM (ι := { s : Nat // s ≤ q.length - lcp p q }) 60 (fun x => [(9, tgs (upL q)), (11, .int .i64 ((q.length - lcp p q - x.1 : Nat) : Int)), (13, .sl (.row 58) ((ids.map upg ++ ((q.drop (lcp p q)).take x.1).map dn).map lg))]) (fun x => []) (fun x => [(58, .live (ids.length + x.1) 3 147)]) (fun x => q.length - lcp p q - x.1) 0 _ (by exact rfl)
   (fun x => ⟨fcs rfl (fcs rfl (fcs (by simp [PV.ids, refInM]) fnl)), fnl⟩) (fun x => ?_) (fun cut => ?_)
  ·obtain ⟨s, hs⟩ := x
   simp only
   by_cases hlt : s < q.length - lcp p q
   ·have c1 : (0 : Int) < ((q.length - lcp p q - s : Nat) : Int) := by omega
    have w1 : IntKind.i64.wrap (((q.length - lcp p q - s : Nat) : Int) - 1) = ((q.length - (lcp p q + s) - 1 : Nat) : Int) := by rw [w64 (by omega)]; omega
    have k1 : q.length - (lcp p q + s) - 1 < (upL q).length := by rw [upL_len]; omega
    have b1 : (0 : Int) ≤ ((q.length - (lcp p q + s) - 1 : Nat) : Int) := by omega
    have b2 : ((q.length - (lcp p q + s) - 1 : Nat) : Int) < ((upL q).length : Int) := by omega
    have v1 := upL_get q (lcp p q + s) (by omega)
    have hrm := room1 (show ids.length + s + 1 ≤ 1000000 by omega) (show 24 ≤ 1000 by omega)
    have hsl : (ids.map upg ++ ((q.drop (lcp p q)).take s).map dn).length = ids.length + s := by simp; omega
    have hnx := drop_take_snoc (q := q) (c := lcp p q) (s := s) (by omega)
    simp only [go_sem, tgs, c1, w1, getD_tg k1, v1, tg, b1, b2, sized_lg, hsl, List.length_map, hrm]
    refine ⟨⟨s + 1, by omega⟩, by show q.length - lcp p q - (s + 1) < q.length - lcp p q - s; omega, ⟨rfl, fcs rfl (fcs ?_ (fcs ?_ fnl)), fnl, fcs ?_ fnl⟩⟩
    ·show PV.int .i64 _ = PV.int .i64 _
     congr 2
     simp only
     omega
    ·show PV.sl (.row 58) _ = PV.sl (.row 58) _
     simp [hnx, dn, lg]
    ·rfl
   ·obtain rfl : s = q.length - lcp p q := by omega
    have c1 : ¬ (0 : Int) < ((q.length - lcp p q - (q.length - lcp p q) : Nat) : Int) := by omega
    have htk : (q.drop (lcp p q)).take (q.length - lcp p q) = q.drop (lcp p q) := List.take_of_length_le (by omega)
    simp only [go_sem, tgs, c1, legsc, lgs, htk]
  ·simp only [go_sem]
   refine vCall_of (hW) ?_ ?_ ?_; iterate 2 simp only [go_sem, tr, tg]
   simp only [go_sem, wayv, tgs, s0]
   repeat ((with_reducible refine And.intro ?_ ?_); (focus ((repeat' (with_reducible apply And.intro)) <;> (first | omega | exact room_small (by omega) (by omega) | exact room_small (by simp; omega) (by omega) | exact sized_str _ | (simp; done) | (simp; omega)))))
   have htt : PL.cut (List.map tg (upL p)) 0 ((p.length - lcp p q : Nat) : Int) = ids.map tg := by simp [PL.cut, ← List.map_take, hut]
   refine ⟨⟨by omega, by omega, sized_tg _⟩, ?_⟩
   simp only [go_sem, htt, List.length_map]
   refine awp_moveRow 13 32 45 0 3 147 [] rfl rfl rfl ?_
   refine vLoopM (ι := { x : Nat // x ≤ (ids).length }) 60 (fun x => [(9, tgs (upL q)), (11, .int .i64 ((q.length - lcp p q : Nat) : Int)), (13, .sl (.row 45) (((ids.take x.1).map upg).map lg)), (35, tgs ids), (36, .int .i64 (ids.length : Int)), (37, .int .i64 (x.1 : Int))]) (fun x => []) (fun x => [(45, .live (x.1) (3) (147))]) (fun x => (ids).length - x.1) ⟨0, Nat.zero_le _⟩ ⟨rfl, (fcs rfl (fcs rfl (fcs rfl (fcs rfl (fcs rfl (fcs rfl fnl)))))), fnl, (fcs rfl fnl)⟩ (fun x => ⟨(fcs rfl (fcs rfl (fcs (by simp [PV.ids, refInM]) (fcs rfl (fcs rfl (fcs rfl fnl)))))), fnl⟩) (fun x => ?_); obtain ⟨k, hk⟩ := x; simp only at hk ⊢
   by_cases h : (k : Int) < (ids.length : Int)
   ·(have hka : k < (ids).length := by omega); (have w1 := w64s hka (hlen)); (have i1 : (0 : Int) ≤ (k : Int) := by omega)
    have hts : ids.take (k + 1) = ids.take k ++ [ids.getD k default] := by rw [List.take_add_one, getD_lt hka]; simp [hka]
    have hkl : (ids.take k).length = k := by simp; omega
    have hrm := room1 (show k + 1 ≤ 1000000 by omega) (show 24 ≤ 1000 by omega)
    simp only [go_sem, h, tgs, getD_tg hka, tg, i1, w1, sized_lg, List.length_map, hkl, hrm]
    exact ⟨⟨k + 1, by (try simp only); omega⟩, by show (ids).length - (k + 1) < (ids).length - k; omega, ⟨rfl, (fcs rfl (fcs rfl (fcs (by (show PV.sl _ _ = PV.sl _ _; simp [hts, upg, lg])) (fcs rfl (fcs rfl (fcs rfl fnl)))))), fnl, (fcs rfl fnl)⟩⟩
   ·obtain rfl : k = ids.length := by omega
    have htk : ids.take ids.length = ids := List.take_length
    simp only [go_sem, h, htk]
    refine awp_moveRow 13 45 58 ids.length 3 147 ((ids.map upg).map lg) rfl rfl rfl ?_
    exact awp_label_seq (cut ⟨0, Nat.zero_le _⟩ _ ⟨rfl, fcs rfl (fcs rfl (fcs (by simp [upd, St.with]) fnl)), fnl, fcs (by simp [upd, Hp.setq, St.with]) fnl⟩)
 ·have hc' : (pathC m a b != 0) = true := by simpa using hc
  rw [waysM_bad hc] at hW
  simp only [ne_eq, hc, not_false_eq_true, if_true]
  refine PL.Pure.of_v Tryz.func81 (by decide) rfl Tryz.ntmps81 Tryz.results81 (by simp) (legsc_dids _) ?_
  simp only [go_sem, tr, tg]
  refine vScope0 ?_
  simp only [go_sem]
  refine vCall_of (hW) ?_ ?_ ?_; iterate 2 simp only [go_sem, tr, tg]
  simp only [go_sem, wayv, tgs, hc', legsc, lgs, List.map_nil]
end Go.Proofs.YthingdchjkhfbaaGreat
set_option linter.unusedSimpArgs false
set_option linter.unusedVariables false
set_option linter.unusedSimpArgs false
set_option linter.unusedVariables false
namespace Go.Proofs.YthingdchjkhfbaaGreat
open Go.PL
def awX : Ln := ⟨1, ⟨1, [], [110, 111, 116, 101]⟩, [109, 101, 109, 111], [], 0, default, [], []⟩
def awA : Eg := ⟨⟨1, 1⟩, default, awX⟩
theorem okAw : OkLn awX := ⟨by decide, by decide, by decide⟩
theorem putA : putM [] awA = ([awA], 0) := by decide +kernel
theorem okA : OkM [awA] := by have := okPut okM_nil (e := awA) okAw; rw [putA] at this; exact this
theorem legs_len (m : List Eg) (a b : Tg) (hm : OkM m) : (pathM m a b).1.length ≤ 80 := by
 unfold pathM
 split
 ·simp
 ·rename_i h
  have h := pathC_zero.1 (by simpa using h)
  have w1 := (live_way h.1).1.len
  have w2 := (live_way h.2).1.len
  have := hm.n
  simp only [legsW, List.length_append, List.length_map, List.length_reverse, List.length_drop]
  omega
theorem okL {l : List Eg} (h : heavyE l 50 = false) : l.length ≤ 50 ∧ ∀ e ∈ l, OkLn e.ln := by
 simp only [heavyE, Bool.or_eq_false_iff, decide_eq_false_iff_not, List.any_eq_false] at h
 exact ⟨by omega, fun e he => okOfHeavy (by simpa using h.2 e he)⟩
end Go.Proofs.YthingdchjkhfbaaGreat
set_option linter.unusedSimpArgs false
set_option linter.unusedVariables false
set_option linter.unusedSimpArgs false
set_option linter.unusedVariables false
namespace Go.Proofs.YthingdchjkhfbaaGreat
open Go.PL
theorem rightLn_kind {x : Ln} (h : rightLn x = true) : (x.kind = 1 ∨ x.kind = 2 ∨ x.kind = 3 ∨ x.kind = 4 ∨ x.kind = 5 ∨ x.kind = 6 ∨ x.kind = 7 ∨ x.kind = 8 ∨ x.kind = 9 ∨ x.kind = 10) ∧ (x.kind ≠ 8 → x.fo = [] ∧ x.ba = []) := by
 unfold rightLn at h
 split at h
 ·rename_i hk
  simp only [Bool.and_eq_true, Bool.not_eq_true'] at h
  exact ⟨by omega, fun _ => tablesB_false.1 h.2.2.2.2.1⟩
 ·simp only [Bool.and_eq_true] at h
  obtain ⟨_, h⟩ := h
  split at h
  ·rename_i hk; exact ⟨by omega, fun hn => absurd hk hn⟩
  ·simp only [Bool.and_eq_true, Bool.not_eq_true'] at h
   refine ⟨?_, fun _ => tablesB_false.1 h.1⟩
   have h := h.2
   split at h
   ·omega
   ·simp only [Bool.and_eq_true] at h
    have h := h.2
    split at h
    ·omega
    ·simp only [Bool.and_eq_true] at h
     have h := h.2
     split at h
     ·omega
     ·split at h
      ·omega
      ·simp only [Bool.and_eq_true, decide_eq_true_eq] at h
       omega
def lensM (m : List Eg) (x : Lg) : Ln × Int := match findE m x.id with | none => (default, 6) | some e => if x.down = true then (e.ln, 0) else (invR e.ln, 0)
structure RightM (m : List Eg) : Prop where
 r : ∀ e ∈ m, edgeB e = true
theorem edge_right {e : Eg} (h : edgeB e = true) : rightLn e.ln = true := by
 simp only [edgeB, Bool.and_eq_true] at h; exact h.2.2.2.2
theorem rightPut {m : List Eg} (h : RightM m) (e : Eg) : RightM (putM m e).1 := by
 unfold putM
 split
 ·exact h
 ·rename_i hb
  split
  ·split <;> exact h
  ·split
   ·exact h
   ·refine ⟨fun x hx => ?_⟩
    rcases List.mem_append.1 hx with hx | hx
    ·exact h.r x hx
    ·rw [List.mem_singleton.1 hx]; simpa using hb
theorem rightGrown : ∀ (l : List Eg) {m : List Eg}, RightM m → RightM (l.foldl (fun m e => (putM m e).1) m)
 | [], m, h => h
 | e :: l, m, h => rightGrown l (rightPut h e)
theorem right_nil : RightM [] := ⟨fun e h => by cases h⟩
set_option maxRecDepth 20000 in
set_option maxHeartbeats 16000000 in
theorem TLens_pure (m : List Eg) (x : Lg) (hm : OkM m) (hr : RightM m) : PL.Pure Tryz.prog 82 [tr (treeOf m), lg x] (lnc (lensM m x)) := by
 have hF := TFind_pure m x.id hm
 unfold findTM at hF
 unfold lensM
 cases hf : findE m x.id with
 | none =>
  rw [hf] at hF
  simp only at hF ⊢
  refine PL.Pure.of_v Tryz.func82 (by decide) rfl Tryz.ntmps82 Tryz.results82 (by simp) (lnc_dids _) ?_
  simp only [go_sem, tr, lg]
  refine vCall_of (hF) ?_ ?_ ?_; iterate 2 simp only [go_sem, tr, tg]
  simp only [go_sem, edc, eg_default, lnc, lns_default]
 | some e =>
  rw [hf] at hF
  simp only at hF ⊢
  have hem := (findE_id hf).2
  have hO := LOwn_pure e.ln (hm.l e hem)
  have hI := Inverse_pure e.ln (hm.l e hem)
  have hi : invM e.ln = (invR e.ln, 0) := by unfold invM; rw [edge_right (hr.r e hem)]; rfl
  rw [hi] at hI
  obtain ⟨id, down⟩ := x
  cases down
  ·refine PL.Pure.of_v Tryz.func82 (by decide) rfl Tryz.ntmps82 Tryz.results82 (by simp) (lnc_dids _) ?_
   simp only [go_sem, tr, lg]
   refine vCall_of (hF) ?_ ?_ ?_; iterate 2 simp only [go_sem, tr, tg]
   simp only [go_sem, edc, eg]
   refine vCall_of (hI) ?_ ?_ ?_; iterate 2 simp only [go_sem, lns]
   simp only [go_sem, lnc, lns, Bool.false_eq_true, if_false]
  ·refine PL.Pure.of_v Tryz.func82 (by decide) rfl Tryz.ntmps82 Tryz.results82 (by simp) (lnc_dids _) ?_
   simp only [go_sem, tr, lg]
   refine vCall_of (hF) ?_ ?_ ?_; iterate 2 simp only [go_sem, tr, tg]
   simp only [go_sem, edc, eg]
   refine vCall_of (hO) ?_ ?_ ?_; iterate 2 simp only [go_sem, lns]
   simp only [go_sem, lnc, lns, if_true]
theorem okInv {x : Ln} (h : OkLn x) : OkLn (invR x) := by
 unfold invR
 repeat' split
 all_goals first | exact ⟨h.c, h.f, h.b⟩ | exact ⟨h.c, h.b, h.f⟩
theorem okLens {m : List Eg} (hm : OkM m) (x : Lg) : OkLn (lensM m x).1 := by
 unfold lensM
 split
 ·exact ⟨by decide, by decide, by decide⟩
 ·rename_i e he
  have := hm.l e (findE_id he).2
  split
  ·exact this
  ·exact okInv this
end Go.Proofs.YthingdchjkhfbaaGreat
set_option linter.unusedSimpArgs false
set_option linter.unusedVariables false
set_option linter.unusedSimpArgs false
set_option linter.unusedVariables false
namespace Go.Proofs.YthingdchjkhfbaaGreat
open Go.PL
end Go.Proofs.YthingdchjkhfbaaGreat
