/- Contracts of functions and laws of this seat, each for every input that it names: lemmas of the proof. -/
import Derived.Test.YthingdchjkhfbaaGreatVXCv
set_option linter.unusedSimpArgs false
set_option linter.unusedVariables false
set_option linter.unusedSimpArgs false
set_option linter.unusedVariables false
namespace Go.Proofs.YthingdchjkhfbaaGreat
open Go.PL Go.PL.Srt
set_option maxRecDepth 20000 in
set_option maxHeartbeats 16000000 in
theorem Alive_pure (m : List Eg) (l : List Opn) (hm : OkM m) (hl : l.length ≤ 100000) (ho : ∀ o ∈ l, OkOp o) (hU : (l.map Opn.id).Nodup) : PL.Pure Tryz.prog 18 [tr (treeOf m), opvs l] (opvs (livM m l)) := by
 have hcl : ∀ l : List Opn, ∀ p ∈ l.map opv, p.ids = [] := fun l => ids_mapV opv_ids l
 have hL := living_eff m l hm hl ho hU
 have hll := livM_len m l
 have hlo : ∀ o ∈ livM m l, OkOp o := fun o h => ho o (livM_mem h)
 generalize livM m l = A at *
 refine PL.Pure.of_p [] Tryz.func18 (by decide) rfl Tryz.ntmps18 Tryz.results18 (by simp) (opvs_dids _) ?_
 simp only [go_sem, tr, opvs]
 refine vCall_vn 10 hL (hcl _) (by simp [PV.ids, tr, opvs]) rfl rfl ?_
 simp only [go_sem, PV.ren, id]
 refine vLoopX (ι := { k : Nat // k ≤ A.length }) 25 (fun x => [(5, .vsl 10 A.length 15), (11, .vsl 10 A.length 15), (12, .int .i64 (A.length : Int)), (13, .int .i64 (x.1 : Int))]) (fun _ => []) (fun _ => [(10, .vec A.length 15 37)]) (fun _ => []) (fun _ => []) (fun _ => [(10, A.map opv)]) (fun _ => []) [] [] [] (fun x => A.length - x.1) ⟨0, Nat.zero_le _⟩
  (hasX_v1 rfl (fcs rfl (fcs rfl (fcs rfl (fcs rfl fnl)))) rfl rfl) (fun x => wholeX_v1 (by simp [PV.ids, PV.idsL, refInM]) (idsL_mapV opv_ids _)) (fun x => ?_)
 obtain ⟨k, hk⟩ := x
 simp only
 by_cases h : (k : Int) < (A.length : Int)
 ·have hka : k < A.length := by omega
  have i0 : (0 : Int) ≤ (k : Int) := by omega
  have w1 : IntKind.i64.wrap ((k : Int) + 1) = ((k + 1 : Nat) : Int) := by rw [w64 (by omega)]; rfl
  have hO := OOwn_pure (A.getD k default) (hlo _ (getD_mem' hka))
  have hset : (A.map opv).set k (opv (A.getD k default)) = A.map opv := by
   rw [set_mapV]
   congr 1
   rw [getD_lt hka]
   exact List.set_getElem_self hka
  simp only [opv] at hset
  simp only [go_sem, h, i0, List.length_map, getD_op hka, opv]
  refine vCall_of (hO) ?_ ?_ ?_; iterate 2 simp only [go_sem, opv]
  simp only [go_sem, h, i0, List.length_map, getD_op hka, opv, hset, w1]
  exact ⟨⟨k + 1, by omega⟩, by show A.length - (k + 1) < A.length - k; omega, hasX_v1 rfl (fcs rfl (fcs rfl (fcs rfl (fcs rfl fnl)))) rfl rfl⟩
 ·simp only [go_sem, h]
  exact ⟨_, rfl, Pub.vec0 (by simp) rfl (List.length_map _) (hcl _)⟩
def seenL (m : List Eg) (l : List Opn) (b : Tg) : List Opn := (l.filter fun o => (toT m o b).c == 0 && (toT m o b).ok).map fun o => (toT m o b).o
theorem seenL_snoc (m : List Eg) {l : List Opn} (b : Tg) {k : Nat} (h : k < l.length) : seenL m (l.take (k + 1)) b = seenL m (l.take k) b ++ (if ((toT m (l.getD k default) b).c == 0 && (toT m (l.getD k default) b).ok) = true then [(toT m (l.getD k default) b).o] else []) := by
 unfold seenL
 rw [take_snoc (d := default) h, List.filter_append, List.map_append]
 congr 1
 generalize l.getD k default = x
 cases hr : ((toT m x b).c == 0 && (toT m x b).ok)
 ·rw [List.filter_cons_of_neg (by rw [hr]; simp), if_neg (by simp)]; rfl
 ·rw [List.filter_cons_of_pos (by exact hr), if_pos rfl]; rfl
theorem seenL_len (m : List Eg) (l : List Opn) (b : Tg) : (seenL m l b).length ≤ l.length := by unfold seenL; rw [List.length_map]; exact List.length_filter_le _ _
set_option maxRecDepth 20000 in
set_option maxHeartbeats 16000000 in
theorem TrAll_pure (m : List Eg) (l : List Opn) (b : Tg) (hm : OkM m) (hr : RightM m) (hl : l.length ≤ 100000) (ho : ∀ o ∈ l, OkOp o) : PL.Pure Tryz.prog 34 [tr (treeOf m), opvs l, tg b] (opvs (seenL m l b)) := by
 have hlm : l.length ≤ maxLen := by rw [maxLen_eq]; omega
 refine PL.Pure.of_v Tryz.func34 (by decide) rfl Tryz.ntmps34 Tryz.results34 (by simp) (opvs_dids _) ?_
 simp only [go_sem, tr, opvs, tg]
 refine awp_nilRow 7 35 15 37 rfl rfl ?_
 refine vLoopM (ι := { x : Nat // x ≤ (l).length }) 38 (fun x => [(0, tr (treeOf m)), (5, .ptr 5 0), (7, .sl (.row 35) ((seenL m (l.take x.1) b).map opv)), (13, opvs l), (14, .int .i64 (l.length : Int)), (15, .int .i64 (x.1 : Int))]) (fun x => [(5, [.int .i64 b.r, .int .i64 b.n], false)]) (fun x => [(35, .live ((seenL m (l.take x.1) b).length) (15) (37))]) (fun x => (l).length - x.1) ⟨0, Nat.zero_le _⟩ ⟨rfl, (fcs rfl (fcs rfl (fcs rfl (fcs rfl (fcs rfl (fcs rfl fnl)))))), (fcs ⟨rfl, rfl⟩ fnl), (fcs rfl fnl)⟩ (fun x => ⟨(fcs rfl (fcs rfl (fcs (by simp [PV.ids, refInM]) (fcs rfl (fcs rfl (fcs rfl fnl)))))), (fcs rfl fnl)⟩) (fun x => ?_); obtain ⟨k, hk⟩ := x; simp only at hk ⊢
 by_cases h : (k : Int) < (l.length : Int)
 ·(have hka : k < (l).length := by omega); (have w1 := w64s hka (hlm)); (have i1 : (0 : Int) ≤ (k : Int) := by omega)
  have hT := TrTo_pure m (l.getD k default) b hm hr (ho _ (getD_mem' hka))
  have hsn := seenL_snoc m b hka
  have hsl := seenL_len m (l.take k) b
  have htl : (l.take k).length ≤ k := List.length_take_le _ _
  have hrm := room1 (show (seenL m (l.take k) b).length + 1 ≤ 1000000 by omega) (show 176 ≤ 1000 by omega)
  have hml : ((seenL m (l.take k) b).map opv).length = (seenL m (l.take k) b).length := List.length_map _
  have hsz := sized_op (seenL m (l.take k) b)
  generalize toT m (l.getD k default) b = y at *
  obtain ⟨yo, yk, yc⟩ := y
  have hsx : Sized 15 [opv yo] := sized_op [yo]
  have hax : Atoms [opv yo] := atoms_op [yo]
  generalize hx : l.getD k default = x at *
  simp only at hsn
  simp only [opv] at hsx hax
  cases k1 : (yc == 0)
  ·rw [k1, Bool.false_and, if_neg (by simp), List.append_nil] at hsn
   simp only [go_sem, opvs, h, getD_op hka, hx, opv, i1]
   refine vCall_of (hT) ?_ ?_ ?_; iterate 2 simp only [go_sem, tr, opv, tg]
   simp only [go_sem, seenv, opv, k1, w1]
   exact ⟨⟨k + 1, by omega⟩, by show l.length - (k + 1) < l.length - k; omega, ⟨rfl, by simp only; rw [hsn]; exact (fcs rfl (fcs rfl (fcs rfl (fcs rfl (fcs rfl (fcs rfl fnl)))))), fcs ⟨rfl, rfl⟩ fnl, by simp only; rw [hsn]; exact fcs rfl fnl⟩⟩
  ·cases yk
   ·rw [k1, Bool.and_false, if_neg (by simp), List.append_nil] at hsn
    simp only [go_sem, opvs, h, getD_op hka, hx, opv, i1]
    refine vCall_of (hT) ?_ ?_ ?_; iterate 2 simp only [go_sem, tr, opv, tg]
    simp only [go_sem, seenv, opv, k1, w1]
    exact ⟨⟨k + 1, by omega⟩, by show l.length - (k + 1) < l.length - k; omega, ⟨rfl, by simp only; rw [hsn]; exact (fcs rfl (fcs rfl (fcs rfl (fcs rfl (fcs rfl (fcs rfl fnl)))))), fcs ⟨rfl, rfl⟩ fnl, by simp only; rw [hsn]; exact fcs rfl fnl⟩⟩
   ·rw [k1, Bool.and_self, if_pos rfl] at hsn
    simp only [go_sem, opvs, h, getD_op hka, hx, opv, i1]
    refine vCall_of (hT) ?_ ?_ ?_; iterate 2 simp only [go_sem, tr, opv, tg]
    simp only [go_sem, seenv, opv, k1, w1, hml, hsz, hrm, hsx, hax]
    exact ⟨⟨k + 1, by omega⟩, by show l.length - (k + 1) < l.length - k; omega, ⟨rfl, by simp only; rw [hsn, List.map_append]; exact (fcs rfl (fcs rfl (fcs rfl (fcs rfl (fcs rfl (fcs rfl fnl)))))), fcs ⟨rfl, rfl⟩ fnl, by simp only; rw [hsn, List.length_append]; exact fcs rfl fnl⟩⟩
 ·have htk : l.take k = l := List.take_of_length_le (by omega)
  simp only [go_sem, opvs, h, htk]
end Go.Proofs.YthingdchjkhfbaaGreat
set_option linter.unusedSimpArgs false
set_option linter.unusedVariables false
set_option linter.unusedSimpArgs false
set_option linter.unusedVariables false
namespace Go.Proofs.YthingdchjkhfbaaGreat
open Go.PL Go.PL.Srt
structure Sp where
 item : Str
 at' : Rf
 deriving DecidableEq, Inhabited
def spv (s : Sp) : PV := .agg [.str s.item, .int .i64 s.at'.sc, .str s.at'.gr, .str s.at'.nm]
def spO (o : Opn) : Sp := ⟨o.item, o.at'⟩
def thereM (seen : List Opn) (s : Sp) : List Opn := seen.filter fun o => decide (spO o = s)
theorem sp_fold (a b : Sp) : (a.item == b.item && (a.at'.sc == b.at'.sc && (a.at'.gr == b.at'.gr && a.at'.nm == b.at'.nm))) = decide (a = b) := by
 obtain ⟨i1, r1⟩ := a
 obtain ⟨i2, r2⟩ := b
 cases r1
 cases r2
 rw [Bool.eq_iff_iff]
 simp
theorem findP_sps (s : Sp) : ∀ (l : List Sp) (i : Nat), findP [.str, .int, .str, .str] [.str s.item, .int .i64 s.at'.sc, .str s.at'.gr, .str s.at'.nm] (l.map spv) i = some ((l.findIdx? fun x => decide (s = x)).map (· + i))
 | [], i => rfl
 | n :: l, i => by
  have ih := findP_sps s l (i + 1)
  simp only [List.map_cons, spv, findP, eqLeaves, eqLeaf, if_true, List.findIdx?_cons, Bool.and_true, sp_fold]
  by_cases h : s = n
  ·simp [h]
  ·simp only [h, decide_false, ih]
   simp only [Bool.false_eq_true, if_false, Option.map_map]
   congr 2
   funext x
   simp; omega
theorem findP_sps0 (s : Sp) (l : List Sp) : findP [.str, .int, .str, .str] [.str s.item, .int .i64 s.at'.sc, .str s.at'.gr, .str s.at'.nm] (l.map spv) 0 = some (l.findIdx? fun x => decide (s = x)) := by
 rw [findP_sps]; congr 1; cases List.findIdx? (fun x => decide (s = x)) l <;> rfl
theorem idxS_mem {t : Sp} {l : List Sp} : (l.findIdx? fun x => decide (t = x)) = none ↔ t ∉ l := by
 rw [List.findIdx?_eq_none_iff]
 constructor
 ·intro h hm; have := h t hm; simp at this
 ·intro h x hx; simp only [decide_eq_false_iff_not]; intro e; exact h (e ▸ hx)
theorem idxS_at {t : Sp} {l : List Sp} {i : Nat} (h : (l.findIdx? fun x => decide (t = x)) = some i) : i < l.length ∧ l.getD i default = t := by
 obtain ⟨h1, h2, _⟩ := List.findIdx?_eq_some_iff_getElem.1 h
 exact ⟨h1, by rw [getD_lt h1]; exact (of_decide_eq_true h2).symm⟩
theorem there_none {seen : List Opn} {s : Sp} (h : ¬ ∃ o ∈ seen, spO o = s) : thereM seen s = [] := by
 unfold thereM
 rw [List.filter_eq_nil_iff]
 intro o ho hd
 exact h ⟨o, ho, of_decide_eq_true hd⟩
theorem there_len (seen : List Opn) (s : Sp) : (thereM seen s).length ≤ seen.length := List.length_filter_le _ _
def fillM (F : List Fd) (seen : List Opn) (sc : Int) (item : Str) : List En := (scopeM F sc).map fun f => valE f (thereM seen ⟨item, f.at'⟩)
set_option maxRecDepth 20000 in
set_option maxHeartbeats 16000000 in
theorem fill_pure (F : List Fd) (seen : List Opn) (ks : List Sp) (sc : Int) (item : Str) (hF : OkFs F) (hs : seen.length ≤ 100000) (hks : ∀ s, s ∈ ks ↔ ∃ o ∈ seen, spO o = s) :
  PL.Pure Tryz.prog 35 [.int .i64 sc, .str item, .rptr [flds F], .rptr [.rmap (ks.map spv) (ks.map fun s => opvs (thereM seen s))]] (ents (fillM F seen sc item)) := by
 have hFn := hF.n
 have hSc := Scope_pure F sc (by omega) hF.c
 have hscl : (scopeM F sc).length ≤ F.length := List.length_filter_le _ _
 unfold fillM
 generalize hA : scopeM F sc = A at *
 have hAm : A.length ≤ maxLen := by rw [maxLen_eq]; omega
 have hV : ∀ f s, PL.Pure Tryz.prog 37 [fld f, opvs (thereM seen s)] (ent (valE f (thereM seen s))) := fun f s => value_pure f _ (Nat.le_trans (there_len _ _) hs)
 refine PL.Pure.of_v Tryz.func35 (by decide) rfl Tryz.ntmps35 Tryz.results35 (by simp) (ents_dids _) ?_
 simp only [go_sem, flds]
 refine vCall_of (hSc) ?_ ?_ ?_; iterate 2 simp only [go_sem, flds]
 simp only [go_sem, flds]
 refine awp_nilRow 7 28 5 66 rfl rfl ?_
 refine vLoopM (ι := { x : Nat // x ≤ (A).length }) 31 (fun x => [(1, .str item), (3, .rptr [.rmap (ks.map spv) (ks.map fun s => opvs (thereM seen s))]), (7, .sl (.row 28) (((A.take x.1).map fun f => valE f (thereM seen ⟨item, f.at'⟩)).map ent)), (12, flds A), (13, .int .i64 (A.length : Int)), (14, .int .i64 (x.1 : Int))]) (fun x => []) (fun x => [(28, .live (x.1) (5) (66))]) (fun x => (A).length - x.1) ⟨0, Nat.zero_le _⟩ ⟨rfl, (fcs rfl (fcs rfl (fcs rfl (fcs rfl (fcs rfl (fcs rfl fnl)))))), fnl, (fcs rfl fnl)⟩ (fun x => ⟨(fcs rfl (fcs rfl (fcs (by simp [PV.ids, refInM]) (fcs rfl (fcs rfl (fcs rfl fnl)))))), fnl⟩) (fun x => ?_); obtain ⟨k, hk⟩ := x; simp only at hk ⊢
 by_cases h : (k : Int) < (A.length : Int)
 ·(have hka : k < (A).length := by omega); (have w1 := w64s hka (hAm)); (have i1 : (0 : Int) ≤ (k : Int) := by omega)
  have htk : ((A.take (k + 1)).map fun f => valE f (thereM seen ⟨item, f.at'⟩)) = ((A.take k).map fun f => valE f (thereM seen ⟨item, f.at'⟩)) ++ [valE (A.getD k default) (thereM seen ⟨item, (A.getD k default).at'⟩)] := by rw [take_snoc (d := default) hka, List.map_append]; rfl
  have hlk : ((A.take k).map fun f => valE f (thereM seen ⟨item, f.at'⟩)).length = k := by simp; omega
  have hrm := room1 (show k + 1 ≤ 1000000 by omega) (show 72 ≤ 1000 by omega)
  have hsz := sized_ent ((A.take k).map fun f => valE f (thereM seen ⟨item, f.at'⟩))
  have hV1 := hV (A.getD k default) ⟨item, (A.getD k default).at'⟩
  have hfp := findP_sps0 ⟨item, (A.getD k default).at'⟩ ks
  have hget : ∀ i, i < ks.length → (ks.map fun s => opvs (thereM seen s)).getD i .any = opvs (thereM seen (ks.getD i default)) := fun i hi => by rw [getD_lt (by simpa using hi), getD_lt hi, List.getElem_map]
  generalize hx : A.getD k default = x at *
  generalize ((A.take k).map fun f => valE f (thereM seen ⟨item, f.at'⟩)) = E at *
  generalize hv : valE x (thereM seen ⟨item, x.at'⟩) = v at *
  have hsx : Sized 5 [ent v] := sized_ent [v]
  have hax : Atoms [ent v] := atoms_ent [v]
  have hml : (E.map ent).length = k := by rw [List.length_map]; exact hlk
  simp only [ent] at hsx hax
  simp only at hfp
  cases hf : ks.findIdx? (fun y => decide ((⟨item, x.at'⟩ : Sp) = y)) with
  | none =>
   rw [hf] at hfp
   have hn : thereM seen ⟨item, x.at'⟩ = [] := there_none (fun hh => idxS_mem.1 hf ((hks _).2 hh))
   rw [hn] at hV1
   simp only [go_sem, flds, h, getD_fld hka, hx, fld, i1]
   refine vDrawQ (by kernel_rfl) (by kernel_rfl) ?_
   simp only [go_sem, hfp]
   refine vCall_of (hV1) ?_ ?_ ?_; iterate 2 simp only [go_sem, fld, opvs]
   simp only [go_sem, ent, hsz, hsx, hax, hml, hrm, w1]
   exact ⟨⟨k + 1, by omega⟩, by show A.length - (k + 1) < A.length - k; omega, ⟨rfl, by simp only; rw [htk, List.map_append]; exact (fcs rfl (fcs rfl (fcs rfl (fcs rfl (fcs rfl (fcs rfl fnl)))))), fnl, fcs rfl fnl⟩⟩
  | some i =>
   rw [hf] at hfp
   obtain ⟨hi, he⟩ := idxS_at hf
   have hg := hget i hi
   rw [he] at hg
   simp only [go_sem, flds, h, getD_fld hka, hx, fld, i1]
   refine vDrawQ (by kernel_rfl) (by kernel_rfl) ?_
   simp only [go_sem, hfp, hg]
   refine vCall_of (hV1) ?_ ?_ ?_; iterate 2 simp only [go_sem, fld, opvs]
   simp only [go_sem, ent, hsz, hsx, hax, hml, hrm, w1]
   exact ⟨⟨k + 1, by omega⟩, by show A.length - (k + 1) < A.length - k; omega, ⟨rfl, by simp only; rw [htk, List.map_append]; exact (fcs rfl (fcs rfl (fcs rfl (fcs rfl (fcs rfl (fcs rfl fnl)))))), fnl, fcs rfl fnl⟩⟩
 ·have htk : A.take k = A := List.take_of_length_le (by omega)
  simp only [go_sem, flds, h, htk, ents]
end Go.Proofs.YthingdchjkhfbaaGreat
