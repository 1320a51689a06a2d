/- Contracts of functions and laws of this seat, each for every input that it names: lemmas of the proof. -/
import Derived.Test.YthingdchjkhfbaaGreatVXCs
import Derived.Test.YthingdchjkhfbaaGreatVPlI
import Derived.Test.YthingdchjkhfbaaGreatVPlH
import Derived.Test.YthingdchjkhfbaaGreatVXBe
set_option linter.unusedSimpArgs false
set_option linter.unusedVariables false
set_option linter.unusedSimpArgs false
set_option linter.unusedVariables false
namespace Go.Proofs.YthingdchjkhfbaaGreat
open Go.PL Go.PL.Srt
def readL (m : List Eg) (l : List Opn) : List Opn := l.filter fun o => readO m o
def dropT (l : List Opn) (t : Tg) : Bool := l.any fun o => decide (t ∈ o.drops)
def aliveL (m : List Eg) (l : List Opn) : List Opn := (readL m l).filter fun o => !dropT (readL m l) o.id
def livM (m : List Eg) (l : List Opn) : List Opn := srt olessB (aliveL m l)
theorem readL_sub (m : List Eg) (l : List Opn) : (readL m l).Sublist l := List.filter_sublist
theorem aliveL_sub (m : List Eg) (l : List Opn) : (aliveL m l).Sublist l := List.filter_sublist.trans (readL_sub m l)
theorem unl_ids {l : List Opn} (h : (l.map Opn.id).Nodup) : Unl olessB l := by
 rw [List.nodup_iff_pairwise_ne, List.pairwise_map] at h
 exact h.imp fun h => oless_tot h
theorem livM_perm (m : List Eg) (l : List Opn) : (livM m l).Perm (aliveL m l) := srt_perm _
theorem livM_len (m : List Eg) (l : List Opn) : (livM m l).length ≤ l.length := by rw [(livM_perm m l).length_eq]; exact (aliveL_sub m l).length_le
theorem livM_mem {m : List Eg} {l : List Opn} {o : Opn} (h : o ∈ livM m l) : o ∈ l := (aliveL_sub m l).mem ((livM_perm m l).mem_iff.1 h)
theorem findP_tgs (t : Tg) : ∀ (l : List Tg) (i : Nat), findP [.int, .int] [.int .i64 t.r, .int .i64 t.n] (l.map tg) i = some ((l.findIdx? fun x => decide (t = x)).map (· + i))
 | [], i => rfl
 | n :: l, i => by
  have ih := findP_tgs t l (i + 1)
  simp only [List.map_cons, tg, findP, eqLeaves, eqLeaf, if_true, List.findIdx?_cons, Bool.and_true, tg_fold]
  by_cases h : t = n
  ·simp [h]
  ·simp only [h, decide_false, ih]
   simp only [Bool.false_eq_true, if_false, Option.map_map]
   congr 2
   funext x
   simp; omega
theorem findP_tgs0 (t : Tg) (l : List Tg) : findP [.int, .int] [.int .i64 t.r, .int .i64 t.n] (l.map tg) 0 = some (l.findIdx? fun x => decide (t = x)) := by
 rw [findP_tgs]; congr 1; cases List.findIdx? (fun x => decide (t = x)) l <;> rfl
theorem idxT_mem {t : Tg} {l : List Tg} : (l.findIdx? fun x => decide (t = x)) = none ↔ t ∉ l := by
 rw [List.findIdx?_eq_none_iff]
 constructor
 ·intro h hm; have := h t hm; simp at this
 ·intro h x hx; simp only [decide_eq_false_iff_not]; intro e; exact h (e ▸ hx)
theorem readL_snoc (m : List Eg) {l : List Opn} {k : Nat} (h : k < l.length) : readL m (l.take (k + 1)) = readL m (l.take k) ++ (if readO m (l.getD k default) = true then [l.getD k default] else []) := by
 unfold readL
 rw [take_snoc (d := default) h, List.filter_append]
 congr 1
 generalize l.getD k default = x
 cases hr : readO m x
 ·rw [List.filter_cons_of_neg (by rw [hr]; simp), if_neg (by simp)]; rfl
 ·rw [List.filter_cons_of_pos (by exact hr), if_pos rfl]; rfl
structure LivS (m : List Eg) (l : List Opn) where
 k : Nat
 ks : List Tg
 hk : k ≤ l.length
 h : ∀ t, t ∈ ks ↔ dropT (readL m (l.take k)) t = true
def tgm (ks : List Tg) : MapC := ⟨ks.map tg, ks.map fun _ => .agg []⟩
theorem dropT_snoc (l : List Opn) (o : Opn) (t : Tg) : dropT (l ++ [o]) t = true ↔ dropT l t = true ∨ t ∈ o.drops := by simp [dropT]
theorem set_constT {i : Nat} {l : List Tg} : (l.map fun _ => PV.agg []).set i (PV.agg []) = l.map fun _ => PV.agg [] := by
 apply List.ext_getElem
 ·simp
 ·intro j h1 h2
  rw [List.getElem_set]
  split <;> simp
set_option maxRecDepth 20000 in
set_option maxHeartbeats 32000000 in
theorem living_eff (m : List Eg) (l : List Opn) (hm : OkM m) (hl : l.length ≤ 100000) (ho : ∀ o ∈ l, OkOp o) (hU : (l.map Opn.id).Nodup) :
  Eff Tryz.prog 33 [tr (treeOf m), opvs l] noV (.vsl 63 (livM m l).length 15) (vecN 63 (livM m l).length 15 37 ((livM m l).map opv)) := by
 have hcl : ∀ l : List Opn, ∀ p ∈ l.map opv, p.ids = [] := fun l => ids_mapV opv_ids l
 refine Eff.vn [63] Tryz.func33 (by decide) rfl Tryz.ntmps33 Tryz.results33 (by simp) (hcl _) (by simp [PV.ids, tr, opvs]) (by simp [PV.ids]) ?_
 have hlm : l.length ≤ maxLen := by rw [maxLen_eq]; omega
 simp only [go_sem, tr, opvs]
 intro b
 refine awp_nilRow 5 32 15 37 rfl rfl ?_
 refine vLoopX (ι := LivS m l) 68 (fun x => [(0, tr (treeOf m)), (5, .sl (.row 32) ((readL m (l.take x.k)).map opv)), (6, .mref b), (19, opvs l), (20, .int .i64 (l.length : Int)), (21, .int .i64 (x.k : Int))]) (fun _ => []) (fun x => [(32, .live (readL m (l.take x.k)).length 15 37)]) (fun x => [(b, tgm x.ks)]) (fun _ => []) (fun _ => []) (fun _ => []) [] [] [63] (fun x => l.length - x.k) ⟨0, [], Nat.zero_le _, fun t => by simp [dropT, readL]⟩
  (hasX_r rfl (fcs rfl (fcs rfl (fcs rfl (fcs rfl (fcs rfl (fcs rfl fnl)))))) rfl (by simp [upd, Hp.setq, St.with, tgm])) (fun x => wholeX_r (fcs rfl (fcs rfl (fcs rfl (fcs rfl (fcs rfl (fcs rfl fnl))))))) (fun x => ?_)
 obtain ⟨k, ks, hk, h⟩ := x
 simp only
 by_cases hlt : (k : Int) < (l.length : Int)
 ·have hka : k < l.length := by omega
  have i0 : (0 : Int) ≤ (k : Int) := by omega
  have w1 : IntKind.i64.wrap ((k : Int) + 1) = ((k + 1 : Nat) : Int) := by rw [w64 (by omega)]; rfl
  have hR := TrRead_pure m (l.getD k default) hm (ho _ (getD_mem' hka))
  have hsn := readL_snoc m hka
  have hrl : (readL m (l.take k)).length ≤ 100000 := Nat.le_trans (Nat.le_trans (readL_sub _ _).length_le (List.length_take_le _ _)) (by omega)
  cases hrd : readO m (l.getD k default)
  ·rw [hrd] at hR
   rw [hrd] at hsn
   simp only [Bool.false_eq_true, if_false, List.append_nil] at hsn
   simp only [go_sem, opvs, hlt, List.length_map, getD_op hka, opv, i0]
   refine vCall_of (hR) ?_ ?_ ?_; iterate 2 simp only [go_sem, tr, opv]
   simp only [go_sem, w1]
   exact ⟨⟨k + 1, ks, by omega, fun t => by rw [hsn]; exact h t⟩, by show l.length - (k + 1) < l.length - k; omega, hasX_r rfl (by simp only; rw [hsn]; exact (fcs rfl (fcs rfl (fcs rfl (fcs rfl (fcs rfl (fcs rfl fnl))))))) (by simp only; rw [hsn]; rfl) (by simp [upd, Hp.setq, St.with, mkStX, upds])⟩
  ·rw [hrd] at hR
   rw [hrd] at hsn
   simp only [if_true] at hsn
   have hrm := room1 (show (readL m (l.take k)).length + 1 ≤ 1000000 by omega) (show 176 ≤ 1000 by omega)
   have hdl := (ho (l.getD k default) (getD_mem' hka)).d
   generalize hx : l.getD k default = x at *
   have hsz := sized_op (readL m (l.take k))
   have hsx : Sized 15 [opv x] := sized_op [x]
   have hax : Atoms [opv x] := atoms_op [x]
   have hml : ((readL m (l.take k)).map opv).length = (readL m (l.take k)).length := List.length_map _
   simp only [opv] at hsx hax
   simp only [go_sem, opvs, hlt, List.length_map, getD_op hka, hx, opv, i0]
   refine vCall_of (hR) ?_ ?_ ?_; iterate 2 simp only [go_sem, tr, opv]
   simp only [go_sem, hml, hrm, hsz, hsx, hax]
   refine vLoopX (ι := { jk : Nat × List Tg // jk.1 ≤ x.drops.length ∧ ∀ t, t ∈ jk.2 ↔ (dropT (readL m (l.take k)) t = true ∨ t ∈ x.drops.take jk.1) }) 68 (fun y => [(0, tr (treeOf m)), (5, .sl (.row 32) ((readL m (l.take k) ++ [x]).map opv)), (6, .mref b), (19, opvs l), (20, .int .i64 (l.length : Int)), (21, .int .i64 (k : Int)), (34, tgs x.drops), (35, .int .i64 (x.drops.length : Int)), (36, .int .i64 (y.1.1 : Int))]) (fun _ => []) (fun y => [(32, .live ((readL m (l.take k)).length + 1) 15 37)]) (fun y => [(b, tgm y.1.2)]) (fun _ => []) (fun _ => []) (fun _ => []) [] [] [63] (fun y => x.drops.length - y.1.1) ⟨(0, ks), Nat.zero_le _, fun t => by rw [h t]; simp⟩
    (hasX_r rfl (by rw [List.map_append]; exact (fcs rfl (fcs rfl (fcs rfl (fcs rfl (fcs rfl (fcs rfl (fcs rfl (fcs rfl (fcs rfl fnl)))))))))) rfl (by simp [upd, Hp.setq, St.with, mkStX, upds])) (fun y => wholeX_r (fcs rfl (fcs rfl (fcs rfl (fcs rfl (fcs rfl (fcs rfl (fcs rfl (fcs rfl (fcs rfl fnl)))))))))) (fun y => ?_)
   obtain ⟨⟨j, ks'⟩, hj, h'⟩ := y
   simp only at hj h' ⊢
   by_cases hjt : (j : Int) < (x.drops.length : Int)
   ·have hja : j < x.drops.length := by omega
    have j0 : (0 : Int) ≤ (j : Int) := by omega
    have w2 : IntKind.i64.wrap ((j : Int) + 1) = ((j + 1 : Nat) : Int) := by rw [w64 (by omega)]; rfl
    have hmem : ∀ t, t ∈ x.drops.take (j + 1) ↔ t ∈ x.drops.take j ∨ t = x.drops.getD j default := fun t => by rw [take_snoc (d := default) hja]; simp
    generalize ht : x.drops.getD j default = t at *
    cases hf : ks'.findIdx? (fun y => decide (t = y)) with
    | none =>
     simp only [go_sem, tgs, hjt, List.length_map, getD_tg hja, ht, tg, j0, tgm, findP_tgs0, hf, w2]
     refine ⟨⟨(j + 1, ks' ++ [t]), hja, fun u => ?_⟩, by show x.drops.length - (j + 1) < x.drops.length - j; omega, hasX_r rfl (fcs rfl (fcs rfl (fcs rfl (fcs rfl (fcs rfl (fcs rfl (fcs rfl (fcs rfl (fcs rfl fnl))))))))) rfl (by simp [upd, Hp.setq, St.with, mkStX, upds, tgm, tg])⟩
     rw [hmem, List.mem_append, h', List.mem_singleton, or_assoc]
    | some i =>
     simp only [go_sem, tgs, hjt, List.length_map, getD_tg hja, ht, tg, j0, tgm, findP_tgs0, hf, w2]
     have hin : t ∈ ks' := Classical.not_not.1 fun hn => by rw [idxT_mem.2 hn] at hf; cases hf
     refine ⟨⟨(j + 1, ks'), hja, fun u => ?_⟩, by show x.drops.length - (j + 1) < x.drops.length - j; omega, hasX_r rfl (fcs rfl (fcs rfl (fcs rfl (fcs rfl (fcs rfl (fcs rfl (fcs rfl (fcs rfl (fcs rfl fnl))))))))) rfl (by simp [upd, Hp.setq, St.with, mkStX, upds, tgm, set_constT])⟩
     rw [hmem, ← or_assoc, ← h']
     constructor
     ·exact .inl
     ·rintro (e | e)
      ·exact e
      ·rw [e]; exact hin
   ·obtain rfl : j = x.drops.length := by omega
    rw [List.take_length] at h'
    simp only [go_sem, hjt, w1]
    refine ⟨⟨k + 1, ks', by omega, fun t => by rw [hsn, dropT_snoc]; exact h' t⟩, by show l.length - (k + 1) < l.length - k; omega, hasX_r rfl (by simp only; rw [hsn]; exact (fcs rfl (fcs rfl (fcs rfl (fcs rfl (fcs rfl (fcs rfl fnl))))))) (by simp only; rw [hsn, List.length_append]; rfl) (by simp [upd, Hp.setq, St.with, mkStX, upds])⟩
 ·obtain rfl : k = l.length := by omega
  rw [List.take_length] at h
  simp only [go_sem, hlt, List.take_length]
  generalize hrd : readL m l = rd at *
  have hrl : rd.length ≤ 100000 := by rw [← hrd]; exact Nat.le_trans (readL_sub _ _).length_le hl
  have hal : aliveL m l = rd.filter fun o => !dropT rd o.id := by unfold aliveL; rw [hrd]
  refine awp_nilVec 11 63 15 37 rfl rfl ?_
  refine vLoopX (ι := { k : Nat // k ≤ rd.length }) 68 (fun y => [(6, .mref b), (11, .vsl 63 ((rd.take y.1).filter fun o => !dropT rd o.id).length 15), (45, .sl (.row 32) (rd.map opv)), (46, .int .i64 (rd.length : Int)), (47, .int .i64 (y.1 : Int))]) (fun _ => []) (fun y => [(63, .vec ((rd.take y.1).filter fun o => !dropT rd o.id).length 15 37), (32, .live rd.length 15 37)]) (fun y => [(b, tgm ks)]) (fun _ => []) (fun y => [(63, ((rd.take y.1).filter fun o => !dropT rd o.id).map opv)]) (fun _ => []) [] [] [63] (fun y => rd.length - y.1) ⟨0, Nat.zero_le _⟩
   (hasX_vro rfl (fcs rfl (fcs rfl (fcs rfl (fcs rfl (fcs rfl fnl))))) rfl rfl rfl (by simp [upd, Hp.setq, St.with, mkStX, upds, tgm])) (fun y => wholeX_vr (by simp [PV.ids, PV.idsL, refInM]) (idsL_mapV opv_ids _)) (fun y => ?_)
  obtain ⟨k, hk⟩ := y
  simp only
  by_cases hlt2 : (k : Int) < (rd.length : Int)
  ·have hka : k < rd.length := by omega
   have i0 : (0 : Int) ≤ (k : Int) := by omega
   have w1 : IntKind.i64.wrap ((k : Int) + 1) = ((k + 1 : Nat) : Int) := by rw [w64 (by omega)]; rfl
   have hsn : (rd.take (k + 1)).filter (fun o => !dropT rd o.id) = (rd.take k).filter (fun o => !dropT rd o.id) ++ (if dropT rd (rd.getD k default).id = true then [] else [rd.getD k default]) := by
    rw [take_snoc (d := default) hka, List.filter_append]
    congr 1
    generalize rd.getD k default = x
    cases hr : dropT rd x.id
    ·rw [List.filter_cons_of_pos (by rw [hr]; rfl), if_neg (by simp)]; rfl
    ·rw [List.filter_cons_of_neg (by rw [hr]; simp), if_pos rfl]; rfl
   have hfl : ((rd.take k).filter fun o => !dropT rd o.id).length ≤ k := Nat.le_trans (List.length_filter_le _ _) (List.length_take_le _ _)
   have hrm := room1 (show ((rd.take k).filter fun o => !dropT rd o.id).length + 1 ≤ 1000000 by omega) (show 176 ≤ 1000 by omega)
   generalize hx : rd.getD k default = x at *
   generalize hal2 : (rd.take k).filter (fun o => !dropT rd o.id) = al at *
   have hml : (al.map opv).length = al.length := List.length_map _
   have hai : ∀ p ∈ al.map opv, p.ids = [] := hcl al
   cases hf : ks.findIdx? (fun y => decide (x.id = y)) with
   | none =>
    have hd : dropT rd x.id = false := by
     rw [Bool.eq_false_iff]
     exact fun hh => idxT_mem.1 hf ((h _).2 hh)
    rw [hd, if_neg (by simp)] at hsn
    simp only [go_sem, opvs, hlt2, List.length_map, getD_op hka, hx, opv, i0, tgm, tg, findP_tgs0, hf, w1, hml, hrm]
    refine ⟨fun p hp => by rw [List.mem_singleton.1 hp]; exact ⟨rfl, rfl⟩, fun p hp => by rw [List.mem_singleton.1 hp]; exact opv_ids x, fun p hp => ?_, ⟨k + 1, by omega⟩, by show rd.length - (k + 1) < rd.length - k; omega, hasX_vro rfl ?_ ?_ rfl ?_ ?_⟩
    ·rcases List.mem_append.1 hp with hp | hp
     ·rw [hai p hp]; simp
     ·rw [List.mem_singleton.1 hp]; simp [PV.ids, PV.idsL]
    ·simp only; rw [hsn, List.length_append]; exact (fcs rfl (fcs rfl (fcs rfl (fcs rfl (fcs rfl fnl)))))
    ·simp only; rw [hsn, List.length_append]; rfl
    ·simp only; rw [hsn, List.map_append]; rfl
    ·simp [upd, Hp.setq, St.with, mkStX, upds, appM]
   | some i =>
    have hd : dropT rd x.id = true := (h _).1 (Classical.not_not.1 fun hn => by rw [idxT_mem.2 hn] at hf; cases hf)
    rw [hd, if_pos rfl, List.append_nil] at hsn
    have hik : i < ks.length := (List.findIdx?_eq_some_iff_getElem.1 hf).1
    have hgd : (ks.map fun _ => PV.agg []).getD i .any = .agg [] := by rw [getD_lt (by simpa using hik)]; simp
    simp only [go_sem, opvs, hlt2, List.length_map, getD_op hka, hx, opv, i0, tgm, tg, findP_tgs0, hf, w1, hgd]
    refine ⟨⟨k + 1, by omega⟩, by show rd.length - (k + 1) < rd.length - k; omega, hasX_vro rfl ?_ ?_ rfl ?_ ?_⟩
    ·simp only; rw [hsn]; exact (fcs rfl (fcs rfl (fcs rfl (fcs rfl (fcs rfl fnl)))))
    ·simp only; rw [hsn]; rfl
    ·simp only; rw [hsn]; rfl
    ·simp [upd, Hp.setq, St.with, mkStX, upds]
  ·have htk : rd.take k = rd := List.take_of_length_le (by omega)
   have hSS := SortStable_eff ops_sort 37 (aliveL m l).length (by have := (aliveL_sub m l).length_le; omega) (aliveL m l) (unl_ids (List.Nodup.sublist ((aliveL_sub m l).map _) hU)) rfl _ rfl
   rw [hal] at hSS
   simp only [go_sem, opvs, hlt2, htk]
   refine vCall_vw 63 hSS (by simp [PV.ids, PV.idsL]) (hcl _) (hcl _) rfl rfl rfl ?_
   simp only [go_sem]
   have hlv : livM m l = srt olessB (rd.filter fun o => !dropT rd o.id) := by unfold livM; rw [hal]
   have hll : (livM m l).length = (rd.filter fun o => !dropT rd o.id).length := by rw [hlv, srt_length]
   rw [hll, hlv]
   exact eret_vn (r0 := .vsl 63 _ 15) (hcl _) rfl (.keep _ (by intro i hi; simp [PV.ids] at hi; subst hi; exact ⟨_, List.mem_singleton.2 rfl, rfl⟩)) rfl rfl
end Go.Proofs.YthingdchjkhfbaaGreat
set_option linter.unusedSimpArgs false
set_option linter.unusedVariables false
set_option linter.unusedSimpArgs false
set_option linter.unusedVariables false
namespace Go.Proofs.YthingdchjkhfbaaGreat
open Go.PL
open Go.Shelf Go.RowKit Go.Lib Go.Sort
def flatStr : Flat Str where
 p := .str
 v := fun s => [.string ⟨⟨s⟩⟩]
 sz := 1
 pos := by decide
 hp := fun _ => rfl
 hv := fun _ => rfl
 to := fun S x j u hj h => by
  match j, hj with
  | 0, _ => cases h; rfl
 of := fun S x j hj => by
  match j, hj with
  | 0, _ => exact .str _
theorem cellS {w : World} {b o : Nat} {vs : List Value} {e : TypeId} (h : w.heap[b]? = some (.cells ⟨vs⟩ e (0, 0))) (ho : o < vs.length) : w.cell? ⟨b, o, none⟩ = some (vs.getD o undef) := by
 rw [cell_of h, List.getElem?_eq_getElem ho, PL.getD_lt ho]
theorem getS (xs : List Str) (j : Nat) (h : j < xs.length) : xs.toArray[j]! = xs.getD j default := by
 rw [PL.getD_lt h]
 simp [h]
theorem raw_holdsS {w : World} {b : Nat} {xs : List Str} {e : TypeId} {vs : List Value} (hw : w.heap[b]? = some (.cells ⟨vs⟩ e (0, 0))) (hl : xs.length * flatStr.sz ≤ vs.length)
  (hv : ∀ i j, i < xs.length → j < flatStr.sz → vs.getD (i * flatStr.sz + j) undef = (flatStr.v (xs.getD i default)).getD j undef) : Holds encStr w b 0 xs.toArray := by
 intro j hj
 have hj' : j < xs.length := by simpa using hj
 have hl' : xs.length ≤ vs.length := by simpa [flatStr] using hl
 have h1 := hv j 0 hj' (by decide)
 simp only [flatStr, Nat.mul_one, Nat.add_zero, List.getD_cons_zero] at h1
 rw [Nat.zero_add, getS xs j hj']
 refine ⟨?_, ?_⟩
 ·rw [cellS hw (by omega), h1]
 ·simp [World.frozen?, hw]
theorem raw_putS {w : World} {b c n lo : Nat} {xs ys rest : List Str} {e : TypeId} {vs : List Value} {os : Array Obj} (hlo : lo ≤ b) (hc : xs.length ≤ c) (hw : w.heap[b]? = some (.cells ⟨vs⟩ e (0, 0))) (hl : xs.length * flatStr.sz ≤ vs.length) (hy : (ys ++ rest).length = xs.length) :
  RawRow flatStr (grow (putRow encStr (Sort.ahead w n) b 0 (ys ++ rest).toArray) os) lo ys (.slice (some ⟨b, 0, none⟩) ys.length c) ∧ BelowF (fun k => k < lo) w (grow (putRow encStr (Sort.ahead w n) b 0 (ys ++ rest).toArray) os) := by
 have hb : b < w.heap.size := (Array.getElem?_eq_some_iff.1 hw).1
 have hl' : xs.length ≤ vs.length := by simpa [flatStr] using hl
 have hyl : ys.length ≤ xs.length := by rw [← hy]; simp
 have hs : (grow (putRow encStr (Sort.ahead w n) b 0 (ys ++ rest).toArray) os).heap = w.heap.modify b (onCells (putCells encStr 0 (ys ++ rest).toArray)) ++ os := rfl
 have hat : ∀ k, k < w.heap.size → (grow (putRow encStr (Sort.ahead w n) b 0 (ys ++ rest).toArray) os).heap[k]? = (w.heap.modify b (onCells (putCells encStr 0 (ys ++ rest).toArray)))[k]? := fun k hk => by
  rw [hs, Array.getElem?_append_left (by simpa using hk)]
 refine ⟨.inr ⟨b, c, e, (putCells encStr 0 (ys ++ rest).toArray ⟨vs⟩).toList, hlo, rfl, by omega, ?_, ?_, fun i j hi hj => ?_⟩, ?_⟩
 ·rw [hat b hb, Array.getElem?_modify, if_pos rfl, hw]; rfl
 ·show ys.length * 1 ≤ _
  simp only [putCells, Array.length_toList, Array.size_mapIdx, List.size_toArray]; omega
 ·have hj0 : j = 0 := by have : j < 1 := hj; omega
  subst hj0
  have hiv : i < vs.length := by omega
  show (putCells encStr 0 (ys ++ rest).toArray ⟨vs⟩).toList.getD (i * 1 + 0) undef = [Value.string ⟨⟨ys.getD i default⟩⟩].getD 0 undef
  simp only [Nat.mul_one, Nat.add_zero, List.getD_cons_zero]
  rw [PL.getD_lt (by simpa [putCells] using hiv)]
  simp only [putCells, Array.getElem_toList, Array.getElem_mapIdx]
  rw [if_pos ⟨Nat.zero_le _, by simp; omega⟩]
  simp only [Nat.sub_zero]
  rw [getS (ys ++ rest) i (by simp; omega), PL.getD_lt (by simp; omega), PL.getD_lt hi, List.getElem_append_left hi]
 ·refine ⟨rfl, rfl, rfl, ?_, fun k hk => ?_⟩
  ·rw [hs]; simp
  ·have hk' : k < lo := hk
   rw [hat k (by omega), Array.getElem?_modify, if_neg (by omega)]
def sortS (xs : List Str) : List Str := xs.mergeSort fun x y => decide (x ≤ y)
theorem sort_callS (xs : List Str) (lo : Nat) (w : World) (v : Value) (hx : xs.length ≤ 1000000) (hr : RawRow flatStr w lo xs v) (hlo : lo ≤ w.heap.size) :
  Calls Tryz.prog 70 #[v] w fun e w' => e = .returned (.tuple #[]) ∧ RawRow flatStr w' lo (sortS xs) v ∧ BelowF (fun k => k < lo) w w' := by
 rcases hr with ⟨h0, rfl⟩ | ⟨b, c, e, vs, h1, rfl, h3, h4, h5, h6⟩
 ·obtain rfl := List.length_eq_zero_iff.1 h0
  refine (Any.slices_Sort_string_none sortStr none 0 w).mono fun e w' ⟨he, hw⟩ => ?_
  subst hw
  exact ⟨he, .inl ⟨by simp [sortS], rfl⟩, BelowF.refl _ _⟩
 ·have hb : b < w.heap.size := (Array.getElem?_eq_some_iff.1 h4).1
  refine (Any.slices_Sort_string sortStr b 0 c xs w (raw_holdsS h4 h5 h6) hb (by omega)).mono fun e w' ⟨he, n, os, hw⟩ => ⟨he, ?_⟩
  have hly : (sortS xs ++ []).length = xs.length := by simp [sortS]
  have hrs := raw_putS (ys := sortS xs) (rest := []) (n := n) (os := os) h1 h3 h4 h5 hly
  rw [List.append_nil] at hrs hly
  rw [hly] at hrs
  rw [hw]
  exact hrs
theorem compact_len (xs : List Str) : (Lib.compact xs).length ≤ xs.length := by
 unfold Lib.compact Lib.compactUpTo
 rw [List.length_map]
 exact Nat.le_trans (List.length_filter_le _ _) (by simp)
theorem comp_callS (xs : List Str) (lo : Nat) (w : World) (v : Value) (hx : xs.length ≤ 1000000) (hr : RawRow flatStr w lo xs v) :
  Calls Tryz.prog 71 #[v] w fun e w' => ∃ u, e = .returned u ∧ RawRow flatStr w' lo (Lib.compact xs) u ∧ BelowF (fun k => k < lo) w w' := by
 rcases hr with ⟨h0, rfl⟩ | ⟨b, c, e, vs, h1, rfl, h3, h4, h5, h6⟩
 ·obtain rfl := List.length_eq_zero_iff.1 h0
  refine (Any.slices_Compact_string_empty compStr none 0 w).mono fun e w' ⟨he, hw⟩ => ?_
  subst hw
  exact ⟨_, he, .inl ⟨by have := compact_len []; simpa using this, rfl⟩, BelowF.refl _ _⟩
 ·refine (Any.slices_Compact_string compStr b 0 c xs w (raw_holdsS h4 h5 h6) (by omega) h3).mono fun e w' ⟨he, n, hw⟩ => ⟨_, he, ?_⟩
  have hcl := compact_len xs
  have hrs := raw_putS (ys := Lib.compact xs) (rest := List.replicate (xs.length - (Lib.compact xs).length) []) (n := n) (os := #[]) h1 h3 h4 h5 (by simp; omega)
  have hg : ∀ W : World, grow W #[] = W := fun W => by simp [grow]
  rw [hg] at hrs
  rw [hw]
  exact hrs
def namesM (l : List Opn) (c : Str) : List Str := (l.filter fun o => o.kind == 1 && o.cart == c).map Opn.item
def itemsM (l : List Opn) (c : Str) : List Str := Lib.compact (sortS (namesM l c))
theorem namesM_snoc {l : List Opn} {k : Nat} (c : Str) (h : k < l.length) : namesM (l.take (k + 1)) c = namesM (l.take k) c ++ (if ((l.getD k default).kind == 1 && (l.getD k default).cart == c) = true then [(l.getD k default).item] else []) := by
 unfold namesM
 rw [take_snoc (d := default) h, List.filter_append, List.map_append]
 congr 1
 generalize l.getD k default = x
 cases hr : (x.kind == 1 && x.cart == c)
 ·rw [List.filter_cons_of_neg (by rw [hr]; simp), if_neg (by simp)]; rfl
 ·rw [List.filter_cons_of_pos (by exact hr), if_pos rfl]; rfl
theorem namesM_len (l : List Opn) (c : Str) : (namesM l c).length ≤ l.length := by unfold namesM; rw [List.length_map]; exact List.length_filter_le _ _
theorem sized_strL (l : List Str) : Sized 1 (l.map .str) := fun e he => by
 obtain ⟨o, _, rfl⟩ := List.mem_map.1 he; rfl
set_option maxRecDepth 20000 in
set_option maxHeartbeats 4000000 in
theorem items_told (l : List Opn) (ct : Str) (hl : l.length ≤ 100000) {c : Code} (hc : Tryz.f38.body = some c) : tawp Tryz.prog (fun s => s.n = 33 ∧ s.fr 5 = .sl (.row 27) ((namesM l ct).map .str) ∧ s.m.q 27 = some (.live (namesM l ct).length 1 9)) 3 c (St.init [opvs l, .str ct] 33) := by
 cases hc
 have hlm : l.length ≤ maxLen := by rw [maxLen_eq]; omega
 refine tawp_seq ?_
 simp only [go_sem]
 refine tawp_seq ?_
 simp only [go_sem]
 refine tawp_seq ?_
 simp only [go_sem, opvs]
 refine awp_nilRow 5 27 1 9 rfl rfl ?_
 refine vLoopM (ι := { x : Nat // x ≤ (l).length }) 33 (fun x => [(1, .str ct), (5, .sl (.row 27) ((namesM (l.take x.1) ct).map .str)), (8, opvs l), (9, .int .i64 (l.length : Int)), (10, .int .i64 (x.1 : Int))]) (fun x => []) (fun x => [(27, .live ((namesM (l.take x.1) ct).length) (1) (9))]) (fun x => (l).length - x.1) ⟨0, Nat.zero_le _⟩ ⟨rfl, (fcs rfl (fcs rfl (fcs rfl (fcs rfl (fcs rfl fnl))))), fnl, (fcs rfl fnl)⟩ (fun x => ⟨(fcs rfl (fcs (by simp [PV.ids, refInM]) (fcs rfl (fcs rfl (fcs rfl fnl))))), fnl⟩) (fun x => ?_); obtain ⟨k, hk⟩ := x; simp only at hk ⊢
 by_cases h : (k : Int) < (l.length : Int)
 ·(have hka : k < (l).length := by omega); (have w1 := w64s hka (hlm)); (have i1 : (0 : Int) ≤ (k : Int) := by omega)
  have hsn := namesM_snoc ct hka
  have hnl := namesM_len (l.take k) ct
  have htl : (l.take k).length ≤ k := List.length_take_le _ _
  have hrm := room1 (show (namesM (l.take k) ct).length + 1 ≤ 1000000 by omega) (show 16 ≤ 1000 by omega)
  have hml : ((namesM (l.take k) ct).map PV.str).length = (namesM (l.take k) ct).length := List.length_map _
  have hsz := sized_strL (namesM (l.take k) ct)
  generalize hx : l.getD k default = x at *
  cases k1 : (x.kind == 1)
  ·rw [k1, Bool.false_and, if_neg (by simp), List.append_nil] at hsn
   simp only [go_sem, opvs, h, getD_op hka, hx, opv, i1, k1, w1]
   exact ⟨⟨k + 1, by omega⟩, by show l.length - (k + 1) < l.length - k; omega, ⟨rfl, by simp only; rw [hsn]; exact (fcs rfl (fcs rfl (fcs rfl (fcs rfl (fcs rfl fnl))))), fnl, by simp only; rw [hsn]; exact fcs rfl fnl⟩⟩
  ·cases k2 : (x.cart == ct)
   ·rw [k1, k2, Bool.and_false, if_neg (by simp), List.append_nil] at hsn
    simp only [go_sem, opvs, h, getD_op hka, hx, opv, i1, k1, k2, w1]
    exact ⟨⟨k + 1, by omega⟩, by show l.length - (k + 1) < l.length - k; omega, ⟨rfl, by simp only; rw [hsn]; exact (fcs rfl (fcs rfl (fcs rfl (fcs rfl (fcs rfl fnl))))), fnl, by simp only; rw [hsn]; exact fcs rfl fnl⟩⟩
   ·rw [k1, k2, Bool.and_self, if_pos rfl] at hsn
    simp only [go_sem, opvs, h, getD_op hka, hx, opv, i1, k1, k2, w1, hml, hsz, hrm]
    exact ⟨⟨k + 1, by omega⟩, by show l.length - (k + 1) < l.length - k; omega, ⟨rfl, by simp only; rw [hsn, List.map_append]; exact (fcs rfl (fcs rfl (fcs rfl (fcs rfl (fcs rfl fnl))))), fnl, by simp only; rw [hsn, List.length_append]; exact fcs rfl fnl⟩⟩
 ·have htk : l.take k = l := List.take_of_length_le (by omega)
  simp only [go_sem, opvs, h, htk]
  exact ⟨rfl, rfl, rfl⟩
theorem items_pure (l : List Opn) (ct : Str) (hl : l.length ≤ 100000) : PL.Pure Tryz.prog 38 [opvs l, .str ct] (.sl .no ((itemsM l ct).map .str)) := by
 have hnl := namesM_len l ct
 refine PL.Pure.tail flatStr (k := 3) (i := 5) (d := 27) (N := 33) (G := fun xs => xs = namesM l ct) (g := fun xs => Lib.compact (sortS xs)) Tryz.func38 (by decide) rfl (by show 2 ≤ 33; decide) (by simp only [PV.dids, didsL_str]) (items_told l ct hl rfl) (fun s ⟨h2, h3, h4⟩ => ⟨namesM l ct, _, rfl, h2, h3, h4⟩) ?_ (fun xs h => by rw [h]; rfl)
 intro xs lo a w hG hd hN hr hlo
 subst hG
 have hcall := sort_callS _ lo w _ (by omega) hr hlo
 refine wp_sort_comp (N := 33) hN (by decide) (by decide) (by decide) (by decide) (by decide) (by decide) (by decide) Tryz.func70 (by decide) (by intro h; cases h) Tryz.func71 (by decide) (by intro h; cases h) ?_
 refine hcall.mono fun e w' ⟨he, h1, h2⟩ => ⟨_, he, ?_⟩
 refine (comp_callS _ lo w' _ (by simp [sortS]; omega) h1).mono fun e w'' ⟨u, he, h3, h4⟩ => ⟨u, he, fun a' hd' hr' => ⟨.inr rfl, by rw [hd', hd], ?_⟩⟩
 exact ⟨a'.tmps.getD 4 undef, Go.results_tmp rfl _ _ _, by rw [hr']; exact h3, h2.trans h4⟩
end Go.Proofs.YthingdchjkhfbaaGreat
set_option linter.unusedSimpArgs false
set_option linter.unusedVariables false
set_option linter.unusedSimpArgs false
set_option linter.unusedVariables false
namespace Go.Proofs.YthingdchjkhfbaaGreat
open Go.PL
def plusV (a b : Int) : PV := if fitsI a = true ∧ fitsI b = true then .tup [.cpx .f64 (flOf a) (flOf b), .int .i64 0] else .tup [.cpx .f64 0 0, .int .i64 3]
theorem flOf_zero : flOf 0 = 0 := by decide +kernel
set_option maxHeartbeats 4000000 in
theorem Plus_pure (a b c d : Int) (ha : Lim a) (hb : Lim b) (hc : Lim c) (hd : Lim d) : PL.Pure Tryz.prog 110 [.cpx .f64 (flOf a) (flOf b), .cpx .f64 (flOf c) (flOf d)] (plusV (a + c) (b + d)) := by
 have hW1 := Whole_pure a b ha hb
 have hW2 := Whole_pure c d hc hd
 have hP1 := Parts_pure a b ha hb
 have hP2 := Parts_pure c d hc hd
 have hO := Of_pure (a + c) (b + d)
 have w1 : IntKind.i64.wrap (a + c) = a + c := w64 (by obtain ⟨_, _⟩ := ha; obtain ⟨_, _⟩ := hc; omega)
 have w2 : IntKind.i64.wrap (b + d) = b + d := w64 (by obtain ⟨_, _⟩ := hb; obtain ⟨_, _⟩ := hd; omega)
 unfold plusV
 generalize fitsI (a + c) = x at *
 generalize fitsI (b + d) = y at *
 by_cases h : x = true ∧ y = true
 ·rw [if_pos h] at hO ⊢
  refine PL.Pure.of_v Tryz.func110 (by decide) rfl Tryz.ntmps110 Tryz.results110 (by simp) rfl ?_
  simp only [go_sem]
  refine vCall_of (hW1) ?_ ?_ ?_; iterate 2 simp only [go_sem]
  simp only [go_sem]
  refine vCall_of (hW2) ?_ ?_ ?_; iterate 2 simp only [go_sem]
  simp only [go_sem]
  refine vCall_of (hP1) ?_ ?_ ?_; iterate 2 simp only [go_sem]
  simp only [go_sem]
  refine vCall_of (hP2) ?_ ?_ ?_; iterate 2 simp only [go_sem]
  simp only [go_sem, w1, w2]
  refine vCall_of (hO) ?_ ?_ ?_; iterate 2 simp only [go_sem]
  simp only [go_sem]
 ·rw [if_neg h] at hO ⊢
  refine PL.Pure.of_v Tryz.func110 (by decide) rfl Tryz.ntmps110 Tryz.results110 (by simp) rfl ?_
  simp only [go_sem]
  refine vCall_of (hW1) ?_ ?_ ?_; iterate 2 simp only [go_sem]
  simp only [go_sem]
  refine vCall_of (hW2) ?_ ?_ ?_; iterate 2 simp only [go_sem]
  simp only [go_sem]
  refine vCall_of (hP1) ?_ ?_ ?_; iterate 2 simp only [go_sem]
  simp only [go_sem]
  refine vCall_of (hP2) ?_ ?_ ?_; iterate 2 simp only [go_sem]
  simp only [go_sem, w1, w2]
  refine vCall_of (hO) ?_ ?_ ?_; iterate 2 simp only [go_sem]
  simp only [go_sem]
def stepT (s : Int) (o : Opn) : Int := if o.kind = 3 ∧ fitsI o.delta = true ∧ fitsI (s + o.delta) = true then s + o.delta else s
def totM (l : List Opn) : Int := l.foldl stepT 0
theorem stepT_lim {s : Int} {o : Opn} (h : Lim s) : Lim (stepT s o) := by
 unfold stepT
 split
 ·rename_i h2; exact fitsI_iff.1 h2.2.2
 ·exact h
theorem totM_lim : ∀ (l : List Opn) {s : Int}, Lim s → Lim (l.foldl stepT s)
 | [], s, h => h
 | o :: l, s, h => totM_lim l (stepT_lim h)
theorem lim0 : Lim 0 := by unfold Lim; omega
theorem totM_snoc {l : List Opn} {k : Nat} (h : k < l.length) : totM (l.take (k + 1)) = stepT (totM (l.take k)) (l.getD k default) := by
 unfold totM
 rw [take_snoc (d := default) h, List.foldl_append]
 rfl
set_option maxRecDepth 20000 in
set_option maxHeartbeats 8000000 in
theorem total_pure (l : List Opn) (hl : l.length ≤ maxLen) : PL.Pure Tryz.prog 69 [opvs l] (.int .i64 (totM l)) := by
 have f0 : fitsI 0 = true := by decide
 have hP := Parts_pure (totM l) 0 (totM_lim l lim0) lim0
 have hl2 := hl
 rw [maxLen_eq] at hl2
 refine PL.Pure.of_v Tryz.func69 (by decide) rfl Tryz.ntmps69 Tryz.results69 (by simp) rfl ?_
 simp only [go_sem, opvs]
 refine vLoopM (ι := { k : Nat // k ≤ l.length }) 47 (fun x => [(3, .cpx .f64 (flOf (totM (l.take x.1))) (flOf 0)), (13, opvs l), (14, .int .i64 (l.length : Int)), (15, .int .i64 (x.1 : Int))]) (fun x => []) (fun x => []) (fun x => l.length - x.1) ⟨0, Nat.zero_le _⟩
  ⟨rfl, fcs (by show PV.cpx .f64 0 0 = PV.cpx .f64 (flOf 0) (flOf 0); rw [flOf_zero]) (fcs rfl (fcs rfl (fcs rfl fnl))), fnl, fnl⟩ (fun x => ⟨(fcs rfl (fcs rfl (fcs rfl (fcs rfl fnl)))), fnl⟩) (fun x => ?_)
 obtain ⟨k, hk⟩ := x
 simp only
 by_cases h : (k : Int) < (l.length : Int)
 ·have hka : k < l.length := by omega
  have i1 : (0 : Int) ≤ (k : Int) := by omega
  have w1 : IntKind.i64.wrap ((k : Int) + 1) = ((k + 1 : Nat) : Int) := by rw [w64 (by omega)]; rfl
  have hsn := totM_snoc hka
  have hs : Lim (totM (l.take k)) := totM_lim _ lim0
  generalize totM (l.take k) = s at *
  generalize hx : l.getD k default = x at *
  by_cases k3 : x.kind = 3
  ·have e3 : (x.kind != 3) = false := by simpa using k3
   have hO := Of_pure x.delta 0
   cases f1 : fitsI x.delta
   ·rw [f1] at hO
    have hz : stepT s x = s := by unfold stepT; rw [if_neg (by rw [f1]; simp)]
    rw [hz] at hsn
    simp only [Bool.false_eq_true, false_and, if_false] at hO
    simp only [go_sem, opvs, h, getD_op hka, hx, opv, i1, e3]
    refine vCall_of (hO) ?_ ?_ ?_; iterate 2 simp only [go_sem]
    simp only [go_sem, w1]
    exact ⟨⟨k + 1, by omega⟩, by show l.length - (k + 1) < l.length - k; omega, ⟨rfl, fcs (by simp only; rw [hsn]; rfl) (fcs rfl (fcs rfl (fcs rfl fnl))), fnl, fnl⟩⟩
   ·have hd : Lim x.delta := fitsI_iff.1 f1
    rw [f1, f0] at hO
    simp only [and_self, if_true] at hO
    have hPl := Plus_pure s 0 x.delta 0 hs lim0 hd lim0
    cases f2 : fitsI (s + x.delta)
    ·have hz : stepT s x = s := by unfold stepT; rw [if_neg (by rw [f2]; simp)]
     rw [hz] at hsn
     unfold plusV at hPl
     rw [f2] at hPl
     simp only [Bool.false_eq_true, false_and, if_false] at hPl
     simp only [go_sem, opvs, h, getD_op hka, hx, opv, i1, e3]
     refine vCall_of (hO) ?_ ?_ ?_; iterate 2 simp only [go_sem]
     simp only [go_sem]
     refine vCall_of (hPl) ?_ ?_ ?_; iterate 2 simp only [go_sem]
     simp only [go_sem, w1]
     exact ⟨⟨k + 1, by omega⟩, by show l.length - (k + 1) < l.length - k; omega, ⟨rfl, fcs (by simp only; rw [hsn]; rfl) (fcs rfl (fcs rfl (fcs rfl fnl))), fnl, fnl⟩⟩
    ·have hz : stepT s x = s + x.delta := by unfold stepT; rw [if_pos ⟨k3, f1, f2⟩]
     rw [hz] at hsn
     unfold plusV at hPl
     rw [f2, show fitsI (0 + 0) = true by decide] at hPl
     simp only [and_self, if_true, Int.zero_add] at hPl
     simp only [go_sem, opvs, h, getD_op hka, hx, opv, i1, e3]
     refine vCall_of (hO) ?_ ?_ ?_; iterate 2 simp only [go_sem]
     simp only [go_sem]
     refine vCall_of (hPl) ?_ ?_ ?_; iterate 2 simp only [go_sem]
     simp only [go_sem, w1]
     exact ⟨⟨k + 1, by omega⟩, by show l.length - (k + 1) < l.length - k; omega, ⟨rfl, fcs (by simp only; rw [hsn]; rfl) (fcs rfl (fcs rfl (fcs rfl fnl))), fnl, fnl⟩⟩
  ·have e3 : (x.kind != 3) = true := by simpa using k3
   have hz : stepT s x = s := by unfold stepT; rw [if_neg (fun hh => k3 hh.1)]
   rw [hz] at hsn
   simp only [go_sem, opvs, h, getD_op hka, hx, opv, i1, e3, w1]
   exact ⟨⟨k + 1, by omega⟩, by show l.length - (k + 1) < l.length - k; omega, ⟨rfl, fcs (by simp only; rw [hsn]; rfl) (fcs rfl (fcs rfl (fcs rfl fnl))), fnl, fnl⟩⟩
 ·have htk : l.take k = l := List.take_of_length_le (by omega)
  simp only [go_sem, opvs, h, htk]
  refine vCall_of (hP) ?_ ?_ ?_; iterate 2 simp only [go_sem]
  simp only [go_sem]
def textsM (l : List Opn) : List Str := (l.filter fun o => o.kind == 4 && o.has).map Opn.text
theorem textsM_snoc {l : List Opn} {k : Nat} (h : k < l.length) : textsM (l.take (k + 1)) = textsM (l.take k) ++ (if ((l.getD k default).kind == 4 && (l.getD k default).has) = true then [(l.getD k default).text] else []) := by
 unfold textsM
 rw [take_snoc (d := default) h, List.filter_append, List.map_append]
 congr 1
 generalize l.getD k default = x
 cases hr : (x.kind == 4 && x.has)
 ·rw [List.filter_cons_of_neg (by rw [hr]; simp), if_neg (by simp)]; rfl
 ·rw [List.filter_cons_of_pos (by exact hr), if_pos rfl]; rfl
theorem textsM_len (l : List Opn) : (textsM l).length ≤ l.length := by unfold textsM; rw [List.length_map]; exact List.length_filter_le _ _
def valE (f : Fd) (ops : List Opn) : En :=
 if f.kind = 1 then ⟨f.at', totM ops, (valueM f).l⟩
 else ⟨f.at', 0, if f.kind = 4 then textsM ops else if (textsM ops).length = 0 then (valueM f).l else [(textsM ops).getD ((textsM ops).length - 1) []]⟩
set_option maxRecDepth 20000 in
set_option maxHeartbeats 16000000 in
theorem value_pure (f : Fd) (l : List Opn) (hl : l.length ≤ 100000) : PL.Pure Tryz.prog 37 [fld f, opvs l] (ent (valE f l)) := by
 have hV := Value_pure f
 have hlm : l.length ≤ maxLen := by rw [maxLen_eq]; omega
 have hT := total_pure l hlm
 have hva : (valueM f).at' = f.at' := rfl
 have hvn : (valueM f).n = 0 := rfl
 unfold valE
 generalize valueM f = v at *
 obtain ⟨va, vn, vl⟩ := v
 simp only at hva hvn
 subst hva hvn
 by_cases k1 : f.kind = 1
 ·have e1 : (f.kind == 1) = true := by simpa using k1
  rw [if_pos k1]
  refine PL.Pure.of_v Tryz.func37 (by decide) rfl Tryz.ntmps37 Tryz.results37 (by simp) (ent_dids _) ?_
  simp only [go_sem, fld, opvs]
  refine vCall_of (hV) ?_ ?_ ?_; iterate 2 simp only [go_sem, fld]
  simp only [go_sem, ent, e1]
  refine vCall_of (hT) ?_ ?_ ?_; iterate 2 simp only [go_sem, opvs]
  simp only [go_sem, ent]
 ·have e1 : (f.kind == 1) = false := by simpa using k1
  rw [if_neg k1]
  refine PL.Pure.of_v Tryz.func37 (by decide) rfl Tryz.ntmps37 Tryz.results37 (by simp) (ent_dids _) ?_
  simp only [go_sem, fld, opvs]
  refine vCall_of (hV) ?_ ?_ ?_; iterate 2 simp only [go_sem, fld]
  simp only [go_sem, ent, e1]
  refine awp_nilRow 6 35 1 9 rfl rfl ?_
  refine vLoopM (ι := { x : Nat // x ≤ (l).length }) 56 (fun x => [(2, .ptr 2 0), (4, .ptr 4 0), (5, .ptr 5 0), (6, .sl (.row 35) ((textsM (l.take x.1)).map .str)), (18, opvs l), (19, .int .i64 (l.length : Int)), (20, .int .i64 (x.1 : Int))]) (fun x => [(2, [.int .i64 f.at'.sc, .str f.at'.gr, .str f.at'.nm, .int .i64 f.kind, .str f.df, .sl .no (f.cases'.map .str), .int .i64 f.worth], false), (4, [.int .i64 0, .str [], .str [], .int .i64 0, .sl .nil []], false), (5, [.int .i64 f.at'.sc, .str f.at'.gr, .str f.at'.nm, .int .i64 0, .sl .no (vl.map .str)], false)]) (fun x => [(35, .live ((textsM (l.take x.1)).length) (1) (9))]) (fun x => (l).length - x.1) ⟨0, Nat.zero_le _⟩ ⟨rfl, (fcs rfl (fcs rfl (fcs rfl (fcs rfl (fcs rfl (fcs rfl (fcs rfl fnl))))))), (fcs ⟨rfl, rfl⟩ (fcs ⟨rfl, rfl⟩ (fcs ⟨rfl, rfl⟩ fnl))), (fcs rfl fnl)⟩ (fun x => ⟨(fcs rfl (fcs rfl (fcs rfl (fcs (by simp [PV.ids, refInM]) (fcs rfl (fcs rfl (fcs rfl fnl))))))), (fcs rfl (fcs rfl (fcs rfl fnl)))⟩) (fun x => ?_); obtain ⟨k, hk⟩ := x; simp only at hk ⊢
  by_cases h : (k : Int) < (l.length : Int)
  ·(have hka : k < (l).length := by omega); (have w1 := w64s hka (hlm)); (have i1 : (0 : Int) ≤ (k : Int) := by omega)
   have hsn := textsM_snoc hka
   have hnl := textsM_len (l.take k)
   have htl : (l.take k).length ≤ k := List.length_take_le _ _
   have hrm := room1 (show (textsM (l.take k)).length + 1 ≤ 1000000 by omega) (show 16 ≤ 1000 by omega)
   have hml : ((textsM (l.take k)).map PV.str).length = (textsM (l.take k)).length := List.length_map _
   have hsz := sized_strL (textsM (l.take k))
   generalize hx : l.getD k default = x at *
   cases k1 : (x.kind == 4)
   ·rw [k1, Bool.false_and, if_neg (by simp), List.append_nil] at hsn
    simp only [go_sem, opvs, h, getD_op hka, hx, opv, i1, k1, w1]
    exact ⟨⟨k + 1, by omega⟩, by show l.length - (k + 1) < l.length - k; omega, ⟨rfl, by simp only; rw [hsn]; exact (fcs rfl (fcs rfl (fcs rfl (fcs rfl (fcs rfl (fcs rfl (fcs rfl fnl))))))), (fcs ⟨rfl, rfl⟩ (fcs ⟨rfl, rfl⟩ (fcs ⟨rfl, rfl⟩ fnl))), by simp only; rw [hsn]; exact fcs rfl fnl⟩⟩
   ·cases k2 : x.has
    ·rw [k1, k2, Bool.and_false, if_neg (by simp), List.append_nil] at hsn
     simp only [go_sem, opvs, h, getD_op hka, hx, opv, i1, k1, k2, w1]
     exact ⟨⟨k + 1, by omega⟩, by show l.length - (k + 1) < l.length - k; omega, ⟨rfl, by simp only; rw [hsn]; exact (fcs rfl (fcs rfl (fcs rfl (fcs rfl (fcs rfl (fcs rfl (fcs rfl fnl))))))), (fcs ⟨rfl, rfl⟩ (fcs ⟨rfl, rfl⟩ (fcs ⟨rfl, rfl⟩ fnl))), by simp only; rw [hsn]; exact fcs rfl fnl⟩⟩
    ·rw [k1, k2, Bool.and_self, if_pos rfl] at hsn
     simp only [go_sem, opvs, h, getD_op hka, hx, opv, i1, k1, k2, w1, hml, hsz, hrm]
     exact ⟨⟨k + 1, by omega⟩, by show l.length - (k + 1) < l.length - k; omega, ⟨rfl, by simp only; rw [hsn, List.map_append]; exact (fcs rfl (fcs rfl (fcs rfl (fcs rfl (fcs rfl (fcs rfl (fcs rfl fnl))))))), (fcs ⟨rfl, rfl⟩ (fcs ⟨rfl, rfl⟩ (fcs ⟨rfl, rfl⟩ fnl))), by simp only; rw [hsn, List.length_append]; exact fcs rfl fnl⟩⟩
  ·have htk : l.take k = l := List.take_of_length_le (by omega)
   rw [htk]
   have hnl := textsM_len l
   by_cases k4 : f.kind = 4
   ·have e4 : (f.kind == 4) = true := by simpa using k4
    rw [if_pos k4]
    simp only [go_sem, opvs, h, e4, ent]
   ·have e4 : (f.kind == 4) = false := by simpa using k4
    rw [if_neg k4]
    have hml : ((textsM l).map PV.str).length = (textsM l).length := List.length_map _
    by_cases k5 : (textsM l).length = 0
    ·have e5 : ¬ (0 : Int) < ((textsM l).length : Int) := by omega
     rw [if_pos k5]
     simp only [go_sem, opvs, h, e4, ent, hml, e5]
    ·have e5 : (0 : Int) < ((textsM l).length : Int) := by omega
     have w5 : IntKind.i64.wrap (((textsM l).length : Int) - 1) = (((textsM l).length - 1 : Nat) : Int) := by rw [w64 (by omega)]; omega
     have hlt : (textsM l).length - 1 < (textsM l).length := by omega
     have b5 : (0 : Int) ≤ (((textsM l).length - 1 : Nat) : Int) ∧ (((textsM l).length - 1 : Nat) : Int) < ((textsM l).length : Int) := by omega
     rw [if_neg k5]
     simp only [go_sem, opvs, h, e4, ent, hml, e5, w5, b5.1, b5.2, getD_str hlt]
end Go.Proofs.YthingdchjkhfbaaGreat
