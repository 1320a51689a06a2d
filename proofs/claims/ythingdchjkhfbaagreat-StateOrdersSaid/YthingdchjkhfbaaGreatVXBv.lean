/- Contracts of functions and laws of this seat, each for every input that it names: lemmas of the proof. -/
import Derived.Test.YthingdchjkhfbaaGreatVXBo
import Derived.Test.YthingdchjkhfbaaGreatVXBe
set_option linter.unusedSimpArgs false
set_option linter.unusedVariables false
set_option linter.unusedSimpArgs false
set_option linter.unusedVariables false
namespace Go.Proofs.YthingdchjkhfbaaGreat
open Go.PL
theorem legs_in {m : List Eg} {a b : Tg} (h : pathC m a b = 0) (ha : Apart m) : ∀ x ∈ legsW (wayD m a) (wayD m b), ∃ e, e ∈ m ∧ findE m x.id = some e ∧ x.id = e.id := by
 obtain ⟨h1, h2⟩ := pathC_zero.1 h
 obtain ⟨wa, _, _⟩ := live_way h1
 obtain ⟨wb, _, _⟩ := live_way h2
 intro x hx
 have key : ∀ e ∈ m, ∃ e', e' ∈ m ∧ findE m e.id = some e' ∧ e.id = e'.id := fun e he => ⟨e, he, ha.find he, rfl⟩
 unfold legsW at hx
 rcases List.mem_append.1 hx with hx | hx
 ·obtain ⟨e, he, rfl⟩ := List.mem_map.1 hx
  exact key e (wa.mem e (List.mem_of_mem_drop (List.mem_reverse.1 he)))
 ·obtain ⟨e, he, rfl⟩ := List.mem_map.1 hx
  exact key e (wb.mem e (List.mem_of_mem_drop he))
def lenses (m : List Eg) (l : List Lg) : List Ln := l.map fun x => (lensM m x).1
def rowM (m : List Eg) (a b : Tg) : List Ln × Int := if pathC m a b ≠ 0 then ([], pathC m a b) else (lenses m (legsW (wayD m a) (wayD m b)), 0)
def lnss (l : List Ln) : PV := .sl .no (l.map lns)
def lnsc (x : List Ln × Int) : PV := .tup [lnss x.1, .int .i64 x.2]
theorem lnss_dids (l : List Ln) : (lnss l).dids = [] := by
 unfold lnss
 simp only [PV.dids]
 induction l with
 | nil => rfl
 | cons e l ih => simp only [List.map_cons, PV.didsL, ih, lns_dids, List.append_nil]
theorem lnsc_dids (x : List Ln × Int) : (lnsc x).dids = [] := by simp only [lnsc, PV.dids, PV.didsL, lnss_dids, List.append_nil]
theorem sized_ln (l : List Ln) : Sized 16 (l.map lns) := fun e he => by
 obtain ⟨x, _, rfl⟩ := List.mem_map.1 he; rfl
theorem getD_ln {l : List Ln} {i : Nat} (h : i < l.length) : (l.map lns).getD i .any = lns (l.getD i default) := getD_map h
set_option maxRecDepth 20000 in
set_option maxHeartbeats 16000000 in
theorem Row_pure (m : List Eg) (a b : Tg) (hm : OkM m) (hr : RightM m) : PL.Pure Tryz.prog 44 [tr (treeOf m), tg a, tg b] (lnsc (rowM m a b)) := by
 have hP := Path_pure m a b hm
 have hll := legs_len m a b hm
 unfold rowM
 unfold pathM at hP hll
 by_cases hc : pathC m a b = 0
 ·have hin := legs_in hc hm.a
  simp only [hc, ne_eq, not_true_eq_false, if_false] at hP hll ⊢
  generalize legsW (wayD m a) (wayD m b) = legs at *
  have hlm : legs.length ≤ maxLen := by rw [maxLen_eq]; omega
  refine PL.Pure.of_v Tryz.func44 (by decide) rfl Tryz.ntmps44 Tryz.results44 (by simp) (lnsc_dids _) ?_
  simp only [go_sem, tr, tg]
  refine vCall_of (hP) ?_ ?_ ?_; iterate 2 simp only [go_sem, tr, tg]
  simp only [go_sem, legsc, lgs, List.length_map]
  repeat ((with_reducible refine And.intro ?_ ?_); (focus ((repeat' (with_reducible apply And.intro)) <;> (first | omega | exact room_small (by omega) (by omega) | exact room_small (by simp; omega) (by omega) | exact sized_str _ | (simp; done) | (simp; omega)))))
  refine awp_moveRow 10 27 46 0 16 75 [] rfl rfl rfl ?_
  refine vLoopM (ι := { x : Nat // x ≤ (legs).length }) 49 (fun x => [(0, tr (treeOf m)), (10, .sl (.row 46) ((lenses m (legs.take x.1)).map lns)), (28, lgs legs), (29, .int .i64 (legs.length : Int)), (30, .int .i64 (x.1 : Int))]) (fun x => []) (fun x => [(46, .live (x.1) (16) (75))]) (fun x => (legs).length - x.1) ⟨0, Nat.zero_le _⟩ ⟨rfl, (fcs rfl (fcs rfl (fcs rfl (fcs rfl (fcs rfl fnl))))), fnl, (fcs rfl fnl)⟩ (fun x => ⟨(fcs rfl (fcs (by simp [PV.ids, refInM]) (fcs rfl (fcs rfl (fcs rfl fnl))))), fnl⟩) (fun x => ?_); obtain ⟨k, hk⟩ := x; simp only at hk ⊢
  by_cases h : (k : Int) < (legs.length : Int)
  ·(have hka : k < (legs).length := by omega); (have w1 := w64s hka (hlm)); (have i1 : (0 : Int) ≤ (k : Int) := by omega)
   obtain ⟨e, he, hfe, _⟩ := hin _ (getD_mem (d := default) hka)
   have hL := TLens_pure m (legs.getD k default) hm hr
   have hz : (lensM m (legs.getD k default)).2 = 0 := by unfold lensM; rw [hfe]; simp only; split <;> rfl
   have hts : legs.take (k + 1) = legs.take k ++ [legs.getD k default] := by rw [List.take_add_one, getD_lt hka]; simp [hka]
   have hkl : (lenses m (legs.take k)).length = k := by simp [lenses]; omega
   have hrm := room1 (show k + 1 ≤ 1000000 by omega) (show 232 ≤ 1000 by omega)
   simp only [go_sem, tr, h, lgs, getD_lg hka, lg, i1]
   refine vCall_of (hL) ?_ ?_ ?_; iterate 2 simp only [go_sem, tr, lg]
   simp only [go_sem, lnc, hz, lns, sized_ln, List.length_map, hkl, hrm, w1]
   exact ⟨⟨k + 1, by (try simp only); omega⟩, by show (legs).length - (k + 1) < (legs).length - k; omega, ⟨rfl, (fcs rfl (fcs (by (show PV.sl _ _ = PV.sl _ _; simp [hts, lenses, lns])) (fcs rfl (fcs rfl (fcs rfl fnl))))), fnl, (fcs rfl fnl)⟩⟩
  ·obtain rfl : k = legs.length := by omega
   have htk : legs.take legs.length = legs := List.take_length
   simp only [go_sem, h, htk, lnsc, lnss]
 ·have hc' : (pathC m a b != 0) = true := by simpa using hc
  simp only [ne_eq, hc, not_false_eq_true, if_true] at hP ⊢
  refine PL.Pure.of_v Tryz.func44 (by decide) rfl Tryz.ntmps44 Tryz.results44 (by simp) (lnsc_dids _) ?_
  simp only [go_sem, tr, tg]
  refine vCall_of (hP) ?_ ?_ ?_; iterate 2 simp only [go_sem, tr, tg]
  simp only [go_sem, legsc, lgs, hc', lnsc, lnss, List.map_nil]
end Go.Proofs.YthingdchjkhfbaaGreat
set_option linter.unusedSimpArgs false
set_option linter.unusedVariables false
set_option linter.unusedSimpArgs false
set_option linter.unusedVariables false
namespace Go.Proofs.YthingdchjkhfbaaGreat
open Go.PL
end Go.Proofs.YthingdchjkhfbaaGreat
