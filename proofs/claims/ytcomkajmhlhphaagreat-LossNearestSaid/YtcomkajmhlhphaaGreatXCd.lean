/- Contracts of functions and laws of this seat, each for every input that it names: lemmas of the proof. -/
import Derived.Test.YtcomkajmhlhphaaGreatXBx
set_option linter.unusedSimpArgs false
set_option linter.unusedVariables false
set_option linter.unusedSimpArgs false
set_option linter.unusedVariables false
namespace Go.Proofs.YtcomkajmhlhphaaGreat
open Go.PL
theorem take_snoc' {α : Type} [Inhabited α] {l : List α} {k : Nat} (h : k < l.length) : l.take (k + 1) = l.take k ++ [l.getD k default] := take_snoc h
theorem okPick {l : List Fd} (h : OkFs l) (r : Rf) : (pickF l r).cases'.length ≤ 1000000 := okFind h r
theorem okPut' {l : List Fd} (h : OkFs l) {f : Fd} (hf : f.cases'.length ≤ 1000000) (ok : Bool) : OkFs (putR l f ok).1 := okWith h hf
def lncells (x : Ln) : List PV := [.int .i64 x.kind, .int .i64 x.at'.sc, .str x.at'.gr, .str x.at'.nm, .str x.nm, .str x.ot, .int .i64 x.fac, .int .i64 x.fd.at'.sc, .str x.fd.at'.gr, .str x.fd.at'.nm, .int .i64 x.fd.kind, .str x.fd.df, .sl .no (x.fd.cases'.map .str), .int .i64 x.fd.worth, .sl .no (x.fo.map pr), .sl .no (x.ba.map pr)]
set_option maxRecDepth 20000 in
set_option maxHeartbeats 32000000 in
theorem RApply_pure (l : List Fd) (u : Ln) (hl : OkFs l) (hx : OkLn u) : PL.Pure Tryz.prog 70 [flds l, lns u] (fldsc (applyM l u)) := by
  have hn := hl.n
  have hm : l.length ≤ maxLen := by rw [maxLen_eq]; omega
  have hR := RRightL_pure l hm (fun f hf => by have := hl.c f hf; rw [maxLen_eq]; omega)
  have hL := RLRight_pure u hx
  cases hrl : rightL l
  · have e : applyM l u = ([], 5) := by unfold applyM; rw [if_pos (.inl hrl)]
    rw [e]
    rw [hrl] at hR
    refine PL.Pure.of_v Tryz.func70 (by decide) rfl Tryz.ntmps70 Tryz.results70 (by simp) (fldsc_dids _) ?_
    simp only [go_sem, flds, lns]
    refine vCall_of (hR) ?_ ?_ ?_; (focus simp only [go_sem, flds]); (focus simp only [go_sem, flds])
    simp only [go_sem, fldsc, flds, List.map_nil]
  rw [hrl] at hR
  cases hrx : rightLn u
  · have e : applyM l u = ([], 5) := by unfold applyM; rw [if_pos (.inr hrx)]
    rw [e]
    rw [hrx] at hL
    refine PL.Pure.of_v Tryz.func70 (by decide) rfl Tryz.ntmps70 Tryz.results70 (by simp) (fldsc_dids _) ?_
    simp only [go_sem, flds, lns]
    refine vCall_of (hR) ?_ ?_ ?_; (focus simp only [go_sem, flds]); (focus simp only [go_sem, flds])
    simp only [go_sem]
    refine vCall_of (hL) ?_ ?_ ?_; (focus simp only [go_sem, lns]); (focus simp only [go_sem, lns])
    simp only [go_sem, fldsc, flds, List.map_nil]
  rw [hrx] at hL
  rw [apply_ref hrl hrx]
  have hkind := (rightLn_kind hrx).1
  have hG := RGoes_pure u
  have hC := RComes_pure u
  have hgl := goesR_len u
  generalize hgo : goesR u = goes at hG hgl ⊢
  have hgm : goes.length ≤ maxLen := by rw [maxLen_eq]; omega
  refine PL.Pure.of_v Tryz.func70 (by decide) rfl Tryz.ntmps70 Tryz.results70 (by simp) (fldsc_dids _) ?_
  simp only [go_sem, flds, lns]
  refine vCall_of (hR) ?_ ?_ ?_; (focus simp only [go_sem, flds]); (focus simp only [go_sem, flds])
  simp only [go_sem]
  refine vCall_of (hL) ?_ ?_ ?_; (focus simp only [go_sem, lns]); (focus simp only [go_sem, lns])
  simp only [go_sem, flds]
  refine vCall_of (hG) ?_ ?_ ?_; (focus simp only [go_sem, lns]); (focus simp only [go_sem, lns])
  simp only [go_sem, refs]
  refine awp_moveRow 7 23 46 0 7 41 [] rfl rfl rfl ?_
  refine vLoopM (ι := { x : Nat // x ≤ (goes).length ∧ (∀ r ∈ goes.take x, (findF l r).2 = 0) }) 283 (fun x => [(0, flds l), (3, .ptr 3 0), (6, flds (restM (goes.take x.1) l)), (7, .sl (.row 46) (((goes.take x.1).map (pickF l)).map fld)), (8, refs goes), (9, .int .i64 (x.1 : Int))]) (fun x => [(3, lncells u, false)]) (fun x => [(46, .live (x.1) (7) (41))]) (fun x => (goes).length - x.1) ⟨0, Nat.zero_le _, by simp⟩ ⟨rfl, (forall_cons rfl (forall_cons rfl (forall_cons rfl (forall_cons rfl (forall_cons rfl (forall_cons rfl forall_nil)))))), (forall_cons ⟨rfl, rfl⟩ forall_nil), (forall_cons rfl forall_nil)⟩ (fun x => ⟨(forall_cons rfl (forall_cons rfl (forall_cons rfl (forall_cons (by simp [PV.ids, refInM]) (forall_cons rfl (forall_cons rfl forall_nil)))))), (forall_cons rfl forall_nil)⟩) (fun x => ?_); obtain ⟨k, hk, hI⟩ := x; simp only at hk hI ⊢
  have okR := okRest (goes.take k) hl
  by_cases h : (k : Int) < (goes.length : Int)
  · (have hka : k < (goes).length := by omega); (have w1 := w64s hka (hgm)); (have i1 : (0 : Int) ≤ (k : Int) := by omega)
    have hA : PL.Pure Tryz.prog 111 [flds l, ref (goes.getD k default)] (.int .i64 (idx (atF (goes.getD k default)) l)) := RAt_pure l (goes.getD k default) hm
    have hW := RWithout_pure (restM (goes.take k) l) (goes.getD k default) okR
    have hmem : goes.getD k default ∈ goes := getD_mem hka
    rcases idx_cases (atF (goes.getD k default)) l with h2 | ⟨g, hg, h2⟩
    · rw [h2] at hA
      have hno := find_no h2
      have hex : ∃ r ∈ goes, (findF l r).2 ≠ 0 := ⟨_, hmem, by rw [hno]; decide⟩
      rw [if_pos hex]
      simp only [go_sem, refs, flds, h, List.length_map, getD_ref hka, i1, ref]
      refine vCall_of (hA) ?_ ?_ ?_; (focus simp only [go_sem, flds, ref]); (focus simp only [go_sem, flds, ref])
      simp only [go_sem, fldsc, flds, List.map_nil]
    · have i3 : ¬ (g : Int) < 0 := by omega
      have i4 : (0 : Int) ≤ (g : Int) := by omega
      have i5 : (g : Int) < (l.length : Int) := by omega
      rw [h2] at hA
      have hfa := find_at h2
      have hpk : pickF l (goes.getD k default) = l.getD g default := by unfold pickF; rw [hfa]
      have hnx : ∀ r ∈ goes.take (k + 1), (findF l r).2 = 0 := by
        intro r hr
        rw [take_snoc' hka] at hr
        rcases List.mem_append.1 hr with hr | hr
        · exact hI r hr
        · rw [List.mem_singleton.1 hr, hfa]
      have hln : ((goes.take k).map (pickF l)).length = k := by simp; omega
      have hrm := room1 (show k + 1 ≤ 1000000 by omega) (show 96 ≤ 1000 by omega)
      simp only [go_sem, refs, flds, h, List.length_map, getD_ref hka, i1, ref]
      refine vCall_of (hA) ?_ ?_ ?_; (focus simp only [go_sem, flds, ref]); (focus simp only [go_sem, flds, ref])
      simp only [go_sem, i3, i4, i5, List.length_map, getD_fld hg, fld, sized_fld, hln, hrm, refs, h, i1, getD_ref hka, ref]
      refine vCall_of (hW) ?_ ?_ ?_; (focus simp only [go_sem, flds, ref]); (focus simp only [go_sem, flds, ref])
      simp only [go_sem, fldsc, w1]
      exact ⟨⟨k + 1, by (try simp only); omega, hnx⟩, by show (goes).length - (k + 1) < (goes).length - k; omega, ⟨rfl, (forall_cons rfl (forall_cons rfl (forall_cons (by (show PV.sl _ _ = PV.sl _ _; rw [take_snoc' hka, restM_snoc])) (forall_cons (by (show PV.sl _ _ = PV.sl _ _; rw [take_snoc' hka, List.map_append, List.map_append, List.map_cons, List.map_nil, hpk]; rfl)) (forall_cons rfl (forall_cons rfl forall_nil)))))), (forall_cons ⟨rfl, rfl⟩ forall_nil), (forall_cons rfl forall_nil)⟩⟩
  · obtain rfl : k = goes.length := by omega
    have htk : goes.take goes.length = goes := List.take_length
    rw [htk] at hI okR
    have hno : ¬ ∃ r ∈ goes, (findF l r).2 ≠ 0 := fun ⟨r, hr, hn⟩ => hn (hI r hr)
    rw [if_neg hno]
    generalize hrest : restM goes l = rest at okR
    obtain ⟨kind, at', nm, ot, fac, fd, fo, ba⟩ := u
    simp only at hkind
    clear hgm hgl
    rcases hkind with rfl | rfl | rfl | rfl | rfl | rfl | rfl | rfl | rfl | rfl
    · have hgo' : goes = [at'] := by rw [← hgo]; simp [goesR]
      subst hgo'
      have hC1 : comesR ⟨1, at', nm, ot, fac, fd, fo, ba⟩ = [named at' nm] := by simp [comesR]
      rw [hC1] at hC
      have hM := Rmoved_pure (pickF l at') (named at' nm)
      have hend : endR ⟨1, at', nm, ot, fac, fd, fo, ba⟩ ([at'].map (pickF l)) rest = putR rest (movedF (pickF l at') (named at' nm)) true := by simp [endR, comesR]
      have hP := Rput_pure rest (movedF (pickF l at') (named at' nm)) true okR (okPick hl at')
      rw [hend]
      generalize putR rest (movedF (pickF l at') (named at' nm)) true = y at *
      obtain ⟨y, b⟩ := y
      cases b
      all_goals
        simp only [go_sem, refs, h, List.length_map, htk, lncells, hrest]
        refine vCall_of (hC) ?_ ?_ ?_; (focus simp only [go_sem, lns, lncells]); (focus simp only [go_sem, lns, lncells])
        simp only [go_sem, refs, flds, fld, ref, named, movedF, lncells, List.map_cons, List.map_nil, List.getD_cons_zero, List.getD_cons_succ, List.length_cons, List.length_nil]
        refine vDrawQ (by kernel_rfl) (by kernel_rfl) ?_
        simp only [go_sem, refs, flds, fld, ref, named, movedF, lncells, List.map_cons, List.map_nil, List.getD_cons_zero, List.getD_cons_succ, List.length_cons, List.length_nil]
        refine vCall_of (hM) ?_ ?_ ?_; (focus simp only [go_sem, refs, flds, fld, ref, named, movedF, lncells, List.map_cons, List.map_nil, List.getD_cons_zero, List.getD_cons_succ, List.length_cons, List.length_nil]); (focus simp only [go_sem, refs, flds, fld, ref, named, movedF, lncells, List.map_cons, List.map_nil, List.getD_cons_zero, List.getD_cons_succ, List.length_cons, List.length_nil])
        (try simp only [go_sem, refs, flds, fld, ref, named, movedF, lncells, List.map_cons, List.map_nil, List.getD_cons_zero, List.getD_cons_succ, List.length_cons, List.length_nil])
        refine vCall_of (hP) ?_ ?_ ?_; (focus simp only [go_sem, refs, flds, fld, ref, named, movedF, lncells, List.map_cons, List.map_nil, List.getD_cons_zero, List.getD_cons_succ, List.length_cons, List.length_nil]); (focus simp only [go_sem, refs, flds, fld, ref, named, movedF, lncells, List.map_cons, List.map_nil, List.getD_cons_zero, List.getD_cons_succ, List.length_cons, List.length_nil])
        simp only [go_sem, fldsb, fldsc, outR, refs, flds, fld, ref, named, movedF, lncells, List.map_cons, List.map_nil, List.getD_cons_zero, List.getD_cons_succ, List.length_cons, List.length_nil]
    · have hgo' : goes = [] := by rw [← hgo]; simp [goesR]
      subst hgo'
      have hC1 : comesR ⟨2, at', nm, ot, fac, fd, fo, ba⟩ = [fd.at'] := by simp [comesR]
      rw [hC1] at hC
      have hend : endR ⟨2, at', nm, ot, fac, fd, fo, ba⟩ (List.map (pickF l) []) rest = putR rest fd true := by simp [endR]
      have hP := Rput_pure rest fd true okR hx.c
      rw [hend]
      generalize putR rest fd true = y at *
      obtain ⟨y, b⟩ := y
      cases b
      all_goals
        simp only [go_sem, refs, h, List.length_map, htk, lncells, hrest]
        refine vCall_of (hC) ?_ ?_ ?_; (focus simp only [go_sem, lns, lncells]); (focus simp only [go_sem, lns, lncells])
        simp only [go_sem, refs, flds, fld, ref, named, movedF, lncells, List.map_cons, List.map_nil, List.getD_cons_zero, List.getD_cons_succ, List.length_cons, List.length_nil]
        refine vCall_of (hP) ?_ ?_ ?_; (focus simp only [go_sem, refs, flds, fld, ref, named, movedF, lncells, List.map_cons, List.map_nil, List.getD_cons_zero, List.getD_cons_succ, List.length_cons, List.length_nil]); (focus simp only [go_sem, refs, flds, fld, ref, named, movedF, lncells, List.map_cons, List.map_nil, List.getD_cons_zero, List.getD_cons_succ, List.length_cons, List.length_nil])
        simp only [go_sem, fldsb, fldsc, outR, refs, flds, fld, ref, named, movedF, lncells, List.map_cons, List.map_nil, List.getD_cons_zero, List.getD_cons_succ, List.length_cons, List.length_nil]
    · have hgo' : goes = [fd.at'] := by rw [← hgo]; simp [goesR]
      subst hgo'
      have hC1 : comesR ⟨3, at', nm, ot, fac, fd, fo, ba⟩ = [] := by simp [comesR]
      rw [hC1] at hC
      have hE := RFSame_pure (pickF l fd.at') fd (by have := okPick hl fd.at'; rw [maxLen_eq]; omega) (by have := hx.c; simp only at this; rw [maxLen_eq]; omega)
      have hend : endR ⟨3, at', nm, ot, fac, fd, fo, ba⟩ ([fd.at'].map (pickF l)) rest = (rest, decide (pickF l fd.at' = fd)) := by simp [endR]
      rw [hend]
      cases hb : decide (pickF l fd.at' = fd)
      all_goals
        rw [hb] at hE
        simp only [go_sem, refs, h, List.length_map, htk, lncells, hrest]
        refine vCall_of (hC) ?_ ?_ ?_; (focus simp only [go_sem, lns, lncells]); (focus simp only [go_sem, lns, lncells])
        simp only [go_sem, refs, flds, fld, ref, named, movedF, lncells, List.map_cons, List.map_nil, List.getD_cons_zero, List.getD_cons_succ, List.length_cons, List.length_nil]
        refine vDrawQ (by kernel_rfl) (by kernel_rfl) ?_
        simp only [go_sem, refs, flds, fld, ref, named, movedF, lncells, List.map_cons, List.map_nil, List.getD_cons_zero, List.getD_cons_succ, List.length_cons, List.length_nil]
        refine vCall_of (hE) ?_ ?_ ?_; (focus simp only [go_sem, refs, flds, fld, ref, named, movedF, lncells, List.map_cons, List.map_nil, List.getD_cons_zero, List.getD_cons_succ, List.length_cons, List.length_nil]); (focus simp only [go_sem, refs, flds, fld, ref, named, movedF, lncells, List.map_cons, List.map_nil, List.getD_cons_zero, List.getD_cons_succ, List.length_cons, List.length_nil])
        simp only [go_sem, fldsb, fldsc, outR, refs, flds, fld, ref, named, movedF, lncells, List.map_cons, List.map_nil, List.getD_cons_zero, List.getD_cons_succ, List.length_cons, List.length_nil]
    · have hgo' : goes = [at'] := by rw [← hgo]; simp [goesR]
      subst hgo'
      have hC1 : comesR ⟨4, at', nm, ot, fac, fd, fo, ba⟩ = [⟨at'.sc, [], at'.nm⟩] := by simp [comesR]
      rw [hC1] at hC
      have hM := Rmoved_pure (pickF l at') (⟨at'.sc, [], at'.nm⟩)
      have hend : endR ⟨4, at', nm, ot, fac, fd, fo, ba⟩ ([at'].map (pickF l)) rest = putR rest (movedF (pickF l at') (⟨at'.sc, [], at'.nm⟩)) true := by simp [endR, comesR]
      have hP := Rput_pure rest (movedF (pickF l at') (⟨at'.sc, [], at'.nm⟩)) true okR (okPick hl at')
      rw [hend]
      generalize putR rest (movedF (pickF l at') (⟨at'.sc, [], at'.nm⟩)) true = y at *
      obtain ⟨y, b⟩ := y
      cases b
      all_goals
        simp only [go_sem, refs, h, List.length_map, htk, lncells, hrest]
        refine vCall_of (hC) ?_ ?_ ?_; (focus simp only [go_sem, lns, lncells]); (focus simp only [go_sem, lns, lncells])
        simp only [go_sem, refs, flds, fld, ref, named, movedF, lncells, List.map_cons, List.map_nil, List.getD_cons_zero, List.getD_cons_succ, List.length_cons, List.length_nil]
        refine vDrawQ (by kernel_rfl) (by kernel_rfl) ?_
        simp only [go_sem, refs, flds, fld, ref, named, movedF, lncells, List.map_cons, List.map_nil, List.getD_cons_zero, List.getD_cons_succ, List.length_cons, List.length_nil]
        refine vCall_of (hM) ?_ ?_ ?_; (focus simp only [go_sem, refs, flds, fld, ref, named, movedF, lncells, List.map_cons, List.map_nil, List.getD_cons_zero, List.getD_cons_succ, List.length_cons, List.length_nil]); (focus simp only [go_sem, refs, flds, fld, ref, named, movedF, lncells, List.map_cons, List.map_nil, List.getD_cons_zero, List.getD_cons_succ, List.length_cons, List.length_nil])
        (try simp only [go_sem, refs, flds, fld, ref, named, movedF, lncells, List.map_cons, List.map_nil, List.getD_cons_zero, List.getD_cons_succ, List.length_cons, List.length_nil])
        refine vCall_of (hP) ?_ ?_ ?_; (focus simp only [go_sem, refs, flds, fld, ref, named, movedF, lncells, List.map_cons, List.map_nil, List.getD_cons_zero, List.getD_cons_succ, List.length_cons, List.length_nil]); (focus simp only [go_sem, refs, flds, fld, ref, named, movedF, lncells, List.map_cons, List.map_nil, List.getD_cons_zero, List.getD_cons_succ, List.length_cons, List.length_nil])
        simp only [go_sem, fldsb, fldsc, outR, refs, flds, fld, ref, named, movedF, lncells, List.map_cons, List.map_nil, List.getD_cons_zero, List.getD_cons_succ, List.length_cons, List.length_nil]
    · have hgo' : goes = [at'] := by rw [← hgo]; simp [goesR]
      subst hgo'
      have hC1 : comesR ⟨5, at', nm, ot, fac, fd, fo, ba⟩ = [⟨at'.sc, nm, at'.nm⟩] := by simp [comesR]
      rw [hC1] at hC
      have hM := Rmoved_pure (pickF l at') (⟨at'.sc, nm, at'.nm⟩)
      have hend : endR ⟨5, at', nm, ot, fac, fd, fo, ba⟩ ([at'].map (pickF l)) rest = putR rest (movedF (pickF l at') (⟨at'.sc, nm, at'.nm⟩)) true := by simp [endR, comesR]
      have hP := Rput_pure rest (movedF (pickF l at') (⟨at'.sc, nm, at'.nm⟩)) true okR (okPick hl at')
      rw [hend]
      generalize putR rest (movedF (pickF l at') (⟨at'.sc, nm, at'.nm⟩)) true = y at *
      obtain ⟨y, b⟩ := y
      cases b
      all_goals
        simp only [go_sem, refs, h, List.length_map, htk, lncells, hrest]
        refine vCall_of (hC) ?_ ?_ ?_; (focus simp only [go_sem, lns, lncells]); (focus simp only [go_sem, lns, lncells])
        simp only [go_sem, refs, flds, fld, ref, named, movedF, lncells, List.map_cons, List.map_nil, List.getD_cons_zero, List.getD_cons_succ, List.length_cons, List.length_nil]
        refine vDrawQ (by kernel_rfl) (by kernel_rfl) ?_
        simp only [go_sem, refs, flds, fld, ref, named, movedF, lncells, List.map_cons, List.map_nil, List.getD_cons_zero, List.getD_cons_succ, List.length_cons, List.length_nil]
        refine vCall_of (hM) ?_ ?_ ?_; (focus simp only [go_sem, refs, flds, fld, ref, named, movedF, lncells, List.map_cons, List.map_nil, List.getD_cons_zero, List.getD_cons_succ, List.length_cons, List.length_nil]); (focus simp only [go_sem, refs, flds, fld, ref, named, movedF, lncells, List.map_cons, List.map_nil, List.getD_cons_zero, List.getD_cons_succ, List.length_cons, List.length_nil])
        (try simp only [go_sem, refs, flds, fld, ref, named, movedF, lncells, List.map_cons, List.map_nil, List.getD_cons_zero, List.getD_cons_succ, List.length_cons, List.length_nil])
        refine vCall_of (hP) ?_ ?_ ?_; (focus simp only [go_sem, refs, flds, fld, ref, named, movedF, lncells, List.map_cons, List.map_nil, List.getD_cons_zero, List.getD_cons_succ, List.length_cons, List.length_nil]); (focus simp only [go_sem, refs, flds, fld, ref, named, movedF, lncells, List.map_cons, List.map_nil, List.getD_cons_zero, List.getD_cons_succ, List.length_cons, List.length_nil])
        simp only [go_sem, fldsb, fldsc, outR, refs, flds, fld, ref, named, movedF, lncells, List.map_cons, List.map_nil, List.getD_cons_zero, List.getD_cons_succ, List.length_cons, List.length_nil]
    · have hgo' : goes = [at'] := by rw [← hgo]; simp [goesR]
      subst hgo'
      have hC1 : comesR ⟨6, at', nm, ot, fac, fd, fo, ba⟩ = [named at' nm, named at' ot] := by simp [comesR]
      rw [hC1] at hC
      cases hok : (decide ((pickF l at').kind = 1) && decide (IntKind.i64.wrap ((pickF l at').worth * fac) < 1048577))
      · have hP := Rput_pure rest ⟨named at' nm, 1, [], [], (pickF l at').worth⟩ false okR (Nat.zero_le _)
        have hend : endR ⟨6, at', nm, ot, fac, fd, fo, ba⟩ ([at'].map (pickF l)) rest = putR (putR rest ⟨named at' nm, 1, [], [], (pickF l at').worth⟩ false).1 ⟨named at' ot, 1, [], [], IntKind.i64.wrap ((pickF l at').worth * fac)⟩ (putR rest ⟨named at' nm, 1, [], [], (pickF l at').worth⟩ false).2 := by simp [endR, hok]
        have okY := okPut' okR (f := ⟨named at' nm, 1, [], [], (pickF l at').worth⟩) (Nat.zero_le _) false
        rw [hend]
        generalize putR rest ⟨named at' nm, 1, [], [], (pickF l at').worth⟩ false = y1 at *
        obtain ⟨y1, b1⟩ := y1
        have hQ := Rput_pure y1 ⟨named at' ot, 1, [], [], IntKind.i64.wrap ((pickF l at').worth * fac)⟩ b1 okY (Nat.zero_le _)
        simp only at *
        generalize putR y1 ⟨named at' ot, 1, [], [], IntKind.i64.wrap ((pickF l at').worth * fac)⟩ b1 = y at *
        obtain ⟨y, b⟩ := y
        by_cases k1 : (pickF l at').kind = 1
        · have e1 : ((pickF l at').kind == 1) = true := by simpa using k1
          have e2 : decide (IntKind.i64.wrap ((pickF l at').worth * fac) < 1048577) = false := by simpa [k1] using hok
          cases b
          all_goals
            simp only [go_sem, refs, h, List.length_map, htk, lncells, hrest]
            refine vCall_of (hC) ?_ ?_ ?_; (focus simp only [go_sem, lns, lncells]); (focus simp only [go_sem, lns, lncells])
            simp only [go_sem, refs, flds, fld, ref, named, movedF, lncells, List.map_cons, List.map_nil, List.getD_cons_zero, List.getD_cons_succ, List.length_cons, List.length_nil]
            refine vDrawQ (by kernel_rfl) (by kernel_rfl) ?_
            simp only [go_sem, refs, flds, fld, ref, named, movedF, lncells, List.map_cons, List.map_nil, List.getD_cons_zero, List.getD_cons_succ, List.length_cons, List.length_nil, e1, e2]
            refine vDrawQ (by kernel_rfl) (by kernel_rfl) ?_
            simp only [go_sem, refs, flds, fld, ref, named, movedF, lncells, List.map_cons, List.map_nil, List.getD_cons_zero, List.getD_cons_succ, List.length_cons, List.length_nil]
            refine vCall_of (hP) ?_ ?_ ?_; (focus simp only [go_sem, refs, flds, fld, ref, named, movedF, lncells, List.map_cons, List.map_nil, List.getD_cons_zero, List.getD_cons_succ, List.length_cons, List.length_nil]); (focus simp only [go_sem, refs, flds, fld, ref, named, movedF, lncells, List.map_cons, List.map_nil, List.getD_cons_zero, List.getD_cons_succ, List.length_cons, List.length_nil])
            simp only [go_sem, fldsb, refs, flds, fld, ref, named, movedF, lncells, List.map_cons, List.map_nil, List.getD_cons_zero, List.getD_cons_succ, List.length_cons, List.length_nil]
            refine vCall_of (hQ) ?_ ?_ ?_; (focus simp only [go_sem, refs, flds, fld, ref, named, movedF, lncells, List.map_cons, List.map_nil, List.getD_cons_zero, List.getD_cons_succ, List.length_cons, List.length_nil]); (focus simp only [go_sem, refs, flds, fld, ref, named, movedF, lncells, List.map_cons, List.map_nil, List.getD_cons_zero, List.getD_cons_succ, List.length_cons, List.length_nil])
            simp only [go_sem, fldsb, fldsc, outR, refs, flds, fld, ref, named, movedF, lncells, List.map_cons, List.map_nil, List.getD_cons_zero, List.getD_cons_succ, List.length_cons, List.length_nil]
        · have e1 : ((pickF l at').kind == 1) = false := by simpa using k1
          cases b
          all_goals
            simp only [go_sem, refs, h, List.length_map, htk, lncells, hrest]
            refine vCall_of (hC) ?_ ?_ ?_; (focus simp only [go_sem, lns, lncells]); (focus simp only [go_sem, lns, lncells])
            simp only [go_sem, refs, flds, fld, ref, named, movedF, lncells, List.map_cons, List.map_nil, List.getD_cons_zero, List.getD_cons_succ, List.length_cons, List.length_nil]
            refine vDrawQ (by kernel_rfl) (by kernel_rfl) ?_
            simp only [go_sem, refs, flds, fld, ref, named, movedF, lncells, List.map_cons, List.map_nil, List.getD_cons_zero, List.getD_cons_succ, List.length_cons, List.length_nil, e1]
            refine vDrawQ (by kernel_rfl) (by kernel_rfl) ?_
            simp only [go_sem, refs, flds, fld, ref, named, movedF, lncells, List.map_cons, List.map_nil, List.getD_cons_zero, List.getD_cons_succ, List.length_cons, List.length_nil]
            refine vCall_of (hP) ?_ ?_ ?_; (focus simp only [go_sem, refs, flds, fld, ref, named, movedF, lncells, List.map_cons, List.map_nil, List.getD_cons_zero, List.getD_cons_succ, List.length_cons, List.length_nil]); (focus simp only [go_sem, refs, flds, fld, ref, named, movedF, lncells, List.map_cons, List.map_nil, List.getD_cons_zero, List.getD_cons_succ, List.length_cons, List.length_nil])
            simp only [go_sem, fldsb, refs, flds, fld, ref, named, movedF, lncells, List.map_cons, List.map_nil, List.getD_cons_zero, List.getD_cons_succ, List.length_cons, List.length_nil]
            refine vCall_of (hQ) ?_ ?_ ?_; (focus simp only [go_sem, refs, flds, fld, ref, named, movedF, lncells, List.map_cons, List.map_nil, List.getD_cons_zero, List.getD_cons_succ, List.length_cons, List.length_nil]); (focus simp only [go_sem, refs, flds, fld, ref, named, movedF, lncells, List.map_cons, List.map_nil, List.getD_cons_zero, List.getD_cons_succ, List.length_cons, List.length_nil])
            simp only [go_sem, fldsb, fldsc, outR, refs, flds, fld, ref, named, movedF, lncells, List.map_cons, List.map_nil, List.getD_cons_zero, List.getD_cons_succ, List.length_cons, List.length_nil]
      · have hP := Rput_pure rest ⟨named at' nm, 1, [], [], (pickF l at').worth⟩ true okR (Nat.zero_le _)
        have hend : endR ⟨6, at', nm, ot, fac, fd, fo, ba⟩ ([at'].map (pickF l)) rest = putR (putR rest ⟨named at' nm, 1, [], [], (pickF l at').worth⟩ true).1 ⟨named at' ot, 1, [], [], IntKind.i64.wrap ((pickF l at').worth * fac)⟩ (putR rest ⟨named at' nm, 1, [], [], (pickF l at').worth⟩ true).2 := by simp [endR, hok]
        have okY := okPut' okR (f := ⟨named at' nm, 1, [], [], (pickF l at').worth⟩) (Nat.zero_le _) true
        rw [hend]
        generalize putR rest ⟨named at' nm, 1, [], [], (pickF l at').worth⟩ true = y1 at *
        obtain ⟨y1, b1⟩ := y1
        have hQ := Rput_pure y1 ⟨named at' ot, 1, [], [], IntKind.i64.wrap ((pickF l at').worth * fac)⟩ b1 okY (Nat.zero_le _)
        simp only at *
        generalize putR y1 ⟨named at' ot, 1, [], [], IntKind.i64.wrap ((pickF l at').worth * fac)⟩ b1 = y at *
        obtain ⟨y, b⟩ := y
        by_cases k1 : (pickF l at').kind = 1
        · have e1 : ((pickF l at').kind == 1) = true := by simpa using k1
          have e2 : decide (IntKind.i64.wrap ((pickF l at').worth * fac) < 1048577) = true := by simpa [k1] using hok
          cases b
          all_goals
            simp only [go_sem, refs, h, List.length_map, htk, lncells, hrest]
            refine vCall_of (hC) ?_ ?_ ?_; (focus simp only [go_sem, lns, lncells]); (focus simp only [go_sem, lns, lncells])
            simp only [go_sem, refs, flds, fld, ref, named, movedF, lncells, List.map_cons, List.map_nil, List.getD_cons_zero, List.getD_cons_succ, List.length_cons, List.length_nil]
            refine vDrawQ (by kernel_rfl) (by kernel_rfl) ?_
            simp only [go_sem, refs, flds, fld, ref, named, movedF, lncells, List.map_cons, List.map_nil, List.getD_cons_zero, List.getD_cons_succ, List.length_cons, List.length_nil, e1, e2]
            refine vDrawQ (by kernel_rfl) (by kernel_rfl) ?_
            simp only [go_sem, refs, flds, fld, ref, named, movedF, lncells, List.map_cons, List.map_nil, List.getD_cons_zero, List.getD_cons_succ, List.length_cons, List.length_nil]
            refine vCall_of (hP) ?_ ?_ ?_; (focus simp only [go_sem, refs, flds, fld, ref, named, movedF, lncells, List.map_cons, List.map_nil, List.getD_cons_zero, List.getD_cons_succ, List.length_cons, List.length_nil]); (focus simp only [go_sem, refs, flds, fld, ref, named, movedF, lncells, List.map_cons, List.map_nil, List.getD_cons_zero, List.getD_cons_succ, List.length_cons, List.length_nil])
            simp only [go_sem, fldsb, refs, flds, fld, ref, named, movedF, lncells, List.map_cons, List.map_nil, List.getD_cons_zero, List.getD_cons_succ, List.length_cons, List.length_nil]
            refine vCall_of (hQ) ?_ ?_ ?_; (focus simp only [go_sem, refs, flds, fld, ref, named, movedF, lncells, List.map_cons, List.map_nil, List.getD_cons_zero, List.getD_cons_succ, List.length_cons, List.length_nil]); (focus simp only [go_sem, refs, flds, fld, ref, named, movedF, lncells, List.map_cons, List.map_nil, List.getD_cons_zero, List.getD_cons_succ, List.length_cons, List.length_nil])
            simp only [go_sem, fldsb, fldsc, outR, refs, flds, fld, ref, named, movedF, lncells, List.map_cons, List.map_nil, List.getD_cons_zero, List.getD_cons_succ, List.length_cons, List.length_nil]
        · simp [k1] at hok
    · have hgo' : goes = [at'] := by rw [← hgo]; simp [goesR]
      subst hgo'
      have hC1 : comesR ⟨7, at', nm, ot, fac, fd, fo, ba⟩ = [at'] := by simp [comesR]
      rw [hC1] at hC
      by_cases k1 : (pickF l at').kind = 2
      · have e1 : ((pickF l at').kind == 2) = true := by simpa using k1
        by_cases k2 : (pickF l at').df = ot
        · have e2 : ((pickF l at').df == ot) = true := by simpa using k2
          have hend : endR ⟨7, at', nm, ot, fac, fd, fo, ba⟩ ([at'].map (pickF l)) rest = putR rest ⟨at', 4, [], [], 0⟩ true := by simp [endR, k1, k2]
          have hP := Rput_pure rest ⟨at', 4, [], [], 0⟩ true okR (Nat.zero_le _)
          rw [hend]
          generalize putR rest ⟨at', 4, [], [], 0⟩ true = y at *
          obtain ⟨y, b⟩ := y
          cases b
          all_goals
            simp only [go_sem, refs, h, List.length_map, htk, lncells, hrest]
            refine vCall_of (hC) ?_ ?_ ?_; (focus simp only [go_sem, lns, lncells]); (focus simp only [go_sem, lns, lncells])
            simp only [go_sem, refs, flds, fld, ref, named, movedF, lncells, List.map_cons, List.map_nil, List.getD_cons_zero, List.getD_cons_succ, List.length_cons, List.length_nil]
            refine vDrawQ (by kernel_rfl) (by kernel_rfl) ?_
            simp only [go_sem, refs, flds, fld, ref, named, movedF, lncells, List.map_cons, List.map_nil, List.getD_cons_zero, List.getD_cons_succ, List.length_cons, List.length_nil, e1, e2]
            refine vCall_of (hP) ?_ ?_ ?_; (focus simp only [go_sem, refs, flds, fld, ref, named, movedF, lncells, List.map_cons, List.map_nil, List.getD_cons_zero, List.getD_cons_succ, List.length_cons, List.length_nil]); (focus simp only [go_sem, refs, flds, fld, ref, named, movedF, lncells, List.map_cons, List.map_nil, List.getD_cons_zero, List.getD_cons_succ, List.length_cons, List.length_nil])
            simp only [go_sem, fldsb, fldsc, outR, refs, flds, fld, ref, named, movedF, lncells, List.map_cons, List.map_nil, List.getD_cons_zero, List.getD_cons_succ, List.length_cons, List.length_nil]
        · have e2 : ((pickF l at').df == ot) = false := by simpa using k2
          have hend : endR ⟨7, at', nm, ot, fac, fd, fo, ba⟩ ([at'].map (pickF l)) rest = putR rest ⟨at', 4, [], [], 0⟩ false := by simp [endR, k1, k2]
          have hP := Rput_pure rest ⟨at', 4, [], [], 0⟩ false okR (Nat.zero_le _)
          rw [hend]
          generalize putR rest ⟨at', 4, [], [], 0⟩ false = y at *
          obtain ⟨y, b⟩ := y
          cases b
          all_goals
            simp only [go_sem, refs, h, List.length_map, htk, lncells, hrest]
            refine vCall_of (hC) ?_ ?_ ?_; (focus simp only [go_sem, lns, lncells]); (focus simp only [go_sem, lns, lncells])
            simp only [go_sem, refs, flds, fld, ref, named, movedF, lncells, List.map_cons, List.map_nil, List.getD_cons_zero, List.getD_cons_succ, List.length_cons, List.length_nil]
            refine vDrawQ (by kernel_rfl) (by kernel_rfl) ?_
            simp only [go_sem, refs, flds, fld, ref, named, movedF, lncells, List.map_cons, List.map_nil, List.getD_cons_zero, List.getD_cons_succ, List.length_cons, List.length_nil, e1, e2]
            refine vCall_of (hP) ?_ ?_ ?_; (focus simp only [go_sem, refs, flds, fld, ref, named, movedF, lncells, List.map_cons, List.map_nil, List.getD_cons_zero, List.getD_cons_succ, List.length_cons, List.length_nil]); (focus simp only [go_sem, refs, flds, fld, ref, named, movedF, lncells, List.map_cons, List.map_nil, List.getD_cons_zero, List.getD_cons_succ, List.length_cons, List.length_nil])
            simp only [go_sem, fldsb, fldsc, outR, refs, flds, fld, ref, named, movedF, lncells, List.map_cons, List.map_nil, List.getD_cons_zero, List.getD_cons_succ, List.length_cons, List.length_nil]
      · have e1 : ((pickF l at').kind == 2) = false := by simpa using k1
        have hend : endR ⟨7, at', nm, ot, fac, fd, fo, ba⟩ ([at'].map (pickF l)) rest = putR rest ⟨at', 4, [], [], 0⟩ false := by simp [endR, k1]
        have hP := Rput_pure rest ⟨at', 4, [], [], 0⟩ false okR (Nat.zero_le _)
        rw [hend]
        generalize putR rest ⟨at', 4, [], [], 0⟩ false = y at *
        obtain ⟨y, b⟩ := y
        cases b
        all_goals
          simp only [go_sem, refs, h, List.length_map, htk, lncells, hrest]
          refine vCall_of (hC) ?_ ?_ ?_; (focus simp only [go_sem, lns, lncells]); (focus simp only [go_sem, lns, lncells])
          simp only [go_sem, refs, flds, fld, ref, named, movedF, lncells, List.map_cons, List.map_nil, List.getD_cons_zero, List.getD_cons_succ, List.length_cons, List.length_nil]
          refine vDrawQ (by kernel_rfl) (by kernel_rfl) ?_
          simp only [go_sem, refs, flds, fld, ref, named, movedF, lncells, List.map_cons, List.map_nil, List.getD_cons_zero, List.getD_cons_succ, List.length_cons, List.length_nil, e1]
          refine vCall_of (hP) ?_ ?_ ?_; (focus simp only [go_sem, refs, flds, fld, ref, named, movedF, lncells, List.map_cons, List.map_nil, List.getD_cons_zero, List.getD_cons_succ, List.length_cons, List.length_nil]); (focus simp only [go_sem, refs, flds, fld, ref, named, movedF, lncells, List.map_cons, List.map_nil, List.getD_cons_zero, List.getD_cons_succ, List.length_cons, List.length_nil])
          simp only [go_sem, fldsb, fldsc, outR, refs, flds, fld, ref, named, movedF, lncells, List.map_cons, List.map_nil, List.getD_cons_zero, List.getD_cons_succ, List.length_cons, List.length_nil]
    · have hgo' : goes = [at'] := by rw [← hgo]; simp [goesR]
      subst hgo'
      have hC1 : comesR ⟨8, at', nm, ot, fac, fd, fo, ba⟩ = [at'] := by simp [comesR]
      rw [hC1] at hC
      have hB1 := RFroms_pure fo hx.f
      have hB2 := RFroms_pure ba hx.b
      have hS := RSame_pure (pickF l at').cases' (fromsM fo) (by have := okPick hl at'; rw [maxLen_eq]; omega) (by rw [fromsM_len]; have := hx.f; simp only at this; rw [maxLen_eq]; omega)
      by_cases k1 : (pickF l at').kind = 3
      · have e1 : ((pickF l at').kind == 3) = true := by simpa using k1
        by_cases k2 : (pickF l at').df = nm
        · have e2 : ((pickF l at').df == nm) = true := by simpa using k2
          by_cases k3 : (pickF l at').cases' = fromsM fo
          · rw [decide_eq_true k3] at hS
            have hend : endR ⟨8, at', nm, ot, fac, fd, fo, ba⟩ ([at'].map (pickF l)) rest = putR rest ⟨at', 3, ot, fromsM ba, 0⟩ true := by simp [endR, k1, k2, k3]
            have hP := Rput_pure rest ⟨at', 3, ot, fromsM ba, 0⟩ true okR (by simp only [fromsM_len]; exact hx.b)
            rw [hend]
            generalize putR rest ⟨at', 3, ot, fromsM ba, 0⟩ true = y at *
            obtain ⟨y, b⟩ := y
            cases b
            all_goals
              simp only [go_sem, refs, h, List.length_map, htk, lncells, hrest]
              refine vCall_of (hC) ?_ ?_ ?_; (focus simp only [go_sem, lns, lncells]); (focus simp only [go_sem, lns, lncells])
              simp only [go_sem, refs, flds, fld, ref, named, movedF, lncells, List.map_cons, List.map_nil, List.getD_cons_zero, List.getD_cons_succ, List.length_cons, List.length_nil]
              refine vDrawQ (by kernel_rfl) (by kernel_rfl) ?_
              simp only [go_sem, refs, flds, fld, ref, named, movedF, lncells, List.map_cons, List.map_nil, List.getD_cons_zero, List.getD_cons_succ, List.length_cons, List.length_nil, e1, e2]
              refine vCall_of (hB1) ?_ ?_ ?_; (focus simp only [go_sem, prs, refs, flds, fld, ref, named, movedF, lncells, List.map_cons, List.map_nil, List.getD_cons_zero, List.getD_cons_succ, List.length_cons, List.length_nil]); (focus simp only [go_sem, prs, refs, flds, fld, ref, named, movedF, lncells, List.map_cons, List.map_nil, List.getD_cons_zero, List.getD_cons_succ, List.length_cons, List.length_nil])
              simp only [go_sem, strs, refs, flds, fld, ref, named, movedF, lncells, List.map_cons, List.map_nil, List.getD_cons_zero, List.getD_cons_succ, List.length_cons, List.length_nil]
              refine vCall_of (hS) ?_ ?_ ?_; (focus simp only [go_sem, strs, refs, flds, fld, ref, named, movedF, lncells, List.map_cons, List.map_nil, List.getD_cons_zero, List.getD_cons_succ, List.length_cons, List.length_nil]); (focus simp only [go_sem, strs, refs, flds, fld, ref, named, movedF, lncells, List.map_cons, List.map_nil, List.getD_cons_zero, List.getD_cons_succ, List.length_cons, List.length_nil])
              simp only [go_sem, refs, flds, fld, ref, named, movedF, lncells, List.map_cons, List.map_nil, List.getD_cons_zero, List.getD_cons_succ, List.length_cons, List.length_nil]
              refine vDrawQ (by kernel_rfl) (by kernel_rfl) ?_
              simp only [go_sem, refs, flds, fld, ref, named, movedF, lncells, List.map_cons, List.map_nil, List.getD_cons_zero, List.getD_cons_succ, List.length_cons, List.length_nil]
              refine vCall_of (hB2) ?_ ?_ ?_; (focus simp only [go_sem, prs, refs, flds, fld, ref, named, movedF, lncells, List.map_cons, List.map_nil, List.getD_cons_zero, List.getD_cons_succ, List.length_cons, List.length_nil]); (focus simp only [go_sem, prs, refs, flds, fld, ref, named, movedF, lncells, List.map_cons, List.map_nil, List.getD_cons_zero, List.getD_cons_succ, List.length_cons, List.length_nil])
              simp only [go_sem, strs, refs, flds, fld, ref, named, movedF, lncells, List.map_cons, List.map_nil, List.getD_cons_zero, List.getD_cons_succ, List.length_cons, List.length_nil]
              refine vCall_of (hP) ?_ ?_ ?_; (focus simp only [go_sem, strs, refs, flds, fld, ref, named, movedF, lncells, List.map_cons, List.map_nil, List.getD_cons_zero, List.getD_cons_succ, List.length_cons, List.length_nil]); (focus simp only [go_sem, strs, refs, flds, fld, ref, named, movedF, lncells, List.map_cons, List.map_nil, List.getD_cons_zero, List.getD_cons_succ, List.length_cons, List.length_nil])
              simp only [go_sem, fldsb, fldsc, outR, refs, flds, fld, ref, named, movedF, lncells, List.map_cons, List.map_nil, List.getD_cons_zero, List.getD_cons_succ, List.length_cons, List.length_nil]
          · rw [decide_eq_false k3] at hS
            have hend : endR ⟨8, at', nm, ot, fac, fd, fo, ba⟩ ([at'].map (pickF l)) rest = putR rest ⟨at', 3, ot, fromsM ba, 0⟩ false := by simp [endR, k1, k2, k3]
            have hP := Rput_pure rest ⟨at', 3, ot, fromsM ba, 0⟩ false okR (by simp only [fromsM_len]; exact hx.b)
            rw [hend]
            generalize putR rest ⟨at', 3, ot, fromsM ba, 0⟩ false = y at *
            obtain ⟨y, b⟩ := y
            cases b
            all_goals
              simp only [go_sem, refs, h, List.length_map, htk, lncells, hrest]
              refine vCall_of (hC) ?_ ?_ ?_; (focus simp only [go_sem, lns, lncells]); (focus simp only [go_sem, lns, lncells])
              simp only [go_sem, refs, flds, fld, ref, named, movedF, lncells, List.map_cons, List.map_nil, List.getD_cons_zero, List.getD_cons_succ, List.length_cons, List.length_nil]
              refine vDrawQ (by kernel_rfl) (by kernel_rfl) ?_
              simp only [go_sem, refs, flds, fld, ref, named, movedF, lncells, List.map_cons, List.map_nil, List.getD_cons_zero, List.getD_cons_succ, List.length_cons, List.length_nil, e1, e2]
              refine vCall_of (hB1) ?_ ?_ ?_; (focus simp only [go_sem, prs, refs, flds, fld, ref, named, movedF, lncells, List.map_cons, List.map_nil, List.getD_cons_zero, List.getD_cons_succ, List.length_cons, List.length_nil]); (focus simp only [go_sem, prs, refs, flds, fld, ref, named, movedF, lncells, List.map_cons, List.map_nil, List.getD_cons_zero, List.getD_cons_succ, List.length_cons, List.length_nil])
              simp only [go_sem, strs, refs, flds, fld, ref, named, movedF, lncells, List.map_cons, List.map_nil, List.getD_cons_zero, List.getD_cons_succ, List.length_cons, List.length_nil]
              refine vCall_of (hS) ?_ ?_ ?_; (focus simp only [go_sem, strs, refs, flds, fld, ref, named, movedF, lncells, List.map_cons, List.map_nil, List.getD_cons_zero, List.getD_cons_succ, List.length_cons, List.length_nil]); (focus simp only [go_sem, strs, refs, flds, fld, ref, named, movedF, lncells, List.map_cons, List.map_nil, List.getD_cons_zero, List.getD_cons_succ, List.length_cons, List.length_nil])
              simp only [go_sem, refs, flds, fld, ref, named, movedF, lncells, List.map_cons, List.map_nil, List.getD_cons_zero, List.getD_cons_succ, List.length_cons, List.length_nil]
              refine vDrawQ (by kernel_rfl) (by kernel_rfl) ?_
              simp only [go_sem, refs, flds, fld, ref, named, movedF, lncells, List.map_cons, List.map_nil, List.getD_cons_zero, List.getD_cons_succ, List.length_cons, List.length_nil]
              refine vCall_of (hB2) ?_ ?_ ?_; (focus simp only [go_sem, prs, refs, flds, fld, ref, named, movedF, lncells, List.map_cons, List.map_nil, List.getD_cons_zero, List.getD_cons_succ, List.length_cons, List.length_nil]); (focus simp only [go_sem, prs, refs, flds, fld, ref, named, movedF, lncells, List.map_cons, List.map_nil, List.getD_cons_zero, List.getD_cons_succ, List.length_cons, List.length_nil])
              simp only [go_sem, strs, refs, flds, fld, ref, named, movedF, lncells, List.map_cons, List.map_nil, List.getD_cons_zero, List.getD_cons_succ, List.length_cons, List.length_nil]
              refine vCall_of (hP) ?_ ?_ ?_; (focus simp only [go_sem, strs, refs, flds, fld, ref, named, movedF, lncells, List.map_cons, List.map_nil, List.getD_cons_zero, List.getD_cons_succ, List.length_cons, List.length_nil]); (focus simp only [go_sem, strs, refs, flds, fld, ref, named, movedF, lncells, List.map_cons, List.map_nil, List.getD_cons_zero, List.getD_cons_succ, List.length_cons, List.length_nil])
              simp only [go_sem, fldsb, fldsc, outR, refs, flds, fld, ref, named, movedF, lncells, List.map_cons, List.map_nil, List.getD_cons_zero, List.getD_cons_succ, List.length_cons, List.length_nil]
        · have e2 : ((pickF l at').df == nm) = false := by simpa using k2
          have hend : endR ⟨8, at', nm, ot, fac, fd, fo, ba⟩ ([at'].map (pickF l)) rest = putR rest ⟨at', 3, ot, fromsM ba, 0⟩ false := by simp [endR, k1, k2]
          have hP := Rput_pure rest ⟨at', 3, ot, fromsM ba, 0⟩ false okR (by simp only [fromsM_len]; exact hx.b)
          rw [hend]
          generalize putR rest ⟨at', 3, ot, fromsM ba, 0⟩ false = y at *
          obtain ⟨y, b⟩ := y
          cases b
          all_goals
            simp only [go_sem, refs, h, List.length_map, htk, lncells, hrest]
            refine vCall_of (hC) ?_ ?_ ?_; (focus simp only [go_sem, lns, lncells]); (focus simp only [go_sem, lns, lncells])
            simp only [go_sem, refs, flds, fld, ref, named, movedF, lncells, List.map_cons, List.map_nil, List.getD_cons_zero, List.getD_cons_succ, List.length_cons, List.length_nil]
            refine vDrawQ (by kernel_rfl) (by kernel_rfl) ?_
            simp only [go_sem, refs, flds, fld, ref, named, movedF, lncells, List.map_cons, List.map_nil, List.getD_cons_zero, List.getD_cons_succ, List.length_cons, List.length_nil, e1, e2]
            refine vDrawQ (by kernel_rfl) (by kernel_rfl) ?_
            simp only [go_sem, refs, flds, fld, ref, named, movedF, lncells, List.map_cons, List.map_nil, List.getD_cons_zero, List.getD_cons_succ, List.length_cons, List.length_nil]
            refine vCall_of (hB2) ?_ ?_ ?_; (focus simp only [go_sem, prs, refs, flds, fld, ref, named, movedF, lncells, List.map_cons, List.map_nil, List.getD_cons_zero, List.getD_cons_succ, List.length_cons, List.length_nil]); (focus simp only [go_sem, prs, refs, flds, fld, ref, named, movedF, lncells, List.map_cons, List.map_nil, List.getD_cons_zero, List.getD_cons_succ, List.length_cons, List.length_nil])
            simp only [go_sem, strs, refs, flds, fld, ref, named, movedF, lncells, List.map_cons, List.map_nil, List.getD_cons_zero, List.getD_cons_succ, List.length_cons, List.length_nil]
            refine vCall_of (hP) ?_ ?_ ?_; (focus simp only [go_sem, strs, refs, flds, fld, ref, named, movedF, lncells, List.map_cons, List.map_nil, List.getD_cons_zero, List.getD_cons_succ, List.length_cons, List.length_nil]); (focus simp only [go_sem, strs, refs, flds, fld, ref, named, movedF, lncells, List.map_cons, List.map_nil, List.getD_cons_zero, List.getD_cons_succ, List.length_cons, List.length_nil])
            simp only [go_sem, fldsb, fldsc, outR, refs, flds, fld, ref, named, movedF, lncells, List.map_cons, List.map_nil, List.getD_cons_zero, List.getD_cons_succ, List.length_cons, List.length_nil]
      · have e1 : ((pickF l at').kind == 3) = false := by simpa using k1
        have hend : endR ⟨8, at', nm, ot, fac, fd, fo, ba⟩ ([at'].map (pickF l)) rest = putR rest ⟨at', 3, ot, fromsM ba, 0⟩ false := by simp [endR, k1]
        have hP := Rput_pure rest ⟨at', 3, ot, fromsM ba, 0⟩ false okR (by simp only [fromsM_len]; exact hx.b)
        rw [hend]
        generalize putR rest ⟨at', 3, ot, fromsM ba, 0⟩ false = y at *
        obtain ⟨y, b⟩ := y
        cases b
        all_goals
          simp only [go_sem, refs, h, List.length_map, htk, lncells, hrest]
          refine vCall_of (hC) ?_ ?_ ?_; (focus simp only [go_sem, lns, lncells]); (focus simp only [go_sem, lns, lncells])
          simp only [go_sem, refs, flds, fld, ref, named, movedF, lncells, List.map_cons, List.map_nil, List.getD_cons_zero, List.getD_cons_succ, List.length_cons, List.length_nil]
          refine vDrawQ (by kernel_rfl) (by kernel_rfl) ?_
          simp only [go_sem, refs, flds, fld, ref, named, movedF, lncells, List.map_cons, List.map_nil, List.getD_cons_zero, List.getD_cons_succ, List.length_cons, List.length_nil, e1]
          refine vDrawQ (by kernel_rfl) (by kernel_rfl) ?_
          simp only [go_sem, refs, flds, fld, ref, named, movedF, lncells, List.map_cons, List.map_nil, List.getD_cons_zero, List.getD_cons_succ, List.length_cons, List.length_nil]
          refine vCall_of (hB2) ?_ ?_ ?_; (focus simp only [go_sem, prs, refs, flds, fld, ref, named, movedF, lncells, List.map_cons, List.map_nil, List.getD_cons_zero, List.getD_cons_succ, List.length_cons, List.length_nil]); (focus simp only [go_sem, prs, refs, flds, fld, ref, named, movedF, lncells, List.map_cons, List.map_nil, List.getD_cons_zero, List.getD_cons_succ, List.length_cons, List.length_nil])
          simp only [go_sem, strs, refs, flds, fld, ref, named, movedF, lncells, List.map_cons, List.map_nil, List.getD_cons_zero, List.getD_cons_succ, List.length_cons, List.length_nil]
          refine vCall_of (hP) ?_ ?_ ?_; (focus simp only [go_sem, strs, refs, flds, fld, ref, named, movedF, lncells, List.map_cons, List.map_nil, List.getD_cons_zero, List.getD_cons_succ, List.length_cons, List.length_nil]); (focus simp only [go_sem, strs, refs, flds, fld, ref, named, movedF, lncells, List.map_cons, List.map_nil, List.getD_cons_zero, List.getD_cons_succ, List.length_cons, List.length_nil])
          simp only [go_sem, fldsb, fldsc, outR, refs, flds, fld, ref, named, movedF, lncells, List.map_cons, List.map_nil, List.getD_cons_zero, List.getD_cons_succ, List.length_cons, List.length_nil]
    · have hgo' : goes = [named at' nm, named at' ot] := by rw [← hgo]; simp [goesR]
      subst hgo'
      have hC1 : comesR ⟨9, at', nm, ot, fac, fd, fo, ba⟩ = [at'] := by simp [comesR]
      rw [hC1] at hC
      by_cases k1 : (pickF l (named at' nm)).kind = 1
      · have e1 : ((pickF l (named at' nm)).kind == 1) = true := by simpa using k1
        by_cases k2 : (pickF l (named at' ot)).kind = 1
        · have e2 : ((pickF l (named at' ot)).kind == 1) = true := by simpa using k2
          by_cases k3 : (pickF l (named at' ot)).worth = IntKind.i64.wrap ((pickF l (named at' nm)).worth * fac)
          · have e3 : ((pickF l (named at' ot)).worth == IntKind.i64.wrap ((pickF l (named at' nm)).worth * fac)) = true := by simpa using k3
            have hend : endR ⟨9, at', nm, ot, fac, fd, fo, ba⟩ ([named at' nm, named at' ot].map (pickF l)) rest = putR rest ⟨at', 1, [], [], (pickF l (named at' nm)).worth⟩ true := by simp [endR, k1, k2, k3]
            have hP := Rput_pure rest ⟨at', 1, [], [], (pickF l (named at' nm)).worth⟩ true okR (Nat.zero_le _)
            rw [hend]
            generalize putR rest ⟨at', 1, [], [], (pickF l (named at' nm)).worth⟩ true = y at *
            obtain ⟨y, b⟩ := y
            cases b
            all_goals
              simp only [go_sem, refs, h, List.length_map, htk, lncells, hrest]
              refine vCall_of (hC) ?_ ?_ ?_; (focus simp only [go_sem, lns, lncells]); (focus simp only [go_sem, lns, lncells])
              simp only [go_sem, refs, flds, fld, ref, movedF, lncells, List.map_cons, List.map_nil, List.getD_cons_zero, List.getD_cons_succ, List.length_cons, List.length_nil]
              refine vDrawQ (by kernel_rfl) (by kernel_rfl) ?_
              simp only [go_sem, refs, flds, fld, ref, movedF, lncells, List.map_cons, List.map_nil, List.getD_cons_zero, List.getD_cons_succ, List.length_cons, List.length_nil, e1, e2, e3]
              refine vDrawQ (by kernel_rfl) (by kernel_rfl) ?_
              simp only [go_sem, refs, flds, fld, ref, movedF, lncells, List.map_cons, List.map_nil, List.getD_cons_zero, List.getD_cons_succ, List.length_cons, List.length_nil]
              refine vCall_of (hP) ?_ ?_ ?_; (focus simp only [go_sem, refs, flds, fld, ref, movedF, lncells, List.map_cons, List.map_nil, List.getD_cons_zero, List.getD_cons_succ, List.length_cons, List.length_nil]); (focus simp only [go_sem, refs, flds, fld, ref, movedF, lncells, List.map_cons, List.map_nil, List.getD_cons_zero, List.getD_cons_succ, List.length_cons, List.length_nil])
              simp only [go_sem, fldsb, fldsc, outR, refs, flds, fld, ref, movedF, lncells, List.map_cons, List.map_nil, List.getD_cons_zero, List.getD_cons_succ, List.length_cons, List.length_nil]
          · have e3 : ((pickF l (named at' ot)).worth == IntKind.i64.wrap ((pickF l (named at' nm)).worth * fac)) = false := by simpa using k3
            have hend : endR ⟨9, at', nm, ot, fac, fd, fo, ba⟩ ([named at' nm, named at' ot].map (pickF l)) rest = putR rest ⟨at', 1, [], [], (pickF l (named at' nm)).worth⟩ false := by simp [endR, k1, k2, k3]
            have hP := Rput_pure rest ⟨at', 1, [], [], (pickF l (named at' nm)).worth⟩ false okR (Nat.zero_le _)
            rw [hend]
            generalize putR rest ⟨at', 1, [], [], (pickF l (named at' nm)).worth⟩ false = y at *
            obtain ⟨y, b⟩ := y
            cases b
            all_goals
              simp only [go_sem, refs, h, List.length_map, htk, lncells, hrest]
              refine vCall_of (hC) ?_ ?_ ?_; (focus simp only [go_sem, lns, lncells]); (focus simp only [go_sem, lns, lncells])
              simp only [go_sem, refs, flds, fld, ref, movedF, lncells, List.map_cons, List.map_nil, List.getD_cons_zero, List.getD_cons_succ, List.length_cons, List.length_nil]
              refine vDrawQ (by kernel_rfl) (by kernel_rfl) ?_
              simp only [go_sem, refs, flds, fld, ref, movedF, lncells, List.map_cons, List.map_nil, List.getD_cons_zero, List.getD_cons_succ, List.length_cons, List.length_nil, e1, e2, e3]
              refine vDrawQ (by kernel_rfl) (by kernel_rfl) ?_
              simp only [go_sem, refs, flds, fld, ref, movedF, lncells, List.map_cons, List.map_nil, List.getD_cons_zero, List.getD_cons_succ, List.length_cons, List.length_nil]
              refine vCall_of (hP) ?_ ?_ ?_; (focus simp only [go_sem, refs, flds, fld, ref, movedF, lncells, List.map_cons, List.map_nil, List.getD_cons_zero, List.getD_cons_succ, List.length_cons, List.length_nil]); (focus simp only [go_sem, refs, flds, fld, ref, movedF, lncells, List.map_cons, List.map_nil, List.getD_cons_zero, List.getD_cons_succ, List.length_cons, List.length_nil])
              simp only [go_sem, fldsb, fldsc, outR, refs, flds, fld, ref, movedF, lncells, List.map_cons, List.map_nil, List.getD_cons_zero, List.getD_cons_succ, List.length_cons, List.length_nil]
        · have e2 : ((pickF l (named at' ot)).kind == 1) = false := by simpa using k2
          have hend : endR ⟨9, at', nm, ot, fac, fd, fo, ba⟩ ([named at' nm, named at' ot].map (pickF l)) rest = putR rest ⟨at', 1, [], [], (pickF l (named at' nm)).worth⟩ false := by simp [endR, k1, k2]
          have hP := Rput_pure rest ⟨at', 1, [], [], (pickF l (named at' nm)).worth⟩ false okR (Nat.zero_le _)
          rw [hend]
          generalize putR rest ⟨at', 1, [], [], (pickF l (named at' nm)).worth⟩ false = y at *
          obtain ⟨y, b⟩ := y
          cases b
          all_goals
            simp only [go_sem, refs, h, List.length_map, htk, lncells, hrest]
            refine vCall_of (hC) ?_ ?_ ?_; (focus simp only [go_sem, lns, lncells]); (focus simp only [go_sem, lns, lncells])
            simp only [go_sem, refs, flds, fld, ref, movedF, lncells, List.map_cons, List.map_nil, List.getD_cons_zero, List.getD_cons_succ, List.length_cons, List.length_nil]
            refine vDrawQ (by kernel_rfl) (by kernel_rfl) ?_
            simp only [go_sem, refs, flds, fld, ref, movedF, lncells, List.map_cons, List.map_nil, List.getD_cons_zero, List.getD_cons_succ, List.length_cons, List.length_nil, e1, e2]
            refine vDrawQ (by kernel_rfl) (by kernel_rfl) ?_
            simp only [go_sem, refs, flds, fld, ref, movedF, lncells, List.map_cons, List.map_nil, List.getD_cons_zero, List.getD_cons_succ, List.length_cons, List.length_nil]
            refine vCall_of (hP) ?_ ?_ ?_; (focus simp only [go_sem, refs, flds, fld, ref, movedF, lncells, List.map_cons, List.map_nil, List.getD_cons_zero, List.getD_cons_succ, List.length_cons, List.length_nil]); (focus simp only [go_sem, refs, flds, fld, ref, movedF, lncells, List.map_cons, List.map_nil, List.getD_cons_zero, List.getD_cons_succ, List.length_cons, List.length_nil])
            simp only [go_sem, fldsb, fldsc, outR, refs, flds, fld, ref, movedF, lncells, List.map_cons, List.map_nil, List.getD_cons_zero, List.getD_cons_succ, List.length_cons, List.length_nil]
      · have e1 : ((pickF l (named at' nm)).kind == 1) = false := by simpa using k1
        have hend : endR ⟨9, at', nm, ot, fac, fd, fo, ba⟩ ([named at' nm, named at' ot].map (pickF l)) rest = putR rest ⟨at', 1, [], [], (pickF l (named at' nm)).worth⟩ false := by simp [endR, k1]
        have hP := Rput_pure rest ⟨at', 1, [], [], (pickF l (named at' nm)).worth⟩ false okR (Nat.zero_le _)
        rw [hend]
        generalize putR rest ⟨at', 1, [], [], (pickF l (named at' nm)).worth⟩ false = y at *
        obtain ⟨y, b⟩ := y
        cases b
        all_goals
          simp only [go_sem, refs, h, List.length_map, htk, lncells, hrest]
          refine vCall_of (hC) ?_ ?_ ?_; (focus simp only [go_sem, lns, lncells]); (focus simp only [go_sem, lns, lncells])
          simp only [go_sem, refs, flds, fld, ref, movedF, lncells, List.map_cons, List.map_nil, List.getD_cons_zero, List.getD_cons_succ, List.length_cons, List.length_nil]
          refine vDrawQ (by kernel_rfl) (by kernel_rfl) ?_
          simp only [go_sem, refs, flds, fld, ref, movedF, lncells, List.map_cons, List.map_nil, List.getD_cons_zero, List.getD_cons_succ, List.length_cons, List.length_nil, e1]
          refine vDrawQ (by kernel_rfl) (by kernel_rfl) ?_
          simp only [go_sem, refs, flds, fld, ref, movedF, lncells, List.map_cons, List.map_nil, List.getD_cons_zero, List.getD_cons_succ, List.length_cons, List.length_nil]
          refine vCall_of (hP) ?_ ?_ ?_; (focus simp only [go_sem, refs, flds, fld, ref, movedF, lncells, List.map_cons, List.map_nil, List.getD_cons_zero, List.getD_cons_succ, List.length_cons, List.length_nil]); (focus simp only [go_sem, refs, flds, fld, ref, movedF, lncells, List.map_cons, List.map_nil, List.getD_cons_zero, List.getD_cons_succ, List.length_cons, List.length_nil])
          simp only [go_sem, fldsb, fldsc, outR, refs, flds, fld, ref, movedF, lncells, List.map_cons, List.map_nil, List.getD_cons_zero, List.getD_cons_succ, List.length_cons, List.length_nil]
    · have hgo' : goes = [at'] := by rw [← hgo]; simp [goesR]
      subst hgo'
      have hC1 : comesR ⟨10, at', nm, ot, fac, fd, fo, ba⟩ = [at'] := by simp [comesR]
      rw [hC1] at hC
      by_cases k1 : (pickF l at').kind = 4
      · have e1 : ((pickF l at').kind == 4) = true := by simpa using k1
        have hend : endR ⟨10, at', nm, ot, fac, fd, fo, ba⟩ ([at'].map (pickF l)) rest = putR rest ⟨at', 2, ot, [], 0⟩ true := by simp [endR, k1]
        have hP := Rput_pure rest ⟨at', 2, ot, [], 0⟩ true okR (Nat.zero_le _)
        rw [hend]
        generalize putR rest ⟨at', 2, ot, [], 0⟩ true = y at *
        obtain ⟨y, b⟩ := y
        cases b
        all_goals
          simp only [go_sem, refs, h, List.length_map, htk, lncells, hrest]
          refine vCall_of (hC) ?_ ?_ ?_; (focus simp only [go_sem, lns, lncells]); (focus simp only [go_sem, lns, lncells])
          simp only [go_sem, refs, flds, fld, ref, named, movedF, lncells, List.map_cons, List.map_nil, List.getD_cons_zero, List.getD_cons_succ, List.length_cons, List.length_nil, e1]
          refine vDrawQ (by kernel_rfl) (by kernel_rfl) ?_
          simp only [go_sem, refs, flds, fld, ref, named, movedF, lncells, List.map_cons, List.map_nil, List.getD_cons_zero, List.getD_cons_succ, List.length_cons, List.length_nil]
          refine vCall_of (hP) ?_ ?_ ?_; (focus simp only [go_sem, refs, flds, fld, ref, named, movedF, lncells, List.map_cons, List.map_nil, List.getD_cons_zero, List.getD_cons_succ, List.length_cons, List.length_nil]); (focus simp only [go_sem, refs, flds, fld, ref, named, movedF, lncells, List.map_cons, List.map_nil, List.getD_cons_zero, List.getD_cons_succ, List.length_cons, List.length_nil])
          simp only [go_sem, fldsb, fldsc, outR, refs, flds, fld, ref, named, movedF, lncells, List.map_cons, List.map_nil, List.getD_cons_zero, List.getD_cons_succ, List.length_cons, List.length_nil]
      · have e1 : ((pickF l at').kind == 4) = false := by simpa using k1
        have hend : endR ⟨10, at', nm, ot, fac, fd, fo, ba⟩ ([at'].map (pickF l)) rest = putR rest ⟨at', 2, ot, [], 0⟩ false := by simp [endR, k1]
        have hP := Rput_pure rest ⟨at', 2, ot, [], 0⟩ false okR (Nat.zero_le _)
        rw [hend]
        generalize putR rest ⟨at', 2, ot, [], 0⟩ false = y at *
        obtain ⟨y, b⟩ := y
        cases b
        all_goals
          simp only [go_sem, refs, h, List.length_map, htk, lncells, hrest]
          refine vCall_of (hC) ?_ ?_ ?_; (focus simp only [go_sem, lns, lncells]); (focus simp only [go_sem, lns, lncells])
          simp only [go_sem, refs, flds, fld, ref, named, movedF, lncells, List.map_cons, List.map_nil, List.getD_cons_zero, List.getD_cons_succ, List.length_cons, List.length_nil, e1]
          refine vDrawQ (by kernel_rfl) (by kernel_rfl) ?_
          simp only [go_sem, refs, flds, fld, ref, named, movedF, lncells, List.map_cons, List.map_nil, List.getD_cons_zero, List.getD_cons_succ, List.length_cons, List.length_nil]
          refine vCall_of (hP) ?_ ?_ ?_; (focus simp only [go_sem, refs, flds, fld, ref, named, movedF, lncells, List.map_cons, List.map_nil, List.getD_cons_zero, List.getD_cons_succ, List.length_cons, List.length_nil]); (focus simp only [go_sem, refs, flds, fld, ref, named, movedF, lncells, List.map_cons, List.map_nil, List.getD_cons_zero, List.getD_cons_succ, List.length_cons, List.length_nil])
          simp only [go_sem, fldsb, fldsc, outR, refs, flds, fld, ref, named, movedF, lncells, List.map_cons, List.map_nil, List.getD_cons_zero, List.getD_cons_succ, List.length_cons, List.length_nil]
end Go.Proofs.YtcomkajmhlhphaaGreat
