/- Contracts of functions and laws of this seat, each for every input that it names: lemmas of the proof. -/
import Derived.Test.YtcomkajmhlhphaaGreatXCd
import Derived.Test.YtcomkajmhlhphaaGreatPlG
import Derived.Test.YtcomkajmhlhphaaGreatXBk
import Derived.Shelf.SlSortCmp.NoneTotal
set_option linter.unusedSimpArgs false
set_option linter.unusedVariables false
set_option linter.unusedSimpArgs false
set_option linter.unusedVariables false
namespace Go.Proofs.YtcomkajmhlhphaaGreat
open Go.PL
structure WyS (m : List Eg) (id0 : Tg) where
  k : Nat
  id : Tg
  way : List Eg
  hk : k ≤ m.length + 1
  hl : way.length = k
  h : wayF m (m.length + 1 - k) id way = wayM m id0
def wayc (x : Option (List Eg)) : PV := .tup [egs (x.getD []), .bool x.isSome]
theorem wayc_dids (x : Option (List Eg)) : (wayc x).dids = [] := by simp only [wayc, PV.dids, PV.didsL, egs_dids, List.append_nil]
set_option maxRecDepth 20000 in
set_option maxHeartbeats 16000000 in
theorem RWay_pure (m : List Eg) (id : Tg) (hm : OkM m) : PL.Pure Tryz.prog 68 [egs m, tg id] (wayc (wayM m id)) := by
  have hn := hm.n
  refine PL.Pure.of_v Tryz.func68 (by decide) rfl Tryz.ntmps68 Tryz.results68 (by simp) (wayc_dids _) ?_
  simp only [go_sem, egs, tg]
  refine vLoopP (ι := WyS m id) 37 (fun x => [(0, egs m), (3, .ptr 3 0), (6, egs x.way), (7, .int .i64 (x.k : Int))]) (fun x => [(3, [.int .i64 x.id.r, .int .i64 x.id.n], false)]) (fun x => []) (fun x => m.length + 1 - x.k) ⟨0, id, [], Nat.zero_le _, rfl, rfl⟩
    ⟨rfl, forall_cons (.same rfl) (forall_cons (.same rfl) (forall_cons (.row 9 []) (forall_cons (.same rfl) forall_nil))), forall_cons ⟨rfl, rfl⟩ forall_nil, forall_nil⟩ (fun x => ⟨forall_cons rfl (forall_cons rfl (forall_cons rfl (forall_cons rfl forall_nil))), (forall_cons rfl (forall_nil))⟩) (fun x => ?_)
  obtain ⟨k, id', way, hk, hl, h⟩ := x
  simp only
  by_cases hlt : (k : Int) ≤ (m.length : Int)
  · have hk2 : m.length + 1 - k = (m.length - k) + 1 := by omega
    rw [hk2, wayF] at h
    by_cases hd : id' = default
    · have hb : decide (id' = default) = true := by simpa using hd
      rw [if_pos hd] at h
      simp only [go_sem, egs, hlt, List.length_map, tgd, hb]
      simp only [go_sem, ← h, wayc, egs, Option.getD_some, Option.isSome_some]
    · have hb : decide (id' = default) = false := by simpa using hd
      rw [if_neg hd] at h
      have hA := RAtE_pure m id' (by rw [maxLen_eq]; omega)
      rcases idx_find (m := m) (id := id') with ⟨h1, h2⟩ | ⟨i, hi, h1, h2⟩
      · rw [h1] at hA
        rw [h2] at h
        simp only [go_sem, egs, hlt, List.length_map, tgd, hb]
        refine vCall_of (hA) ?_ ?_ ?_; (focus simp only [go_sem, egs, tg]); (focus simp only [go_sem, egs, tg])
        simp only [go_sem, ← h, wayc, egs, Option.getD_none, Option.isSome_none, List.map_nil]
      · rw [h1] at hA
        rw [h2] at h
        simp only at h
        have n1 : ¬ (i : Int) < 0 := by omega
        have i0 : (0 : Int) ≤ (i : Int) := by omega
        have i1 : (i : Int) < (m.length : Int) := by omega
        have w1 : IntKind.i64.wrap ((k : Int) + 1) = ((k + 1 : Nat) : Int) := by rw [w64 (by omega)]; rfl
        have hrm := room1 (show 1 + way.length ≤ 1000000 by omega) (show 264 ≤ 1000 by omega)
        have hsz : Sized 20 (way.map eg) := sized_eg way
        have hat := atoms_eg way
        have hs1 : Sized 20 [eg (m.getD i default)] := sized_eg [m.getD i default]
        simp only [go_sem, egs, hlt, List.length_map, tgd, hb]
        refine vCall_of (hA) ?_ ?_ ?_; (focus simp only [go_sem, egs, tg]); (focus simp only [go_sem, egs, tg])
        simp only [go_sem, n1, i0, i1, List.length_map, getD_eg hi, eg, w1, hat, hrm, hsz]
        exact ⟨⟨k + 1, (m.getD i default).par, m.getD i default :: way, by omega, by simp [hl], by rw [show m.length + 1 - (k + 1) = m.length - k by omega]; exact h⟩, by show m.length + 1 - (k + 1) < m.length + 1 - k; omega,
          ⟨rfl, forall_cons (.same rfl) (forall_cons (.same rfl) (forall_cons (.row 31 _) (forall_cons (.same rfl) forall_nil))), forall_cons ⟨rfl, rfl⟩ forall_nil, forall_nil⟩⟩
  · have hk2 : m.length + 1 - k = 0 := by omega
    rw [hk2, wayF] at h
    simp only [go_sem, egs, hlt, List.length_map, ← h, wayc, Option.getD_none, Option.isSome_none, List.map_nil]
def stc (x : Int × List Fd) : PV := .tup [.int .i64 x.1, flds x.2]
theorem stc_dids (x : Int × List Fd) : (stc x).dids = [] := by simp only [stc, PV.dids, PV.didsL, flds_dids, List.append_nil]
set_option maxRecDepth 20000 in
set_option maxHeartbeats 16000000 in
theorem RState_pure (m : List Eg) (id : Tg) (hm : OkM m) : PL.Pure Tryz.prog 42 [egs m, tg id] (stc (stateM m id)) := by
  have hn := hm.n
  have hA := RAtE_pure m id (by rw [maxLen_eq]; omega)
  have hW := RWay_pure m id hm
  unfold stateM
  by_cases h0 : id ≠ default ∧ findE m id = none
  · rw [if_pos h0]
    have hb : decide (id = default) = false := by simpa using h0.1
    rcases idx_find (m := m) (id := id) with ⟨h1, h2⟩ | ⟨i, hi, h1, h2⟩
    · rw [h1] at hA
      refine PL.Pure.of_v Tryz.func42 (by decide) rfl Tryz.ntmps42 Tryz.results42 (by simp) (stc_dids _) ?_
      simp only [go_sem, egs, tg, tgd, hb, Bool.not_false]
      refine vCall_of (hA) ?_ ?_ ?_; (focus simp only [go_sem, egs, tg]); (focus simp only [go_sem, egs, tg])
      simp only [go_sem, stc, flds, List.map_nil]
    · rw [h2] at h0; cases h0.2
  · rw [if_neg h0]
    have pre : (decide (id = default) = true) ∨ (decide (id = default) = false ∧ ∃ i : Nat, idx (fun x => decide (x.id = id)) m = (i : Int)) := by
      by_cases hd : id = default
      · exact .inl (by simpa using hd)
      · right
        refine ⟨by simpa using hd, ?_⟩
        rcases idx_find (m := m) (id := id) with ⟨_, h2⟩ | ⟨i, hi, h1, h2⟩
        · exact absurd ⟨hd, h2⟩ h0
        · exact ⟨i, h1⟩
    cases hw : wayM m id with
    | none =>
      rw [hw] at hW
      rcases pre with hb | ⟨hb, i, h1⟩
      · refine PL.Pure.of_v Tryz.func42 (by decide) rfl Tryz.ntmps42 Tryz.results42 (by simp) (stc_dids _) ?_
        simp only [go_sem, egs, tg, tgd, hb, Bool.not_true]
        refine vCall_of (hW) ?_ ?_ ?_; (focus simp only [go_sem, egs, tg]); (focus simp only [go_sem, egs, tg])
        simp only [go_sem, wayc, Option.isSome_none, stc, flds, List.map_nil]
      · rw [h1] at hA
        have n1 : ¬ (i : Int) < 0 := by omega
        refine PL.Pure.of_v Tryz.func42 (by decide) rfl Tryz.ntmps42 Tryz.results42 (by simp) (stc_dids _) ?_
        simp only [go_sem, egs, tg, tgd, hb, Bool.not_false]
        refine vCall_of (hA) ?_ ?_ ?_; (focus simp only [go_sem, egs, tg]); (focus simp only [go_sem, egs, tg])
        simp only [go_sem, n1]
        refine vCall_of (hW) ?_ ?_ ?_; (focus simp only [go_sem, egs, tg]); (focus simp only [go_sem, egs, tg])
        simp only [go_sem, wayc, Option.isSome_none, stc, flds, List.map_nil]
    | some w =>
      rw [hw] at hW
      have hway := wayM_iff.1 hw
      have hwl : w.length ≤ maxLen := by have := hway.len; rw [maxLen_eq]; omega
      simp only
      generalize hF : foldA w rootL = F
      rcases pre with hb | ⟨hb, i, h1⟩
      · refine PL.Pure.of_v Tryz.func42 (by decide) rfl Tryz.ntmps42 Tryz.results42 (by simp) (stc_dids _) ?_
        simp only [go_sem, egs, tg, tgd, hb, Bool.not_true]
        refine vCall_of (hW) ?_ ?_ ?_; (focus simp only [go_sem, egs, tg]); (focus simp only [go_sem, egs, tg])
        simp only [go_sem, wayc, Option.isSome_some, Option.getD_some]
        refine vCall_of (Root_pure) ?_ ?_ ?_; (focus simp only [go_sem]); (focus simp only [go_sem])
        simp only [go_sem, flds]
        refine vLoopM (ι := { x : Nat × (List Fd) // x.1 ≤ (w).length ∧ (OkFs x.2 ∧ foldA (w.drop x.1) x.2 = F) }) 50 (fun x => [(6, egs w), (8, flds x.1.2), (9, .int .i64 (x.1.1 : Int))]) (fun x => []) (fun x => []) (fun x => (w).length - x.1.1) ⟨(0, rootL), Nat.zero_le _, ⟨okRoot, hF⟩⟩ ⟨rfl, (forall_cons rfl (forall_cons rfl (forall_cons rfl forall_nil))), forall_nil, forall_nil⟩ (fun x => ⟨(forall_cons rfl (forall_cons rfl (forall_cons rfl forall_nil))), forall_nil⟩) (fun x => ?_); obtain ⟨⟨k, fs⟩, hk, hI⟩ := x; simp only at hk hI ⊢
        obtain ⟨okf, hI⟩ := hI
        by_cases h : (k : Int) < (w.length : Int)
        · (have hka : k < (w).length := by omega); (have w1 := w64s hka (hwl)); (have i1 : (0 : Int) ≤ (k : Int) := by omega)
          have hA := RApply_pure fs (w.getD k default).ln okf (hm.l _ (hway.mem _ (getD_mem hka)))
          rw [drop_cons' hka (d := default), foldA_next] at hI
          by_cases hz : (applyM fs (w.getD k default).ln).2 = 0
          · rw [if_pos hz] at hI
            simp only [go_sem, egs, h, List.length_map, getD_eg hka, eg, i1]
            refine vCall_of (hA) ?_ ?_ ?_; (focus simp only [go_sem, flds, lns]); (focus simp only [go_sem, flds, lns])
            simp only [go_sem, fldsc, hz, w1]
            exact ⟨⟨(k + 1, (applyM fs (w.getD k default).ln).1), by (try simp only); omega, ⟨okApply okf (hm.l _ (hway.mem _ (getD_mem hka))), hI⟩⟩, by show (w).length - (k + 1) < (w).length - k; omega, ⟨rfl, (forall_cons rfl (forall_cons rfl (forall_cons rfl forall_nil))), forall_nil, forall_nil⟩⟩
          · rw [if_neg hz] at hI
            have hz' : ((applyM fs (w.getD k default).ln).2 != 0) = true := by simpa using hz
            simp only [go_sem, egs, h, List.length_map, getD_eg hka, eg, i1]
            refine vCall_of (hA) ?_ ?_ ?_; (focus simp only [go_sem, flds, lns]); (focus simp only [go_sem, flds, lns])
            simp only [go_sem, fldsc, hz', ← hI, stc, flds, List.map_nil]
        · obtain rfl : k = w.length := by omega
          rw [List.drop_length] at hI
          have hI' : F = some fs := hI.symm
          subst hI'
          simp only [go_sem, egs, h, List.length_map, stc, flds]
      · rw [h1] at hA
        have n1 : ¬ (i : Int) < 0 := by omega
        refine PL.Pure.of_v Tryz.func42 (by decide) rfl Tryz.ntmps42 Tryz.results42 (by simp) (stc_dids _) ?_
        simp only [go_sem, egs, tg, tgd, hb, Bool.not_false]
        refine vCall_of (hA) ?_ ?_ ?_; (focus simp only [go_sem, egs, tg]); (focus simp only [go_sem, egs, tg])
        simp only [go_sem, n1]
        refine vCall_of (hW) ?_ ?_ ?_; (focus simp only [go_sem, egs, tg]); (focus simp only [go_sem, egs, tg])
        simp only [go_sem, wayc, Option.isSome_some, Option.getD_some]
        refine vCall_of (Root_pure) ?_ ?_ ?_; (focus simp only [go_sem]); (focus simp only [go_sem])
        simp only [go_sem, flds]
        refine vLoopM (ι := { x : Nat × (List Fd) // x.1 ≤ (w).length ∧ (OkFs x.2 ∧ foldA (w.drop x.1) x.2 = F) }) 50 (fun x => [(6, egs w), (8, flds x.1.2), (9, .int .i64 (x.1.1 : Int))]) (fun x => []) (fun x => []) (fun x => (w).length - x.1.1) ⟨(0, rootL), Nat.zero_le _, ⟨okRoot, hF⟩⟩ ⟨rfl, (forall_cons rfl (forall_cons rfl (forall_cons rfl forall_nil))), forall_nil, forall_nil⟩ (fun x => ⟨(forall_cons rfl (forall_cons rfl (forall_cons rfl forall_nil))), forall_nil⟩) (fun x => ?_); obtain ⟨⟨k, fs⟩, hk, hI⟩ := x; simp only at hk hI ⊢
        obtain ⟨okf, hI⟩ := hI
        by_cases h : (k : Int) < (w.length : Int)
        · (have hka : k < (w).length := by omega); (have w1 := w64s hka (hwl)); (have i1 : (0 : Int) ≤ (k : Int) := by omega)
          have hA := RApply_pure fs (w.getD k default).ln okf (hm.l _ (hway.mem _ (getD_mem hka)))
          rw [drop_cons' hka (d := default), foldA_next] at hI
          by_cases hz : (applyM fs (w.getD k default).ln).2 = 0
          · rw [if_pos hz] at hI
            simp only [go_sem, egs, h, List.length_map, getD_eg hka, eg, i1]
            refine vCall_of (hA) ?_ ?_ ?_; (focus simp only [go_sem, flds, lns]); (focus simp only [go_sem, flds, lns])
            simp only [go_sem, fldsc, hz, w1]
            exact ⟨⟨(k + 1, (applyM fs (w.getD k default).ln).1), by (try simp only); omega, ⟨okApply okf (hm.l _ (hway.mem _ (getD_mem hka))), hI⟩⟩, by show (w).length - (k + 1) < (w).length - k; omega, ⟨rfl, (forall_cons rfl (forall_cons rfl (forall_cons rfl forall_nil))), forall_nil, forall_nil⟩⟩
          · rw [if_neg hz] at hI
            have hz' : ((applyM fs (w.getD k default).ln).2 != 0) = true := by simpa using hz
            simp only [go_sem, egs, h, List.length_map, getD_eg hka, eg, i1]
            refine vCall_of (hA) ?_ ?_ ?_; (focus simp only [go_sem, flds, lns]); (focus simp only [go_sem, flds, lns])
            simp only [go_sem, fldsc, hz', ← hI, stc, flds, List.map_nil]
        · obtain rfl : k = w.length := by omega
          rw [List.drop_length] at hI
          have hI' : F = some fs := hI.symm
          subst hI'
          simp only [go_sem, egs, h, List.length_map, stc, flds]
set_option maxRecDepth 20000 in
set_option maxHeartbeats 16000000 in
theorem RSchema_pure (m : List Eg) (id : Tg) (hm : OkM m) : PL.Pure Tryz.prog 18 [egs m, tg id] (fldsc (schM (treeOf m) id)) := by
  have hS := RState_pure m id hm
  rw [sch_state]
  generalize stateM m id = y at *
  obtain ⟨c, l⟩ := y
  simp only
  by_cases h3 : c = 3
  · subst h3
    refine PL.Pure.of_v Tryz.func18 (by decide) rfl Tryz.ntmps18 Tryz.results18 (by simp) (fldsc_dids _) ?_
    simp only [go_sem, egs, tg]
    refine vCall_of (hS) ?_ ?_ ?_; (focus simp only [go_sem, egs, tg]); (focus simp only [go_sem, egs, tg])
    simp only [go_sem, stc, flds, fldsc, List.map_nil, if_true]
  · have e3 : (c == 3) = false := by simpa using h3
    by_cases h2 : c = 2
    · subst h2
      refine PL.Pure.of_v Tryz.func18 (by decide) rfl Tryz.ntmps18 Tryz.results18 (by simp) (fldsc_dids _) ?_
      simp only [go_sem, egs, tg]
      refine vCall_of (hS) ?_ ?_ ?_; (focus simp only [go_sem, egs, tg]); (focus simp only [go_sem, egs, tg])
      simp only [go_sem, stc, flds, fldsc, ne_eq, not_true_eq_false, if_false]
    · have e2 : (c != 2) = true := by simpa using h2
      refine PL.Pure.of_v Tryz.func18 (by decide) rfl Tryz.ntmps18 Tryz.results18 (by simp) (fldsc_dids _) ?_
      simp only [go_sem, egs, tg]
      refine vCall_of (hS) ?_ ?_ ?_; (focus simp only [go_sem, egs, tg]); (focus simp only [go_sem, egs, tg])
      simp only [go_sem, stc, flds, fldsc, e3, e2, h3, h2, ne_eq, not_false_eq_true, if_true, if_false, List.map_nil]
theorem ups_step {w : List Eg} {s : Nat} (h : s < w.length) : (w.drop (w.length - (s + 1))).reverse.map (·.id) = (w.drop (w.length - s)).reverse.map (·.id) ++ [(w.getD (w.length - 1 - s) default).id] := by
  have e : w.length - (s + 1) = w.length - 1 - s := by omega
  rw [e, List.drop_eq_getElem_cons (by omega), List.reverse_cons, List.map_append, show w.length - 1 - s + 1 = w.length - s by omega]
  rw [getD_lt (by omega)]
  rfl
set_option maxRecDepth 20000 in
set_option maxHeartbeats 16000000 in
theorem RUp_pure (m : List Eg) (id : Tg) (hm : OkM m) : PL.Pure Tryz.prog 48 [egs m, tg id] (tgsc (upM m id)) := by
  have hS := RSchema_pure m id hm
  unfold upM
  by_cases hc : upC m id = 0
  · obtain ⟨hw, _, _⟩ := live_way hc
    simp only [hc, ne_eq, not_true_eq_false, if_false]
    have hc' : (schM (treeOf m) id).2 = 0 := hc
    have hW := RWay_pure m id hm
    rw [wayM_iff.2 hw] at hW
    generalize wayD m id = w at *
    have hwl : w.length ≤ 40 := by have := hw.len; have := hm.n; omega
    have w0 : IntKind.i64.wrap ((w.length : Int) - 1) = (w.length : Int) - 1 := w64 (by omega)
    refine PL.Pure.of_v Tryz.func48 (by decide) rfl Tryz.ntmps48 Tryz.results48 (by simp) (tgsc_dids _) ?_
    simp only [go_sem, egs, tg]
    refine vCall_of (hS) ?_ ?_ ?_; (focus simp only [go_sem, egs, tg]); (focus simp only [go_sem, egs, tg])
    simp only [go_sem, fldsc, hc']
    refine vCall_of (hW) ?_ ?_ ?_; (focus simp only [go_sem, egs, tg]); (focus simp only [go_sem, egs, tg])
    simp only [go_sem, wayc, Option.isSome_some, Option.getD_some, egs, List.length_map, w0]
    refine awp_moveRow 10 27 42 0 2 24 [] rfl rfl rfl ?_
    refine vLoopM (ι := { s : Nat // s ≤ w.length }) 47 (fun x => [(8, egs w), (10, .sl (.row 42) (((w.drop (w.length - x.1)).reverse.map (·.id)).map tg)), (11, .int .i64 ((w.length : Int) - 1 - (x.1 : Int)))]) (fun x => []) (fun x => [(42, .live x.1 2 24)]) (fun x => w.length - x.1) ⟨0, Nat.zero_le _⟩
      ⟨rfl, forall_cons rfl (forall_cons (by show PV.sl _ _ = PV.sl _ _; simp) (forall_cons (by show PV.int _ _ = PV.int _ _; simp) forall_nil)), forall_nil, forall_cons rfl forall_nil⟩ (fun x => ⟨forall_cons rfl (forall_cons (by simp [PV.ids, refInM]) (forall_cons rfl forall_nil)), forall_nil⟩) (fun x => ?_)
    obtain ⟨s, hs⟩ := x
    simp only
    have hlen : ((w.drop (w.length - s)).reverse.map (·.id)).length = s := by simp; omega
    have hrm := room1 (show s + 1 ≤ 1000000 by omega) (show 16 ≤ 1000 by omega)
    by_cases h : s < w.length
    · have hge : (0 : Int) ≤ (w.length : Int) - 1 - (s : Int) := by omega
      have hlt : (w.length : Int) - 1 - (s : Int) < (w.length : Int) := by omega
      have hto : ((w.length : Int) - 1 - (s : Int)).toNat = w.length - 1 - s := by omega
      have hki : w.length - 1 - s < w.length := by omega
      have w1 : IntKind.i64.wrap ((w.length : Int) - 1 - (s : Int) - 1) = (w.length : Int) - 1 - ((s + 1 : Nat) : Int) := by rw [w64 (by omega)]; omega
      have e0 : (w.length : Int) - 1 - (s : Int) = ((w.length - 1 - s : Nat) : Int) := by omega
      have hst := ups_step h
      rw [e0] at hge hlt w1 ⊢
      simp only [go_sem, egs, hge, hlt, List.length_map, getD_eg hki, eg, hlen, hrm, sized_tg, w1]
      refine ⟨⟨s + 1, by omega⟩, by show w.length - (s + 1) < w.length - s; omega, ⟨rfl, forall_cons rfl (forall_cons ?_ (forall_cons rfl forall_nil)), forall_nil, forall_cons rfl forall_nil⟩⟩
      show PV.sl (.row 42) _ = PV.sl (.row 42) _
      rw [hst]
      simp [tg]
    · obtain rfl : s = w.length := by omega
      have hge : ¬ (0 : Int) ≤ (w.length : Int) - 1 - (w.length : Int) := by omega
      have e : (w.drop (w.length - w.length)).reverse.map (·.id) ++ [default] = upL w := by simp [upL]
      simp only [go_sem, hge, sized_tg, List.length_map, hlen, hrm, tgsc, tgs, ← e, List.map_append, List.map_cons, List.map_nil, tg_default]
  · have hc' : ((schM (treeOf m) id).2 != 0) = true := by have h : (schM (treeOf m) id).2 ≠ 0 := hc; simpa using h
    simp only [ne_eq, hc, not_false_eq_true, if_true]
    refine PL.Pure.of_v Tryz.func48 (by decide) rfl Tryz.ntmps48 Tryz.results48 (by simp) (tgsc_dids _) ?_
    simp only [go_sem, egs, tg]
    refine vCall_of (hS) ?_ ?_ ?_; (focus simp only [go_sem, egs, tg]); (focus simp only [go_sem, egs, tg])
    simp only [go_sem, fldsc, hc', tgsc, tgs, List.map_nil, upC]
end Go.Proofs.YtcomkajmhlhphaaGreat

set_option linter.unusedSimpArgs false
set_option linter.unusedVariables false
set_option linter.unusedSimpArgs false
set_option linter.unusedVariables false
namespace Go.Proofs.YtcomkajmhlhphaaGreat
open Go.PL
set_option maxRecDepth 20000 in
set_option maxHeartbeats 4000000 in
theorem RTLessB_pure (a b : Tg) : PL.Pure Tryz.prog 71 [tg a, tg b] (.bool (tlessB a b)) := by
  refine PL.Pure.of_v Tryz.func71 (by decide) rfl Tryz.ntmps71 Tryz.results71 (by simp) rfl ?_
  simp only [go_sem, tg]
  repeat' (first | (refine vGuard_t (fun h => ?_) (fun h => ?_) <;> (try simp only [go_sem, h])) | (refine vGuard_f (fun h => ?_) (fun h => ?_) <;> (try simp only [go_sem, h])) | (refine vCond_b (fun h => ?_) (fun h => ?_) <;> (try simp only [go_sem, h])) | ((refine vDrawQ (by kernel_rfl) (by kernel_rfl) ?_); (try simp only [go_sem])))
  all_goals simp_all [tlessB]
  all_goals (try omega)
def ahead (e : Eg) (x : Eg) : Bool := tlessB x.id e.id
def insE (out : List Eg) (e : Eg) : List Eg := out.takeWhile (ahead e) ++ e :: out.dropWhile (ahead e)
def sortE (l : List Eg) : List Eg := l.foldl insE []
theorem sortE_snoc {l : List Eg} {k : Nat} (hk : k < l.length) : sortE (l.take (k + 1)) = insE (sortE (l.take k)) (l.getD k default) := by
  unfold sortE
  rw [take_snoc (d := default) hk, List.foldl_append]
  rfl
theorem insE_len (out : List Eg) (e : Eg) : (insE out e).length = out.length + 1 := by
  unfold insE
  have h := congrArg List.length (List.takeWhile_append_dropWhile (p := ahead e) (l := out))
  rw [List.length_append] at h
  rw [List.length_append, List.length_cons]
  omega
theorem sortE_len : ∀ (l : List Eg) (k : Nat), k ≤ l.length → (sortE (l.take k)).length = k
  | l, 0, _ => rfl
  | l, k + 1, h => by rw [sortE_snoc (by omega), insE_len, sortE_len l k (by omega)]
def pos (out : List Eg) (e : Eg) : Nat := (out.takeWhile (ahead e)).length
theorem pos_le (out : List Eg) (e : Eg) : pos out e ≤ out.length := by
  unfold pos
  exact (List.takeWhile_prefix (ahead e)).length_le
theorem take_pos (out : List Eg) (e : Eg) : out.take (pos out e) = out.takeWhile (ahead e) := by
  have h := List.takeWhile_append_dropWhile (p := ahead e) (l := out)
  unfold pos
  generalize out.takeWhile (ahead e) = a at *
  generalize out.dropWhile (ahead e) = b at *
  subst h
  simp
theorem drop_pos (out : List Eg) (e : Eg) : out.drop (pos out e) = out.dropWhile (ahead e) := by
  have h := List.takeWhile_append_dropWhile (p := ahead e) (l := out)
  unfold pos
  generalize out.takeWhile (ahead e) = a at *
  generalize out.dropWhile (ahead e) = b at *
  subst h
  simp
theorem insE_pos (out : List Eg) (e : Eg) : insE out e = out.take (pos out e) ++ [e] ++ out.drop (pos out e) := by
  rw [take_pos, drop_pos]; simp [insE]
theorem pos_lt : ∀ (out : List Eg) (e : Eg) (k : Nat), k < pos out e → tlessB (out.getD k default).id e.id = true
  | [], e, k, h => by simp [pos] at h
  | x :: out, e, k, h => by
    unfold pos at h
    rw [List.takeWhile_cons] at h
    by_cases hx : ahead e x = true
    · rw [if_pos hx] at h
      cases k with
      | zero => exact hx
      | succ k => exact pos_lt out e k (by simpa [pos] using h)
    · rw [if_neg hx] at h; simp at h
theorem pos_stop : ∀ (out : List Eg) (e : Eg), pos out e < out.length → tlessB (out.getD (pos out e) default).id e.id = false
  | [], e, h => by simp at h
  | x :: out, e, h => by
    by_cases hx : ahead e x = true
    · have hp : pos (x :: out) e = pos out e + 1 := by unfold pos; rw [List.takeWhile_cons, if_pos hx]; rfl
      rw [hp] at h ⊢
      exact pos_stop out e (by simpa using h)
    · have hp : pos (x :: out) e = 0 := by unfold pos; rw [List.takeWhile_cons, if_neg hx]; rfl
      rw [hp]
      have : ahead e x = false := by simpa using hx
      exact this
theorem cut_take (l : List Eg) (k : Nat) : cut (l.map eg) 0 (k : Int) = (l.take k).map eg := by simp [cut, List.map_take]
theorem cut_drop (l : List Eg) (k : Nat) : cut (l.map eg) (k : Int) (l.length : Int) = (l.drop k).map eg := by
  unfold cut
  rw [Int.toNat_natCast, Int.toNat_natCast, ← List.map_drop, ← List.map_take]
  congr 1
  rw [List.take_of_length_le (by rw [List.length_drop]; omega)]
structure SoI (l : List Eg) where
  k : Nat
  hk : k ≤ l.length
set_option maxRecDepth 20000 in
set_option maxHeartbeats 32000000 in
theorem RSorted_pure (l : List Eg) (hl : l.length ≤ 1000) : PL.Pure Tryz.prog 43 [egs l] (egs (sortE l)) := by
  have hL := fun a b => RTLessB_pure a b
  refine PL.Pure.of_v Tryz.func43 (by decide) rfl Tryz.ntmps43 Tryz.results43 (by simp) (egs_dids _) ?_
  simp only [go_sem, egs]
  refine vLoopP (ι := SoI l) 51 (fun x => [(0, egs l), (3, egs (sortE (l.take x.k))), (4, .int .i64 (x.k : Int))]) (fun x => []) (fun x => []) (fun x => l.length - x.k) ⟨0, Nat.zero_le _⟩
    ⟨rfl, forall_cons (.same rfl) (forall_cons (.row 7 []) (forall_cons (.same rfl) forall_nil)), forall_nil, forall_nil⟩ (fun x => ⟨(forall_cons rfl (forall_cons rfl (forall_cons rfl (forall_nil)))), forall_nil⟩) (fun x => ?_)
  obtain ⟨k, hk⟩ := x
  simp only
  have hlen := sortE_len l k hk
  by_cases hlt : (k : Int) < (l.length : Int)
  · have hka : k < l.length := by omega
    have i0 : (0 : Int) ≤ (k : Int) := by omega
    have w1 : IntKind.i64.wrap ((k : Int) + 1) = ((k + 1 : Nat) : Int) := by rw [w64 (by omega)]; rfl
    have hs := sortE_snoc hka
    have hgd := getD_eg hka
    generalize sortE (l.take k) = out at *
    generalize hs2 : sortE (l.take (k + 1)) = out2 at *
    generalize he : l.getD k default = e at *
    have hpl := pos_le out e
    have hX : out2.map eg = (out.take (pos out e)).map eg ++ [eg e] ++ (out.drop (pos out e)).map eg := by
      rw [hs, insE_pos]; simp only [List.map_append, List.map_cons, List.map_nil]
    have hpI : ((pos out e : Nat) : Int) ≤ (out.length : Int) := by omega
    have hlp : (out.take (pos out e)).length = pos out e := by rw [List.length_take]; omega
    have hld : (out.drop (pos out e)).length = k - pos out e := by rw [List.length_drop]; omega
    have hrm1 := room1 (show pos out e ≤ 1000000 by omega) (show 264 ≤ 1000 by omega)
    have hrm2 := room1 (show pos out e + 1 ≤ 1000000 by omega) (show 264 ≤ 1000 by omega)
    have hrm3 := room1 (show pos out e + 1 + (k - pos out e) ≤ 1000000 by omega) (show 264 ≤ 1000 by omega)
    have hs1 : ∀ (a : List Eg), Sized 20 (a.map eg ++ [eg e]) := fun a => by have := sized_eg (a ++ [e]); rwa [List.map_append] at this
    simp only [go_sem, egs, hlt, List.length_map]
    refine vLoopM (ι := { j : Nat // j ≤ pos out e }) 51 (fun x => [(0, egs l), (3, egs out), (4, .int .i64 (k : Int)), (5, .int .i64 (x.1 : Int))]) (fun x => []) (fun x => []) (fun x => pos out e - x.1) ⟨0, Nat.zero_le _⟩ ⟨rfl, (forall_cons rfl (forall_cons rfl (forall_cons rfl (forall_cons rfl (forall_nil))))), forall_nil, forall_nil⟩ (fun x => ⟨(forall_cons rfl (forall_cons rfl (forall_cons rfl (forall_cons rfl (forall_nil))))), forall_nil⟩) (fun x => ?_)
    obtain ⟨j, hj⟩ := x
    simp only
    by_cases hjl : (j : Int) < (out.length : Int)
    · have hja : j < out.length := by omega
      have j0 : (0 : Int) ≤ (j : Int) := by omega
      have hgj := getD_eg hja
      by_cases hjp : j < pos out e
      · have ht := pos_lt out e j hjp
        have w2 : IntKind.i64.wrap ((j : Int) + 1) = ((j + 1 : Nat) : Int) := by rw [w64 (by omega)]; rfl
        simp only [go_sem, egs, hjl, List.length_map]
        refine vDrawQ (by kernel_rfl) (by kernel_rfl) ?_
        simp only [go_sem, egs, hjl, List.length_map, hgd, hgj, eg, i0, j0, hlt]
        refine vCall_of (hL (out.getD j default).id e.id) ?_ ?_ ?_; (focus simp only [go_sem, tg]); (focus simp only [go_sem, tg])
        simp only [go_sem, ht, w2]
        exact ⟨⟨j + 1, by omega⟩, by show pos out e - (j + 1) < pos out e - j; omega, ⟨rfl, (forall_cons rfl (forall_cons rfl (forall_cons rfl (forall_cons rfl (forall_nil))))), forall_nil, forall_nil⟩⟩
      · obtain rfl : j = pos out e := by omega
        have ht := pos_stop out e hja
        simp only [go_sem, egs, hjl, List.length_map]
        refine vDrawQ (by kernel_rfl) (by kernel_rfl) ?_
        simp only [go_sem, egs, hjl, List.length_map, hgd, hgj, eg, i0, j0, hlt]
        refine vCall_of (hL (out.getD (pos out e) default).id e.id) ?_ ?_ ?_; (focus simp only [go_sem, tg]); (focus simp only [go_sem, tg])
        simp only [go_sem, ht, hgd, i0, j0, hpI, cut_take, cut_drop, sized_eg, hs1, atoms_eg, hrm1, hrm2, hrm3, hlp, hld, List.length_map, List.length_append, List.length_cons, List.length_nil, w1, eg]
        refine ⟨hlt, Int.le_refl _, hs1 _, ⟨k + 1, by omega⟩, by show l.length - (k + 1) < l.length - k; omega, ?_⟩
        simp only [hs2, egs, hX]
        exact ⟨rfl, forall_cons (.same rfl) (forall_cons (.row 49 _) (forall_cons (.same rfl) forall_nil)), forall_nil, forall_nil⟩
    · obtain rfl : j = pos out e := by omega
      simp only [go_sem, egs, hjl, List.length_map]
      refine vDrawQ (by kernel_rfl) (by kernel_rfl) ?_
      have j0 : (0 : Int) ≤ ((pos out e : Nat) : Int) := by omega
      simp only [go_sem, egs, hjl, List.length_map, hgd, eg, i0, j0, hlt, hgd, i0, j0, hpI, cut_take, cut_drop, sized_eg, hs1, atoms_eg, hrm1, hrm2, hrm3, hlp, hld, List.length_map, List.length_append, List.length_cons, List.length_nil, w1, eg]
      refine ⟨Int.le_refl _, hs1 _, ⟨k + 1, by omega⟩, by show l.length - (k + 1) < l.length - k; omega, ?_⟩
      simp only [hs2, egs, hX]
      exact ⟨rfl, forall_cons (.same rfl) (forall_cons (.row 49 _) (forall_cons (.same rfl) forall_nil)), forall_nil, forall_nil⟩
  · obtain rfl : k = l.length := by omega
    rw [List.take_length]
    simp only [go_sem, egs, hlt, List.length_map]
    try rfl

/-- the tags that are live, in the document's order -/
def liveE (m : List Eg) (l : List Eg) : List Tg := (l.filter fun e => (stateM m e.id).1 == 2).map (·.id)
def liveR (m : List Eg) : List Tg := default :: liveE m (sortE m)
theorem liveE_snoc (m : List Eg) {l : List Eg} {k : Nat} (hk : k < l.length) : liveE m (l.take (k + 1)) = liveE m (l.take k) ++ (if (stateM m (l.getD k default).id).1 = 2 then [(l.getD k default).id] else []) := by
  unfold liveE
  rw [take_snoc (d := default) hk, List.filter_append, List.map_append]
  congr 1
  simp only [List.filter_cons, List.filter_nil]
  by_cases h : (stateM m (l.getD k default).id).1 = 2
  · rw [if_pos h, if_pos (by simpa using h)]; rfl
  · rw [if_neg h, if_neg (by simpa using h)]; rfl
theorem liveE_len (m : List Eg) (l : List Eg) : (liveE m l).length ≤ l.length := by
  unfold liveE
  rw [List.length_map]
  exact List.length_filter_le _ _
set_option maxRecDepth 20000 in
set_option maxHeartbeats 32000000 in
theorem RLive_pure (m : List Eg) (hm : OkM m) : PL.Pure Tryz.prog 19 [egs m] (tgs (liveR m)) := by
  have hn := hm.n
  have hS := RSorted_pure m (by omega)
  have hQ := fun id => RState_pure m id hm
  have hsl : (sortE m).length = m.length := by have := sortE_len m m.length (Nat.le_refl _); rwa [List.take_length] at this
  unfold liveR
  refine PL.Pure.of_v Tryz.func19 (by decide) rfl Tryz.ntmps19 Tryz.results19 (by simp) (tgs_dids _) ?_
  simp only [go_sem, egs]
  refine vCall_of (hS) ?_ ?_ ?_; (focus simp only [go_sem, egs]); (focus simp only [go_sem, egs])
  simp only [go_sem, egs]
  have hlm : (sortE m).length ≤ maxLen := by rw [maxLen_eq]; omega
  generalize sortE m = l at *
  refine awp_moveRow 3 9 37 1 2 24 [tg default] rfl rfl rfl ?_
  refine vLoopM (ι := { x : Nat // x ≤ (l).length }) 39 (fun x => [(0, egs m), (3, .sl (.row 37) (tg default :: (liveE m (l.take x.1)).map tg)), (4, egs l), (5, .int .i64 (x.1 : Int))]) (fun x => []) (fun x => [(37, .live (1 + (liveE m (l.take x.1)).length) (2) (24))]) (fun x => (l).length - x.1) ⟨0, Nat.zero_le _⟩ ⟨rfl, (forall_cons rfl (forall_cons rfl (forall_cons rfl (forall_cons rfl forall_nil)))), forall_nil, (forall_cons rfl forall_nil)⟩ (fun x => ⟨(forall_cons rfl (forall_cons (by simp [PV.ids, refInM]) (forall_cons rfl (forall_cons rfl forall_nil)))), forall_nil⟩) (fun x => ?_); obtain ⟨k, hk⟩ := x; simp only at hk ⊢
  by_cases h : (k : Int) < (l.length : Int)
  · (have hka : k < (l).length := by omega); (have w1 := w64s hka (hlm)); (have i1 : (0 : Int) ≤ (k : Int) := by omega)
    have i0 : (0 : Int) ≤ (k : Int) := by omega
    have hgd := getD_eg hka
    have hts := liveE_snoc m hka
    have hle := liveE_len m (l.take k)
    rw [List.length_take] at hle
    have hq := hQ (l.getD k default).id
    generalize l.getD k default = e at *
    generalize stateM m e.id = sm at *
    obtain ⟨s, fs⟩ := sm
    simp only at hts
    have hrm := room1 (show 1 + (liveE m (l.take k)).length + 1 ≤ 1000000 by omega) (show 16 ≤ 1000 by omega)
    have hrm' := room1 (show (liveE m (l.take k)).length + 1 + 1 ≤ 1000000 by omega) (show 16 ≤ 1000 by omega)
    by_cases h2 : s = 2
    · have e2 : (s == 2) = true := by simpa using h2
      rw [if_pos h2] at hts
      have hts2 : (liveE m (l.take (k + 1))).map tg = (liveE m (l.take k)).map tg ++ [tg e.id] := by rw [hts, List.map_append]; rfl
      have hst : Sized 2 (tg default :: (liveE m (l.take k)).map tg) := sized_tg (default :: liveE m (l.take k))
      simp only [go_sem, egs, h, List.length_map, hgd, eg, i0]
      refine vCall_of (hq) ?_ ?_ ?_; (focus simp only [go_sem, egs, tg]); (focus simp only [go_sem, egs, tg])
      simp only [go_sem, stc, e2, w1, hrm, hrm', sized_tg, List.length_map, List.length_cons, hst, egs, h, hgd, eg, i0, Nat.add_comm 1]
      exact ⟨⟨k + 1, by (try simp only); omega⟩, by show (l).length - (k + 1) < (l).length - k; omega, ⟨rfl, (forall_cons rfl (forall_cons (by (show PV.sl _ _ = PV.sl _ _; first | (rw [hts2]; rfl) | rw [hts])) (forall_cons rfl (forall_cons rfl forall_nil)))), forall_nil, (forall_cons (by (simp [upd, Hp.setq, St.with, hts]; try omega)) forall_nil)⟩⟩
    · have e2 : (s == 2) = false := by simpa using h2
      rw [if_neg h2, List.append_nil] at hts
      simp only [go_sem, egs, h, List.length_map, hgd, eg, i0]
      refine vCall_of (hq) ?_ ?_ ?_; (focus simp only [go_sem, egs, tg]); (focus simp only [go_sem, egs, tg])
      simp only [go_sem, stc, e2, w1]
      exact ⟨⟨k + 1, by (try simp only); omega⟩, by show (l).length - (k + 1) < (l).length - k; omega, ⟨rfl, (forall_cons rfl (forall_cons (by (show PV.sl _ _ = PV.sl _ _; first | (rw [hts2]; rfl) | rw [hts])) (forall_cons rfl (forall_cons rfl forall_nil)))), forall_nil, (forall_cons (by (simp [upd, Hp.setq, St.with, hts]; try omega)) forall_nil)⟩⟩
  · obtain rfl : k = l.length := by omega
    rw [List.take_length]
    simp only [go_sem, egs, h, List.length_map]
    try rfl
end Go.Proofs.YtcomkajmhlhphaaGreat

set_option linter.unusedSimpArgs false
set_option linter.unusedVariables false
set_option linter.unusedSimpArgs false
set_option linter.unusedVariables false
namespace Go.Proofs.YtcomkajmhlhphaaGreat
open Go.PL
def leT (x y : Tg) : Bool := !(tlessB y x)
def sortT (xs : List Tg) : List Tg := xs.mergeSort leT
theorem tless_iff (a b : Tg) : tlessB a b = true ↔ a.r < b.r ∨ (a.r = b.r ∧ a.n < b.n) := by
  unfold tlessB
  split
  · rename_i h
    rw [decide_eq_true_eq]
    exact ⟨fun k => .inr ⟨h, k⟩, fun k => by rcases k with k | k; exact absurd h (by omega); exact k.2⟩
  · rename_i h
    rw [decide_eq_true_eq]
    exact ⟨.inl, fun k => by rcases k with k | k; exact k; exact absurd k.1 h⟩
theorem leT_iff (a b : Tg) : leT a b = true ↔ a.r < b.r ∨ (a.r = b.r ∧ a.n ≤ b.n) := by
  unfold leT
  rw [Bool.not_eq_true', ← Bool.not_eq_true, tless_iff]
  omega
theorem leT_trans (a b c : Tg) (h1 : leT a b = true) (h2 : leT b c = true) : leT a c = true := by
  rw [leT_iff] at *; omega
theorem leT_total (a b : Tg) : (leT a b || leT b a) = true := by
  rw [Bool.or_eq_true, leT_iff, leT_iff]; omega
theorem leT_anti {a b : Tg} (h1 : leT a b = true) (h2 : leT b a = true) : a = b := by
  rw [leT_iff] at h1 h2
  obtain ⟨x, y⟩ := a
  obtain ⟨z, w⟩ := b
  simp only at h1 h2
  obtain rfl : x = z := by omega
  obtain rfl : y = w := by omega
  rfl
theorem leT_of_lt {a b : Tg} (h : tlessB a b = true) : leT a b = true := by
  rw [tless_iff] at h; rw [leT_iff]; omega
theorem sortT_eq {l l' : List Tg} (hp : l.Perm l') (hs : l.Pairwise fun a b => leT a b = true) : l = sortT l' :=
  List.Perm.eq_of_pairwise (le := fun a b => leT a b = true) (fun a b _ _ h1 h2 => leT_anti h1 h2) hs (List.pairwise_mergeSort leT_trans leT_total l') (hp.trans (List.mergeSort_perm l' leT).symm)
theorem sortT_perm {l l' : List Tg} (h : l.Perm l') : sortT l = sortT l' :=
  sortT_eq ((List.mergeSort_perm l leT).trans h) (List.pairwise_mergeSort leT_trans leT_total l)
/-! the document's own sort -/
theorem insE_perm (out : List Eg) (e : Eg) : (insE out e).Perm (e :: out) := by
  unfold insE
  have h := List.takeWhile_append_dropWhile (p := ahead e) (l := out)
  refine List.perm_middle.trans ?_
  rw [h]
theorem sortE_perm (l : List Eg) : (sortE l).Perm l := by
  have key : ∀ (l out : List Eg), (l.foldl insE out).Perm (l ++ out) := by
    intro l
    induction l with
    | nil => intro out; exact List.Perm.refl _
    | cons e l ih =>
      intro out
      rw [List.foldl_cons]
      refine (ih _).trans ?_
      refine ((List.Perm.refl l).append (insE_perm out e)).trans ?_
      exact List.perm_middle
  have := key l []
  rwa [List.append_nil] at this
def byId (a b : Eg) : Prop := leT a.id b.id = true
theorem insE_sorted {out : List Eg} (h : out.Pairwise byId) (e : Eg) : (insE out e).Pairwise byId := by
  unfold insE
  have hsplit := List.takeWhile_append_dropWhile (p := ahead e) (l := out)
  have hlt : ∀ x ∈ out.takeWhile (ahead e), tlessB x.id e.id = true := fun x hx => by
    have := List.all_eq_true.1 (List.all_takeWhile (p := ahead e) (l := out)) x hx
    exact this
  have hge : ∀ x ∈ out.dropWhile (ahead e), leT e.id x.id = true := by
    intro x hx
    cases hd : out.dropWhile (ahead e) with
    | nil => rw [hd] at hx; cases hx
    | cons y t =>
      rw [hd] at hx
      have hy : ahead e y = false := by
        have := List.head?_dropWhile_not (ahead e) out
        rw [hd] at this
        simpa using this
      have hye : leT e.id y.id = true := by unfold leT; unfold ahead at hy; rw [hy]; rfl
      have hs2 : (y :: t).Pairwise byId := by
        rw [← hsplit, hd] at h
        exact (List.pairwise_append.1 h).2.1
      rcases List.mem_cons.1 hx with rfl | hx
      · exact hye
      · exact leT_trans _ _ _ hye ((List.pairwise_cons.1 hs2).1 x hx)
  rw [← hsplit] at h
  obtain ⟨p1, p2, p3⟩ := List.pairwise_append.1 h
  refine List.pairwise_append.2 ⟨p1, List.pairwise_cons.2 ⟨hge, p2⟩, fun a ha b hb => ?_⟩
  rcases List.mem_cons.1 hb with rfl | hb
  · exact leT_of_lt (hlt a ha)
  · exact p3 a ha b hb
theorem sortE_sorted (l : List Eg) : (sortE l).Pairwise byId := by
  have key : ∀ (l out : List Eg), out.Pairwise byId → (l.foldl insE out).Pairwise byId := by
    intro l
    induction l with
    | nil => intro out h; exact h
    | cons e l ih => intro out h; exact ih _ (insE_sorted h e)
  exact key l [] .nil
/-- the tags of the nodes that are live, as they lie -/
def liveL (l : List Nd) : List Tg := (l.filter fun n => n.st == 2).map fun n => n.e.id
theorem live_iff (m : List Eg) (id : Tg) : (stateM m id).1 = 2 ↔ (atN (treeOf m) id).st = 2 := by
  have h := sch_state m id
  have h2 : (schM (treeOf m) id).2 = 0 ↔ (atN (treeOf m) id).st = 2 := by
    unfold schM
    by_cases a : (atN (treeOf m) id).st = 2
    · simp [a]
    · by_cases b : (atN (treeOf m) id).st = 3
      · simp [a, b]
      · simp [a, b]
  rw [← h2, h]
  by_cases a : (stateM m id).1 = 2
  · simp [a]
  · by_cases b : (stateM m id).1 = 3
    · simp [a, b]
    · simp [a, b]
theorem findE_self {m : List Eg} (hm : OkM m) {e : Eg} (he : e ∈ m) : findE m e.id = some e := by
  cases h : findE m e.id with
  | none =>
    unfold findE at h
    rw [List.find?_eq_none] at h
    exact absurd (h e he) (by simp)
  | some x =>
    obtain ⟨h1, h2⟩ := findE_id h
    rw [hm.a.inj he h2 h1]
theorem atN_self {m : List Eg} (hm : OkM m) {e : Eg} (he : e ∈ m) : atN (treeOf m) e.id = nodeOf m e := by
  rw [atN_tree m e.id (hm.a.2 e he), findE_self hm he]; rfl
theorem liveL_tree {m : List Eg} (hm : OkM m) : liveL (treeOf m) = liveE m m := by
  unfold liveL liveE treeOf
  rw [List.filter_map, List.map_map]
  have e1 : (fun n : Nd => n.e.id) ∘ nodeOf m = fun e => e.id := by
    funext e
    simp only [Function.comp, nodeOf_e]
  rw [e1]
  congr 1
  apply List.filter_congr
  intro e he
  have h := live_iff m e.id
  rw [atN_self hm he] at h
  simp only [Function.comp]
  by_cases a : (nodeOf m e).st = 2
  · rw [show ((nodeOf m e).st == 2) = true by simpa using a, show ((stateM m e.id).1 == 2) = true by simpa using h.2 a]
  · rw [show ((nodeOf m e).st == 2) = false by simpa using a, show ((stateM m e.id).1 == 2) = false by simpa using fun k => a (h.1 k)]
/-- the tags that are live, rising, the root's first -/
def liveM (m : List Eg) : List Tg := default :: sortT (liveL (treeOf m))
theorem liveR_eq {m : List Eg} (hm : OkM m) : liveR m = liveM m := by
  unfold liveR liveM
  congr 1
  rw [liveL_tree hm]
  refine sortT_eq (((sortE_perm m).filter _).map _) ?_
  unfold liveE
  exact List.pairwise_map.2 ((sortE_sorted m).filter _)
theorem liveM_ok {m : List Eg} (hm : OkM m) : ∀ t ∈ liveM m, (schM (treeOf m) t).2 = 0 := by
  intro t ht
  have key : (stateM m t).1 = 2 := by
    unfold liveM at ht
    rcases List.mem_cons.1 ht with rfl | ht
    · rw [live_iff]; rfl
    · have := (List.mergeSort_perm (liveL (treeOf m)) leT).mem_iff.1 ht
      rw [liveL_tree hm] at this
      unfold liveE at this
      obtain ⟨e, he, rfl⟩ := List.mem_map.1 this
      have := (List.mem_filter.1 he).2
      simpa using this
  unfold schM
  rw [if_pos ((live_iff m t).1 key)]
theorem liveM_len {m : List Eg} (hm : OkM m) : (liveM m).length ≤ 1000000 := by
  unfold liveM sortT
  rw [List.length_cons, List.length_mergeSort, liveL_tree hm]
  have := liveE_len m m
  have := hm.n
  omega
end Go.Proofs.YtcomkajmhlhphaaGreat

set_option linter.unusedSimpArgs false
set_option linter.unusedVariables false
set_option linter.unusedSimpArgs false
set_option linter.unusedVariables false
namespace Go.Proofs.YtcomkajmhlhphaaGreat
open Go.PL
open Go.Shelf Go.RowKit Go.Lib Go.Sort
theorem ltT (x y : Tg) : ltOf cmpT x y = tlessB x y := by
  unfold ltOf cmpT
  cases h1 : tlessB x y
  · cases h2 : tlessB y x <;> rfl
  · rfl
theorem swoT : SWO (ltOf cmpT) where
  irrefl x := by rw [ltT]; simp [tlessB]
  trans x y z h1 h2 := by
    rw [ltT] at *
    unfold tlessB at *
    by_cases a : x.r = y.r <;> by_cases b : y.r = z.r <;> by_cases c : x.r = z.r <;> simp [a, b, c] at * <;> first | omega | (simp_all; omega)
  ntrans x y z h1 h2 := by
    rw [ltT] at *
    unfold tlessB at *
    by_cases a : x.r = y.r <;> by_cases b : y.r = z.r <;> by_cases c : x.r = z.r <;> simp [a, b, c] at * <;> first | omega | (simp_all; omega)
theorem totT (x y : Tg) (h1 : ltOf cmpT x y = false) (h2 : ltOf cmpT y x = false) : x = y := by
  rw [ltT] at *
  unfold tlessB at *
  obtain ⟨a, b⟩ := x
  obtain ⟨c, d⟩ := y
  simp only at h1 h2
  by_cases e : a = c
  · subst e
    simp at h1 h2
    have : b = d := by omega
    rw [this]
  · have e' : ¬ c = a := fun h => e h.symm
    simp [e, e'] at h1 h2
    omega
theorem sort_call (xs : List Tg) (lo : Nat) (w : World) (v : Value) (hx : xs.length ≤ 1000000) (hr : RawRow flatTg w lo xs v) (hlo : lo ≤ w.heap.size) :
    Calls Tryz.prog 64 #[v, .func (.func 65) #[] #[]] w fun e w' => e = .returned (.tuple #[]) ∧ RawRow flatTg w' lo (sortT xs) v ∧ BelowF (fun k => k < lo) w w' := by
  rcases hr with ⟨h0, rfl⟩ | ⟨b, c, e, vs, h1, rfl, h3, h4, h5, h6⟩
  · obtain rfl := List.length_eq_zero_iff.1 h0
    refine (AnyF.slices_SortFunc_none sortTag none 0 (.func (.func 65) #[] #[]) w).mono fun e w' ⟨he, hw⟩ => ?_
    subst hw
    exact ⟨he, .inl ⟨by simp [sortT], rfl⟩, BelowF.refl _ _⟩
  · have hk : ∀ x : Tg, (flatTg.v x).length = 2 := fun _ => rfl
    have h1c : ∀ x : Tg, ∀ v ∈ flatTg.v x, v.oneCell' = true := fun x v hv => by
      simp only [flatTg, List.mem_cons, List.not_mem_nil, or_false] at hv
      rcases hv with rfl | rfl <;> rfl
    have hcmp : CmpLays Tryz.prog 65 #[] flatTg.v 2 cmpT b 0 xs.toArray.size w := fun _ _ _ _ x y => cmpTags x y _
    have eg : ∀ args w, (callFunc 65 args).run Tryz.prog w = .ok (.enter 65 args) w := enters_of Tryz.func65 (by kernel_rfl) rfl
    have hH := raw_holds flatTg (c := c) h4 h5 h6
    have hb : b < w.heap.size := (Array.getElem?_eq_some_iff.1 h4).1
    have hcon := AnyQ.slices_SortFunc_total sortTag 2 Tryz.isAgg24 Tryz.sizeOf24 flatTg.v hk h1c cmpT swoT 65 #[] b 0 c xs.toArray w eg hcmp hH hb (by simp; omega) totT
    have hsz : xs.toArray.size = xs.length := by simp
    rw [hsz] at hcon
    refine hcon.mono fun e w' ⟨he, n, os, hw⟩ => ⟨he, ?_⟩
    have hms : (xs.toArray.toList.mergeSort fun x y => !(ltOf cmpT) y x) = sortT xs := by
      unfold sortT leT
      simp only [ltT]
    rw [hms] at hw
    have hly : (sortT xs).length = xs.length := by unfold sortT; simp
    have hrs := raw_sorted flatTg (ys := sortT xs) (n := n) (os := os) h1 h3 h4 h5 hly
    rw [hly] at hrs
    rw [hw]
    exact hrs
end Go.Proofs.YtcomkajmhlhphaaGreat
