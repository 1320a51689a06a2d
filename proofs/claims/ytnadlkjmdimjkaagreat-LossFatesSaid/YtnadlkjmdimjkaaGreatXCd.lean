/- Contracts of functions and laws of this seat, each for every input that it names: lemmas of the proof. -/
import Derived.Test.YtnadlkjmdimjkaaGreatXCc
import Derived.Test.YtnadlkjmdimjkaaGreatPlG
import Derived.Test.YtnadlkjmdimjkaaGreatXBo
set_option linter.unusedSimpArgs false
set_option linter.unusedVariables false
set_option linter.unusedSimpArgs false
set_option linter.unusedVariables false
namespace Go.Proofs.YtnadlkjmdimjkaaGreat
open Go.PL
structure WyS (m : List Eg) (id0 : Tg) where
  k : Nat
  id : Tg
  way : List Eg
  hk : k ≤ m.length + 1
  hl : way.length = k
  h : wayF m (m.length + 1 - k) id way = wayM m id0
def wayc (x : Option (List Eg)) : PV := .tup [egs (x.getD []), .bool x.isSome]
theorem wayc_dids (x : Option (List Eg)) : (wayc x).dids = [] := by simp only [wayc, PV.dids, PV.didsL, egs_dids, List.append_nil]
set_option maxRecDepth 20000 in
set_option maxHeartbeats 16000000 in
theorem RWay_pure (m : List Eg) (id : Tg) (hm : OkM m) : PL.Pure Tryz.prog 126 [egs m, tg id] (wayc (wayM m id)) := by
  have hn := hm.n
  refine PL.Pure.of_v Tryz.func126 (by decide) rfl Tryz.ntmps126 Tryz.results126 (by simp) (wayc_dids _) ?_
  simp only [go_sem, egs, tg]
  refine vLoopP (ι := WyS m id) 37 (fun x => [(0, egs m), (3, .ptr 3 0), (6, egs x.way), (7, .int .i64 (x.k : Int))]) (fun x => [(3, [.int .i64 x.id.r, .int .i64 x.id.n], false)]) (fun x => []) (fun x => m.length + 1 - x.k) ⟨0, id, [], Nat.zero_le _, rfl, rfl⟩
    ⟨rfl, forall_cons (.same rfl) (forall_cons (.same rfl) (forall_cons (.row 9 []) (forall_cons (.same rfl) forall_nil))), forall_cons ⟨rfl, rfl⟩ forall_nil, forall_nil⟩ (fun x => ⟨forall_cons rfl (forall_cons rfl (forall_cons rfl (forall_cons rfl forall_nil))), (forall_cons rfl (forall_nil))⟩) (fun x => ?_)
  obtain ⟨k, id', way, hk, hl, h⟩ := x
  simp only
  by_cases hlt : (k : Int) ≤ (m.length : Int)
  · have hk2 : m.length + 1 - k = (m.length - k) + 1 := by omega
    rw [hk2, wayF] at h
    by_cases hd : id' = default
    · have hb : decide (id' = default) = true := by simpa using hd
      rw [if_pos hd] at h
      simp only [go_sem, egs, hlt, List.length_map, tgd, hb]
      simp only [go_sem, ← h, wayc, egs, Option.getD_some, Option.isSome_some]
    · have hb : decide (id' = default) = false := by simpa using hd
      rw [if_neg hd] at h
      have hA := RAtE_pure m id' (by rw [maxLen_eq]; omega)
      rcases idx_find (m := m) (id := id') with ⟨h1, h2⟩ | ⟨i, hi, h1, h2⟩
      · rw [h1] at hA
        rw [h2] at h
        simp only [go_sem, egs, hlt, List.length_map, tgd, hb]
        refine vCall_of (hA) ?_ ?_ ?_; (focus simp only [go_sem, egs, tg]); (focus simp only [go_sem, egs, tg])
        simp only [go_sem, ← h, wayc, egs, Option.getD_none, Option.isSome_none, List.map_nil]
      · rw [h1] at hA
        rw [h2] at h
        simp only at h
        have n1 : ¬ (i : Int) < 0 := by omega
        have i0 : (0 : Int) ≤ (i : Int) := by omega
        have i1 : (i : Int) < (m.length : Int) := by omega
        have w1 : IntKind.i64.wrap ((k : Int) + 1) = ((k + 1 : Nat) : Int) := by rw [w64 (by omega)]; rfl
        have hrm := room1 (show 1 + way.length ≤ 1000000 by omega) (show 264 ≤ 1000 by omega)
        have hsz : Sized 20 (way.map eg) := sized_eg way
        have hat := atoms_eg way
        have hs1 : Sized 20 [eg (m.getD i default)] := sized_eg [m.getD i default]
        simp only [go_sem, egs, hlt, List.length_map, tgd, hb]
        refine vCall_of (hA) ?_ ?_ ?_; (focus simp only [go_sem, egs, tg]); (focus simp only [go_sem, egs, tg])
        simp only [go_sem, n1, i0, i1, List.length_map, getD_eg hi, eg, w1, hat, hrm, hsz]
        exact ⟨⟨k + 1, (m.getD i default).par, m.getD i default :: way, by omega, by simp [hl], by rw [show m.length + 1 - (k + 1) = m.length - k by omega]; exact h⟩, by show m.length + 1 - (k + 1) < m.length + 1 - k; omega,
          ⟨rfl, forall_cons (.same rfl) (forall_cons (.same rfl) (forall_cons (.row 31 _) (forall_cons (.same rfl) forall_nil))), forall_cons ⟨rfl, rfl⟩ forall_nil, forall_nil⟩⟩
  · have hk2 : m.length + 1 - k = 0 := by omega
    rw [hk2, wayF] at h
    simp only [go_sem, egs, hlt, List.length_map, ← h, wayc, Option.getD_none, Option.isSome_none, List.map_nil]
def stc (x : Int × List Fd) : PV := .tup [.int .i64 x.1, flds x.2]
theorem stc_dids (x : Int × List Fd) : (stc x).dids = [] := by simp only [stc, PV.dids, PV.didsL, flds_dids, List.append_nil]
set_option maxRecDepth 20000 in
set_option maxHeartbeats 16000000 in
theorem RState_pure (m : List Eg) (id : Tg) (hm : OkM m) : PL.Pure Tryz.prog 67 [egs m, tg id] (stc (stateM m id)) := by
  have hn := hm.n
  have hA := RAtE_pure m id (by rw [maxLen_eq]; omega)
  have hW := RWay_pure m id hm
  unfold stateM
  by_cases h0 : id ≠ default ∧ findE m id = none
  · rw [if_pos h0]
    have hb : decide (id = default) = false := by simpa using h0.1
    rcases idx_find (m := m) (id := id) with ⟨h1, h2⟩ | ⟨i, hi, h1, h2⟩
    · rw [h1] at hA
      refine PL.Pure.of_v Tryz.func67 (by decide) rfl Tryz.ntmps67 Tryz.results67 (by simp) (stc_dids _) ?_
      simp only [go_sem, egs, tg, tgd, hb, Bool.not_false]
      refine vCall_of (hA) ?_ ?_ ?_; (focus simp only [go_sem, egs, tg]); (focus simp only [go_sem, egs, tg])
      simp only [go_sem, stc, flds, List.map_nil]
    · rw [h2] at h0; cases h0.2
  · rw [if_neg h0]
    have pre : (decide (id = default) = true) ∨ (decide (id = default) = false ∧ ∃ i : Nat, idx (fun x => decide (x.id = id)) m = (i : Int)) := by
      by_cases hd : id = default
      · exact .inl (by simpa using hd)
      · right
        refine ⟨by simpa using hd, ?_⟩
        rcases idx_find (m := m) (id := id) with ⟨_, h2⟩ | ⟨i, hi, h1, h2⟩
        · exact absurd ⟨hd, h2⟩ h0
        · exact ⟨i, h1⟩
    cases hw : wayM m id with
    | none =>
      rw [hw] at hW
      rcases pre with hb | ⟨hb, i, h1⟩
      · refine PL.Pure.of_v Tryz.func67 (by decide) rfl Tryz.ntmps67 Tryz.results67 (by simp) (stc_dids _) ?_
        simp only [go_sem, egs, tg, tgd, hb, Bool.not_true]
        refine vCall_of (hW) ?_ ?_ ?_; (focus simp only [go_sem, egs, tg]); (focus simp only [go_sem, egs, tg])
        simp only [go_sem, wayc, Option.isSome_none, stc, flds, List.map_nil]
      · rw [h1] at hA
        have n1 : ¬ (i : Int) < 0 := by omega
        refine PL.Pure.of_v Tryz.func67 (by decide) rfl Tryz.ntmps67 Tryz.results67 (by simp) (stc_dids _) ?_
        simp only [go_sem, egs, tg, tgd, hb, Bool.not_false]
        refine vCall_of (hA) ?_ ?_ ?_; (focus simp only [go_sem, egs, tg]); (focus simp only [go_sem, egs, tg])
        simp only [go_sem, n1]
        refine vCall_of (hW) ?_ ?_ ?_; (focus simp only [go_sem, egs, tg]); (focus simp only [go_sem, egs, tg])
        simp only [go_sem, wayc, Option.isSome_none, stc, flds, List.map_nil]
    | some w =>
      rw [hw] at hW
      have hway := wayM_iff.1 hw
      have hwl : w.length ≤ maxLen := by have := hway.len; rw [maxLen_eq]; omega
      simp only
      generalize hF : foldA w rootL = F
      rcases pre with hb | ⟨hb, i, h1⟩
      · refine PL.Pure.of_v Tryz.func67 (by decide) rfl Tryz.ntmps67 Tryz.results67 (by simp) (stc_dids _) ?_
        simp only [go_sem, egs, tg, tgd, hb, Bool.not_true]
        refine vCall_of (hW) ?_ ?_ ?_; (focus simp only [go_sem, egs, tg]); (focus simp only [go_sem, egs, tg])
        simp only [go_sem, wayc, Option.isSome_some, Option.getD_some]
        refine vCall_of (Root_pure) ?_ ?_ ?_; (focus simp only [go_sem]); (focus simp only [go_sem])
        simp only [go_sem, flds]
        refine vLoopM (ι := { x : Nat × (List Fd) // x.1 ≤ (w).length ∧ (OkFs x.2 ∧ foldA (w.drop x.1) x.2 = F) }) 50 (fun x => [(6, egs w), (8, flds x.1.2), (9, .int .i64 (x.1.1 : Int))]) (fun x => []) (fun x => []) (fun x => (w).length - x.1.1) ⟨(0, rootL), Nat.zero_le _, ⟨okRoot, hF⟩⟩ ⟨rfl, (forall_cons rfl (forall_cons rfl (forall_cons rfl forall_nil))), forall_nil, forall_nil⟩ (fun x => ⟨(forall_cons rfl (forall_cons rfl (forall_cons rfl forall_nil))), forall_nil⟩) (fun x => ?_); obtain ⟨⟨k, fs⟩, hk, hI⟩ := x; simp only at hk hI ⊢
        obtain ⟨okf, hI⟩ := hI
        by_cases h : (k : Int) < (w.length : Int)
        · (have hka : k < (w).length := by omega); (have w1 := w64s hka (hwl)); (have i1 : (0 : Int) ≤ (k : Int) := by omega)
          have hA := RApply_pure fs (w.getD k default).ln okf (hm.l _ (hway.mem _ (getD_mem hka)))
          rw [drop_cons' hka (d := default), foldA_next] at hI
          by_cases hz : (applyM fs (w.getD k default).ln).2 = 0
          · rw [if_pos hz] at hI
            simp only [go_sem, egs, h, List.length_map, getD_eg hka, eg, i1]
            refine vCall_of (hA) ?_ ?_ ?_; (focus simp only [go_sem, flds, lns]); (focus simp only [go_sem, flds, lns])
            simp only [go_sem, fldsc, hz, w1]
            exact ⟨⟨(k + 1, (applyM fs (w.getD k default).ln).1), by (try simp only); omega, ⟨okApply okf (hm.l _ (hway.mem _ (getD_mem hka))), hI⟩⟩, by show (w).length - (k + 1) < (w).length - k; omega, ⟨rfl, (forall_cons rfl (forall_cons rfl (forall_cons rfl forall_nil))), forall_nil, forall_nil⟩⟩
          · rw [if_neg hz] at hI
            have hz' : ((applyM fs (w.getD k default).ln).2 != 0) = true := by simpa using hz
            simp only [go_sem, egs, h, List.length_map, getD_eg hka, eg, i1]
            refine vCall_of (hA) ?_ ?_ ?_; (focus simp only [go_sem, flds, lns]); (focus simp only [go_sem, flds, lns])
            simp only [go_sem, fldsc, hz', ← hI, stc, flds, List.map_nil]
        · obtain rfl : k = w.length := by omega
          rw [List.drop_length] at hI
          have hI' : F = some fs := hI.symm
          subst hI'
          simp only [go_sem, egs, h, List.length_map, stc, flds]
      · rw [h1] at hA
        have n1 : ¬ (i : Int) < 0 := by omega
        refine PL.Pure.of_v Tryz.func67 (by decide) rfl Tryz.ntmps67 Tryz.results67 (by simp) (stc_dids _) ?_
        simp only [go_sem, egs, tg, tgd, hb, Bool.not_false]
        refine vCall_of (hA) ?_ ?_ ?_; (focus simp only [go_sem, egs, tg]); (focus simp only [go_sem, egs, tg])
        simp only [go_sem, n1]
        refine vCall_of (hW) ?_ ?_ ?_; (focus simp only [go_sem, egs, tg]); (focus simp only [go_sem, egs, tg])
        simp only [go_sem, wayc, Option.isSome_some, Option.getD_some]
        refine vCall_of (Root_pure) ?_ ?_ ?_; (focus simp only [go_sem]); (focus simp only [go_sem])
        simp only [go_sem, flds]
        refine vLoopM (ι := { x : Nat × (List Fd) // x.1 ≤ (w).length ∧ (OkFs x.2 ∧ foldA (w.drop x.1) x.2 = F) }) 50 (fun x => [(6, egs w), (8, flds x.1.2), (9, .int .i64 (x.1.1 : Int))]) (fun x => []) (fun x => []) (fun x => (w).length - x.1.1) ⟨(0, rootL), Nat.zero_le _, ⟨okRoot, hF⟩⟩ ⟨rfl, (forall_cons rfl (forall_cons rfl (forall_cons rfl forall_nil))), forall_nil, forall_nil⟩ (fun x => ⟨(forall_cons rfl (forall_cons rfl (forall_cons rfl forall_nil))), forall_nil⟩) (fun x => ?_); obtain ⟨⟨k, fs⟩, hk, hI⟩ := x; simp only at hk hI ⊢
        obtain ⟨okf, hI⟩ := hI
        by_cases h : (k : Int) < (w.length : Int)
        · (have hka : k < (w).length := by omega); (have w1 := w64s hka (hwl)); (have i1 : (0 : Int) ≤ (k : Int) := by omega)
          have hA := RApply_pure fs (w.getD k default).ln okf (hm.l _ (hway.mem _ (getD_mem hka)))
          rw [drop_cons' hka (d := default), foldA_next] at hI
          by_cases hz : (applyM fs (w.getD k default).ln).2 = 0
          · rw [if_pos hz] at hI
            simp only [go_sem, egs, h, List.length_map, getD_eg hka, eg, i1]
            refine vCall_of (hA) ?_ ?_ ?_; (focus simp only [go_sem, flds, lns]); (focus simp only [go_sem, flds, lns])
            simp only [go_sem, fldsc, hz, w1]
            exact ⟨⟨(k + 1, (applyM fs (w.getD k default).ln).1), by (try simp only); omega, ⟨okApply okf (hm.l _ (hway.mem _ (getD_mem hka))), hI⟩⟩, by show (w).length - (k + 1) < (w).length - k; omega, ⟨rfl, (forall_cons rfl (forall_cons rfl (forall_cons rfl forall_nil))), forall_nil, forall_nil⟩⟩
          · rw [if_neg hz] at hI
            have hz' : ((applyM fs (w.getD k default).ln).2 != 0) = true := by simpa using hz
            simp only [go_sem, egs, h, List.length_map, getD_eg hka, eg, i1]
            refine vCall_of (hA) ?_ ?_ ?_; (focus simp only [go_sem, flds, lns]); (focus simp only [go_sem, flds, lns])
            simp only [go_sem, fldsc, hz', ← hI, stc, flds, List.map_nil]
        · obtain rfl : k = w.length := by omega
          rw [List.drop_length] at hI
          have hI' : F = some fs := hI.symm
          subst hI'
          simp only [go_sem, egs, h, List.length_map, stc, flds]
set_option maxRecDepth 20000 in
set_option maxHeartbeats 16000000 in
theorem RSchema_pure (m : List Eg) (id : Tg) (hm : OkM m) : PL.Pure Tryz.prog 55 [egs m, tg id] (fldsc (schM (treeOf m) id)) := by
  have hS := RState_pure m id hm
  rw [sch_state]
  generalize stateM m id = y at *
  obtain ⟨c, l⟩ := y
  simp only
  by_cases h3 : c = 3
  · subst h3
    refine PL.Pure.of_v Tryz.func55 (by decide) rfl Tryz.ntmps55 Tryz.results55 (by simp) (fldsc_dids _) ?_
    simp only [go_sem, egs, tg]
    refine vCall_of (hS) ?_ ?_ ?_; (focus simp only [go_sem, egs, tg]); (focus simp only [go_sem, egs, tg])
    simp only [go_sem, stc, flds, fldsc, List.map_nil, if_true]
  · have e3 : (c == 3) = false := by simpa using h3
    by_cases h2 : c = 2
    · subst h2
      refine PL.Pure.of_v Tryz.func55 (by decide) rfl Tryz.ntmps55 Tryz.results55 (by simp) (fldsc_dids _) ?_
      simp only [go_sem, egs, tg]
      refine vCall_of (hS) ?_ ?_ ?_; (focus simp only [go_sem, egs, tg]); (focus simp only [go_sem, egs, tg])
      simp only [go_sem, stc, flds, fldsc, ne_eq, not_true_eq_false, if_false]
    · have e2 : (c != 2) = true := by simpa using h2
      refine PL.Pure.of_v Tryz.func55 (by decide) rfl Tryz.ntmps55 Tryz.results55 (by simp) (fldsc_dids _) ?_
      simp only [go_sem, egs, tg]
      refine vCall_of (hS) ?_ ?_ ?_; (focus simp only [go_sem, egs, tg]); (focus simp only [go_sem, egs, tg])
      simp only [go_sem, stc, flds, fldsc, e3, e2, h3, h2, ne_eq, not_false_eq_true, if_true, if_false, List.map_nil]
theorem ups_step {w : List Eg} {s : Nat} (h : s < w.length) : (w.drop (w.length - (s + 1))).reverse.map (·.id) = (w.drop (w.length - s)).reverse.map (·.id) ++ [(w.getD (w.length - 1 - s) default).id] := by
  have e : w.length - (s + 1) = w.length - 1 - s := by omega
  rw [e, List.drop_eq_getElem_cons (by omega), List.reverse_cons, List.map_append, show w.length - 1 - s + 1 = w.length - s by omega]
  rw [getD_lt (by omega)]
  rfl
set_option maxRecDepth 20000 in
set_option maxHeartbeats 16000000 in
theorem RUp_pure (m : List Eg) (id : Tg) (hm : OkM m) : PL.Pure Tryz.prog 169 [egs m, tg id] (tgsc (upM m id)) := by
  have hS := RSchema_pure m id hm
  unfold upM
  by_cases hc : upC m id = 0
  · obtain ⟨hw, _, _⟩ := live_way hc
    simp only [hc, ne_eq, not_true_eq_false, if_false]
    have hc' : (schM (treeOf m) id).2 = 0 := hc
    have hW := RWay_pure m id hm
    rw [wayM_iff.2 hw] at hW
    generalize wayD m id = w at *
    have hwl : w.length ≤ 40 := by have := hw.len; have := hm.n; omega
    have w0 : IntKind.i64.wrap ((w.length : Int) - 1) = (w.length : Int) - 1 := w64 (by omega)
    refine PL.Pure.of_v Tryz.func169 (by decide) rfl Tryz.ntmps169 Tryz.results169 (by simp) (tgsc_dids _) ?_
    simp only [go_sem, egs, tg]
    refine vCall_of (hS) ?_ ?_ ?_; (focus simp only [go_sem, egs, tg]); (focus simp only [go_sem, egs, tg])
    simp only [go_sem, fldsc, hc']
    refine vCall_of (hW) ?_ ?_ ?_; (focus simp only [go_sem, egs, tg]); (focus simp only [go_sem, egs, tg])
    simp only [go_sem, wayc, Option.isSome_some, Option.getD_some, egs, List.length_map, w0]
    refine awp_moveRow 10 27 42 0 2 24 [] rfl rfl rfl ?_
    refine vLoopM (ι := { s : Nat // s ≤ w.length }) 47 (fun x => [(8, egs w), (10, .sl (.row 42) (((w.drop (w.length - x.1)).reverse.map (·.id)).map tg)), (11, .int .i64 ((w.length : Int) - 1 - (x.1 : Int)))]) (fun x => []) (fun x => [(42, .live x.1 2 24)]) (fun x => w.length - x.1) ⟨0, Nat.zero_le _⟩
      ⟨rfl, forall_cons rfl (forall_cons (by show PV.sl _ _ = PV.sl _ _; simp) (forall_cons (by show PV.int _ _ = PV.int _ _; simp) forall_nil)), forall_nil, forall_cons rfl forall_nil⟩ (fun x => ⟨forall_cons rfl (forall_cons (by simp [PV.ids, refInM]) (forall_cons rfl forall_nil)), forall_nil⟩) (fun x => ?_)
    obtain ⟨s, hs⟩ := x
    simp only
    have hlen : ((w.drop (w.length - s)).reverse.map (·.id)).length = s := by simp; omega
    have hrm := room1 (show s + 1 ≤ 1000000 by omega) (show 16 ≤ 1000 by omega)
    by_cases h : s < w.length
    · have hge : (0 : Int) ≤ (w.length : Int) - 1 - (s : Int) := by omega
      have hlt : (w.length : Int) - 1 - (s : Int) < (w.length : Int) := by omega
      have hto : ((w.length : Int) - 1 - (s : Int)).toNat = w.length - 1 - s := by omega
      have hki : w.length - 1 - s < w.length := by omega
      have w1 : IntKind.i64.wrap ((w.length : Int) - 1 - (s : Int) - 1) = (w.length : Int) - 1 - ((s + 1 : Nat) : Int) := by rw [w64 (by omega)]; omega
      have e0 : (w.length : Int) - 1 - (s : Int) = ((w.length - 1 - s : Nat) : Int) := by omega
      have hst := ups_step h
      rw [e0] at hge hlt w1 ⊢
      simp only [go_sem, egs, hge, hlt, List.length_map, getD_eg hki, eg, hlen, hrm, sized_tg, w1]
      refine ⟨⟨s + 1, by omega⟩, by show w.length - (s + 1) < w.length - s; omega, ⟨rfl, forall_cons rfl (forall_cons ?_ (forall_cons rfl forall_nil)), forall_nil, forall_cons rfl forall_nil⟩⟩
      show PV.sl (.row 42) _ = PV.sl (.row 42) _
      rw [hst]
      simp [tg]
    · obtain rfl : s = w.length := by omega
      have hge : ¬ (0 : Int) ≤ (w.length : Int) - 1 - (w.length : Int) := by omega
      have e : (w.drop (w.length - w.length)).reverse.map (·.id) ++ [default] = upL w := by simp [upL]
      simp only [go_sem, hge, sized_tg, List.length_map, hlen, hrm, tgsc, tgs, ← e, List.map_append, List.map_cons, List.map_nil, tg_default]
  · have hc' : ((schM (treeOf m) id).2 != 0) = true := by have h : (schM (treeOf m) id).2 ≠ 0 := hc; simpa using h
    simp only [ne_eq, hc, not_false_eq_true, if_true]
    refine PL.Pure.of_v Tryz.func169 (by decide) rfl Tryz.ntmps169 Tryz.results169 (by simp) (tgsc_dids _) ?_
    simp only [go_sem, egs, tg]
    refine vCall_of (hS) ?_ ?_ ?_; (focus simp only [go_sem, egs, tg]); (focus simp only [go_sem, egs, tg])
    simp only [go_sem, fldsc, hc', tgsc, tgs, List.map_nil, upC]
end Go.Proofs.YtnadlkjmdimjkaaGreat

set_option linter.unusedSimpArgs false
set_option linter.unusedVariables false
set_option linter.unusedSimpArgs false
set_option linter.unusedVariables false
namespace Go.Proofs.YtnadlkjmdimjkaaGreat
open Go.PL
theorem up_at (p : List Eg) {k : Nat} (hk : k < p.length) : (upL p).getD k default = (p.getD (p.length - 1 - k) default).id := by
  have h := upL_get p (p.length - 1 - k) (by omega)
  rwa [show p.length - (p.length - 1 - k) - 1 = k by omega] at h
theorem up_not {m : List Eg} (ha : Apart m) {a b : Tg} {p q : List Eg} (hp : Way m a p) (hq : Way m b q) {k : Nat} (hk : k < p.length - lcp p q) : (upL p).getD k default ∉ upL q := by
  have ht : p.length - 1 - k < p.length := by omega
  have hin : p.getD (p.length - 1 - k) default ∈ p.drop (lcp p q) := by
    rw [getD_lt ht, List.mem_drop_iff_getElem]
    exact ⟨p.length - 1 - k - lcp p q, by omega, by congr 1; omega⟩
  have hpm := hp.mem _ (getD_mem (d := default) ht)
  rw [up_at p (by omega)]
  intro hm
  unfold upL at hm
  rcases List.mem_append.1 hm with hm | hm
  · obtain ⟨e2, he2, hid⟩ := List.mem_map.1 hm
    have he2 : e2 ∈ q := List.mem_reverse.1 he2
    rw [← List.take_append_drop (lcp p q) q] at he2
    rcases List.mem_append.1 he2 with h2 | h2
    · rw [← lcp_take] at h2
      have e : e2 = p.getD (p.length - 1 - k) default := ha.inj (hp.mem _ (List.mem_of_mem_take h2)) hpm hid
      have hn := hp.nodup
      rw [← List.take_append_drop (lcp p q) p] at hn
      exact (List.nodup_append.1 hn).2.2 _ h2 _ hin e
    · exact stops_apart ha hp hq hin h2 hid.symm
  · exact ha.n _ hpm (by simpa using hm)
theorem meet_up (p q : List Eg) : (upL q).getD (q.length - lcp p q) default = meetT p q := by
  have := upL_at q p
  rw [lcp_comm q p] at this
  rw [this, meet_comm]
theorem up_meet (p q : List Eg) : meetT p q ∈ upL q := by
  rw [← meet_up]
  exact getD_mem (by rw [upL_len]; omega)
theorem hasT_at {l : List Tg} (hn : l.Nodup) {k : Nat} (hk : k < l.length) : hasT l (l.getD k default) = (k : Int) := by
  unfold hasT idx
  have h : l.findIdx? (fun x => decide (x = l.getD k default)) = some k := by
    rw [List.findIdx?_eq_some_iff_getElem]
    refine ⟨hk, by rw [getD_lt hk]; simp, fun j hj => ?_⟩
    rw [getD_lt hk]
    have := List.pairwise_iff_getElem.1 hn j k (by omega) hk hj
    simpa using this
  rw [h]
theorem has_meet {m : List Eg} (ha : Apart m) {b : Tg} {p q : List Eg} (hq : Way m b q) : hasT (upL q) (meetT p q) = ((q.length - lcp p q : Nat) : Int) := by
  have h := hasT_at (upL_nodup ha hq.mem hq.nodup) (k := q.length - lcp p q) (by rw [upL_len]; omega)
  rwa [meet_up] at h
set_option maxRecDepth 20000 in
set_option maxHeartbeats 16000000 in
theorem RMeet_pure (m : List Eg) (a b : Tg) (hm : OkM m) : PL.Pure Tryz.prog 168 [egs m, tg a, tg b] (tgc (meetM m a b)) := by
  have hA := RUp_pure m a hm
  have hB := RUp_pure m b hm
  unfold meetM pathC
  unfold upM at hA hB
  by_cases ca : upC m a = 0
  · rw [if_neg (fun h => h ca)] at hA
    by_cases cb : upC m b = 0
    · rw [if_neg (fun h => h cb)] at hB
      simp only [ca, cb, ne_eq, not_true_eq_false, if_false]
      obtain ⟨wa, _, _⟩ := live_way ca
      obtain ⟨wb, _, _⟩ := live_way cb
      have hpl : (wayD m a).length ≤ 40 := by have := wa.len; have := hm.n; omega
      have hql : (wayD m b).length ≤ 40 := by have := wb.len; have := hm.n; omega
      generalize wayD m a = p at *
      generalize wayD m b = q at *
      have lc := lcp_le p q
      refine PL.Pure.of_v Tryz.func168 (by decide) rfl Tryz.ntmps168 Tryz.results168 (by simp) (tgc_dids _) ?_
      simp only [go_sem, egs, tg]
      refine vCall_of (hA) ?_ ?_ ?_; (focus simp only [go_sem, egs, tg]); (focus simp only [go_sem, egs, tg])
      simp only [go_sem, tgsc]
      refine vCall_of (hB) ?_ ?_ ?_; (focus simp only [go_sem, egs, tg]); (focus simp only [go_sem, egs, tg])
      simp only [go_sem, tgsc]
      refine vLoopM (ι := { k : Nat // k ≤ p.length - lcp p q }) 51 (fun x => [(6, .ptr 6 0), (8, tgs (upL p)), (10, tgs (upL q)), (12, .int .i64 (x.1 : Int))]) (fun x => [(6, [.int .i64 0, .int .i64 0], false)]) (fun x => []) (fun x => p.length - x.1) ⟨0, Nat.zero_le _⟩
        ⟨rfl, (forall_cons rfl (forall_cons rfl (forall_cons rfl (forall_cons rfl (forall_nil))))), forall_cons ⟨rfl, rfl⟩ forall_nil, forall_nil⟩ (fun x => ⟨forall_cons rfl (forall_cons rfl (forall_cons rfl (forall_cons rfl forall_nil))), (forall_cons rfl (forall_nil))⟩) (fun x => ?_)
      obtain ⟨k, hk⟩ := x
      simp only
      have hkl : k < (upL p).length := by rw [upL_len]; omega
      have h1 : (k : Int) < ((upL p).length : Int) := by omega
      have h0 : (0 : Int) ≤ (k : Int) := by omega
      have hI := RHas18_pure (upL q) ((upL p).getD k default) (by rw [upL_len, maxLen_eq]; omega)
      by_cases he : k = p.length - lcp p q
      · have hv : (upL p).getD k default = meetT p q := by rw [he]; exact upL_at p q
        rw [hv] at hI
        have h2 := hasT_yes (up_meet p q)
        simp only [go_sem, tgs, h1, h0, List.length_map, getD_tg hkl, hv, tg]
        refine vCall_of (hI) ?_ ?_ ?_; (focus simp only [go_sem, tgs, tg]); (focus simp only [go_sem, tgs, tg])
        simp only [go_sem, h2, h0, h1, List.length_map, getD_tg hkl, hv, tg, tgs, tgc]
      · have hnot := up_not hm.a wa wb (k := k) (by omega)
        rw [hasT_no hnot] at hI
        have w1 : IntKind.i64.wrap ((k : Int) + 1) = ((k + 1 : Nat) : Int) := by rw [w64 (by omega)]; rfl
        simp only [go_sem, tgs, h1, h0, List.length_map, getD_tg hkl, tg]
        refine vCall_of (hI) ?_ ?_ ?_; (focus simp only [go_sem, tgs, tg]); (focus simp only [go_sem, tgs, tg])
        simp only [go_sem, w1]
        exact ⟨⟨k + 1, by omega⟩, by show p.length - (k + 1) < p.length - k; omega, ⟨rfl, (forall_cons rfl (forall_cons rfl (forall_cons rfl (forall_cons rfl (forall_nil))))), forall_cons ⟨rfl, rfl⟩ forall_nil, forall_nil⟩⟩
    · rw [if_pos cb] at hB
      have cb' : (upC m b != 0) = true := by simpa using cb
      simp only [ca, cb, ne_eq, not_true_eq_false, not_false_eq_true, if_true, if_false]
      refine PL.Pure.of_v Tryz.func168 (by decide) rfl Tryz.ntmps168 Tryz.results168 (by simp) (tgc_dids _) ?_
      simp only [go_sem, egs, tg]
      refine vCall_of (hA) ?_ ?_ ?_; (focus simp only [go_sem, egs, tg]); (focus simp only [go_sem, egs, tg])
      simp only [go_sem, tgsc]
      refine vCall_of (hB) ?_ ?_ ?_; (focus simp only [go_sem, egs, tg]); (focus simp only [go_sem, egs, tg])
      simp only [go_sem, tgsc, cb', tgc, tg_default]
  · rw [if_pos ca] at hA
    have ca' : (upC m a != 0) = true := by simpa using ca
    simp only [ca, ne_eq, not_false_eq_true, if_true]
    refine PL.Pure.of_v Tryz.func168 (by decide) rfl Tryz.ntmps168 Tryz.results168 (by simp) (tgc_dids _) ?_
    simp only [go_sem, egs, tg]
    refine vCall_of (hA) ?_ ?_ ?_; (focus simp only [go_sem, egs, tg]); (focus simp only [go_sem, egs, tg])
    simp only [go_sem, tgsc, ca', tgc, tg_default]
theorem upg_take (p : List Eg) (c : Nat) (hc : c ≤ p.length) : ((upL p).take (p.length - c)).map upg = (p.drop c).reverse.map fun e => upg e.id := by
  rw [upL_take p c hc, List.map_map]; rfl
set_option maxRecDepth 20000 in
set_option maxHeartbeats 16000000 in
theorem RPath_pure (m : List Eg) (a b : Tg) (hm : OkM m) : PL.Pure Tryz.prog 93 [egs m, tg a, tg b] (legsc (pathM m a b)) := by
  have hA := RUp_pure m a hm
  have hB := RUp_pure m b hm
  have hM := RMeet_pure m a b hm
  unfold pathM
  unfold meetM at hM
  by_cases hc : pathC m a b = 0
  · obtain ⟨ca, cb⟩ := pathC_zero.1 hc
    unfold upM at hA hB
    rw [if_neg (fun h => h ca)] at hA
    rw [if_neg (fun h => h cb)] at hB
    rw [if_neg (fun h => h hc)] at hM
    simp only [hc, ne_eq, not_true_eq_false, if_false]
    obtain ⟨wa, _, _⟩ := live_way ca
    obtain ⟨wb, _, _⟩ := live_way cb
    have hpl : (wayD m a).length ≤ 40 := by have := wa.len; have := hm.n; omega
    have hql : (wayD m b).length ≤ 40 := by have := wb.len; have := hm.n; omega
    generalize wayD m a = p at *
    generalize wayD m b = q at *
    have lc := lcp_le p q
    have hI := RHas18_pure (upL q) (meetT p q) (by rw [upL_len, maxLen_eq]; omega)
    rw [has_meet hm.a wb] at hI
    have hnd := upL_nodup hm.a wa.mem wa.nodup
    have w0 : IntKind.i64.wrap (((q.length - lcp p q : Nat) : Int) - 1) = ((q.length - lcp p q : Nat) : Int) - 1 := w64 (by omega)
    refine PL.Pure.of_v Tryz.func93 (by decide) rfl Tryz.ntmps93 Tryz.results93 (by simp) (legsc_dids _) ?_
    simp only [go_sem, egs, tg]
    refine vCall_of (hM) ?_ ?_ ?_; (focus simp only [go_sem, egs, tg]); (focus simp only [go_sem, egs, tg])
    simp only [go_sem, tgc, tg]
    refine vCall_of (hA) ?_ ?_ ?_; (focus simp only [go_sem, egs, tg]); (focus simp only [go_sem, egs, tg])
    simp only [go_sem, tgsc]
    refine vCall_of (hB) ?_ ?_ ?_; (focus simp only [go_sem, egs, tg]); (focus simp only [go_sem, egs, tg])
    simp only [go_sem, tgsc]
    refine awp_moveRow 14 39 55 0 3 173 [] rfl rfl rfl ?_
    refine vLoopM (ι := { k : Nat // k ≤ p.length - lcp p q }) 73 (fun x => [(8, .ptr 8 0), (10, tgs (upL p)), (12, tgs (upL q)), (14, .sl (.row 55) ((((upL p).take x.1).map upg).map lg)), (15, .int .i64 (x.1 : Int))]) (fun x => [(8, [.int .i64 (meetT p q).r, .int .i64 (meetT p q).n], false)]) (fun x => [(55, .live x.1 3 173)]) (fun x => p.length - x.1) ⟨0, Nat.zero_le _⟩
      ⟨rfl, (forall_cons rfl (forall_cons rfl (forall_cons rfl (forall_cons rfl (forall_cons rfl (forall_nil)))))), forall_cons ⟨rfl, rfl⟩ forall_nil, (forall_cons rfl (forall_nil))⟩ (fun x => ⟨forall_cons rfl (forall_cons rfl (forall_cons rfl (forall_cons (by simp [PV.ids, refInM]) (forall_cons rfl forall_nil)))), (forall_cons rfl (forall_nil))⟩) (fun x => ?_)
    obtain ⟨k, hk⟩ := x
    simp only
    have hkl : k < (upL p).length := by rw [upL_len]; omega
    have h1 : (k : Int) < ((upL p).length : Int) := by omega
    have h0 : (0 : Int) ≤ (k : Int) := by omega
    have hlen : (((upL p).take k).map upg).length = k := by simp; omega
    by_cases he : k = p.length - lcp p q
    · have hv : (upL p).getD k default = meetT p q := by rw [he]; exact upL_at p q
      have dd : decide (meetT p q = meetT p q) = true := by simp
      simp only [go_sem, tgs]
      refine vDrawQ (by kernel_rfl) (by kernel_rfl) ?_
      simp only [go_sem, h1, h0, List.length_map, getD_tg hkl, hv, tg, tg_fold, dd, Bool.not_true]
      refine vCall_of (hI) ?_ ?_ ?_; (focus simp only [go_sem, tgs, tg]); (focus simp only [go_sem, tgs, tg])
      simp only [go_sem, w0]
      refine awp_moveRow 14 55 71 k 3 173 ((((upL p).take k).map upg).map lg) rfl rfl rfl ?_
      refine vLoopM (ι := { s : Nat // s ≤ q.length - lcp p q }) 73 (fun x => [(12, tgs (upL q)), (14, .sl (.row 71) ((((upL p).take k).map upg ++ ((q.drop (lcp p q)).take x.1).map dn).map lg)), (16, .int .i64 (((q.length - lcp p q : Nat) : Int) - 1 - (x.1 : Int)))]) (fun x => []) (fun x => [(71, .live (k + x.1) 3 173)]) (fun x => q.length - lcp p q - x.1) ⟨0, Nat.zero_le _⟩
        ⟨rfl, forall_cons rfl (forall_cons (by show PV.sl _ _ = PV.sl _ _; simp) (forall_cons (by show PV.int _ _ = PV.int _ _; simp) forall_nil)), forall_nil, (forall_cons rfl (forall_nil))⟩ (fun x => ⟨forall_cons rfl (forall_cons (by simp [PV.ids, refInM]) (forall_cons rfl forall_nil)), forall_nil⟩) (fun x => ?_)
      obtain ⟨s, hs⟩ := x
      simp only
      by_cases h : s < q.length - lcp p q
      · have e0 : ((q.length - lcp p q : Nat) : Int) - 1 - (s : Int) = ((q.length - (lcp p q + s) - 1 : Nat) : Int) := by omega
        have g0 : (0 : Int) ≤ ((q.length - (lcp p q + s) - 1 : Nat) : Int) := by omega
        have k1 : q.length - (lcp p q + s) - 1 < (upL q).length := by rw [upL_len]; omega
        have g1 : ((q.length - (lcp p q + s) - 1 : Nat) : Int) < ((upL q).length : Int) := by omega
        have v1 := upL_get q (lcp p q + s) (by omega)
        have hlen2 : (((upL p).take k).map upg ++ ((q.drop (lcp p q)).take s).map dn).length = k + s := by simp; omega
        have hrm := room1 (show k + s + 1 ≤ 1000000 by omega) (show 24 ≤ 1000 by omega)
        have hnx := drop_take_snoc (q := q) (c := lcp p q) (s := s) (by omega)
        have w1 : IntKind.i64.wrap (((q.length - (lcp p q + s) - 1 : Nat) : Int) - 1) = ((q.length - lcp p q : Nat) : Int) - 1 - ((s + 1 : Nat) : Int) := by rw [w64 (by omega)]; omega
        rw [e0]
        simp only [go_sem, tgs, g0, g1, List.length_map, getD_tg k1, v1, tg, hlen2, hrm, sized_lg, w1]
        refine ⟨⟨s + 1, by omega⟩, by show q.length - lcp p q - (s + 1) < q.length - lcp p q - s; omega, ⟨rfl, forall_cons rfl (forall_cons ?_ (forall_cons rfl forall_nil)), forall_nil, forall_cons ?_ forall_nil⟩⟩
        · show PV.sl (.row 71) _ = PV.sl (.row 71) _
          rw [hnx]
          simp [lg, dn]
        · rfl
      · obtain rfl : s = q.length - lcp p q := by omega
        have g0 : ¬ (0 : Int) ≤ ((q.length - lcp p q : Nat) : Int) - 1 - ((q.length - lcp p q : Nat) : Int) := by omega
        have htk : (q.drop (lcp p q)).take (q.length - lcp p q) = q.drop (lcp p q) := List.take_of_length_le (by simp)
        have hup := upg_take p (lcp p q) lc.1
        rw [← he] at hup
        simp only [go_sem, g0, htk, hup, legsc, lgs, legsW]
    · have hne : ¬ (upL p).getD k default = meetT p q := by
        intro e
        have hv : (upL p).getD (p.length - lcp p q) default = meetT p q := upL_at p q
        have hlt : k < p.length - lcp p q := by omega
        have hl2 : p.length - lcp p q < (upL p).length := by rw [upL_len]; omega
        have := List.pairwise_iff_getElem.1 hnd k (p.length - lcp p q) hkl hl2 hlt
        rw [← getD_lt (d := default) hkl, ← getD_lt (d := default) hl2, e, hv] at this
        exact this rfl
      have dd : decide ((upL p).getD k default = meetT p q) = false := by simpa using hne
      have hrm := room1 (show k + 1 ≤ 1000000 by omega) (show 24 ≤ 1000 by omega)
      have w1 : IntKind.i64.wrap ((k : Int) + 1) = ((k + 1 : Nat) : Int) := by rw [w64 (by omega)]; rfl
      simp only [go_sem, tgs]
      refine vDrawQ (by kernel_rfl) (by kernel_rfl) ?_
      simp only [go_sem, h1, h0, List.length_map, getD_tg hkl, tg, tg_fold, dd, Bool.not_false, hlen, hrm, sized_lg, w1]
      refine ⟨⟨k + 1, by omega⟩, by show p.length - (k + 1) < p.length - k; omega, ⟨rfl, forall_cons rfl (forall_cons rfl (forall_cons rfl (forall_cons ?_ (forall_cons rfl forall_nil)))), forall_cons ⟨rfl, rfl⟩ forall_nil, forall_cons rfl forall_nil⟩⟩
      show PV.sl (.row 55) _ = PV.sl (.row 55) _
      rw [take_snoc' hkl, List.map_append, List.map_append]
      rfl
  · have hc' : (pathC m a b != 0) = true := by simpa using hc
    rw [if_pos hc] at hM
    simp only [ne_eq, hc, not_false_eq_true, if_true]
    refine PL.Pure.of_v Tryz.func93 (by decide) rfl Tryz.ntmps93 Tryz.results93 (by simp) (legsc_dids _) ?_
    simp only [go_sem, egs, tg]
    refine vCall_of (hM) ?_ ?_ ?_; (focus simp only [go_sem, egs, tg]); (focus simp only [go_sem, egs, tg])
    simp only [go_sem, tgc, tg, hc', legsc, lgs, List.map_nil]
end Go.Proofs.YtnadlkjmdimjkaaGreat

set_option linter.unusedSimpArgs false
set_option linter.unusedVariables false
set_option linter.unusedSimpArgs false
set_option linter.unusedVariables false
namespace Go.Proofs.YtnadlkjmdimjkaaGreat
open Go.PL
set_option maxRecDepth 20000 in
set_option maxHeartbeats 16000000 in
theorem RRow_pure (m : List Eg) (a b : Tg) (hm : OkM m) (hr : RightM m) : PL.Pure Tryz.prog 54 [egs m, tg a, tg b] (lnsc (rowM m a b)) := by
  have hP := RPath_pure m a b hm
  have hll := legs_len m a b hm
  unfold rowM
  unfold pathM at hP hll
  by_cases hc : pathC m a b = 0
  · have hin := legs_in hc hm.a
    simp only [hc, ne_eq, not_true_eq_false, if_false] at hP hll ⊢
    generalize legsW (wayD m a) (wayD m b) = legs at *
    have hlm : legs.length ≤ maxLen := by rw [maxLen_eq]; omega
    refine PL.Pure.of_v Tryz.func54 (by decide) rfl Tryz.ntmps54 Tryz.results54 (by simp) (lnsc_dids _) ?_
    simp only [go_sem, egs, tg]
    refine vCall_of (hP) ?_ ?_ ?_; (focus simp only [go_sem, egs, tg]); (focus simp only [go_sem, egs, tg])
    simp only [go_sem, legsc, lgs, List.length_map]
    refine awp_moveRow 10 24 43 0 16 87 [] rfl rfl rfl ?_
    refine vLoopM (ι := { x : Nat // x ≤ (legs).length }) 45 (fun x => [(0, egs m), (8, lgs legs), (10, .sl (.row 43) ((lenses m (legs.take x.1)).map lns)), (11, .int .i64 (x.1 : Int))]) (fun x => []) (fun x => [(43, .live (x.1) (16) (87))]) (fun x => (legs).length - x.1) ⟨0, Nat.zero_le _⟩ ⟨rfl, (forall_cons rfl (forall_cons rfl (forall_cons rfl (forall_cons rfl forall_nil)))), forall_nil, (forall_cons rfl forall_nil)⟩ (fun x => ⟨(forall_cons rfl (forall_cons rfl (forall_cons (by simp [PV.ids, refInM]) (forall_cons rfl forall_nil)))), forall_nil⟩) (fun x => ?_); obtain ⟨k, hk⟩ := x; simp only at hk ⊢
    by_cases h : (k : Int) < (legs.length : Int)
    · (have hka : k < (legs).length := by omega); (have w1 := w64s hka (hlm)); (have i1 : (0 : Int) ≤ (k : Int) := by omega)
      obtain ⟨e, he, hfe, _⟩ := hin _ (getD_mem (d := default) hka)
      have hL := RLens_pure m (legs.getD k default) hm hr
      have hts : legs.take (k + 1) = legs.take k ++ [legs.getD k default] := take_snoc' hka
      have hkl : (lenses m (legs.take k)).length = k := by simp [lenses]; omega
      have hrm := room1 (show k + 1 ≤ 1000000 by omega) (show 232 ≤ 1000 by omega)
      simp only [go_sem, h, lgs, List.length_map, getD_lg hka, lg, i1]
      refine vCall_of (hL) ?_ ?_ ?_; (focus simp only [go_sem, egs, lg]); (focus simp only [go_sem, egs, lg])
      simp only [go_sem, lnc, lns, sized_ln, List.length_map, hkl, hrm, w1]
      exact ⟨⟨k + 1, by (try simp only); omega⟩, by show (legs).length - (k + 1) < (legs).length - k; omega, ⟨rfl, (forall_cons rfl (forall_cons rfl (forall_cons (by (show PV.sl _ _ = PV.sl _ _; simp [hts, lenses, lns])) (forall_cons rfl forall_nil)))), forall_nil, (forall_cons rfl forall_nil)⟩⟩
    · obtain rfl : k = legs.length := by omega
      have htk : legs.take legs.length = legs := List.take_length
      simp only [go_sem, h, lgs, List.length_map, htk, lnsc, lnss]
  · have hc' : (pathC m a b != 0) = true := by simpa using hc
    simp only [ne_eq, hc, not_false_eq_true, if_true] at hP ⊢
    refine PL.Pure.of_v Tryz.func54 (by decide) rfl Tryz.ntmps54 Tryz.results54 (by simp) (lnsc_dids _) ?_
    simp only [go_sem, egs, tg]
    refine vCall_of (hP) ?_ ?_ ?_; (focus simp only [go_sem, egs, tg]); (focus simp only [go_sem, egs, tg])
    simp only [go_sem, legsc, lgs, hc', lnsc, lnss, List.map_nil]
end Go.Proofs.YtnadlkjmdimjkaaGreat

set_option linter.unusedSimpArgs false
set_option linter.unusedVariables false
set_option linter.unusedSimpArgs false
set_option linter.unusedVariables false
namespace Go.Proofs.YtnadlkjmdimjkaaGreat
open Go.PL
end Go.Proofs.YtnadlkjmdimjkaaGreat
