/- Contracts of functions and laws of this seat, each for every input that it names: lemmas of the proof. -/
import Derived.Test.YtbojhapdidieoaaGreatXCa
import Derived.Test.YtbojhapdidieoaaGreatPlG
set_option linter.unusedSimpArgs false
set_option linter.unusedVariables false
set_option linter.unusedSimpArgs false
set_option linter.unusedVariables false
namespace Go.Proofs.YtbojhapdidieoaaGreat
open Go.PL
structure WyS (m : List Eg) (id0 : Tg) where
  k : Nat
  id : Tg
  way : List Eg
  hk : k ≤ m.length + 1
  hl : way.length = k
  h : wayF m (m.length + 1 - k) id way = wayM m id0
def wayc (x : Option (List Eg)) : PV := .tup [egs (x.getD []), .bool x.isSome]
theorem wayc_dids (x : Option (List Eg)) : (wayc x).dids = [] := by simp only [wayc, PV.dids, PV.didsL, egs_dids, List.append_nil]
set_option maxRecDepth 20000 in
set_option maxHeartbeats 16000000 in
theorem RWay_pure (m : List Eg) (id : Tg) (hm : OkM m) : PL.Pure Tryz.prog 48 [egs m, tg id] (wayc (wayM m id)) := by
  have hn := hm.n
  refine PL.Pure.of_v Tryz.func48 (by decide) rfl Tryz.ntmps48 Tryz.results48 (by simp) (wayc_dids _) ?_
  simp only [go_sem, reduceIte, Nat.reduceEqDiff, reduceCtorEq, Nat.reduceLT, Nat.reduceAdd, Nat.reduceSub, Nat.reduceMul, Nat.reduceLeDiff, Int.reduceLT, Int.reduceLE, Int.reduceToNat, Int.reduceEq, Int.reduceAdd, Int.reduceSub, Int.reduceNeg, Int.reduceBNe, Int.reduceBEq, egs, tg]
  refine vLoopP (ι := WyS m id) 37 (fun x => [(0, egs m), (3, .ptr 3 0), (6, egs x.way), (7, .int .i64 (x.k : Int))]) (fun x => [(3, [.int .i64 x.id.r, .int .i64 x.id.n], false)]) (fun x => []) (fun x => m.length + 1 - x.k) ⟨0, id, [], Nat.zero_le _, rfl, rfl⟩
    ⟨rfl, forall_cons (.same rfl) (forall_cons (.same rfl) (forall_cons (.row 9 []) (forall_cons (.same rfl) forall_nil))), forall_cons ⟨rfl, rfl⟩ forall_nil, forall_nil⟩ (fun x => ⟨forall_cons rfl (forall_cons rfl (forall_cons rfl (forall_cons rfl forall_nil))), (forall_cons rfl (forall_nil))⟩) (fun x => ?_)
  obtain ⟨k, id', way, hk, hl, h⟩ := x
  simp only
  by_cases hlt : (k : Int) ≤ (m.length : Int)
  · have hk2 : m.length + 1 - k = (m.length - k) + 1 := by omega
    rw [hk2, wayF] at h
    by_cases hd : id' = default
    · have hb : decide (id' = default) = true := by simpa using hd
      rw [if_pos hd] at h
      simp only [go_sem, reduceIte, Nat.reduceEqDiff, reduceCtorEq, Nat.reduceLT, Nat.reduceAdd, Nat.reduceSub, Nat.reduceMul, Nat.reduceLeDiff, Int.reduceLT, Int.reduceLE, Int.reduceToNat, Int.reduceEq, Int.reduceAdd, Int.reduceSub, Int.reduceNeg, Int.reduceBNe, Int.reduceBEq, egs, hlt, List.length_map, tgd, hb]
      simp only [go_sem, reduceIte, Nat.reduceEqDiff, reduceCtorEq, Nat.reduceLT, Nat.reduceAdd, Nat.reduceSub, Nat.reduceMul, Nat.reduceLeDiff, Int.reduceLT, Int.reduceLE, Int.reduceToNat, Int.reduceEq, Int.reduceAdd, Int.reduceSub, Int.reduceNeg, Int.reduceBNe, Int.reduceBEq, ← h, wayc, egs, Option.getD_some, Option.isSome_some]
    · have hb : decide (id' = default) = false := by simpa using hd
      rw [if_neg hd] at h
      have hA := RAtE_pure m id' (by rw [maxLen_eq]; omega)
      rcases idx_find (m := m) (id := id') with ⟨h1, h2⟩ | ⟨i, hi, h1, h2⟩
      · rw [h1] at hA
        rw [h2] at h
        simp only [go_sem, reduceIte, Nat.reduceEqDiff, reduceCtorEq, Nat.reduceLT, Nat.reduceAdd, Nat.reduceSub, Nat.reduceMul, Nat.reduceLeDiff, Int.reduceLT, Int.reduceLE, Int.reduceToNat, Int.reduceEq, Int.reduceAdd, Int.reduceSub, Int.reduceNeg, Int.reduceBNe, Int.reduceBEq, egs, hlt, List.length_map, tgd, hb]
        refine vCall_of (hA) ?_ ?_ ?_; (focus simp only [go_sem, reduceIte, Nat.reduceEqDiff, reduceCtorEq, egs, tg]); (focus simp only [go_sem, reduceIte, Nat.reduceEqDiff, reduceCtorEq, egs, tg])
        simp only [go_sem, reduceIte, Nat.reduceEqDiff, reduceCtorEq, Nat.reduceLT, Nat.reduceAdd, Nat.reduceSub, Nat.reduceMul, Nat.reduceLeDiff, Int.reduceLT, Int.reduceLE, Int.reduceToNat, Int.reduceEq, Int.reduceAdd, Int.reduceSub, Int.reduceNeg, Int.reduceBNe, Int.reduceBEq, ← h, wayc, egs, Option.getD_none, Option.isSome_none, List.map_nil]
      · rw [h1] at hA
        rw [h2] at h
        simp only at h
        have n1 : ¬ (i : Int) < 0 := by omega
        have i0 : (0 : Int) ≤ (i : Int) := by omega
        have i1 : (i : Int) < (m.length : Int) := by omega
        have w1 : IntKind.i64.wrap ((k : Int) + 1) = ((k + 1 : Nat) : Int) := by rw [w64 (by omega)]; rfl
        have hrm := room1 (show 1 + way.length ≤ 1000000 by omega) (show 264 ≤ 1000 by omega)
        have hsz : Sized 20 (way.map eg) := sized_eg way
        have hat := atoms_eg way
        have hs1 : Sized 20 [eg (m.getD i default)] := sized_eg [m.getD i default]
        simp only [go_sem, reduceIte, Nat.reduceEqDiff, reduceCtorEq, Nat.reduceLT, Nat.reduceAdd, Nat.reduceSub, Nat.reduceMul, Nat.reduceLeDiff, Int.reduceLT, Int.reduceLE, Int.reduceToNat, Int.reduceEq, Int.reduceAdd, Int.reduceSub, Int.reduceNeg, Int.reduceBNe, Int.reduceBEq, egs, hlt, List.length_map, tgd, hb]
        refine vCall_of (hA) ?_ ?_ ?_; (focus simp only [go_sem, reduceIte, Nat.reduceEqDiff, reduceCtorEq, egs, tg]); (focus simp only [go_sem, reduceIte, Nat.reduceEqDiff, reduceCtorEq, egs, tg])
        simp only [go_sem, reduceIte, Nat.reduceEqDiff, reduceCtorEq, Nat.reduceLT, Nat.reduceAdd, Nat.reduceSub, Nat.reduceMul, Nat.reduceLeDiff, Int.reduceLT, Int.reduceLE, Int.reduceToNat, Int.reduceEq, Int.reduceAdd, Int.reduceSub, Int.reduceNeg, Int.reduceBNe, Int.reduceBEq, n1, i0, i1, List.length_map, getD_eg hi, eg, w1, hat, hrm, hsz]
        exact ⟨⟨k + 1, (m.getD i default).par, m.getD i default :: way, by omega, by simp [hl], by rw [show m.length + 1 - (k + 1) = m.length - k by omega]; exact h⟩, by show m.length + 1 - (k + 1) < m.length + 1 - k; omega,
          ⟨rfl, forall_cons (.same rfl) (forall_cons (.same rfl) (forall_cons (.row 31 _) (forall_cons (.same rfl) forall_nil))), forall_cons ⟨rfl, rfl⟩ forall_nil, forall_nil⟩⟩
  · have hk2 : m.length + 1 - k = 0 := by omega
    rw [hk2, wayF] at h
    simp only [go_sem, reduceIte, Nat.reduceEqDiff, reduceCtorEq, Nat.reduceLT, Nat.reduceAdd, Nat.reduceSub, Nat.reduceMul, Nat.reduceLeDiff, Int.reduceLT, Int.reduceLE, Int.reduceToNat, Int.reduceEq, Int.reduceAdd, Int.reduceSub, Int.reduceNeg, Int.reduceBNe, Int.reduceBEq, egs, hlt, List.length_map, ← h, wayc, Option.getD_none, Option.isSome_none, List.map_nil]
def stc (x : Int × List Fd) : PV := .tup [.int .i64 x.1, flds x.2]
theorem stc_dids (x : Int × List Fd) : (stc x).dids = [] := by simp only [stc, PV.dids, PV.didsL, flds_dids, List.append_nil]
set_option maxRecDepth 20000 in
set_option maxHeartbeats 16000000 in
theorem RState_pure (m : List Eg) (id : Tg) (hm : OkM m) : PL.Pure Tryz.prog 91 [egs m, tg id] (stc (stateM m id)) := by
  have hn := hm.n
  have hA := RAtE_pure m id (by rw [maxLen_eq]; omega)
  have hW := RWay_pure m id hm
  unfold stateM
  by_cases h0 : id ≠ default ∧ findE m id = none
  · rw [if_pos h0]
    have hb : decide (id = default) = false := by simpa using h0.1
    rcases idx_find (m := m) (id := id) with ⟨h1, h2⟩ | ⟨i, hi, h1, h2⟩
    · rw [h1] at hA
      refine PL.Pure.of_v Tryz.func91 (by decide) rfl Tryz.ntmps91 Tryz.results91 (by simp) (stc_dids _) ?_
      simp only [go_sem, reduceIte, Nat.reduceEqDiff, reduceCtorEq, Nat.reduceLT, Nat.reduceAdd, Nat.reduceSub, Nat.reduceMul, Nat.reduceLeDiff, Int.reduceLT, Int.reduceLE, Int.reduceToNat, Int.reduceEq, Int.reduceAdd, Int.reduceSub, Int.reduceNeg, Int.reduceBNe, Int.reduceBEq, egs, tg, tgd, hb, Bool.not_false]
      refine vCall_of (hA) ?_ ?_ ?_; (focus simp only [go_sem, reduceIte, Nat.reduceEqDiff, reduceCtorEq, egs, tg]); (focus simp only [go_sem, reduceIte, Nat.reduceEqDiff, reduceCtorEq, egs, tg])
      simp only [go_sem, reduceIte, Nat.reduceEqDiff, reduceCtorEq, Nat.reduceLT, Nat.reduceAdd, Nat.reduceSub, Nat.reduceMul, Nat.reduceLeDiff, Int.reduceLT, Int.reduceLE, Int.reduceToNat, Int.reduceEq, Int.reduceAdd, Int.reduceSub, Int.reduceNeg, Int.reduceBNe, Int.reduceBEq, stc, flds, List.map_nil]
    · rw [h2] at h0; cases h0.2
  · rw [if_neg h0]
    have pre : (decide (id = default) = true) ∨ (decide (id = default) = false ∧ ∃ i : Nat, idx (fun x => decide (x.id = id)) m = (i : Int)) := by
      by_cases hd : id = default
      · exact .inl (by simpa using hd)
      · right
        refine ⟨by simpa using hd, ?_⟩
        rcases idx_find (m := m) (id := id) with ⟨_, h2⟩ | ⟨i, hi, h1, h2⟩
        · exact absurd ⟨hd, h2⟩ h0
        · exact ⟨i, h1⟩
    cases hw : wayM m id with
    | none =>
      rw [hw] at hW
      rcases pre with hb | ⟨hb, i, h1⟩
      · refine PL.Pure.of_v Tryz.func91 (by decide) rfl Tryz.ntmps91 Tryz.results91 (by simp) (stc_dids _) ?_
        simp only [go_sem, reduceIte, Nat.reduceEqDiff, reduceCtorEq, Nat.reduceLT, Nat.reduceAdd, Nat.reduceSub, Nat.reduceMul, Nat.reduceLeDiff, Int.reduceLT, Int.reduceLE, Int.reduceToNat, Int.reduceEq, Int.reduceAdd, Int.reduceSub, Int.reduceNeg, Int.reduceBNe, Int.reduceBEq, egs, tg, tgd, hb, Bool.not_true]
        refine vCall_of (hW) ?_ ?_ ?_; (focus simp only [go_sem, reduceIte, Nat.reduceEqDiff, reduceCtorEq, egs, tg]); (focus simp only [go_sem, reduceIte, Nat.reduceEqDiff, reduceCtorEq, egs, tg])
        simp only [go_sem, reduceIte, Nat.reduceEqDiff, reduceCtorEq, Nat.reduceLT, Nat.reduceAdd, Nat.reduceSub, Nat.reduceMul, Nat.reduceLeDiff, Int.reduceLT, Int.reduceLE, Int.reduceToNat, Int.reduceEq, Int.reduceAdd, Int.reduceSub, Int.reduceNeg, Int.reduceBNe, Int.reduceBEq, wayc, Option.isSome_none, stc, flds, List.map_nil]
      · rw [h1] at hA
        have n1 : ¬ (i : Int) < 0 := by omega
        refine PL.Pure.of_v Tryz.func91 (by decide) rfl Tryz.ntmps91 Tryz.results91 (by simp) (stc_dids _) ?_
        simp only [go_sem, reduceIte, Nat.reduceEqDiff, reduceCtorEq, Nat.reduceLT, Nat.reduceAdd, Nat.reduceSub, Nat.reduceMul, Nat.reduceLeDiff, Int.reduceLT, Int.reduceLE, Int.reduceToNat, Int.reduceEq, Int.reduceAdd, Int.reduceSub, Int.reduceNeg, Int.reduceBNe, Int.reduceBEq, egs, tg, tgd, hb, Bool.not_false]
        refine vCall_of (hA) ?_ ?_ ?_; (focus simp only [go_sem, reduceIte, Nat.reduceEqDiff, reduceCtorEq, egs, tg]); (focus simp only [go_sem, reduceIte, Nat.reduceEqDiff, reduceCtorEq, egs, tg])
        simp only [go_sem, reduceIte, Nat.reduceEqDiff, reduceCtorEq, Nat.reduceLT, Nat.reduceAdd, Nat.reduceSub, Nat.reduceMul, Nat.reduceLeDiff, Int.reduceLT, Int.reduceLE, Int.reduceToNat, Int.reduceEq, Int.reduceAdd, Int.reduceSub, Int.reduceNeg, Int.reduceBNe, Int.reduceBEq, n1]
        refine vCall_of (hW) ?_ ?_ ?_; (focus simp only [go_sem, reduceIte, Nat.reduceEqDiff, reduceCtorEq, egs, tg]); (focus simp only [go_sem, reduceIte, Nat.reduceEqDiff, reduceCtorEq, egs, tg])
        simp only [go_sem, reduceIte, Nat.reduceEqDiff, reduceCtorEq, Nat.reduceLT, Nat.reduceAdd, Nat.reduceSub, Nat.reduceMul, Nat.reduceLeDiff, Int.reduceLT, Int.reduceLE, Int.reduceToNat, Int.reduceEq, Int.reduceAdd, Int.reduceSub, Int.reduceNeg, Int.reduceBNe, Int.reduceBEq, wayc, Option.isSome_none, stc, flds, List.map_nil]
    | some w =>
      rw [hw] at hW
      have hway := wayM_iff.1 hw
      have hwl : w.length ≤ maxLen := by have := hway.len; rw [maxLen_eq]; omega
      simp only
      generalize hF : foldA w rootL = F
      rcases pre with hb | ⟨hb, i, h1⟩
      · refine PL.Pure.of_v Tryz.func91 (by decide) rfl Tryz.ntmps91 Tryz.results91 (by simp) (stc_dids _) ?_
        simp only [go_sem, reduceIte, Nat.reduceEqDiff, reduceCtorEq, Nat.reduceLT, Nat.reduceAdd, Nat.reduceSub, Nat.reduceMul, Nat.reduceLeDiff, Int.reduceLT, Int.reduceLE, Int.reduceToNat, Int.reduceEq, Int.reduceAdd, Int.reduceSub, Int.reduceNeg, Int.reduceBNe, Int.reduceBEq, egs, tg, tgd, hb, Bool.not_true]
        refine vCall_of (hW) ?_ ?_ ?_; (focus simp only [go_sem, reduceIte, Nat.reduceEqDiff, reduceCtorEq, egs, tg]); (focus simp only [go_sem, reduceIte, Nat.reduceEqDiff, reduceCtorEq, egs, tg])
        simp only [go_sem, reduceIte, Nat.reduceEqDiff, reduceCtorEq, Nat.reduceLT, Nat.reduceAdd, Nat.reduceSub, Nat.reduceMul, Nat.reduceLeDiff, Int.reduceLT, Int.reduceLE, Int.reduceToNat, Int.reduceEq, Int.reduceAdd, Int.reduceSub, Int.reduceNeg, Int.reduceBNe, Int.reduceBEq, wayc, Option.isSome_some, Option.getD_some]
        refine vCall_of (Root_pure) ?_ ?_ ?_; (focus simp only [go_sem, reduceIte, Nat.reduceEqDiff, reduceCtorEq]); (focus simp only [go_sem, reduceIte, Nat.reduceEqDiff, reduceCtorEq])
        simp only [go_sem, reduceIte, Nat.reduceEqDiff, reduceCtorEq, Nat.reduceLT, Nat.reduceAdd, Nat.reduceSub, Nat.reduceMul, Nat.reduceLeDiff, Int.reduceLT, Int.reduceLE, Int.reduceToNat, Int.reduceEq, Int.reduceAdd, Int.reduceSub, Int.reduceNeg, Int.reduceBNe, Int.reduceBEq, flds]
        refine vLoopM (ι := { x : Nat × (List Fd) // x.1 ≤ (w).length ∧ (OkFs x.2 ∧ foldA (w.drop x.1) x.2 = F) }) 50 (fun x => [(6, egs w), (8, flds x.1.2), (9, .int .i64 (x.1.1 : Int))]) (fun x => []) (fun x => []) (fun x => (w).length - x.1.1) ⟨(0, rootL), Nat.zero_le _, ⟨okRoot, hF⟩⟩ ⟨rfl, (forall_cons rfl (forall_cons rfl (forall_cons rfl forall_nil))), forall_nil, forall_nil⟩ (fun x => ⟨(forall_cons rfl (forall_cons rfl (forall_cons rfl forall_nil))), forall_nil⟩) (fun x => ?_); obtain ⟨⟨k, fs⟩, hk, hI⟩ := x; simp only at hk hI ⊢
        obtain ⟨okf, hI⟩ := hI
        by_cases h : (k : Int) < (w.length : Int)
        · (have hka : k < (w).length := by omega); (have w1 := w64s hka (hwl)); (have i1 : (0 : Int) ≤ (k : Int) := by omega)
          have hA := RApply_pure fs (w.getD k default).ln okf (hm.l _ (hway.mem _ (getD_mem hka)))
          rw [drop_cons' hka (d := default), foldA_next] at hI
          by_cases hz : (applyM fs (w.getD k default).ln).2 = 0
          · rw [if_pos hz] at hI
            simp only [go_sem, reduceIte, Nat.reduceEqDiff, reduceCtorEq, Nat.reduceLT, Nat.reduceAdd, Nat.reduceSub, Nat.reduceMul, Nat.reduceLeDiff, Int.reduceLT, Int.reduceLE, Int.reduceToNat, Int.reduceEq, Int.reduceAdd, Int.reduceSub, Int.reduceNeg, Int.reduceBNe, Int.reduceBEq, egs, h, List.length_map, getD_eg hka, eg, i1]
            refine vCall_of (hA) ?_ ?_ ?_; (focus simp only [go_sem, reduceIte, Nat.reduceEqDiff, reduceCtorEq, flds, lns]); (focus simp only [go_sem, reduceIte, Nat.reduceEqDiff, reduceCtorEq, flds, lns])
            simp only [go_sem, reduceIte, Nat.reduceEqDiff, reduceCtorEq, Nat.reduceLT, Nat.reduceAdd, Nat.reduceSub, Nat.reduceMul, Nat.reduceLeDiff, Int.reduceLT, Int.reduceLE, Int.reduceToNat, Int.reduceEq, Int.reduceAdd, Int.reduceSub, Int.reduceNeg, Int.reduceBNe, Int.reduceBEq, fldsc, hz, w1]
            exact ⟨⟨(k + 1, (applyM fs (w.getD k default).ln).1), by (try simp only); omega, ⟨okApply okf (hm.l _ (hway.mem _ (getD_mem hka))), hI⟩⟩, by show (w).length - (k + 1) < (w).length - k; omega, ⟨rfl, (forall_cons rfl (forall_cons rfl (forall_cons rfl forall_nil))), forall_nil, forall_nil⟩⟩
          · rw [if_neg hz] at hI
            have hz' : ((applyM fs (w.getD k default).ln).2 != 0) = true := by simpa using hz
            simp only [go_sem, reduceIte, Nat.reduceEqDiff, reduceCtorEq, Nat.reduceLT, Nat.reduceAdd, Nat.reduceSub, Nat.reduceMul, Nat.reduceLeDiff, Int.reduceLT, Int.reduceLE, Int.reduceToNat, Int.reduceEq, Int.reduceAdd, Int.reduceSub, Int.reduceNeg, Int.reduceBNe, Int.reduceBEq, egs, h, List.length_map, getD_eg hka, eg, i1]
            refine vCall_of (hA) ?_ ?_ ?_; (focus simp only [go_sem, reduceIte, Nat.reduceEqDiff, reduceCtorEq, flds, lns]); (focus simp only [go_sem, reduceIte, Nat.reduceEqDiff, reduceCtorEq, flds, lns])
            simp only [go_sem, reduceIte, Nat.reduceEqDiff, reduceCtorEq, Nat.reduceLT, Nat.reduceAdd, Nat.reduceSub, Nat.reduceMul, Nat.reduceLeDiff, Int.reduceLT, Int.reduceLE, Int.reduceToNat, Int.reduceEq, Int.reduceAdd, Int.reduceSub, Int.reduceNeg, Int.reduceBNe, Int.reduceBEq, fldsc, hz', ← hI, stc, flds, List.map_nil]
        · obtain rfl : k = w.length := by omega
          rw [List.drop_length] at hI
          have hI' : F = some fs := hI.symm
          subst hI'
          simp only [go_sem, reduceIte, Nat.reduceEqDiff, reduceCtorEq, Nat.reduceLT, Nat.reduceAdd, Nat.reduceSub, Nat.reduceMul, Nat.reduceLeDiff, Int.reduceLT, Int.reduceLE, Int.reduceToNat, Int.reduceEq, Int.reduceAdd, Int.reduceSub, Int.reduceNeg, Int.reduceBNe, Int.reduceBEq, egs, h, List.length_map, stc, flds]
      · rw [h1] at hA
        have n1 : ¬ (i : Int) < 0 := by omega
        refine PL.Pure.of_v Tryz.func91 (by decide) rfl Tryz.ntmps91 Tryz.results91 (by simp) (stc_dids _) ?_
        simp only [go_sem, reduceIte, Nat.reduceEqDiff, reduceCtorEq, Nat.reduceLT, Nat.reduceAdd, Nat.reduceSub, Nat.reduceMul, Nat.reduceLeDiff, Int.reduceLT, Int.reduceLE, Int.reduceToNat, Int.reduceEq, Int.reduceAdd, Int.reduceSub, Int.reduceNeg, Int.reduceBNe, Int.reduceBEq, egs, tg, tgd, hb, Bool.not_false]
        refine vCall_of (hA) ?_ ?_ ?_; (focus simp only [go_sem, reduceIte, Nat.reduceEqDiff, reduceCtorEq, egs, tg]); (focus simp only [go_sem, reduceIte, Nat.reduceEqDiff, reduceCtorEq, egs, tg])
        simp only [go_sem, reduceIte, Nat.reduceEqDiff, reduceCtorEq, Nat.reduceLT, Nat.reduceAdd, Nat.reduceSub, Nat.reduceMul, Nat.reduceLeDiff, Int.reduceLT, Int.reduceLE, Int.reduceToNat, Int.reduceEq, Int.reduceAdd, Int.reduceSub, Int.reduceNeg, Int.reduceBNe, Int.reduceBEq, n1]
        refine vCall_of (hW) ?_ ?_ ?_; (focus simp only [go_sem, reduceIte, Nat.reduceEqDiff, reduceCtorEq, egs, tg]); (focus simp only [go_sem, reduceIte, Nat.reduceEqDiff, reduceCtorEq, egs, tg])
        simp only [go_sem, reduceIte, Nat.reduceEqDiff, reduceCtorEq, Nat.reduceLT, Nat.reduceAdd, Nat.reduceSub, Nat.reduceMul, Nat.reduceLeDiff, Int.reduceLT, Int.reduceLE, Int.reduceToNat, Int.reduceEq, Int.reduceAdd, Int.reduceSub, Int.reduceNeg, Int.reduceBNe, Int.reduceBEq, wayc, Option.isSome_some, Option.getD_some]
        refine vCall_of (Root_pure) ?_ ?_ ?_; (focus simp only [go_sem, reduceIte, Nat.reduceEqDiff, reduceCtorEq]); (focus simp only [go_sem, reduceIte, Nat.reduceEqDiff, reduceCtorEq])
        simp only [go_sem, reduceIte, Nat.reduceEqDiff, reduceCtorEq, Nat.reduceLT, Nat.reduceAdd, Nat.reduceSub, Nat.reduceMul, Nat.reduceLeDiff, Int.reduceLT, Int.reduceLE, Int.reduceToNat, Int.reduceEq, Int.reduceAdd, Int.reduceSub, Int.reduceNeg, Int.reduceBNe, Int.reduceBEq, flds]
        refine vLoopM (ι := { x : Nat × (List Fd) // x.1 ≤ (w).length ∧ (OkFs x.2 ∧ foldA (w.drop x.1) x.2 = F) }) 50 (fun x => [(6, egs w), (8, flds x.1.2), (9, .int .i64 (x.1.1 : Int))]) (fun x => []) (fun x => []) (fun x => (w).length - x.1.1) ⟨(0, rootL), Nat.zero_le _, ⟨okRoot, hF⟩⟩ ⟨rfl, (forall_cons rfl (forall_cons rfl (forall_cons rfl forall_nil))), forall_nil, forall_nil⟩ (fun x => ⟨(forall_cons rfl (forall_cons rfl (forall_cons rfl forall_nil))), forall_nil⟩) (fun x => ?_); obtain ⟨⟨k, fs⟩, hk, hI⟩ := x; simp only at hk hI ⊢
        obtain ⟨okf, hI⟩ := hI
        by_cases h : (k : Int) < (w.length : Int)
        · (have hka : k < (w).length := by omega); (have w1 := w64s hka (hwl)); (have i1 : (0 : Int) ≤ (k : Int) := by omega)
          have hA := RApply_pure fs (w.getD k default).ln okf (hm.l _ (hway.mem _ (getD_mem hka)))
          rw [drop_cons' hka (d := default), foldA_next] at hI
          by_cases hz : (applyM fs (w.getD k default).ln).2 = 0
          · rw [if_pos hz] at hI
            simp only [go_sem, reduceIte, Nat.reduceEqDiff, reduceCtorEq, Nat.reduceLT, Nat.reduceAdd, Nat.reduceSub, Nat.reduceMul, Nat.reduceLeDiff, Int.reduceLT, Int.reduceLE, Int.reduceToNat, Int.reduceEq, Int.reduceAdd, Int.reduceSub, Int.reduceNeg, Int.reduceBNe, Int.reduceBEq, egs, h, List.length_map, getD_eg hka, eg, i1]
            refine vCall_of (hA) ?_ ?_ ?_; (focus simp only [go_sem, reduceIte, Nat.reduceEqDiff, reduceCtorEq, flds, lns]); (focus simp only [go_sem, reduceIte, Nat.reduceEqDiff, reduceCtorEq, flds, lns])
            simp only [go_sem, reduceIte, Nat.reduceEqDiff, reduceCtorEq, Nat.reduceLT, Nat.reduceAdd, Nat.reduceSub, Nat.reduceMul, Nat.reduceLeDiff, Int.reduceLT, Int.reduceLE, Int.reduceToNat, Int.reduceEq, Int.reduceAdd, Int.reduceSub, Int.reduceNeg, Int.reduceBNe, Int.reduceBEq, fldsc, hz, w1]
            exact ⟨⟨(k + 1, (applyM fs (w.getD k default).ln).1), by (try simp only); omega, ⟨okApply okf (hm.l _ (hway.mem _ (getD_mem hka))), hI⟩⟩, by show (w).length - (k + 1) < (w).length - k; omega, ⟨rfl, (forall_cons rfl (forall_cons rfl (forall_cons rfl forall_nil))), forall_nil, forall_nil⟩⟩
          · rw [if_neg hz] at hI
            have hz' : ((applyM fs (w.getD k default).ln).2 != 0) = true := by simpa using hz
            simp only [go_sem, reduceIte, Nat.reduceEqDiff, reduceCtorEq, Nat.reduceLT, Nat.reduceAdd, Nat.reduceSub, Nat.reduceMul, Nat.reduceLeDiff, Int.reduceLT, Int.reduceLE, Int.reduceToNat, Int.reduceEq, Int.reduceAdd, Int.reduceSub, Int.reduceNeg, Int.reduceBNe, Int.reduceBEq, egs, h, List.length_map, getD_eg hka, eg, i1]
            refine vCall_of (hA) ?_ ?_ ?_; (focus simp only [go_sem, reduceIte, Nat.reduceEqDiff, reduceCtorEq, flds, lns]); (focus simp only [go_sem, reduceIte, Nat.reduceEqDiff, reduceCtorEq, flds, lns])
            simp only [go_sem, reduceIte, Nat.reduceEqDiff, reduceCtorEq, Nat.reduceLT, Nat.reduceAdd, Nat.reduceSub, Nat.reduceMul, Nat.reduceLeDiff, Int.reduceLT, Int.reduceLE, Int.reduceToNat, Int.reduceEq, Int.reduceAdd, Int.reduceSub, Int.reduceNeg, Int.reduceBNe, Int.reduceBEq, fldsc, hz', ← hI, stc, flds, List.map_nil]
        · obtain rfl : k = w.length := by omega
          rw [List.drop_length] at hI
          have hI' : F = some fs := hI.symm
          subst hI'
          simp only [go_sem, reduceIte, Nat.reduceEqDiff, reduceCtorEq, Nat.reduceLT, Nat.reduceAdd, Nat.reduceSub, Nat.reduceMul, Nat.reduceLeDiff, Int.reduceLT, Int.reduceLE, Int.reduceToNat, Int.reduceEq, Int.reduceAdd, Int.reduceSub, Int.reduceNeg, Int.reduceBNe, Int.reduceBEq, egs, h, List.length_map, stc, flds]
set_option maxRecDepth 20000 in
set_option maxHeartbeats 16000000 in
theorem RSchema_pure (m : List Eg) (id : Tg) (hm : OkM m) : PL.Pure Tryz.prog 47 [egs m, tg id] (fldsc (schM (treeOf m) id)) := by
  have hS := RState_pure m id hm
  rw [sch_state]
  generalize stateM m id = y at *
  obtain ⟨c, l⟩ := y
  simp only
  by_cases h3 : c = 3
  · subst h3
    refine PL.Pure.of_v Tryz.func47 (by decide) rfl Tryz.ntmps47 Tryz.results47 (by simp) (fldsc_dids _) ?_
    simp only [go_sem, reduceIte, Nat.reduceEqDiff, reduceCtorEq, Nat.reduceLT, Nat.reduceAdd, Nat.reduceSub, Nat.reduceMul, Nat.reduceLeDiff, Int.reduceLT, Int.reduceLE, Int.reduceToNat, Int.reduceEq, Int.reduceAdd, Int.reduceSub, Int.reduceNeg, Int.reduceBNe, Int.reduceBEq, egs, tg]
    refine vCall_of (hS) ?_ ?_ ?_; (focus simp only [go_sem, reduceIte, Nat.reduceEqDiff, reduceCtorEq, egs, tg]); (focus simp only [go_sem, reduceIte, Nat.reduceEqDiff, reduceCtorEq, egs, tg])
    simp only [go_sem, reduceIte, Nat.reduceEqDiff, reduceCtorEq, Nat.reduceLT, Nat.reduceAdd, Nat.reduceSub, Nat.reduceMul, Nat.reduceLeDiff, Int.reduceLT, Int.reduceLE, Int.reduceToNat, Int.reduceEq, Int.reduceAdd, Int.reduceSub, Int.reduceNeg, Int.reduceBNe, Int.reduceBEq, stc, flds, fldsc, List.map_nil, if_true]
  · have e3 : (c == 3) = false := by simpa using h3
    by_cases h2 : c = 2
    · subst h2
      refine PL.Pure.of_v Tryz.func47 (by decide) rfl Tryz.ntmps47 Tryz.results47 (by simp) (fldsc_dids _) ?_
      simp only [go_sem, reduceIte, Nat.reduceEqDiff, reduceCtorEq, Nat.reduceLT, Nat.reduceAdd, Nat.reduceSub, Nat.reduceMul, Nat.reduceLeDiff, Int.reduceLT, Int.reduceLE, Int.reduceToNat, Int.reduceEq, Int.reduceAdd, Int.reduceSub, Int.reduceNeg, Int.reduceBNe, Int.reduceBEq, egs, tg]
      refine vCall_of (hS) ?_ ?_ ?_; (focus simp only [go_sem, reduceIte, Nat.reduceEqDiff, reduceCtorEq, egs, tg]); (focus simp only [go_sem, reduceIte, Nat.reduceEqDiff, reduceCtorEq, egs, tg])
      simp only [go_sem, reduceIte, Nat.reduceEqDiff, reduceCtorEq, Nat.reduceLT, Nat.reduceAdd, Nat.reduceSub, Nat.reduceMul, Nat.reduceLeDiff, Int.reduceLT, Int.reduceLE, Int.reduceToNat, Int.reduceEq, Int.reduceAdd, Int.reduceSub, Int.reduceNeg, Int.reduceBNe, Int.reduceBEq, stc, flds, fldsc, ne_eq, not_true_eq_false, if_false]
    · have e2 : (c != 2) = true := by simpa using h2
      refine PL.Pure.of_v Tryz.func47 (by decide) rfl Tryz.ntmps47 Tryz.results47 (by simp) (fldsc_dids _) ?_
      simp only [go_sem, reduceIte, Nat.reduceEqDiff, reduceCtorEq, Nat.reduceLT, Nat.reduceAdd, Nat.reduceSub, Nat.reduceMul, Nat.reduceLeDiff, Int.reduceLT, Int.reduceLE, Int.reduceToNat, Int.reduceEq, Int.reduceAdd, Int.reduceSub, Int.reduceNeg, Int.reduceBNe, Int.reduceBEq, egs, tg]
      refine vCall_of (hS) ?_ ?_ ?_; (focus simp only [go_sem, reduceIte, Nat.reduceEqDiff, reduceCtorEq, egs, tg]); (focus simp only [go_sem, reduceIte, Nat.reduceEqDiff, reduceCtorEq, egs, tg])
      simp only [go_sem, reduceIte, Nat.reduceEqDiff, reduceCtorEq, Nat.reduceLT, Nat.reduceAdd, Nat.reduceSub, Nat.reduceMul, Nat.reduceLeDiff, Int.reduceLT, Int.reduceLE, Int.reduceToNat, Int.reduceEq, Int.reduceAdd, Int.reduceSub, Int.reduceNeg, Int.reduceBNe, Int.reduceBEq, stc, flds, fldsc, e3, e2, h3, h2, ne_eq, not_false_eq_true, if_true, if_false, List.map_nil]
theorem ups_step {w : List Eg} {s : Nat} (h : s < w.length) : (w.drop (w.length - (s + 1))).reverse.map (·.id) = (w.drop (w.length - s)).reverse.map (·.id) ++ [(w.getD (w.length - 1 - s) default).id] := by
  have e : w.length - (s + 1) = w.length - 1 - s := by omega
  rw [e, List.drop_eq_getElem_cons (by omega), List.reverse_cons, List.map_append, show w.length - 1 - s + 1 = w.length - s by omega]
  rw [getD_lt (by omega)]
  rfl
set_option maxRecDepth 20000 in
set_option maxHeartbeats 16000000 in
theorem RUp_pure (m : List Eg) (id : Tg) (hm : OkM m) : PL.Pure Tryz.prog 11 [egs m, tg id] (tgsc (upM m id)) := by
  have hS := RSchema_pure m id hm
  unfold upM
  by_cases hc : upC m id = 0
  · obtain ⟨hw, _, _⟩ := live_way hc
    simp only [hc, ne_eq, not_true_eq_false, if_false]
    have hc' : (schM (treeOf m) id).2 = 0 := hc
    have hW := RWay_pure m id hm
    rw [wayM_iff.2 hw] at hW
    generalize wayD m id = w at *
    have hwl : w.length ≤ 40 := by have := hw.len; have := hm.n; omega
    have w0 : IntKind.i64.wrap ((w.length : Int) - 1) = (w.length : Int) - 1 := w64 (by omega)
    refine PL.Pure.of_v Tryz.func11 (by decide) rfl Tryz.ntmps11 Tryz.results11 (by simp) (tgsc_dids _) ?_
    simp only [go_sem, reduceIte, Nat.reduceEqDiff, reduceCtorEq, Nat.reduceLT, Nat.reduceAdd, Nat.reduceSub, Nat.reduceMul, Nat.reduceLeDiff, Int.reduceLT, Int.reduceLE, Int.reduceToNat, Int.reduceEq, Int.reduceAdd, Int.reduceSub, Int.reduceNeg, Int.reduceBNe, Int.reduceBEq, egs, tg]
    refine vCall_of (hS) ?_ ?_ ?_; (focus simp only [go_sem, reduceIte, Nat.reduceEqDiff, reduceCtorEq, egs, tg]); (focus simp only [go_sem, reduceIte, Nat.reduceEqDiff, reduceCtorEq, egs, tg])
    simp only [go_sem, reduceIte, Nat.reduceEqDiff, reduceCtorEq, Nat.reduceLT, Nat.reduceAdd, Nat.reduceSub, Nat.reduceMul, Nat.reduceLeDiff, Int.reduceLT, Int.reduceLE, Int.reduceToNat, Int.reduceEq, Int.reduceAdd, Int.reduceSub, Int.reduceNeg, Int.reduceBNe, Int.reduceBEq, fldsc, hc']
    refine vCall_of (hW) ?_ ?_ ?_; (focus simp only [go_sem, reduceIte, Nat.reduceEqDiff, reduceCtorEq, egs, tg]); (focus simp only [go_sem, reduceIte, Nat.reduceEqDiff, reduceCtorEq, egs, tg])
    simp only [go_sem, reduceIte, Nat.reduceEqDiff, reduceCtorEq, Nat.reduceLT, Nat.reduceAdd, Nat.reduceSub, Nat.reduceMul, Nat.reduceLeDiff, Int.reduceLT, Int.reduceLE, Int.reduceToNat, Int.reduceEq, Int.reduceAdd, Int.reduceSub, Int.reduceNeg, Int.reduceBNe, Int.reduceBEq, wayc, Option.isSome_some, Option.getD_some, egs, List.length_map, w0]
    refine awp_moveRow 10 27 42 0 2 24 [] rfl rfl rfl ?_
    refine vLoopM (ι := { s : Nat // s ≤ w.length }) 47 (fun x => [(8, egs w), (10, .sl (.row 42) (((w.drop (w.length - x.1)).reverse.map (·.id)).map tg)), (11, .int .i64 ((w.length : Int) - 1 - (x.1 : Int)))]) (fun x => []) (fun x => [(42, .live x.1 2 24)]) (fun x => w.length - x.1) ⟨0, Nat.zero_le _⟩
      ⟨rfl, forall_cons rfl (forall_cons (by show PV.sl _ _ = PV.sl _ _; simp) (forall_cons (by show PV.int _ _ = PV.int _ _; simp) forall_nil)), forall_nil, forall_cons rfl forall_nil⟩ (fun x => ⟨forall_cons rfl (forall_cons (by simp [PV.ids, refInM]) (forall_cons rfl forall_nil)), forall_nil⟩) (fun x => ?_)
    obtain ⟨s, hs⟩ := x
    simp only
    have hlen : ((w.drop (w.length - s)).reverse.map (·.id)).length = s := by simp; omega
    have hrm := room1 (show s + 1 ≤ 1000000 by omega) (show 16 ≤ 1000 by omega)
    by_cases h : s < w.length
    · have hge : (0 : Int) ≤ (w.length : Int) - 1 - (s : Int) := by omega
      have hlt : (w.length : Int) - 1 - (s : Int) < (w.length : Int) := by omega
      have hto : ((w.length : Int) - 1 - (s : Int)).toNat = w.length - 1 - s := by omega
      have hki : w.length - 1 - s < w.length := by omega
      have w1 : IntKind.i64.wrap ((w.length : Int) - 1 - (s : Int) - 1) = (w.length : Int) - 1 - ((s + 1 : Nat) : Int) := by rw [w64 (by omega)]; omega
      have e0 : (w.length : Int) - 1 - (s : Int) = ((w.length - 1 - s : Nat) : Int) := by omega
      have hst := ups_step h
      rw [e0] at hge hlt w1 ⊢
      simp only [go_sem, reduceIte, Nat.reduceEqDiff, reduceCtorEq, Nat.reduceLT, Nat.reduceAdd, Nat.reduceSub, Nat.reduceMul, Nat.reduceLeDiff, Int.reduceLT, Int.reduceLE, Int.reduceToNat, Int.reduceEq, Int.reduceAdd, Int.reduceSub, Int.reduceNeg, Int.reduceBNe, Int.reduceBEq, egs, hge, hlt, List.length_map, getD_eg hki, eg, hlen, hrm, sized_tg, w1]
      refine ⟨⟨s + 1, by omega⟩, by show w.length - (s + 1) < w.length - s; omega, ⟨rfl, forall_cons rfl (forall_cons ?_ (forall_cons rfl forall_nil)), forall_nil, forall_cons rfl forall_nil⟩⟩
      show PV.sl (.row 42) _ = PV.sl (.row 42) _
      rw [hst]
      simp [tg]
    · obtain rfl : s = w.length := by omega
      have hge : ¬ (0 : Int) ≤ (w.length : Int) - 1 - (w.length : Int) := by omega
      have e : (w.drop (w.length - w.length)).reverse.map (·.id) ++ [default] = upL w := by simp [upL]
      simp only [go_sem, reduceIte, Nat.reduceEqDiff, reduceCtorEq, Nat.reduceLT, Nat.reduceAdd, Nat.reduceSub, Nat.reduceMul, Nat.reduceLeDiff, Int.reduceLT, Int.reduceLE, Int.reduceToNat, Int.reduceEq, Int.reduceAdd, Int.reduceSub, Int.reduceNeg, Int.reduceBNe, Int.reduceBEq, hge, sized_tg, List.length_map, hlen, hrm, tgsc, tgs, ← e, List.map_append, List.map_cons, List.map_nil, tg_default]
  · have hc' : ((schM (treeOf m) id).2 != 0) = true := by have h : (schM (treeOf m) id).2 ≠ 0 := hc; simpa using h
    simp only [ne_eq, hc, not_false_eq_true, if_true]
    refine PL.Pure.of_v Tryz.func11 (by decide) rfl Tryz.ntmps11 Tryz.results11 (by simp) (tgsc_dids _) ?_
    simp only [go_sem, reduceIte, Nat.reduceEqDiff, reduceCtorEq, Nat.reduceLT, Nat.reduceAdd, Nat.reduceSub, Nat.reduceMul, Nat.reduceLeDiff, Int.reduceLT, Int.reduceLE, Int.reduceToNat, Int.reduceEq, Int.reduceAdd, Int.reduceSub, Int.reduceNeg, Int.reduceBNe, Int.reduceBEq, egs, tg]
    refine vCall_of (hS) ?_ ?_ ?_; (focus simp only [go_sem, reduceIte, Nat.reduceEqDiff, reduceCtorEq, egs, tg]); (focus simp only [go_sem, reduceIte, Nat.reduceEqDiff, reduceCtorEq, egs, tg])
    simp only [go_sem, reduceIte, Nat.reduceEqDiff, reduceCtorEq, Nat.reduceLT, Nat.reduceAdd, Nat.reduceSub, Nat.reduceMul, Nat.reduceLeDiff, Int.reduceLT, Int.reduceLE, Int.reduceToNat, Int.reduceEq, Int.reduceAdd, Int.reduceSub, Int.reduceNeg, Int.reduceBNe, Int.reduceBEq, fldsc, hc', tgsc, tgs, List.map_nil, upC]
end Go.Proofs.YtbojhapdidieoaaGreat
