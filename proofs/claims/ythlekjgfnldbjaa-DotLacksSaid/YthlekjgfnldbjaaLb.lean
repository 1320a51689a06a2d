/- Contracts of functions and laws of this seat, each for every input that it names: lemmas of the proof. -/
import Derived.Test.YthlekjgfnldbjaaLa
set_option linter.unusedSimpArgs false
set_option linter.unusedVariables false
set_option linter.unusedSimpArgs false
set_option linter.unusedVariables false
namespace Go.Proofs.Ythlekjgfnldbjaa
open Go.PL
theorem told_tags5 {s t k n u : Nat} {e : TypeId} {l : List (Int × Int)} {v w : List Int} {i j : Int} :
    toldB [(2, .ptr 2 0), (3, .ptr 3 0), (s, .sl (.row t) (l.map tg)), (k, .int .i64 i), (u, .int .i64 j)] [(2, v.map (.int .i64), false), (3, w.map (.int .i64), false)] [(t, .live n 2 e)] :=
  ⟨forall_cons rfl (forall_cons rfl (forall_cons (by simp [PV.ids, refInM]) (forall_cons rfl (forall_cons rfl forall_nil)))), forall_cons (by simp [idsL_ints]) (forall_cons (by simp [idsL_ints]) forall_nil)⟩
set_option maxRecDepth 20000 in
set_option maxHeartbeats 4000000 in
theorem RefLacks_pure (a b : List Int) (ha : a.length = 6) (hb : b.length = 6) : PL.Pure Try.prog 20 [vec a, vec b] (if rightB a = true ∧ rightB b = true then tagsc (lacksTo a b 6) 0 else tagsc [] 5) := by
  have hA := RefRight_pure a ha
  have hB := RefRight_pure b hb
  cases hra : rightB a
  · rw [hra] at hA
    refine PL.Pure.of_v Try.func20 (by decide) rfl Try.ntmps20 Try.results20 (by simp) (by rw [if_neg (by simp)]; exact tagsc_dids _ _) ?_
    simp only [go_sem, reduceIte, Nat.reduceEqDiff, reduceCtorEq, Nat.reduceLT, Nat.reduceAdd, Nat.reduceSub, Nat.reduceMul, Nat.reduceLeDiff, Int.reduceLT, Int.reduceLE, Int.reduceToNat, Int.reduceEq, Int.reduceAdd, Int.reduceSub, Int.reduceNeg, Int.reduceBNe, Int.reduceBEq, vec, ha, hb, take_vec]
    refine vCall_of (hA) ?h0 ?he ?_; (case h0 => simp only [go_sem, reduceIte, Nat.reduceEqDiff, reduceCtorEq, Nat.reduceLT, Nat.reduceAdd, Nat.reduceSub, Nat.reduceMul, Nat.reduceLeDiff, Int.reduceLT, Int.reduceLE, Int.reduceToNat, Int.reduceEq, Int.reduceAdd, Int.reduceSub, Int.reduceNeg, Int.reduceBNe, Int.reduceBEq, vec]); (case he => simp only [go_sem, reduceIte, Nat.reduceEqDiff, reduceCtorEq, Nat.reduceLT, Nat.reduceAdd, Nat.reduceSub, Nat.reduceMul, Nat.reduceLeDiff, Int.reduceLT, Int.reduceLE, Int.reduceToNat, Int.reduceEq, Int.reduceAdd, Int.reduceSub, Int.reduceNeg, Int.reduceBNe, Int.reduceBEq, vec])
    simp only [go_sem, reduceIte, Nat.reduceEqDiff, reduceCtorEq, Nat.reduceLT, Nat.reduceAdd, Nat.reduceSub, Nat.reduceMul, Nat.reduceLeDiff, Int.reduceLT, Int.reduceLE, Int.reduceToNat, Int.reduceEq, Int.reduceAdd, Int.reduceSub, Int.reduceNeg, Int.reduceBNe, Int.reduceBEq, false_and, tagsc]
  · cases hrb : rightB b
    · rw [hra] at hA
      rw [hrb] at hB
      refine PL.Pure.of_v Try.func20 (by decide) rfl Try.ntmps20 Try.results20 (by simp) (by rw [if_neg (by simp)]; exact tagsc_dids _ _) ?_
      simp only [go_sem, reduceIte, Nat.reduceEqDiff, reduceCtorEq, Nat.reduceLT, Nat.reduceAdd, Nat.reduceSub, Nat.reduceMul, Nat.reduceLeDiff, Int.reduceLT, Int.reduceLE, Int.reduceToNat, Int.reduceEq, Int.reduceAdd, Int.reduceSub, Int.reduceNeg, Int.reduceBNe, Int.reduceBEq, vec, ha, hb, take_vec]
      refine vCall_of (hA) ?h0 ?he ?_; (case h0 => simp only [go_sem, reduceIte, Nat.reduceEqDiff, reduceCtorEq, Nat.reduceLT, Nat.reduceAdd, Nat.reduceSub, Nat.reduceMul, Nat.reduceLeDiff, Int.reduceLT, Int.reduceLE, Int.reduceToNat, Int.reduceEq, Int.reduceAdd, Int.reduceSub, Int.reduceNeg, Int.reduceBNe, Int.reduceBEq, vec]); (case he => simp only [go_sem, reduceIte, Nat.reduceEqDiff, reduceCtorEq, Nat.reduceLT, Nat.reduceAdd, Nat.reduceSub, Nat.reduceMul, Nat.reduceLeDiff, Int.reduceLT, Int.reduceLE, Int.reduceToNat, Int.reduceEq, Int.reduceAdd, Int.reduceSub, Int.reduceNeg, Int.reduceBNe, Int.reduceBEq, vec])
      simp only [go_sem, reduceIte, Nat.reduceEqDiff, reduceCtorEq, Nat.reduceLT, Nat.reduceAdd, Nat.reduceSub, Nat.reduceMul, Nat.reduceLeDiff, Int.reduceLT, Int.reduceLE, Int.reduceToNat, Int.reduceEq, Int.reduceAdd, Int.reduceSub, Int.reduceNeg, Int.reduceBNe, Int.reduceBEq, ha, hb, take_vec]
      refine vCall_of (hB) ?h0 ?he ?_; (case h0 => simp only [go_sem, reduceIte, Nat.reduceEqDiff, reduceCtorEq, Nat.reduceLT, Nat.reduceAdd, Nat.reduceSub, Nat.reduceMul, Nat.reduceLeDiff, Int.reduceLT, Int.reduceLE, Int.reduceToNat, Int.reduceEq, Int.reduceAdd, Int.reduceSub, Int.reduceNeg, Int.reduceBNe, Int.reduceBEq, vec]); (case he => simp only [go_sem, reduceIte, Nat.reduceEqDiff, reduceCtorEq, Nat.reduceLT, Nat.reduceAdd, Nat.reduceSub, Nat.reduceMul, Nat.reduceLeDiff, Int.reduceLT, Int.reduceLE, Int.reduceToNat, Int.reduceEq, Int.reduceAdd, Int.reduceSub, Int.reduceNeg, Int.reduceBNe, Int.reduceBEq, vec])
      simp only [go_sem, reduceIte, Nat.reduceEqDiff, reduceCtorEq, Nat.reduceLT, Nat.reduceAdd, Nat.reduceSub, Nat.reduceMul, Nat.reduceLeDiff, Int.reduceLT, Int.reduceLE, Int.reduceToNat, Int.reduceEq, Int.reduceAdd, Int.reduceSub, Int.reduceNeg, Int.reduceBNe, Int.reduceBEq, and_false, tagsc]
    · rw [hra] at hA
      rw [hrb] at hB
      refine PL.Pure.of_v Try.func20 (by decide) rfl Try.ntmps20 Try.results20 (by simp) (by rw [if_pos ⟨rfl, rfl⟩]; exact tagsc_dids _ _) ?_
      simp only [go_sem, reduceIte, Nat.reduceEqDiff, reduceCtorEq, Nat.reduceLT, Nat.reduceAdd, Nat.reduceSub, Nat.reduceMul, Nat.reduceLeDiff, Int.reduceLT, Int.reduceLE, Int.reduceToNat, Int.reduceEq, Int.reduceAdd, Int.reduceSub, Int.reduceNeg, Int.reduceBNe, Int.reduceBEq, vec, ha, hb, take_vec]
      refine vCall_of (hA) ?h0 ?he ?_; (case h0 => simp only [go_sem, reduceIte, Nat.reduceEqDiff, reduceCtorEq, Nat.reduceLT, Nat.reduceAdd, Nat.reduceSub, Nat.reduceMul, Nat.reduceLeDiff, Int.reduceLT, Int.reduceLE, Int.reduceToNat, Int.reduceEq, Int.reduceAdd, Int.reduceSub, Int.reduceNeg, Int.reduceBNe, Int.reduceBEq, vec]); (case he => simp only [go_sem, reduceIte, Nat.reduceEqDiff, reduceCtorEq, Nat.reduceLT, Nat.reduceAdd, Nat.reduceSub, Nat.reduceMul, Nat.reduceLeDiff, Int.reduceLT, Int.reduceLE, Int.reduceToNat, Int.reduceEq, Int.reduceAdd, Int.reduceSub, Int.reduceNeg, Int.reduceBNe, Int.reduceBEq, vec])
      simp only [go_sem, reduceIte, Nat.reduceEqDiff, reduceCtorEq, Nat.reduceLT, Nat.reduceAdd, Nat.reduceSub, Nat.reduceMul, Nat.reduceLeDiff, Int.reduceLT, Int.reduceLE, Int.reduceToNat, Int.reduceEq, Int.reduceAdd, Int.reduceSub, Int.reduceNeg, Int.reduceBNe, Int.reduceBEq, ha, hb, take_vec]
      refine vCall_of (hB) ?h0 ?he ?_; (case h0 => simp only [go_sem, reduceIte, Nat.reduceEqDiff, reduceCtorEq, Nat.reduceLT, Nat.reduceAdd, Nat.reduceSub, Nat.reduceMul, Nat.reduceLeDiff, Int.reduceLT, Int.reduceLE, Int.reduceToNat, Int.reduceEq, Int.reduceAdd, Int.reduceSub, Int.reduceNeg, Int.reduceBNe, Int.reduceBEq, vec]); (case he => simp only [go_sem, reduceIte, Nat.reduceEqDiff, reduceCtorEq, Nat.reduceLT, Nat.reduceAdd, Nat.reduceSub, Nat.reduceMul, Nat.reduceLeDiff, Int.reduceLT, Int.reduceLE, Int.reduceToNat, Int.reduceEq, Int.reduceAdd, Int.reduceSub, Int.reduceNeg, Int.reduceBNe, Int.reduceBEq, vec])
      simp only [go_sem, reduceIte, Nat.reduceEqDiff, reduceCtorEq, Nat.reduceLT, Nat.reduceAdd, Nat.reduceSub, Nat.reduceMul, Nat.reduceLeDiff, Int.reduceLT, Int.reduceLE, Int.reduceToNat, Int.reduceEq, Int.reduceAdd, Int.reduceSub, Int.reduceNeg, Int.reduceBNe, Int.reduceBEq]
      refine awp_moveRow 6 18 41 0 2 25 [] rfl rfl rfl ?_
      refine vLoopM (ι := { k : Nat // k ≤ 6 }) 43 (fun x => [(2, .ptr 2 0), (3, .ptr 3 0), (6, .sl (.row 41) ((lacksTo a b x.1).map tg)), (7, .int .i64 ((x.1 : Int) + 1))]) (fun x => [(2, a.map (.int .i64), false), (3, b.map (.int .i64), false)]) (fun x => [(41, .live (lacksTo a b x.1).length 2 25)]) (fun x => 6 - x.1) ⟨0, by omega⟩
        ⟨rfl, (forall_cons rfl (forall_cons rfl (forall_cons rfl (forall_cons rfl (forall_nil))))), forall_cons ⟨rfl, rfl⟩ (forall_cons ⟨rfl, rfl⟩ forall_nil), (forall_cons rfl (forall_nil))⟩ (fun x => told_tags) (fun x => ?_)
      obtain ⟨k, hk⟩ := x
      simp only
      by_cases h6 : k < 6
      · have q6 : (k : Int) + 1 ≤ 6 := by omega
        have w1 : IntKind.i64.wrap ((k : Int) + 1 - 1) = (k : Int) := by rw [w64 (by omega)]; omega
        have w2 : IntKind.i64.wrap ((k : Int) + 1 + 1) = (k : Int) + 1 + 1 := w64 (by omega)
        have b1 := vec_at hb hrb h6
        have b2 := vec_at ha hra h6
        simp only [go_sem, reduceIte, Nat.reduceEqDiff, reduceCtorEq, Nat.reduceLT, Nat.reduceAdd, Nat.reduceSub, Nat.reduceMul, Nat.reduceLeDiff, Int.reduceLT, Int.reduceLE, Int.reduceToNat, Int.reduceEq, Int.reduceAdd, Int.reduceSub, Int.reduceNeg, Int.reduceBNe, Int.reduceBEq, q6]
        refine vLoopM (ι := { n : Nat // (n : Int) ≤ b.getD k 0 }) 43 (fun x => [(2, .ptr 2 0), (3, .ptr 3 0), (6, .sl (.row 41) ((lacksTo a b k ++ seg k (a.getD k 0) x.1).map tg)), (7, .int .i64 ((k : Int) + 1)), (8, .int .i64 ((x.1 : Int) + 1))]) (fun x => [(2, a.map (.int .i64), false), (3, b.map (.int .i64), false)]) (fun x => [(41, .live (lacksTo a b k ++ seg k (a.getD k 0) x.1).length 2 25)]) (fun x => 401 - x.1) ⟨0, by omega⟩
          ⟨rfl, forall_cons rfl (forall_cons rfl (forall_cons (by show PV.sl _ _ = PV.sl _ _; rw [seg_nil (by simpa using b2.1), List.append_nil]) (forall_cons rfl (forall_cons rfl (forall_nil))))), forall_cons ⟨rfl, rfl⟩ (forall_cons ⟨rfl, rfl⟩ forall_nil), forall_cons (by show some _ = some _; rw [seg_nil (by simpa using b2.1), List.append_nil]) forall_nil⟩ (fun x => told_tags5) (fun x => ?_)
        obtain ⟨n, hn⟩ := x
        simp only
        have hl := lacksTo_len ha hb hra hrb k hk
        have hl2 : (lacksTo a b k ++ seg k (a.getD k 0) n).length ≤ 4000 := by rw [List.length_append, seg_len]; omega
        by_cases h1 : (n : Int) + 1 ≤ b.getD k 0
        · have ht : tagB ((k : Int) + 1) ((n : Int) + 1) = true := tagB_spec.2 (by omega)
          have hH := RefHas_pure a ha ((k : Int) + 1) ((n : Int) + 1)
          have hh : hasB a ((k : Int) + 1) ((n : Int) + 1) = decide ((n : Int) + 1 ≤ a.getD k 0) := by
            simp only [hasB, ht, Bool.true_and, show ((k : Int) + 1 - 1).toNat = k by omega]
          rw [hh] at hH
          have w3 : IntKind.i64.wrap ((n : Int) + 1 + 1) = (n : Int) + 1 + 1 := w64 (by omega)
          by_cases h2 : (n : Int) + 1 ≤ a.getD k 0
          · simp only [h2, decide_true] at hH
            have z1 : seg k (a.getD k 0) (n : Int) = [] := seg_nil (by omega)
            have z2 : seg k (a.getD k 0) ((n + 1 : Nat) : Int) = [] := seg_nil (by omega)
            simp only [go_sem, reduceIte, Nat.reduceEqDiff, reduceCtorEq, Nat.reduceLT, Nat.reduceAdd, Nat.reduceSub, Nat.reduceMul, Nat.reduceLeDiff, Int.reduceLT, Int.reduceLE, Int.reduceToNat, Int.reduceEq, Int.reduceAdd, Int.reduceSub, Int.reduceNeg, Int.reduceBNe, Int.reduceBEq, w1, h6, ha, hb, take_vec, getD_vec, h1]
            repeat ((with_reducible refine And.intro ?_ ?_); (focus (first | omega | (simp; done))))
            refine vCall_of (hH) ?h0 ?he ?_; (case h0 => simp only [go_sem, reduceIte, Nat.reduceEqDiff, reduceCtorEq, Nat.reduceLT, Nat.reduceAdd, Nat.reduceSub, Nat.reduceMul, Nat.reduceLeDiff, Int.reduceLT, Int.reduceLE, Int.reduceToNat, Int.reduceEq, Int.reduceAdd, Int.reduceSub, Int.reduceNeg, Int.reduceBNe, Int.reduceBEq, vec, tag]); (case he => simp only [go_sem, reduceIte, Nat.reduceEqDiff, reduceCtorEq, Nat.reduceLT, Nat.reduceAdd, Nat.reduceSub, Nat.reduceMul, Nat.reduceLeDiff, Int.reduceLT, Int.reduceLE, Int.reduceToNat, Int.reduceEq, Int.reduceAdd, Int.reduceSub, Int.reduceNeg, Int.reduceBNe, Int.reduceBEq, vec, tag])
            simp only [go_sem, reduceIte, Nat.reduceEqDiff, reduceCtorEq, Nat.reduceLT, Nat.reduceAdd, Nat.reduceSub, Nat.reduceMul, Nat.reduceLeDiff, Int.reduceLT, Int.reduceLE, Int.reduceToNat, Int.reduceEq, Int.reduceAdd, Int.reduceSub, Int.reduceNeg, Int.reduceBNe, Int.reduceBEq, w3]
            exact ⟨⟨n + 1, by omega⟩, by show 401 - (n + 1) < 401 - n; omega, ⟨rfl, forall_cons rfl (forall_cons rfl (forall_cons (by show PV.sl _ _ = PV.sl _ _; exact congrArg (fun l => PV.sl (.row 41) ((lacksTo a b k ++ l).map tg)) (z1.trans z2.symm)) (forall_cons rfl (forall_cons rfl forall_nil)))), forall_cons ⟨rfl, rfl⟩ (forall_cons ⟨rfl, rfl⟩ forall_nil), forall_cons (by show some _ = some _; exact congrArg (fun l => some (Row.live (lacksTo a b k ++ l).length 2 25)) (z1.trans z2.symm)) forall_nil⟩⟩
          · simp only [h2, decide_false] at hH
            have es : lacksTo a b k ++ seg k (a.getD k 0) ((n + 1 : Nat) : Int) = (lacksTo a b k ++ seg k (a.getD k 0) n) ++ [((k : Int) + 1, (n : Int) + 1)] := by
              rw [List.append_assoc, ← seg_succ (by omega)]; rfl
            simp only [go_sem, reduceIte, Nat.reduceEqDiff, reduceCtorEq, Nat.reduceLT, Nat.reduceAdd, Nat.reduceSub, Nat.reduceMul, Nat.reduceLeDiff, Int.reduceLT, Int.reduceLE, Int.reduceToNat, Int.reduceEq, Int.reduceAdd, Int.reduceSub, Int.reduceNeg, Int.reduceBNe, Int.reduceBEq, w1, h6, ha, hb, take_vec, getD_vec, h1]
            repeat ((with_reducible refine And.intro ?_ ?_); (focus (first | omega | (simp; done))))
            refine vCall_of (hH) ?h0 ?he ?_; (case h0 => simp only [go_sem, reduceIte, Nat.reduceEqDiff, reduceCtorEq, Nat.reduceLT, Nat.reduceAdd, Nat.reduceSub, Nat.reduceMul, Nat.reduceLeDiff, Int.reduceLT, Int.reduceLE, Int.reduceToNat, Int.reduceEq, Int.reduceAdd, Int.reduceSub, Int.reduceNeg, Int.reduceBNe, Int.reduceBEq, vec, tag]); (case he => simp only [go_sem, reduceIte, Nat.reduceEqDiff, reduceCtorEq, Nat.reduceLT, Nat.reduceAdd, Nat.reduceSub, Nat.reduceMul, Nat.reduceLeDiff, Int.reduceLT, Int.reduceLE, Int.reduceToNat, Int.reduceEq, Int.reduceAdd, Int.reduceSub, Int.reduceNeg, Int.reduceBNe, Int.reduceBEq, vec, tag])
            generalize hgen : lacksTo a b k ++ seg k (a.getD k 0) n = o at *
            simp only [go_sem, reduceIte, Nat.reduceEqDiff, reduceCtorEq, Nat.reduceLT, Nat.reduceAdd, Nat.reduceSub, Nat.reduceMul, Nat.reduceLeDiff, Int.reduceLT, Int.reduceLE, Int.reduceToNat, Int.reduceEq, Int.reduceAdd, Int.reduceSub, Int.reduceNeg, Int.reduceBNe, Int.reduceBEq, w3, sized_tg, sized_tag, atoms_tag, room_small (show o.length + 1 ≤ 100000000000 by omega) (show 16 ≤ 1000 by omega), true_or]
            repeat ((with_reducible refine And.intro ?_ ?_); (focus (first | omega | (simp; done))))
            exact ⟨⟨n + 1, by omega⟩, by show 401 - (n + 1) < 401 - n; omega, ⟨rfl, forall_cons rfl (forall_cons rfl (forall_cons (by show PV.sl _ _ = PV.sl _ _; rw [es, ← map_tg]) (forall_cons rfl (forall_cons rfl forall_nil)))), forall_cons ⟨rfl, rfl⟩ (forall_cons ⟨rfl, rfl⟩ forall_nil), forall_cons (by show some _ = some _; rw [es, List.length_append]; rfl) forall_nil⟩⟩
        · obtain e : (n : Int) = b.getD k 0 := by omega
          simp only [go_sem, reduceIte, Nat.reduceEqDiff, reduceCtorEq, Nat.reduceLT, Nat.reduceAdd, Nat.reduceSub, Nat.reduceMul, Nat.reduceLeDiff, Int.reduceLT, Int.reduceLE, Int.reduceToNat, Int.reduceEq, Int.reduceAdd, Int.reduceSub, Int.reduceNeg, Int.reduceBNe, Int.reduceBEq, w1, h6, ha, hb, take_vec, getD_vec, h1, w2]
          repeat ((with_reducible refine And.intro ?_ ?_); (focus (first | omega | (simp; done))))
          exact ⟨⟨k + 1, by omega⟩, by show 6 - (k + 1) < 6 - k; omega, ⟨rfl, forall_cons rfl (forall_cons rfl (forall_cons (by show PV.sl _ _ = PV.sl _ _; rw [lacksTo_succ, e]) (forall_cons rfl forall_nil))), forall_cons ⟨rfl, rfl⟩ (forall_cons ⟨rfl, rfl⟩ forall_nil), forall_cons (by show some _ = some _; rw [lacksTo_succ, e]) forall_nil⟩⟩
      · obtain rfl : k = 6 := by omega
        have q6 : ¬ ((6 : Nat) : Int) + 1 ≤ 6 := by omega
        simp only [go_sem, reduceIte, Nat.reduceEqDiff, reduceCtorEq, Nat.reduceLT, Nat.reduceAdd, Nat.reduceSub, Nat.reduceMul, Nat.reduceLeDiff, Int.reduceLT, Int.reduceLE, Int.reduceToNat, Int.reduceEq, Int.reduceAdd, Int.reduceSub, Int.reduceNeg, Int.reduceBNe, Int.reduceBEq, tagsc, q6]

theorem getD_tg {l : List (Int × Int)} {i : Nat} (h : i < l.length) : (l.map tg).getD i .any = PV.agg [.int .i64 (l.getD i (0, 0)).1, .int .i64 (l.getD i (0, 0)).2] := by
  simp [List.getD_eq_getElem?_getD, h, tg, tag]
def sl (l : List (Int × Int)) : PV := .sl .no (l.map tg)
theorem told_sl {l m : List (Int × Int)} {i : Int} : toldB [(0, sl l), (1, sl m), (5, .int .i64 i)] [] [] := ⟨forall_cons rfl (forall_cons rfl (forall_cons rfl forall_nil)), forall_nil⟩
set_option maxHeartbeats 4000000 in
/-- two lists of tags that are the same -/
theorem SameTags_refl (l : List (Int × Int)) (hl : l.length ≤ 1000000) : PL.Pure Try.prog 21 [sl l, sl l] (.bool true) := by
  refine PL.Pure.of_v Try.func21 (by decide) rfl Try.ntmps21 Try.results21 (by simp) rfl ?_
  simp only [go_sem, reduceIte, Nat.reduceEqDiff, reduceCtorEq, Nat.reduceLT, Nat.reduceAdd, Nat.reduceSub, Nat.reduceMul, Nat.reduceLeDiff, Int.reduceLT, Int.reduceLE, Int.reduceToNat, Int.reduceEq, Int.reduceAdd, Int.reduceSub, Int.reduceNeg, Int.reduceBNe, Int.reduceBEq, sl]
  refine vLoopM (ι := { k : Nat // k ≤ l.length }) 26 (fun x => [(0, sl l), (1, sl l), (5, .int .i64 (x.1 : Int))]) (fun x => []) (fun x => []) (fun x => l.length - x.1) ⟨0, by omega⟩
    ⟨rfl, (forall_cons rfl (forall_cons rfl (forall_cons rfl (forall_nil)))), forall_nil, forall_nil⟩ (fun x => told_sl) (fun x => ?_)
  obtain ⟨k, hk⟩ := x
  simp only
  by_cases h : (k : Int) < (l.length : Int)
  · have hk' : k < l.length := by omega
    have w1 : IntKind.i64.wrap ((k : Int) + 1) = ((k + 1 : Nat) : Int) := by rw [w64 (by omega)]; rfl
    simp only [go_sem, reduceIte, Nat.reduceEqDiff, reduceCtorEq, Nat.reduceLT, Nat.reduceAdd, Nat.reduceSub, Nat.reduceMul, Nat.reduceLeDiff, Int.reduceLT, Int.reduceLE, Int.reduceToNat, Int.reduceEq, Int.reduceAdd, Int.reduceSub, Int.reduceNeg, Int.reduceBNe, Int.reduceBEq, sl, h]
    refine vDrawQ (by kernel_rfl) (by kernel_rfl) ?_
    simp only [go_sem, reduceIte, Nat.reduceEqDiff, reduceCtorEq, Nat.reduceLT, Nat.reduceAdd, Nat.reduceSub, Nat.reduceMul, Nat.reduceLeDiff, Int.reduceLT, Int.reduceLE, Int.reduceToNat, Int.reduceEq, Int.reduceAdd, Int.reduceSub, Int.reduceNeg, Int.reduceBNe, Int.reduceBEq, getD_tg hk', h, w1]
    repeat ((with_reducible refine And.intro ?_ ?_); (focus (first | omega | (simp; done))))
    exact ⟨⟨k + 1, by omega⟩, by show l.length - (k + 1) < l.length - k; omega, ⟨rfl, (forall_cons rfl (forall_cons rfl (forall_cons rfl (forall_nil)))), forall_nil, forall_nil⟩⟩
  · simp only [go_sem, reduceIte, Nat.reduceEqDiff, reduceCtorEq, Nat.reduceLT, Nat.reduceAdd, Nat.reduceSub, Nat.reduceMul, Nat.reduceLeDiff, Int.reduceLT, Int.reduceLE, Int.reduceToNat, Int.reduceEq, Int.reduceAdd, Int.reduceSub, Int.reduceNeg, Int.reduceBNe, Int.reduceBEq, sl, h]
theorem sum_take_succ {v : List Int} {i : Nat} (h : i < v.length) : (v.take (i + 1)).sum = (v.take i).sum + v.getD i 0 := by
  rw [List.take_succ_eq_append_getElem h, List.sum_append, List.getD_eq_getElem?_getD, List.getElem?_eq_getElem h]
  simp only [List.sum_cons, List.sum_nil, Int.add_zero, Option.getD_some]
theorem sum_bd {v : List Int} (hv : v.length = 6) (hr : rightB v = true) : ∀ i, i ≤ 6 → 0 ≤ (v.take i).sum ∧ (v.take i).sum ≤ 400 * i
  | 0, _ => by simp
  | i + 1, h => by
    have h1 := sum_bd hv hr i (by omega)
    have h2 := vec_at hv hr (i := i) (by omega)
    rw [sum_take_succ (by omega)]
    omega
def sumc (v : List Int) : PV := if rightB v = true then .tup [.int .i64 v.sum, .int .i64 0] else .tup [.int .i64 0, .int .i64 5]
theorem sumc_dids (v : List Int) : (sumc v).dids = [] := by unfold sumc; split <;> rfl
theorem told_sum {v : List Int} {i j : Int} : toldB [(4, .int .i64 i), (10, .agg (v.map (.int .i64))), (11, .int .i64 j)] [] [] := ⟨forall_cons rfl (forall_cons (by simp [PV.ids, idsL_ints]) (forall_cons rfl forall_nil)), forall_nil⟩
set_option maxHeartbeats 4000000 in
theorem Sum_pure (v : List Int) (hv : v.length = 6) : PL.Pure Try.prog 22 [vec v] (sumc v) := by
  have hR := Right_pure v hv
  cases hr : rightB v
  · rw [hr] at hR
    refine PL.Pure.of_v Try.func22 (by decide) rfl Try.ntmps22 Try.results22 (by simp) (sumc_dids _) ?_
    simp only [go_sem, reduceIte, Nat.reduceEqDiff, reduceCtorEq, Nat.reduceLT, Nat.reduceAdd, Nat.reduceSub, Nat.reduceMul, Nat.reduceLeDiff, Int.reduceLT, Int.reduceLE, Int.reduceToNat, Int.reduceEq, Int.reduceAdd, Int.reduceSub, Int.reduceNeg, Int.reduceBNe, Int.reduceBEq, vec, hv, take_vec]
    refine vCall_of (hR) ?h0 ?he ?_; (case h0 => simp only [go_sem, reduceIte, Nat.reduceEqDiff, reduceCtorEq, Nat.reduceLT, Nat.reduceAdd, Nat.reduceSub, Nat.reduceMul, Nat.reduceLeDiff, Int.reduceLT, Int.reduceLE, Int.reduceToNat, Int.reduceEq, Int.reduceAdd, Int.reduceSub, Int.reduceNeg, Int.reduceBNe, Int.reduceBEq, vec]); (case he => simp only [go_sem, reduceIte, Nat.reduceEqDiff, reduceCtorEq, Nat.reduceLT, Nat.reduceAdd, Nat.reduceSub, Nat.reduceMul, Nat.reduceLeDiff, Int.reduceLT, Int.reduceLE, Int.reduceToNat, Int.reduceEq, Int.reduceAdd, Int.reduceSub, Int.reduceNeg, Int.reduceBNe, Int.reduceBEq, vec])
    simp only [go_sem, reduceIte, Nat.reduceEqDiff, reduceCtorEq, Nat.reduceLT, Nat.reduceAdd, Nat.reduceSub, Nat.reduceMul, Nat.reduceLeDiff, Int.reduceLT, Int.reduceLE, Int.reduceToNat, Int.reduceEq, Int.reduceAdd, Int.reduceSub, Int.reduceNeg, Int.reduceBNe, Int.reduceBEq, sumc, hr]
  · rw [hr] at hR
    refine PL.Pure.of_v Try.func22 (by decide) rfl Try.ntmps22 Try.results22 (by simp) (sumc_dids _) ?_
    simp only [go_sem, reduceIte, Nat.reduceEqDiff, reduceCtorEq, Nat.reduceLT, Nat.reduceAdd, Nat.reduceSub, Nat.reduceMul, Nat.reduceLeDiff, Int.reduceLT, Int.reduceLE, Int.reduceToNat, Int.reduceEq, Int.reduceAdd, Int.reduceSub, Int.reduceNeg, Int.reduceBNe, Int.reduceBEq, vec, hv, take_vec]
    refine vCall_of (hR) ?h0 ?he ?_; (case h0 => simp only [go_sem, reduceIte, Nat.reduceEqDiff, reduceCtorEq, Nat.reduceLT, Nat.reduceAdd, Nat.reduceSub, Nat.reduceMul, Nat.reduceLeDiff, Int.reduceLT, Int.reduceLE, Int.reduceToNat, Int.reduceEq, Int.reduceAdd, Int.reduceSub, Int.reduceNeg, Int.reduceBNe, Int.reduceBEq, vec]); (case he => simp only [go_sem, reduceIte, Nat.reduceEqDiff, reduceCtorEq, Nat.reduceLT, Nat.reduceAdd, Nat.reduceSub, Nat.reduceMul, Nat.reduceLeDiff, Int.reduceLT, Int.reduceLE, Int.reduceToNat, Int.reduceEq, Int.reduceAdd, Int.reduceSub, Int.reduceNeg, Int.reduceBNe, Int.reduceBEq, vec])
    simp only [go_sem, reduceIte, Nat.reduceEqDiff, reduceCtorEq, Nat.reduceLT, Nat.reduceAdd, Nat.reduceSub, Nat.reduceMul, Nat.reduceLeDiff, Int.reduceLT, Int.reduceLE, Int.reduceToNat, Int.reduceEq, Int.reduceAdd, Int.reduceSub, Int.reduceNeg, Int.reduceBNe, Int.reduceBEq, hv, take_vec]
    refine vLoopM (ι := { k : Nat // k ≤ 6 }) 19 (fun x => [(4, .int .i64 (v.take x.1).sum), (10, .agg (v.map (.int .i64))), (11, .int .i64 (x.1 : Int))]) (fun x => []) (fun x => []) (fun x => 6 - x.1) ⟨0, by omega⟩
      ⟨rfl, (forall_cons rfl (forall_cons rfl (forall_cons rfl (forall_nil)))), forall_nil, forall_nil⟩ (fun x => told_sum) (fun x => ?_)
    obtain ⟨k, hk⟩ := x
    simp only
    by_cases h : (k : Int) < 6
    · have hk' : k < 6 := by omega
      have w1 : IntKind.i64.wrap ((k : Int) + 1) = ((k + 1 : Nat) : Int) := by rw [w64 (by omega)]; rfl
      have b1 := sum_bd hv hr k hk
      have b2 := vec_at hv hr hk'
      have w2 : IntKind.i64.wrap ((v.take k).sum + v.getD k 0) = (v.take (k + 1)).sum := by rw [w64 (by omega), sum_take_succ (by omega)]
      simp only [go_sem, reduceIte, Nat.reduceEqDiff, reduceCtorEq, Nat.reduceLT, Nat.reduceAdd, Nat.reduceSub, Nat.reduceMul, Nat.reduceLeDiff, Int.reduceLT, Int.reduceLE, Int.reduceToNat, Int.reduceEq, Int.reduceAdd, Int.reduceSub, Int.reduceNeg, Int.reduceBNe, Int.reduceBEq, h, hv, hk', getD_vec, w1, w2]
      repeat ((with_reducible refine And.intro ?_ ?_); (focus (first | omega | (simp; done))))
      exact ⟨⟨k + 1, by omega⟩, by show 6 - (k + 1) < 6 - k; omega, ⟨rfl, (forall_cons rfl (forall_cons rfl (forall_cons rfl (forall_nil)))), forall_nil, forall_nil⟩⟩
    · obtain rfl : k = 6 := by omega
      have e : v.take 6 = v := List.take_of_length_le (by omega)
      simp only [go_sem, reduceIte, Nat.reduceEqDiff, reduceCtorEq, Nat.reduceLT, Nat.reduceAdd, Nat.reduceSub, Nat.reduceMul, Nat.reduceLeDiff, Int.reduceLT, Int.reduceLE, Int.reduceToNat, Int.reduceEq, Int.reduceAdd, Int.reduceSub, Int.reduceNeg, Int.reduceBNe, Int.reduceBEq, h, sumc, hr, e]
