/- Contracts of functions and laws of this seat, each for every input that it names: lemmas of the proof. -/
import Derived.Test.YtcinpbgpbehndaaDg
set_option linter.unusedSimpArgs false
set_option linter.unusedVariables false
set_option linter.unusedSimpArgs false
set_option linter.unusedVariables false
namespace Go.Proofs.Ytcinpbgpbehndaa
open Go.PL
set_option maxRecDepth 20000 in
set_option maxHeartbeats 1000000 in
/-- the quote of nothing -/
theorem Quote_nil : PL.Pure Try.prog 90 [.str []] (.tup [.str [34, 34], .int .i64 0]) := by
  have hT := Text_pure []
  refine PL.Pure.of_v Try.func90 (by decide) rfl Try.ntmps90 Try.results90 (by simp) rfl ?_
  simp only [go_sem, reduceIte, Nat.reduceEqDiff, reduceCtorEq, Nat.reduceLT, Nat.reduceAdd, Nat.reduceSub, Nat.reduceMul, Nat.reduceLeDiff, Int.reduceLT, Int.reduceLE, Int.reduceToNat, Int.reduceEq, Int.reduceAdd, Int.reduceSub, Int.reduceNeg, Int.reduceBNe, Int.reduceBEq]
  refine vCall_of (hT) ?_ ?_ ?_; (focus simp only [go_sem, reduceIte, Nat.reduceEqDiff, reduceCtorEq, Nat.reduceLT, Nat.reduceAdd, Nat.reduceSub, Nat.reduceMul, Nat.reduceLeDiff, Int.reduceLT, Int.reduceLE, Int.reduceToNat, Int.reduceEq, Int.reduceAdd, Int.reduceSub, Int.reduceNeg, Int.reduceBNe, Int.reduceBEq]); (focus simp only [go_sem, reduceIte, Nat.reduceEqDiff, reduceCtorEq, Nat.reduceLT, Nat.reduceAdd, Nat.reduceSub, Nat.reduceMul, Nat.reduceLeDiff, Int.reduceLT, Int.reduceLE, Int.reduceToNat, Int.reduceEq, Int.reduceAdd, Int.reduceSub, Int.reduceNeg, Int.reduceBNe, Int.reduceBEq])
  simp only [go_sem, reduceIte, Nat.reduceEqDiff, reduceCtorEq, Nat.reduceLT, Nat.reduceAdd, Nat.reduceSub, Nat.reduceMul, Nat.reduceLeDiff, Int.reduceLT, Int.reduceLE, Int.reduceToNat, Int.reduceEq, Int.reduceAdd, Int.reduceSub, Int.reduceNeg, Int.reduceBNe, Int.reduceBEq, List.length_nil]
  refine vLoopM (ι := Unit) 43 (fun x => [(4, .sl (.row 9) [.int .u8 34]), (11, .int .i64 0), (12, .int .i64 0)]) (fun x => []) (fun x => [(9, .live 1 1 5)]) (fun x => 0) ()
    ⟨rfl, (forall_cons rfl (forall_cons rfl (forall_cons rfl (forall_nil)))), forall_nil, (forall_cons rfl (forall_nil))⟩ (fun x => ⟨(forall_cons rfl (forall_cons rfl (forall_cons rfl (forall_nil)))), forall_nil⟩) (fun x => ?_)
  simp only [go_sem, reduceIte, Nat.reduceEqDiff, reduceCtorEq, Nat.reduceLT, Nat.reduceAdd, Nat.reduceSub, Nat.reduceMul, Nat.reduceLeDiff, Int.reduceLT, Int.reduceLE, Int.reduceToNat, Int.reduceEq, Int.reduceAdd, Int.reduceSub, Int.reduceNeg, Int.reduceBNe, Int.reduceBEq, room_small, bytesOf]
  rfl
set_option maxRecDepth 20000 in
set_option maxHeartbeats 4000000 in
theorem Join_one (s : Str) (sep : Str) : PL.Pure Try.prog 91 [.sl .no [.str s], .str sep] (.str s) := by
  refine PL.Pure.of_v Try.func91 (by decide) rfl Try.ntmps91 Try.results91 (by simp) rfl ?_
  simp only [go_sem, reduceIte, Nat.reduceEqDiff, reduceCtorEq, Nat.reduceLT, Nat.reduceAdd, Nat.reduceSub, Nat.reduceMul, Nat.reduceLeDiff, Int.reduceLT, Int.reduceLE, Int.reduceToNat, Int.reduceEq, Int.reduceAdd, Int.reduceSub, Int.reduceNeg, Int.reduceBNe, Int.reduceBEq]
theorem print_len (r : Rf) : (printM r).length ≤ 40 := by
  unfold printM
  split
  · rename_i h
    simp only [placeB, Bool.and_eq_true, Bool.or_eq_true, decide_eq_true_eq] at h
    have h1 := (name_len h.2.1).2
    have h2 : r.gr.length ≤ 12 := by
      rcases h.2.2 with h | h
      · rw [h]; decide
      · exact (name_len h).2
    simp only [prefixM, List.length_append, List.length_cons, List.length_nil]
    split <;> split <;> simp only [List.length_append, List.length_cons, List.length_nil] <;> omega
  · decide
set_option maxRecDepth 20000 in
set_option maxHeartbeats 4000000 in
theorem line_one (r : Rf) (n : Int) : PL.Pure Try.prog 48 [ent ⟨r, n, [[]]⟩] (.str (printM r ++ [32] ++ [34, 34])) := by
  have hP := Print_pure r
  have hJ := Join_one [34, 34] [44]
  have hl := print_len r
  have b1 : ((printM r).length : Int) + 1 ≤ 9223372036854775807 := by omega
  have b2 : (((printM r ++ [32]).length : Nat) : Int) + 2 ≤ 9223372036854775807 := by simp; omega
  refine PL.Pure.of_v Try.func48 (by decide) rfl Try.ntmps48 Try.results48 (by simp) rfl ?_
  simp only [go_sem, reduceIte, Nat.reduceEqDiff, reduceCtorEq, Nat.reduceLT, Nat.reduceAdd, Nat.reduceSub, Nat.reduceMul, Nat.reduceLeDiff, Int.reduceLT, Int.reduceLE, Int.reduceToNat, Int.reduceEq, Int.reduceAdd, Int.reduceSub, Int.reduceNeg, Int.reduceBNe, Int.reduceBEq, ent]
  refine vCall_of (hP) ?_ ?_ ?_; (focus simp only [go_sem, reduceIte, Nat.reduceEqDiff, reduceCtorEq, Nat.reduceLT, Nat.reduceAdd, Nat.reduceSub, Nat.reduceMul, Nat.reduceLeDiff, Int.reduceLT, Int.reduceLE, Int.reduceToNat, Int.reduceEq, Int.reduceAdd, Int.reduceSub, Int.reduceNeg, Int.reduceBNe, Int.reduceBEq, ref]); (focus simp only [go_sem, reduceIte, Nat.reduceEqDiff, reduceCtorEq, Nat.reduceLT, Nat.reduceAdd, Nat.reduceSub, Nat.reduceMul, Nat.reduceLeDiff, Int.reduceLT, Int.reduceLE, Int.reduceToNat, Int.reduceEq, Int.reduceAdd, Int.reduceSub, Int.reduceNeg, Int.reduceBNe, Int.reduceBEq, ref])
  simp only [go_sem, reduceIte, Nat.reduceEqDiff, reduceCtorEq, Nat.reduceLT, Nat.reduceAdd, Nat.reduceSub, Nat.reduceMul, Nat.reduceLeDiff, Int.reduceLT, Int.reduceLE, Int.reduceToNat, Int.reduceEq, Int.reduceAdd, Int.reduceSub, Int.reduceNeg, Int.reduceBNe, Int.reduceBEq, b1]
  repeat ((with_reducible refine And.intro ?_ ?_); (focus (first | omega | (simp; done))))
  refine awp_moveRow 4 25 43 0 1 9 [] rfl rfl rfl ?_
  refine vLoopM (ι := { k : Nat // k ≤ 1 }) 49 (fun x => [(3, .str (printM r ++ [32])), (4, .sl (.row 43) ((List.replicate x.1 [34, 34]).map .str)), (27, .sl .no [.str []]), (28, .int .i64 1), (29, .int .i64 (x.1 : Int))]) (fun x => []) (fun x => [(43, .live x.1 1 9)]) (fun x => 1 - x.1) ⟨0, by omega⟩
    ⟨rfl, (forall_cons rfl (forall_cons rfl (forall_cons rfl (forall_cons rfl (forall_cons rfl (forall_nil)))))), forall_nil, (forall_cons rfl (forall_nil))⟩ (fun x => ⟨forall_cons rfl (forall_cons (by simp [PV.ids, refInM]) (forall_cons rfl (forall_cons rfl (forall_cons rfl (forall_nil))))), forall_nil⟩) (fun x => ?_)
  obtain ⟨k, hk⟩ := x
  simp only
  obtain rfl | rfl : k = 0 ∨ k = 1 := by omega
  · simp only [go_sem, reduceIte, Nat.reduceEqDiff, reduceCtorEq, Nat.reduceLT, Nat.reduceAdd, Nat.reduceSub, Nat.reduceMul, Nat.reduceLeDiff, Int.reduceLT, Int.reduceLE, Int.reduceToNat, Int.reduceEq, Int.reduceAdd, Int.reduceSub, Int.reduceNeg, Int.reduceBNe, Int.reduceBEq, List.replicate]
    refine vCall_of (Quote_nil) ?_ ?_ ?_; (focus simp only [go_sem, reduceIte, Nat.reduceEqDiff, reduceCtorEq, Nat.reduceLT, Nat.reduceAdd, Nat.reduceSub, Nat.reduceMul, Nat.reduceLeDiff, Int.reduceLT, Int.reduceLE, Int.reduceToNat, Int.reduceEq, Int.reduceAdd, Int.reduceSub, Int.reduceNeg, Int.reduceBNe, Int.reduceBEq]); (focus simp only [go_sem, reduceIte, Nat.reduceEqDiff, reduceCtorEq, Nat.reduceLT, Nat.reduceAdd, Nat.reduceSub, Nat.reduceMul, Nat.reduceLeDiff, Int.reduceLT, Int.reduceLE, Int.reduceToNat, Int.reduceEq, Int.reduceAdd, Int.reduceSub, Int.reduceNeg, Int.reduceBNe, Int.reduceBEq])
    simp only [go_sem, reduceIte, Nat.reduceEqDiff, reduceCtorEq, Nat.reduceLT, Nat.reduceAdd, Nat.reduceSub, Nat.reduceMul, Nat.reduceLeDiff, Int.reduceLT, Int.reduceLE, Int.reduceToNat, Int.reduceEq, Int.reduceAdd, Int.reduceSub, Int.reduceNeg, Int.reduceBNe, Int.reduceBEq, room_small]
    exact ⟨⟨1, by omega⟩, by show 1 - 1 < 1 - 0; omega, ⟨rfl, (forall_cons rfl (forall_cons rfl (forall_cons rfl (forall_cons rfl (forall_cons rfl (forall_nil)))))), forall_nil, (forall_cons rfl (forall_nil))⟩⟩
  · simp only [go_sem, reduceIte, Nat.reduceEqDiff, reduceCtorEq, Nat.reduceLT, Nat.reduceAdd, Nat.reduceSub, Nat.reduceMul, Nat.reduceLeDiff, Int.reduceLT, Int.reduceLE, Int.reduceToNat, Int.reduceEq, Int.reduceAdd, Int.reduceSub, Int.reduceNeg, Int.reduceBNe, Int.reduceBEq, List.replicate]
    refine vCall_of (hJ) ?_ ?_ ?_; (focus simp only [go_sem, reduceIte, Nat.reduceEqDiff, reduceCtorEq, Nat.reduceLT, Nat.reduceAdd, Nat.reduceSub, Nat.reduceMul, Nat.reduceLeDiff, Int.reduceLT, Int.reduceLE, Int.reduceToNat, Int.reduceEq, Int.reduceAdd, Int.reduceSub, Int.reduceNeg, Int.reduceBNe, Int.reduceBEq]); (focus simp only [go_sem, reduceIte, Nat.reduceEqDiff, reduceCtorEq, Nat.reduceLT, Nat.reduceAdd, Nat.reduceSub, Nat.reduceMul, Nat.reduceLeDiff, Int.reduceLT, Int.reduceLE, Int.reduceToNat, Int.reduceEq, Int.reduceAdd, Int.reduceSub, Int.reduceNeg, Int.reduceBNe, Int.reduceBEq])
    simp only [go_sem, reduceIte, Nat.reduceEqDiff, reduceCtorEq, Nat.reduceLT, Nat.reduceAdd, Nat.reduceSub, Nat.reduceMul, Nat.reduceLeDiff, Int.reduceLT, Int.reduceLE, Int.reduceToNat, Int.reduceEq, Int.reduceAdd, Int.reduceSub, Int.reduceNeg, Int.reduceBNe, Int.reduceBEq, b2]
theorem strs_dids (l : List Str) : (strs l).dids = [] := by simp only [strs, PV.dids, didsL_str]
set_option maxRecDepth 20000 in
set_option maxHeartbeats 4000000 in
theorem Lines_one (e : En) (t : Str) (h : PL.Pure Try.prog 48 [ent e] (.str t)) : PL.Pure Try.prog 16 [doc ⟨[e], []⟩] (strs [t]) := by
  refine PL.Pure.of_v Try.func16 (by decide) rfl Try.ntmps16 Try.results16 (by simp) (strs_dids _) ?_
  simp only [go_sem, reduceIte, Nat.reduceEqDiff, reduceCtorEq, Nat.reduceLT, Nat.reduceAdd, Nat.reduceSub, Nat.reduceMul, Nat.reduceLeDiff, Int.reduceLT, Int.reduceLE, Int.reduceToNat, Int.reduceEq, Int.reduceAdd, Int.reduceSub, Int.reduceNeg, Int.reduceBNe, Int.reduceBEq, doc]
  refine awp_nilRow 3 21 1 9 rfl rfl ?_
  refine vLoopM (ι := { k : Nat // k ≤ 1 }) 54 (fun x => [(1, .ptr 1 0), (3, .sl (.row 21) ((List.replicate x.1 t).map .str)), (11, .sl .no [ent e]), (12, .int .i64 1), (13, .int .i64 (x.1 : Int))]) (fun x => [(1, [.sl .no [ent e], .sl .no []], false)]) (fun x => [(21, .live x.1 1 9)]) (fun x => 1 - x.1) ⟨0, by omega⟩
    ⟨rfl, (forall_cons rfl (forall_cons rfl (forall_cons rfl (forall_cons rfl (forall_cons rfl (forall_nil)))))), forall_cons ⟨rfl, rfl⟩ forall_nil, (forall_cons rfl (forall_nil))⟩ (fun x => ⟨forall_cons rfl (forall_cons (by simp [PV.ids, refInM]) (forall_cons rfl (forall_cons rfl (forall_cons rfl (forall_nil))))), (forall_cons rfl (forall_nil))⟩) (fun x => ?_)
  obtain ⟨k, hk⟩ := x
  simp only
  obtain rfl | rfl : k = 0 ∨ k = 1 := by omega
  · simp only [go_sem, reduceIte, Nat.reduceEqDiff, reduceCtorEq, Nat.reduceLT, Nat.reduceAdd, Nat.reduceSub, Nat.reduceMul, Nat.reduceLeDiff, Int.reduceLT, Int.reduceLE, Int.reduceToNat, Int.reduceEq, Int.reduceAdd, Int.reduceSub, Int.reduceNeg, Int.reduceBNe, Int.reduceBEq, List.replicate, ent]
    refine vCall_of (h) ?_ ?_ ?_; (focus simp only [go_sem, reduceIte, Nat.reduceEqDiff, reduceCtorEq, Nat.reduceLT, Nat.reduceAdd, Nat.reduceSub, Nat.reduceMul, Nat.reduceLeDiff, Int.reduceLT, Int.reduceLE, Int.reduceToNat, Int.reduceEq, Int.reduceAdd, Int.reduceSub, Int.reduceNeg, Int.reduceBNe, Int.reduceBEq, ent]); (focus simp only [go_sem, reduceIte, Nat.reduceEqDiff, reduceCtorEq, Nat.reduceLT, Nat.reduceAdd, Nat.reduceSub, Nat.reduceMul, Nat.reduceLeDiff, Int.reduceLT, Int.reduceLE, Int.reduceToNat, Int.reduceEq, Int.reduceAdd, Int.reduceSub, Int.reduceNeg, Int.reduceBNe, Int.reduceBEq, ent])
    simp only [go_sem, reduceIte, Nat.reduceEqDiff, reduceCtorEq, Nat.reduceLT, Nat.reduceAdd, Nat.reduceSub, Nat.reduceMul, Nat.reduceLeDiff, Int.reduceLT, Int.reduceLE, Int.reduceToNat, Int.reduceEq, Int.reduceAdd, Int.reduceSub, Int.reduceNeg, Int.reduceBNe, Int.reduceBEq, room_small]
    exact ⟨⟨1, by omega⟩, by show 1 - 1 < 1 - 0; omega, ⟨rfl, (forall_cons rfl (forall_cons rfl (forall_cons rfl (forall_cons rfl (forall_cons rfl (forall_nil)))))), forall_cons ⟨rfl, rfl⟩ forall_nil, (forall_cons rfl (forall_nil))⟩⟩
  · simp only [go_sem, reduceIte, Nat.reduceEqDiff, reduceCtorEq, Nat.reduceLT, Nat.reduceAdd, Nat.reduceSub, Nat.reduceMul, Nat.reduceLeDiff, Int.reduceLT, Int.reduceLE, Int.reduceToNat, Int.reduceEq, Int.reduceAdd, Int.reduceSub, Int.reduceNeg, Int.reduceBNe, Int.reduceBEq, List.replicate]
    refine vLoopM (ι := Unit) 54 (fun x => [(3, .sl (.row 21) [.str t]), (25, .int .i64 0), (26, .int .i64 0)]) (fun x => []) (fun x => [(21, .live 1 1 9)]) (fun x => 0) ()
      ⟨rfl, (forall_cons rfl (forall_cons rfl (forall_cons rfl (forall_nil)))), forall_nil, (forall_cons rfl (forall_nil))⟩ (fun x => ⟨forall_cons (by simp [PV.ids, refInM]) (forall_cons rfl (forall_cons rfl (forall_nil))), forall_nil⟩) (fun x => ?_)
    simp only [go_sem, reduceIte, Nat.reduceEqDiff, reduceCtorEq, Nat.reduceLT, Nat.reduceAdd, Nat.reduceSub, Nat.reduceMul, Nat.reduceLeDiff, Int.reduceLT, Int.reduceLE, Int.reduceToNat, Int.reduceEq, Int.reduceAdd, Int.reduceSub, Int.reduceNeg, Int.reduceBNe, Int.reduceBEq, strs]
set_option maxRecDepth 20000 in
set_option maxHeartbeats 4000000 in
theorem Awake_pure : PL.Pure Try.prog 11 [] (.bool true) := by
  have h2 := Blank_pure rootL (by decide)
  have e2 : blanksM rootL 0 = [⟨⟨0, [], [99, 111, 117, 112, 111, 110]⟩, 0, [[]]⟩] := by decide
  rw [e2] at h2
  have h3 := Lines_one _ _ (line_one ⟨0, [], [99, 111, 117, 112, 111, 110]⟩ 0)
  have e3 : printM ⟨0, [], [99, 111, 117, 112, 111, 110]⟩ ++ [32] ++ [34, 34] = [104, 101, 97, 100, 46, 99, 111, 117, 112, 111, 110, 32, 34, 34] := by decide
  rw [e3] at h3
  refine PL.Pure.of_v Try.func11 (by decide) rfl Try.ntmps11 Try.results11 (by simp) rfl ?_
  simp only [go_sem, reduceIte, Nat.reduceEqDiff, reduceCtorEq, Nat.reduceLT, Nat.reduceAdd, Nat.reduceSub, Nat.reduceMul, Nat.reduceLeDiff, Int.reduceLT, Int.reduceLE, Int.reduceToNat, Int.reduceEq, Int.reduceAdd, Int.reduceSub, Int.reduceNeg, Int.reduceBNe, Int.reduceBEq]
  refine vCall_of (Root_pure) ?_ ?_ ?_; (focus simp only [go_sem, reduceIte, Nat.reduceEqDiff, reduceCtorEq, Nat.reduceLT, Nat.reduceAdd, Nat.reduceSub, Nat.reduceMul, Nat.reduceLeDiff, Int.reduceLT, Int.reduceLE, Int.reduceToNat, Int.reduceEq, Int.reduceAdd, Int.reduceSub, Int.reduceNeg, Int.reduceBNe, Int.reduceBEq]); (focus simp only [go_sem, reduceIte, Nat.reduceEqDiff, reduceCtorEq, Nat.reduceLT, Nat.reduceAdd, Nat.reduceSub, Nat.reduceMul, Nat.reduceLeDiff, Int.reduceLT, Int.reduceLE, Int.reduceToNat, Int.reduceEq, Int.reduceAdd, Int.reduceSub, Int.reduceNeg, Int.reduceBNe, Int.reduceBEq])
  simp only [go_sem, reduceIte, Nat.reduceEqDiff, reduceCtorEq, Nat.reduceLT, Nat.reduceAdd, Nat.reduceSub, Nat.reduceMul, Nat.reduceLeDiff, Int.reduceLT, Int.reduceLE, Int.reduceToNat, Int.reduceEq, Int.reduceAdd, Int.reduceSub, Int.reduceNeg, Int.reduceBNe, Int.reduceBEq]
  refine vCall_of (h2) ?_ ?_ ?_; (focus simp only [go_sem, reduceIte, Nat.reduceEqDiff, reduceCtorEq, Nat.reduceLT, Nat.reduceAdd, Nat.reduceSub, Nat.reduceMul, Nat.reduceLeDiff, Int.reduceLT, Int.reduceLE, Int.reduceToNat, Int.reduceEq, Int.reduceAdd, Int.reduceSub, Int.reduceNeg, Int.reduceBNe, Int.reduceBEq, flds]); (focus simp only [go_sem, reduceIte, Nat.reduceEqDiff, reduceCtorEq, Nat.reduceLT, Nat.reduceAdd, Nat.reduceSub, Nat.reduceMul, Nat.reduceLeDiff, Int.reduceLT, Int.reduceLE, Int.reduceToNat, Int.reduceEq, Int.reduceAdd, Int.reduceSub, Int.reduceNeg, Int.reduceBNe, Int.reduceBEq, flds])
  simp only [go_sem, reduceIte, Nat.reduceEqDiff, reduceCtorEq, Nat.reduceLT, Nat.reduceAdd, Nat.reduceSub, Nat.reduceMul, Nat.reduceLeDiff, Int.reduceLT, Int.reduceLE, Int.reduceToNat, Int.reduceEq, Int.reduceAdd, Int.reduceSub, Int.reduceNeg, Int.reduceBNe, Int.reduceBEq]
  refine vCall_of (h3) ?_ ?_ ?_; (focus simp only [go_sem, reduceIte, Nat.reduceEqDiff, reduceCtorEq, Nat.reduceLT, Nat.reduceAdd, Nat.reduceSub, Nat.reduceMul, Nat.reduceLeDiff, Int.reduceLT, Int.reduceLE, Int.reduceToNat, Int.reduceEq, Int.reduceAdd, Int.reduceSub, Int.reduceNeg, Int.reduceBNe, Int.reduceBEq, doc]); (focus simp only [go_sem, reduceIte, Nat.reduceEqDiff, reduceCtorEq, Nat.reduceLT, Nat.reduceAdd, Nat.reduceSub, Nat.reduceMul, Nat.reduceLeDiff, Int.reduceLT, Int.reduceLE, Int.reduceToNat, Int.reduceEq, Int.reduceAdd, Int.reduceSub, Int.reduceNeg, Int.reduceBNe, Int.reduceBEq, doc])
  simp only [go_sem, reduceIte, Nat.reduceEqDiff, reduceCtorEq, Nat.reduceLT, Nat.reduceAdd, Nat.reduceSub, Nat.reduceMul, Nat.reduceLeDiff, Int.reduceLT, Int.reduceLE, Int.reduceToNat, Int.reduceEq, Int.reduceAdd, Int.reduceSub, Int.reduceNeg, Int.reduceBNe, Int.reduceBEq, strs]
