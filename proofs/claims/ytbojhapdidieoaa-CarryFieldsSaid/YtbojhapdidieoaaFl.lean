/- Contracts of functions and laws of this seat, each for every input that it names: lemmas of the proof. -/
import Derived.Test.YtbojhapdidieoaaFk
set_option linter.unusedSimpArgs false
set_option linter.unusedVariables false
set_option linter.unusedSimpArgs false
set_option linter.unusedVariables false
namespace Go.Proofs.Ytbojhapdidieoaa
open Go.PL
def awX : Ln := ⟨1, ⟨1, [], [110, 111, 116, 101]⟩, [109, 101, 109, 111], [], 0, default, [], []⟩
def awA : Eg := ⟨⟨1, 1⟩, default, awX⟩
def awB : Eg := ⟨⟨2, 1⟩, default, awX⟩
theorem okAw : OkLn awX := ⟨by decide, by decide, by decide⟩
theorem putA : putM [] awA = ([awA], 0) := by decide +kernel
theorem putB : putM [awA] awB = ([awA, awB], 0) := by decide +kernel
theorem okA : OkM [awA] := by have := okPut okM_nil (e := awA) okAw; rw [putA] at this; exact this
theorem okB : OkM [awA, awB] := by have := okPut okA (e := awB) okAw; rw [putB] at this; exact this
theorem pathAB : pathM [awA, awB] ⟨1, 1⟩ ⟨2, 1⟩ = ([⟨⟨1, 1⟩, false⟩, ⟨⟨2, 1⟩, true⟩], 0) := by decide +kernel
theorem nomap_legsc (x : List Lg × Int) : (legsc x).nomap = true := by simp only [legsc, lgs, PV.nomap, PV.nomapL, nomapL_map lg (fun _ => rfl), Bool.and_self]
set_option maxRecDepth 20000 in
set_option maxHeartbeats 16000000 in
theorem awake18_pure : PL.Pure Try.prog 11 [] (.bool true) := by
  have h1 := put_wr [] awA okM_nil okAw
  have h2 := put_wr [awA] awB okA okAw
  have hP := Path_pure [awA, awB] ⟨1, 1⟩ ⟨2, 1⟩ okB
  rw [putA] at h1
  rw [putB] at h2
  rw [pathAB] at hP
  refine PL.Pure.of_vs Try.func11 (by decide) rfl Try.ntmps11 Try.results11 (by simp) rfl ?_
  simp only [go_sem, reduceIte, Nat.reduceEqDiff, reduceCtorEq, Nat.reduceLT, Nat.reduceAdd, Nat.reduceSub, Nat.reduceMul, Nat.reduceLeDiff, Int.reduceLT, Int.reduceLE, Int.reduceToNat, Int.reduceEq, Int.reduceAdd, Int.reduceSub, Int.reduceNeg, Int.reduceBNe, Int.reduceBEq]
  refine vCall_mk mk_new ?_ ?_ (fun b hb => ?_)
  · simp only [go_sem, reduceIte, Nat.reduceEqDiff, reduceCtorEq, Nat.reduceLT, Nat.reduceAdd, Nat.reduceSub, Nat.reduceMul, Nat.reduceLeDiff, Int.reduceLT, Int.reduceLE, Int.reduceToNat, Int.reduceEq, Int.reduceAdd, Int.reduceSub, Int.reduceNeg, Int.reduceBNe, Int.reduceBEq]
  · simp only [go_sem, reduceIte, Nat.reduceEqDiff, reduceCtorEq, Nat.reduceLT, Nat.reduceAdd, Nat.reduceSub, Nat.reduceMul, Nat.reduceLeDiff, Int.reduceLT, Int.reduceLE, Int.reduceToNat, Int.reduceEq, Int.reduceAdd, Int.reduceSub, Int.reduceNeg, Int.reduceBNe, Int.reduceBEq]
  simp only [go_sem, reduceIte, Nat.reduceEqDiff, reduceCtorEq, Nat.reduceLT, Nat.reduceAdd, Nat.reduceSub, Nat.reduceMul, Nat.reduceLeDiff, Int.reduceLT, Int.reduceLE, Int.reduceToNat, Int.reduceEq, Int.reduceAdd, Int.reduceSub, Int.reduceNeg, Int.reduceBNe, Int.reduceBEq]
  refine vCall_wr b h1 ?_ ?_ ?_ ?_
  · simp only [go_sem, reduceIte, Nat.reduceEqDiff, reduceCtorEq, Nat.reduceLT, Nat.reduceAdd, Nat.reduceSub, Nat.reduceMul, Nat.reduceLeDiff, Int.reduceLT, Int.reduceLE, Int.reduceToNat, Int.reduceEq, Int.reduceAdd, Int.reduceSub, Int.reduceNeg, Int.reduceBNe, Int.reduceBEq]
  · simp only [go_sem, reduceIte, Nat.reduceEqDiff, reduceCtorEq, Nat.reduceLT, Nat.reduceAdd, Nat.reduceSub, Nat.reduceMul, Nat.reduceLeDiff, Int.reduceLT, Int.reduceLE, Int.reduceToNat, Int.reduceEq, Int.reduceAdd, Int.reduceSub, Int.reduceNeg, Int.reduceBNe, Int.reduceBEq]
    rfl
  · simp [upd]; rfl
  simp only [go_sem, reduceIte, Nat.reduceEqDiff, reduceCtorEq, Nat.reduceLT, Nat.reduceAdd, Nat.reduceSub, Nat.reduceMul, Nat.reduceLeDiff, Int.reduceLT, Int.reduceLE, Int.reduceToNat, Int.reduceEq, Int.reduceAdd, Int.reduceSub, Int.reduceNeg, Int.reduceBNe, Int.reduceBEq]
  refine vCall_wr b h2 ?_ ?_ ?_ ?_
  · simp only [go_sem, reduceIte, Nat.reduceEqDiff, reduceCtorEq, Nat.reduceLT, Nat.reduceAdd, Nat.reduceSub, Nat.reduceMul, Nat.reduceLeDiff, Int.reduceLT, Int.reduceLE, Int.reduceToNat, Int.reduceEq, Int.reduceAdd, Int.reduceSub, Int.reduceNeg, Int.reduceBNe, Int.reduceBEq]
  · simp only [go_sem, reduceIte, Nat.reduceEqDiff, reduceCtorEq, Nat.reduceLT, Nat.reduceAdd, Nat.reduceSub, Nat.reduceMul, Nat.reduceLeDiff, Int.reduceLT, Int.reduceLE, Int.reduceToNat, Int.reduceEq, Int.reduceAdd, Int.reduceSub, Int.reduceNeg, Int.reduceBNe, Int.reduceBEq]
    rfl
  · simp [upd]
  simp only [go_sem, reduceIte, Nat.reduceEqDiff, reduceCtorEq, Nat.reduceLT, Nat.reduceAdd, Nat.reduceSub, Nat.reduceMul, Nat.reduceLeDiff, Int.reduceLT, Int.reduceLE, Int.reduceToNat, Int.reduceEq, Int.reduceAdd, Int.reduceSub, Int.reduceNeg, Int.reduceBNe, Int.reduceBEq]
  refine vCall_sl hP (nomap_legsc _) ?_ ?_ ?_
  · simp only [go_sem, reduceIte, Nat.reduceEqDiff, reduceCtorEq, Nat.reduceLT, Nat.reduceAdd, Nat.reduceSub, Nat.reduceMul, Nat.reduceLeDiff, Int.reduceLT, Int.reduceLE, Int.reduceToNat, Int.reduceEq, Int.reduceAdd, Int.reduceSub, Int.reduceNeg, Int.reduceBNe, Int.reduceBEq]
  · simp only [go_sem, reduceIte, Nat.reduceEqDiff, reduceCtorEq, Nat.reduceLT, Nat.reduceAdd, Nat.reduceSub, Nat.reduceMul, Nat.reduceLeDiff, Int.reduceLT, Int.reduceLE, Int.reduceToNat, Int.reduceEq, Int.reduceAdd, Int.reduceSub, Int.reduceNeg, Int.reduceBNe, Int.reduceBEq, mc]
    rfl
  simp only [go_sem, reduceIte, Nat.reduceEqDiff, reduceCtorEq, Nat.reduceLT, Nat.reduceAdd, Nat.reduceSub, Nat.reduceMul, Nat.reduceLeDiff, Int.reduceLT, Int.reduceLE, Int.reduceToNat, Int.reduceEq, Int.reduceAdd, Int.reduceSub, Int.reduceNeg, Int.reduceBNe, Int.reduceBEq, legsc, lgs, lg, List.map_cons, List.map_nil, List.length_cons, List.length_nil]
  exact ⟨_, rfl, rfl⟩
theorem legs_len (m : List Eg) (a b : Tg) (hm : OkM m) : (pathM m a b).1.length ≤ 80 := by
  unfold pathM
  split
  · simp
  · rename_i h
    have h := pathC_zero.1 (by simpa using h)
    have w1 := (live_way h.1).1.len
    have w2 := (live_way h.2).1.len
    have := hm.n
    simp only [legsW, List.length_append, List.length_map, List.length_reverse, List.length_drop]
    omega
theorem okL {l : List Eg} (h : heavyE l 50 = false) : l.length ≤ 50 ∧ ∀ e ∈ l, OkLn e.ln := by
  simp only [heavyE, Bool.or_eq_false_iff, decide_eq_false_iff_not, List.any_eq_false] at h
  exact ⟨by omega, fun e he => okOfHeavy (by simpa using h.2 e he)⟩
end Go.Proofs.Ytbojhapdidieoaa
