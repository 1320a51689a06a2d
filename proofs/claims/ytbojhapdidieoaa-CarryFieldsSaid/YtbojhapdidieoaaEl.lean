/- Contracts of functions and laws of this seat, each for every input that it names: lemmas of the proof. -/
import Derived.Test.YtbojhapdidieoaaEk
set_option linter.unusedSimpArgs false
set_option linter.unusedVariables false
set_option linter.unusedSimpArgs false
set_option linter.unusedVariables false
namespace Go.Proofs.Ytbojhapdidieoaa
open Go.PL
def roundP (fo ba : List Pr) (p : Pr) : Bool := (caseM fo p.fr').2 && ((caseM ba (caseM fo p.fr').1).2 && ((caseM ba (caseM fo p.fr').1).1 == p.fr'))
def roundM (fo ba : List Pr) : Bool := fo.all (roundP fo ba)
set_option maxHeartbeats 4000000 in
theorem round_pure (fo ba : List Pr) (hf : fo.length ≤ maxLen) (hb : ba.length ≤ maxLen) : PL.Pure Try.prog 78 [prs fo, prs ba] (.bool (roundM fo ba)) := by
  refine PL.Pure.of_v Try.func78 (by decide) rfl Try.ntmps78 Try.results78 (by simp) rfl ?_
  simp only [go_sem, reduceIte, Nat.reduceEqDiff, reduceCtorEq, Nat.reduceLT, Nat.reduceAdd, Nat.reduceSub, Nat.reduceMul, Nat.reduceLeDiff, Int.reduceLT, Int.reduceLE, Int.reduceToNat, Int.reduceEq, Int.reduceAdd, Int.reduceSub, Int.reduceNeg, Int.reduceBNe, Int.reduceBEq, prs]
  refine vLoopM (ι := { x : Nat // x ≤ (fo).length ∧ (∀ j, j < x → roundP fo ba (fo.getD j default) = true) }) 40 (fun x => [(0, prs fo), (1, prs ba), (10, prs fo), (11, .int .i64 (fo.length : Int)), (12, .int .i64 (x.1 : Int))]) (fun x => []) (fun x => []) (fun x => (fo).length - x.1) ⟨0, Nat.zero_le _, fun j hj => absurd hj (Nat.not_lt_zero j)⟩ ⟨rfl, (forall_cons rfl (forall_cons rfl (forall_cons rfl (forall_cons rfl (forall_cons rfl forall_nil))))), forall_nil, forall_nil⟩ (fun x => ⟨(forall_cons rfl (forall_cons rfl (forall_cons rfl (forall_cons rfl (forall_cons rfl forall_nil))))), forall_nil⟩) (fun x => ?_); obtain ⟨k, hk, hI⟩ := x; simp only at hk hI ⊢
  by_cases h : (k : Int) < (fo.length : Int)
  · (have hka : k < (fo).length := by omega); (have w1 := w64s hka (hf)); (have i1 : (0 : Int) ≤ (k : Int) := by omega)
    have h1 := Case_pure fo (fo.getD k default).fr' hf
    have h2 := Case_pure ba (caseM fo (fo.getD k default).fr').1 hb
    cases hr : roundP fo ba (fo.getD k default)
    · have hz := all_false (p := roundP fo ba) hka hr
      unfold roundP at hr
      generalize caseM fo (fo.getD k default).fr' = c at *
      generalize caseM ba c.1 = d at *
      obtain ⟨c1, c2⟩ := c
      obtain ⟨d1, d2⟩ := d
      simp only at hr h2
      simp only [go_sem, reduceIte, Nat.reduceEqDiff, reduceCtorEq, Nat.reduceLT, Nat.reduceAdd, Nat.reduceSub, Nat.reduceMul, Nat.reduceLeDiff, Int.reduceLT, Int.reduceLE, Int.reduceToNat, Int.reduceEq, Int.reduceAdd, Int.reduceSub, Int.reduceNeg, Int.reduceBNe, Int.reduceBEq, prs, h, i1, getD_pr hka, pr]
      refine vCall_of (h1) ?_ ?_ ?_; (focus simp only [go_sem, reduceIte, Nat.reduceEqDiff, reduceCtorEq, Nat.reduceLT, Nat.reduceAdd, Nat.reduceSub, Nat.reduceMul, Nat.reduceLeDiff, Int.reduceLT, Int.reduceLE, Int.reduceToNat, Int.reduceEq, Int.reduceAdd, Int.reduceSub, Int.reduceNeg, Int.reduceBNe, Int.reduceBEq, prs]); (focus simp only [go_sem, reduceIte, Nat.reduceEqDiff, reduceCtorEq, Nat.reduceLT, Nat.reduceAdd, Nat.reduceSub, Nat.reduceMul, Nat.reduceLeDiff, Int.reduceLT, Int.reduceLE, Int.reduceToNat, Int.reduceEq, Int.reduceAdd, Int.reduceSub, Int.reduceNeg, Int.reduceBNe, Int.reduceBEq, prs])
      simp only [go_sem, reduceIte, Nat.reduceEqDiff, reduceCtorEq, Nat.reduceLT, Nat.reduceAdd, Nat.reduceSub, Nat.reduceMul, Nat.reduceLeDiff, Int.reduceLT, Int.reduceLE, Int.reduceToNat, Int.reduceEq, Int.reduceAdd, Int.reduceSub, Int.reduceNeg, Int.reduceBNe, Int.reduceBEq, strb]
      cases c2
      · simp only [go_sem, reduceIte, Nat.reduceEqDiff, reduceCtorEq, Nat.reduceLT, Nat.reduceAdd, Nat.reduceSub, Nat.reduceMul, Nat.reduceLeDiff, Int.reduceLT, Int.reduceLE, Int.reduceToNat, Int.reduceEq, Int.reduceAdd, Int.reduceSub, Int.reduceNeg, Int.reduceBNe, Int.reduceBEq, roundM, hz]
      · simp only [go_sem, reduceIte, Nat.reduceEqDiff, reduceCtorEq, Nat.reduceLT, Nat.reduceAdd, Nat.reduceSub, Nat.reduceMul, Nat.reduceLeDiff, Int.reduceLT, Int.reduceLE, Int.reduceToNat, Int.reduceEq, Int.reduceAdd, Int.reduceSub, Int.reduceNeg, Int.reduceBNe, Int.reduceBEq, prs]
        refine vCall_of (h2) ?_ ?_ ?_; (focus simp only [go_sem, reduceIte, Nat.reduceEqDiff, reduceCtorEq, Nat.reduceLT, Nat.reduceAdd, Nat.reduceSub, Nat.reduceMul, Nat.reduceLeDiff, Int.reduceLT, Int.reduceLE, Int.reduceToNat, Int.reduceEq, Int.reduceAdd, Int.reduceSub, Int.reduceNeg, Int.reduceBNe, Int.reduceBEq, prs]); (focus simp only [go_sem, reduceIte, Nat.reduceEqDiff, reduceCtorEq, Nat.reduceLT, Nat.reduceAdd, Nat.reduceSub, Nat.reduceMul, Nat.reduceLeDiff, Int.reduceLT, Int.reduceLE, Int.reduceToNat, Int.reduceEq, Int.reduceAdd, Int.reduceSub, Int.reduceNeg, Int.reduceBNe, Int.reduceBEq, prs])
        simp only [go_sem, reduceIte, Nat.reduceEqDiff, reduceCtorEq, Nat.reduceLT, Nat.reduceAdd, Nat.reduceSub, Nat.reduceMul, Nat.reduceLeDiff, Int.reduceLT, Int.reduceLE, Int.reduceToNat, Int.reduceEq, Int.reduceAdd, Int.reduceSub, Int.reduceNeg, Int.reduceBNe, Int.reduceBEq, strb]
        cases d2
        · simp only [go_sem, reduceIte, Nat.reduceEqDiff, reduceCtorEq, Nat.reduceLT, Nat.reduceAdd, Nat.reduceSub, Nat.reduceMul, Nat.reduceLeDiff, Int.reduceLT, Int.reduceLE, Int.reduceToNat, Int.reduceEq, Int.reduceAdd, Int.reduceSub, Int.reduceNeg, Int.reduceBNe, Int.reduceBEq, roundM, hz]
        · simp only [Bool.true_and] at hr
          simp only [go_sem, reduceIte, Nat.reduceEqDiff, reduceCtorEq, Nat.reduceLT, Nat.reduceAdd, Nat.reduceSub, Nat.reduceMul, Nat.reduceLeDiff, Int.reduceLT, Int.reduceLE, Int.reduceToNat, Int.reduceEq, Int.reduceAdd, Int.reduceSub, Int.reduceNeg, Int.reduceBNe, Int.reduceBEq, hr, roundM, hz]
    · have hr0 := hr
      unfold roundP at hr
      generalize caseM fo (fo.getD k default).fr' = c at *
      generalize caseM ba c.1 = d at *
      obtain ⟨c1, c2⟩ := c
      obtain ⟨d1, d2⟩ := d
      simp only [Bool.and_eq_true] at hr h2
      obtain ⟨rfl, rfl, hr⟩ := hr
      simp only [go_sem, reduceIte, Nat.reduceEqDiff, reduceCtorEq, Nat.reduceLT, Nat.reduceAdd, Nat.reduceSub, Nat.reduceMul, Nat.reduceLeDiff, Int.reduceLT, Int.reduceLE, Int.reduceToNat, Int.reduceEq, Int.reduceAdd, Int.reduceSub, Int.reduceNeg, Int.reduceBNe, Int.reduceBEq, prs, h, i1, getD_pr hka, pr]
      refine vCall_of (h1) ?_ ?_ ?_; (focus simp only [go_sem, reduceIte, Nat.reduceEqDiff, reduceCtorEq, Nat.reduceLT, Nat.reduceAdd, Nat.reduceSub, Nat.reduceMul, Nat.reduceLeDiff, Int.reduceLT, Int.reduceLE, Int.reduceToNat, Int.reduceEq, Int.reduceAdd, Int.reduceSub, Int.reduceNeg, Int.reduceBNe, Int.reduceBEq, prs]); (focus simp only [go_sem, reduceIte, Nat.reduceEqDiff, reduceCtorEq, Nat.reduceLT, Nat.reduceAdd, Nat.reduceSub, Nat.reduceMul, Nat.reduceLeDiff, Int.reduceLT, Int.reduceLE, Int.reduceToNat, Int.reduceEq, Int.reduceAdd, Int.reduceSub, Int.reduceNeg, Int.reduceBNe, Int.reduceBEq, prs])
      simp only [go_sem, reduceIte, Nat.reduceEqDiff, reduceCtorEq, Nat.reduceLT, Nat.reduceAdd, Nat.reduceSub, Nat.reduceMul, Nat.reduceLeDiff, Int.reduceLT, Int.reduceLE, Int.reduceToNat, Int.reduceEq, Int.reduceAdd, Int.reduceSub, Int.reduceNeg, Int.reduceBNe, Int.reduceBEq, strb, prs]
      refine vCall_of (h2) ?_ ?_ ?_; (focus simp only [go_sem, reduceIte, Nat.reduceEqDiff, reduceCtorEq, Nat.reduceLT, Nat.reduceAdd, Nat.reduceSub, Nat.reduceMul, Nat.reduceLeDiff, Int.reduceLT, Int.reduceLE, Int.reduceToNat, Int.reduceEq, Int.reduceAdd, Int.reduceSub, Int.reduceNeg, Int.reduceBNe, Int.reduceBEq, prs]); (focus simp only [go_sem, reduceIte, Nat.reduceEqDiff, reduceCtorEq, Nat.reduceLT, Nat.reduceAdd, Nat.reduceSub, Nat.reduceMul, Nat.reduceLeDiff, Int.reduceLT, Int.reduceLE, Int.reduceToNat, Int.reduceEq, Int.reduceAdd, Int.reduceSub, Int.reduceNeg, Int.reduceBNe, Int.reduceBEq, prs])
      simp only [go_sem, reduceIte, Nat.reduceEqDiff, reduceCtorEq, Nat.reduceLT, Nat.reduceAdd, Nat.reduceSub, Nat.reduceMul, Nat.reduceLeDiff, Int.reduceLT, Int.reduceLE, Int.reduceToNat, Int.reduceEq, Int.reduceAdd, Int.reduceSub, Int.reduceNeg, Int.reduceBNe, Int.reduceBEq, strb, hr, w1]
      exact ⟨⟨k + 1, by (try simp only); omega, below_succ hI hr0⟩, by show (fo).length - (k + 1) < (fo).length - k; omega, ⟨rfl, (forall_cons rfl (forall_cons rfl (forall_cons rfl (forall_cons rfl (forall_cons rfl forall_nil))))), forall_nil, forall_nil⟩⟩
  · have hz := all_true (p := roundP fo ba) (d := default) (l := fo) (fun j hj => hI j (by omega))
    simp only [go_sem, reduceIte, Nat.reduceEqDiff, reduceCtorEq, Nat.reduceLT, Nat.reduceAdd, Nat.reduceSub, Nat.reduceMul, Nat.reduceLeDiff, Int.reduceLT, Int.reduceLE, Int.reduceToNat, Int.reduceEq, Int.reduceAdd, Int.reduceSub, Int.reduceNeg, Int.reduceBNe, Int.reduceBEq, prs, h, roundM, hz]
def keptM (x : Ln) (r : Rf) : Bool :=
  if rightLn x = false then false else if idx (fun a => decide (r = a)) (goesR x) < 0 then true
  else if x.kind = 1 ∨ x.kind = 4 ∨ x.kind = 5 ∨ x.kind = 6 ∨ x.kind = 7 ∨ x.kind = 10 then true
  else if x.kind = 9 then idx (fun a => decide (r = a)) (goesR x) == 0
  else if x.kind = 8 then roundM x.fo x.ba else false
theorem goesR_len (x : Ln) : (goesR x).length ≤ 2 := by
  unfold goesR
  split
  · simp
  split
  · simp
  split <;> simp
theorem comesR_len (x : Ln) : (comesR x).length ≤ 2 := by
  unfold comesR
  repeat' split
  all_goals simp
set_option maxRecDepth 20000 in
set_option maxHeartbeats 8000000 in
theorem Kept_pure (x : Ln) (r : Rf) (hx : OkLn x) : PL.Pure Try.prog 37 [lns x, ref r] (.bool (keptM x r)) := by
  have hR := LRight_pure x hx
  have hG := Goes_pure x hx
  unfold keptM
  cases hlr : rightLn x
  · rw [hlr] at hR
    refine PL.Pure.of_v Try.func37 (by decide) rfl Try.ntmps37 Try.results37 (by simp) rfl ?_
    simp only [go_sem, reduceIte, Nat.reduceEqDiff, reduceCtorEq, Nat.reduceLT, Nat.reduceAdd, Nat.reduceSub, Nat.reduceMul, Nat.reduceLeDiff, Int.reduceLT, Int.reduceLE, Int.reduceToNat, Int.reduceEq, Int.reduceAdd, Int.reduceSub, Int.reduceNeg, Int.reduceBNe, Int.reduceBEq, lns, ref]
    refine vCall_of (hR) ?_ ?_ ?_; (focus simp only [go_sem, reduceIte, Nat.reduceEqDiff, reduceCtorEq, Nat.reduceLT, Nat.reduceAdd, Nat.reduceSub, Nat.reduceMul, Nat.reduceLeDiff, Int.reduceLT, Int.reduceLE, Int.reduceToNat, Int.reduceEq, Int.reduceAdd, Int.reduceSub, Int.reduceNeg, Int.reduceBNe, Int.reduceBEq, lns]); (focus simp only [go_sem, reduceIte, Nat.reduceEqDiff, reduceCtorEq, Nat.reduceLT, Nat.reduceAdd, Nat.reduceSub, Nat.reduceMul, Nat.reduceLeDiff, Int.reduceLT, Int.reduceLE, Int.reduceToNat, Int.reduceEq, Int.reduceAdd, Int.reduceSub, Int.reduceNeg, Int.reduceBNe, Int.reduceBEq, lns])
    simp only [go_sem, reduceIte, Nat.reduceEqDiff, reduceCtorEq, Nat.reduceLT, Nat.reduceAdd, Nat.reduceSub, Nat.reduceMul, Nat.reduceLeDiff, Int.reduceLT, Int.reduceLE, Int.reduceToNat, Int.reduceEq, Int.reduceAdd, Int.reduceSub, Int.reduceNeg, Int.reduceBNe, Int.reduceBEq, if_true]
  rw [hlr] at hR
  have hg : goesM x = goesR x := by simp [goesM, hlr]
  rw [hg] at hG
  have hI := IdxRef_pure (goesR x) r (by have := goesR_len x; rw [maxLen_eq]; omega)
  have hO := round_pure x.fo x.ba (by have := hx.f; rw [maxLen_eq]; omega) (by have := hx.b; rw [maxLen_eq]; omega)
  generalize idx (fun a => decide (r = a)) (goesR x) = i at *
  refine PL.Pure.of_v Try.func37 (by decide) rfl Try.ntmps37 Try.results37 (by simp) rfl ?_
  simp only [go_sem, reduceIte, Nat.reduceEqDiff, reduceCtorEq, Nat.reduceLT, Nat.reduceAdd, Nat.reduceSub, Nat.reduceMul, Nat.reduceLeDiff, Int.reduceLT, Int.reduceLE, Int.reduceToNat, Int.reduceEq, Int.reduceAdd, Int.reduceSub, Int.reduceNeg, Int.reduceBNe, Int.reduceBEq, lns, ref]
  refine vCall_of (hR) ?_ ?_ ?_; (focus simp only [go_sem, reduceIte, Nat.reduceEqDiff, reduceCtorEq, Nat.reduceLT, Nat.reduceAdd, Nat.reduceSub, Nat.reduceMul, Nat.reduceLeDiff, Int.reduceLT, Int.reduceLE, Int.reduceToNat, Int.reduceEq, Int.reduceAdd, Int.reduceSub, Int.reduceNeg, Int.reduceBNe, Int.reduceBEq, lns]); (focus simp only [go_sem, reduceIte, Nat.reduceEqDiff, reduceCtorEq, Nat.reduceLT, Nat.reduceAdd, Nat.reduceSub, Nat.reduceMul, Nat.reduceLeDiff, Int.reduceLT, Int.reduceLE, Int.reduceToNat, Int.reduceEq, Int.reduceAdd, Int.reduceSub, Int.reduceNeg, Int.reduceBNe, Int.reduceBEq, lns])
  simp only [go_sem, reduceIte, Nat.reduceEqDiff, reduceCtorEq, Nat.reduceLT, Nat.reduceAdd, Nat.reduceSub, Nat.reduceMul, Nat.reduceLeDiff, Int.reduceLT, Int.reduceLE, Int.reduceToNat, Int.reduceEq, Int.reduceAdd, Int.reduceSub, Int.reduceNeg, Int.reduceBNe, Int.reduceBEq, lns]
  repeat' (first | (refine vGuard_t (fun h => ?_) (fun h => ?_) <;> (try simp only [go_sem, reduceIte, Nat.reduceEqDiff, reduceCtorEq, Nat.reduceLT, Nat.reduceAdd, Nat.reduceSub, Nat.reduceMul, Nat.reduceLeDiff, Int.reduceLT, Int.reduceLE, Int.reduceToNat, Int.reduceEq, Int.reduceAdd, Int.reduceSub, Int.reduceNeg, Int.reduceBNe, Int.reduceBEq, h, refs, ref])) | (refine vGuard_f (fun h => ?_) (fun h => ?_) <;> (try simp only [go_sem, reduceIte, Nat.reduceEqDiff, reduceCtorEq, Nat.reduceLT, Nat.reduceAdd, Nat.reduceSub, Nat.reduceMul, Nat.reduceLeDiff, Int.reduceLT, Int.reduceLE, Int.reduceToNat, Int.reduceEq, Int.reduceAdd, Int.reduceSub, Int.reduceNeg, Int.reduceBNe, Int.reduceBEq, h, refs, ref])) | (refine vCond_b (fun h => ?_) (fun h => ?_) <;> (try simp only [go_sem, reduceIte, Nat.reduceEqDiff, reduceCtorEq, Nat.reduceLT, Nat.reduceAdd, Nat.reduceSub, Nat.reduceMul, Nat.reduceLeDiff, Int.reduceLT, Int.reduceLE, Int.reduceToNat, Int.reduceEq, Int.reduceAdd, Int.reduceSub, Int.reduceNeg, Int.reduceBNe, Int.reduceBEq, h, refs, ref])) | ((refine vCall_of (hG) ?_ ?_ ?_); (focus simp only [go_sem, reduceIte, Nat.reduceEqDiff, reduceCtorEq, Nat.reduceLT, Nat.reduceAdd, Nat.reduceSub, Nat.reduceMul, Nat.reduceLeDiff, Int.reduceLT, Int.reduceLE, Int.reduceToNat, Int.reduceEq, Int.reduceAdd, Int.reduceSub, Int.reduceNeg, Int.reduceBNe, Int.reduceBEq, lns, refs, ref, prs]); (focus exact rfl); (try simp only [go_sem, reduceIte, Nat.reduceEqDiff, reduceCtorEq, Nat.reduceLT, Nat.reduceAdd, Nat.reduceSub, Nat.reduceMul, Nat.reduceLeDiff, Int.reduceLT, Int.reduceLE, Int.reduceToNat, Int.reduceEq, Int.reduceAdd, Int.reduceSub, Int.reduceNeg, Int.reduceBNe, Int.reduceBEq, refs, ref])) | ((refine vCall_of (hI) ?_ ?_ ?_); (focus simp only [go_sem, reduceIte, Nat.reduceEqDiff, reduceCtorEq, Nat.reduceLT, Nat.reduceAdd, Nat.reduceSub, Nat.reduceMul, Nat.reduceLeDiff, Int.reduceLT, Int.reduceLE, Int.reduceToNat, Int.reduceEq, Int.reduceAdd, Int.reduceSub, Int.reduceNeg, Int.reduceBNe, Int.reduceBEq, lns, refs, ref, prs]); (focus exact rfl); (try simp only [go_sem, reduceIte, Nat.reduceEqDiff, reduceCtorEq, Nat.reduceLT, Nat.reduceAdd, Nat.reduceSub, Nat.reduceMul, Nat.reduceLeDiff, Int.reduceLT, Int.reduceLE, Int.reduceToNat, Int.reduceEq, Int.reduceAdd, Int.reduceSub, Int.reduceNeg, Int.reduceBNe, Int.reduceBEq, refs, ref])) | ((refine vCall_of (hO) ?_ ?_ ?_); (focus simp only [go_sem, reduceIte, Nat.reduceEqDiff, reduceCtorEq, Nat.reduceLT, Nat.reduceAdd, Nat.reduceSub, Nat.reduceMul, Nat.reduceLeDiff, Int.reduceLT, Int.reduceLE, Int.reduceToNat, Int.reduceEq, Int.reduceAdd, Int.reduceSub, Int.reduceNeg, Int.reduceBNe, Int.reduceBEq, lns, refs, ref, prs]); (focus exact rfl); (try simp only [go_sem, reduceIte, Nat.reduceEqDiff, reduceCtorEq, Nat.reduceLT, Nat.reduceAdd, Nat.reduceSub, Nat.reduceMul, Nat.reduceLeDiff, Int.reduceLT, Int.reduceLE, Int.reduceToNat, Int.reduceEq, Int.reduceAdd, Int.reduceSub, Int.reduceNeg, Int.reduceBNe, Int.reduceBEq, refs, ref])) | ((refine vDrawQ (by kernel_rfl) (by kernel_rfl) ?_); (try simp only [go_sem, reduceIte, Nat.reduceEqDiff, reduceCtorEq, Nat.reduceLT, Nat.reduceAdd, Nat.reduceSub, Nat.reduceMul, Nat.reduceLeDiff, Int.reduceLT, Int.reduceLE, Int.reduceToNat, Int.reduceEq, Int.reduceAdd, Int.reduceSub, Int.reduceNeg, Int.reduceBNe, Int.reduceBEq, refs, ref])))
  all_goals (clear hR hG hI hO hx; simp_all <;> (intro; omega))
def traceM (x : Ln) (r : Rf) : Rf × Bool :=
  if rightLn x = false then (default, false) else if ((goesR x).any fun a => decide (r = a)) = false then (r, true)
  else if (comesR x).length = 0 then (default, false) else ((comesR x).getD 0 default, true)
def refb (x : Rf × Bool) : PV := .tup [ref x.1, .bool x.2]
theorem refb_dids (x : Rf × Bool) : (refb x).dids = [] := by simp only [refb, PV.dids, PV.didsL, ref_dids, List.append_nil]
theorem ref_default : ref default = .agg [.int .i64 0, .str [], .str []] := rfl
set_option maxRecDepth 20000 in
set_option maxHeartbeats 8000000 in
theorem Trace_pure (x : Ln) (r : Rf) (hx : OkLn x) : PL.Pure Try.prog 80 [lns x, ref r] (refb (traceM x r)) := by
  have hR := LRight_pure x hx
  have hG := Goes_pure x hx
  have hC := Comes_pure x hx
  unfold traceM
  cases hlr : rightLn x
  · rw [hlr] at hR
    refine PL.Pure.of_v Try.func80 (by decide) rfl Try.ntmps80 Try.results80 (by simp) (refb_dids _) ?_
    simp only [go_sem, reduceIte, Nat.reduceEqDiff, reduceCtorEq, Nat.reduceLT, Nat.reduceAdd, Nat.reduceSub, Nat.reduceMul, Nat.reduceLeDiff, Int.reduceLT, Int.reduceLE, Int.reduceToNat, Int.reduceEq, Int.reduceAdd, Int.reduceSub, Int.reduceNeg, Int.reduceBNe, Int.reduceBEq, lns, ref]
    refine vCall_of (hR) ?_ ?_ ?_; (focus simp only [go_sem, reduceIte, Nat.reduceEqDiff, reduceCtorEq, Nat.reduceLT, Nat.reduceAdd, Nat.reduceSub, Nat.reduceMul, Nat.reduceLeDiff, Int.reduceLT, Int.reduceLE, Int.reduceToNat, Int.reduceEq, Int.reduceAdd, Int.reduceSub, Int.reduceNeg, Int.reduceBNe, Int.reduceBEq, lns]); (focus simp only [go_sem, reduceIte, Nat.reduceEqDiff, reduceCtorEq, Nat.reduceLT, Nat.reduceAdd, Nat.reduceSub, Nat.reduceMul, Nat.reduceLeDiff, Int.reduceLT, Int.reduceLE, Int.reduceToNat, Int.reduceEq, Int.reduceAdd, Int.reduceSub, Int.reduceNeg, Int.reduceBNe, Int.reduceBEq, lns])
    simp only [go_sem, reduceIte, Nat.reduceEqDiff, reduceCtorEq, Nat.reduceLT, Nat.reduceAdd, Nat.reduceSub, Nat.reduceMul, Nat.reduceLeDiff, Int.reduceLT, Int.reduceLE, Int.reduceToNat, Int.reduceEq, Int.reduceAdd, Int.reduceSub, Int.reduceNeg, Int.reduceBNe, Int.reduceBEq, if_true, refb, ref_default]
  rw [hlr] at hR
  have hg : goesM x = goesR x := by simp [goesM, hlr]
  have hc : comesM x = comesR x := by simp [comesM, hlr]
  rw [hg] at hG
  rw [hc] at hC
  have hI := ConRef_pure (goesR x) r (by have := goesR_len x; rw [maxLen_eq]; omega)
  generalize (goesR x).any (fun a => decide (r = a)) = b at *
  generalize goesR x = goes at *
  generalize comesR x = comes at *
  cases b
  · refine PL.Pure.of_v Try.func80 (by decide) rfl Try.ntmps80 Try.results80 (by simp) (refb_dids _) ?_
    simp only [go_sem, reduceIte, Nat.reduceEqDiff, reduceCtorEq, Nat.reduceLT, Nat.reduceAdd, Nat.reduceSub, Nat.reduceMul, Nat.reduceLeDiff, Int.reduceLT, Int.reduceLE, Int.reduceToNat, Int.reduceEq, Int.reduceAdd, Int.reduceSub, Int.reduceNeg, Int.reduceBNe, Int.reduceBEq, lns, ref]
    refine vCall_of (hR) ?_ ?_ ?_; (focus simp only [go_sem, reduceIte, Nat.reduceEqDiff, reduceCtorEq, Nat.reduceLT, Nat.reduceAdd, Nat.reduceSub, Nat.reduceMul, Nat.reduceLeDiff, Int.reduceLT, Int.reduceLE, Int.reduceToNat, Int.reduceEq, Int.reduceAdd, Int.reduceSub, Int.reduceNeg, Int.reduceBNe, Int.reduceBEq, lns]); (focus simp only [go_sem, reduceIte, Nat.reduceEqDiff, reduceCtorEq, Nat.reduceLT, Nat.reduceAdd, Nat.reduceSub, Nat.reduceMul, Nat.reduceLeDiff, Int.reduceLT, Int.reduceLE, Int.reduceToNat, Int.reduceEq, Int.reduceAdd, Int.reduceSub, Int.reduceNeg, Int.reduceBNe, Int.reduceBEq, lns])
    simp only [go_sem, reduceIte, Nat.reduceEqDiff, reduceCtorEq, Nat.reduceLT, Nat.reduceAdd, Nat.reduceSub, Nat.reduceMul, Nat.reduceLeDiff, Int.reduceLT, Int.reduceLE, Int.reduceToNat, Int.reduceEq, Int.reduceAdd, Int.reduceSub, Int.reduceNeg, Int.reduceBNe, Int.reduceBEq, lns]
    refine vDrawQ (by kernel_rfl) (by kernel_rfl) ?_
    simp only [go_sem, reduceIte, Nat.reduceEqDiff, reduceCtorEq, Nat.reduceLT, Nat.reduceAdd, Nat.reduceSub, Nat.reduceMul, Nat.reduceLeDiff, Int.reduceLT, Int.reduceLE, Int.reduceToNat, Int.reduceEq, Int.reduceAdd, Int.reduceSub, Int.reduceNeg, Int.reduceBNe, Int.reduceBEq, lns]
    refine vCall_of (hG) ?_ ?_ ?_; (focus simp only [go_sem, reduceIte, Nat.reduceEqDiff, reduceCtorEq, Nat.reduceLT, Nat.reduceAdd, Nat.reduceSub, Nat.reduceMul, Nat.reduceLeDiff, Int.reduceLT, Int.reduceLE, Int.reduceToNat, Int.reduceEq, Int.reduceAdd, Int.reduceSub, Int.reduceNeg, Int.reduceBNe, Int.reduceBEq, lns]); (focus simp only [go_sem, reduceIte, Nat.reduceEqDiff, reduceCtorEq, Nat.reduceLT, Nat.reduceAdd, Nat.reduceSub, Nat.reduceMul, Nat.reduceLeDiff, Int.reduceLT, Int.reduceLE, Int.reduceToNat, Int.reduceEq, Int.reduceAdd, Int.reduceSub, Int.reduceNeg, Int.reduceBNe, Int.reduceBEq, lns])
    simp only [go_sem, reduceIte, Nat.reduceEqDiff, reduceCtorEq, Nat.reduceLT, Nat.reduceAdd, Nat.reduceSub, Nat.reduceMul, Nat.reduceLeDiff, Int.reduceLT, Int.reduceLE, Int.reduceToNat, Int.reduceEq, Int.reduceAdd, Int.reduceSub, Int.reduceNeg, Int.reduceBNe, Int.reduceBEq, refs]
    refine vCall_of (hI) ?_ ?_ ?_; (focus simp only [go_sem, reduceIte, Nat.reduceEqDiff, reduceCtorEq, Nat.reduceLT, Nat.reduceAdd, Nat.reduceSub, Nat.reduceMul, Nat.reduceLeDiff, Int.reduceLT, Int.reduceLE, Int.reduceToNat, Int.reduceEq, Int.reduceAdd, Int.reduceSub, Int.reduceNeg, Int.reduceBNe, Int.reduceBEq, refs, ref]); (focus simp only [go_sem, reduceIte, Nat.reduceEqDiff, reduceCtorEq, Nat.reduceLT, Nat.reduceAdd, Nat.reduceSub, Nat.reduceMul, Nat.reduceLeDiff, Int.reduceLT, Int.reduceLE, Int.reduceToNat, Int.reduceEq, Int.reduceAdd, Int.reduceSub, Int.reduceNeg, Int.reduceBNe, Int.reduceBEq, refs, ref])
    simp only [go_sem, reduceIte, Nat.reduceEqDiff, reduceCtorEq, Nat.reduceLT, Nat.reduceAdd, Nat.reduceSub, Nat.reduceMul, Nat.reduceLeDiff, Int.reduceLT, Int.reduceLE, Int.reduceToNat, Int.reduceEq, Int.reduceAdd, Int.reduceSub, Int.reduceNeg, Int.reduceBNe, Int.reduceBEq, refb, ref, Bool.true_eq_false, if_false, if_true]
  · cases comes with
    | nil =>
      refine PL.Pure.of_v Try.func80 (by decide) rfl Try.ntmps80 Try.results80 (by simp) (refb_dids _) ?_
      simp only [go_sem, reduceIte, Nat.reduceEqDiff, reduceCtorEq, Nat.reduceLT, Nat.reduceAdd, Nat.reduceSub, Nat.reduceMul, Nat.reduceLeDiff, Int.reduceLT, Int.reduceLE, Int.reduceToNat, Int.reduceEq, Int.reduceAdd, Int.reduceSub, Int.reduceNeg, Int.reduceBNe, Int.reduceBEq, lns, ref]
      refine vCall_of (hR) ?_ ?_ ?_; (focus simp only [go_sem, reduceIte, Nat.reduceEqDiff, reduceCtorEq, Nat.reduceLT, Nat.reduceAdd, Nat.reduceSub, Nat.reduceMul, Nat.reduceLeDiff, Int.reduceLT, Int.reduceLE, Int.reduceToNat, Int.reduceEq, Int.reduceAdd, Int.reduceSub, Int.reduceNeg, Int.reduceBNe, Int.reduceBEq, lns]); (focus simp only [go_sem, reduceIte, Nat.reduceEqDiff, reduceCtorEq, Nat.reduceLT, Nat.reduceAdd, Nat.reduceSub, Nat.reduceMul, Nat.reduceLeDiff, Int.reduceLT, Int.reduceLE, Int.reduceToNat, Int.reduceEq, Int.reduceAdd, Int.reduceSub, Int.reduceNeg, Int.reduceBNe, Int.reduceBEq, lns])
      simp only [go_sem, reduceIte, Nat.reduceEqDiff, reduceCtorEq, Nat.reduceLT, Nat.reduceAdd, Nat.reduceSub, Nat.reduceMul, Nat.reduceLeDiff, Int.reduceLT, Int.reduceLE, Int.reduceToNat, Int.reduceEq, Int.reduceAdd, Int.reduceSub, Int.reduceNeg, Int.reduceBNe, Int.reduceBEq, lns]
      refine vDrawQ (by kernel_rfl) (by kernel_rfl) ?_
      simp only [go_sem, reduceIte, Nat.reduceEqDiff, reduceCtorEq, Nat.reduceLT, Nat.reduceAdd, Nat.reduceSub, Nat.reduceMul, Nat.reduceLeDiff, Int.reduceLT, Int.reduceLE, Int.reduceToNat, Int.reduceEq, Int.reduceAdd, Int.reduceSub, Int.reduceNeg, Int.reduceBNe, Int.reduceBEq, lns]
      refine vCall_of (hG) ?_ ?_ ?_; (focus simp only [go_sem, reduceIte, Nat.reduceEqDiff, reduceCtorEq, Nat.reduceLT, Nat.reduceAdd, Nat.reduceSub, Nat.reduceMul, Nat.reduceLeDiff, Int.reduceLT, Int.reduceLE, Int.reduceToNat, Int.reduceEq, Int.reduceAdd, Int.reduceSub, Int.reduceNeg, Int.reduceBNe, Int.reduceBEq, lns]); (focus simp only [go_sem, reduceIte, Nat.reduceEqDiff, reduceCtorEq, Nat.reduceLT, Nat.reduceAdd, Nat.reduceSub, Nat.reduceMul, Nat.reduceLeDiff, Int.reduceLT, Int.reduceLE, Int.reduceToNat, Int.reduceEq, Int.reduceAdd, Int.reduceSub, Int.reduceNeg, Int.reduceBNe, Int.reduceBEq, lns])
      simp only [go_sem, reduceIte, Nat.reduceEqDiff, reduceCtorEq, Nat.reduceLT, Nat.reduceAdd, Nat.reduceSub, Nat.reduceMul, Nat.reduceLeDiff, Int.reduceLT, Int.reduceLE, Int.reduceToNat, Int.reduceEq, Int.reduceAdd, Int.reduceSub, Int.reduceNeg, Int.reduceBNe, Int.reduceBEq, refs]
      refine vCall_of (hI) ?_ ?_ ?_; (focus simp only [go_sem, reduceIte, Nat.reduceEqDiff, reduceCtorEq, Nat.reduceLT, Nat.reduceAdd, Nat.reduceSub, Nat.reduceMul, Nat.reduceLeDiff, Int.reduceLT, Int.reduceLE, Int.reduceToNat, Int.reduceEq, Int.reduceAdd, Int.reduceSub, Int.reduceNeg, Int.reduceBNe, Int.reduceBEq, refs, ref]); (focus simp only [go_sem, reduceIte, Nat.reduceEqDiff, reduceCtorEq, Nat.reduceLT, Nat.reduceAdd, Nat.reduceSub, Nat.reduceMul, Nat.reduceLeDiff, Int.reduceLT, Int.reduceLE, Int.reduceToNat, Int.reduceEq, Int.reduceAdd, Int.reduceSub, Int.reduceNeg, Int.reduceBNe, Int.reduceBEq, refs, ref])
      simp only [go_sem, reduceIte, Nat.reduceEqDiff, reduceCtorEq, Nat.reduceLT, Nat.reduceAdd, Nat.reduceSub, Nat.reduceMul, Nat.reduceLeDiff, Int.reduceLT, Int.reduceLE, Int.reduceToNat, Int.reduceEq, Int.reduceAdd, Int.reduceSub, Int.reduceNeg, Int.reduceBNe, Int.reduceBEq, lns]
      refine vCall_of (hC) ?_ ?_ ?_; (focus simp only [go_sem, reduceIte, Nat.reduceEqDiff, reduceCtorEq, Nat.reduceLT, Nat.reduceAdd, Nat.reduceSub, Nat.reduceMul, Nat.reduceLeDiff, Int.reduceLT, Int.reduceLE, Int.reduceToNat, Int.reduceEq, Int.reduceAdd, Int.reduceSub, Int.reduceNeg, Int.reduceBNe, Int.reduceBEq, lns]); (focus simp only [go_sem, reduceIte, Nat.reduceEqDiff, reduceCtorEq, Nat.reduceLT, Nat.reduceAdd, Nat.reduceSub, Nat.reduceMul, Nat.reduceLeDiff, Int.reduceLT, Int.reduceLE, Int.reduceToNat, Int.reduceEq, Int.reduceAdd, Int.reduceSub, Int.reduceNeg, Int.reduceBNe, Int.reduceBEq, lns])
      simp only [go_sem, reduceIte, Nat.reduceEqDiff, reduceCtorEq, Nat.reduceLT, Nat.reduceAdd, Nat.reduceSub, Nat.reduceMul, Nat.reduceLeDiff, Int.reduceLT, Int.reduceLE, Int.reduceToNat, Int.reduceEq, Int.reduceAdd, Int.reduceSub, Int.reduceNeg, Int.reduceBNe, Int.reduceBEq, refs, refb, ref_default, Bool.true_eq_false, if_false, if_true]
    | cons c cs =>
      have e0 : ((((cs.length + 1 : Nat) : Int)) == 0) = false := beq_eq_false_iff_ne.2 (by omega)
      have e1 : (0 : Int) < ((cs.length + 1 : Nat) : Int) := by omega
      have e2 : ¬ (cs.length + 1 = 0) := by omega
      refine PL.Pure.of_v Try.func80 (by decide) rfl Try.ntmps80 Try.results80 (by simp) (refb_dids _) ?_
      simp only [go_sem, reduceIte, Nat.reduceEqDiff, reduceCtorEq, Nat.reduceLT, Nat.reduceAdd, Nat.reduceSub, Nat.reduceMul, Nat.reduceLeDiff, Int.reduceLT, Int.reduceLE, Int.reduceToNat, Int.reduceEq, Int.reduceAdd, Int.reduceSub, Int.reduceNeg, Int.reduceBNe, Int.reduceBEq, lns, ref]
      refine vCall_of (hR) ?_ ?_ ?_; (focus simp only [go_sem, reduceIte, Nat.reduceEqDiff, reduceCtorEq, Nat.reduceLT, Nat.reduceAdd, Nat.reduceSub, Nat.reduceMul, Nat.reduceLeDiff, Int.reduceLT, Int.reduceLE, Int.reduceToNat, Int.reduceEq, Int.reduceAdd, Int.reduceSub, Int.reduceNeg, Int.reduceBNe, Int.reduceBEq, lns]); (focus simp only [go_sem, reduceIte, Nat.reduceEqDiff, reduceCtorEq, Nat.reduceLT, Nat.reduceAdd, Nat.reduceSub, Nat.reduceMul, Nat.reduceLeDiff, Int.reduceLT, Int.reduceLE, Int.reduceToNat, Int.reduceEq, Int.reduceAdd, Int.reduceSub, Int.reduceNeg, Int.reduceBNe, Int.reduceBEq, lns])
      simp only [go_sem, reduceIte, Nat.reduceEqDiff, reduceCtorEq, Nat.reduceLT, Nat.reduceAdd, Nat.reduceSub, Nat.reduceMul, Nat.reduceLeDiff, Int.reduceLT, Int.reduceLE, Int.reduceToNat, Int.reduceEq, Int.reduceAdd, Int.reduceSub, Int.reduceNeg, Int.reduceBNe, Int.reduceBEq, lns]
      refine vDrawQ (by kernel_rfl) (by kernel_rfl) ?_
      simp only [go_sem, reduceIte, Nat.reduceEqDiff, reduceCtorEq, Nat.reduceLT, Nat.reduceAdd, Nat.reduceSub, Nat.reduceMul, Nat.reduceLeDiff, Int.reduceLT, Int.reduceLE, Int.reduceToNat, Int.reduceEq, Int.reduceAdd, Int.reduceSub, Int.reduceNeg, Int.reduceBNe, Int.reduceBEq, lns]
      refine vCall_of (hG) ?_ ?_ ?_; (focus simp only [go_sem, reduceIte, Nat.reduceEqDiff, reduceCtorEq, Nat.reduceLT, Nat.reduceAdd, Nat.reduceSub, Nat.reduceMul, Nat.reduceLeDiff, Int.reduceLT, Int.reduceLE, Int.reduceToNat, Int.reduceEq, Int.reduceAdd, Int.reduceSub, Int.reduceNeg, Int.reduceBNe, Int.reduceBEq, lns]); (focus simp only [go_sem, reduceIte, Nat.reduceEqDiff, reduceCtorEq, Nat.reduceLT, Nat.reduceAdd, Nat.reduceSub, Nat.reduceMul, Nat.reduceLeDiff, Int.reduceLT, Int.reduceLE, Int.reduceToNat, Int.reduceEq, Int.reduceAdd, Int.reduceSub, Int.reduceNeg, Int.reduceBNe, Int.reduceBEq, lns])
      simp only [go_sem, reduceIte, Nat.reduceEqDiff, reduceCtorEq, Nat.reduceLT, Nat.reduceAdd, Nat.reduceSub, Nat.reduceMul, Nat.reduceLeDiff, Int.reduceLT, Int.reduceLE, Int.reduceToNat, Int.reduceEq, Int.reduceAdd, Int.reduceSub, Int.reduceNeg, Int.reduceBNe, Int.reduceBEq, refs]
      refine vCall_of (hI) ?_ ?_ ?_; (focus simp only [go_sem, reduceIte, Nat.reduceEqDiff, reduceCtorEq, Nat.reduceLT, Nat.reduceAdd, Nat.reduceSub, Nat.reduceMul, Nat.reduceLeDiff, Int.reduceLT, Int.reduceLE, Int.reduceToNat, Int.reduceEq, Int.reduceAdd, Int.reduceSub, Int.reduceNeg, Int.reduceBNe, Int.reduceBEq, refs, ref]); (focus simp only [go_sem, reduceIte, Nat.reduceEqDiff, reduceCtorEq, Nat.reduceLT, Nat.reduceAdd, Nat.reduceSub, Nat.reduceMul, Nat.reduceLeDiff, Int.reduceLT, Int.reduceLE, Int.reduceToNat, Int.reduceEq, Int.reduceAdd, Int.reduceSub, Int.reduceNeg, Int.reduceBNe, Int.reduceBEq, refs, ref])
      simp only [go_sem, reduceIte, Nat.reduceEqDiff, reduceCtorEq, Nat.reduceLT, Nat.reduceAdd, Nat.reduceSub, Nat.reduceMul, Nat.reduceLeDiff, Int.reduceLT, Int.reduceLE, Int.reduceToNat, Int.reduceEq, Int.reduceAdd, Int.reduceSub, Int.reduceNeg, Int.reduceBNe, Int.reduceBEq, lns]
      refine vCall_of (hC) ?_ ?_ ?_; (focus simp only [go_sem, reduceIte, Nat.reduceEqDiff, reduceCtorEq, Nat.reduceLT, Nat.reduceAdd, Nat.reduceSub, Nat.reduceMul, Nat.reduceLeDiff, Int.reduceLT, Int.reduceLE, Int.reduceToNat, Int.reduceEq, Int.reduceAdd, Int.reduceSub, Int.reduceNeg, Int.reduceBNe, Int.reduceBEq, lns]); (focus simp only [go_sem, reduceIte, Nat.reduceEqDiff, reduceCtorEq, Nat.reduceLT, Nat.reduceAdd, Nat.reduceSub, Nat.reduceMul, Nat.reduceLeDiff, Int.reduceLT, Int.reduceLE, Int.reduceToNat, Int.reduceEq, Int.reduceAdd, Int.reduceSub, Int.reduceNeg, Int.reduceBNe, Int.reduceBEq, lns])
      simp only [go_sem, reduceIte, Nat.reduceEqDiff, reduceCtorEq, Nat.reduceLT, Nat.reduceAdd, Nat.reduceSub, Nat.reduceMul, Nat.reduceLeDiff, Int.reduceLT, Int.reduceLE, Int.reduceToNat, Int.reduceEq, Int.reduceAdd, Int.reduceSub, Int.reduceNeg, Int.reduceBNe, Int.reduceBEq, refs, e0, e1, e2, refb, ref, Bool.true_eq_false, if_false, if_true]
def sureM (x : Ln) (r : Rf) : Bool :=
  if rightLn x = false then false else if ((comesR x).any fun a => decide (r = a)) = false then true
  else if x.kind = 1 ∨ x.kind = 4 ∨ x.kind = 5 ∨ x.kind = 9 ∨ x.kind = 10 then true else if x.kind = 8 then roundM x.ba x.fo else false
set_option maxRecDepth 20000 in
set_option maxHeartbeats 8000000 in
theorem Sure_pure (x : Ln) (r : Rf) (hx : OkLn x) : PL.Pure Try.prog 81 [lns x, ref r] (.bool (sureM x r)) := by
  have hR := LRight_pure x hx
  have hC := Comes_pure x hx
  unfold sureM
  cases hlr : rightLn x
  · rw [hlr] at hR
    refine PL.Pure.of_v Try.func81 (by decide) rfl Try.ntmps81 Try.results81 (by simp) rfl ?_
    simp only [go_sem, reduceIte, Nat.reduceEqDiff, reduceCtorEq, Nat.reduceLT, Nat.reduceAdd, Nat.reduceSub, Nat.reduceMul, Nat.reduceLeDiff, Int.reduceLT, Int.reduceLE, Int.reduceToNat, Int.reduceEq, Int.reduceAdd, Int.reduceSub, Int.reduceNeg, Int.reduceBNe, Int.reduceBEq, lns, ref]
    refine vCall_of (hR) ?_ ?_ ?_; (focus simp only [go_sem, reduceIte, Nat.reduceEqDiff, reduceCtorEq, Nat.reduceLT, Nat.reduceAdd, Nat.reduceSub, Nat.reduceMul, Nat.reduceLeDiff, Int.reduceLT, Int.reduceLE, Int.reduceToNat, Int.reduceEq, Int.reduceAdd, Int.reduceSub, Int.reduceNeg, Int.reduceBNe, Int.reduceBEq, lns]); (focus simp only [go_sem, reduceIte, Nat.reduceEqDiff, reduceCtorEq, Nat.reduceLT, Nat.reduceAdd, Nat.reduceSub, Nat.reduceMul, Nat.reduceLeDiff, Int.reduceLT, Int.reduceLE, Int.reduceToNat, Int.reduceEq, Int.reduceAdd, Int.reduceSub, Int.reduceNeg, Int.reduceBNe, Int.reduceBEq, lns])
    simp only [go_sem, reduceIte, Nat.reduceEqDiff, reduceCtorEq, Nat.reduceLT, Nat.reduceAdd, Nat.reduceSub, Nat.reduceMul, Nat.reduceLeDiff, Int.reduceLT, Int.reduceLE, Int.reduceToNat, Int.reduceEq, Int.reduceAdd, Int.reduceSub, Int.reduceNeg, Int.reduceBNe, Int.reduceBEq, if_true]
  rw [hlr] at hR
  have hc : comesM x = comesR x := by simp [comesM, hlr]
  rw [hc] at hC
  have hI := ConRef_pure (comesR x) r (by have := comesR_len x; rw [maxLen_eq]; omega)
  have hO := round_pure x.ba x.fo (by have := hx.b; rw [maxLen_eq]; omega) (by have := hx.f; rw [maxLen_eq]; omega)
  generalize (comesR x).any (fun a => decide (r = a)) = b at *
  refine PL.Pure.of_v Try.func81 (by decide) rfl Try.ntmps81 Try.results81 (by simp) rfl ?_
  simp only [go_sem, reduceIte, Nat.reduceEqDiff, reduceCtorEq, Nat.reduceLT, Nat.reduceAdd, Nat.reduceSub, Nat.reduceMul, Nat.reduceLeDiff, Int.reduceLT, Int.reduceLE, Int.reduceToNat, Int.reduceEq, Int.reduceAdd, Int.reduceSub, Int.reduceNeg, Int.reduceBNe, Int.reduceBEq, lns, ref]
  refine vCall_of (hR) ?_ ?_ ?_; (focus simp only [go_sem, reduceIte, Nat.reduceEqDiff, reduceCtorEq, Nat.reduceLT, Nat.reduceAdd, Nat.reduceSub, Nat.reduceMul, Nat.reduceLeDiff, Int.reduceLT, Int.reduceLE, Int.reduceToNat, Int.reduceEq, Int.reduceAdd, Int.reduceSub, Int.reduceNeg, Int.reduceBNe, Int.reduceBEq, lns]); (focus simp only [go_sem, reduceIte, Nat.reduceEqDiff, reduceCtorEq, Nat.reduceLT, Nat.reduceAdd, Nat.reduceSub, Nat.reduceMul, Nat.reduceLeDiff, Int.reduceLT, Int.reduceLE, Int.reduceToNat, Int.reduceEq, Int.reduceAdd, Int.reduceSub, Int.reduceNeg, Int.reduceBNe, Int.reduceBEq, lns])
  simp only [go_sem, reduceIte, Nat.reduceEqDiff, reduceCtorEq, Nat.reduceLT, Nat.reduceAdd, Nat.reduceSub, Nat.reduceMul, Nat.reduceLeDiff, Int.reduceLT, Int.reduceLE, Int.reduceToNat, Int.reduceEq, Int.reduceAdd, Int.reduceSub, Int.reduceNeg, Int.reduceBNe, Int.reduceBEq, lns]
  repeat' (first | (refine vGuard_t (fun h => ?_) (fun h => ?_) <;> (try simp only [go_sem, reduceIte, Nat.reduceEqDiff, reduceCtorEq, Nat.reduceLT, Nat.reduceAdd, Nat.reduceSub, Nat.reduceMul, Nat.reduceLeDiff, Int.reduceLT, Int.reduceLE, Int.reduceToNat, Int.reduceEq, Int.reduceAdd, Int.reduceSub, Int.reduceNeg, Int.reduceBNe, Int.reduceBEq, h, refs, ref])) | (refine vGuard_f (fun h => ?_) (fun h => ?_) <;> (try simp only [go_sem, reduceIte, Nat.reduceEqDiff, reduceCtorEq, Nat.reduceLT, Nat.reduceAdd, Nat.reduceSub, Nat.reduceMul, Nat.reduceLeDiff, Int.reduceLT, Int.reduceLE, Int.reduceToNat, Int.reduceEq, Int.reduceAdd, Int.reduceSub, Int.reduceNeg, Int.reduceBNe, Int.reduceBEq, h, refs, ref])) | (refine vCond_b (fun h => ?_) (fun h => ?_) <;> (try simp only [go_sem, reduceIte, Nat.reduceEqDiff, reduceCtorEq, Nat.reduceLT, Nat.reduceAdd, Nat.reduceSub, Nat.reduceMul, Nat.reduceLeDiff, Int.reduceLT, Int.reduceLE, Int.reduceToNat, Int.reduceEq, Int.reduceAdd, Int.reduceSub, Int.reduceNeg, Int.reduceBNe, Int.reduceBEq, h, refs, ref])) | ((refine vCall_of (hC) ?_ ?_ ?_); (focus simp only [go_sem, reduceIte, Nat.reduceEqDiff, reduceCtorEq, Nat.reduceLT, Nat.reduceAdd, Nat.reduceSub, Nat.reduceMul, Nat.reduceLeDiff, Int.reduceLT, Int.reduceLE, Int.reduceToNat, Int.reduceEq, Int.reduceAdd, Int.reduceSub, Int.reduceNeg, Int.reduceBNe, Int.reduceBEq, lns, refs, ref, prs]); (focus exact rfl); (try simp only [go_sem, reduceIte, Nat.reduceEqDiff, reduceCtorEq, Nat.reduceLT, Nat.reduceAdd, Nat.reduceSub, Nat.reduceMul, Nat.reduceLeDiff, Int.reduceLT, Int.reduceLE, Int.reduceToNat, Int.reduceEq, Int.reduceAdd, Int.reduceSub, Int.reduceNeg, Int.reduceBNe, Int.reduceBEq, refs, ref])) | ((refine vCall_of (hI) ?_ ?_ ?_); (focus simp only [go_sem, reduceIte, Nat.reduceEqDiff, reduceCtorEq, Nat.reduceLT, Nat.reduceAdd, Nat.reduceSub, Nat.reduceMul, Nat.reduceLeDiff, Int.reduceLT, Int.reduceLE, Int.reduceToNat, Int.reduceEq, Int.reduceAdd, Int.reduceSub, Int.reduceNeg, Int.reduceBNe, Int.reduceBEq, lns, refs, ref, prs]); (focus exact rfl); (try simp only [go_sem, reduceIte, Nat.reduceEqDiff, reduceCtorEq, Nat.reduceLT, Nat.reduceAdd, Nat.reduceSub, Nat.reduceMul, Nat.reduceLeDiff, Int.reduceLT, Int.reduceLE, Int.reduceToNat, Int.reduceEq, Int.reduceAdd, Int.reduceSub, Int.reduceNeg, Int.reduceBNe, Int.reduceBEq, refs, ref])) | ((refine vCall_of (hO) ?_ ?_ ?_); (focus simp only [go_sem, reduceIte, Nat.reduceEqDiff, reduceCtorEq, Nat.reduceLT, Nat.reduceAdd, Nat.reduceSub, Nat.reduceMul, Nat.reduceLeDiff, Int.reduceLT, Int.reduceLE, Int.reduceToNat, Int.reduceEq, Int.reduceAdd, Int.reduceSub, Int.reduceNeg, Int.reduceBNe, Int.reduceBEq, lns, refs, ref, prs]); (focus exact rfl); (try simp only [go_sem, reduceIte, Nat.reduceEqDiff, reduceCtorEq, Nat.reduceLT, Nat.reduceAdd, Nat.reduceSub, Nat.reduceMul, Nat.reduceLeDiff, Int.reduceLT, Int.reduceLE, Int.reduceToNat, Int.reduceEq, Int.reduceAdd, Int.reduceSub, Int.reduceNeg, Int.reduceBNe, Int.reduceBEq, refs, ref])) | ((refine vDrawQ (by kernel_rfl) (by kernel_rfl) ?_); (try simp only [go_sem, reduceIte, Nat.reduceEqDiff, reduceCtorEq, Nat.reduceLT, Nat.reduceAdd, Nat.reduceSub, Nat.reduceMul, Nat.reduceLeDiff, Int.reduceLT, Int.reduceLE, Int.reduceToNat, Int.reduceEq, Int.reduceAdd, Int.reduceSub, Int.reduceNeg, Int.reduceBNe, Int.reduceBEq, refs, ref])))
  all_goals (clear hR hC hI hO hx; simp_all)
def invR (x : Ln) : Ln :=
  if x.kind = 1 then ⟨1, ⟨x.at'.sc, x.at'.gr, x.nm⟩, x.at'.nm, x.ot, x.fac, x.fd, x.fo, x.ba⟩
  else if x.kind = 2 then ⟨3, x.at', x.nm, x.ot, x.fac, x.fd, x.fo, x.ba⟩
  else if x.kind = 3 then ⟨2, x.at', x.nm, x.ot, x.fac, x.fd, x.fo, x.ba⟩
  else if x.kind = 4 then ⟨5, ⟨x.at'.sc, [], x.at'.nm⟩, x.at'.gr, x.ot, x.fac, x.fd, x.fo, x.ba⟩
  else if x.kind = 5 then ⟨4, ⟨x.at'.sc, x.nm, x.at'.nm⟩, [], x.ot, x.fac, x.fd, x.fo, x.ba⟩
  else if x.kind = 6 then ⟨9, x.at', x.nm, x.ot, x.fac, x.fd, x.fo, x.ba⟩
  else if x.kind = 9 then ⟨6, x.at', x.nm, x.ot, x.fac, x.fd, x.fo, x.ba⟩
  else if x.kind = 7 then ⟨10, x.at', x.nm, x.ot, x.fac, x.fd, x.fo, x.ba⟩
  else if x.kind = 10 then ⟨7, x.at', x.nm, x.ot, x.fac, x.fd, x.fo, x.ba⟩
  else if x.kind = 8 then ⟨8, x.at', x.ot, x.nm, x.fac, x.fd, x.ba, x.fo⟩ else x
def lnc (x : Ln × Int) : PV := .tup [lns x.1, .int .i64 x.2]
theorem lnc_dids (x : Ln × Int) : (lnc x).dids = [] := by simp only [lnc, PV.dids, PV.didsL, lns_dids, List.append_nil]
def invM (x : Ln) : Ln × Int := if rightLn x = false then (default, 5) else (invR x, 0)
set_option maxRecDepth 20000 in
set_option maxHeartbeats 8000000 in
theorem Inverse_pure (x : Ln) (hx : OkLn x) : PL.Pure Try.prog 36 [lns x] (lnc (invM x)) := by
  have hR := LRight_pure x hx
  have hO := LOwn_pure x hx
  unfold invM
  cases hlr : rightLn x
  · rw [hlr] at hR
    refine PL.Pure.of_v Try.func36 (by decide) rfl Try.ntmps36 Try.results36 (by simp) (lnc_dids _) ?_
    simp only [go_sem, reduceIte, Nat.reduceEqDiff, reduceCtorEq, Nat.reduceLT, Nat.reduceAdd, Nat.reduceSub, Nat.reduceMul, Nat.reduceLeDiff, Int.reduceLT, Int.reduceLE, Int.reduceToNat, Int.reduceEq, Int.reduceAdd, Int.reduceSub, Int.reduceNeg, Int.reduceBNe, Int.reduceBEq, lns]
    refine vCall_of (hR) ?_ ?_ ?_; (focus simp only [go_sem, reduceIte, Nat.reduceEqDiff, reduceCtorEq, Nat.reduceLT, Nat.reduceAdd, Nat.reduceSub, Nat.reduceMul, Nat.reduceLeDiff, Int.reduceLT, Int.reduceLE, Int.reduceToNat, Int.reduceEq, Int.reduceAdd, Int.reduceSub, Int.reduceNeg, Int.reduceBNe, Int.reduceBEq, lns]); (focus simp only [go_sem, reduceIte, Nat.reduceEqDiff, reduceCtorEq, Nat.reduceLT, Nat.reduceAdd, Nat.reduceSub, Nat.reduceMul, Nat.reduceLeDiff, Int.reduceLT, Int.reduceLE, Int.reduceToNat, Int.reduceEq, Int.reduceAdd, Int.reduceSub, Int.reduceNeg, Int.reduceBNe, Int.reduceBEq, lns])
    simp only [go_sem, reduceIte, Nat.reduceEqDiff, reduceCtorEq, Nat.reduceLT, Nat.reduceAdd, Nat.reduceSub, Nat.reduceMul, Nat.reduceLeDiff, Int.reduceLT, Int.reduceLE, Int.reduceToNat, Int.reduceEq, Int.reduceAdd, Int.reduceSub, Int.reduceNeg, Int.reduceBNe, Int.reduceBEq, if_true, lnc, lns_default]
  rw [hlr] at hR
  refine PL.Pure.of_v Try.func36 (by decide) rfl Try.ntmps36 Try.results36 (by simp) (lnc_dids _) ?_
  simp only [go_sem, reduceIte, Nat.reduceEqDiff, reduceCtorEq, Nat.reduceLT, Nat.reduceAdd, Nat.reduceSub, Nat.reduceMul, Nat.reduceLeDiff, Int.reduceLT, Int.reduceLE, Int.reduceToNat, Int.reduceEq, Int.reduceAdd, Int.reduceSub, Int.reduceNeg, Int.reduceBNe, Int.reduceBEq, lns]
  refine vCall_of (hR) ?_ ?_ ?_; (focus simp only [go_sem, reduceIte, Nat.reduceEqDiff, reduceCtorEq, Nat.reduceLT, Nat.reduceAdd, Nat.reduceSub, Nat.reduceMul, Nat.reduceLeDiff, Int.reduceLT, Int.reduceLE, Int.reduceToNat, Int.reduceEq, Int.reduceAdd, Int.reduceSub, Int.reduceNeg, Int.reduceBNe, Int.reduceBEq, lns]); (focus simp only [go_sem, reduceIte, Nat.reduceEqDiff, reduceCtorEq, Nat.reduceLT, Nat.reduceAdd, Nat.reduceSub, Nat.reduceMul, Nat.reduceLeDiff, Int.reduceLT, Int.reduceLE, Int.reduceToNat, Int.reduceEq, Int.reduceAdd, Int.reduceSub, Int.reduceNeg, Int.reduceBNe, Int.reduceBEq, lns])
  simp only [go_sem, reduceIte, Nat.reduceEqDiff, reduceCtorEq, Nat.reduceLT, Nat.reduceAdd, Nat.reduceSub, Nat.reduceMul, Nat.reduceLeDiff, Int.reduceLT, Int.reduceLE, Int.reduceToNat, Int.reduceEq, Int.reduceAdd, Int.reduceSub, Int.reduceNeg, Int.reduceBNe, Int.reduceBEq, lns]
  refine vCall_of (hO) ?_ ?_ ?_; (focus simp only [go_sem, reduceIte, Nat.reduceEqDiff, reduceCtorEq, Nat.reduceLT, Nat.reduceAdd, Nat.reduceSub, Nat.reduceMul, Nat.reduceLeDiff, Int.reduceLT, Int.reduceLE, Int.reduceToNat, Int.reduceEq, Int.reduceAdd, Int.reduceSub, Int.reduceNeg, Int.reduceBNe, Int.reduceBEq, lns]); (focus simp only [go_sem, reduceIte, Nat.reduceEqDiff, reduceCtorEq, Nat.reduceLT, Nat.reduceAdd, Nat.reduceSub, Nat.reduceMul, Nat.reduceLeDiff, Int.reduceLT, Int.reduceLE, Int.reduceToNat, Int.reduceEq, Int.reduceAdd, Int.reduceSub, Int.reduceNeg, Int.reduceBNe, Int.reduceBEq, lns])
  simp only [go_sem, reduceIte, Nat.reduceEqDiff, reduceCtorEq, Nat.reduceLT, Nat.reduceAdd, Nat.reduceSub, Nat.reduceMul, Nat.reduceLeDiff, Int.reduceLT, Int.reduceLE, Int.reduceToNat, Int.reduceEq, Int.reduceAdd, Int.reduceSub, Int.reduceNeg, Int.reduceBNe, Int.reduceBEq, lns]
  repeat' (first | (refine vGuard_t (fun h => ?_) (fun h => ?_) <;> (try simp only [go_sem, reduceIte, Nat.reduceEqDiff, reduceCtorEq, Nat.reduceLT, Nat.reduceAdd, Nat.reduceSub, Nat.reduceMul, Nat.reduceLeDiff, Int.reduceLT, Int.reduceLE, Int.reduceToNat, Int.reduceEq, Int.reduceAdd, Int.reduceSub, Int.reduceNeg, Int.reduceBNe, Int.reduceBEq, h])) | (refine vGuard_f (fun h => ?_) (fun h => ?_) <;> (try simp only [go_sem, reduceIte, Nat.reduceEqDiff, reduceCtorEq, Nat.reduceLT, Nat.reduceAdd, Nat.reduceSub, Nat.reduceMul, Nat.reduceLeDiff, Int.reduceLT, Int.reduceLE, Int.reduceToNat, Int.reduceEq, Int.reduceAdd, Int.reduceSub, Int.reduceNeg, Int.reduceBNe, Int.reduceBEq, h])) | (refine vCond_b (fun h => ?_) (fun h => ?_) <;> (try simp only [go_sem, reduceIte, Nat.reduceEqDiff, reduceCtorEq, Nat.reduceLT, Nat.reduceAdd, Nat.reduceSub, Nat.reduceMul, Nat.reduceLeDiff, Int.reduceLT, Int.reduceLE, Int.reduceToNat, Int.reduceEq, Int.reduceAdd, Int.reduceSub, Int.reduceNeg, Int.reduceBNe, Int.reduceBEq, h])) | ((refine vDrawS [(1, 4)] (by kernel_rfl) (by kernel_rfl) (by exact rfl) ?_); (try simp only [go_sem, reduceIte, Nat.reduceEqDiff, reduceCtorEq, Nat.reduceLT, Nat.reduceAdd, Nat.reduceSub, Nat.reduceMul, Nat.reduceLeDiff, Int.reduceLT, Int.reduceLE, Int.reduceToNat, Int.reduceEq, Int.reduceAdd, Int.reduceSub, Int.reduceNeg, Int.reduceBNe, Int.reduceBEq])) | ((refine vDrawQ (by kernel_rfl) (by kernel_rfl) ?_); (try simp only [go_sem, reduceIte, Nat.reduceEqDiff, reduceCtorEq, Nat.reduceLT, Nat.reduceAdd, Nat.reduceSub, Nat.reduceMul, Nat.reduceLeDiff, Int.reduceLT, Int.reduceLE, Int.reduceToNat, Int.reduceEq, Int.reduceAdd, Int.reduceSub, Int.reduceNeg, Int.reduceBNe, Int.reduceBEq])))
  all_goals (simp only [beq_iff_eq, beq_eq_false_iff_ne, ne_eq] at *; clear hR hO hx; simp [invR, lnc, lns, *])
end Go.Proofs.Ytbojhapdidieoaa
