/- Contracts of functions and laws of this seat, each for every input that it names: lemmas of the proof. -/
import Derived.Test.YtbojhapdidieoaaXAt
set_option linter.unusedSimpArgs false
set_option linter.unusedVariables false
set_option linter.unusedSimpArgs false
set_option linter.unusedVariables false
namespace Go.Proofs.Ytbojhapdidieoaa
open Go.PL
def hasFr (l : List Pr) (s : Str) : Bool := l.any fun q => q.fr' == s
theorem caseM_snd (l : List Pr) (s : Str) : (caseM l s).2 = hasFr l s := by
  unfold caseM hasFr
  cases h : l.find? (fun p => p.fr' == s) with
  | none =>
    symm
    rw [List.any_eq_false]
    intro x hx
    exact List.find?_eq_none.1 h x hx
  | some p =>
    symm
    exact List.any_eq_true.2 ⟨p, List.mem_of_find?_eq_some h, List.find?_some (p := fun p : Pr => p.fr' == s) h⟩
theorem has_froms (l : List Pr) (s : Str) : (fromsM l).any (· == s) = hasFr l s := by
  simp [fromsM, hasFr, List.any_map, Function.comp_def]
def tabOk (t o : List Pr) (i : Nat) : Bool := nameB (t.getD i default).fr' && (!(hasFr (t.take i) (t.getD i default).fr') && hasFr o (t.getD i default).to')
def tableM (t o : List Pr) : Bool := decide (1 ≤ t.length ∧ t.length ≤ 6) && (List.range t.length).all (tabOk t o)
theorem take_pr (l : List Pr) (k : Nat) : List.take k (l.map pr) = (l.take k).map pr := by rw [List.map_take]
theorem sized_pr (l : List Pr) : Sized 2 (l.map pr) := fun e he => by
  obtain ⟨x, _, rfl⟩ := List.mem_map.1 he; rfl
theorem atoms_pr (l : List Pr) : Atoms (l.map pr) := fun e he => by
  obtain ⟨x, _, rfl⟩ := List.mem_map.1 he; rfl
theorem hasFr_true {l : List Pr} {s : Str} {k : Nat} (hk : k < l.length) (h : ((l.getD k default).fr' == s) = true) : hasFr l s = true := any_true (p := fun q : Pr => q.fr' == s) hk h
theorem hasFr_false {l : List Pr} {s : Str} (h : ∀ j, j < l.length → ((l.getD j default).fr' == s) = false) : hasFr l s = false := any_false (p := fun q : Pr => q.fr' == s) (d := default) h
set_option maxRecDepth 20000 in
set_option maxHeartbeats 8000000 in
theorem rightTable_pure (t o : List Pr) (ho : o.length ≤ maxLen) : PL.Pure Try.prog 140 [prs t, prs o] (.bool (tableM t o)) := by
  by_cases h1 : (t.length : Int) < 1
  · have hx : tableM t o = false := by simp only [tableM, show ¬ (1 ≤ t.length ∧ t.length ≤ 6) by omega, decide_false, Bool.false_and]
    refine PL.Pure.of_v Try.func140 (by decide) rfl Try.ntmps140 Try.results140 (by simp) rfl ?_
    simp only [go_sem, reduceIte, Nat.reduceEqDiff, reduceCtorEq, Nat.reduceLT, Nat.reduceAdd, Nat.reduceSub, Nat.reduceMul, Nat.reduceLeDiff, Int.reduceLT, Int.reduceLE, Int.reduceToNat, Int.reduceEq, Int.reduceAdd, Int.reduceSub, Int.reduceNeg, Int.reduceBNe, Int.reduceBEq, prs, h1, hx]
  · by_cases h2 : (6 : Int) < (t.length : Int)
    · have hx : tableM t o = false := by simp only [tableM, show ¬ (1 ≤ t.length ∧ t.length ≤ 6) by omega, decide_false, Bool.false_and]
      refine PL.Pure.of_v Try.func140 (by decide) rfl Try.ntmps140 Try.results140 (by simp) rfl ?_
      simp only [go_sem, reduceIte, Nat.reduceEqDiff, reduceCtorEq, Nat.reduceLT, Nat.reduceAdd, Nat.reduceSub, Nat.reduceMul, Nat.reduceLeDiff, Int.reduceLT, Int.reduceLE, Int.reduceToNat, Int.reduceEq, Int.reduceAdd, Int.reduceSub, Int.reduceNeg, Int.reduceBNe, Int.reduceBEq, prs, h1, h2, hx]
    · have hm : t.length ≤ maxLen := by rw [maxLen_eq]; omega
      have hx : tableM t o = (List.range t.length).all (tabOk t o) := by simp only [tableM, show (1 ≤ t.length ∧ t.length ≤ 6) by omega, and_self, decide_true, Bool.true_and]
      rw [hx]
      refine PL.Pure.of_v Try.func140 (by decide) rfl Try.ntmps140 Try.results140 (by simp) rfl ?_
      simp only [go_sem, reduceIte, Nat.reduceEqDiff, reduceCtorEq, Nat.reduceLT, Nat.reduceAdd, Nat.reduceSub, Nat.reduceMul, Nat.reduceLeDiff, Int.reduceLT, Int.reduceLE, Int.reduceToNat, Int.reduceEq, Int.reduceAdd, Int.reduceSub, Int.reduceNeg, Int.reduceBNe, Int.reduceBEq, prs, h1, h2]
      refine vLoopM (ι := { x : Nat // x ≤ (t).length ∧ (∀ j, j < x → tabOk t o j = true) }) 54 (fun x => [(0, prs t), (1, prs o), (19, prs t), (20, .int .i64 (t.length : Int)), (21, .int .i64 (x.1 : Int))]) (fun x => []) (fun x => []) (fun x => (t).length - x.1) ⟨0, Nat.zero_le _, fun j hj => absurd hj (Nat.not_lt_zero j)⟩ ⟨rfl, (forall_cons rfl (forall_cons rfl (forall_cons rfl (forall_cons rfl (forall_cons rfl forall_nil))))), forall_nil, forall_nil⟩ (fun x => ⟨(forall_cons rfl (forall_cons rfl (forall_cons rfl (forall_cons rfl (forall_cons rfl forall_nil))))), forall_nil⟩) (fun x => ?_); obtain ⟨k, hk, hI⟩ := x; simp only at hk hI ⊢
      by_cases h : (k : Int) < (t.length : Int)
      · (have hka : k < (t).length := by omega); (have w1 := w64s hka (hm)); (have i1 : (0 : Int) ≤ (k : Int) := by omega)
        have i2 : (k : Int) ≤ (t.length : Int) := by omega
        have hN := Name_pure (t.getD k default).fr'
        cases hn : nameB (t.getD k default).fr'
        · rw [hn] at hN
          have hz := rall_false (p := tabOk t o) hka (by simp only [tabOk, hn, Bool.false_and])
          simp only [go_sem, reduceIte, Nat.reduceEqDiff, reduceCtorEq, Nat.reduceLT, Nat.reduceAdd, Nat.reduceSub, Nat.reduceMul, Nat.reduceLeDiff, Int.reduceLT, Int.reduceLE, Int.reduceToNat, Int.reduceEq, Int.reduceAdd, Int.reduceSub, Int.reduceNeg, Int.reduceBNe, Int.reduceBEq, prs, h, i1, getD_pr hka, pr]
          refine vCall_of (hN) ?_ ?_ ?_; (focus simp only [go_sem, reduceIte, Nat.reduceEqDiff, reduceCtorEq]); (focus simp only [go_sem, reduceIte, Nat.reduceEqDiff, reduceCtorEq])
          simp only [go_sem, reduceIte, Nat.reduceEqDiff, reduceCtorEq, Nat.reduceLT, Nat.reduceAdd, Nat.reduceSub, Nat.reduceMul, Nat.reduceLeDiff, Int.reduceLT, Int.reduceLE, Int.reduceToNat, Int.reduceEq, Int.reduceAdd, Int.reduceSub, Int.reduceNeg, Int.reduceBNe, Int.reduceBEq, hz]
        · rw [hn] at hN
          have hT : (t.take k).length ≤ maxLen := by rw [List.length_take]; omega
          simp only [go_sem, reduceIte, Nat.reduceEqDiff, reduceCtorEq, Nat.reduceLT, Nat.reduceAdd, Nat.reduceSub, Nat.reduceMul, Nat.reduceLeDiff, Int.reduceLT, Int.reduceLE, Int.reduceToNat, Int.reduceEq, Int.reduceAdd, Int.reduceSub, Int.reduceNeg, Int.reduceBNe, Int.reduceBEq, prs, h, i1, getD_pr hka, pr]
          refine vCall_of (hN) ?_ ?_ ?_; (focus simp only [go_sem, reduceIte, Nat.reduceEqDiff, reduceCtorEq]); (focus simp only [go_sem, reduceIte, Nat.reduceEqDiff, reduceCtorEq])
          simp only [go_sem, reduceIte, Nat.reduceEqDiff, reduceCtorEq, Nat.reduceLT, Nat.reduceAdd, Nat.reduceSub, Nat.reduceMul, Nat.reduceLeDiff, Int.reduceLT, Int.reduceLE, Int.reduceToNat, Int.reduceEq, Int.reduceAdd, Int.reduceSub, Int.reduceNeg, Int.reduceBNe, Int.reduceBEq, i1, i2, sized_pr, cut, Nat.sub_zero, take_pr]
          refine vLoopM (ι := { x : Nat // x ≤ (t.take k).length ∧ (∀ j, j < x → (((t.take k).getD j default).fr' == (t.getD k default).fr') = false) }) 54 (fun x => [(0, prs t), (1, prs o), (6, .ptr 6 0), (19, prs t), (20, .int .i64 (t.length : Int)), (21, .int .i64 (k : Int)), (32, .sl .no ((t.take k).map pr)), (33, .int .i64 ((t.take k).length : Int)), (34, .int .i64 (x.1 : Int))]) (fun x => [(6, [.str (t.getD k default).fr', .str (t.getD k default).to'], false)]) (fun x => []) (fun x => (t.take k).length - x.1) ⟨0, Nat.zero_le _, fun j hj => absurd hj (Nat.not_lt_zero j)⟩ ⟨rfl, (forall_cons rfl (forall_cons rfl (forall_cons rfl (forall_cons rfl (forall_cons rfl (forall_cons rfl (forall_cons rfl (forall_cons rfl (forall_cons rfl forall_nil))))))))), (forall_cons ⟨rfl, rfl⟩ forall_nil), forall_nil⟩ (fun x => ⟨(forall_cons rfl (forall_cons rfl (forall_cons rfl (forall_cons rfl (forall_cons rfl (forall_cons rfl (forall_cons rfl (forall_cons rfl (forall_cons rfl forall_nil))))))))), (forall_cons rfl forall_nil)⟩) (fun x => ?_); obtain ⟨kb, hkb, hIb⟩ := x; simp only at hkb hIb ⊢
          by_cases hb : (kb : Int) < ((t.take k).length : Int)
          · (have hkab : kb < (t.take k).length := by omega); (have w1b := w64s hkab (hT)); (have i1b : (0 : Int) ≤ (kb : Int) := by omega)
            cases he : (((t.take k).getD kb default).fr' == (t.getD k default).fr')
            · simp only [go_sem, reduceIte, Nat.reduceEqDiff, reduceCtorEq, Nat.reduceLT, Nat.reduceAdd, Nat.reduceSub, Nat.reduceMul, Nat.reduceLeDiff, Int.reduceLT, Int.reduceLE, Int.reduceToNat, Int.reduceEq, Int.reduceAdd, Int.reduceSub, Int.reduceNeg, Int.reduceBNe, Int.reduceBEq, prs, hb, getD_pr hkab, pr, i1b, he, w1b]
              exact ⟨⟨kb + 1, by (try simp only); omega, below_succ hIb he⟩, by show (t.take k).length - (kb + 1) < (t.take k).length - kb; omega, ⟨rfl, (forall_cons rfl (forall_cons rfl (forall_cons rfl (forall_cons rfl (forall_cons rfl (forall_cons rfl (forall_cons rfl (forall_cons rfl (forall_cons rfl forall_nil))))))))), (forall_cons ⟨rfl, rfl⟩ forall_nil), forall_nil⟩⟩
            · have hz := rall_false (p := tabOk t o) hka (by simp only [tabOk, hasFr_true hkab he, Bool.not_true, Bool.false_and, Bool.and_false])
              simp only [go_sem, reduceIte, Nat.reduceEqDiff, reduceCtorEq, Nat.reduceLT, Nat.reduceAdd, Nat.reduceSub, Nat.reduceMul, Nat.reduceLeDiff, Int.reduceLT, Int.reduceLE, Int.reduceToNat, Int.reduceEq, Int.reduceAdd, Int.reduceSub, Int.reduceNeg, Int.reduceBNe, Int.reduceBEq, prs, hb, getD_pr hkab, pr, i1b, he, hz]
          · have hf := hasFr_false (l := t.take k) (s := (t.getD k default).fr') (fun j hj => hIb j (by omega))
            have hC := Case_pure o (t.getD k default).to' ho
            have hs := caseM_snd o (t.getD k default).to'
            cases hh : hasFr o (t.getD k default).to'
            · have hz := rall_false (p := tabOk t o) hka (by simp only [tabOk, hh, Bool.and_false])
              rw [hh] at hs
              simp only [go_sem, reduceIte, Nat.reduceEqDiff, reduceCtorEq, Nat.reduceLT, Nat.reduceAdd, Nat.reduceSub, Nat.reduceMul, Nat.reduceLeDiff, Int.reduceLT, Int.reduceLE, Int.reduceToNat, Int.reduceEq, Int.reduceAdd, Int.reduceSub, Int.reduceNeg, Int.reduceBNe, Int.reduceBEq, prs, hb]
              refine vCall_of (hC) ?_ ?_ ?_; (focus simp only [go_sem, reduceIte, Nat.reduceEqDiff, reduceCtorEq, prs]); (focus simp only [go_sem, reduceIte, Nat.reduceEqDiff, reduceCtorEq, prs])
              simp only [go_sem, reduceIte, Nat.reduceEqDiff, reduceCtorEq, Nat.reduceLT, Nat.reduceAdd, Nat.reduceSub, Nat.reduceMul, Nat.reduceLeDiff, Int.reduceLT, Int.reduceLE, Int.reduceToNat, Int.reduceEq, Int.reduceAdd, Int.reduceSub, Int.reduceNeg, Int.reduceBNe, Int.reduceBEq, strb, hs, hz]
            · have ok : tabOk t o k = true := by simp only [tabOk, hn, hf, hh, Bool.not_false, Bool.and_self]
              rw [hh] at hs
              simp only [go_sem, reduceIte, Nat.reduceEqDiff, reduceCtorEq, Nat.reduceLT, Nat.reduceAdd, Nat.reduceSub, Nat.reduceMul, Nat.reduceLeDiff, Int.reduceLT, Int.reduceLE, Int.reduceToNat, Int.reduceEq, Int.reduceAdd, Int.reduceSub, Int.reduceNeg, Int.reduceBNe, Int.reduceBEq, prs, hb]
              refine vCall_of (hC) ?_ ?_ ?_; (focus simp only [go_sem, reduceIte, Nat.reduceEqDiff, reduceCtorEq, prs]); (focus simp only [go_sem, reduceIte, Nat.reduceEqDiff, reduceCtorEq, prs])
              simp only [go_sem, reduceIte, Nat.reduceEqDiff, reduceCtorEq, Nat.reduceLT, Nat.reduceAdd, Nat.reduceSub, Nat.reduceMul, Nat.reduceLeDiff, Int.reduceLT, Int.reduceLE, Int.reduceToNat, Int.reduceEq, Int.reduceAdd, Int.reduceSub, Int.reduceNeg, Int.reduceBNe, Int.reduceBEq, strb, hs, w1]
              exact ⟨⟨k + 1, by (try simp only); omega, below_succ hI ok⟩, by show (t).length - (k + 1) < (t).length - k; omega, ⟨rfl, (forall_cons rfl (forall_cons rfl (forall_cons rfl (forall_cons rfl (forall_cons rfl forall_nil))))), forall_nil, forall_nil⟩⟩
      · have hz := rall_true (p := tabOk t o) (n := t.length) (fun j hj => hI j (by omega))
        simp only [go_sem, reduceIte, Nat.reduceEqDiff, reduceCtorEq, Nat.reduceLT, Nat.reduceAdd, Nat.reduceSub, Nat.reduceMul, Nat.reduceLeDiff, Int.reduceLT, Int.reduceLE, Int.reduceToNat, Int.reduceEq, Int.reduceAdd, Int.reduceSub, Int.reduceNeg, Int.reduceBNe, Int.reduceBEq, prs, h, hz]
set_option maxRecDepth 20000 in
set_option maxHeartbeats 8000000 in
theorem Rtable_pure (t o : List Pr) (ho : o.length ≤ 1000000) : PL.Pure Try.prog 136 [prs t, prs o] (.bool (tableM t o)) := by
  by_cases h1 : (t.length : Int) = 0
  · have hx : tableM t o = false := by simp only [tableM, show ¬ (1 ≤ t.length ∧ t.length ≤ 6) by omega, decide_false, Bool.false_and]
    have h1' : ((t.length : Int) == 0) = true := by rw [h1]; rfl
    refine PL.Pure.of_v Try.func136 (by decide) rfl Try.ntmps136 Try.results136 (by simp) rfl ?_
    simp only [go_sem, reduceIte, Nat.reduceEqDiff, reduceCtorEq, Nat.reduceLT, Nat.reduceAdd, Nat.reduceSub, Nat.reduceMul, Nat.reduceLeDiff, Int.reduceLT, Int.reduceLE, Int.reduceToNat, Int.reduceEq, Int.reduceAdd, Int.reduceSub, Int.reduceNeg, Int.reduceBNe, Int.reduceBEq, prs, h1', hx]
  · have h1' : ((t.length : Int) == 0) = false := beq_eq_false_iff_ne.2 h1
    by_cases h2 : (6 : Int) < (t.length : Int)
    · have hx : tableM t o = false := by simp only [tableM, show ¬ (1 ≤ t.length ∧ t.length ≤ 6) by omega, decide_false, Bool.false_and]
      refine PL.Pure.of_v Try.func136 (by decide) rfl Try.ntmps136 Try.results136 (by simp) rfl ?_
      simp only [go_sem, reduceIte, Nat.reduceEqDiff, reduceCtorEq, Nat.reduceLT, Nat.reduceAdd, Nat.reduceSub, Nat.reduceMul, Nat.reduceLeDiff, Int.reduceLT, Int.reduceLE, Int.reduceToNat, Int.reduceEq, Int.reduceAdd, Int.reduceSub, Int.reduceNeg, Int.reduceBNe, Int.reduceBEq, prs, h1', h2, hx]
    · have hm : t.length ≤ maxLen := by rw [maxLen_eq]; omega
      have hx : tableM t o = (List.range t.length).all (tabOk t o) := by simp only [tableM, show (1 ≤ t.length ∧ t.length ≤ 6) by omega, and_self, decide_true, Bool.true_and]
      rw [hx]
      refine PL.Pure.of_v Try.func136 (by decide) rfl Try.ntmps136 Try.results136 (by simp) rfl ?_
      simp only [go_sem, reduceIte, Nat.reduceEqDiff, reduceCtorEq, Nat.reduceLT, Nat.reduceAdd, Nat.reduceSub, Nat.reduceMul, Nat.reduceLeDiff, Int.reduceLT, Int.reduceLE, Int.reduceToNat, Int.reduceEq, Int.reduceAdd, Int.reduceSub, Int.reduceNeg, Int.reduceBNe, Int.reduceBEq, prs, h1', h2]
      refine vLoopM (ι := { x : Nat // x ≤ (t).length ∧ (∀ j, j < x → tabOk t o j = true) }) 50 (fun x => [(0, prs t), (1, prs o), (5, .int .i64 (x.1 : Int))]) (fun x => []) (fun x => []) (fun x => (t).length - x.1) ⟨0, Nat.zero_le _, fun j hj => absurd hj (Nat.not_lt_zero j)⟩ ⟨rfl, (forall_cons rfl (forall_cons rfl (forall_cons rfl forall_nil))), forall_nil, forall_nil⟩ (fun x => ⟨(forall_cons rfl (forall_cons rfl (forall_cons rfl forall_nil))), forall_nil⟩) (fun x => ?_); obtain ⟨k, hk, hI⟩ := x; simp only at hk hI ⊢
      by_cases h : (k : Int) < (t.length : Int)
      · (have hka : k < (t).length := by omega); (have w1 := w64s hka (hm)); (have i1 : (0 : Int) ≤ (k : Int) := by omega)
        have i2 : (k : Int) ≤ (t.length : Int) := by omega
        have hN := RName_pure (t.getD k default).fr'
        have hT : (t.take k).length ≤ 1000000 := by rw [List.length_take]; omega
        have hF1 := RFroms_pure (t.take k) hT
        have hF2 := RFroms_pure o ho
        have hH1 := RHas_pure (fromsM (t.take k)) (t.getD k default).fr' (by rw [fromsM, List.length_map, maxLen_eq]; omega)
        have hH2 := RHas_pure (fromsM o) (t.getD k default).to' (by rw [fromsM, List.length_map, maxLen_eq]; omega)
        rw [has_froms] at hH1 hH2
        cases hn : nameB (t.getD k default).fr'
        · rw [hn] at hN
          have hz := rall_false (p := tabOk t o) hka (by simp only [tabOk, hn, Bool.false_and])
          simp only [go_sem, reduceIte, Nat.reduceEqDiff, reduceCtorEq, Nat.reduceLT, Nat.reduceAdd, Nat.reduceSub, Nat.reduceMul, Nat.reduceLeDiff, Int.reduceLT, Int.reduceLE, Int.reduceToNat, Int.reduceEq, Int.reduceAdd, Int.reduceSub, Int.reduceNeg, Int.reduceBNe, Int.reduceBEq, prs, h, i1]
          refine vDrawQ (by kernel_rfl) (by kernel_rfl) ?_
          simp only [go_sem, reduceIte, Nat.reduceEqDiff, reduceCtorEq, Nat.reduceLT, Nat.reduceAdd, Nat.reduceSub, Nat.reduceMul, Nat.reduceLeDiff, Int.reduceLT, Int.reduceLE, Int.reduceToNat, Int.reduceEq, Int.reduceAdd, Int.reduceSub, Int.reduceNeg, Int.reduceBNe, Int.reduceBEq, prs, h, i1, getD_pr hka, pr]
          refine vCall_of (hN) ?_ ?_ ?_; (focus simp only [go_sem, reduceIte, Nat.reduceEqDiff, reduceCtorEq]); (focus simp only [go_sem, reduceIte, Nat.reduceEqDiff, reduceCtorEq])
          simp only [go_sem, reduceIte, Nat.reduceEqDiff, reduceCtorEq, Nat.reduceLT, Nat.reduceAdd, Nat.reduceSub, Nat.reduceMul, Nat.reduceLeDiff, Int.reduceLT, Int.reduceLE, Int.reduceToNat, Int.reduceEq, Int.reduceAdd, Int.reduceSub, Int.reduceNeg, Int.reduceBNe, Int.reduceBEq, hz]
        · rw [hn] at hN
          cases hf : hasFr (t.take k) (t.getD k default).fr'
          · rw [hf] at hH1
            cases hh : hasFr o (t.getD k default).to'
            · rw [hh] at hH2
              have hz := rall_false (p := tabOk t o) hka (by simp only [tabOk, hh, Bool.and_false])
              simp only [go_sem, reduceIte, Nat.reduceEqDiff, reduceCtorEq, Nat.reduceLT, Nat.reduceAdd, Nat.reduceSub, Nat.reduceMul, Nat.reduceLeDiff, Int.reduceLT, Int.reduceLE, Int.reduceToNat, Int.reduceEq, Int.reduceAdd, Int.reduceSub, Int.reduceNeg, Int.reduceBNe, Int.reduceBEq, prs, h, i1]
              refine vDrawQ (by kernel_rfl) (by kernel_rfl) ?_
              simp only [go_sem, reduceIte, Nat.reduceEqDiff, reduceCtorEq, Nat.reduceLT, Nat.reduceAdd, Nat.reduceSub, Nat.reduceMul, Nat.reduceLeDiff, Int.reduceLT, Int.reduceLE, Int.reduceToNat, Int.reduceEq, Int.reduceAdd, Int.reduceSub, Int.reduceNeg, Int.reduceBNe, Int.reduceBEq, prs, h, i1, getD_pr hka, pr]
              refine vCall_of (hN) ?_ ?_ ?_; (focus simp only [go_sem, reduceIte, Nat.reduceEqDiff, reduceCtorEq]); (focus simp only [go_sem, reduceIte, Nat.reduceEqDiff, reduceCtorEq])
              simp only [go_sem, reduceIte, Nat.reduceEqDiff, reduceCtorEq, Nat.reduceLT, Nat.reduceAdd, Nat.reduceSub, Nat.reduceMul, Nat.reduceLeDiff, Int.reduceLT, Int.reduceLE, Int.reduceToNat, Int.reduceEq, Int.reduceAdd, Int.reduceSub, Int.reduceNeg, Int.reduceBNe, Int.reduceBEq, prs, h, i1, i2, sized_pr, cut, Nat.sub_zero, take_pr]
              refine vCall_of (hF1) ?_ ?_ ?_; (focus simp only [go_sem, reduceIte, Nat.reduceEqDiff, reduceCtorEq, prs]); (focus simp only [go_sem, reduceIte, Nat.reduceEqDiff, reduceCtorEq, prs])
              simp only [go_sem, reduceIte, Nat.reduceEqDiff, reduceCtorEq, Nat.reduceLT, Nat.reduceAdd, Nat.reduceSub, Nat.reduceMul, Nat.reduceLeDiff, Int.reduceLT, Int.reduceLE, Int.reduceToNat, Int.reduceEq, Int.reduceAdd, Int.reduceSub, Int.reduceNeg, Int.reduceBNe, Int.reduceBEq, prs, h, i1, i2, getD_pr hka, pr]
              refine vCall_of (hH1) ?_ ?_ ?_; (focus simp only [go_sem, reduceIte, Nat.reduceEqDiff, reduceCtorEq, strs]); (focus simp only [go_sem, reduceIte, Nat.reduceEqDiff, reduceCtorEq, strs])
              simp only [go_sem, reduceIte, Nat.reduceEqDiff, reduceCtorEq, Nat.reduceLT, Nat.reduceAdd, Nat.reduceSub, Nat.reduceMul, Nat.reduceLeDiff, Int.reduceLT, Int.reduceLE, Int.reduceToNat, Int.reduceEq, Int.reduceAdd, Int.reduceSub, Int.reduceNeg, Int.reduceBNe, Int.reduceBEq, prs]
              refine vCall_of (hF2) ?_ ?_ ?_; (focus simp only [go_sem, reduceIte, Nat.reduceEqDiff, reduceCtorEq, prs]); (focus simp only [go_sem, reduceIte, Nat.reduceEqDiff, reduceCtorEq, prs])
              simp only [go_sem, reduceIte, Nat.reduceEqDiff, reduceCtorEq, Nat.reduceLT, Nat.reduceAdd, Nat.reduceSub, Nat.reduceMul, Nat.reduceLeDiff, Int.reduceLT, Int.reduceLE, Int.reduceToNat, Int.reduceEq, Int.reduceAdd, Int.reduceSub, Int.reduceNeg, Int.reduceBNe, Int.reduceBEq, prs, h, i1, i2, getD_pr hka, pr]
              refine vCall_of (hH2) ?_ ?_ ?_; (focus simp only [go_sem, reduceIte, Nat.reduceEqDiff, reduceCtorEq, strs]); (focus simp only [go_sem, reduceIte, Nat.reduceEqDiff, reduceCtorEq, strs])
              simp only [go_sem, reduceIte, Nat.reduceEqDiff, reduceCtorEq, Nat.reduceLT, Nat.reduceAdd, Nat.reduceSub, Nat.reduceMul, Nat.reduceLeDiff, Int.reduceLT, Int.reduceLE, Int.reduceToNat, Int.reduceEq, Int.reduceAdd, Int.reduceSub, Int.reduceNeg, Int.reduceBNe, Int.reduceBEq, hz]
            · rw [hh] at hH2
              have ok : tabOk t o k = true := by simp only [tabOk, hn, hf, hh, Bool.not_false, Bool.and_self]
              simp only [go_sem, reduceIte, Nat.reduceEqDiff, reduceCtorEq, Nat.reduceLT, Nat.reduceAdd, Nat.reduceSub, Nat.reduceMul, Nat.reduceLeDiff, Int.reduceLT, Int.reduceLE, Int.reduceToNat, Int.reduceEq, Int.reduceAdd, Int.reduceSub, Int.reduceNeg, Int.reduceBNe, Int.reduceBEq, prs, h, i1]
              refine vDrawQ (by kernel_rfl) (by kernel_rfl) ?_
              simp only [go_sem, reduceIte, Nat.reduceEqDiff, reduceCtorEq, Nat.reduceLT, Nat.reduceAdd, Nat.reduceSub, Nat.reduceMul, Nat.reduceLeDiff, Int.reduceLT, Int.reduceLE, Int.reduceToNat, Int.reduceEq, Int.reduceAdd, Int.reduceSub, Int.reduceNeg, Int.reduceBNe, Int.reduceBEq, prs, h, i1, getD_pr hka, pr]
              refine vCall_of (hN) ?_ ?_ ?_; (focus simp only [go_sem, reduceIte, Nat.reduceEqDiff, reduceCtorEq]); (focus simp only [go_sem, reduceIte, Nat.reduceEqDiff, reduceCtorEq])
              simp only [go_sem, reduceIte, Nat.reduceEqDiff, reduceCtorEq, Nat.reduceLT, Nat.reduceAdd, Nat.reduceSub, Nat.reduceMul, Nat.reduceLeDiff, Int.reduceLT, Int.reduceLE, Int.reduceToNat, Int.reduceEq, Int.reduceAdd, Int.reduceSub, Int.reduceNeg, Int.reduceBNe, Int.reduceBEq, prs, h, i1, i2, sized_pr, cut, Nat.sub_zero, take_pr]
              refine vCall_of (hF1) ?_ ?_ ?_; (focus simp only [go_sem, reduceIte, Nat.reduceEqDiff, reduceCtorEq, prs]); (focus simp only [go_sem, reduceIte, Nat.reduceEqDiff, reduceCtorEq, prs])
              simp only [go_sem, reduceIte, Nat.reduceEqDiff, reduceCtorEq, Nat.reduceLT, Nat.reduceAdd, Nat.reduceSub, Nat.reduceMul, Nat.reduceLeDiff, Int.reduceLT, Int.reduceLE, Int.reduceToNat, Int.reduceEq, Int.reduceAdd, Int.reduceSub, Int.reduceNeg, Int.reduceBNe, Int.reduceBEq, prs, h, i1, i2, getD_pr hka, pr]
              refine vCall_of (hH1) ?_ ?_ ?_; (focus simp only [go_sem, reduceIte, Nat.reduceEqDiff, reduceCtorEq, strs]); (focus simp only [go_sem, reduceIte, Nat.reduceEqDiff, reduceCtorEq, strs])
              simp only [go_sem, reduceIte, Nat.reduceEqDiff, reduceCtorEq, Nat.reduceLT, Nat.reduceAdd, Nat.reduceSub, Nat.reduceMul, Nat.reduceLeDiff, Int.reduceLT, Int.reduceLE, Int.reduceToNat, Int.reduceEq, Int.reduceAdd, Int.reduceSub, Int.reduceNeg, Int.reduceBNe, Int.reduceBEq, prs]
              refine vCall_of (hF2) ?_ ?_ ?_; (focus simp only [go_sem, reduceIte, Nat.reduceEqDiff, reduceCtorEq, prs]); (focus simp only [go_sem, reduceIte, Nat.reduceEqDiff, reduceCtorEq, prs])
              simp only [go_sem, reduceIte, Nat.reduceEqDiff, reduceCtorEq, Nat.reduceLT, Nat.reduceAdd, Nat.reduceSub, Nat.reduceMul, Nat.reduceLeDiff, Int.reduceLT, Int.reduceLE, Int.reduceToNat, Int.reduceEq, Int.reduceAdd, Int.reduceSub, Int.reduceNeg, Int.reduceBNe, Int.reduceBEq, prs, h, i1, i2, getD_pr hka, pr]
              refine vCall_of (hH2) ?_ ?_ ?_; (focus simp only [go_sem, reduceIte, Nat.reduceEqDiff, reduceCtorEq, strs]); (focus simp only [go_sem, reduceIte, Nat.reduceEqDiff, reduceCtorEq, strs])
              simp only [go_sem, reduceIte, Nat.reduceEqDiff, reduceCtorEq, Nat.reduceLT, Nat.reduceAdd, Nat.reduceSub, Nat.reduceMul, Nat.reduceLeDiff, Int.reduceLT, Int.reduceLE, Int.reduceToNat, Int.reduceEq, Int.reduceAdd, Int.reduceSub, Int.reduceNeg, Int.reduceBNe, Int.reduceBEq, w1]
              exact ⟨⟨k + 1, by (try simp only); omega, below_succ hI ok⟩, by show (t).length - (k + 1) < (t).length - k; omega, ⟨rfl, (forall_cons rfl (forall_cons rfl (forall_cons rfl forall_nil))), forall_nil, forall_nil⟩⟩
          · rw [hf] at hH1
            have hz := rall_false (p := tabOk t o) hka (by simp only [tabOk, hf, Bool.not_true, Bool.false_and, Bool.and_false])
            simp only [go_sem, reduceIte, Nat.reduceEqDiff, reduceCtorEq, Nat.reduceLT, Nat.reduceAdd, Nat.reduceSub, Nat.reduceMul, Nat.reduceLeDiff, Int.reduceLT, Int.reduceLE, Int.reduceToNat, Int.reduceEq, Int.reduceAdd, Int.reduceSub, Int.reduceNeg, Int.reduceBNe, Int.reduceBEq, prs, h, i1]
            refine vDrawQ (by kernel_rfl) (by kernel_rfl) ?_
            simp only [go_sem, reduceIte, Nat.reduceEqDiff, reduceCtorEq, Nat.reduceLT, Nat.reduceAdd, Nat.reduceSub, Nat.reduceMul, Nat.reduceLeDiff, Int.reduceLT, Int.reduceLE, Int.reduceToNat, Int.reduceEq, Int.reduceAdd, Int.reduceSub, Int.reduceNeg, Int.reduceBNe, Int.reduceBEq, prs, h, i1, getD_pr hka, pr]
            refine vCall_of (hN) ?_ ?_ ?_; (focus simp only [go_sem, reduceIte, Nat.reduceEqDiff, reduceCtorEq]); (focus simp only [go_sem, reduceIte, Nat.reduceEqDiff, reduceCtorEq])
            simp only [go_sem, reduceIte, Nat.reduceEqDiff, reduceCtorEq, Nat.reduceLT, Nat.reduceAdd, Nat.reduceSub, Nat.reduceMul, Nat.reduceLeDiff, Int.reduceLT, Int.reduceLE, Int.reduceToNat, Int.reduceEq, Int.reduceAdd, Int.reduceSub, Int.reduceNeg, Int.reduceBNe, Int.reduceBEq, prs, h, i1, i2, sized_pr, cut, Nat.sub_zero, take_pr]
            refine vCall_of (hF1) ?_ ?_ ?_; (focus simp only [go_sem, reduceIte, Nat.reduceEqDiff, reduceCtorEq, prs]); (focus simp only [go_sem, reduceIte, Nat.reduceEqDiff, reduceCtorEq, prs])
            simp only [go_sem, reduceIte, Nat.reduceEqDiff, reduceCtorEq, Nat.reduceLT, Nat.reduceAdd, Nat.reduceSub, Nat.reduceMul, Nat.reduceLeDiff, Int.reduceLT, Int.reduceLE, Int.reduceToNat, Int.reduceEq, Int.reduceAdd, Int.reduceSub, Int.reduceNeg, Int.reduceBNe, Int.reduceBEq, prs, h, i1, i2, getD_pr hka, pr]
            refine vCall_of (hH1) ?_ ?_ ?_; (focus simp only [go_sem, reduceIte, Nat.reduceEqDiff, reduceCtorEq, strs]); (focus simp only [go_sem, reduceIte, Nat.reduceEqDiff, reduceCtorEq, strs])
            simp only [go_sem, reduceIte, Nat.reduceEqDiff, reduceCtorEq, Nat.reduceLT, Nat.reduceAdd, Nat.reduceSub, Nat.reduceMul, Nat.reduceLeDiff, Int.reduceLT, Int.reduceLE, Int.reduceToNat, Int.reduceEq, Int.reduceAdd, Int.reduceSub, Int.reduceNeg, Int.reduceBNe, Int.reduceBEq, hz]
      · have hz := rall_true (p := tabOk t o) (n := t.length) (fun j hj => hI j (by omega))
        simp only [go_sem, reduceIte, Nat.reduceEqDiff, reduceCtorEq, Nat.reduceLT, Nat.reduceAdd, Nat.reduceSub, Nat.reduceMul, Nat.reduceLeDiff, Int.reduceLT, Int.reduceLE, Int.reduceToNat, Int.reduceEq, Int.reduceAdd, Int.reduceSub, Int.reduceNeg, Int.reduceBNe, Int.reduceBEq, prs, h, hz]
theorem lns_dids (x : Ln) : (lns x).dids = [] := by
  have : ∀ l : List Pr, PV.didsL (l.map pr) = [] := fun l => by
    induction l with
    | nil => rfl
    | cons t l ih => simp only [List.map_cons, PV.didsL, ih, pr, PV.dids, List.append_nil]
  simp only [lns, PV.dids, PV.didsL, didsL_str, this, List.append_nil]
structure OkLn (x : Ln) : Prop where
  c : x.fd.cases'.length ≤ 1000000
  f : x.fo.length ≤ 1000000
  b : x.ba.length ≤ 1000000
set_option maxHeartbeats 4000000 in
theorem LOwn_pure (x : Ln) (hx : OkLn x) : PL.Pure Try.prog 52 [lns x] (lns x) := by
  have hF := FOwn_pure x.fd hx.c
  have r1 := room1 hx.f (show 32 ≤ 1000 by omega)
  have r2 := room1 hx.b (show 32 ≤ 1000 by omega)
  refine PL.Pure.of_v Try.func52 (by decide) rfl Try.ntmps52 Try.results52 (by simp) (lns_dids _) ?_
  simp only [go_sem, reduceIte, Nat.reduceEqDiff, reduceCtorEq, Nat.reduceLT, Nat.reduceAdd, Nat.reduceSub, Nat.reduceMul, Nat.reduceLeDiff, Int.reduceLT, Int.reduceLE, Int.reduceToNat, Int.reduceEq, Int.reduceAdd, Int.reduceSub, Int.reduceNeg, Int.reduceBNe, Int.reduceBEq, lns]
  refine vCall_of (hF) ?_ ?_ ?_; (focus simp only [go_sem, reduceIte, Nat.reduceEqDiff, reduceCtorEq, fld]); (focus simp only [go_sem, reduceIte, Nat.reduceEqDiff, reduceCtorEq, fld])
  simp only [go_sem, reduceIte, Nat.reduceEqDiff, reduceCtorEq, Nat.reduceLT, Nat.reduceAdd, Nat.reduceSub, Nat.reduceMul, Nat.reduceLeDiff, Int.reduceLT, Int.reduceLE, Int.reduceToNat, Int.reduceEq, Int.reduceAdd, Int.reduceSub, Int.reduceNeg, Int.reduceBNe, Int.reduceBEq, fld, lns, sized_pr, atoms_pr, r1, r2]
set_option maxRecDepth 20000 in
set_option maxHeartbeats 8000000 in
theorem LSame_pure (a b : Ln) (ha : OkLn a) (hb : OkLn b) : PL.Pure Try.prog 105 [lns a, lns b] (.bool (decide (a = b))) := by
  have hF := FSame_pure a.fd b.fd (by have := ha.c; rw [maxLen_eq]; omega) (by have := hb.c; rw [maxLen_eq]; omega)
  have h1 := EqPr_pure a.fo b.fo (by have := ha.f; rw [maxLen_eq]; omega) (by have := hb.f; rw [maxLen_eq]; omega)
  have h2 := EqPr_pure a.ba b.ba (by have := ha.b; rw [maxLen_eq]; omega) (by have := hb.b; rw [maxLen_eq]; omega)
  clear ha hb
  refine PL.Pure.of_v Try.func105 (by decide) rfl Try.ntmps105 Try.results105 (by simp) rfl ?_
  simp only [go_sem, reduceIte, Nat.reduceEqDiff, reduceCtorEq, Nat.reduceLT, Nat.reduceAdd, Nat.reduceSub, Nat.reduceMul, Nat.reduceLeDiff, Int.reduceLT, Int.reduceLE, Int.reduceToNat, Int.reduceEq, Int.reduceAdd, Int.reduceSub, Int.reduceNeg, Int.reduceBNe, Int.reduceBEq, lns, ref_fold]
  repeat' (first | (refine vGuard_t (fun h => ?_) (fun h => ?_) <;> (try simp only [go_sem, reduceIte, Nat.reduceEqDiff, reduceCtorEq, Nat.reduceLT, Nat.reduceAdd, Nat.reduceSub, Nat.reduceMul, Nat.reduceLeDiff, Int.reduceLT, Int.reduceLE, Int.reduceToNat, Int.reduceEq, Int.reduceAdd, Int.reduceSub, Int.reduceNeg, Int.reduceBNe, Int.reduceBEq, h, ref_fold])) | (refine vGuard_f (fun h => ?_) (fun h => ?_) <;> (try simp only [go_sem, reduceIte, Nat.reduceEqDiff, reduceCtorEq, Nat.reduceLT, Nat.reduceAdd, Nat.reduceSub, Nat.reduceMul, Nat.reduceLeDiff, Int.reduceLT, Int.reduceLE, Int.reduceToNat, Int.reduceEq, Int.reduceAdd, Int.reduceSub, Int.reduceNeg, Int.reduceBNe, Int.reduceBEq, h, ref_fold])) | (refine vCond_b (fun h => ?_) (fun h => ?_) <;> (try simp only [go_sem, reduceIte, Nat.reduceEqDiff, reduceCtorEq, Nat.reduceLT, Nat.reduceAdd, Nat.reduceSub, Nat.reduceMul, Nat.reduceLeDiff, Int.reduceLT, Int.reduceLE, Int.reduceToNat, Int.reduceEq, Int.reduceAdd, Int.reduceSub, Int.reduceNeg, Int.reduceBNe, Int.reduceBEq, h, ref_fold])) | ((refine vCall_of (hF) ?_ ?_ ?_); (focus simp only [go_sem, reduceIte, Nat.reduceEqDiff, reduceCtorEq, Nat.reduceLT, Nat.reduceAdd, Nat.reduceSub, Nat.reduceMul, Nat.reduceLeDiff, Int.reduceLT, Int.reduceLE, Int.reduceToNat, Int.reduceEq, Int.reduceAdd, Int.reduceSub, Int.reduceNeg, Int.reduceBNe, Int.reduceBEq, fld, prs]); (focus exact rfl); (try simp only [go_sem, reduceIte, Nat.reduceEqDiff, reduceCtorEq, Nat.reduceLT, Nat.reduceAdd, Nat.reduceSub, Nat.reduceMul, Nat.reduceLeDiff, Int.reduceLT, Int.reduceLE, Int.reduceToNat, Int.reduceEq, Int.reduceAdd, Int.reduceSub, Int.reduceNeg, Int.reduceBNe, Int.reduceBEq, ref_fold])) | ((refine vCall_of (h1) ?_ ?_ ?_); (focus simp only [go_sem, reduceIte, Nat.reduceEqDiff, reduceCtorEq, Nat.reduceLT, Nat.reduceAdd, Nat.reduceSub, Nat.reduceMul, Nat.reduceLeDiff, Int.reduceLT, Int.reduceLE, Int.reduceToNat, Int.reduceEq, Int.reduceAdd, Int.reduceSub, Int.reduceNeg, Int.reduceBNe, Int.reduceBEq, fld, prs]); (focus exact rfl); (try simp only [go_sem, reduceIte, Nat.reduceEqDiff, reduceCtorEq, Nat.reduceLT, Nat.reduceAdd, Nat.reduceSub, Nat.reduceMul, Nat.reduceLeDiff, Int.reduceLT, Int.reduceLE, Int.reduceToNat, Int.reduceEq, Int.reduceAdd, Int.reduceSub, Int.reduceNeg, Int.reduceBNe, Int.reduceBEq, ref_fold])) | ((refine vCall_of (h2) ?_ ?_ ?_); (focus simp only [go_sem, reduceIte, Nat.reduceEqDiff, reduceCtorEq, Nat.reduceLT, Nat.reduceAdd, Nat.reduceSub, Nat.reduceMul, Nat.reduceLeDiff, Int.reduceLT, Int.reduceLE, Int.reduceToNat, Int.reduceEq, Int.reduceAdd, Int.reduceSub, Int.reduceNeg, Int.reduceBNe, Int.reduceBEq, fld, prs]); (focus exact rfl); (try simp only [go_sem, reduceIte, Nat.reduceEqDiff, reduceCtorEq, Nat.reduceLT, Nat.reduceAdd, Nat.reduceSub, Nat.reduceMul, Nat.reduceLeDiff, Int.reduceLT, Int.reduceLE, Int.reduceToNat, Int.reduceEq, Int.reduceAdd, Int.reduceSub, Int.reduceNeg, Int.reduceBNe, Int.reduceBEq, ref_fold])) | ((refine vDrawQ (by kernel_rfl) (by kernel_rfl) ?_); (try simp only [go_sem, reduceIte, Nat.reduceEqDiff, reduceCtorEq, Nat.reduceLT, Nat.reduceAdd, Nat.reduceSub, Nat.reduceMul, Nat.reduceLeDiff, Int.reduceLT, Int.reduceLE, Int.reduceToNat, Int.reduceEq, Int.reduceAdd, Int.reduceSub, Int.reduceNeg, Int.reduceBNe, Int.reduceBEq, ref_fold])))
  all_goals (clear hF h1 h2; (cases a; cases b; simp_all) <;> rfl)
set_option maxRecDepth 20000 in
set_option maxHeartbeats 8000000 in
theorem RLSame_pure (a b : Ln) (ha : OkLn a) (hb : OkLn b) : PL.Pure Try.prog 19 [lns a, lns b] (.bool (decide (a = b))) := by
  have hF := RFSame_pure a.fd b.fd (by have := ha.c; rw [maxLen_eq]; omega) (by have := hb.c; rw [maxLen_eq]; omega)
  have h1 := REqPr_pure a.fo b.fo (by have := ha.f; rw [maxLen_eq]; omega) (by have := hb.f; rw [maxLen_eq]; omega)
  have h2 := REqPr_pure a.ba b.ba (by have := ha.b; rw [maxLen_eq]; omega) (by have := hb.b; rw [maxLen_eq]; omega)
  clear ha hb
  refine PL.Pure.of_v Try.func19 (by decide) rfl Try.ntmps19 Try.results19 (by simp) rfl ?_
  simp only [go_sem, reduceIte, Nat.reduceEqDiff, reduceCtorEq, Nat.reduceLT, Nat.reduceAdd, Nat.reduceSub, Nat.reduceMul, Nat.reduceLeDiff, Int.reduceLT, Int.reduceLE, Int.reduceToNat, Int.reduceEq, Int.reduceAdd, Int.reduceSub, Int.reduceNeg, Int.reduceBNe, Int.reduceBEq, lns, ref_fold]
  repeat' (first | (refine vGuard_t (fun h => ?_) (fun h => ?_) <;> (try simp only [go_sem, reduceIte, Nat.reduceEqDiff, reduceCtorEq, Nat.reduceLT, Nat.reduceAdd, Nat.reduceSub, Nat.reduceMul, Nat.reduceLeDiff, Int.reduceLT, Int.reduceLE, Int.reduceToNat, Int.reduceEq, Int.reduceAdd, Int.reduceSub, Int.reduceNeg, Int.reduceBNe, Int.reduceBEq, h, ref_fold])) | (refine vGuard_f (fun h => ?_) (fun h => ?_) <;> (try simp only [go_sem, reduceIte, Nat.reduceEqDiff, reduceCtorEq, Nat.reduceLT, Nat.reduceAdd, Nat.reduceSub, Nat.reduceMul, Nat.reduceLeDiff, Int.reduceLT, Int.reduceLE, Int.reduceToNat, Int.reduceEq, Int.reduceAdd, Int.reduceSub, Int.reduceNeg, Int.reduceBNe, Int.reduceBEq, h, ref_fold])) | (refine vCond_b (fun h => ?_) (fun h => ?_) <;> (try simp only [go_sem, reduceIte, Nat.reduceEqDiff, reduceCtorEq, Nat.reduceLT, Nat.reduceAdd, Nat.reduceSub, Nat.reduceMul, Nat.reduceLeDiff, Int.reduceLT, Int.reduceLE, Int.reduceToNat, Int.reduceEq, Int.reduceAdd, Int.reduceSub, Int.reduceNeg, Int.reduceBNe, Int.reduceBEq, h, ref_fold])) | ((refine vCall_of (hF) ?_ ?_ ?_); (focus simp only [go_sem, reduceIte, Nat.reduceEqDiff, reduceCtorEq, Nat.reduceLT, Nat.reduceAdd, Nat.reduceSub, Nat.reduceMul, Nat.reduceLeDiff, Int.reduceLT, Int.reduceLE, Int.reduceToNat, Int.reduceEq, Int.reduceAdd, Int.reduceSub, Int.reduceNeg, Int.reduceBNe, Int.reduceBEq, fld, prs]); (focus exact rfl); (try simp only [go_sem, reduceIte, Nat.reduceEqDiff, reduceCtorEq, Nat.reduceLT, Nat.reduceAdd, Nat.reduceSub, Nat.reduceMul, Nat.reduceLeDiff, Int.reduceLT, Int.reduceLE, Int.reduceToNat, Int.reduceEq, Int.reduceAdd, Int.reduceSub, Int.reduceNeg, Int.reduceBNe, Int.reduceBEq, ref_fold])) | ((refine vCall_of (h1) ?_ ?_ ?_); (focus simp only [go_sem, reduceIte, Nat.reduceEqDiff, reduceCtorEq, Nat.reduceLT, Nat.reduceAdd, Nat.reduceSub, Nat.reduceMul, Nat.reduceLeDiff, Int.reduceLT, Int.reduceLE, Int.reduceToNat, Int.reduceEq, Int.reduceAdd, Int.reduceSub, Int.reduceNeg, Int.reduceBNe, Int.reduceBEq, fld, prs]); (focus exact rfl); (try simp only [go_sem, reduceIte, Nat.reduceEqDiff, reduceCtorEq, Nat.reduceLT, Nat.reduceAdd, Nat.reduceSub, Nat.reduceMul, Nat.reduceLeDiff, Int.reduceLT, Int.reduceLE, Int.reduceToNat, Int.reduceEq, Int.reduceAdd, Int.reduceSub, Int.reduceNeg, Int.reduceBNe, Int.reduceBEq, ref_fold])) | ((refine vCall_of (h2) ?_ ?_ ?_); (focus simp only [go_sem, reduceIte, Nat.reduceEqDiff, reduceCtorEq, Nat.reduceLT, Nat.reduceAdd, Nat.reduceSub, Nat.reduceMul, Nat.reduceLeDiff, Int.reduceLT, Int.reduceLE, Int.reduceToNat, Int.reduceEq, Int.reduceAdd, Int.reduceSub, Int.reduceNeg, Int.reduceBNe, Int.reduceBEq, fld, prs]); (focus exact rfl); (try simp only [go_sem, reduceIte, Nat.reduceEqDiff, reduceCtorEq, Nat.reduceLT, Nat.reduceAdd, Nat.reduceSub, Nat.reduceMul, Nat.reduceLeDiff, Int.reduceLT, Int.reduceLE, Int.reduceToNat, Int.reduceEq, Int.reduceAdd, Int.reduceSub, Int.reduceNeg, Int.reduceBNe, Int.reduceBEq, ref_fold])) | ((refine vDrawQ (by kernel_rfl) (by kernel_rfl) ?_); (try simp only [go_sem, reduceIte, Nat.reduceEqDiff, reduceCtorEq, Nat.reduceLT, Nat.reduceAdd, Nat.reduceSub, Nat.reduceMul, Nat.reduceLeDiff, Int.reduceLT, Int.reduceLE, Int.reduceToNat, Int.reduceEq, Int.reduceAdd, Int.reduceSub, Int.reduceNeg, Int.reduceBNe, Int.reduceBEq, ref_fold])))
  all_goals (clear hF h1 h2; (cases a; cases b; simp_all) <;> rfl)
end Go.Proofs.Ytbojhapdidieoaa
