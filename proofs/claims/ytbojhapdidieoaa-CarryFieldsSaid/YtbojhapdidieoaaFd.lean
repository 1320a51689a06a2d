/- Contracts of functions and laws of this seat, each for every input that it names: lemmas of the proof. -/
import Derived.Test.YtbojhapdidieoaaFc
set_option linter.unusedSimpArgs false
set_option linter.unusedVariables false
set_option linter.unusedSimpArgs false
set_option linter.unusedVariables false
namespace Go.Proofs.Ytbojhapdidieoaa
open Go.PL
def SemiT (m : List Eg) : Type := { c : List Nd // Semi m c }
def skipN (c : List Nd) (i : Nat) : Prop := (c.getD i default).st ≠ 1 ∨ ((atN c (c.getD i default).e.par).st ≠ 2 ∧ (atN c (c.getD i default).e.par).st ≠ 3)
theorem last_snoc (l : List Nat) (i : Nat) : (l ++ [i]).getLast? = some i := by simp
theorem semi_pend {m : List Eg} {c : List Nd} (h : Semi m c) {i : Nat} (hi : i < m.length) (h1 : (c.getD i default).st = 1) : (c.getD i default).sch = [] ∧ (c.getD i default).dep = 0 := by
  rcases h.2 i hi with hk | ⟨_, hk⟩
  · rw [hk]; exact ⟨rfl, rfl⟩
  · exact absurd h1 hk
set_option maxRecDepth 20000 in
set_option maxHeartbeats 16000000 in
theorem settle_wr (m : List Eg) (c0 : List Nd) (ha : Apart m) (h0 : Semi m c0) (hm : ∀ e ∈ m, OkLn e.ln) (hl : m.length ≤ 1000) : PL.Wr Try.prog 91 (fun b => [.rptr [.mref b]]) (mc c0) (.tup []) (mc (treeOf m)) := by
  refine PL.Wr.of_v Try.func91 (by decide) rfl Try.ntmps91 Try.results91 (by simp) rfl (fun b => ?_)
  simp only [go_sem, reduceIte, Nat.reduceEqDiff, reduceCtorEq, Nat.reduceLT, Nat.reduceAdd, Nat.reduceSub, Nat.reduceMul, Nat.reduceLeDiff, Int.reduceLT, Int.reduceLE, Int.reduceToNat, Int.reduceEq, Int.reduceAdd, Int.reduceSub, Int.reduceNeg, Int.reduceBNe, Int.reduceBEq]
  refine vScopeO (ι := SemiT m) 61 (fun x => [(0, .rptr [.mref b])]) (fun x => []) (fun x => []) (fun x => [(b, mc x.1)]) (fun x => []) (fun x => pends x.1) 0 _ (by exact rfl) (fun x => ⟨(forall_cons rfl (forall_nil)), forall_nil⟩) (fun x => ?_) (fun cut => ?_)
  · obtain ⟨c, hc⟩ := x
    simp only
    have hcl := hc.1
    simp only [go_sem, reduceIte, Nat.reduceEqDiff, reduceCtorEq, Nat.reduceLT, Nat.reduceAdd, Nat.reduceSub, Nat.reduceMul, Nat.reduceLeDiff, Int.reduceLT, Int.reduceLE, Int.reduceToNat, Int.reduceEq, Int.reduceAdd, Int.reduceSub, Int.reduceNeg, Int.reduceBNe, Int.reduceBEq, List.map_cons, List.map_nil]
    intro ib
    simp only [go_sem, reduceIte, Nat.reduceEqDiff, reduceCtorEq, Nat.reduceLT, Nat.reduceAdd, Nat.reduceSub, Nat.reduceMul, Nat.reduceLeDiff, Int.reduceLT, Int.reduceLE, Int.reduceToNat, Int.reduceEq, Int.reduceAdd, Int.reduceSub, Int.reduceNeg, Int.reduceBNe, Int.reduceBEq, forall_const, mc, kts_len]
    refine vLoopO (ι := Seen c.length (skipN c)) 61 (fun x => [(0, .rptr [.mref b]), (11, .iptr ib)]) (fun x => []) (fun x => []) (fun x => [(b, mc c)]) (fun x => [(ib, ⟨b, c.length, x.l⟩)]) (fun x => c.length - x.l.length) ⟨[], by simp, fun i hi => by cases hi⟩
      ⟨⟨rfl, (forall_cons rfl (forall_cons rfl (forall_nil))), forall_nil, forall_nil⟩, forall_cons (by simp [upd, mc]) forall_nil, forall_cons (by simp [upd]) forall_nil⟩ (fun x => ⟨(forall_cons rfl (forall_cons rfl (forall_nil))), forall_nil⟩) (fun x => ?_)
    have hsl := x.len
    simp only [go_sem, reduceIte, Nat.reduceEqDiff, reduceCtorEq, Nat.reduceLT, Nat.reduceAdd, Nat.reduceSub, Nat.reduceMul, Nat.reduceLeDiff, Int.reduceLT, Int.reduceLE, Int.reduceToNat, Int.reduceEq, Int.reduceAdd, Int.reduceSub, Int.reduceNeg, Int.reduceBNe, Int.reduceBEq, List.map_cons, List.map_nil, mc, kts_len]
    refine ⟨fun hall => ?_, fun i hi hns => ?_⟩
    · have hdone : c = treeOf m := semi_done ha hc fun i hi => by
        have := (x.h i (hall i (by omega))).2
        unfold skipN at this
        rw [semi_e hc hi] at this
        exact this
      rw [← hdone]
    · have him : i < m.length := by omega
      have hA := at_pure c (c.getD i default).e.par
      obtain ⟨ok1, ok2, ok3⟩ := okAtN hm hc (c.getD i default).e.par
      have hL := Apply_pure (atN c (c.getD i default).e.par).sch (c.getD i default).e.ln ok1 (by rw [semi_e hc him]; exact hm _ (getD_mem him))
      have hset := semi_ids ha hc hi
      have hwd : IntKind.i64.wrap ((atN c (c.getD i default).e.par).dep + 1) = (atN c (c.getD i default).e.par).dep + 1 := w64 (by omega)
      have hnx : ∀ (s' : St) (j : Seen c.length (skipN c)), j.l.length = x.l.length + 1 → HasO 61 [(0, .rptr [.mref b]), (11, .iptr ib)] [] [] [(b, mc c)] [(ib, ⟨b, c.length, j.l⟩)] s' → NextO 61 (fun x => [(0, .rptr [.mref b]), (11, .iptr ib)]) (fun x => []) (fun x => []) (fun x => [(b, mc c)]) (fun x => [(ib, ⟨b, c.length, x.l⟩)]) (fun x : Seen c.length (skipN c) => c.length - x.l.length) x s' := fun s' j hj hh => ⟨j, by have := j.len; show c.length - j.l.length < c.length - x.l.length; omega, hh⟩
      by_cases h1 : (c.getD i default).st = 1
      · obtain ⟨hp1, hp2⟩ := semi_pend hc him h1
        have e1 : ((c.getD i default).st != 1) = false := by rw [h1]; rfl
        simp only [go_sem, reduceIte, Nat.reduceEqDiff, reduceCtorEq, Nat.reduceLT, Nat.reduceAdd, Nat.reduceSub, Nat.reduceMul, Nat.reduceLeDiff, Int.reduceLT, Int.reduceLE, Int.reduceToNat, Int.reduceEq, Int.reduceAdd, Int.reduceSub, Int.reduceNeg, Int.reduceBNe, Int.reduceBEq, last_snoc, getD_nd hi, getD_kt hi, hi, kts_len, tg, nd, e1]
        refine vCall_sl hA (nomap_nd _) ?_ ?_ ?_
        · simp only [go_sem, reduceIte, Nat.reduceEqDiff, reduceCtorEq, Nat.reduceLT, Nat.reduceAdd, Nat.reduceSub, Nat.reduceMul, Nat.reduceLeDiff, Int.reduceLT, Int.reduceLE, Int.reduceToNat, Int.reduceEq, Int.reduceAdd, Int.reduceSub, Int.reduceNeg, Int.reduceBNe, Int.reduceBEq]
        · simp only [go_sem, reduceIte, Nat.reduceEqDiff, reduceCtorEq, Nat.reduceLT, Nat.reduceAdd, Nat.reduceSub, Nat.reduceMul, Nat.reduceLeDiff, Int.reduceLT, Int.reduceLE, Int.reduceToNat, Int.reduceEq, Int.reduceAdd, Int.reduceSub, Int.reduceNeg, Int.reduceBNe, Int.reduceBEq, tr, tg, kts, nds]
        by_cases hs2 : (atN c (c.getD i default).e.par).st = 2
        · have e2 : ((atN c (c.getD i default).e.par).st != 2) = false := by rw [hs2]; rfl
          have e2' : ((atN c (c.getD i default).e.par).st == 2) = true := by rw [hs2]; rfl
          have hsem := semi_set ha hc hi (.inl hs2)
          simp only [go_sem, reduceIte, Nat.reduceEqDiff, reduceCtorEq, Nat.reduceLT, Nat.reduceAdd, Nat.reduceSub, Nat.reduceMul, Nat.reduceLeDiff, Int.reduceLT, Int.reduceLE, Int.reduceToNat, Int.reduceEq, Int.reduceAdd, Int.reduceSub, Int.reduceNeg, Int.reduceBNe, Int.reduceBEq, nd, e2, e2']
          refine vCall_of (hL) ?_ ?_ ?_; (focus simp only [go_sem, reduceIte, Nat.reduceEqDiff, reduceCtorEq, Nat.reduceLT, Nat.reduceAdd, Nat.reduceSub, Nat.reduceMul, Nat.reduceLeDiff, Int.reduceLT, Int.reduceLE, Int.reduceToNat, Int.reduceEq, Int.reduceAdd, Int.reduceSub, Int.reduceNeg, Int.reduceBNe, Int.reduceBEq, flds, lns]); (focus simp only [go_sem, reduceIte, Nat.reduceEqDiff, reduceCtorEq, Nat.reduceLT, Nat.reduceAdd, Nat.reduceSub, Nat.reduceMul, Nat.reduceLeDiff, Int.reduceLT, Int.reduceLE, Int.reduceToNat, Int.reduceEq, Int.reduceAdd, Int.reduceSub, Int.reduceNeg, Int.reduceBNe, Int.reduceBEq, flds, lns])
          simp only [go_sem, reduceIte, Nat.reduceEqDiff, reduceCtorEq, Nat.reduceLT, Nat.reduceAdd, Nat.reduceSub, Nat.reduceMul, Nat.reduceLeDiff, Int.reduceLT, Int.reduceLE, Int.reduceToNat, Int.reduceEq, Int.reduceAdd, Int.reduceSub, Int.reduceNeg, Int.reduceBNe, Int.reduceBEq, fldsc, flds]
          by_cases hz : (applyM (atN c (c.getD i default).e.par).sch (c.getD i default).e.ln).2 = 0
          · have hnn : nextN (c.getD i default).e (atN c (c.getD i default).e.par) = ⟨(c.getD i default).e, 2, (applyM (atN c (c.getD i default).e.par).sch (c.getD i default).e.ln).1, (atN c (c.getD i default).e.par).dep + 1⟩ := by unfold nextN; rw [if_pos ⟨hs2, hz⟩]
            simp only [go_sem, reduceIte, Nat.reduceEqDiff, reduceCtorEq, Nat.reduceLT, Nat.reduceAdd, Nat.reduceSub, Nat.reduceMul, Nat.reduceLeDiff, Int.reduceLT, Int.reduceLE, Int.reduceToNat, Int.reduceEq, Int.reduceAdd, Int.reduceSub, Int.reduceNeg, Int.reduceBNe, Int.reduceBEq, hz]
            refine vDrawS [(4, 3)] (by kernel_rfl) (by kernel_rfl) (by exact rfl) ?_
            simp only [go_sem, reduceIte, Nat.reduceEqDiff, reduceCtorEq, Nat.reduceLT, Nat.reduceAdd, Nat.reduceSub, Nat.reduceMul, Nat.reduceLeDiff, Int.reduceLT, Int.reduceLE, Int.reduceToNat, Int.reduceEq, Int.reduceAdd, Int.reduceSub, Int.reduceNeg, Int.reduceBNe, Int.reduceBEq, hwd]
            refine vDrawQ (by kernel_rfl) (by kernel_rfl) ?_
            simp only [go_sem, reduceIte, Nat.reduceEqDiff, reduceCtorEq, Nat.reduceLT, Nat.reduceAdd, Nat.reduceSub, Nat.reduceMul, Nat.reduceLeDiff, Int.reduceLT, Int.reduceLE, Int.reduceToNat, Int.reduceEq, Int.reduceAdd, Int.reduceSub, Int.reduceNeg, Int.reduceBNe, Int.reduceBEq, findP_tags0, hset]
            refine ⟨⟨_, hsem⟩, pends_set hi h1 (nextN_st _ _), ⟨⟨rfl, (forall_cons rfl (forall_nil)), forall_nil, forall_nil⟩, forall_cons ?_ forall_nil, forall_nil⟩⟩
            simp only [upd_same]
            rw [kts_set c i _ (nextN_e _ _), nds_set, hnn]
            rfl
          · have hnn : nextN (c.getD i default).e (atN c (c.getD i default).e.par) = ⟨(c.getD i default).e, 3, [], 0⟩ := by unfold nextN; rw [if_neg (fun hh => hz hh.2)]
            have hzb : ((applyM (atN c (c.getD i default).e.par).sch (c.getD i default).e.ln).2 == 0) = false := by simpa using hz
            simp only [go_sem, reduceIte, Nat.reduceEqDiff, reduceCtorEq, Nat.reduceLT, Nat.reduceAdd, Nat.reduceSub, Nat.reduceMul, Nat.reduceLeDiff, Int.reduceLT, Int.reduceLE, Int.reduceToNat, Int.reduceEq, Int.reduceAdd, Int.reduceSub, Int.reduceNeg, Int.reduceBNe, Int.reduceBEq, hzb]
            refine vDrawQ (by kernel_rfl) (by kernel_rfl) ?_
            simp only [go_sem, reduceIte, Nat.reduceEqDiff, reduceCtorEq, Nat.reduceLT, Nat.reduceAdd, Nat.reduceSub, Nat.reduceMul, Nat.reduceLeDiff, Int.reduceLT, Int.reduceLE, Int.reduceToNat, Int.reduceEq, Int.reduceAdd, Int.reduceSub, Int.reduceNeg, Int.reduceBNe, Int.reduceBEq, findP_tags0, hset]
            refine ⟨⟨_, hsem⟩, pends_set hi h1 (nextN_st _ _), ⟨⟨rfl, (forall_cons rfl (forall_nil)), forall_nil, forall_nil⟩, forall_cons ?_ forall_nil, forall_nil⟩⟩
            simp only [upd_same]
            rw [kts_set c i _ (nextN_e _ _), nds_set, hnn]
            simp only [nd, hp1, hp2]
        · by_cases hs3 : (atN c (c.getD i default).e.par).st = 3
          · have e2 : ((atN c (c.getD i default).e.par).st != 2) = true := by rw [hs3]; rfl
            have e2' : ((atN c (c.getD i default).e.par).st == 2) = false := by rw [hs3]; rfl
            have e3 : ((atN c (c.getD i default).e.par).st != 3) = false := by rw [hs3]; rfl
            have hsem := semi_set ha hc hi (.inr hs3)
            have hnn : nextN (c.getD i default).e (atN c (c.getD i default).e.par) = ⟨(c.getD i default).e, 3, [], 0⟩ := by unfold nextN; rw [if_neg (fun hh => hs2 hh.1)]
            simp only [go_sem, reduceIte, Nat.reduceEqDiff, reduceCtorEq, Nat.reduceLT, Nat.reduceAdd, Nat.reduceSub, Nat.reduceMul, Nat.reduceLeDiff, Int.reduceLT, Int.reduceLE, Int.reduceToNat, Int.reduceEq, Int.reduceAdd, Int.reduceSub, Int.reduceNeg, Int.reduceBNe, Int.reduceBEq, nd, e2, e2', e3]
            refine vDrawQ (by kernel_rfl) (by kernel_rfl) ?_
            simp only [go_sem, reduceIte, Nat.reduceEqDiff, reduceCtorEq, Nat.reduceLT, Nat.reduceAdd, Nat.reduceSub, Nat.reduceMul, Nat.reduceLeDiff, Int.reduceLT, Int.reduceLE, Int.reduceToNat, Int.reduceEq, Int.reduceAdd, Int.reduceSub, Int.reduceNeg, Int.reduceBNe, Int.reduceBEq, findP_tags0, hset]
            refine ⟨⟨_, hsem⟩, pends_set hi h1 (nextN_st _ _), ⟨⟨rfl, (forall_cons rfl (forall_nil)), forall_nil, forall_nil⟩, forall_cons ?_ forall_nil, forall_nil⟩⟩
            simp only [upd_same]
            rw [kts_set c i _ (nextN_e _ _), nds_set, hnn]
            simp only [nd, hp1, hp2]
          · have e2 : ((atN c (c.getD i default).e.par).st != 2) = true := by simpa using hs2
            have e3 : ((atN c (c.getD i default).e.par).st != 3) = true := by simpa using hs3
            simp only [go_sem, reduceIte, Nat.reduceEqDiff, reduceCtorEq, Nat.reduceLT, Nat.reduceAdd, Nat.reduceSub, Nat.reduceMul, Nat.reduceLeDiff, Int.reduceLT, Int.reduceLE, Int.reduceToNat, Int.reduceEq, Int.reduceAdd, Int.reduceSub, Int.reduceNeg, Int.reduceBNe, Int.reduceBEq, nd, e2, e3]
            refine hnx _ (x.next i hi (.inr ⟨hs2, hs3⟩) hns) (by simp [Seen.next]) ?_
            exact ⟨⟨rfl, (forall_cons rfl (forall_cons rfl (forall_nil))), forall_nil, forall_nil⟩, forall_cons (by simp [upd, mc]) forall_nil, forall_cons (by simp [upd, Seen.next]) forall_nil⟩
      · have e1 : ((c.getD i default).st != 1) = true := by simpa using h1
        simp only [go_sem, reduceIte, Nat.reduceEqDiff, reduceCtorEq, Nat.reduceLT, Nat.reduceAdd, Nat.reduceSub, Nat.reduceMul, Nat.reduceLeDiff, Int.reduceLT, Int.reduceLE, Int.reduceToNat, Int.reduceEq, Int.reduceAdd, Int.reduceSub, Int.reduceNeg, Int.reduceBNe, Int.reduceBEq, last_snoc, getD_nd hi, getD_kt hi, hi, kts_len, tg, nd, e1]
        refine hnx _ (x.next i hi (.inl h1) hns) (by simp [Seen.next]) ?_
        exact ⟨⟨rfl, (forall_cons rfl (forall_cons rfl (forall_nil))), forall_nil, forall_nil⟩, forall_cons (by simp [upd, mc]) forall_nil, forall_cons (by simp [upd, Seen.next]) forall_nil⟩
  · simp only [go_sem, reduceIte, Nat.reduceEqDiff, reduceCtorEq, Nat.reduceLT, Nat.reduceAdd, Nat.reduceSub, Nat.reduceMul, Nat.reduceLeDiff, Int.reduceLT, Int.reduceLE, Int.reduceToNat, Int.reduceEq, Int.reduceAdd, Int.reduceSub, Int.reduceNeg, Int.reduceBNe, Int.reduceBEq]
    exact awp_label_seq (cut ⟨c0, h0⟩ _ ⟨⟨rfl, (forall_cons rfl (forall_nil)), forall_nil, forall_nil⟩, forall_cons (by simp [upd]) forall_nil, forall_nil⟩)
end Go.Proofs.Ytbojhapdidieoaa
