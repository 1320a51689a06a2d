/- Contracts of functions and laws of this seat, each for every input that it names: lemmas of the proof. -/
import Derived.Test.YtbojhapdidieoaaGreatXCb
set_option linter.unusedSimpArgs false
set_option linter.unusedVariables false
set_option linter.unusedSimpArgs false
set_option linter.unusedVariables false
namespace Go.Proofs.YtbojhapdidieoaaGreat
open Go.PL
theorem up_at (p : List Eg) {k : Nat} (hk : k < p.length) : (upL p).getD k default = (p.getD (p.length - 1 - k) default).id := by
  have h := upL_get p (p.length - 1 - k) (by omega)
  rwa [show p.length - (p.length - 1 - k) - 1 = k by omega] at h
theorem up_not {m : List Eg} (ha : Apart m) {a b : Tg} {p q : List Eg} (hp : Way m a p) (hq : Way m b q) {k : Nat} (hk : k < p.length - lcp p q) : (upL p).getD k default ∉ upL q := by
  have ht : p.length - 1 - k < p.length := by omega
  have hin : p.getD (p.length - 1 - k) default ∈ p.drop (lcp p q) := by
    rw [getD_lt ht, List.mem_drop_iff_getElem]
    exact ⟨p.length - 1 - k - lcp p q, by omega, by congr 1; omega⟩
  have hpm := hp.mem _ (getD_mem (d := default) ht)
  rw [up_at p (by omega)]
  intro hm
  unfold upL at hm
  rcases List.mem_append.1 hm with hm | hm
  · obtain ⟨e2, he2, hid⟩ := List.mem_map.1 hm
    have he2 : e2 ∈ q := List.mem_reverse.1 he2
    rw [← List.take_append_drop (lcp p q) q] at he2
    rcases List.mem_append.1 he2 with h2 | h2
    · rw [← lcp_take] at h2
      have e : e2 = p.getD (p.length - 1 - k) default := ha.inj (hp.mem _ (List.mem_of_mem_take h2)) hpm hid
      have hn := hp.nodup
      rw [← List.take_append_drop (lcp p q) p] at hn
      exact (List.nodup_append.1 hn).2.2 _ h2 _ hin e
    · exact stops_apart ha hp hq hin h2 hid.symm
  · exact ha.n _ hpm (by simpa using hm)
theorem meet_up (p q : List Eg) : (upL q).getD (q.length - lcp p q) default = meetT p q := by
  have := upL_at q p
  rw [lcp_comm q p] at this
  rw [this, meet_comm]
theorem up_meet (p q : List Eg) : meetT p q ∈ upL q := by
  rw [← meet_up]
  exact getD_mem (by rw [upL_len]; omega)
theorem hasT_at {l : List Tg} (hn : l.Nodup) {k : Nat} (hk : k < l.length) : hasT l (l.getD k default) = (k : Int) := by
  unfold hasT idx
  have h : l.findIdx? (fun x => decide (x = l.getD k default)) = some k := by
    rw [List.findIdx?_eq_some_iff_getElem]
    refine ⟨hk, by rw [getD_lt hk]; simp, fun j hj => ?_⟩
    rw [getD_lt hk]
    have := List.pairwise_iff_getElem.1 hn j k (by omega) hk hj
    simpa using this
  rw [h]
theorem has_meet {m : List Eg} (ha : Apart m) {b : Tg} {p q : List Eg} (hq : Way m b q) : hasT (upL q) (meetT p q) = ((q.length - lcp p q : Nat) : Int) := by
  have h := hasT_at (upL_nodup ha hq.mem hq.nodup) (k := q.length - lcp p q) (by rw [upL_len]; omega)
  rwa [meet_up] at h
set_option maxRecDepth 20000 in
set_option maxHeartbeats 16000000 in
theorem RMeet_pure (m : List Eg) (a b : Tg) (hm : OkM m) : PL.Pure Tryz.prog 13 [egs m, tg a, tg b] (tgc (meetM m a b)) := by
  have hA := RUp_pure m a hm
  have hB := RUp_pure m b hm
  unfold meetM pathC
  unfold upM at hA hB
  by_cases ca : upC m a = 0
  · rw [if_neg (fun h => h ca)] at hA
    by_cases cb : upC m b = 0
    · rw [if_neg (fun h => h cb)] at hB
      simp only [ca, cb, ne_eq, not_true_eq_false, if_false]
      obtain ⟨wa, _, _⟩ := live_way ca
      obtain ⟨wb, _, _⟩ := live_way cb
      have hpl : (wayD m a).length ≤ 40 := by have := wa.len; have := hm.n; omega
      have hql : (wayD m b).length ≤ 40 := by have := wb.len; have := hm.n; omega
      generalize wayD m a = p at *
      generalize wayD m b = q at *
      have lc := lcp_le p q
      refine PL.Pure.of_v Tryz.func13 (by decide) rfl Tryz.ntmps13 Tryz.results13 (by simp) (tgc_dids _) ?_
      simp only [go_sem, reduceIte, Nat.reduceEqDiff, reduceCtorEq, Nat.reduceLT, Nat.reduceAdd, Nat.reduceSub, Nat.reduceMul, Nat.reduceLeDiff, Int.reduceLT, Int.reduceLE, Int.reduceToNat, Int.reduceEq, Int.reduceAdd, Int.reduceSub, Int.reduceNeg, Int.reduceBNe, Int.reduceBEq, egs, tg]
      refine vCall_of (hA) ?_ ?_ ?_; (focus simp only [go_sem, reduceIte, Nat.reduceEqDiff, reduceCtorEq, egs, tg]); (focus simp only [go_sem, reduceIte, Nat.reduceEqDiff, reduceCtorEq, egs, tg])
      simp only [go_sem, reduceIte, Nat.reduceEqDiff, reduceCtorEq, Nat.reduceLT, Nat.reduceAdd, Nat.reduceSub, Nat.reduceMul, Nat.reduceLeDiff, Int.reduceLT, Int.reduceLE, Int.reduceToNat, Int.reduceEq, Int.reduceAdd, Int.reduceSub, Int.reduceNeg, Int.reduceBNe, Int.reduceBEq, tgsc]
      refine vCall_of (hB) ?_ ?_ ?_; (focus simp only [go_sem, reduceIte, Nat.reduceEqDiff, reduceCtorEq, egs, tg]); (focus simp only [go_sem, reduceIte, Nat.reduceEqDiff, reduceCtorEq, egs, tg])
      simp only [go_sem, reduceIte, Nat.reduceEqDiff, reduceCtorEq, Nat.reduceLT, Nat.reduceAdd, Nat.reduceSub, Nat.reduceMul, Nat.reduceLeDiff, Int.reduceLT, Int.reduceLE, Int.reduceToNat, Int.reduceEq, Int.reduceAdd, Int.reduceSub, Int.reduceNeg, Int.reduceBNe, Int.reduceBEq, tgsc]
      refine vLoopM (ι := { k : Nat // k ≤ p.length - lcp p q }) 51 (fun x => [(6, .ptr 6 0), (8, tgs (upL p)), (10, tgs (upL q)), (12, .int .i64 (x.1 : Int))]) (fun x => [(6, [.int .i64 0, .int .i64 0], false)]) (fun x => []) (fun x => p.length - x.1) ⟨0, Nat.zero_le _⟩
        ⟨rfl, (forall_cons rfl (forall_cons rfl (forall_cons rfl (forall_cons rfl (forall_nil))))), forall_cons ⟨rfl, rfl⟩ forall_nil, forall_nil⟩ (fun x => ⟨forall_cons rfl (forall_cons rfl (forall_cons rfl (forall_cons rfl forall_nil))), (forall_cons rfl (forall_nil))⟩) (fun x => ?_)
      obtain ⟨k, hk⟩ := x
      simp only
      have hkl : k < (upL p).length := by rw [upL_len]; omega
      have h1 : (k : Int) < ((upL p).length : Int) := by omega
      have h0 : (0 : Int) ≤ (k : Int) := by omega
      have hI := RHas18_pure (upL q) ((upL p).getD k default) (by rw [upL_len, maxLen_eq]; omega)
      by_cases he : k = p.length - lcp p q
      · have hv : (upL p).getD k default = meetT p q := by rw [he]; exact upL_at p q
        rw [hv] at hI
        have h2 := hasT_yes (up_meet p q)
        simp only [go_sem, reduceIte, Nat.reduceEqDiff, reduceCtorEq, Nat.reduceLT, Nat.reduceAdd, Nat.reduceSub, Nat.reduceMul, Nat.reduceLeDiff, Int.reduceLT, Int.reduceLE, Int.reduceToNat, Int.reduceEq, Int.reduceAdd, Int.reduceSub, Int.reduceNeg, Int.reduceBNe, Int.reduceBEq, tgs, h1, h0, List.length_map, getD_tg hkl, hv, tg]
        refine vCall_of (hI) ?_ ?_ ?_; (focus simp only [go_sem, reduceIte, Nat.reduceEqDiff, reduceCtorEq, tgs, tg]); (focus simp only [go_sem, reduceIte, Nat.reduceEqDiff, reduceCtorEq, tgs, tg])
        simp only [go_sem, reduceIte, Nat.reduceEqDiff, reduceCtorEq, Nat.reduceLT, Nat.reduceAdd, Nat.reduceSub, Nat.reduceMul, Nat.reduceLeDiff, Int.reduceLT, Int.reduceLE, Int.reduceToNat, Int.reduceEq, Int.reduceAdd, Int.reduceSub, Int.reduceNeg, Int.reduceBNe, Int.reduceBEq, h2, h0, h1, List.length_map, getD_tg hkl, hv, tg, tgs, tgc]
      · have hnot := up_not hm.a wa wb (k := k) (by omega)
        rw [hasT_no hnot] at hI
        have w1 : IntKind.i64.wrap ((k : Int) + 1) = ((k + 1 : Nat) : Int) := by rw [w64 (by omega)]; rfl
        simp only [go_sem, reduceIte, Nat.reduceEqDiff, reduceCtorEq, Nat.reduceLT, Nat.reduceAdd, Nat.reduceSub, Nat.reduceMul, Nat.reduceLeDiff, Int.reduceLT, Int.reduceLE, Int.reduceToNat, Int.reduceEq, Int.reduceAdd, Int.reduceSub, Int.reduceNeg, Int.reduceBNe, Int.reduceBEq, tgs, h1, h0, List.length_map, getD_tg hkl, tg]
        refine vCall_of (hI) ?_ ?_ ?_; (focus simp only [go_sem, reduceIte, Nat.reduceEqDiff, reduceCtorEq, tgs, tg]); (focus simp only [go_sem, reduceIte, Nat.reduceEqDiff, reduceCtorEq, tgs, tg])
        simp only [go_sem, reduceIte, Nat.reduceEqDiff, reduceCtorEq, Nat.reduceLT, Nat.reduceAdd, Nat.reduceSub, Nat.reduceMul, Nat.reduceLeDiff, Int.reduceLT, Int.reduceLE, Int.reduceToNat, Int.reduceEq, Int.reduceAdd, Int.reduceSub, Int.reduceNeg, Int.reduceBNe, Int.reduceBEq, w1]
        exact ⟨⟨k + 1, by omega⟩, by show p.length - (k + 1) < p.length - k; omega, ⟨rfl, (forall_cons rfl (forall_cons rfl (forall_cons rfl (forall_cons rfl (forall_nil))))), forall_cons ⟨rfl, rfl⟩ forall_nil, forall_nil⟩⟩
    · rw [if_pos cb] at hB
      have cb' : (upC m b != 0) = true := by simpa using cb
      simp only [ca, cb, ne_eq, not_true_eq_false, not_false_eq_true, if_true, if_false]
      refine PL.Pure.of_v Tryz.func13 (by decide) rfl Tryz.ntmps13 Tryz.results13 (by simp) (tgc_dids _) ?_
      simp only [go_sem, reduceIte, Nat.reduceEqDiff, reduceCtorEq, Nat.reduceLT, Nat.reduceAdd, Nat.reduceSub, Nat.reduceMul, Nat.reduceLeDiff, Int.reduceLT, Int.reduceLE, Int.reduceToNat, Int.reduceEq, Int.reduceAdd, Int.reduceSub, Int.reduceNeg, Int.reduceBNe, Int.reduceBEq, egs, tg]
      refine vCall_of (hA) ?_ ?_ ?_; (focus simp only [go_sem, reduceIte, Nat.reduceEqDiff, reduceCtorEq, egs, tg]); (focus simp only [go_sem, reduceIte, Nat.reduceEqDiff, reduceCtorEq, egs, tg])
      simp only [go_sem, reduceIte, Nat.reduceEqDiff, reduceCtorEq, Nat.reduceLT, Nat.reduceAdd, Nat.reduceSub, Nat.reduceMul, Nat.reduceLeDiff, Int.reduceLT, Int.reduceLE, Int.reduceToNat, Int.reduceEq, Int.reduceAdd, Int.reduceSub, Int.reduceNeg, Int.reduceBNe, Int.reduceBEq, tgsc]
      refine vCall_of (hB) ?_ ?_ ?_; (focus simp only [go_sem, reduceIte, Nat.reduceEqDiff, reduceCtorEq, egs, tg]); (focus simp only [go_sem, reduceIte, Nat.reduceEqDiff, reduceCtorEq, egs, tg])
      simp only [go_sem, reduceIte, Nat.reduceEqDiff, reduceCtorEq, Nat.reduceLT, Nat.reduceAdd, Nat.reduceSub, Nat.reduceMul, Nat.reduceLeDiff, Int.reduceLT, Int.reduceLE, Int.reduceToNat, Int.reduceEq, Int.reduceAdd, Int.reduceSub, Int.reduceNeg, Int.reduceBNe, Int.reduceBEq, tgsc, cb', tgc, tg_default]
  · rw [if_pos ca] at hA
    have ca' : (upC m a != 0) = true := by simpa using ca
    simp only [ca, ne_eq, not_false_eq_true, if_true]
    refine PL.Pure.of_v Tryz.func13 (by decide) rfl Tryz.ntmps13 Tryz.results13 (by simp) (tgc_dids _) ?_
    simp only [go_sem, reduceIte, Nat.reduceEqDiff, reduceCtorEq, Nat.reduceLT, Nat.reduceAdd, Nat.reduceSub, Nat.reduceMul, Nat.reduceLeDiff, Int.reduceLT, Int.reduceLE, Int.reduceToNat, Int.reduceEq, Int.reduceAdd, Int.reduceSub, Int.reduceNeg, Int.reduceBNe, Int.reduceBEq, egs, tg]
    refine vCall_of (hA) ?_ ?_ ?_; (focus simp only [go_sem, reduceIte, Nat.reduceEqDiff, reduceCtorEq, egs, tg]); (focus simp only [go_sem, reduceIte, Nat.reduceEqDiff, reduceCtorEq, egs, tg])
    simp only [go_sem, reduceIte, Nat.reduceEqDiff, reduceCtorEq, Nat.reduceLT, Nat.reduceAdd, Nat.reduceSub, Nat.reduceMul, Nat.reduceLeDiff, Int.reduceLT, Int.reduceLE, Int.reduceToNat, Int.reduceEq, Int.reduceAdd, Int.reduceSub, Int.reduceNeg, Int.reduceBNe, Int.reduceBEq, tgsc, ca', tgc, tg_default]
theorem upg_take (p : List Eg) (c : Nat) (hc : c ≤ p.length) : ((upL p).take (p.length - c)).map upg = (p.drop c).reverse.map fun e => upg e.id := by
  rw [upL_take p c hc, List.map_map]; rfl
set_option maxRecDepth 20000 in
set_option maxHeartbeats 16000000 in
theorem RPath_pure (m : List Eg) (a b : Tg) (hm : OkM m) : PL.Pure Tryz.prog 16 [egs m, tg a, tg b] (legsc (pathM m a b)) := by
  have hA := RUp_pure m a hm
  have hB := RUp_pure m b hm
  have hM := RMeet_pure m a b hm
  unfold pathM
  unfold meetM at hM
  by_cases hc : pathC m a b = 0
  · obtain ⟨ca, cb⟩ := pathC_zero.1 hc
    unfold upM at hA hB
    rw [if_neg (fun h => h ca)] at hA
    rw [if_neg (fun h => h cb)] at hB
    rw [if_neg (fun h => h hc)] at hM
    simp only [hc, ne_eq, not_true_eq_false, if_false]
    obtain ⟨wa, _, _⟩ := live_way ca
    obtain ⟨wb, _, _⟩ := live_way cb
    have hpl : (wayD m a).length ≤ 40 := by have := wa.len; have := hm.n; omega
    have hql : (wayD m b).length ≤ 40 := by have := wb.len; have := hm.n; omega
    generalize wayD m a = p at *
    generalize wayD m b = q at *
    have lc := lcp_le p q
    have hI := RHas18_pure (upL q) (meetT p q) (by rw [upL_len, maxLen_eq]; omega)
    rw [has_meet hm.a wb] at hI
    have hnd := upL_nodup hm.a wa.mem wa.nodup
    have w0 : IntKind.i64.wrap (((q.length - lcp p q : Nat) : Int) - 1) = ((q.length - lcp p q : Nat) : Int) - 1 := w64 (by omega)
    refine PL.Pure.of_v Tryz.func16 (by decide) rfl Tryz.ntmps16 Tryz.results16 (by simp) (legsc_dids _) ?_
    simp only [go_sem, reduceIte, Nat.reduceEqDiff, reduceCtorEq, Nat.reduceLT, Nat.reduceAdd, Nat.reduceSub, Nat.reduceMul, Nat.reduceLeDiff, Int.reduceLT, Int.reduceLE, Int.reduceToNat, Int.reduceEq, Int.reduceAdd, Int.reduceSub, Int.reduceNeg, Int.reduceBNe, Int.reduceBEq, egs, tg]
    refine vCall_of (hM) ?_ ?_ ?_; (focus simp only [go_sem, reduceIte, Nat.reduceEqDiff, reduceCtorEq, egs, tg]); (focus simp only [go_sem, reduceIte, Nat.reduceEqDiff, reduceCtorEq, egs, tg])
    simp only [go_sem, reduceIte, Nat.reduceEqDiff, reduceCtorEq, Nat.reduceLT, Nat.reduceAdd, Nat.reduceSub, Nat.reduceMul, Nat.reduceLeDiff, Int.reduceLT, Int.reduceLE, Int.reduceToNat, Int.reduceEq, Int.reduceAdd, Int.reduceSub, Int.reduceNeg, Int.reduceBNe, Int.reduceBEq, tgc, tg]
    refine vCall_of (hA) ?_ ?_ ?_; (focus simp only [go_sem, reduceIte, Nat.reduceEqDiff, reduceCtorEq, egs, tg]); (focus simp only [go_sem, reduceIte, Nat.reduceEqDiff, reduceCtorEq, egs, tg])
    simp only [go_sem, reduceIte, Nat.reduceEqDiff, reduceCtorEq, Nat.reduceLT, Nat.reduceAdd, Nat.reduceSub, Nat.reduceMul, Nat.reduceLeDiff, Int.reduceLT, Int.reduceLE, Int.reduceToNat, Int.reduceEq, Int.reduceAdd, Int.reduceSub, Int.reduceNeg, Int.reduceBNe, Int.reduceBEq, tgsc]
    refine vCall_of (hB) ?_ ?_ ?_; (focus simp only [go_sem, reduceIte, Nat.reduceEqDiff, reduceCtorEq, egs, tg]); (focus simp only [go_sem, reduceIte, Nat.reduceEqDiff, reduceCtorEq, egs, tg])
    simp only [go_sem, reduceIte, Nat.reduceEqDiff, reduceCtorEq, Nat.reduceLT, Nat.reduceAdd, Nat.reduceSub, Nat.reduceMul, Nat.reduceLeDiff, Int.reduceLT, Int.reduceLE, Int.reduceToNat, Int.reduceEq, Int.reduceAdd, Int.reduceSub, Int.reduceNeg, Int.reduceBNe, Int.reduceBEq, tgsc]
    refine awp_moveRow 14 39 55 0 3 93 [] rfl rfl rfl ?_
    refine vLoopM (ι := { k : Nat // k ≤ p.length - lcp p q }) 73 (fun x => [(8, .ptr 8 0), (10, tgs (upL p)), (12, tgs (upL q)), (14, .sl (.row 55) ((((upL p).take x.1).map upg).map lg)), (15, .int .i64 (x.1 : Int))]) (fun x => [(8, [.int .i64 (meetT p q).r, .int .i64 (meetT p q).n], false)]) (fun x => [(55, .live x.1 3 93)]) (fun x => p.length - x.1) ⟨0, Nat.zero_le _⟩
      ⟨rfl, (forall_cons rfl (forall_cons rfl (forall_cons rfl (forall_cons rfl (forall_cons rfl (forall_nil)))))), forall_cons ⟨rfl, rfl⟩ forall_nil, (forall_cons rfl (forall_nil))⟩ (fun x => ⟨forall_cons rfl (forall_cons rfl (forall_cons rfl (forall_cons (by simp [PV.ids, refInM]) (forall_cons rfl forall_nil)))), (forall_cons rfl (forall_nil))⟩) (fun x => ?_)
    obtain ⟨k, hk⟩ := x
    simp only
    have hkl : k < (upL p).length := by rw [upL_len]; omega
    have h1 : (k : Int) < ((upL p).length : Int) := by omega
    have h0 : (0 : Int) ≤ (k : Int) := by omega
    have hlen : (((upL p).take k).map upg).length = k := by simp; omega
    by_cases he : k = p.length - lcp p q
    · have hv : (upL p).getD k default = meetT p q := by rw [he]; exact upL_at p q
      have dd : decide (meetT p q = meetT p q) = true := by simp
      simp only [go_sem, reduceIte, Nat.reduceEqDiff, reduceCtorEq, Nat.reduceLT, Nat.reduceAdd, Nat.reduceSub, Nat.reduceMul, Nat.reduceLeDiff, Int.reduceLT, Int.reduceLE, Int.reduceToNat, Int.reduceEq, Int.reduceAdd, Int.reduceSub, Int.reduceNeg, Int.reduceBNe, Int.reduceBEq, tgs]
      refine vDrawQ (by kernel_rfl) (by kernel_rfl) ?_
      simp only [go_sem, reduceIte, Nat.reduceEqDiff, reduceCtorEq, Nat.reduceLT, Nat.reduceAdd, Nat.reduceSub, Nat.reduceMul, Nat.reduceLeDiff, Int.reduceLT, Int.reduceLE, Int.reduceToNat, Int.reduceEq, Int.reduceAdd, Int.reduceSub, Int.reduceNeg, Int.reduceBNe, Int.reduceBEq, h1, h0, List.length_map, getD_tg hkl, hv, tg, tg_fold, dd, Bool.not_true]
      refine vCall_of (hI) ?_ ?_ ?_; (focus simp only [go_sem, reduceIte, Nat.reduceEqDiff, reduceCtorEq, tgs, tg]); (focus simp only [go_sem, reduceIte, Nat.reduceEqDiff, reduceCtorEq, tgs, tg])
      simp only [go_sem, reduceIte, Nat.reduceEqDiff, reduceCtorEq, Nat.reduceLT, Nat.reduceAdd, Nat.reduceSub, Nat.reduceMul, Nat.reduceLeDiff, Int.reduceLT, Int.reduceLE, Int.reduceToNat, Int.reduceEq, Int.reduceAdd, Int.reduceSub, Int.reduceNeg, Int.reduceBNe, Int.reduceBEq, w0]
      refine awp_moveRow 14 55 71 k 3 93 ((((upL p).take k).map upg).map lg) rfl rfl rfl ?_
      refine vLoopM (ι := { s : Nat // s ≤ q.length - lcp p q }) 73 (fun x => [(12, tgs (upL q)), (14, .sl (.row 71) ((((upL p).take k).map upg ++ ((q.drop (lcp p q)).take x.1).map dn).map lg)), (16, .int .i64 (((q.length - lcp p q : Nat) : Int) - 1 - (x.1 : Int)))]) (fun x => []) (fun x => [(71, .live (k + x.1) 3 93)]) (fun x => q.length - lcp p q - x.1) ⟨0, Nat.zero_le _⟩
        ⟨rfl, forall_cons rfl (forall_cons (by show PV.sl _ _ = PV.sl _ _; simp) (forall_cons (by show PV.int _ _ = PV.int _ _; simp) forall_nil)), forall_nil, (forall_cons rfl (forall_nil))⟩ (fun x => ⟨forall_cons rfl (forall_cons (by simp [PV.ids, refInM]) (forall_cons rfl forall_nil)), forall_nil⟩) (fun x => ?_)
      obtain ⟨s, hs⟩ := x
      simp only
      by_cases h : s < q.length - lcp p q
      · have e0 : ((q.length - lcp p q : Nat) : Int) - 1 - (s : Int) = ((q.length - (lcp p q + s) - 1 : Nat) : Int) := by omega
        have g0 : (0 : Int) ≤ ((q.length - (lcp p q + s) - 1 : Nat) : Int) := by omega
        have k1 : q.length - (lcp p q + s) - 1 < (upL q).length := by rw [upL_len]; omega
        have g1 : ((q.length - (lcp p q + s) - 1 : Nat) : Int) < ((upL q).length : Int) := by omega
        have v1 := upL_get q (lcp p q + s) (by omega)
        have hlen2 : (((upL p).take k).map upg ++ ((q.drop (lcp p q)).take s).map dn).length = k + s := by simp; omega
        have hrm := room1 (show k + s + 1 ≤ 1000000 by omega) (show 24 ≤ 1000 by omega)
        have hnx := drop_take_snoc (q := q) (c := lcp p q) (s := s) (by omega)
        have w1 : IntKind.i64.wrap (((q.length - (lcp p q + s) - 1 : Nat) : Int) - 1) = ((q.length - lcp p q : Nat) : Int) - 1 - ((s + 1 : Nat) : Int) := by rw [w64 (by omega)]; omega
        rw [e0]
        simp only [go_sem, reduceIte, Nat.reduceEqDiff, reduceCtorEq, Nat.reduceLT, Nat.reduceAdd, Nat.reduceSub, Nat.reduceMul, Nat.reduceLeDiff, Int.reduceLT, Int.reduceLE, Int.reduceToNat, Int.reduceEq, Int.reduceAdd, Int.reduceSub, Int.reduceNeg, Int.reduceBNe, Int.reduceBEq, tgs, g0, g1, List.length_map, getD_tg k1, v1, tg, hlen2, hrm, sized_lg, w1]
        refine ⟨⟨s + 1, by omega⟩, by show q.length - lcp p q - (s + 1) < q.length - lcp p q - s; omega, ⟨rfl, forall_cons rfl (forall_cons ?_ (forall_cons rfl forall_nil)), forall_nil, forall_cons ?_ forall_nil⟩⟩
        · show PV.sl (.row 71) _ = PV.sl (.row 71) _
          rw [hnx]
          simp [lg, dn]
        · rfl
      · obtain rfl : s = q.length - lcp p q := by omega
        have g0 : ¬ (0 : Int) ≤ ((q.length - lcp p q : Nat) : Int) - 1 - ((q.length - lcp p q : Nat) : Int) := by omega
        have htk : (q.drop (lcp p q)).take (q.length - lcp p q) = q.drop (lcp p q) := List.take_of_length_le (by simp)
        have hup := upg_take p (lcp p q) lc.1
        rw [← he] at hup
        simp only [go_sem, reduceIte, Nat.reduceEqDiff, reduceCtorEq, Nat.reduceLT, Nat.reduceAdd, Nat.reduceSub, Nat.reduceMul, Nat.reduceLeDiff, Int.reduceLT, Int.reduceLE, Int.reduceToNat, Int.reduceEq, Int.reduceAdd, Int.reduceSub, Int.reduceNeg, Int.reduceBNe, Int.reduceBEq, g0, htk, hup, legsc, lgs, legsW]
    · have hne : ¬ (upL p).getD k default = meetT p q := by
        intro e
        have hv : (upL p).getD (p.length - lcp p q) default = meetT p q := upL_at p q
        have hlt : k < p.length - lcp p q := by omega
        have hl2 : p.length - lcp p q < (upL p).length := by rw [upL_len]; omega
        have := List.pairwise_iff_getElem.1 hnd k (p.length - lcp p q) hkl hl2 hlt
        rw [← getD_lt (d := default) hkl, ← getD_lt (d := default) hl2, e, hv] at this
        exact this rfl
      have dd : decide ((upL p).getD k default = meetT p q) = false := by simpa using hne
      have hrm := room1 (show k + 1 ≤ 1000000 by omega) (show 24 ≤ 1000 by omega)
      have w1 : IntKind.i64.wrap ((k : Int) + 1) = ((k + 1 : Nat) : Int) := by rw [w64 (by omega)]; rfl
      simp only [go_sem, reduceIte, Nat.reduceEqDiff, reduceCtorEq, Nat.reduceLT, Nat.reduceAdd, Nat.reduceSub, Nat.reduceMul, Nat.reduceLeDiff, Int.reduceLT, Int.reduceLE, Int.reduceToNat, Int.reduceEq, Int.reduceAdd, Int.reduceSub, Int.reduceNeg, Int.reduceBNe, Int.reduceBEq, tgs]
      refine vDrawQ (by kernel_rfl) (by kernel_rfl) ?_
      simp only [go_sem, reduceIte, Nat.reduceEqDiff, reduceCtorEq, Nat.reduceLT, Nat.reduceAdd, Nat.reduceSub, Nat.reduceMul, Nat.reduceLeDiff, Int.reduceLT, Int.reduceLE, Int.reduceToNat, Int.reduceEq, Int.reduceAdd, Int.reduceSub, Int.reduceNeg, Int.reduceBNe, Int.reduceBEq, h1, h0, List.length_map, getD_tg hkl, tg, tg_fold, dd, Bool.not_false, hlen, hrm, sized_lg, w1]
      refine ⟨⟨k + 1, by omega⟩, by show p.length - (k + 1) < p.length - k; omega, ⟨rfl, forall_cons rfl (forall_cons rfl (forall_cons rfl (forall_cons ?_ (forall_cons rfl forall_nil)))), forall_cons ⟨rfl, rfl⟩ forall_nil, forall_cons rfl forall_nil⟩⟩
      show PV.sl (.row 55) _ = PV.sl (.row 55) _
      rw [take_snoc' hkl, List.map_append, List.map_append]
      rfl
  · have hc' : (pathC m a b != 0) = true := by simpa using hc
    rw [if_pos hc] at hM
    simp only [ne_eq, hc, not_false_eq_true, if_true]
    refine PL.Pure.of_v Tryz.func16 (by decide) rfl Tryz.ntmps16 Tryz.results16 (by simp) (legsc_dids _) ?_
    simp only [go_sem, reduceIte, Nat.reduceEqDiff, reduceCtorEq, Nat.reduceLT, Nat.reduceAdd, Nat.reduceSub, Nat.reduceMul, Nat.reduceLeDiff, Int.reduceLT, Int.reduceLE, Int.reduceToNat, Int.reduceEq, Int.reduceAdd, Int.reduceSub, Int.reduceNeg, Int.reduceBNe, Int.reduceBEq, egs, tg]
    refine vCall_of (hM) ?_ ?_ ?_; (focus simp only [go_sem, reduceIte, Nat.reduceEqDiff, reduceCtorEq, egs, tg]); (focus simp only [go_sem, reduceIte, Nat.reduceEqDiff, reduceCtorEq, egs, tg])
    simp only [go_sem, reduceIte, Nat.reduceEqDiff, reduceCtorEq, Nat.reduceLT, Nat.reduceAdd, Nat.reduceSub, Nat.reduceMul, Nat.reduceLeDiff, Int.reduceLT, Int.reduceLE, Int.reduceToNat, Int.reduceEq, Int.reduceAdd, Int.reduceSub, Int.reduceNeg, Int.reduceBNe, Int.reduceBEq, tgc, tg, hc', legsc, lgs, List.map_nil]
end Go.Proofs.YtbojhapdidieoaaGreat

set_option linter.unusedSimpArgs false
set_option linter.unusedVariables false
set_option linter.unusedSimpArgs false
set_option linter.unusedVariables false
namespace Go.Proofs.YtbojhapdidieoaaGreat
open Go.PL
theorem way_par {m : List Eg} {id : Tg} {w : List Eg} (h : Way m id w) {t : Nat} (ht : t < w.length) : (w.getD t default).par = (upL w).getD (w.length - t) default := by
  have h1 := h.take t ht
  have e : w.take (t + 1) = w.take t ++ [w[t]] := by rw [List.take_add_one]; simp [ht]
  rw [e] at h1
  generalize hu : w.take t = u at h1
  have hpar : Way m (w[t]).par u := by
    generalize hi : (w[t]).id = i at h1
    generalize hx : u ++ [w[t]] = x at h1
    cases h1 with
    | root => simp at hx
    | step hn he hw' =>
      rename_i e' u'
      have := List.append_inj' hx rfl
      obtain ⟨rfl, h3⟩ := this
      have : w[t] = e' := by simpa using h3
      rw [this]
      exact hw'
  have hh := upL_head hpar
  have hs := upL_split (w.take t) (w.drop t)
  rw [List.take_append_drop, hu] at hs
  have hl : ((w.drop t).reverse.map (·.id)).length = w.length - t := by simp
  rw [hs, getD_append_right (by omega), hl, Nat.sub_self, getD_lt ht, hh]
  rfl
theorem stops_next {m : List Eg} {a : Tg} {p q : List Eg} (hp : Way m a p) {k : Nat} (hk : k < p.length - lcp p q) : (stopsW p q).getD (k + 1) default = (p.getD (p.length - 1 - k) default).par := by
  have ht : p.length - 1 - k < p.length := by omega
  rw [way_par hp ht, show p.length - (p.length - 1 - k) = k + 1 by omega, stops_eq, getD_append_left (by rw [List.length_take, upL_len]; omega)]
  rw [getD_take (by omega)]
theorem stops_down (p q : List Eg) {j : Nat} (hj : j < q.length - lcp p q) : (stopsW p q).getD (p.length - lcp p q + j + 1) default = (q.getD (lcp p q + j) default).id := by
  have hlc := lcp_le p q
  have hl : ((upL p).take (p.length - lcp p q + 1)).length = p.length - lcp p q + 1 := by rw [List.length_take, upL_len]; omega
  rw [stops_eq, getD_append_right (by omega), hl, show p.length - lcp p q + j + 1 - (p.length - lcp p q + 1) = j by omega]
  rw [getD_lt (by simp; omega), getD_lt (by omega)]
  simp
theorem legs_at (p q : List Eg) {k : Nat} (hk : k < (legsW p q).length) : (k < p.length - lcp p q ∧ (legsW p q).getD k default = upg (p.getD (p.length - 1 - k) default).id) ∨
    (∃ j, j < q.length - lcp p q ∧ k = p.length - lcp p q + j ∧ (legsW p q).getD k default = dn (q.getD (lcp p q + j) default)) := by
  have hlc := lcp_le p q
  have hl : ((p.drop (lcp p q)).reverse.map fun e => upg e.id).length = p.length - lcp p q := by simp
  have htot : (legsW p q).length = p.length - lcp p q + (q.length - lcp p q) := by simp [legsW]
  unfold legsW
  by_cases h : k < p.length - lcp p q
  · left
    refine ⟨h, ?_⟩
    rw [getD_append_left (by omega), getD_lt (by omega), getD_lt (by omega)]
    simp only [List.getElem_map, List.getElem_reverse, List.getElem_drop]
    congr 3
    simp
    omega
  · right
    refine ⟨k - (p.length - lcp p q), by omega, by omega, ?_⟩
    rw [getD_append_right (by omega), hl, getD_lt (by simp; omega), getD_lt (by omega)]
    simp
set_option maxRecDepth 20000 in
set_option maxHeartbeats 16000000 in
theorem RStops_pure (m : List Eg) (a b : Tg) (hm : OkM m) : PL.Pure Tryz.prog 18 [egs m, tg a, tg b] (tgsc (stopsM m a b)) := by
  have hP := RPath_pure m a b hm
  unfold stopsM
  unfold pathM at hP
  by_cases hc : pathC m a b = 0
  · obtain ⟨ca, cb⟩ := pathC_zero.1 hc
    rw [if_neg (fun h => h hc)] at hP
    simp only [hc, ne_eq, not_true_eq_false, if_false]
    obtain ⟨wa, _, _⟩ := live_way ca
    obtain ⟨wb, _, _⟩ := live_way cb
    have hpl : (wayD m a).length ≤ 40 := by have := wa.len; have := hm.n; omega
    have hql : (wayD m b).length ≤ 40 := by have := wb.len; have := hm.n; omega
    generalize wayD m a = p at *
    generalize wayD m b = q at *
    have lc := lcp_le p q
    have hat := fun {k} => legs_at p q (k := k)
    have hsn := fun {k} => stops_next (q := q) wa (k := k)
    have hsd := fun {j} => stops_down p q (j := j)
    have hst := stops_first q wa
    have sl := stops_len p q
    have ll : (legsW p q).length = p.length - lcp p q + (q.length - lcp p q) := by simp [legsW]
    generalize hL : legsW p q = legs at *
    generalize hS : stopsW p q = st at *
    have hlm : legs.length ≤ maxLen := by rw [maxLen_eq]; omega
    have hst1 : st.take (0 + 1) = [a] := by
      have h0 : 0 < st.length := by omega
      rw [List.take_add_one, ← hst, getD_lt h0]
      simp [h0]
    refine PL.Pure.of_v Tryz.func18 (by decide) rfl Tryz.ntmps18 Tryz.results18 (by simp) (tgsc_dids _) ?_
    simp only [go_sem, reduceIte, Nat.reduceEqDiff, reduceCtorEq, Nat.reduceLT, Nat.reduceAdd, Nat.reduceSub, Nat.reduceMul, Nat.reduceLeDiff, Int.reduceLT, Int.reduceLE, Int.reduceToNat, Int.reduceEq, Int.reduceAdd, Int.reduceSub, Int.reduceNeg, Int.reduceBNe, Int.reduceBEq, egs, tg]
    refine vCall_of (hP) ?_ ?_ ?_; (focus simp only [go_sem, reduceIte, Nat.reduceEqDiff, reduceCtorEq, egs, tg]); (focus simp only [go_sem, reduceIte, Nat.reduceEqDiff, reduceCtorEq, egs, tg])
    simp only [go_sem, reduceIte, Nat.reduceEqDiff, reduceCtorEq, Nat.reduceLT, Nat.reduceAdd, Nat.reduceSub, Nat.reduceMul, Nat.reduceLeDiff, Int.reduceLT, Int.reduceLE, Int.reduceToNat, Int.reduceEq, Int.reduceAdd, Int.reduceSub, Int.reduceNeg, Int.reduceBNe, Int.reduceBEq, legsc]
    refine awp_moveRow 10 23 42 1 2 24 [tg a] rfl rfl rfl ?_
    refine vLoopM (ι := { x : Nat × Bool // x.1 ≤ legs.length }) 58 (fun x => [(0, egs m), (8, lgs legs), (10, .sl (.row (cond x.1.2 42 56)) ((st.take (x.1.1 + 1)).map tg)), (11, .int .i64 (x.1.1 : Int))]) (fun x => []) (fun x => [(cond x.1.2 42 56, .live (x.1.1 + 1) 2 24)]) (fun x => legs.length - x.1.1) ⟨(0, true), Nat.zero_le _⟩
      ⟨rfl, forall_cons rfl (forall_cons rfl (forall_cons (by show PV.sl _ _ = PV.sl _ _; rw [hst1]; rfl) (forall_cons rfl forall_nil))), forall_nil, (forall_cons rfl (forall_nil))⟩ (fun x => ⟨forall_cons rfl (forall_cons rfl (forall_cons (by simp [PV.ids, refInM]) (forall_cons rfl forall_nil))), forall_nil⟩) (fun x => ?_)
    obtain ⟨⟨k, rb⟩, hk⟩ := x
    simp only at hk ⊢
    by_cases h : (k : Int) < (legs.length : Int)
    · have hka : k < legs.length := by omega
      have w1 := w64s hka hlm
      have i1 : (0 : Int) ≤ (k : Int) := by omega
      have hlen : (st.take (k + 1)).length = k + 1 := by rw [List.length_take]; omega
      have hrm := room1 (show k + 1 + 1 ≤ 1000000 by omega) (show 16 ≤ 1000 by omega)
      have hsk : k + 1 < st.length := by omega
      rcases hat hka with ⟨hkp, hv⟩ | ⟨j, hj, hkj, hv⟩
      · have hpm : p.getD (p.length - 1 - k) default ∈ m := wa.mem _ (getD_mem (by omega))
        have hA := RAtE_pure m (p.getD (p.length - 1 - k) default).id (by rw [maxLen_eq]; have := hm.n; omega)
        have hfe := hm.a.find hpm
        have hnx := hsn hkp
        rcases idx_find (m := m) (id := (p.getD (p.length - 1 - k) default).id) with ⟨h1, h2⟩ | ⟨i, hi, h1, h2⟩
        · rw [hfe] at h2; cases h2
        · rw [hfe] at h2
          have hii : p.getD (p.length - 1 - k) default = m.getD i default := by simpa using h2
          rw [h1] at hA
          have g0 : (0 : Int) ≤ (i : Int) := by omega
          have g1 : (i : Int) < (m.length : Int) := by omega
          rw [hii] at hnx hA hv
          cases rb
          all_goals
            simp only [cond_true, cond_false]
            simp only [go_sem, reduceIte, Nat.reduceEqDiff, reduceCtorEq, Nat.reduceLT, Nat.reduceAdd, Nat.reduceSub, Nat.reduceMul, Nat.reduceLeDiff, Int.reduceLT, Int.reduceLE, Int.reduceToNat, Int.reduceEq, Int.reduceAdd, Int.reduceSub, Int.reduceNeg, Int.reduceBNe, Int.reduceBEq, lgs, h, List.length_map, getD_lg hka, i1, hv, upg, lg]
            refine vCall_of (hA) ?_ ?_ ?_; (focus simp only [go_sem, reduceIte, Nat.reduceEqDiff, reduceCtorEq, egs, tg]); (focus simp only [go_sem, reduceIte, Nat.reduceEqDiff, reduceCtorEq, egs, tg])
            simp only [go_sem, reduceIte, Nat.reduceEqDiff, reduceCtorEq, Nat.reduceLT, Nat.reduceAdd, Nat.reduceSub, Nat.reduceMul, Nat.reduceLeDiff, Int.reduceLT, Int.reduceLE, Int.reduceToNat, Int.reduceEq, Int.reduceAdd, Int.reduceSub, Int.reduceNeg, Int.reduceBNe, Int.reduceBEq, egs, g0, g1, List.length_map, getD_eg hi, eg, hlen, hrm, sized_tg, w1]
            refine ⟨⟨(k + 1, false), by show k + 1 ≤ legs.length; omega⟩, by show legs.length - (k + 1) < legs.length - k; omega, ⟨rfl, forall_cons rfl (forall_cons rfl (forall_cons ?_ (forall_cons rfl forall_nil))), forall_nil, (forall_cons rfl (forall_nil))⟩⟩
            show PV.sl (.row 56) _ = PV.sl (.row 56) _
            rw [take_snoc' hsk, hnx, List.map_append]
            rfl
      · have hnx := hsd hj
        rw [← hkj] at hnx
        cases rb
        all_goals
          simp only [cond_true, cond_false]
          simp only [go_sem, reduceIte, Nat.reduceEqDiff, reduceCtorEq, Nat.reduceLT, Nat.reduceAdd, Nat.reduceSub, Nat.reduceMul, Nat.reduceLeDiff, Int.reduceLT, Int.reduceLE, Int.reduceToNat, Int.reduceEq, Int.reduceAdd, Int.reduceSub, Int.reduceNeg, Int.reduceBNe, Int.reduceBEq, lgs, h, List.length_map, getD_lg hka, i1, hv, dn, lg, hlen, hrm, sized_tg, w1]
          refine ⟨⟨(k + 1, true), by show k + 1 ≤ legs.length; omega⟩, by show legs.length - (k + 1) < legs.length - k; omega, ⟨rfl, forall_cons rfl (forall_cons rfl (forall_cons ?_ (forall_cons rfl forall_nil))), forall_nil, (forall_cons rfl (forall_nil))⟩⟩
          show PV.sl (.row 42) _ = PV.sl (.row 42) _
          rw [take_snoc' hsk, hnx, List.map_append]
          rfl
    · obtain rfl : k = legs.length := by omega
      have htk : st.take (legs.length + 1) = st := List.take_of_length_le (by omega)
      simp only [go_sem, reduceIte, Nat.reduceEqDiff, reduceCtorEq, Nat.reduceLT, Nat.reduceAdd, Nat.reduceSub, Nat.reduceMul, Nat.reduceLeDiff, Int.reduceLT, Int.reduceLE, Int.reduceToNat, Int.reduceEq, Int.reduceAdd, Int.reduceSub, Int.reduceNeg, Int.reduceBNe, Int.reduceBEq, lgs, h, List.length_map, htk, tgsc, tgs]
  · have hc' : (pathC m a b != 0) = true := by simpa using hc
    rw [if_pos hc] at hP
    simp only [ne_eq, hc, not_false_eq_true, if_true]
    refine PL.Pure.of_v Tryz.func18 (by decide) rfl Tryz.ntmps18 Tryz.results18 (by simp) (tgsc_dids _) ?_
    simp only [go_sem, reduceIte, Nat.reduceEqDiff, reduceCtorEq, Nat.reduceLT, Nat.reduceAdd, Nat.reduceSub, Nat.reduceMul, Nat.reduceLeDiff, Int.reduceLT, Int.reduceLE, Int.reduceToNat, Int.reduceEq, Int.reduceAdd, Int.reduceSub, Int.reduceNeg, Int.reduceBNe, Int.reduceBEq, egs, tg]
    refine vCall_of (hP) ?_ ?_ ?_; (focus simp only [go_sem, reduceIte, Nat.reduceEqDiff, reduceCtorEq, egs, tg]); (focus simp only [go_sem, reduceIte, Nat.reduceEqDiff, reduceCtorEq, egs, tg])
    simp only [go_sem, reduceIte, Nat.reduceEqDiff, reduceCtorEq, Nat.reduceLT, Nat.reduceAdd, Nat.reduceSub, Nat.reduceMul, Nat.reduceLeDiff, Int.reduceLT, Int.reduceLE, Int.reduceToNat, Int.reduceEq, Int.reduceAdd, Int.reduceSub, Int.reduceNeg, Int.reduceBNe, Int.reduceBEq, legsc, hc', tgsc, tgs, List.map_nil]
set_option maxRecDepth 20000 in
set_option maxHeartbeats 16000000 in
theorem RRow_pure (m : List Eg) (a b : Tg) (hm : OkM m) (hr : RightM m) : PL.Pure Tryz.prog 20 [egs m, tg a, tg b] (lnsc (rowM m a b)) := by
  have hP := RPath_pure m a b hm
  have hll := legs_len m a b hm
  unfold rowM
  unfold pathM at hP hll
  by_cases hc : pathC m a b = 0
  · have hin := legs_in hc hm.a
    simp only [hc, ne_eq, not_true_eq_false, if_false] at hP hll ⊢
    generalize legsW (wayD m a) (wayD m b) = legs at *
    have hlm : legs.length ≤ maxLen := by rw [maxLen_eq]; omega
    refine PL.Pure.of_v Tryz.func20 (by decide) rfl Tryz.ntmps20 Tryz.results20 (by simp) (lnsc_dids _) ?_
    simp only [go_sem, reduceIte, Nat.reduceEqDiff, reduceCtorEq, Nat.reduceLT, Nat.reduceAdd, Nat.reduceSub, Nat.reduceMul, Nat.reduceLeDiff, Int.reduceLT, Int.reduceLE, Int.reduceToNat, Int.reduceEq, Int.reduceAdd, Int.reduceSub, Int.reduceNeg, Int.reduceBNe, Int.reduceBEq, egs, tg]
    refine vCall_of (hP) ?_ ?_ ?_; (focus simp only [go_sem, reduceIte, Nat.reduceEqDiff, reduceCtorEq, egs, tg]); (focus simp only [go_sem, reduceIte, Nat.reduceEqDiff, reduceCtorEq, egs, tg])
    simp only [go_sem, reduceIte, Nat.reduceEqDiff, reduceCtorEq, Nat.reduceLT, Nat.reduceAdd, Nat.reduceSub, Nat.reduceMul, Nat.reduceLeDiff, Int.reduceLT, Int.reduceLE, Int.reduceToNat, Int.reduceEq, Int.reduceAdd, Int.reduceSub, Int.reduceNeg, Int.reduceBNe, Int.reduceBEq, legsc, lgs, List.length_map]
    refine awp_moveRow 10 24 43 0 16 60 [] rfl rfl rfl ?_
    refine vLoopM (ι := { x : Nat // x ≤ (legs).length }) 45 (fun x => [(0, egs m), (8, lgs legs), (10, .sl (.row 43) ((lenses m (legs.take x.1)).map lns)), (11, .int .i64 (x.1 : Int))]) (fun x => []) (fun x => [(43, .live (x.1) (16) (60))]) (fun x => (legs).length - x.1) ⟨0, Nat.zero_le _⟩ ⟨rfl, (forall_cons rfl (forall_cons rfl (forall_cons rfl (forall_cons rfl forall_nil)))), forall_nil, (forall_cons rfl forall_nil)⟩ (fun x => ⟨(forall_cons rfl (forall_cons rfl (forall_cons (by simp [PV.ids, refInM]) (forall_cons rfl forall_nil)))), forall_nil⟩) (fun x => ?_); obtain ⟨k, hk⟩ := x; simp only at hk ⊢
    by_cases h : (k : Int) < (legs.length : Int)
    · (have hka : k < (legs).length := by omega); (have w1 := w64s hka (hlm)); (have i1 : (0 : Int) ≤ (k : Int) := by omega)
      obtain ⟨e, he, hfe, _⟩ := hin _ (getD_mem (d := default) hka)
      have hL := RLens_pure m (legs.getD k default) hm hr
      have hts : legs.take (k + 1) = legs.take k ++ [legs.getD k default] := take_snoc' hka
      have hkl : (lenses m (legs.take k)).length = k := by simp [lenses]; omega
      have hrm := room1 (show k + 1 ≤ 1000000 by omega) (show 232 ≤ 1000 by omega)
      simp only [go_sem, reduceIte, Nat.reduceEqDiff, reduceCtorEq, Nat.reduceLT, Nat.reduceAdd, Nat.reduceSub, Nat.reduceMul, Nat.reduceLeDiff, Int.reduceLT, Int.reduceLE, Int.reduceToNat, Int.reduceEq, Int.reduceAdd, Int.reduceSub, Int.reduceNeg, Int.reduceBNe, Int.reduceBEq, h, lgs, List.length_map, getD_lg hka, lg, i1]
      refine vCall_of (hL) ?_ ?_ ?_; (focus simp only [go_sem, reduceIte, Nat.reduceEqDiff, reduceCtorEq, egs, lg]); (focus simp only [go_sem, reduceIte, Nat.reduceEqDiff, reduceCtorEq, egs, lg])
      simp only [go_sem, reduceIte, Nat.reduceEqDiff, reduceCtorEq, Nat.reduceLT, Nat.reduceAdd, Nat.reduceSub, Nat.reduceMul, Nat.reduceLeDiff, Int.reduceLT, Int.reduceLE, Int.reduceToNat, Int.reduceEq, Int.reduceAdd, Int.reduceSub, Int.reduceNeg, Int.reduceBNe, Int.reduceBEq, lnc, lns, sized_ln, List.length_map, hkl, hrm, w1]
      exact ⟨⟨k + 1, by (try simp only); omega⟩, by show (legs).length - (k + 1) < (legs).length - k; omega, ⟨rfl, (forall_cons rfl (forall_cons rfl (forall_cons (by (show PV.sl _ _ = PV.sl _ _; simp [hts, lenses, lns])) (forall_cons rfl forall_nil)))), forall_nil, (forall_cons rfl forall_nil)⟩⟩
    · obtain rfl : k = legs.length := by omega
      have htk : legs.take legs.length = legs := List.take_length
      simp only [go_sem, reduceIte, Nat.reduceEqDiff, reduceCtorEq, Nat.reduceLT, Nat.reduceAdd, Nat.reduceSub, Nat.reduceMul, Nat.reduceLeDiff, Int.reduceLT, Int.reduceLE, Int.reduceToNat, Int.reduceEq, Int.reduceAdd, Int.reduceSub, Int.reduceNeg, Int.reduceBNe, Int.reduceBEq, h, lgs, List.length_map, htk, lnsc, lnss]
  · have hc' : (pathC m a b != 0) = true := by simpa using hc
    simp only [ne_eq, hc, not_false_eq_true, if_true] at hP ⊢
    refine PL.Pure.of_v Tryz.func20 (by decide) rfl Tryz.ntmps20 Tryz.results20 (by simp) (lnsc_dids _) ?_
    simp only [go_sem, reduceIte, Nat.reduceEqDiff, reduceCtorEq, Nat.reduceLT, Nat.reduceAdd, Nat.reduceSub, Nat.reduceMul, Nat.reduceLeDiff, Int.reduceLT, Int.reduceLE, Int.reduceToNat, Int.reduceEq, Int.reduceAdd, Int.reduceSub, Int.reduceNeg, Int.reduceBNe, Int.reduceBEq, egs, tg]
    refine vCall_of (hP) ?_ ?_ ?_; (focus simp only [go_sem, reduceIte, Nat.reduceEqDiff, reduceCtorEq, egs, tg]); (focus simp only [go_sem, reduceIte, Nat.reduceEqDiff, reduceCtorEq, egs, tg])
    simp only [go_sem, reduceIte, Nat.reduceEqDiff, reduceCtorEq, Nat.reduceLT, Nat.reduceAdd, Nat.reduceSub, Nat.reduceMul, Nat.reduceLeDiff, Int.reduceLT, Int.reduceLE, Int.reduceToNat, Int.reduceEq, Int.reduceAdd, Int.reduceSub, Int.reduceNeg, Int.reduceBNe, Int.reduceBEq, legsc, lgs, hc', lnsc, lnss, List.map_nil]
set_option maxRecDepth 20000 in
set_option maxHeartbeats 8000000 in
theorem RRowSame_pure (a b : List Ln) (ha : a.length ≤ maxLen) (oa : ∀ x ∈ a, OkLn x) (ob : ∀ x ∈ b, OkLn x) : PL.Pure Tryz.prog 22 [lnss a, lnss b] (.bool (decide (a = b))) := by
  by_cases hl : a.length = b.length
  · have hl' : ((a.length : Int) != (b.length : Int)) = false := by simp [hl]
    refine PL.Pure.of_v Tryz.func22 (by decide) rfl Tryz.ntmps22 Tryz.results22 (by simp) rfl ?_
    simp only [go_sem, reduceIte, Nat.reduceEqDiff, reduceCtorEq, Nat.reduceLT, Nat.reduceAdd, Nat.reduceSub, Nat.reduceMul, Nat.reduceLeDiff, Int.reduceLT, Int.reduceLE, Int.reduceToNat, Int.reduceEq, Int.reduceAdd, Int.reduceSub, Int.reduceNeg, Int.reduceBNe, Int.reduceBEq, lnss, hl', List.length_map]
    refine vLoopM (ι := { x : Nat // x ≤ (a).length ∧ (∀ j, j < x → a.getD j default = b.getD j default) }) 27 (fun x => [(0, lnss a), (1, lnss b), (5, .int .i64 (x.1 : Int))]) (fun x => []) (fun x => []) (fun x => (a).length - x.1) ⟨0, Nat.zero_le _, fun j hj => absurd hj (Nat.not_lt_zero j)⟩ ⟨rfl, (forall_cons rfl (forall_cons rfl (forall_cons rfl forall_nil))), forall_nil, forall_nil⟩ (fun x => ⟨(forall_cons rfl (forall_cons rfl (forall_cons rfl forall_nil))), forall_nil⟩) (fun x => ?_); obtain ⟨k, hk, hI⟩ := x; simp only at hk hI ⊢
    by_cases h : (k : Int) < (a.length : Int)
    · (have hka : k < (a).length := by omega); (have w1 := w64s hka (ha)); (have i1 : (0 : Int) ≤ (k : Int) := by omega)
      have hkb : k < b.length := by omega
      have h2 : (k : Int) < (b.length : Int) := by omega
      have hS := RLSame_pure (a.getD k default) (b.getD k default) (oa _ (getD_mem hka)) (ob _ (getD_mem hkb))
      by_cases he : a.getD k default = b.getD k default
      · rw [decide_eq_true he] at hS
        simp only [go_sem, reduceIte, Nat.reduceEqDiff, reduceCtorEq, Nat.reduceLT, Nat.reduceAdd, Nat.reduceSub, Nat.reduceMul, Nat.reduceLeDiff, Int.reduceLT, Int.reduceLE, Int.reduceToNat, Int.reduceEq, Int.reduceAdd, Int.reduceSub, Int.reduceNeg, Int.reduceBNe, Int.reduceBEq, lnss, h, List.length_map]
        refine vDrawQ (by kernel_rfl) (by kernel_rfl) ?_
        simp only [go_sem, reduceIte, Nat.reduceEqDiff, reduceCtorEq, Nat.reduceLT, Nat.reduceAdd, Nat.reduceSub, Nat.reduceMul, Nat.reduceLeDiff, Int.reduceLT, Int.reduceLE, Int.reduceToNat, Int.reduceEq, Int.reduceAdd, Int.reduceSub, Int.reduceNeg, Int.reduceBNe, Int.reduceBEq, getD_ln hka, getD_ln hkb, lns, i1, h, h2, List.length_map]
        refine vCall_of (hS) ?_ ?_ ?_; (focus simp only [go_sem, reduceIte, Nat.reduceEqDiff, reduceCtorEq, lns]); (focus simp only [go_sem, reduceIte, Nat.reduceEqDiff, reduceCtorEq, lns])
        simp only [go_sem, reduceIte, Nat.reduceEqDiff, reduceCtorEq, Nat.reduceLT, Nat.reduceAdd, Nat.reduceSub, Nat.reduceMul, Nat.reduceLeDiff, Int.reduceLT, Int.reduceLE, Int.reduceToNat, Int.reduceEq, Int.reduceAdd, Int.reduceSub, Int.reduceNeg, Int.reduceBNe, Int.reduceBEq, w1]
        exact ⟨⟨k + 1, by (try simp only); omega, below_succ hI he⟩, by show (a).length - (k + 1) < (a).length - k; omega, ⟨rfl, (forall_cons rfl (forall_cons rfl (forall_cons rfl forall_nil))), forall_nil, forall_nil⟩⟩
      · rw [decide_eq_false he] at hS
        have hne : ¬ a = b := fun e => he (by rw [e])
        simp only [go_sem, reduceIte, Nat.reduceEqDiff, reduceCtorEq, Nat.reduceLT, Nat.reduceAdd, Nat.reduceSub, Nat.reduceMul, Nat.reduceLeDiff, Int.reduceLT, Int.reduceLE, Int.reduceToNat, Int.reduceEq, Int.reduceAdd, Int.reduceSub, Int.reduceNeg, Int.reduceBNe, Int.reduceBEq, lnss, h, List.length_map]
        refine vDrawQ (by kernel_rfl) (by kernel_rfl) ?_
        simp only [go_sem, reduceIte, Nat.reduceEqDiff, reduceCtorEq, Nat.reduceLT, Nat.reduceAdd, Nat.reduceSub, Nat.reduceMul, Nat.reduceLeDiff, Int.reduceLT, Int.reduceLE, Int.reduceToNat, Int.reduceEq, Int.reduceAdd, Int.reduceSub, Int.reduceNeg, Int.reduceBNe, Int.reduceBEq, getD_ln hka, getD_ln hkb, lns, i1, h, h2, List.length_map]
        refine vCall_of (hS) ?_ ?_ ?_; (focus simp only [go_sem, reduceIte, Nat.reduceEqDiff, reduceCtorEq, lns]); (focus simp only [go_sem, reduceIte, Nat.reduceEqDiff, reduceCtorEq, lns])
        simp only [go_sem, reduceIte, Nat.reduceEqDiff, reduceCtorEq, Nat.reduceLT, Nat.reduceAdd, Nat.reduceSub, Nat.reduceMul, Nat.reduceLeDiff, Int.reduceLT, Int.reduceLE, Int.reduceToNat, Int.reduceEq, Int.reduceAdd, Int.reduceSub, Int.reduceNeg, Int.reduceBNe, Int.reduceBEq, hne, decide_false]
    · have he : a = b := by
        apply List.ext_getElem hl
        intro j h1 h2
        have := hI j (by omega)
        rwa [getD_lt h1, getD_lt h2] at this
      rw [decide_eq_true he]
      simp only [go_sem, reduceIte, Nat.reduceEqDiff, reduceCtorEq, Nat.reduceLT, Nat.reduceAdd, Nat.reduceSub, Nat.reduceMul, Nat.reduceLeDiff, Int.reduceLT, Int.reduceLE, Int.reduceToNat, Int.reduceEq, Int.reduceAdd, Int.reduceSub, Int.reduceNeg, Int.reduceBNe, Int.reduceBEq, lnss, h, List.length_map]
  · have hl' : ((a.length : Int) != (b.length : Int)) = true := by simp; omega
    have hne : ¬ a = b := fun e => hl (by rw [e])
    refine PL.Pure.of_v Tryz.func22 (by decide) rfl Tryz.ntmps22 Tryz.results22 (by simp) rfl ?_
    simp only [go_sem, reduceIte, Nat.reduceEqDiff, reduceCtorEq, Nat.reduceLT, Nat.reduceAdd, Nat.reduceSub, Nat.reduceMul, Nat.reduceLeDiff, Int.reduceLT, Int.reduceLE, Int.reduceToNat, Int.reduceEq, Int.reduceAdd, Int.reduceSub, Int.reduceNeg, Int.reduceBNe, Int.reduceBEq, lnss, hl', hne, List.length_map, decide_false]
end Go.Proofs.YtbojhapdidieoaaGreat
