/- Contracts of functions and laws of this seat, each for every input that it names: lemmas of the proof. -/
import Derived.Test.YtbojhapdidieoaaFi
set_option linter.unusedSimpArgs false
set_option linter.unusedVariables false
set_option linter.unusedSimpArgs false
set_option linter.unusedVariables false
namespace Go.Proofs.Ytbojhapdidieoaa
open Go.PL
/-- how far two ways are one -/
def lcp : List Eg → List Eg → Nat
  | a :: xs, b :: ys => if a = b then lcp xs ys + 1 else 0
  | _, _ => 0
theorem lcp_le : ∀ (a b : List Eg), lcp a b ≤ a.length ∧ lcp a b ≤ b.length
  | [], b => by simp [lcp]
  | a :: xs, [] => by simp [lcp]
  | a :: xs, b :: ys => by
    have := lcp_le xs ys
    simp only [lcp]
    split
    · simp; omega
    · simp
theorem lcp_comm : ∀ (a b : List Eg), lcp a b = lcp b a
  | [], [] => rfl
  | [], b :: ys => rfl
  | a :: xs, [] => rfl
  | a :: xs, b :: ys => by
    simp only [lcp, lcp_comm xs ys, eq_comm]
theorem lcp_get : ∀ (a b : List Eg) (t : Nat), t < lcp a b → a.getD t default = b.getD t default
  | [], b, t, h => by simp [lcp] at h
  | a :: xs, [], t, h => by simp [lcp] at h
  | a :: xs, b :: ys, t, h => by
    simp only [lcp] at h
    split at h
    · rename_i e
      cases t with
      | zero => simpa using e
      | succ t => simpa using lcp_get xs ys t (by omega)
    · omega
theorem lcp_stop : ∀ (a b : List Eg), lcp a b < a.length → lcp a b < b.length → a.getD (lcp a b) default ≠ b.getD (lcp a b) default
  | [], b, h, _ => by simp at h
  | a :: xs, [], _, h => by simp at h
  | a :: xs, b :: ys, h1, h2 => by
    simp only [lcp] at h1 h2 ⊢
    split
    · rename_i e
      rw [if_pos e] at h1 h2
      simpa using lcp_stop xs ys (by simpa using h1) (by simpa using h2)
    · rename_i e; simpa using e
theorem lcp_take (a b : List Eg) : a.take (lcp a b) = b.take (lcp a b) := by
  have hl := lcp_le a b
  apply List.ext_getElem
  · simp; omega
  · intro i h1 h2
    have hi : i < lcp a b := by simp at h1; omega
    have := lcp_get a b i hi
    rw [getD_lt (by omega), getD_lt (by omega)] at this
    simpa using this
theorem Apart.inj {m : List Eg} (h : Apart m) {a b : Eg} (ha : a ∈ m) (hb : b ∈ m) (e : a.id = b.id) : a = b := by
  have h1 := h.find ha
  rw [e, h.find hb] at h1
  cases h1; rfl
structure WayT where
  up : List Tg
  down : List Tg
  i : Nat
  j : Nat
  c : Int
def wayv (x : WayT) : PV := .tup [tgs x.up, tgs x.down, .int .i64 (x.i : Int), .int .i64 (x.j : Int), .int .i64 x.c]
theorem wayv_dids (x : WayT) : (wayv x).dids = [] := by simp only [wayv, PV.dids, PV.didsL, tgs_dids, List.append_nil]
def waysM (m : List Eg) (a b : Tg) : WayT :=
  if upC m a ≠ 0 then ⟨[], [], 0, 0, upC m a⟩ else if upC m b ≠ 0 then ⟨[], [], 0, 0, upC m b⟩
  else ⟨upL (wayD m a), upL (wayD m b), (wayD m a).length - lcp (wayD m a) (wayD m b), (wayD m b).length - lcp (wayD m a) (wayD m b), 0⟩
set_option maxRecDepth 20000 in
set_option maxHeartbeats 16000000 in
theorem ways_pure (m : List Eg) (a b : Tg) (hm : OkM m) : PL.Pure Try.prog 50 [tr (treeOf m), tg a, tg b] (wayv (waysM m a b)) := by
  have hA := Up_pure m a hm
  have hB := Up_pure m b hm
  unfold waysM
  unfold upM at hA hB
  by_cases ha : upC m a = 0
  · by_cases hb : upC m b = 0
    · obtain ⟨wa, _, _⟩ := live_way ha
      obtain ⟨wb, _, _⟩ := live_way hb
      simp only [ha, hb, ne_eq, not_true_eq_false, if_false] at hA hB ⊢
      generalize wayD m a = p at *
      generalize wayD m b = q at *
      have hlc := lcp_le p q
      have hpl : p.length ≤ 40 := by have := wa.len; have := hm.n; omega
      have hql : q.length ≤ 40 := by have := wb.len; have := hm.n; omega
      have l1 : ((upL p).length : Int) = (p.length : Int) + 1 := by rw [upL_len]; rfl
      have l2 : ((upL q).length : Int) = (q.length : Int) + 1 := by rw [upL_len]; rfl
      have s1 : IntKind.i64.wrap ((p.length : Int) + 1 - 1) = (p.length : Int) := by rw [w64 (by omega)]; omega
      have s2 : IntKind.i64.wrap ((q.length : Int) + 1 - 1) = (q.length : Int) := by rw [w64 (by omega)]; omega
      refine PL.Pure.of_v Try.func50 (by decide) rfl Try.ntmps50 Try.results50 (by simp) (wayv_dids _) ?_
      simp only [go_sem, reduceIte, Nat.reduceEqDiff, reduceCtorEq, Nat.reduceLT, Nat.reduceAdd, Nat.reduceSub, Nat.reduceMul, Nat.reduceLeDiff, Int.reduceLT, Int.reduceLE, Int.reduceToNat, Int.reduceEq, Int.reduceAdd, Int.reduceSub, Int.reduceNeg, Int.reduceBNe, Int.reduceBEq, tr, tg]
      refine vScopeM (ι := { t : Nat // t ≤ lcp p q }) 62 (fun x => [(6, tgs (upL p)), (7, tgs (upL q)), (8, .int .i64 ((p.length - x.1 : Nat) : Int)), (9, .int .i64 ((q.length - x.1 : Nat) : Int))]) (fun x => []) (fun x => []) (fun x => lcp p q - x.1) 0 _ (by exact rfl) (fun x => ⟨(forall_cons rfl (forall_cons rfl (forall_cons rfl (forall_cons rfl (forall_nil))))), forall_nil⟩) (fun x => ?_) (fun cut => ?_)
      · obtain ⟨t, ht⟩ := x
        simp only
        by_cases g1 : t < p.length
        · have c1 : (0 : Int) < ((p.length - t : Nat) : Int) := by omega
          by_cases g2 : t < q.length
          · have c2 : (0 : Int) < ((q.length - t : Nat) : Int) := by omega
            have w1 : IntKind.i64.wrap (((p.length - t : Nat) : Int) - 1) = ((p.length - t - 1 : Nat) : Int) := by rw [w64 (by omega)]; omega
            have w2 : IntKind.i64.wrap (((q.length - t : Nat) : Int) - 1) = ((q.length - t - 1 : Nat) : Int) := by rw [w64 (by omega)]; omega
            have k1 : p.length - t - 1 < (upL p).length := by rw [upL_len]; omega
            have k2 : q.length - t - 1 < (upL q).length := by rw [upL_len]; omega
            have b1 : (0 : Int) ≤ ((p.length - t - 1 : Nat) : Int) := by omega
            have b2 : (0 : Int) ≤ ((q.length - t - 1 : Nat) : Int) := by omega
            have b3 : ((p.length - t - 1 : Nat) : Int) < ((upL p).length : Int) := by omega
            have b4 : ((q.length - t - 1 : Nat) : Int) < ((upL q).length : Int) := by omega
            have v1 := upL_get p t g1
            have v2 := upL_get q t g2
            by_cases hlt : t < lcp p q
            · have heq : decide ((p.getD t default).id = (q.getD t default).id) = true := by rw [lcp_get p q t hlt]; simp
              simp only [go_sem, reduceIte, Nat.reduceEqDiff, reduceCtorEq, Nat.reduceLT, Nat.reduceAdd, Nat.reduceSub, Nat.reduceMul, Nat.reduceLeDiff, Int.reduceLT, Int.reduceLE, Int.reduceToNat, Int.reduceEq, Int.reduceAdd, Int.reduceSub, Int.reduceNeg, Int.reduceBNe, Int.reduceBEq, tgs]
              refine vDrawQ (by kernel_rfl) (by kernel_rfl) ?_
              simp only [go_sem, reduceIte, Nat.reduceEqDiff, reduceCtorEq, Nat.reduceLT, Nat.reduceAdd, Nat.reduceSub, Nat.reduceMul, Nat.reduceLeDiff, Int.reduceLT, Int.reduceLE, Int.reduceToNat, Int.reduceEq, Int.reduceAdd, Int.reduceSub, Int.reduceNeg, Int.reduceBNe, Int.reduceBEq, c1, c2, w1, w2, getD_tg k1, getD_tg k2, v1, v2, tg, b1, b2, b3, b4, tg_fold, heq]
              exact ⟨⟨t + 1, by omega⟩, by show lcp p q - (t + 1) < lcp p q - t; omega, ⟨rfl, forall_cons rfl (forall_cons rfl (forall_cons (by simp only [Nat.sub_sub]; rfl) (forall_cons (by simp only [Nat.sub_sub]; rfl) forall_nil))), forall_nil, forall_nil⟩⟩
            · obtain rfl : t = lcp p q := by omega
              have hne : decide ((p.getD (lcp p q) default).id = (q.getD (lcp p q) default).id) = false := by
                rw [decide_eq_false_iff_not]
                intro e
                have hs := lcp_stop p q (by omega) (by omega)
                exact hs (hm.a.inj (wa.mem _ (getD_mem g1)) (wb.mem _ (getD_mem g2)) e)
              simp only [go_sem, reduceIte, Nat.reduceEqDiff, reduceCtorEq, Nat.reduceLT, Nat.reduceAdd, Nat.reduceSub, Nat.reduceMul, Nat.reduceLeDiff, Int.reduceLT, Int.reduceLE, Int.reduceToNat, Int.reduceEq, Int.reduceAdd, Int.reduceSub, Int.reduceNeg, Int.reduceBNe, Int.reduceBEq, tgs]
              refine vDrawQ (by kernel_rfl) (by kernel_rfl) ?_
              simp only [go_sem, reduceIte, Nat.reduceEqDiff, reduceCtorEq, Nat.reduceLT, Nat.reduceAdd, Nat.reduceSub, Nat.reduceMul, Nat.reduceLeDiff, Int.reduceLT, Int.reduceLE, Int.reduceToNat, Int.reduceEq, Int.reduceAdd, Int.reduceSub, Int.reduceNeg, Int.reduceBNe, Int.reduceBEq, c1, c2, w1, w2, getD_tg k1, getD_tg k2, v1, v2, tg, b1, b2, b3, b4, tg_fold, hne, wayv, tgs]
          · have c2 : ¬ (0 : Int) < ((q.length - t : Nat) : Int) := by omega
            obtain rfl : t = lcp p q := by omega
            simp only [go_sem, reduceIte, Nat.reduceEqDiff, reduceCtorEq, Nat.reduceLT, Nat.reduceAdd, Nat.reduceSub, Nat.reduceMul, Nat.reduceLeDiff, Int.reduceLT, Int.reduceLE, Int.reduceToNat, Int.reduceEq, Int.reduceAdd, Int.reduceSub, Int.reduceNeg, Int.reduceBNe, Int.reduceBEq, tgs]
            refine vDrawQ (by kernel_rfl) (by kernel_rfl) ?_
            simp only [go_sem, reduceIte, Nat.reduceEqDiff, reduceCtorEq, Nat.reduceLT, Nat.reduceAdd, Nat.reduceSub, Nat.reduceMul, Nat.reduceLeDiff, Int.reduceLT, Int.reduceLE, Int.reduceToNat, Int.reduceEq, Int.reduceAdd, Int.reduceSub, Int.reduceNeg, Int.reduceBNe, Int.reduceBEq, c1, c2, wayv, tgs]
        · have c1 : ¬ (0 : Int) < ((p.length - t : Nat) : Int) := by omega
          obtain rfl : t = lcp p q := by omega
          simp only [go_sem, reduceIte, Nat.reduceEqDiff, reduceCtorEq, Nat.reduceLT, Nat.reduceAdd, Nat.reduceSub, Nat.reduceMul, Nat.reduceLeDiff, Int.reduceLT, Int.reduceLE, Int.reduceToNat, Int.reduceEq, Int.reduceAdd, Int.reduceSub, Int.reduceNeg, Int.reduceBNe, Int.reduceBEq, tgs]
          refine vDrawQ (by kernel_rfl) (by kernel_rfl) ?_
          simp only [go_sem, reduceIte, Nat.reduceEqDiff, reduceCtorEq, Nat.reduceLT, Nat.reduceAdd, Nat.reduceSub, Nat.reduceMul, Nat.reduceLeDiff, Int.reduceLT, Int.reduceLE, Int.reduceToNat, Int.reduceEq, Int.reduceAdd, Int.reduceSub, Int.reduceNeg, Int.reduceBNe, Int.reduceBEq, c1, wayv, tgs]
      · simp only [go_sem, reduceIte, Nat.reduceEqDiff, reduceCtorEq, Nat.reduceLT, Nat.reduceAdd, Nat.reduceSub, Nat.reduceMul, Nat.reduceLeDiff, Int.reduceLT, Int.reduceLE, Int.reduceToNat, Int.reduceEq, Int.reduceAdd, Int.reduceSub, Int.reduceNeg, Int.reduceBNe, Int.reduceBEq]
        refine vCall_of (hA) ?_ ?_ ?_; (focus simp only [go_sem, reduceIte, Nat.reduceEqDiff, reduceCtorEq, Nat.reduceLT, Nat.reduceAdd, Nat.reduceSub, Nat.reduceMul, Nat.reduceLeDiff, Int.reduceLT, Int.reduceLE, Int.reduceToNat, Int.reduceEq, Int.reduceAdd, Int.reduceSub, Int.reduceNeg, Int.reduceBNe, Int.reduceBEq, tr, tg]); (focus simp only [go_sem, reduceIte, Nat.reduceEqDiff, reduceCtorEq, Nat.reduceLT, Nat.reduceAdd, Nat.reduceSub, Nat.reduceMul, Nat.reduceLeDiff, Int.reduceLT, Int.reduceLE, Int.reduceToNat, Int.reduceEq, Int.reduceAdd, Int.reduceSub, Int.reduceNeg, Int.reduceBNe, Int.reduceBEq, tr, tg])
        simp only [go_sem, reduceIte, Nat.reduceEqDiff, reduceCtorEq, Nat.reduceLT, Nat.reduceAdd, Nat.reduceSub, Nat.reduceMul, Nat.reduceLeDiff, Int.reduceLT, Int.reduceLE, Int.reduceToNat, Int.reduceEq, Int.reduceAdd, Int.reduceSub, Int.reduceNeg, Int.reduceBNe, Int.reduceBEq, tgsc]
        refine vCall_of (hB) ?_ ?_ ?_; (focus simp only [go_sem, reduceIte, Nat.reduceEqDiff, reduceCtorEq, Nat.reduceLT, Nat.reduceAdd, Nat.reduceSub, Nat.reduceMul, Nat.reduceLeDiff, Int.reduceLT, Int.reduceLE, Int.reduceToNat, Int.reduceEq, Int.reduceAdd, Int.reduceSub, Int.reduceNeg, Int.reduceBNe, Int.reduceBEq, tr, tg]); (focus simp only [go_sem, reduceIte, Nat.reduceEqDiff, reduceCtorEq, Nat.reduceLT, Nat.reduceAdd, Nat.reduceSub, Nat.reduceMul, Nat.reduceLeDiff, Int.reduceLT, Int.reduceLE, Int.reduceToNat, Int.reduceEq, Int.reduceAdd, Int.reduceSub, Int.reduceNeg, Int.reduceBNe, Int.reduceBEq, tr, tg])
        simp only [go_sem, reduceIte, Nat.reduceEqDiff, reduceCtorEq, Nat.reduceLT, Nat.reduceAdd, Nat.reduceSub, Nat.reduceMul, Nat.reduceLeDiff, Int.reduceLT, Int.reduceLE, Int.reduceToNat, Int.reduceEq, Int.reduceAdd, Int.reduceSub, Int.reduceNeg, Int.reduceBNe, Int.reduceBEq, tgsc, tgs, l1, l2, s1, s2, List.length_map]
        exact awp_label_seq (cut ⟨0, Nat.zero_le _⟩ _ ⟨rfl, (forall_cons rfl (forall_cons rfl (forall_cons rfl (forall_cons rfl (forall_nil))))), forall_nil, forall_nil⟩)
    · have hb' : (upC m b != 0) = true := by simpa using hb
      simp only [ha, hb, ne_eq, not_true_eq_false, not_false_eq_true, if_true, if_false] at hA hB ⊢
      refine PL.Pure.of_v Try.func50 (by decide) rfl Try.ntmps50 Try.results50 (by simp) (wayv_dids _) ?_
      simp only [go_sem, reduceIte, Nat.reduceEqDiff, reduceCtorEq, Nat.reduceLT, Nat.reduceAdd, Nat.reduceSub, Nat.reduceMul, Nat.reduceLeDiff, Int.reduceLT, Int.reduceLE, Int.reduceToNat, Int.reduceEq, Int.reduceAdd, Int.reduceSub, Int.reduceNeg, Int.reduceBNe, Int.reduceBEq, tr, tg]
      refine vScope0 ?_
      simp only [go_sem, reduceIte, Nat.reduceEqDiff, reduceCtorEq, Nat.reduceLT, Nat.reduceAdd, Nat.reduceSub, Nat.reduceMul, Nat.reduceLeDiff, Int.reduceLT, Int.reduceLE, Int.reduceToNat, Int.reduceEq, Int.reduceAdd, Int.reduceSub, Int.reduceNeg, Int.reduceBNe, Int.reduceBEq]
      refine vCall_of (hA) ?_ ?_ ?_; (focus simp only [go_sem, reduceIte, Nat.reduceEqDiff, reduceCtorEq, Nat.reduceLT, Nat.reduceAdd, Nat.reduceSub, Nat.reduceMul, Nat.reduceLeDiff, Int.reduceLT, Int.reduceLE, Int.reduceToNat, Int.reduceEq, Int.reduceAdd, Int.reduceSub, Int.reduceNeg, Int.reduceBNe, Int.reduceBEq, tr, tg]); (focus simp only [go_sem, reduceIte, Nat.reduceEqDiff, reduceCtorEq, Nat.reduceLT, Nat.reduceAdd, Nat.reduceSub, Nat.reduceMul, Nat.reduceLeDiff, Int.reduceLT, Int.reduceLE, Int.reduceToNat, Int.reduceEq, Int.reduceAdd, Int.reduceSub, Int.reduceNeg, Int.reduceBNe, Int.reduceBEq, tr, tg])
      simp only [go_sem, reduceIte, Nat.reduceEqDiff, reduceCtorEq, Nat.reduceLT, Nat.reduceAdd, Nat.reduceSub, Nat.reduceMul, Nat.reduceLeDiff, Int.reduceLT, Int.reduceLE, Int.reduceToNat, Int.reduceEq, Int.reduceAdd, Int.reduceSub, Int.reduceNeg, Int.reduceBNe, Int.reduceBEq, tgsc]
      refine vCall_of (hB) ?_ ?_ ?_; (focus simp only [go_sem, reduceIte, Nat.reduceEqDiff, reduceCtorEq, Nat.reduceLT, Nat.reduceAdd, Nat.reduceSub, Nat.reduceMul, Nat.reduceLeDiff, Int.reduceLT, Int.reduceLE, Int.reduceToNat, Int.reduceEq, Int.reduceAdd, Int.reduceSub, Int.reduceNeg, Int.reduceBNe, Int.reduceBEq, tr, tg]); (focus simp only [go_sem, reduceIte, Nat.reduceEqDiff, reduceCtorEq, Nat.reduceLT, Nat.reduceAdd, Nat.reduceSub, Nat.reduceMul, Nat.reduceLeDiff, Int.reduceLT, Int.reduceLE, Int.reduceToNat, Int.reduceEq, Int.reduceAdd, Int.reduceSub, Int.reduceNeg, Int.reduceBNe, Int.reduceBEq, tr, tg])
      simp only [go_sem, reduceIte, Nat.reduceEqDiff, reduceCtorEq, Nat.reduceLT, Nat.reduceAdd, Nat.reduceSub, Nat.reduceMul, Nat.reduceLeDiff, Int.reduceLT, Int.reduceLE, Int.reduceToNat, Int.reduceEq, Int.reduceAdd, Int.reduceSub, Int.reduceNeg, Int.reduceBNe, Int.reduceBEq, tgsc, tgs, hb', wayv, List.map_nil]
  · have ha' : (upC m a != 0) = true := by simpa using ha
    simp only [ha, ne_eq, not_false_eq_true, if_true] at hA ⊢
    refine PL.Pure.of_v Try.func50 (by decide) rfl Try.ntmps50 Try.results50 (by simp) (wayv_dids _) ?_
    simp only [go_sem, reduceIte, Nat.reduceEqDiff, reduceCtorEq, Nat.reduceLT, Nat.reduceAdd, Nat.reduceSub, Nat.reduceMul, Nat.reduceLeDiff, Int.reduceLT, Int.reduceLE, Int.reduceToNat, Int.reduceEq, Int.reduceAdd, Int.reduceSub, Int.reduceNeg, Int.reduceBNe, Int.reduceBEq, tr, tg]
    refine vScope0 ?_
    simp only [go_sem, reduceIte, Nat.reduceEqDiff, reduceCtorEq, Nat.reduceLT, Nat.reduceAdd, Nat.reduceSub, Nat.reduceMul, Nat.reduceLeDiff, Int.reduceLT, Int.reduceLE, Int.reduceToNat, Int.reduceEq, Int.reduceAdd, Int.reduceSub, Int.reduceNeg, Int.reduceBNe, Int.reduceBEq]
    refine vCall_of (hA) ?_ ?_ ?_; (focus simp only [go_sem, reduceIte, Nat.reduceEqDiff, reduceCtorEq, Nat.reduceLT, Nat.reduceAdd, Nat.reduceSub, Nat.reduceMul, Nat.reduceLeDiff, Int.reduceLT, Int.reduceLE, Int.reduceToNat, Int.reduceEq, Int.reduceAdd, Int.reduceSub, Int.reduceNeg, Int.reduceBNe, Int.reduceBEq, tr, tg]); (focus simp only [go_sem, reduceIte, Nat.reduceEqDiff, reduceCtorEq, Nat.reduceLT, Nat.reduceAdd, Nat.reduceSub, Nat.reduceMul, Nat.reduceLeDiff, Int.reduceLT, Int.reduceLE, Int.reduceToNat, Int.reduceEq, Int.reduceAdd, Int.reduceSub, Int.reduceNeg, Int.reduceBNe, Int.reduceBEq, tr, tg])
    simp only [go_sem, reduceIte, Nat.reduceEqDiff, reduceCtorEq, Nat.reduceLT, Nat.reduceAdd, Nat.reduceSub, Nat.reduceMul, Nat.reduceLeDiff, Int.reduceLT, Int.reduceLE, Int.reduceToNat, Int.reduceEq, Int.reduceAdd, Int.reduceSub, Int.reduceNeg, Int.reduceBNe, Int.reduceBEq, tgsc, tgs, ha', wayv, List.map_nil]
end Go.Proofs.Ytbojhapdidieoaa
