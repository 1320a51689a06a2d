/- Contracts of functions and laws of this seat, each for every input that it names: lemmas of the proof. -/
import Derived.Test.YtbojhapdidieoaaFg
set_option linter.unusedSimpArgs false
set_option linter.unusedVariables false
set_option linter.unusedSimpArgs false
set_option linter.unusedVariables false
namespace Go.Proofs.Ytbojhapdidieoaa
open Go.PL
def grownM (l : List Eg) : List Eg := l.foldl (fun m e => (putM m e).1) []
theorem okGrown : ∀ (l : List Eg) {m : List Eg}, OkM m → (∀ e ∈ l, OkLn e.ln) → OkM (l.foldl (fun m e => (putM m e).1) m)
  | [], m, h, _ => h
  | e :: l, m, h, hl => okGrown l (okPut h (hl e (by simp))) (fun x hx => hl x (by simp [hx]))
theorem foldl_take {l : List Eg} {k : Nat} (hk : k < l.length) : (l.take (k + 1)).foldl (fun m e => (putM m e).1) [] = (putM ((l.take k).foldl (fun m e => (putM m e).1) []) (l.getD k default)).1 := by
  have : l.take (k + 1) = l.take k ++ [l.getD k default] := by
    rw [getD_lt hk, List.take_add_one]; simp [hk]
  rw [this, List.foldl_append]; rfl
def grv (m : List Eg) : PV := .tup [tr (treeOf m), egs m, .bool true]
theorem didsL_kts (l : List Nd) : PV.didsL (kts l) = [] := by
  unfold kts
  induction l with
  | nil => rfl
  | cons e l ih => simp only [List.map_cons, PV.didsL, ih, tg_dids, List.append_nil]
theorem didsL_nds (l : List Nd) : PV.didsL (nds l) = [] := by
  unfold nds
  induction l with
  | nil => rfl
  | cons e l ih => simp only [List.map_cons, PV.didsL, ih, nd_dids, List.append_nil]
theorem tr_dids (l : List Nd) : (tr l).dids = [] := by simp only [tr, PV.dids, PV.didsL, didsL_kts, didsL_nds, List.append_nil]
theorem grv_dids (m : List Eg) : (grv m).dids = [] := by simp only [grv, PV.dids, PV.didsL, tr_dids, egs_dids, List.append_nil]
set_option maxRecDepth 20000 in
set_option maxHeartbeats 16000000 in
theorem Grown_pure (l : List Eg) (hl : l.length ≤ 1000) (hx : ∀ e ∈ l, OkLn e.ln) : PL.Pure Try.prog 13 [egs l] (grv (grownM l)) := by
  have hml : l.length ≤ maxLen := by rw [maxLen_eq]; omega
  refine PL.Pure.of_vs Try.func13 (by decide) rfl Try.ntmps13 Try.results13 (by simp) (grv_dids _) ?_
  simp only [go_sem, reduceIte, Nat.reduceEqDiff, reduceCtorEq, Nat.reduceLT, Nat.reduceAdd, Nat.reduceSub, Nat.reduceMul, Nat.reduceLeDiff, Int.reduceLT, Int.reduceLE, Int.reduceToNat, Int.reduceEq, Int.reduceAdd, Int.reduceSub, Int.reduceNeg, Int.reduceBNe, Int.reduceBEq, egs]
  refine vCall_mk mk_new ?_ ?_ (fun b hb => ?_)
  · simp only [go_sem, reduceIte, Nat.reduceEqDiff, reduceCtorEq, Nat.reduceLT, Nat.reduceAdd, Nat.reduceSub, Nat.reduceMul, Nat.reduceLeDiff, Int.reduceLT, Int.reduceLE, Int.reduceToNat, Int.reduceEq, Int.reduceAdd, Int.reduceSub, Int.reduceNeg, Int.reduceBNe, Int.reduceBEq]
  · simp only [go_sem, reduceIte, Nat.reduceEqDiff, reduceCtorEq, Nat.reduceLT, Nat.reduceAdd, Nat.reduceSub, Nat.reduceMul, Nat.reduceLeDiff, Int.reduceLT, Int.reduceLE, Int.reduceToNat, Int.reduceEq, Int.reduceAdd, Int.reduceSub, Int.reduceNeg, Int.reduceBNe, Int.reduceBEq]
  simp only [go_sem, reduceIte, Nat.reduceEqDiff, reduceCtorEq, Nat.reduceLT, Nat.reduceAdd, Nat.reduceSub, Nat.reduceMul, Nat.reduceLeDiff, Int.reduceLT, Int.reduceLE, Int.reduceToNat, Int.reduceEq, Int.reduceAdd, Int.reduceSub, Int.reduceNeg, Int.reduceBNe, Int.reduceBEq]
  refine awp_plain 6 11 [] rfl ?_
  refine vLoopO (ι := { k : Nat // k ≤ l.length }) 40 (fun x => [(0, egs l), (5, .rptr [.mref b]), (6, egs (grownM (l.take x.1))), (7, .int .i64 (x.1 : Int))]) (fun x => []) (fun x => []) (fun x => [(b, mc (treeOf (grownM (l.take x.1))))]) (fun x => []) (fun x => l.length - x.1) ⟨0, Nat.zero_le _⟩
    ⟨⟨rfl, (forall_cons rfl (forall_cons rfl (forall_cons rfl (forall_cons rfl (forall_nil))))), forall_nil, forall_nil⟩, forall_cons (by simp [upd]; rfl) forall_nil, forall_nil⟩ (fun x => ⟨(forall_cons rfl (forall_cons rfl (forall_cons rfl (forall_cons rfl (forall_nil))))), forall_nil⟩) (fun x => ?_)
  obtain ⟨k, hk⟩ := x
  simp only
  by_cases h : (k : Int) < (l.length : Int)
  · have hka : k < l.length := by omega
    have w1 := w64s hka hml
    have i1 : (0 : Int) ≤ (k : Int) := by omega
    have hft := foldl_take hka
    have hom : OkM (grownM (l.take k)) := okGrown _ okM_nil (fun e he => hx e (List.mem_of_mem_take he))
    have hR := RPut_pure (grownM (l.take k)) (l.getD k default) hom (hx _ (getD_mem hka))
    have hW := put_wr (grownM (l.take k)) (l.getD k default) hom (hx _ (getD_mem hka))
    have hne : ((putM (grownM (l.take k)) (l.getD k default)).2 != (putM (grownM (l.take k)) (l.getD k default)).2) = false := by simp
    simp only [go_sem, reduceIte, Nat.reduceEqDiff, reduceCtorEq, Nat.reduceLT, Nat.reduceAdd, Nat.reduceSub, Nat.reduceMul, Nat.reduceLeDiff, Int.reduceLT, Int.reduceLE, Int.reduceToNat, Int.reduceEq, Int.reduceAdd, Int.reduceSub, Int.reduceNeg, Int.reduceBNe, Int.reduceBEq, List.map_cons, List.map_nil, egs, h, getD_eg hka, eg, i1]
    refine vCall_of (hR) ?_ ?_ ?_; (focus simp only [go_sem, reduceIte, Nat.reduceEqDiff, reduceCtorEq, Nat.reduceLT, Nat.reduceAdd, Nat.reduceSub, Nat.reduceMul, Nat.reduceLeDiff, Int.reduceLT, Int.reduceLE, Int.reduceToNat, Int.reduceEq, Int.reduceAdd, Int.reduceSub, Int.reduceNeg, Int.reduceBNe, Int.reduceBEq, egs, eg]); (focus simp only [go_sem, reduceIte, Nat.reduceEqDiff, reduceCtorEq, Nat.reduceLT, Nat.reduceAdd, Nat.reduceSub, Nat.reduceMul, Nat.reduceLeDiff, Int.reduceLT, Int.reduceLE, Int.reduceToNat, Int.reduceEq, Int.reduceAdd, Int.reduceSub, Int.reduceNeg, Int.reduceBNe, Int.reduceBEq, egs, eg])
    simp only [go_sem, reduceIte, Nat.reduceEqDiff, reduceCtorEq, Nat.reduceLT, Nat.reduceAdd, Nat.reduceSub, Nat.reduceMul, Nat.reduceLeDiff, Int.reduceLT, Int.reduceLE, Int.reduceToNat, Int.reduceEq, Int.reduceAdd, Int.reduceSub, Int.reduceNeg, Int.reduceBNe, Int.reduceBEq, egsc, egs, h, getD_eg hka, eg, i1]
    refine vCall_wr b hW ?_ ?_ ?_ ?_
    · simp only [go_sem, reduceIte, Nat.reduceEqDiff, reduceCtorEq, Nat.reduceLT, Nat.reduceAdd, Nat.reduceSub, Nat.reduceMul, Nat.reduceLeDiff, Int.reduceLT, Int.reduceLE, Int.reduceToNat, Int.reduceEq, Int.reduceAdd, Int.reduceSub, Int.reduceNeg, Int.reduceBNe, Int.reduceBEq]
    · simp only [go_sem, reduceIte, Nat.reduceEqDiff, reduceCtorEq, Nat.reduceLT, Nat.reduceAdd, Nat.reduceSub, Nat.reduceMul, Nat.reduceLeDiff, Int.reduceLT, Int.reduceLE, Int.reduceToNat, Int.reduceEq, Int.reduceAdd, Int.reduceSub, Int.reduceNeg, Int.reduceBNe, Int.reduceBEq, eg]
    · simp [upd]
    · simp only [go_sem, reduceIte, Nat.reduceEqDiff, reduceCtorEq, Nat.reduceLT, Nat.reduceAdd, Nat.reduceSub, Nat.reduceMul, Nat.reduceLeDiff, Int.reduceLT, Int.reduceLE, Int.reduceToNat, Int.reduceEq, Int.reduceAdd, Int.reduceSub, Int.reduceNeg, Int.reduceBNe, Int.reduceBEq, hne, w1]
      refine ⟨⟨k + 1, by omega⟩, by show l.length - (k + 1) < l.length - k; omega, ⟨⟨rfl, forall_cons rfl (forall_cons rfl (forall_cons ?_ (forall_cons ?_ forall_nil))), forall_nil, forall_nil⟩, forall_cons ?_ forall_nil, forall_nil⟩⟩
      · show _ = egs (grownM (l.take (k + 1)))
        unfold grownM
        rw [hft]
        rfl
      · rfl
      · show _ = some (mc (treeOf (grownM (l.take (k + 1)))))
        unfold grownM
        rw [hft]
        simp [upd]
  · obtain rfl : k = l.length := by omega
    have htl : l.take l.length = l := List.take_length
    simp only [go_sem, reduceIte, Nat.reduceEqDiff, reduceCtorEq, Nat.reduceLT, Nat.reduceAdd, Nat.reduceSub, Nat.reduceMul, Nat.reduceLeDiff, Int.reduceLT, Int.reduceLE, Int.reduceToNat, Int.reduceEq, Int.reduceAdd, Int.reduceSub, Int.reduceNeg, Int.reduceBNe, Int.reduceBEq, List.map_cons, List.map_nil, egs, h, htl, mc]
    exact ⟨_, rfl, by simp [PV.shut, PV.sealL, upd, grv, tr, egs]⟩
def edc (x : Eg × Int) : PV := .tup [eg x.1, .int .i64 x.2]
theorem edc_dids (x : Eg × Int) : (edc x).dids = [] := by simp only [edc, PV.dids, PV.didsL, eg_dids, List.append_nil]
theorem eg_default : eg default = .agg [.int .i64 0, .int .i64 0, .int .i64 0, .int .i64 0, .int .i64 0, .int .i64 0, .str [], .str [], .str [], .str [], .int .i64 0, .int .i64 0, .str [], .str [], .int .i64 0, .str [], .sl .no [], .int .i64 0, .sl .no [], .sl .no []] := rfl
def findTM (m : List Eg) (id : Tg) : Eg × Int := match findE m id with | some e => (e, 0) | none => (default, 6)
set_option maxRecDepth 20000 in
set_option maxHeartbeats 8000000 in
theorem TFind_pure (m : List Eg) (id : Tg) (hm : OkM m) : PL.Pure Try.prog 51 [tr (treeOf m), tg id] (edc (findTM m id)) := by
  have hidx := idx_tree m id
  unfold findTM
  cases hf : m.findIdx? (fun x => decide (id = x.id)) with
  | some i =>
    rw [hf] at hidx
    obtain ⟨h1, h2⟩ := findIdx_some hidx
    rw [find_tree] at h2
    cases hfe : findE m id with
    | none => rw [hfe] at h2; cases h2
    | some x =>
      rw [hfe] at h2
      simp only [Option.map_some, Option.some.injEq] at h2
      have hO := town_pure x (hm.l x (findE_id hfe).2)
      have hval : (nds (treeOf m)).getD i .any = nd (nodeOf m x) := by rw [getD_nd h1, h2]
      have hne := nodeOf_e m x
      refine PL.Pure.of_v Try.func51 (by decide) rfl Try.ntmps51 Try.results51 (by simp) (edc_dids _) ?_
      simp only [go_sem, reduceIte, Nat.reduceEqDiff, reduceCtorEq, Nat.reduceLT, Nat.reduceAdd, Nat.reduceSub, Nat.reduceMul, Nat.reduceLeDiff, Int.reduceLT, Int.reduceLE, Int.reduceToNat, Int.reduceEq, Int.reduceAdd, Int.reduceSub, Int.reduceNeg, Int.reduceBNe, Int.reduceBEq, tr, tg]
      refine vDrawQ (by kernel_rfl) (by kernel_rfl) ?_
      simp only [go_sem, reduceIte, Nat.reduceEqDiff, reduceCtorEq, Nat.reduceLT, Nat.reduceAdd, Nat.reduceSub, Nat.reduceMul, Nat.reduceLeDiff, Int.reduceLT, Int.reduceLE, Int.reduceToNat, Int.reduceEq, Int.reduceAdd, Int.reduceSub, Int.reduceNeg, Int.reduceBNe, Int.reduceBEq, findP_tags0, hidx, hval, nd, hne]
      refine vCall_of (hO) ?_ ?_ ?_; (focus simp only [go_sem, reduceIte, Nat.reduceEqDiff, reduceCtorEq, Nat.reduceLT, Nat.reduceAdd, Nat.reduceSub, Nat.reduceMul, Nat.reduceLeDiff, Int.reduceLT, Int.reduceLE, Int.reduceToNat, Int.reduceEq, Int.reduceAdd, Int.reduceSub, Int.reduceNeg, Int.reduceBNe, Int.reduceBEq, eg]); (focus simp only [go_sem, reduceIte, Nat.reduceEqDiff, reduceCtorEq, Nat.reduceLT, Nat.reduceAdd, Nat.reduceSub, Nat.reduceMul, Nat.reduceLeDiff, Int.reduceLT, Int.reduceLE, Int.reduceToNat, Int.reduceEq, Int.reduceAdd, Int.reduceSub, Int.reduceNeg, Int.reduceBNe, Int.reduceBEq, eg])
      simp only [go_sem, reduceIte, Nat.reduceEqDiff, reduceCtorEq, Nat.reduceLT, Nat.reduceAdd, Nat.reduceSub, Nat.reduceMul, Nat.reduceLeDiff, Int.reduceLT, Int.reduceLE, Int.reduceToNat, Int.reduceEq, Int.reduceAdd, Int.reduceSub, Int.reduceNeg, Int.reduceBNe, Int.reduceBEq, eg, edc]
  | none =>
    rw [hf] at hidx
    have h2 := findIdx_find.1 hidx
    rw [find_tree] at h2
    have hfe : findE m id = none := by
      cases hx : findE m id with
      | none => rfl
      | some x => rw [hx] at h2; cases h2
    rw [hfe]
    refine PL.Pure.of_v Try.func51 (by decide) rfl Try.ntmps51 Try.results51 (by simp) (edc_dids _) ?_
    simp only [go_sem, reduceIte, Nat.reduceEqDiff, reduceCtorEq, Nat.reduceLT, Nat.reduceAdd, Nat.reduceSub, Nat.reduceMul, Nat.reduceLeDiff, Int.reduceLT, Int.reduceLE, Int.reduceToNat, Int.reduceEq, Int.reduceAdd, Int.reduceSub, Int.reduceNeg, Int.reduceBNe, Int.reduceBEq, tr, tg]
    refine vDrawQ (by kernel_rfl) (by kernel_rfl) ?_
    simp only [go_sem, reduceIte, Nat.reduceEqDiff, reduceCtorEq, Nat.reduceLT, Nat.reduceAdd, Nat.reduceSub, Nat.reduceMul, Nat.reduceLeDiff, Int.reduceLT, Int.reduceLE, Int.reduceToNat, Int.reduceEq, Int.reduceAdd, Int.reduceSub, Int.reduceNeg, Int.reduceBNe, Int.reduceBEq, findP_tags0, hidx, edc, eg_default]
/-- what a tree says of a tag's schema -/
def schM (l : List Nd) (id : Tg) : List Fd × Int := if (atN l id).st = 2 then ((atN l id).sch, 0) else if (atN l id).st = 3 then ([], 16) else ([], 13)
set_option maxRecDepth 20000 in
set_option maxHeartbeats 8000000 in
theorem Schema_pure (m : List Eg) (id : Tg) (hm : OkM m) : PL.Pure Try.prog 20 [tr (treeOf m), tg id] (fldsc (schM (treeOf m) id)) := by
  have hA := at_pure (treeOf m) id
  obtain ⟨o1, o2, o3⟩ := okAtN hm.l (tree_semi m) id
  have hO := SOwn_pure (atN (treeOf m) id).sch (by have := o1.n; omega) o1.c
  unfold schM
  by_cases h2 : (atN (treeOf m) id).st = 2
  · have e2 : ((atN (treeOf m) id).st == 2) = true := by rw [h2]; rfl
    simp only [h2, if_true]
    refine PL.Pure.of_v Try.func20 (by decide) rfl Try.ntmps20 Try.results20 (by simp) (fldsc_dids _) ?_
    simp only [go_sem, reduceIte, Nat.reduceEqDiff, reduceCtorEq, Nat.reduceLT, Nat.reduceAdd, Nat.reduceSub, Nat.reduceMul, Nat.reduceLeDiff, Int.reduceLT, Int.reduceLE, Int.reduceToNat, Int.reduceEq, Int.reduceAdd, Int.reduceSub, Int.reduceNeg, Int.reduceBNe, Int.reduceBEq, tr, tg]
    refine vCall_of (hA) ?_ ?_ ?_; (focus simp only [go_sem, reduceIte, Nat.reduceEqDiff, reduceCtorEq, Nat.reduceLT, Nat.reduceAdd, Nat.reduceSub, Nat.reduceMul, Nat.reduceLeDiff, Int.reduceLT, Int.reduceLE, Int.reduceToNat, Int.reduceEq, Int.reduceAdd, Int.reduceSub, Int.reduceNeg, Int.reduceBNe, Int.reduceBEq, tr, tg]); (focus simp only [go_sem, reduceIte, Nat.reduceEqDiff, reduceCtorEq, Nat.reduceLT, Nat.reduceAdd, Nat.reduceSub, Nat.reduceMul, Nat.reduceLeDiff, Int.reduceLT, Int.reduceLE, Int.reduceToNat, Int.reduceEq, Int.reduceAdd, Int.reduceSub, Int.reduceNeg, Int.reduceBNe, Int.reduceBEq, tr, tg])
    simp only [go_sem, reduceIte, Nat.reduceEqDiff, reduceCtorEq, Nat.reduceLT, Nat.reduceAdd, Nat.reduceSub, Nat.reduceMul, Nat.reduceLeDiff, Int.reduceLT, Int.reduceLE, Int.reduceToNat, Int.reduceEq, Int.reduceAdd, Int.reduceSub, Int.reduceNeg, Int.reduceBNe, Int.reduceBEq, nd, e2]
    refine vCall_of (hO) ?_ ?_ ?_; (focus simp only [go_sem, reduceIte, Nat.reduceEqDiff, reduceCtorEq, Nat.reduceLT, Nat.reduceAdd, Nat.reduceSub, Nat.reduceMul, Nat.reduceLeDiff, Int.reduceLT, Int.reduceLE, Int.reduceToNat, Int.reduceEq, Int.reduceAdd, Int.reduceSub, Int.reduceNeg, Int.reduceBNe, Int.reduceBEq, flds]); (focus simp only [go_sem, reduceIte, Nat.reduceEqDiff, reduceCtorEq, Nat.reduceLT, Nat.reduceAdd, Nat.reduceSub, Nat.reduceMul, Nat.reduceLeDiff, Int.reduceLT, Int.reduceLE, Int.reduceToNat, Int.reduceEq, Int.reduceAdd, Int.reduceSub, Int.reduceNeg, Int.reduceBNe, Int.reduceBEq, flds])
    simp only [go_sem, reduceIte, Nat.reduceEqDiff, reduceCtorEq, Nat.reduceLT, Nat.reduceAdd, Nat.reduceSub, Nat.reduceMul, Nat.reduceLeDiff, Int.reduceLT, Int.reduceLE, Int.reduceToNat, Int.reduceEq, Int.reduceAdd, Int.reduceSub, Int.reduceNeg, Int.reduceBNe, Int.reduceBEq, flds, fldsc]
  · by_cases h3 : (atN (treeOf m) id).st = 3
    · have e2 : ((atN (treeOf m) id).st == 2) = false := by simpa using h2
      have e3 : ((atN (treeOf m) id).st == 3) = true := by rw [h3]; rfl
      simp only [h2, h3, if_true, if_false]
      refine PL.Pure.of_v Try.func20 (by decide) rfl Try.ntmps20 Try.results20 (by simp) (fldsc_dids _) ?_
      simp only [go_sem, reduceIte, Nat.reduceEqDiff, reduceCtorEq, Nat.reduceLT, Nat.reduceAdd, Nat.reduceSub, Nat.reduceMul, Nat.reduceLeDiff, Int.reduceLT, Int.reduceLE, Int.reduceToNat, Int.reduceEq, Int.reduceAdd, Int.reduceSub, Int.reduceNeg, Int.reduceBNe, Int.reduceBEq, tr, tg]
      refine vCall_of (hA) ?_ ?_ ?_; (focus simp only [go_sem, reduceIte, Nat.reduceEqDiff, reduceCtorEq, Nat.reduceLT, Nat.reduceAdd, Nat.reduceSub, Nat.reduceMul, Nat.reduceLeDiff, Int.reduceLT, Int.reduceLE, Int.reduceToNat, Int.reduceEq, Int.reduceAdd, Int.reduceSub, Int.reduceNeg, Int.reduceBNe, Int.reduceBEq, tr, tg]); (focus simp only [go_sem, reduceIte, Nat.reduceEqDiff, reduceCtorEq, Nat.reduceLT, Nat.reduceAdd, Nat.reduceSub, Nat.reduceMul, Nat.reduceLeDiff, Int.reduceLT, Int.reduceLE, Int.reduceToNat, Int.reduceEq, Int.reduceAdd, Int.reduceSub, Int.reduceNeg, Int.reduceBNe, Int.reduceBEq, tr, tg])
      simp only [go_sem, reduceIte, Nat.reduceEqDiff, reduceCtorEq, Nat.reduceLT, Nat.reduceAdd, Nat.reduceSub, Nat.reduceMul, Nat.reduceLeDiff, Int.reduceLT, Int.reduceLE, Int.reduceToNat, Int.reduceEq, Int.reduceAdd, Int.reduceSub, Int.reduceNeg, Int.reduceBNe, Int.reduceBEq, nd, e2, e3, fldsc, flds, List.map_nil]
    · have e2 : ((atN (treeOf m) id).st == 2) = false := by simpa using h2
      have e3 : ((atN (treeOf m) id).st == 3) = false := by simpa using h3
      simp only [h2, h3, if_false]
      refine PL.Pure.of_v Try.func20 (by decide) rfl Try.ntmps20 Try.results20 (by simp) (fldsc_dids _) ?_
      simp only [go_sem, reduceIte, Nat.reduceEqDiff, reduceCtorEq, Nat.reduceLT, Nat.reduceAdd, Nat.reduceSub, Nat.reduceMul, Nat.reduceLeDiff, Int.reduceLT, Int.reduceLE, Int.reduceToNat, Int.reduceEq, Int.reduceAdd, Int.reduceSub, Int.reduceNeg, Int.reduceBNe, Int.reduceBEq, tr, tg]
      refine vCall_of (hA) ?_ ?_ ?_; (focus simp only [go_sem, reduceIte, Nat.reduceEqDiff, reduceCtorEq, Nat.reduceLT, Nat.reduceAdd, Nat.reduceSub, Nat.reduceMul, Nat.reduceLeDiff, Int.reduceLT, Int.reduceLE, Int.reduceToNat, Int.reduceEq, Int.reduceAdd, Int.reduceSub, Int.reduceNeg, Int.reduceBNe, Int.reduceBEq, tr, tg]); (focus simp only [go_sem, reduceIte, Nat.reduceEqDiff, reduceCtorEq, Nat.reduceLT, Nat.reduceAdd, Nat.reduceSub, Nat.reduceMul, Nat.reduceLeDiff, Int.reduceLT, Int.reduceLE, Int.reduceToNat, Int.reduceEq, Int.reduceAdd, Int.reduceSub, Int.reduceNeg, Int.reduceBNe, Int.reduceBEq, tr, tg])
      simp only [go_sem, reduceIte, Nat.reduceEqDiff, reduceCtorEq, Nat.reduceLT, Nat.reduceAdd, Nat.reduceSub, Nat.reduceMul, Nat.reduceLeDiff, Int.reduceLT, Int.reduceLE, Int.reduceToNat, Int.reduceEq, Int.reduceAdd, Int.reduceSub, Int.reduceNeg, Int.reduceBNe, Int.reduceBEq, nd, e2, e3, fldsc, flds, List.map_nil]
def depM (l : List Nd) (id : Tg) : Int := if (atN l id).st = 2 then (atN l id).dep else -1
set_option maxRecDepth 20000 in
set_option maxHeartbeats 8000000 in
theorem Depth_pure (m : List Eg) (id : Tg) : PL.Pure Try.prog 26 [tr (treeOf m), tg id] (.int .i64 (depM (treeOf m) id)) := by
  have hA := at_pure (treeOf m) id
  unfold depM
  by_cases h2 : (atN (treeOf m) id).st = 2
  · have e2 : ((atN (treeOf m) id).st != 2) = false := by rw [h2]; rfl
    simp only [h2, if_true]
    refine PL.Pure.of_v Try.func26 (by decide) rfl Try.ntmps26 Try.results26 (by simp) rfl ?_
    simp only [go_sem, reduceIte, Nat.reduceEqDiff, reduceCtorEq, Nat.reduceLT, Nat.reduceAdd, Nat.reduceSub, Nat.reduceMul, Nat.reduceLeDiff, Int.reduceLT, Int.reduceLE, Int.reduceToNat, Int.reduceEq, Int.reduceAdd, Int.reduceSub, Int.reduceNeg, Int.reduceBNe, Int.reduceBEq, tr, tg]
    refine vCall_of (hA) ?_ ?_ ?_; (focus simp only [go_sem, reduceIte, Nat.reduceEqDiff, reduceCtorEq, Nat.reduceLT, Nat.reduceAdd, Nat.reduceSub, Nat.reduceMul, Nat.reduceLeDiff, Int.reduceLT, Int.reduceLE, Int.reduceToNat, Int.reduceEq, Int.reduceAdd, Int.reduceSub, Int.reduceNeg, Int.reduceBNe, Int.reduceBEq, tr, tg]); (focus simp only [go_sem, reduceIte, Nat.reduceEqDiff, reduceCtorEq, Nat.reduceLT, Nat.reduceAdd, Nat.reduceSub, Nat.reduceMul, Nat.reduceLeDiff, Int.reduceLT, Int.reduceLE, Int.reduceToNat, Int.reduceEq, Int.reduceAdd, Int.reduceSub, Int.reduceNeg, Int.reduceBNe, Int.reduceBEq, tr, tg])
    simp only [go_sem, reduceIte, Nat.reduceEqDiff, reduceCtorEq, Nat.reduceLT, Nat.reduceAdd, Nat.reduceSub, Nat.reduceMul, Nat.reduceLeDiff, Int.reduceLT, Int.reduceLE, Int.reduceToNat, Int.reduceEq, Int.reduceAdd, Int.reduceSub, Int.reduceNeg, Int.reduceBNe, Int.reduceBEq, nd, e2]
  · have e2 : ((atN (treeOf m) id).st != 2) = true := by simpa using h2
    simp only [h2, if_false]
    refine PL.Pure.of_v Try.func26 (by decide) rfl Try.ntmps26 Try.results26 (by simp) rfl ?_
    simp only [go_sem, reduceIte, Nat.reduceEqDiff, reduceCtorEq, Nat.reduceLT, Nat.reduceAdd, Nat.reduceSub, Nat.reduceMul, Nat.reduceLeDiff, Int.reduceLT, Int.reduceLE, Int.reduceToNat, Int.reduceEq, Int.reduceAdd, Int.reduceSub, Int.reduceNeg, Int.reduceBNe, Int.reduceBEq, tr, tg]
    refine vCall_of (hA) ?_ ?_ ?_; (focus simp only [go_sem, reduceIte, Nat.reduceEqDiff, reduceCtorEq, Nat.reduceLT, Nat.reduceAdd, Nat.reduceSub, Nat.reduceMul, Nat.reduceLeDiff, Int.reduceLT, Int.reduceLE, Int.reduceToNat, Int.reduceEq, Int.reduceAdd, Int.reduceSub, Int.reduceNeg, Int.reduceBNe, Int.reduceBEq, tr, tg]); (focus simp only [go_sem, reduceIte, Nat.reduceEqDiff, reduceCtorEq, Nat.reduceLT, Nat.reduceAdd, Nat.reduceSub, Nat.reduceMul, Nat.reduceLeDiff, Int.reduceLT, Int.reduceLE, Int.reduceToNat, Int.reduceEq, Int.reduceAdd, Int.reduceSub, Int.reduceNeg, Int.reduceBNe, Int.reduceBEq, tr, tg])
    simp only [go_sem, reduceIte, Nat.reduceEqDiff, reduceCtorEq, Nat.reduceLT, Nat.reduceAdd, Nat.reduceSub, Nat.reduceMul, Nat.reduceLeDiff, Int.reduceLT, Int.reduceLE, Int.reduceToNat, Int.reduceEq, Int.reduceAdd, Int.reduceSub, Int.reduceNeg, Int.reduceBNe, Int.reduceBEq, nd, e2]
end Go.Proofs.Ytbojhapdidieoaa
