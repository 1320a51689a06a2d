/- Contracts of functions and laws of this seat, each for every input that it names: lemmas of the proof. -/
import Derived.Test.YtbojhapdidieoaaGreatXBg
set_option linter.unusedSimpArgs false
set_option linter.unusedVariables false
set_option linter.unusedSimpArgs false
set_option linter.unusedVariables false
namespace Go.Proofs.YtbojhapdidieoaaGreat
open Go.PL
def putM (m : List Eg) (e : Eg) : List Eg × Int :=
  if edgeB e = false then (m, 5) else match findE m e.id with
    | some x => if x = e then (m, 7) else (m, 15)
    | none => if 40 ≤ m.length then (m, 9) else (m ++ [e], 0)
/-- a list of edges that a tree holds -/
structure OkM (m : List Eg) : Prop where
  a : Apart m
  l : ∀ e ∈ m, OkLn e.ln
  n : m.length ≤ 40
theorem okM_nil : OkM [] := ⟨⟨by simp, fun e h => (by cases h)⟩, fun e h => (by cases h), by simp⟩
theorem okPut {m : List Eg} (h : OkM m) {e : Eg} (he : OkLn e.ln) : OkM (putM m e).1 := by
  unfold putM
  split
  · exact h
  · rename_i hb
    split
    · split <;> exact h
    · rename_i hf
      split
      · exact h
      · rename_i hn
        refine ⟨⟨?_, fun x hx => ?_⟩, fun x hx => ?_, by simp; omega⟩
        · rw [List.map_append, List.nodup_append]
          refine ⟨h.a.d, by simp, fun a ha b hb' => ?_⟩
          simp only [List.map_cons, List.map_nil, List.mem_singleton] at hb'
          subst hb'
          obtain ⟨x, hx, rfl⟩ := List.mem_map.1 ha
          unfold findE at hf
          rw [List.find?_eq_none] at hf
          have := hf x hx
          simp only [decide_eq_true_eq] at this
          exact fun e1 => this e1.symm
        · rcases List.mem_append.1 hx with hx | hx
          · exact h.a.n x hx
          · rw [List.mem_singleton.1 hx]
            have hb : edgeB e = true := by simpa using hb
            simp only [edgeB, Bool.and_eq_true] at hb
            exact tagB_default hb.1
        · rcases List.mem_append.1 hx with hx | hx
          · exact h.l x hx
          · rw [List.mem_singleton.1 hx]; exact he
/-- with one more edge the settled ones are as they were -/
theorem findE_append {m : List Eg} {e x : Eg} {id : Tg} (h : findE m id = some x) : findE (m ++ [e]) id = some x := by
  unfold findE at *; rw [List.find?_append, h]; rfl
theorem Way.append {m : List Eg} {e : Eg} {id : Tg} {w : List Eg} (h : Way m id w) : Way (m ++ [e]) id w := by
  induction h with
  | root => exact .root
  | step hn he hw ih => exact .step hn (findE_append he) ih
theorem semi_put {m : List Eg} (e : Eg) : Semi (m ++ [e]) (treeOf m ++ [pend e]) := by
  refine ⟨by simp [treeOf], fun i hi => ?_⟩
  by_cases hl : i < m.length
  · rw [getD_append_left (by simpa [treeOf] using hl), getD_append_left hl]
    have e1 : (treeOf m).getD i default = nodeOf m (m.getD i default) := by
      rw [getD_lt (by simpa [treeOf] using hl), getD_lt hl]; simp [treeOf]
    rw [e1]
    cases hw : wayM m (m.getD i default).id with
    | none => exact .inl (nodeOf_none hw)
    | some w =>
      right
      have : wayM (m ++ [e]) (m.getD i default).id = some w := wayM_iff.2 (wayM_iff.1 hw).append
      refine ⟨by simp only [nodeOf, hw, this], fun hh => ?_⟩
      rw [nodeOf_st.1 hh] at hw; cases hw
  · left
    have hi' : i = m.length := by simp at hi; omega
    subst hi'
    rw [getD_append_right (by simp [treeOf]), getD_append_right (Nat.le_refl _)]
    simp [treeOf]
theorem tree_semi (m : List Eg) : Semi m (treeOf m) := by
  refine ⟨by simp [treeOf], fun i hi => ?_⟩
  have e1 : (treeOf m).getD i default = nodeOf m (m.getD i default) := by
    rw [getD_lt (by simpa [treeOf] using hi), getD_lt hi]; simp [treeOf]
  rw [e1]
  cases hw : wayM m (m.getD i default).id with
  | none => exact .inl (nodeOf_none hw)
  | some w => exact .inr ⟨rfl, fun hh => by rw [nodeOf_st.1 hh] at hw; cases hw⟩
theorem find_tree (m : List Eg) (id : Tg) : findN (treeOf m) id = (findE m id).map (nodeOf m) := by
  unfold findN findE treeOf
  rw [List.find?_map]
  congr 1
  congr 1
  funext x
  simp [nodeOf_e]
theorem idx_tree (m : List Eg) (id : Tg) : ((treeOf m).findIdx? fun n => decide (id = n.e.id)) = m.findIdx? fun e => decide (id = e.id) := by
  unfold treeOf
  rw [List.findIdx?_map]
  congr 1
  funext x
  simp [nodeOf_e]
theorem tree_len (m : List Eg) : (treeOf m).length = m.length := by simp [treeOf]
theorem mc_push (m : List Eg) (e : Eg) : mc (treeOf m ++ [pend e]) = ⟨kts (treeOf m) ++ [tg e.id], nds (treeOf m) ++ [nd (pend e)]⟩ := by simp [mc, kts, nds, pend]
set_option maxRecDepth 20000 in
set_option maxHeartbeats 16000000 in
theorem put_wr (m : List Eg) (e : Eg) (hm : OkM m) (he : OkLn e.ln) : PL.Wr Tryz.prog 44 (fun b => [.rptr [.mref b], eg e]) (mc (treeOf m)) (.int .i64 (putM m e).2) (mc (treeOf (putM m e).1)) := by
  have hE := tedge_pure e he
  have hok := okPut hm he
  unfold putM at hok ⊢
  cases hb : edgeB e
  · rw [hb] at hE
    refine PL.Wr.of_v Tryz.func44 (by decide) rfl Tryz.ntmps44 Tryz.results44 (by simp) rfl (fun b => ?_)
    simp only [go_sem, reduceIte, Nat.reduceEqDiff, reduceCtorEq, Nat.reduceLT, Nat.reduceAdd, Nat.reduceSub, Nat.reduceMul, Nat.reduceLeDiff, Int.reduceLT, Int.reduceLE, Int.reduceToNat, Int.reduceEq, Int.reduceAdd, Int.reduceSub, Int.reduceNeg, Int.reduceBNe, Int.reduceBEq, eg]
    refine vCall_of (hE) ?_ ?_ ?_; (focus simp only [go_sem, reduceIte, Nat.reduceEqDiff, reduceCtorEq, eg]); (focus simp only [go_sem, reduceIte, Nat.reduceEqDiff, reduceCtorEq, eg])
    simp only [go_sem, reduceIte, Nat.reduceEqDiff, reduceCtorEq, Nat.reduceLT, Nat.reduceAdd, Nat.reduceSub, Nat.reduceMul, Nat.reduceLeDiff, Int.reduceLT, Int.reduceLE, Int.reduceToNat, Int.reduceEq, Int.reduceAdd, Int.reduceSub, Int.reduceNeg, Int.reduceBNe, Int.reduceBEq, if_true]
  · rw [hb] at hE
    simp only [hb, Bool.true_eq_false, if_false] at hok ⊢
    have hidx := idx_tree m e.id
    cases hf : m.findIdx? (fun x => decide (e.id = x.id)) with
    | some i =>
      rw [hf] at hidx
      obtain ⟨h1, h2⟩ := findIdx_some hidx
      rw [find_tree] at h2
      cases hfe : findE m e.id with
      | none => rw [hfe] at h2; cases h2
      | some x =>
        rw [hfe] at h2
        simp only [Option.map_some, Option.some.injEq] at h2
        have hxm := (findE_id hfe).2
        have hS := tsame_pure x e (hm.l x hxm) he
        have hgx : ((treeOf m).getD i default).e = x := by rw [← h2, nodeOf_e]
        have hval : (nds (treeOf m)).getD i .any = nd (nodeOf m x) := by rw [getD_nd h1, h2]
        have hne := nodeOf_e m x
        simp only
        cases hd : decide (x = e)
        · rw [hd] at hS
          have hx : ¬ x = e := by simpa using hd
          simp only [hx, if_false]
          refine PL.Wr.of_v Tryz.func44 (by decide) rfl Tryz.ntmps44 Tryz.results44 (by simp) rfl (fun b => ?_)
          simp only [go_sem, reduceIte, Nat.reduceEqDiff, reduceCtorEq, Nat.reduceLT, Nat.reduceAdd, Nat.reduceSub, Nat.reduceMul, Nat.reduceLeDiff, Int.reduceLT, Int.reduceLE, Int.reduceToNat, Int.reduceEq, Int.reduceAdd, Int.reduceSub, Int.reduceNeg, Int.reduceBNe, Int.reduceBEq, eg]
          refine vCall_of (hE) ?_ ?_ ?_; (focus simp only [go_sem, reduceIte, Nat.reduceEqDiff, reduceCtorEq, eg]); (focus simp only [go_sem, reduceIte, Nat.reduceEqDiff, reduceCtorEq, eg])
          simp only [go_sem, reduceIte, Nat.reduceEqDiff, reduceCtorEq, Nat.reduceLT, Nat.reduceAdd, Nat.reduceSub, Nat.reduceMul, Nat.reduceLeDiff, Int.reduceLT, Int.reduceLE, Int.reduceToNat, Int.reduceEq, Int.reduceAdd, Int.reduceSub, Int.reduceNeg, Int.reduceBNe, Int.reduceBEq]
          refine vDrawQ (by kernel_rfl) (by kernel_rfl) ?_
          simp only [go_sem, reduceIte, Nat.reduceEqDiff, reduceCtorEq, Nat.reduceLT, Nat.reduceAdd, Nat.reduceSub, Nat.reduceMul, Nat.reduceLeDiff, Int.reduceLT, Int.reduceLE, Int.reduceToNat, Int.reduceEq, Int.reduceAdd, Int.reduceSub, Int.reduceNeg, Int.reduceBNe, Int.reduceBEq, mc, findP_tags0, hidx, hval, nd, hne]
          refine vCall_of (hS) ?_ ?_ ?_; (focus simp only [go_sem, reduceIte, Nat.reduceEqDiff, reduceCtorEq, eg]); (focus simp only [go_sem, reduceIte, Nat.reduceEqDiff, reduceCtorEq, eg])
          simp only [go_sem, reduceIte, Nat.reduceEqDiff, reduceCtorEq, Nat.reduceLT, Nat.reduceAdd, Nat.reduceSub, Nat.reduceMul, Nat.reduceLeDiff, Int.reduceLT, Int.reduceLE, Int.reduceToNat, Int.reduceEq, Int.reduceAdd, Int.reduceSub, Int.reduceNeg, Int.reduceBNe, Int.reduceBEq, mc]
        · rw [hd] at hS
          have hx : x = e := by simpa using hd
          simp only [hx, if_true]
          refine PL.Wr.of_v Tryz.func44 (by decide) rfl Tryz.ntmps44 Tryz.results44 (by simp) rfl (fun b => ?_)
          simp only [go_sem, reduceIte, Nat.reduceEqDiff, reduceCtorEq, Nat.reduceLT, Nat.reduceAdd, Nat.reduceSub, Nat.reduceMul, Nat.reduceLeDiff, Int.reduceLT, Int.reduceLE, Int.reduceToNat, Int.reduceEq, Int.reduceAdd, Int.reduceSub, Int.reduceNeg, Int.reduceBNe, Int.reduceBEq, eg]
          refine vCall_of (hE) ?_ ?_ ?_; (focus simp only [go_sem, reduceIte, Nat.reduceEqDiff, reduceCtorEq, eg]); (focus simp only [go_sem, reduceIte, Nat.reduceEqDiff, reduceCtorEq, eg])
          simp only [go_sem, reduceIte, Nat.reduceEqDiff, reduceCtorEq, Nat.reduceLT, Nat.reduceAdd, Nat.reduceSub, Nat.reduceMul, Nat.reduceLeDiff, Int.reduceLT, Int.reduceLE, Int.reduceToNat, Int.reduceEq, Int.reduceAdd, Int.reduceSub, Int.reduceNeg, Int.reduceBNe, Int.reduceBEq]
          refine vDrawQ (by kernel_rfl) (by kernel_rfl) ?_
          simp only [go_sem, reduceIte, Nat.reduceEqDiff, reduceCtorEq, Nat.reduceLT, Nat.reduceAdd, Nat.reduceSub, Nat.reduceMul, Nat.reduceLeDiff, Int.reduceLT, Int.reduceLE, Int.reduceToNat, Int.reduceEq, Int.reduceAdd, Int.reduceSub, Int.reduceNeg, Int.reduceBNe, Int.reduceBEq, mc, findP_tags0, hidx, hval, nd, hne]
          refine vCall_of (hS) ?_ ?_ ?_; (focus simp only [go_sem, reduceIte, Nat.reduceEqDiff, reduceCtorEq, eg]); (focus simp only [go_sem, reduceIte, Nat.reduceEqDiff, reduceCtorEq, eg])
          simp only [go_sem, reduceIte, Nat.reduceEqDiff, reduceCtorEq, Nat.reduceLT, Nat.reduceAdd, Nat.reduceSub, Nat.reduceMul, Nat.reduceLeDiff, Int.reduceLT, Int.reduceLE, Int.reduceToNat, Int.reduceEq, Int.reduceAdd, Int.reduceSub, Int.reduceNeg, Int.reduceBNe, Int.reduceBEq, mc]
    | none =>
      rw [hf] at hidx
      have h2 := findIdx_find.1 hidx
      rw [find_tree] at h2
      have hfe : findE m e.id = none := by
        cases hx : findE m e.id with
        | none => rfl
        | some x => rw [hx] at h2; cases h2
      rw [hfe] at hok ⊢
      simp only at hok ⊢
      have hkl : (kts (treeOf m)).length = m.length := by rw [kts_len, tree_len]
      by_cases hn : 40 ≤ m.length
      · have hn' : (40 : Int) ≤ (m.length : Int) := by omega
        simp only [hn, if_true]
        refine PL.Wr.of_v Tryz.func44 (by decide) rfl Tryz.ntmps44 Tryz.results44 (by simp) rfl (fun b => ?_)
        simp only [go_sem, reduceIte, Nat.reduceEqDiff, reduceCtorEq, Nat.reduceLT, Nat.reduceAdd, Nat.reduceSub, Nat.reduceMul, Nat.reduceLeDiff, Int.reduceLT, Int.reduceLE, Int.reduceToNat, Int.reduceEq, Int.reduceAdd, Int.reduceSub, Int.reduceNeg, Int.reduceBNe, Int.reduceBEq, eg]
        refine vCall_of (hE) ?_ ?_ ?_; (focus simp only [go_sem, reduceIte, Nat.reduceEqDiff, reduceCtorEq, eg]); (focus simp only [go_sem, reduceIte, Nat.reduceEqDiff, reduceCtorEq, eg])
        simp only [go_sem, reduceIte, Nat.reduceEqDiff, reduceCtorEq, Nat.reduceLT, Nat.reduceAdd, Nat.reduceSub, Nat.reduceMul, Nat.reduceLeDiff, Int.reduceLT, Int.reduceLE, Int.reduceToNat, Int.reduceEq, Int.reduceAdd, Int.reduceSub, Int.reduceNeg, Int.reduceBNe, Int.reduceBEq]
        refine vDrawQ (by kernel_rfl) (by kernel_rfl) ?_
        simp only [go_sem, reduceIte, Nat.reduceEqDiff, reduceCtorEq, Nat.reduceLT, Nat.reduceAdd, Nat.reduceSub, Nat.reduceMul, Nat.reduceLeDiff, Int.reduceLT, Int.reduceLE, Int.reduceToNat, Int.reduceEq, Int.reduceAdd, Int.reduceSub, Int.reduceNeg, Int.reduceBNe, Int.reduceBEq, mc, findP_tags0, hidx, hkl, hn']
      · have hn' : ¬ (40 : Int) ≤ (m.length : Int) := by omega
        simp only [hn, if_false] at hok ⊢
        have hO := town_pure e he
        have hW := settle_wr (m ++ [e]) (treeOf m ++ [pend e]) hok.a (semi_put e) hok.l (by have := hok.n; omega)
        refine PL.Wr.of_v Tryz.func44 (by decide) rfl Tryz.ntmps44 Tryz.results44 (by simp) rfl (fun b => ?_)
        simp only [go_sem, reduceIte, Nat.reduceEqDiff, reduceCtorEq, Nat.reduceLT, Nat.reduceAdd, Nat.reduceSub, Nat.reduceMul, Nat.reduceLeDiff, Int.reduceLT, Int.reduceLE, Int.reduceToNat, Int.reduceEq, Int.reduceAdd, Int.reduceSub, Int.reduceNeg, Int.reduceBNe, Int.reduceBEq, eg]
        refine vCall_of (hE) ?_ ?_ ?_; (focus simp only [go_sem, reduceIte, Nat.reduceEqDiff, reduceCtorEq, eg]); (focus simp only [go_sem, reduceIte, Nat.reduceEqDiff, reduceCtorEq, eg])
        simp only [go_sem, reduceIte, Nat.reduceEqDiff, reduceCtorEq, Nat.reduceLT, Nat.reduceAdd, Nat.reduceSub, Nat.reduceMul, Nat.reduceLeDiff, Int.reduceLT, Int.reduceLE, Int.reduceToNat, Int.reduceEq, Int.reduceAdd, Int.reduceSub, Int.reduceNeg, Int.reduceBNe, Int.reduceBEq]
        refine vDrawQ (by kernel_rfl) (by kernel_rfl) ?_
        simp only [go_sem, reduceIte, Nat.reduceEqDiff, reduceCtorEq, Nat.reduceLT, Nat.reduceAdd, Nat.reduceSub, Nat.reduceMul, Nat.reduceLeDiff, Int.reduceLT, Int.reduceLE, Int.reduceToNat, Int.reduceEq, Int.reduceAdd, Int.reduceSub, Int.reduceNeg, Int.reduceBNe, Int.reduceBEq, mc, findP_tags0, hidx, hkl, hn']
        refine vDrawQ (by kernel_rfl) (by kernel_rfl) ?_
        simp only [go_sem, reduceIte, Nat.reduceEqDiff, reduceCtorEq, Nat.reduceLT, Nat.reduceAdd, Nat.reduceSub, Nat.reduceMul, Nat.reduceLeDiff, Int.reduceLT, Int.reduceLE, Int.reduceToNat, Int.reduceEq, Int.reduceAdd, Int.reduceSub, Int.reduceNeg, Int.reduceBNe, Int.reduceBEq]
        refine vCall_of (hO) ?_ ?_ ?_; (focus simp only [go_sem, reduceIte, Nat.reduceEqDiff, reduceCtorEq, eg]); (focus simp only [go_sem, reduceIte, Nat.reduceEqDiff, reduceCtorEq, eg])
        simp only [go_sem, reduceIte, Nat.reduceEqDiff, reduceCtorEq, Nat.reduceLT, Nat.reduceAdd, Nat.reduceSub, Nat.reduceMul, Nat.reduceLeDiff, Int.reduceLT, Int.reduceLE, Int.reduceToNat, Int.reduceEq, Int.reduceAdd, Int.reduceSub, Int.reduceNeg, Int.reduceBNe, Int.reduceBEq, eg, mc, findP_tags0, hidx]
        refine vCall_wr b hW ?_ ?_ ?_ ?_
        · simp only [go_sem, reduceIte, Nat.reduceEqDiff, reduceCtorEq, Nat.reduceLT, Nat.reduceAdd, Nat.reduceSub, Nat.reduceMul, Nat.reduceLeDiff, Int.reduceLT, Int.reduceLE, Int.reduceToNat, Int.reduceEq, Int.reduceAdd, Int.reduceSub, Int.reduceNeg, Int.reduceBNe, Int.reduceBEq]
        · simp only [go_sem, reduceIte, Nat.reduceEqDiff, reduceCtorEq, Nat.reduceLT, Nat.reduceAdd, Nat.reduceSub, Nat.reduceMul, Nat.reduceLeDiff, Int.reduceLT, Int.reduceLE, Int.reduceToNat, Int.reduceEq, Int.reduceAdd, Int.reduceSub, Int.reduceNeg, Int.reduceBNe, Int.reduceBEq]
        · rw [mc_push]
          simp [upd, tg, nd, pend]
        · simp only [go_sem, reduceIte, Nat.reduceEqDiff, reduceCtorEq, Nat.reduceLT, Nat.reduceAdd, Nat.reduceSub, Nat.reduceMul, Nat.reduceLeDiff, Int.reduceLT, Int.reduceLE, Int.reduceToNat, Int.reduceEq, Int.reduceAdd, Int.reduceSub, Int.reduceNeg, Int.reduceBNe, Int.reduceBEq, mc]
def egsc (x : List Eg × Int) : PV := .tup [egs x.1, .int .i64 x.2]
theorem egs_dids (l : List Eg) : (egs l).dids = [] := by
  unfold egs
  simp only [PV.dids]
  induction l with
  | nil => rfl
  | cons e l ih => simp only [List.map_cons, PV.didsL, ih, eg_dids, List.append_nil]
theorem egsc_dids (x : List Eg × Int) : (egsc x).dids = [] := by simp only [egsc, PV.dids, PV.didsL, egs_dids, List.append_nil]
theorem sized_eg (l : List Eg) : Sized 20 (l.map eg) := fun e he => by
  obtain ⟨x, _, rfl⟩ := List.mem_map.1 he; rfl
theorem atoms_eg (l : List Eg) : Atoms (l.map eg) := fun e he => by
  obtain ⟨x, _, rfl⟩ := List.mem_map.1 he; rfl
theorem idx_find {m : List Eg} {id : Tg} : (idx (fun x => decide (x.id = id)) m = -1 ∧ findE m id = none) ∨ ∃ i : Nat, i < m.length ∧ idx (fun x => decide (x.id = id)) m = (i : Int) ∧ findE m id = some (m.getD i default) := by
  have e : (fun x : Eg => decide (x.id = id)) = fun x => decide (id = x.id) := by funext x; simp [eq_comm]
  unfold idx
  rw [e]
  cases hf : m.findIdx? (fun x => decide (id = x.id)) with
  | none =>
    left
    refine ⟨rfl, ?_⟩
    rw [List.findIdx?_eq_none_iff] at hf
    unfold findE
    rw [List.find?_eq_none]
    intro x hx hh
    rw [hf x hx] at hh; cases hh
  | some i =>
    right
    rw [List.findIdx?_eq_some_iff_getElem] at hf
    obtain ⟨h1, h2, h3⟩ := hf
    refine ⟨i, h1, rfl, ?_⟩
    unfold findE
    rw [List.find?_eq_some_iff_getElem]
    exact ⟨by rw [getD_lt h1]; exact h2, i, h1, (getD_lt h1).symm, fun j hj => by simpa using h3 j hj⟩
set_option maxRecDepth 20000 in
set_option maxHeartbeats 16000000 in
theorem RPut_pure (m : List Eg) (e : Eg) (hm : OkM m) (he : OkLn e.ln) : PL.Pure Tryz.prog 45 [egs m, eg e] (egsc (putM m e)) := by
  have hE := REdge_pure e he
  have hA := RAtE_pure m e.id (by rw [maxLen_eq]; have := hm.n; omega)
  unfold putM
  cases hb : edgeB e
  · rw [hb] at hE
    refine PL.Pure.of_v Tryz.func45 (by decide) rfl Tryz.ntmps45 Tryz.results45 (by simp) (egsc_dids _) ?_
    simp only [go_sem, reduceIte, Nat.reduceEqDiff, reduceCtorEq, Nat.reduceLT, Nat.reduceAdd, Nat.reduceSub, Nat.reduceMul, Nat.reduceLeDiff, Int.reduceLT, Int.reduceLE, Int.reduceToNat, Int.reduceEq, Int.reduceAdd, Int.reduceSub, Int.reduceNeg, Int.reduceBNe, Int.reduceBEq, eg, egs]
    refine vCall_of (hE) ?_ ?_ ?_; (focus simp only [go_sem, reduceIte, Nat.reduceEqDiff, reduceCtorEq, eg]); (focus simp only [go_sem, reduceIte, Nat.reduceEqDiff, reduceCtorEq, eg])
    simp only [go_sem, reduceIte, Nat.reduceEqDiff, reduceCtorEq, Nat.reduceLT, Nat.reduceAdd, Nat.reduceSub, Nat.reduceMul, Nat.reduceLeDiff, Int.reduceLT, Int.reduceLE, Int.reduceToNat, Int.reduceEq, Int.reduceAdd, Int.reduceSub, Int.reduceNeg, Int.reduceBNe, Int.reduceBEq, if_true, egsc, egs]
  · rw [hb] at hE
    simp only [Bool.true_eq_false, if_false]
    rcases idx_find (m := m) (id := e.id) with ⟨h1, h2⟩ | ⟨i, hi, h1, h2⟩
    · rw [h1] at hA
      rw [h2]
      by_cases hn : 40 ≤ m.length
      · have hn' : (39 : Int) < (m.length : Int) := by omega
        simp only [hn, if_true]
        refine PL.Pure.of_v Tryz.func45 (by decide) rfl Tryz.ntmps45 Tryz.results45 (by simp) (egsc_dids _) ?_
        simp only [go_sem, reduceIte, Nat.reduceEqDiff, reduceCtorEq, Nat.reduceLT, Nat.reduceAdd, Nat.reduceSub, Nat.reduceMul, Nat.reduceLeDiff, Int.reduceLT, Int.reduceLE, Int.reduceToNat, Int.reduceEq, Int.reduceAdd, Int.reduceSub, Int.reduceNeg, Int.reduceBNe, Int.reduceBEq, eg, egs]
        refine vCall_of (hE) ?_ ?_ ?_; (focus simp only [go_sem, reduceIte, Nat.reduceEqDiff, reduceCtorEq, eg]); (focus simp only [go_sem, reduceIte, Nat.reduceEqDiff, reduceCtorEq, eg])
        simp only [go_sem, reduceIte, Nat.reduceEqDiff, reduceCtorEq, Nat.reduceLT, Nat.reduceAdd, Nat.reduceSub, Nat.reduceMul, Nat.reduceLeDiff, Int.reduceLT, Int.reduceLE, Int.reduceToNat, Int.reduceEq, Int.reduceAdd, Int.reduceSub, Int.reduceNeg, Int.reduceBNe, Int.reduceBEq]
        refine vCall_of (hA) ?_ ?_ ?_; (focus simp only [go_sem, reduceIte, Nat.reduceEqDiff, reduceCtorEq, egs, tg]); (focus simp only [go_sem, reduceIte, Nat.reduceEqDiff, reduceCtorEq, egs, tg])
        simp only [go_sem, reduceIte, Nat.reduceEqDiff, reduceCtorEq, Nat.reduceLT, Nat.reduceAdd, Nat.reduceSub, Nat.reduceMul, Nat.reduceLeDiff, Int.reduceLT, Int.reduceLE, Int.reduceToNat, Int.reduceEq, Int.reduceAdd, Int.reduceSub, Int.reduceNeg, Int.reduceBNe, Int.reduceBEq]
        refine vDrawQ (by kernel_rfl) (by kernel_rfl) ?_
        simp only [go_sem, reduceIte, Nat.reduceEqDiff, reduceCtorEq, Nat.reduceLT, Nat.reduceAdd, Nat.reduceSub, Nat.reduceMul, Nat.reduceLeDiff, Int.reduceLT, Int.reduceLE, Int.reduceToNat, Int.reduceEq, Int.reduceAdd, Int.reduceSub, Int.reduceNeg, Int.reduceBNe, Int.reduceBEq, hn', egsc, egs]
      · have hn' : ¬ (39 : Int) < (m.length : Int) := by omega
        simp only [hn, if_false]
        have hr1 := room1 (show m.length ≤ 1000000 by omega) (show 256 ≤ 1000 by omega)
        have hr2 := room1 (show m.length + 1 ≤ 1000000 by omega) (show 256 ≤ 1000 by omega)
        refine PL.Pure.of_v Tryz.func45 (by decide) rfl Tryz.ntmps45 Tryz.results45 (by simp) (egsc_dids _) ?_
        simp only [go_sem, reduceIte, Nat.reduceEqDiff, reduceCtorEq, Nat.reduceLT, Nat.reduceAdd, Nat.reduceSub, Nat.reduceMul, Nat.reduceLeDiff, Int.reduceLT, Int.reduceLE, Int.reduceToNat, Int.reduceEq, Int.reduceAdd, Int.reduceSub, Int.reduceNeg, Int.reduceBNe, Int.reduceBEq, eg, egs]
        refine vCall_of (hE) ?_ ?_ ?_; (focus simp only [go_sem, reduceIte, Nat.reduceEqDiff, reduceCtorEq, eg]); (focus simp only [go_sem, reduceIte, Nat.reduceEqDiff, reduceCtorEq, eg])
        simp only [go_sem, reduceIte, Nat.reduceEqDiff, reduceCtorEq, Nat.reduceLT, Nat.reduceAdd, Nat.reduceSub, Nat.reduceMul, Nat.reduceLeDiff, Int.reduceLT, Int.reduceLE, Int.reduceToNat, Int.reduceEq, Int.reduceAdd, Int.reduceSub, Int.reduceNeg, Int.reduceBNe, Int.reduceBEq]
        refine vCall_of (hA) ?_ ?_ ?_; (focus simp only [go_sem, reduceIte, Nat.reduceEqDiff, reduceCtorEq, egs, tg]); (focus simp only [go_sem, reduceIte, Nat.reduceEqDiff, reduceCtorEq, egs, tg])
        simp only [go_sem, reduceIte, Nat.reduceEqDiff, reduceCtorEq, Nat.reduceLT, Nat.reduceAdd, Nat.reduceSub, Nat.reduceMul, Nat.reduceLeDiff, Int.reduceLT, Int.reduceLE, Int.reduceToNat, Int.reduceEq, Int.reduceAdd, Int.reduceSub, Int.reduceNeg, Int.reduceBNe, Int.reduceBEq]
        refine vDrawQ (by kernel_rfl) (by kernel_rfl) ?_
        simp only [go_sem, reduceIte, Nat.reduceEqDiff, reduceCtorEq, Nat.reduceLT, Nat.reduceAdd, Nat.reduceSub, Nat.reduceMul, Nat.reduceLeDiff, Int.reduceLT, Int.reduceLE, Int.reduceToNat, Int.reduceEq, Int.reduceAdd, Int.reduceSub, Int.reduceNeg, Int.reduceBNe, Int.reduceBEq, hn', egsc, egs, sized_eg, atoms_eg, hr1, hr2, List.length_map]
        repeat ((with_reducible refine And.intro ?_ ?_); (focus ((repeat' (with_reducible apply And.intro)) <;> (first | omega | exact room_small (by omega) (by omega) | exact room_small (by simp; omega) (by omega) | exact sized_str _ | (simp; done) | (simp; omega)))))
        simp [eg]
    · rw [h1] at hA
      rw [h2]
      have hS := RESame_pure (m.getD i default) e (hm.l _ (getD_mem hi)) he
      have i0 : (0 : Int) ≤ (i : Int) := by omega
      have i1 : (i : Int) < (m.length : Int) := by omega
      cases hd : decide (m.getD i default = e)
      · rw [hd] at hS
        have hx : ¬ m.getD i default = e := by simpa using hd
        simp only [hx, if_false]
        refine PL.Pure.of_v Tryz.func45 (by decide) rfl Tryz.ntmps45 Tryz.results45 (by simp) (egsc_dids _) ?_
        simp only [go_sem, reduceIte, Nat.reduceEqDiff, reduceCtorEq, Nat.reduceLT, Nat.reduceAdd, Nat.reduceSub, Nat.reduceMul, Nat.reduceLeDiff, Int.reduceLT, Int.reduceLE, Int.reduceToNat, Int.reduceEq, Int.reduceAdd, Int.reduceSub, Int.reduceNeg, Int.reduceBNe, Int.reduceBEq, eg, egs]
        refine vCall_of (hE) ?_ ?_ ?_; (focus simp only [go_sem, reduceIte, Nat.reduceEqDiff, reduceCtorEq, eg]); (focus simp only [go_sem, reduceIte, Nat.reduceEqDiff, reduceCtorEq, eg])
        simp only [go_sem, reduceIte, Nat.reduceEqDiff, reduceCtorEq, Nat.reduceLT, Nat.reduceAdd, Nat.reduceSub, Nat.reduceMul, Nat.reduceLeDiff, Int.reduceLT, Int.reduceLE, Int.reduceToNat, Int.reduceEq, Int.reduceAdd, Int.reduceSub, Int.reduceNeg, Int.reduceBNe, Int.reduceBEq]
        refine vCall_of (hA) ?_ ?_ ?_; (focus simp only [go_sem, reduceIte, Nat.reduceEqDiff, reduceCtorEq, egs, tg]); (focus simp only [go_sem, reduceIte, Nat.reduceEqDiff, reduceCtorEq, egs, tg])
        simp only [go_sem, reduceIte, Nat.reduceEqDiff, reduceCtorEq, Nat.reduceLT, Nat.reduceAdd, Nat.reduceSub, Nat.reduceMul, Nat.reduceLeDiff, Int.reduceLT, Int.reduceLE, Int.reduceToNat, Int.reduceEq, Int.reduceAdd, Int.reduceSub, Int.reduceNeg, Int.reduceBNe, Int.reduceBEq]
        refine vDrawQ (by kernel_rfl) (by kernel_rfl) ?_
        simp only [go_sem, reduceIte, Nat.reduceEqDiff, reduceCtorEq, Nat.reduceLT, Nat.reduceAdd, Nat.reduceSub, Nat.reduceMul, Nat.reduceLeDiff, Int.reduceLT, Int.reduceLE, Int.reduceToNat, Int.reduceEq, Int.reduceAdd, Int.reduceSub, Int.reduceNeg, Int.reduceBNe, Int.reduceBEq, i0, i1, getD_eg hi, eg]
        refine vCall_of (hS) ?_ ?_ ?_; (focus simp only [go_sem, reduceIte, Nat.reduceEqDiff, reduceCtorEq, eg]); (focus simp only [go_sem, reduceIte, Nat.reduceEqDiff, reduceCtorEq, eg])
        simp only [go_sem, reduceIte, Nat.reduceEqDiff, reduceCtorEq, Nat.reduceLT, Nat.reduceAdd, Nat.reduceSub, Nat.reduceMul, Nat.reduceLeDiff, Int.reduceLT, Int.reduceLE, Int.reduceToNat, Int.reduceEq, Int.reduceAdd, Int.reduceSub, Int.reduceNeg, Int.reduceBNe, Int.reduceBEq, i0, egsc, egs]
      · rw [hd] at hS
        have hx : m.getD i default = e := by simpa using hd
        simp only [hx, if_true]
        refine PL.Pure.of_v Tryz.func45 (by decide) rfl Tryz.ntmps45 Tryz.results45 (by simp) (egsc_dids _) ?_
        simp only [go_sem, reduceIte, Nat.reduceEqDiff, reduceCtorEq, Nat.reduceLT, Nat.reduceAdd, Nat.reduceSub, Nat.reduceMul, Nat.reduceLeDiff, Int.reduceLT, Int.reduceLE, Int.reduceToNat, Int.reduceEq, Int.reduceAdd, Int.reduceSub, Int.reduceNeg, Int.reduceBNe, Int.reduceBEq, eg, egs]
        refine vCall_of (hE) ?_ ?_ ?_; (focus simp only [go_sem, reduceIte, Nat.reduceEqDiff, reduceCtorEq, eg]); (focus simp only [go_sem, reduceIte, Nat.reduceEqDiff, reduceCtorEq, eg])
        simp only [go_sem, reduceIte, Nat.reduceEqDiff, reduceCtorEq, Nat.reduceLT, Nat.reduceAdd, Nat.reduceSub, Nat.reduceMul, Nat.reduceLeDiff, Int.reduceLT, Int.reduceLE, Int.reduceToNat, Int.reduceEq, Int.reduceAdd, Int.reduceSub, Int.reduceNeg, Int.reduceBNe, Int.reduceBEq]
        refine vCall_of (hA) ?_ ?_ ?_; (focus simp only [go_sem, reduceIte, Nat.reduceEqDiff, reduceCtorEq, egs, tg]); (focus simp only [go_sem, reduceIte, Nat.reduceEqDiff, reduceCtorEq, egs, tg])
        simp only [go_sem, reduceIte, Nat.reduceEqDiff, reduceCtorEq, Nat.reduceLT, Nat.reduceAdd, Nat.reduceSub, Nat.reduceMul, Nat.reduceLeDiff, Int.reduceLT, Int.reduceLE, Int.reduceToNat, Int.reduceEq, Int.reduceAdd, Int.reduceSub, Int.reduceNeg, Int.reduceBNe, Int.reduceBEq]
        refine vDrawQ (by kernel_rfl) (by kernel_rfl) ?_
        simp only [go_sem, reduceIte, Nat.reduceEqDiff, reduceCtorEq, Nat.reduceLT, Nat.reduceAdd, Nat.reduceSub, Nat.reduceMul, Nat.reduceLeDiff, Int.reduceLT, Int.reduceLE, Int.reduceToNat, Int.reduceEq, Int.reduceAdd, Int.reduceSub, Int.reduceNeg, Int.reduceBNe, Int.reduceBEq, i0, i1, getD_eg hi, eg]
        refine vCall_of (hS) ?_ ?_ ?_; (focus simp only [go_sem, reduceIte, Nat.reduceEqDiff, reduceCtorEq, eg]); (focus simp only [go_sem, reduceIte, Nat.reduceEqDiff, reduceCtorEq, eg])
        simp only [go_sem, reduceIte, Nat.reduceEqDiff, reduceCtorEq, Nat.reduceLT, Nat.reduceAdd, Nat.reduceSub, Nat.reduceMul, Nat.reduceLeDiff, Int.reduceLT, Int.reduceLE, Int.reduceToNat, Int.reduceEq, Int.reduceAdd, Int.reduceSub, Int.reduceNeg, Int.reduceBNe, Int.reduceBEq, i0, egsc, egs]
end Go.Proofs.YtbojhapdidieoaaGreat

set_option linter.unusedSimpArgs false
set_option linter.unusedVariables false
set_option linter.unusedSimpArgs false
set_option linter.unusedVariables false
namespace Go.Proofs.YtbojhapdidieoaaGreat
open Go.PL
def grownM (l : List Eg) : List Eg := l.foldl (fun m e => (putM m e).1) []
theorem okGrown : ∀ (l : List Eg) {m : List Eg}, OkM m → (∀ e ∈ l, OkLn e.ln) → OkM (l.foldl (fun m e => (putM m e).1) m)
  | [], m, h, _ => h
  | e :: l, m, h, hl => okGrown l (okPut h (hl e (by simp))) (fun x hx => hl x (by simp [hx]))
theorem foldl_take {l : List Eg} {k : Nat} (hk : k < l.length) : (l.take (k + 1)).foldl (fun m e => (putM m e).1) [] = (putM ((l.take k).foldl (fun m e => (putM m e).1) []) (l.getD k default)).1 := by
  have : l.take (k + 1) = l.take k ++ [l.getD k default] := by
    rw [getD_lt hk, List.take_add_one]; simp [hk]
  rw [this, List.foldl_append]; rfl
def grv (m : List Eg) : PV := .tup [tr (treeOf m), egs m, .bool true]
theorem didsL_kts (l : List Nd) : PV.didsL (kts l) = [] := by
  unfold kts
  induction l with
  | nil => rfl
  | cons e l ih => simp only [List.map_cons, PV.didsL, ih, tg_dids, List.append_nil]
theorem didsL_nds (l : List Nd) : PV.didsL (nds l) = [] := by
  unfold nds
  induction l with
  | nil => rfl
  | cons e l ih => simp only [List.map_cons, PV.didsL, ih, nd_dids, List.append_nil]
theorem tr_dids (l : List Nd) : (tr l).dids = [] := by simp only [tr, PV.dids, PV.didsL, didsL_kts, didsL_nds, List.append_nil]
theorem grv_dids (m : List Eg) : (grv m).dids = [] := by simp only [grv, PV.dids, PV.didsL, tr_dids, egs_dids, List.append_nil]
set_option maxRecDepth 20000 in
set_option maxHeartbeats 16000000 in
theorem Grown_pure (l : List Eg) (hl : l.length ≤ 1000) (hx : ∀ e ∈ l, OkLn e.ln) : PL.Pure Tryz.prog 9 [egs l] (grv (grownM l)) := by
  have hml : l.length ≤ maxLen := by rw [maxLen_eq]; omega
  refine PL.Pure.of_vs Tryz.func9 (by decide) rfl Tryz.ntmps9 Tryz.results9 (by simp) (grv_dids _) ?_
  simp only [go_sem, reduceIte, Nat.reduceEqDiff, reduceCtorEq, Nat.reduceLT, Nat.reduceAdd, Nat.reduceSub, Nat.reduceMul, Nat.reduceLeDiff, Int.reduceLT, Int.reduceLE, Int.reduceToNat, Int.reduceEq, Int.reduceAdd, Int.reduceSub, Int.reduceNeg, Int.reduceBNe, Int.reduceBEq, egs]
  refine vCall_mk mk_new ?_ ?_ (fun b hb => ?_)
  · simp only [go_sem, reduceIte, Nat.reduceEqDiff, reduceCtorEq, Nat.reduceLT, Nat.reduceAdd, Nat.reduceSub, Nat.reduceMul, Nat.reduceLeDiff, Int.reduceLT, Int.reduceLE, Int.reduceToNat, Int.reduceEq, Int.reduceAdd, Int.reduceSub, Int.reduceNeg, Int.reduceBNe, Int.reduceBEq]
  · simp only [go_sem, reduceIte, Nat.reduceEqDiff, reduceCtorEq, Nat.reduceLT, Nat.reduceAdd, Nat.reduceSub, Nat.reduceMul, Nat.reduceLeDiff, Int.reduceLT, Int.reduceLE, Int.reduceToNat, Int.reduceEq, Int.reduceAdd, Int.reduceSub, Int.reduceNeg, Int.reduceBNe, Int.reduceBEq]
  simp only [go_sem, reduceIte, Nat.reduceEqDiff, reduceCtorEq, Nat.reduceLT, Nat.reduceAdd, Nat.reduceSub, Nat.reduceMul, Nat.reduceLeDiff, Int.reduceLT, Int.reduceLE, Int.reduceToNat, Int.reduceEq, Int.reduceAdd, Int.reduceSub, Int.reduceNeg, Int.reduceBNe, Int.reduceBEq]
  refine awp_plain 6 11 [] rfl ?_
  refine vLoopO (ι := { k : Nat // k ≤ l.length }) 40 (fun x => [(0, egs l), (5, .rptr [.mref b]), (6, egs (grownM (l.take x.1))), (7, .int .i64 (x.1 : Int))]) (fun x => []) (fun x => []) (fun x => [(b, mc (treeOf (grownM (l.take x.1))))]) (fun x => []) (fun x => l.length - x.1) ⟨0, Nat.zero_le _⟩
    ⟨⟨rfl, (forall_cons rfl (forall_cons rfl (forall_cons rfl (forall_cons rfl (forall_nil))))), forall_nil, forall_nil⟩, forall_cons (by simp [upd]; rfl) forall_nil, forall_nil⟩ (fun x => ⟨(forall_cons rfl (forall_cons rfl (forall_cons rfl (forall_cons rfl (forall_nil))))), forall_nil⟩) (fun x => ?_)
  obtain ⟨k, hk⟩ := x
  simp only
  by_cases h : (k : Int) < (l.length : Int)
  · have hka : k < l.length := by omega
    have w1 := w64s hka hml
    have i1 : (0 : Int) ≤ (k : Int) := by omega
    have hft := foldl_take hka
    have hom : OkM (grownM (l.take k)) := okGrown _ okM_nil (fun e he => hx e (List.mem_of_mem_take he))
    have hR := RPut_pure (grownM (l.take k)) (l.getD k default) hom (hx _ (getD_mem hka))
    have hW := put_wr (grownM (l.take k)) (l.getD k default) hom (hx _ (getD_mem hka))
    have hne : ((putM (grownM (l.take k)) (l.getD k default)).2 != (putM (grownM (l.take k)) (l.getD k default)).2) = false := by simp
    simp only [go_sem, reduceIte, Nat.reduceEqDiff, reduceCtorEq, Nat.reduceLT, Nat.reduceAdd, Nat.reduceSub, Nat.reduceMul, Nat.reduceLeDiff, Int.reduceLT, Int.reduceLE, Int.reduceToNat, Int.reduceEq, Int.reduceAdd, Int.reduceSub, Int.reduceNeg, Int.reduceBNe, Int.reduceBEq, List.map_cons, List.map_nil, egs, h, getD_eg hka, eg, i1]
    refine vCall_of (hR) ?_ ?_ ?_; (focus simp only [go_sem, reduceIte, Nat.reduceEqDiff, reduceCtorEq, egs, eg]); (focus simp only [go_sem, reduceIte, Nat.reduceEqDiff, reduceCtorEq, egs, eg])
    simp only [go_sem, reduceIte, Nat.reduceEqDiff, reduceCtorEq, Nat.reduceLT, Nat.reduceAdd, Nat.reduceSub, Nat.reduceMul, Nat.reduceLeDiff, Int.reduceLT, Int.reduceLE, Int.reduceToNat, Int.reduceEq, Int.reduceAdd, Int.reduceSub, Int.reduceNeg, Int.reduceBNe, Int.reduceBEq, egsc, egs, h, getD_eg hka, eg, i1]
    refine vCall_wr b hW ?_ ?_ ?_ ?_
    · simp only [go_sem, reduceIte, Nat.reduceEqDiff, reduceCtorEq, Nat.reduceLT, Nat.reduceAdd, Nat.reduceSub, Nat.reduceMul, Nat.reduceLeDiff, Int.reduceLT, Int.reduceLE, Int.reduceToNat, Int.reduceEq, Int.reduceAdd, Int.reduceSub, Int.reduceNeg, Int.reduceBNe, Int.reduceBEq]
    · simp only [go_sem, reduceIte, Nat.reduceEqDiff, reduceCtorEq, Nat.reduceLT, Nat.reduceAdd, Nat.reduceSub, Nat.reduceMul, Nat.reduceLeDiff, Int.reduceLT, Int.reduceLE, Int.reduceToNat, Int.reduceEq, Int.reduceAdd, Int.reduceSub, Int.reduceNeg, Int.reduceBNe, Int.reduceBEq, eg]
    · simp [upd]
    · simp only [go_sem, reduceIte, Nat.reduceEqDiff, reduceCtorEq, Nat.reduceLT, Nat.reduceAdd, Nat.reduceSub, Nat.reduceMul, Nat.reduceLeDiff, Int.reduceLT, Int.reduceLE, Int.reduceToNat, Int.reduceEq, Int.reduceAdd, Int.reduceSub, Int.reduceNeg, Int.reduceBNe, Int.reduceBEq, hne, w1]
      refine ⟨⟨k + 1, by omega⟩, by show l.length - (k + 1) < l.length - k; omega, ⟨⟨rfl, forall_cons rfl (forall_cons rfl (forall_cons ?_ (forall_cons ?_ forall_nil))), forall_nil, forall_nil⟩, forall_cons ?_ forall_nil, forall_nil⟩⟩
      · show _ = egs (grownM (l.take (k + 1)))
        unfold grownM
        rw [hft]
        rfl
      · rfl
      · show _ = some (mc (treeOf (grownM (l.take (k + 1)))))
        unfold grownM
        rw [hft]
        simp [upd]
  · obtain rfl : k = l.length := by omega
    have htl : l.take l.length = l := List.take_length
    simp only [go_sem, reduceIte, Nat.reduceEqDiff, reduceCtorEq, Nat.reduceLT, Nat.reduceAdd, Nat.reduceSub, Nat.reduceMul, Nat.reduceLeDiff, Int.reduceLT, Int.reduceLE, Int.reduceToNat, Int.reduceEq, Int.reduceAdd, Int.reduceSub, Int.reduceNeg, Int.reduceBNe, Int.reduceBEq, List.map_cons, List.map_nil, egs, h, htl, mc]
    exact ⟨_, rfl, by simp [PV.shut, PV.sealL, upd, grv, tr, egs]⟩
def edc (x : Eg × Int) : PV := .tup [eg x.1, .int .i64 x.2]
theorem edc_dids (x : Eg × Int) : (edc x).dids = [] := by simp only [edc, PV.dids, PV.didsL, eg_dids, List.append_nil]
theorem eg_default : eg default = .agg [.int .i64 0, .int .i64 0, .int .i64 0, .int .i64 0, .int .i64 0, .int .i64 0, .str [], .str [], .str [], .str [], .int .i64 0, .int .i64 0, .str [], .str [], .int .i64 0, .str [], .sl .no [], .int .i64 0, .sl .no [], .sl .no []] := rfl
def findTM (m : List Eg) (id : Tg) : Eg × Int := match findE m id with | some e => (e, 0) | none => (default, 6)
set_option maxRecDepth 20000 in
set_option maxHeartbeats 8000000 in
theorem TFind_pure (m : List Eg) (id : Tg) (hm : OkM m) : PL.Pure Tryz.prog 46 [tr (treeOf m), tg id] (edc (findTM m id)) := by
  have hidx := idx_tree m id
  unfold findTM
  cases hf : m.findIdx? (fun x => decide (id = x.id)) with
  | some i =>
    rw [hf] at hidx
    obtain ⟨h1, h2⟩ := findIdx_some hidx
    rw [find_tree] at h2
    cases hfe : findE m id with
    | none => rw [hfe] at h2; cases h2
    | some x =>
      rw [hfe] at h2
      simp only [Option.map_some, Option.some.injEq] at h2
      have hO := town_pure x (hm.l x (findE_id hfe).2)
      have hval : (nds (treeOf m)).getD i .any = nd (nodeOf m x) := by rw [getD_nd h1, h2]
      have hne := nodeOf_e m x
      refine PL.Pure.of_v Tryz.func46 (by decide) rfl Tryz.ntmps46 Tryz.results46 (by simp) (edc_dids _) ?_
      simp only [go_sem, reduceIte, Nat.reduceEqDiff, reduceCtorEq, Nat.reduceLT, Nat.reduceAdd, Nat.reduceSub, Nat.reduceMul, Nat.reduceLeDiff, Int.reduceLT, Int.reduceLE, Int.reduceToNat, Int.reduceEq, Int.reduceAdd, Int.reduceSub, Int.reduceNeg, Int.reduceBNe, Int.reduceBEq, tr, tg]
      refine vDrawQ (by kernel_rfl) (by kernel_rfl) ?_
      simp only [go_sem, reduceIte, Nat.reduceEqDiff, reduceCtorEq, Nat.reduceLT, Nat.reduceAdd, Nat.reduceSub, Nat.reduceMul, Nat.reduceLeDiff, Int.reduceLT, Int.reduceLE, Int.reduceToNat, Int.reduceEq, Int.reduceAdd, Int.reduceSub, Int.reduceNeg, Int.reduceBNe, Int.reduceBEq, findP_tags0, hidx, hval, nd, hne]
      refine vCall_of (hO) ?_ ?_ ?_; (focus simp only [go_sem, reduceIte, Nat.reduceEqDiff, reduceCtorEq, eg]); (focus simp only [go_sem, reduceIte, Nat.reduceEqDiff, reduceCtorEq, eg])
      simp only [go_sem, reduceIte, Nat.reduceEqDiff, reduceCtorEq, Nat.reduceLT, Nat.reduceAdd, Nat.reduceSub, Nat.reduceMul, Nat.reduceLeDiff, Int.reduceLT, Int.reduceLE, Int.reduceToNat, Int.reduceEq, Int.reduceAdd, Int.reduceSub, Int.reduceNeg, Int.reduceBNe, Int.reduceBEq, eg, edc]
  | none =>
    rw [hf] at hidx
    have h2 := findIdx_find.1 hidx
    rw [find_tree] at h2
    have hfe : findE m id = none := by
      cases hx : findE m id with
      | none => rfl
      | some x => rw [hx] at h2; cases h2
    rw [hfe]
    refine PL.Pure.of_v Tryz.func46 (by decide) rfl Tryz.ntmps46 Tryz.results46 (by simp) (edc_dids _) ?_
    simp only [go_sem, reduceIte, Nat.reduceEqDiff, reduceCtorEq, Nat.reduceLT, Nat.reduceAdd, Nat.reduceSub, Nat.reduceMul, Nat.reduceLeDiff, Int.reduceLT, Int.reduceLE, Int.reduceToNat, Int.reduceEq, Int.reduceAdd, Int.reduceSub, Int.reduceNeg, Int.reduceBNe, Int.reduceBEq, tr, tg]
    refine vDrawQ (by kernel_rfl) (by kernel_rfl) ?_
    simp only [go_sem, reduceIte, Nat.reduceEqDiff, reduceCtorEq, Nat.reduceLT, Nat.reduceAdd, Nat.reduceSub, Nat.reduceMul, Nat.reduceLeDiff, Int.reduceLT, Int.reduceLE, Int.reduceToNat, Int.reduceEq, Int.reduceAdd, Int.reduceSub, Int.reduceNeg, Int.reduceBNe, Int.reduceBEq, findP_tags0, hidx, edc, eg_default]
/-- what a tree says of a tag's schema -/
def schM (l : List Nd) (id : Tg) : List Fd × Int := if (atN l id).st = 2 then ((atN l id).sch, 0) else if (atN l id).st = 3 then ([], 16) else ([], 13)
set_option maxRecDepth 20000 in
set_option maxHeartbeats 8000000 in
theorem Schema_pure (m : List Eg) (id : Tg) (hm : OkM m) : PL.Pure Tryz.prog 42 [tr (treeOf m), tg id] (fldsc (schM (treeOf m) id)) := by
  have hA := at_pure (treeOf m) id
  obtain ⟨o1, o2, o3⟩ := okAtN hm.l (tree_semi m) id
  have hO := SOwn_pure (atN (treeOf m) id).sch (by have := o1.n; omega) o1.c
  unfold schM
  by_cases h2 : (atN (treeOf m) id).st = 2
  · have e2 : ((atN (treeOf m) id).st == 2) = true := by rw [h2]; rfl
    simp only [h2, if_true]
    refine PL.Pure.of_v Tryz.func42 (by decide) rfl Tryz.ntmps42 Tryz.results42 (by simp) (fldsc_dids _) ?_
    simp only [go_sem, reduceIte, Nat.reduceEqDiff, reduceCtorEq, Nat.reduceLT, Nat.reduceAdd, Nat.reduceSub, Nat.reduceMul, Nat.reduceLeDiff, Int.reduceLT, Int.reduceLE, Int.reduceToNat, Int.reduceEq, Int.reduceAdd, Int.reduceSub, Int.reduceNeg, Int.reduceBNe, Int.reduceBEq, tr, tg]
    refine vCall_of (hA) ?_ ?_ ?_; (focus simp only [go_sem, reduceIte, Nat.reduceEqDiff, reduceCtorEq, tr, tg]); (focus simp only [go_sem, reduceIte, Nat.reduceEqDiff, reduceCtorEq, tr, tg])
    simp only [go_sem, reduceIte, Nat.reduceEqDiff, reduceCtorEq, Nat.reduceLT, Nat.reduceAdd, Nat.reduceSub, Nat.reduceMul, Nat.reduceLeDiff, Int.reduceLT, Int.reduceLE, Int.reduceToNat, Int.reduceEq, Int.reduceAdd, Int.reduceSub, Int.reduceNeg, Int.reduceBNe, Int.reduceBEq, nd, e2]
    refine vCall_of (hO) ?_ ?_ ?_; (focus simp only [go_sem, reduceIte, Nat.reduceEqDiff, reduceCtorEq, flds]); (focus simp only [go_sem, reduceIte, Nat.reduceEqDiff, reduceCtorEq, flds])
    simp only [go_sem, reduceIte, Nat.reduceEqDiff, reduceCtorEq, Nat.reduceLT, Nat.reduceAdd, Nat.reduceSub, Nat.reduceMul, Nat.reduceLeDiff, Int.reduceLT, Int.reduceLE, Int.reduceToNat, Int.reduceEq, Int.reduceAdd, Int.reduceSub, Int.reduceNeg, Int.reduceBNe, Int.reduceBEq, flds, fldsc]
  · by_cases h3 : (atN (treeOf m) id).st = 3
    · have e2 : ((atN (treeOf m) id).st == 2) = false := by simpa using h2
      have e3 : ((atN (treeOf m) id).st == 3) = true := by rw [h3]; rfl
      simp only [h2, h3, if_true, if_false]
      refine PL.Pure.of_v Tryz.func42 (by decide) rfl Tryz.ntmps42 Tryz.results42 (by simp) (fldsc_dids _) ?_
      simp only [go_sem, reduceIte, Nat.reduceEqDiff, reduceCtorEq, Nat.reduceLT, Nat.reduceAdd, Nat.reduceSub, Nat.reduceMul, Nat.reduceLeDiff, Int.reduceLT, Int.reduceLE, Int.reduceToNat, Int.reduceEq, Int.reduceAdd, Int.reduceSub, Int.reduceNeg, Int.reduceBNe, Int.reduceBEq, tr, tg]
      refine vCall_of (hA) ?_ ?_ ?_; (focus simp only [go_sem, reduceIte, Nat.reduceEqDiff, reduceCtorEq, tr, tg]); (focus simp only [go_sem, reduceIte, Nat.reduceEqDiff, reduceCtorEq, tr, tg])
      simp only [go_sem, reduceIte, Nat.reduceEqDiff, reduceCtorEq, Nat.reduceLT, Nat.reduceAdd, Nat.reduceSub, Nat.reduceMul, Nat.reduceLeDiff, Int.reduceLT, Int.reduceLE, Int.reduceToNat, Int.reduceEq, Int.reduceAdd, Int.reduceSub, Int.reduceNeg, Int.reduceBNe, Int.reduceBEq, nd, e2, e3, fldsc, flds, List.map_nil]
    · have e2 : ((atN (treeOf m) id).st == 2) = false := by simpa using h2
      have e3 : ((atN (treeOf m) id).st == 3) = false := by simpa using h3
      simp only [h2, h3, if_false]
      refine PL.Pure.of_v Tryz.func42 (by decide) rfl Tryz.ntmps42 Tryz.results42 (by simp) (fldsc_dids _) ?_
      simp only [go_sem, reduceIte, Nat.reduceEqDiff, reduceCtorEq, Nat.reduceLT, Nat.reduceAdd, Nat.reduceSub, Nat.reduceMul, Nat.reduceLeDiff, Int.reduceLT, Int.reduceLE, Int.reduceToNat, Int.reduceEq, Int.reduceAdd, Int.reduceSub, Int.reduceNeg, Int.reduceBNe, Int.reduceBEq, tr, tg]
      refine vCall_of (hA) ?_ ?_ ?_; (focus simp only [go_sem, reduceIte, Nat.reduceEqDiff, reduceCtorEq, tr, tg]); (focus simp only [go_sem, reduceIte, Nat.reduceEqDiff, reduceCtorEq, tr, tg])
      simp only [go_sem, reduceIte, Nat.reduceEqDiff, reduceCtorEq, Nat.reduceLT, Nat.reduceAdd, Nat.reduceSub, Nat.reduceMul, Nat.reduceLeDiff, Int.reduceLT, Int.reduceLE, Int.reduceToNat, Int.reduceEq, Int.reduceAdd, Int.reduceSub, Int.reduceNeg, Int.reduceBNe, Int.reduceBEq, nd, e2, e3, fldsc, flds, List.map_nil]
def depM (l : List Nd) (id : Tg) : Int := if (atN l id).st = 2 then (atN l id).dep else -1
end Go.Proofs.YtbojhapdidieoaaGreat
