/- Contracts of functions and laws of this seat, each for every input that it names: lemmas of the proof. -/
import Derived.Test.YtnadlkjmdimjkaaGreatXCo
set_option linter.unusedSimpArgs false
set_option linter.unusedVariables false
set_option linter.unusedSimpArgs false
set_option linter.unusedVariables false
namespace Go.Proofs.YtnadlkjmdimjkaaGreat
open Go.PL
def twC : Eg := ⟨⟨1, 1⟩, default, ⟨6, ⟨1, [], [113, 116, 121]⟩, [117, 110, 105, 116], [98, 111, 120], 12, default, [], []⟩⟩
def twD : Eg := ⟨⟨2, 1⟩, default, ⟨6, ⟨1, [], [113, 116, 121]⟩, [111, 110, 101], [116, 101, 110], 10, default, [], []⟩⟩
def twO : Opn := ⟨⟨1, 1⟩, ⟨1, 1⟩, 1, [97], 3, [112, 101, 97, 114], ⟨1, [], [98, 111, 120]⟩, 1, false, [], []⟩
def twP : Opn := ⟨⟨1, 1⟩, ⟨2, 1⟩, 1, [97], 3, [112, 101, 97, 114], ⟨1, [], [111, 110, 101]⟩, 12, false, [], []⟩
theorem okTwC : OkLn twC.ln := ⟨by decide, by decide, by decide⟩
theorem okTwD : OkLn twD.ln := ⟨by decide, by decide, by decide⟩
theorem putTC : putM [] twC = ([twC], 0) := by decide +kernel
theorem putTD : putM [twC] twD = ([twC, twD], 0) := by decide +kernel
theorem okTC : OkM [twC] := by have := okPut okM_nil (e := twC) okTwC; rw [putTC] at this; exact this
theorem okTD : OkM [twC, twD] := by have := okPut okTC (e := twD) okTwD; rw [putTD] at this; exact this
theorem rightTD : RightM [twC, twD] := by
  have := rightGrown [twC, twD] right_nil
  have e : List.foldl (fun m e => (putM m e).1) [] [twC, twD] = [twC, twD] := by
    simp only [List.foldl_cons, List.foldl_nil, putTC, putTD]
  rwa [e] at this
theorem toTD : toT [twC, twD] twO ⟨2, 1⟩ = ⟨twP, true, 0⟩ := by decide +kernel
theorem nomap_seenv (x : SeenT) : (seenv x).nomap = true := by simp only [seenv, opv, PV.nomap, PV.nomapL, nomapL_map tg (fun _ => rfl), Bool.and_self]
set_option maxRecDepth 20000 in
set_option maxHeartbeats 16000000 in
theorem awake22_pure : PL.Pure Tryz.prog 23 [] (.bool true) := by
  have h1 := put_wr [] twC okM_nil okTwC
  have h2 := put_wr [twC] twD okTC okTwD
  have hP := TrTo_pure [twC, twD] twO ⟨2, 1⟩ okTD rightTD ⟨by decide⟩
  rw [putTC] at h1
  rw [putTD] at h2
  rw [toTD] at hP
  refine PL.Pure.of_vs Tryz.func23 (by decide) rfl Tryz.ntmps23 Tryz.results23 (by simp) rfl ?_
  simp only [go_sem]
  refine vCall_mk mk_new ?_ ?_ (fun b hb => ?_)
  · simp only [go_sem]
  · simp only [go_sem]
  simp only [go_sem]
  refine vCall_wr b h1 ?_ ?_ ?_ ?_
  · simp only [go_sem]
  · simp only [go_sem]
    rfl
  · simp [upd]; rfl
  simp only [go_sem]
  refine vCall_wr b h2 ?_ ?_ ?_ ?_
  · simp only [go_sem]
  · simp only [go_sem]
    rfl
  · simp [upd]
  simp only [go_sem]
  refine vCall_sl hP (nomap_seenv _) ?_ ?_ ?_
  · simp only [go_sem]
  · simp only [go_sem, mc]
    rfl
  simp only [go_sem, seenv, opv, twP]
  exact ⟨_, rfl, rfl⟩
set_option maxRecDepth 20000 in
set_option maxHeartbeats 16000000 in
theorem TransOwn_pure (l : List Eg) (o : Opn) (hl : l.length ≤ maxLen) (hx : ∀ e ∈ l, LenLn e.ln) : PL.Pure Tryz.prog 4 [egs l, opv o] (.bool true) := by
  have hH := RHeavyE_pure l 50 hl hx
  have hJ := RHeavyO_pure o
  cases hh : heavyE l 50
  · rw [hh] at hH
    cases hj : heavyO o
    · rw [hj] at hJ
      have oko := OkOfHeavy o hj
      obtain ⟨o1, o2⟩ := okL hh
      have hG := Grown_pure l (by omega) o2
      have hm : OkM (grownM l) := okGrown _ okM_nil o2
      have hr : RightM (grownM l) := rightGrown _ right_nil
      generalize grownM l = m at *
      have hT := TrTo_pure m o o.sch hm hr oko
      have hU := TrRound_pure m o o.sch hm hr oko
      have hD := TrRead_pure m o hm oko
      cases hd : readO m o
      · obtain ⟨e1, e2, e3⟩ := own_not hd
        rw [hd] at hD
        rw [e1] at hT
        rw [e3] at hU
        generalize checkO m o o.sch = c at *
        have n1 : (c != 0) = true := by simpa using e2
        refine PL.Pure.of_v Tryz.func4 (by decide) rfl Tryz.ntmps4 Tryz.results4 (by simp) rfl ?_
        simp only [go_sem, egs, opv]
        refine vCall_of (awake22_pure) ?_ ?_ ?_; (focus simp only [go_sem]); (focus simp only [go_sem])
        simp only [go_sem]
        refine vCall_of (hH) ?_ ?_ ?_; (focus simp only [go_sem, egs]); (focus simp only [go_sem, egs])
        simp only [go_sem]
        refine vCall_of (hJ) ?_ ?_ ?_; (focus simp only [go_sem, opv]); (focus simp only [go_sem, opv])
        simp only [go_sem]
        refine vCall_of (hG) ?_ ?_ ?_; (focus simp only [go_sem, egs]); (focus simp only [go_sem, egs])
        simp only [go_sem, grv]
        refine vCall_of (hT) ?_ ?_ ?_; (focus simp only [go_sem, tr, tg, opv]); (focus simp only [go_sem, tr, tg, opv])
        simp only [go_sem, seenv, opv]
        refine vCall_of (hU) ?_ ?_ ?_; (focus simp only [go_sem, tr, tg, opv]); (focus simp only [go_sem, tr, tg, opv])
        simp only [go_sem, seenv, opv]
        refine vCall_of (hD) ?_ ?_ ?_; (focus simp only [go_sem, tr, opv]); (focus simp only [go_sem, tr, opv])
        simp only [go_sem, n1]
      · rw [hd] at hD
        rw [own_to hd] at hT
        rw [own_round hd] at hU
        have hS := ROSame_pure o o oko.len oko.len
        rw [decide_eq_true rfl] at hS
        refine PL.Pure.of_v Tryz.func4 (by decide) rfl Tryz.ntmps4 Tryz.results4 (by simp) rfl ?_
        simp only [go_sem, egs, opv]
        refine vCall_of (awake22_pure) ?_ ?_ ?_; (focus simp only [go_sem]); (focus simp only [go_sem])
        simp only [go_sem]
        refine vCall_of (hH) ?_ ?_ ?_; (focus simp only [go_sem, egs]); (focus simp only [go_sem, egs])
        simp only [go_sem]
        refine vCall_of (hJ) ?_ ?_ ?_; (focus simp only [go_sem, opv]); (focus simp only [go_sem, opv])
        simp only [go_sem]
        refine vCall_of (hG) ?_ ?_ ?_; (focus simp only [go_sem, egs]); (focus simp only [go_sem, egs])
        simp only [go_sem, grv]
        refine vCall_of (hT) ?_ ?_ ?_; (focus simp only [go_sem, tr, tg, opv]); (focus simp only [go_sem, tr, tg, opv])
        simp only [go_sem, seenv, opv]
        refine vCall_of (hU) ?_ ?_ ?_; (focus simp only [go_sem, tr, tg, opv]); (focus simp only [go_sem, tr, tg, opv])
        simp only [go_sem, seenv, opv]
        refine vCall_of (hD) ?_ ?_ ?_; (focus simp only [go_sem, tr, opv]); (focus simp only [go_sem, tr, opv])
        simp only [go_sem]
        refine vCall_of (hS) ?_ ?_ ?_; (focus simp only [go_sem, opv]); (focus simp only [go_sem, opv])
        simp only [go_sem]
        refine vCall_of (hS) ?_ ?_ ?_; (focus simp only [go_sem, opv]); (focus simp only [go_sem, opv])
        simp only [go_sem]
    · rw [hj] at hJ
      refine PL.Pure.of_v Tryz.func4 (by decide) rfl Tryz.ntmps4 Tryz.results4 (by simp) rfl ?_
      simp only [go_sem, egs, opv]
      refine vCall_of (awake22_pure) ?_ ?_ ?_; (focus simp only [go_sem]); (focus simp only [go_sem])
      simp only [go_sem]
      refine vCall_of (hH) ?_ ?_ ?_; (focus simp only [go_sem, egs]); (focus simp only [go_sem, egs])
      simp only [go_sem]
      refine vCall_of (hJ) ?_ ?_ ?_; (focus simp only [go_sem, opv]); (focus simp only [go_sem, opv])
      simp only [go_sem]
  · rw [hh] at hH
    refine PL.Pure.of_v Tryz.func4 (by decide) rfl Tryz.ntmps4 Tryz.results4 (by simp) rfl ?_
    simp only [go_sem, egs, opv]
    refine vCall_of (awake22_pure) ?_ ?_ ?_; (focus simp only [go_sem]); (focus simp only [go_sem])
    simp only [go_sem]
    refine vCall_of (hH) ?_ ?_ ?_; (focus simp only [go_sem, egs]); (focus simp only [go_sem, egs])
    simp only [go_sem]
set_option maxRecDepth 20000 in
set_option maxHeartbeats 16000000 in
theorem TransWorth_pure (l : List Eg) (o : Opn) (b : Tg) (hl : l.length ≤ maxLen) (hx : ∀ e ∈ l, LenLn e.ln) : PL.Pure Tryz.prog 6 [egs l, opv o, tg b] (.bool true) := by
  have hH := RHeavyE_pure l 50 hl hx
  have hJ := RHeavyO_pure o
  cases hh : heavyE l 50
  · rw [hh] at hH
    cases hj : heavyO o
    · rw [hj] at hJ
      by_cases k3 : o.kind = 3
      · have e3 : (o.kind != 3) = false := by simpa using k3
        have oko := OkOfHeavy o hj
        obtain ⟨o1, o2⟩ := okL hh
        have hG := Grown_pure l (by omega) o2
        have hm : OkM (grownM l) := okGrown _ okM_nil o2
        have hr : RightM (grownM l) := rightGrown _ right_nil
        generalize grownM l = m at *
        have hT := TrTo_pure m o b hm hr oko
        by_cases hbad : (toT m o b).c ≠ 0 ∨ (toT m o b).ok = false
        · obtain ⟨z1, z2⟩ := to_false hbad
          have hS := ROSame_pure default default def_ok.len def_ok.len
          rw [decide_eq_true rfl, opv_default] at hS
          generalize toT m o b = t at *
          obtain ⟨q, ok, c⟩ := t
          simp only at z1 z2
          subst z1 z2
          by_cases hc : c = 0
          · subst hc
            refine PL.Pure.of_v Tryz.func6 (by decide) rfl Tryz.ntmps6 Tryz.results6 (by simp) rfl ?_
            simp only [go_sem, egs, opv, tg]
            refine vCall_of (awake22_pure) ?_ ?_ ?_; (focus simp only [go_sem]); (focus simp only [go_sem])
            simp only [go_sem]
            refine vCall_of (hH) ?_ ?_ ?_; (focus simp only [go_sem, egs]); (focus simp only [go_sem, egs])
            simp only [go_sem]
            refine vCall_of (hJ) ?_ ?_ ?_; (focus simp only [go_sem, opv]); (focus simp only [go_sem, opv])
            simp only [go_sem, e3]
            refine vCall_of (hG) ?_ ?_ ?_; (focus simp only [go_sem, egs]); (focus simp only [go_sem, egs])
            simp only [go_sem, grv]
            refine vCall_of (hT) ?_ ?_ ?_; (focus simp only [go_sem, tr, tg, opv]); (focus simp only [go_sem, tr, tg, opv])
            simp only [go_sem, seenv, opv_default]
            refine vCall_of (hS) ?_ ?_ ?_; (focus simp only [go_sem]); (focus simp only [go_sem])
            simp only [go_sem]
          · have hc' : (c != 0) = true := by simpa using hc
            refine PL.Pure.of_v Tryz.func6 (by decide) rfl Tryz.ntmps6 Tryz.results6 (by simp) rfl ?_
            simp only [go_sem, egs, opv, tg]
            refine vCall_of (awake22_pure) ?_ ?_ ?_; (focus simp only [go_sem]); (focus simp only [go_sem])
            simp only [go_sem]
            refine vCall_of (hH) ?_ ?_ ?_; (focus simp only [go_sem, egs]); (focus simp only [go_sem, egs])
            simp only [go_sem]
            refine vCall_of (hJ) ?_ ?_ ?_; (focus simp only [go_sem, opv]); (focus simp only [go_sem, opv])
            simp only [go_sem, e3]
            refine vCall_of (hG) ?_ ?_ ?_; (focus simp only [go_sem, egs]); (focus simp only [go_sem, egs])
            simp only [go_sem, grv]
            refine vCall_of (hT) ?_ ?_ ?_; (focus simp only [go_sem, tr, tg, opv]); (focus simp only [go_sem, tr, tg, opv])
            simp only [go_sem, seenv, opv_default, hc']
            refine vCall_of (hS) ?_ ?_ ?_; (focus simp only [go_sem]); (focus simp only [go_sem])
            simp only [go_sem]
        · simp only [not_or, Decidable.not_not] at hbad
          obtain ⟨z1, z2n⟩ := hbad
          have z2 : (toT m o b).ok = true := by simpa using z2n
          clear z2n
          have hc : checkO m o b = 0 := by rw [← to_code]; exact z1
          obtain ⟨_, h2, h3, h4⟩ := check_zero.1 hc
          obtain ⟨w, w1, w2⟩ := worth_law hm hr k3 hc z2
          have hSa := Schema_pure m o.sch hm
          have hSb := Schema_pure m b hm
          have okA := okSchO hm h2
          have okB := okSchO hm h3
          have hW := SWorth_pure (schM (treeOf m) o.sch).1 o okA
          have hV := SWorth_pure (schM (treeOf m) b).1 (toT m o b).o okB
          rw [w1] at hW
          rw [w2] at hV
          have n1 : (w == w) = true := by simp
          have v2 : (schM (treeOf m) o.sch).2 = 0 := h2
          have v3 : (schM (treeOf m) b).2 = 0 := h3
          generalize toT m o b = t at *
          obtain ⟨q, ok, c⟩ := t
          simp only at z1 z2 hV
          subst z1 z2
          refine PL.Pure.of_v Tryz.func6 (by decide) rfl Tryz.ntmps6 Tryz.results6 (by simp) rfl ?_
          simp only [go_sem, egs, opv, tg]
          refine vCall_of (awake22_pure) ?_ ?_ ?_; (focus simp only [go_sem]); (focus simp only [go_sem])
          simp only [go_sem]
          refine vCall_of (hH) ?_ ?_ ?_; (focus simp only [go_sem, egs]); (focus simp only [go_sem, egs])
          simp only [go_sem]
          refine vCall_of (hJ) ?_ ?_ ?_; (focus simp only [go_sem, opv]); (focus simp only [go_sem, opv])
          simp only [go_sem, e3]
          refine vCall_of (hG) ?_ ?_ ?_; (focus simp only [go_sem, egs]); (focus simp only [go_sem, egs])
          simp only [go_sem, grv]
          refine vCall_of (hT) ?_ ?_ ?_; (focus simp only [go_sem, tr, tg, opv]); (focus simp only [go_sem, tr, tg, opv])
          simp only [go_sem, seenv, opv]
          refine vCall_of (hSa) ?_ ?_ ?_; (focus simp only [go_sem, tr, tg]); (focus simp only [go_sem, tr, tg])
          simp only [go_sem, fldsc, flds, tg]
          refine vCall_of (hSb) ?_ ?_ ?_; (focus simp only [go_sem, tr, tg]); (focus simp only [go_sem, tr, tg])
          simp only [go_sem, fldsc, flds]
          refine vCall_of (hW) ?_ ?_ ?_; (focus simp only [go_sem, flds, opv]); (focus simp only [go_sem, flds, opv])
          simp only [go_sem, intc]
          refine vCall_of (hV) ?_ ?_ ?_; (focus simp only [go_sem, flds, opv]); (focus simp only [go_sem, flds, opv])
          simp only [go_sem, intc, n1]
      · have e3 : (o.kind != 3) = true := by simpa using k3
        refine PL.Pure.of_v Tryz.func6 (by decide) rfl Tryz.ntmps6 Tryz.results6 (by simp) rfl ?_
        simp only [go_sem, egs, opv, tg]
        refine vCall_of (awake22_pure) ?_ ?_ ?_; (focus simp only [go_sem]); (focus simp only [go_sem])
        simp only [go_sem]
        refine vCall_of (hH) ?_ ?_ ?_; (focus simp only [go_sem, egs]); (focus simp only [go_sem, egs])
        simp only [go_sem]
        refine vCall_of (hJ) ?_ ?_ ?_; (focus simp only [go_sem, opv]); (focus simp only [go_sem, opv])
        simp only [go_sem, e3]
    · rw [hj] at hJ
      refine PL.Pure.of_v Tryz.func6 (by decide) rfl Tryz.ntmps6 Tryz.results6 (by simp) rfl ?_
      simp only [go_sem, egs, opv, tg]
      refine vCall_of (awake22_pure) ?_ ?_ ?_; (focus simp only [go_sem]); (focus simp only [go_sem])
      simp only [go_sem]
      refine vCall_of (hH) ?_ ?_ ?_; (focus simp only [go_sem, egs]); (focus simp only [go_sem, egs])
      simp only [go_sem]
      refine vCall_of (hJ) ?_ ?_ ?_; (focus simp only [go_sem, opv]); (focus simp only [go_sem, opv])
      simp only [go_sem]
  · rw [hh] at hH
    refine PL.Pure.of_v Tryz.func6 (by decide) rfl Tryz.ntmps6 Tryz.results6 (by simp) rfl ?_
    simp only [go_sem, egs, opv, tg]
    refine vCall_of (awake22_pure) ?_ ?_ ?_; (focus simp only [go_sem]); (focus simp only [go_sem])
    simp only [go_sem]
    refine vCall_of (hH) ?_ ?_ ?_; (focus simp only [go_sem, egs]); (focus simp only [go_sem, egs])
    simp only [go_sem]
end Go.Proofs.YtnadlkjmdimjkaaGreat

set_option linter.unusedSimpArgs false
set_option linter.unusedVariables false
set_option linter.unusedSimpArgs false
set_option linter.unusedVariables false
namespace Go.Proofs.YtnadlkjmdimjkaaGreat
open Go.PL
set_option maxHeartbeats 1000000 in
theorem RTLess_pure (a b : Tg) : PL.Pure Tryz.prog 188 [tg a, tg b] (.bool (tlessB a b)) := by
  refine PL.Pure.of_v Tryz.func188 (by decide) rfl Tryz.ntmps188 Tryz.results188 (by simp) rfl ?_
  simp only [go_sem, tg]
  repeat' (first | (refine vGuard_t (fun h => ?_) (fun h => ?_) <;> (try simp only [go_sem, h])) | (refine vGuard_f (fun h => ?_) (fun h => ?_) <;> (try simp only [go_sem, h])) | (refine vCond_b (fun h => ?_) (fun h => ?_) <;> (try simp only [go_sem, h])) | ((refine vDrawQ (by kernel_rfl) (by kernel_rfl) ?_); (try simp only [go_sem])))
  all_goals simp_all [tlessB]
  all_goals (try omega)
set_option maxRecDepth 20000 in
set_option maxHeartbeats 8000000 in
theorem RODrops_pure (o : Opn) : PL.Pure Tryz.prog 129 [opv o] (.bool (dropsB o)) := by
  by_cases h60 : 60 < (o.drops.length : Int)
  · refine PL.Pure.of_v Tryz.func129 (by decide) rfl Tryz.ntmps129 Tryz.results129 (by simp) rfl ?_
    simp only [go_sem, opv, h60, dropsB, List.length_map, Bool.false_and]
  · have hm : o.drops.length ≤ maxLen := by rw [maxLen_eq]; omega
    have hx : dropsB o = (List.range o.drops.length).all (dropOk o) := by simp only [dropsB, h60, decide_false, Bool.not_false, Bool.true_and]
    rw [hx]
    refine PL.Pure.of_v Tryz.func129 (by decide) rfl Tryz.ntmps129 Tryz.results129 (by simp) rfl ?_
    simp only [go_sem, opv, h60, List.length_map]
    refine vLoopM (ι := { x : Nat // x ≤ (o.drops).length ∧ (∀ j, j < x → dropOk o j = true) }) 51 (fun x => [(1, .ptr 1 0), (3, .int .i64 (x.1 : Int))]) (fun x => [(1, ocells o, false)]) (fun x => []) (fun x => (o.drops).length - x.1) ⟨0, Nat.zero_le _, fun j hj => absurd hj (Nat.not_lt_zero j)⟩ ⟨rfl, (forall_cons rfl (forall_cons rfl forall_nil)), (forall_cons ⟨rfl, rfl⟩ forall_nil), forall_nil⟩ (fun x => ⟨(forall_cons rfl (forall_cons rfl forall_nil)), (forall_cons rfl forall_nil)⟩) (fun x => ?_); obtain ⟨k, hk, hI⟩ := x; simp only at hk hI ⊢
    by_cases h : (k : Int) < (o.drops.length : Int)
    · (have hka : k < (o.drops).length := by omega); (have w1 := w64s hka (hm)); (have i1 : (0 : Int) ≤ (k : Int) := by omega)
      have hT := RTag_pure (o.drops.getD k default)
      cases ht : tagB (o.drops.getD k default)
      · rw [ht] at hT
        have hz := rall_false (p := dropOk o) hka (by simp only [dropOk, ht, Bool.false_and])
        simp only [go_sem, ocells, h, List.length_map]
        refine vDrawQ (by kernel_rfl) (by kernel_rfl) ?_
        simp only [go_sem, ocells, h, List.length_map, getD_tg hka, tg, i1]
        refine vCall_of (hT) ?_ ?_ ?_; (focus simp only [go_sem, tg]); (focus simp only [go_sem, tg])
        simp only [go_sem, hz]
      · rw [ht] at hT
        cases he : decide (o.drops.getD k default = o.id)
        · by_cases h0 : 0 < (k : Int)
          · have hk1 : k - 1 < o.drops.length := by omega
            have w2 : IntKind.i64.wrap ((k : Int) - 1) = ((k - 1 : Nat) : Int) := by rw [w64 (by omega)]; omega
            have j1 : (0 : Int) ≤ ((k - 1 : Nat) : Int) := by omega
            have j2 : ((k - 1 : Nat) : Int) < (o.drops.length : Int) := by omega
            have hL := RTLess_pure (o.drops.getD (k - 1) default) (o.drops.getD k default)
            cases hb : tlessB (o.drops.getD (k - 1) default) (o.drops.getD k default)
            · rw [hb] at hL
              have hz := rall_false (p := dropOk o) hka (by simp only [dropOk, hb, decide_eq_false (show ¬ k = 0 by omega), Bool.or_self, Bool.and_false])
              simp only [go_sem, ocells, h, List.length_map]
              refine vDrawQ (by kernel_rfl) (by kernel_rfl) ?_
              simp only [go_sem, ocells, h, List.length_map, getD_tg hka, tg, i1]
              refine vCall_of (hT) ?_ ?_ ?_; (focus simp only [go_sem, tg]); (focus simp only [go_sem, tg])
              simp only [go_sem, tg_fold, he, h0, w2, getD_tg hk1, getD_tg hka, tg, h, i1, j1, j2, List.length_map]
              refine vCall_of (hL) ?_ ?_ ?_; (focus simp only [go_sem, tg]); (focus simp only [go_sem, tg])
              simp only [go_sem, hz]
            · rw [hb] at hL
              have ok : dropOk o k = true := by simp only [dropOk, ht, he, hb, Bool.or_true, Bool.not_false, Bool.and_self]
              simp only [go_sem, ocells, h, List.length_map]
              refine vDrawQ (by kernel_rfl) (by kernel_rfl) ?_
              simp only [go_sem, ocells, h, List.length_map, getD_tg hka, tg, i1]
              refine vCall_of (hT) ?_ ?_ ?_; (focus simp only [go_sem, tg]); (focus simp only [go_sem, tg])
              simp only [go_sem, tg_fold, he, h0, w2, getD_tg hk1, getD_tg hka, tg, h, i1, j1, j2, List.length_map]
              refine vCall_of (hL) ?_ ?_ ?_; (focus simp only [go_sem, tg]); (focus simp only [go_sem, tg])
              simp only [go_sem, w1]
              exact ⟨⟨k + 1, by (try simp only); omega, below_succ hI ok⟩, by show (o.drops).length - (k + 1) < (o.drops).length - k; omega, ⟨rfl, (forall_cons rfl (forall_cons rfl forall_nil)), (forall_cons ⟨rfl, rfl⟩ forall_nil), forall_nil⟩⟩
          · have ok : dropOk o k = true := by simp only [dropOk, ht, he, decide_eq_true (show k = 0 by omega), Bool.true_or, Bool.not_false, Bool.and_self]
            simp only [go_sem, ocells, h, List.length_map]
            refine vDrawQ (by kernel_rfl) (by kernel_rfl) ?_
            simp only [go_sem, ocells, h, List.length_map, getD_tg hka, tg, i1]
            refine vCall_of (hT) ?_ ?_ ?_; (focus simp only [go_sem, tg]); (focus simp only [go_sem, tg])
            simp only [go_sem, tg_fold, he, h0, w1, getD_tg hka, tg, i1, h, List.length_map]
            exact ⟨⟨k + 1, by (try simp only); omega, below_succ hI ok⟩, by show (o.drops).length - (k + 1) < (o.drops).length - k; omega, ⟨rfl, (forall_cons rfl (forall_cons rfl forall_nil)), (forall_cons ⟨rfl, rfl⟩ forall_nil), forall_nil⟩⟩
        · have hz := rall_false (p := dropOk o) hka (by simp only [dropOk, he, Bool.not_true, Bool.false_and, Bool.and_false])
          simp only [go_sem, ocells, h, List.length_map]
          refine vDrawQ (by kernel_rfl) (by kernel_rfl) ?_
          simp only [go_sem, ocells, h, List.length_map, getD_tg hka, tg, i1]
          refine vCall_of (hT) ?_ ?_ ?_; (focus simp only [go_sem, tg]); (focus simp only [go_sem, tg])
          simp only [go_sem, tg_fold, he, hz, getD_tg hka, tg, i1, h, List.length_map]
    · have hz := rall_true (p := dropOk o) (n := o.drops.length) (fun j hj => hI j (by omega))
      simp only [go_sem, ocells, List.length_map, h, hz]
def plainO (o : Opn) : Bool := decide (o.at' = default) && (decide (o.delta = 0) && (!o.has && decide (o.text = [])))
theorem ref0_fold (a : Rf) : (a.sc == 0 && (a.gr == [] && a.nm == [])) = decide (a = default) := ref_fold a default
set_option maxRecDepth 20000 in
set_option maxHeartbeats 8000000 in
theorem ROPlain_pure (o : Opn) : PL.Pure Tryz.prog 130 [opv o] (.bool (plainO o)) := by
  refine PL.Pure.of_v Tryz.func130 (by decide) rfl Tryz.ntmps130 Tryz.results130 (by simp) rfl ?_
  simp only [go_sem, opv, ref0_fold]
  repeat' (first | (refine vGuard_t (fun h => ?_) (fun h => ?_) <;> (try simp only [go_sem, h, ref0_fold])) | (refine vGuard_f (fun h => ?_) (fun h => ?_) <;> (try simp only [go_sem, h, ref0_fold])) | (refine vCond_b (fun h => ?_) (fun h => ?_) <;> (try simp only [go_sem, h, ref0_fold])) | ((refine vDrawQ (by kernel_rfl) (by kernel_rfl) ?_); (try simp only [go_sem, ref0_fold])))
  all_goals (simp_all [plainO]; try (rw [Bool.eq_iff_iff]; simp))
def dropsL (id : Tg) (l : List Tg) : Bool := dropsB ⟨id, default, 0, [], 0, [], default, 0, false, [], l⟩
theorem dropsB_L (o : Opn) : dropsB o = dropsL o.id o.drops := rfl
def rightR (o : Opn) : Bool :=
  if ((((!tagB o.id || (!decide (o.sch = default) && !tagB o.sch)) || decide (o.time < 1)) || decide (1099511627776 < o.time)) || !nameB o.cart) || !dropsB o then false
  else if o.kind = 5 then decide (o.item = []) && plainO o
  else if o.kind = 1 then (nameB o.item && plainO o) && decide ((o.drops.length : Int) = 0)
  else if o.kind = 2 then nameB o.item && plainO o
  else if (!placeB o.at' || (decide (o.at'.sc = 1) && !nameB o.item)) || (decide (o.at'.sc = 0) && !decide (o.item = [])) then false
  else if o.kind = 3 then (((!o.has && decide (o.text = [])) && decide ((o.drops.length : Int) = 0)) && decide (-1048577 < o.delta)) && decide (o.delta < 1048577)
  else (decide (o.kind = 4) && decide (o.delta = 0)) && ((o.has && decide ((o.text.length : Int) < 41)) || (!o.has && decide (o.text = [])))
set_option maxRecDepth 20000 in
set_option maxHeartbeats 8000000 in
theorem rightR_eq (o : Opn) : rightR o = rightO o := by
  rw [Bool.eq_iff_iff]
  unfold rightR rightO
  rw [dropsB_L]
  obtain ⟨id, sch, time, cart, kind, item, ⟨sc, gr, nm⟩, delta, has, text, drops⟩ := o
  simp only
  generalize dropsL id drops = db
  by_cases k5 : kind = 5
  · subst k5
    simp [opParts, itemB, placedB, plainO]
    constructor
    · intro h; simp_all; try omega
    · intro h; simp_all; try omega
  by_cases k1 : kind = 1
  · subst k1
    simp [opParts, itemB, placedB, plainO]
    constructor
    · intro h; simp_all; try omega
    · intro h; simp_all; try omega
  by_cases k2 : kind = 2
  · subst k2
    simp [opParts, itemB, placedB, plainO]
    constructor
    · intro h; simp_all; try omega
    · intro h; simp_all; try omega
  by_cases k3 : kind = 3
  · subst k3
    by_cases s1 : sc = 1
    · subst s1
      simp [opParts, itemB, placedB, plainO]
      constructor
      · intro h; simp_all; try omega
      · intro h; simp_all; try omega
    · by_cases s0 : sc = 0
      · subst s0
        simp [opParts, itemB, placedB, plainO]
        constructor
        · intro h; simp_all; try omega
        · intro h; simp_all; try omega
      · simp [opParts, itemB, placedB, plainO, placeB, s1, s0]
  by_cases k4 : kind = 4
  · subst k4
    by_cases s1 : sc = 1
    · subst s1
      cases has
      all_goals
        simp [opParts, itemB, placedB, plainO]
        constructor
        · intro h; simp_all; try omega
        · intro h; simp_all; try omega
    · by_cases s0 : sc = 0
      · subst s0
        cases has
        all_goals
          simp [opParts, itemB, placedB, plainO]
          constructor
          · intro h; simp_all; try omega
          · intro h; simp_all; try omega
      · simp [opParts, itemB, placedB, plainO, placeB, s1, s0]
  · simp [opParts, k1, k2, k3, k4, k5]
set_option maxHeartbeats 1000000 in
theorem RAt21_pure (l : List Rf) (r : Rf) (hl : l.length ≤ maxLen) : PL.Pure Tryz.prog 204 [refs l, ref r] (.int .i64 (placeI l r)) := by
  have hsym : placeI l r = idx (fun x => decide (x = r)) l := by unfold placeI; congr 1; funext x; simp [eq_comm]
  rw [hsym]
  refine PL.Pure.of_v Tryz.func204 (by decide) rfl Tryz.ntmps204 Tryz.results204 (by simp) rfl ?_
  simp only [go_sem, refs, ref]
  refine vLoopM (ι := { x : Nat // x ≤ (l).length ∧ (∀ j, j < x → (fun x => decide (x = r)) (l.getD j default) = false) }) 19 (fun x => [(0, refs l), (3, .ptr 3 0), (5, .int .i64 (x.1 : Int))]) (fun x => [(3, [.int .i64 r.sc, .str r.gr, .str r.nm], false)]) (fun x => []) (fun x => (l).length - x.1) ⟨0, Nat.zero_le _, fun j hj => absurd hj (Nat.not_lt_zero j)⟩ ⟨rfl, (forall_cons rfl (forall_cons rfl (forall_cons rfl forall_nil))), (forall_cons ⟨rfl, rfl⟩ forall_nil), forall_nil⟩ (fun x => ⟨(forall_cons rfl (forall_cons rfl (forall_cons rfl forall_nil))), (forall_cons rfl forall_nil)⟩) (fun x => ?_); obtain ⟨k, hk, hI⟩ := x; simp only at hk hI ⊢
  by_cases h : (k : Int) < (l.length : Int)
  · (have hka : k < (l).length := by omega); (have w1 := w64s hka (hl)); (have i1 : (0 : Int) ≤ (k : Int) := by omega)
    cases he : (fun x => decide (x = r)) (l.getD k default)
    · have he0 := he
      simp only at he
      simp only [go_sem, refs, h]
      refine vDrawQ (by kernel_rfl) (by kernel_rfl) ?_
      simp only [go_sem, getD_ref hka, h, i1, ref, ref_fold, he, w1]
      exact ⟨⟨k + 1, by (try simp only); omega, below_succ hI he0⟩, by show (l).length - (k + 1) < (l).length - k; omega, ⟨rfl, (forall_cons rfl (forall_cons rfl (forall_cons rfl forall_nil))), (forall_cons ⟨rfl, rfl⟩ forall_nil), forall_nil⟩⟩
    · have hx := idx_found (p := fun x => decide (x = r)) hka hI he
      simp only at he
      simp only [go_sem, refs, h]
      refine vDrawQ (by kernel_rfl) (by kernel_rfl) ?_
      simp only [go_sem, getD_ref hka, h, i1, ref, ref_fold, he, hx]
  · have hx := idx_none (p := fun x => decide (x = r)) (d := default) (l := l) (fun j hj => hI j (by omega))
    simp only [go_sem, refs, h, hx]
end Go.Proofs.YtnadlkjmdimjkaaGreat

set_option linter.unusedSimpArgs false
set_option linter.unusedVariables false
set_option linter.unusedSimpArgs false
set_option linter.unusedVariables false
namespace Go.Proofs.YtnadlkjmdimjkaaGreat
open Go.PL
set_option maxRecDepth 20000 in
set_option maxHeartbeats 16000000 in
theorem RORight_pure (o : Opn) : PL.Pure Tryz.prog 68 [opv o] (.bool (rightO o)) := by
  have hT := RTag_pure o.id
  have hU := RTag_pure o.sch
  have hC := RName_pure o.cart
  have hA := RPlace_pure o.at'
  have hI := RName_pure o.item
  have hD := RODrops_pure o
  have hP := ROPlain_pure o
  rw [← rightR_eq]
  unfold rightR
  generalize dropsB o = db at *
  generalize plainO o = pb at *
  generalize nameB o.item = ni at *
  generalize nameB o.cart = nc at *
  generalize placeB o.at' = pa at *
  generalize tagB o.id = ti at *
  generalize tagB o.sch = ts at *
  refine PL.Pure.of_v Tryz.func68 (by decide) rfl Tryz.ntmps68 Tryz.results68 (by simp) rfl ?_
  simp only [go_sem, opv, tgd_fold]
  repeat' (first | (refine vGuard_t (fun h => ?_) (fun h => ?_) <;> (try simp only [go_sem, h, opv, tgd_fold])) | (refine vGuard_f (fun h => ?_) (fun h => ?_) <;> (try simp only [go_sem, h, opv, tgd_fold])) | (refine vCond_b (fun h => ?_) (fun h => ?_) <;> (try simp only [go_sem, h, opv, tgd_fold])) | ((refine vCall_of (hT) ?_ ?_ ?_); (focus simp only [go_sem, opv, tg, ref]); (focus exact rfl); (try simp only [go_sem, opv, tgd_fold])) | ((refine vCall_of (hU) ?_ ?_ ?_); (focus simp only [go_sem, opv, tg, ref]); (focus exact rfl); (try simp only [go_sem, opv, tgd_fold])) | ((refine vCall_of (hC) ?_ ?_ ?_); (focus simp only [go_sem, opv, tg, ref]); (focus exact rfl); (try simp only [go_sem, opv, tgd_fold])) | ((refine vCall_of (hA) ?_ ?_ ?_); (focus simp only [go_sem, opv, tg, ref]); (focus exact rfl); (try simp only [go_sem, opv, tgd_fold])) | ((refine vCall_of (hI) ?_ ?_ ?_); (focus simp only [go_sem, opv, tg, ref]); (focus exact rfl); (try simp only [go_sem, opv, tgd_fold])) | ((refine vCall_of (hD) ?_ ?_ ?_); (focus simp only [go_sem, opv, tg, ref]); (focus exact rfl); (try simp only [go_sem, opv, tgd_fold])) | ((refine vCall_of (hP) ?_ ?_ ?_); (focus simp only [go_sem, opv, tg, ref]); (focus exact rfl); (try simp only [go_sem, opv, tgd_fold])) | ((refine vDrawQ (by kernel_rfl) (by kernel_rfl) ?_); (try simp only [go_sem, opv, tgd_fold])))
  all_goals clear hT hU hC hA hI hD hP
  all_goals (first
    | (simp only [*, Bool.not_true, Bool.not_false, Bool.and_true, Bool.true_and, Bool.and_false, Bool.false_and, Bool.or_true, Bool.true_or, Bool.or_false, Bool.false_or, Bool.not_not]; done)
    | (simp_all; done)
    | (rw [Bool.eq_iff_iff]; simp_all; done)
    | (rw [Bool.eq_iff_iff]; simp_all; omega)
    | (simp_all; omega)
    | trace_state)
end Go.Proofs.YtnadlkjmdimjkaaGreat

set_option linter.unusedSimpArgs false
set_option linter.unusedVariables false
set_option linter.unusedSimpArgs false
set_option linter.unusedVariables false
namespace Go.Proofs.YtnadlkjmdimjkaaGreat
open Go.PL
set_option maxRecDepth 20000 in
set_option maxHeartbeats 16000000 in
theorem ROFits_pure (l : List Fd) (o : Opn) (hl : OkFs l) : PL.Pure Tryz.prog 87 [flds l, opv o] (.bool (fitsO l o)) := by
  have hR := RORight_pure o
  have hlm : l.length ≤ maxLen := by have := hl.n; rw [maxLen_eq]; omega
  have hI : PL.Pure Tryz.prog 149 [flds l, ref o.at'] (.int .i64 (idx (atF o.at') l)) := RAt_pure l o.at' hlm
  unfold fitsO
  obtain ⟨id, sch, time, cart, kind, item, at', delta, has, text, drops⟩ := o
  simp only at hI ⊢
  generalize hq : rightO ⟨id, sch, time, cart, kind, item, at', delta, has, text, drops⟩ = q at *
  cases q
  · refine PL.Pure.of_v Tryz.func87 (by decide) rfl Tryz.ntmps87 Tryz.results87 (by simp) rfl ?_
    simp only [go_sem, flds, opv]
    refine vCall_of (hR) ?_ ?_ ?_; (focus simp only [go_sem, opv]); (focus simp only [go_sem, opv])
    simp only [go_sem, Bool.false_and]
  simp only [Bool.true_and, placedB]
  by_cases k3 : kind = 3
  · have e3 : (kind == 3) = true := by simpa using k3
    have e3' : (kind != 3) = false := by simpa using k3
    simp only [e3, Bool.true_or, Bool.true_eq_false, if_false, if_pos k3]
    rcases idx_cases (atF at') l with h2 | ⟨g, hg, h2⟩
    · rw [h2] at hI
      have hf : findF l at' = (default, 6) := by unfold findF; rw [h2]; rfl
      rw [hf]
      refine PL.Pure.of_v Tryz.func87 (by decide) rfl Tryz.ntmps87 Tryz.results87 (by simp) rfl ?_
      simp only [go_sem, flds, opv]
      refine vCall_of (hR) ?_ ?_ ?_; (focus simp only [go_sem, opv]); (focus simp only [go_sem, opv])
      simp only [go_sem, e3']
      refine vCall_of (hI) ?_ ?_ ?_; (focus simp only [go_sem, flds, ref]); (focus simp only [go_sem, flds, ref])
      simp only [go_sem, Int.reduceEq, decide_false, Bool.false_and]
    · rw [h2] at hI
      have n1 : ¬ (g : Int) < 0 := by omega
      have n2 : (0 : Int) ≤ (g : Int) := by omega
      have n3 : (g : Int) < (l.length : Int) := by omega
      have hf : findF l at' = (l.getD g default, 0) := by unfold findF; rw [h2, if_neg (by omega)]; simp
      rw [hf]
      have ek : ((l.getD g default).kind == 1) = decide ((l.getD g default).kind = 1) := by rw [Bool.eq_iff_iff]; simp
      refine PL.Pure.of_v Tryz.func87 (by decide) rfl Tryz.ntmps87 Tryz.results87 (by simp) rfl ?_
      simp only [go_sem, flds, opv]
      refine vCall_of (hR) ?_ ?_ ?_; (focus simp only [go_sem, opv]); (focus simp only [go_sem, opv])
      simp only [go_sem, e3']
      refine vCall_of (hI) ?_ ?_ ?_; (focus simp only [go_sem, flds, ref]); (focus simp only [go_sem, flds, ref])
      simp only [go_sem, e3, n1, n2, n3, List.length_map, getD_fld hg, fld, ek, decide_true, Bool.true_and]
  · have e3 : (kind == 3) = false := by simpa using k3
    have e3' : (kind != 3) = true := by simpa using k3
    by_cases k4 : kind = 4
    · have e4 : (kind == 4) = true := by simpa using k4
      have e4' : (kind != 4) = false := by simpa using k4
      simp only [e3, e4, Bool.or_true, Bool.true_eq_false, if_false, if_neg k3]
      rcases idx_cases (atF at') l with h2 | ⟨g, hg, h2⟩
      · rw [h2] at hI
        have hf : findF l at' = (default, 6) := by unfold findF; rw [h2]; rfl
        rw [hf]
        refine PL.Pure.of_v Tryz.func87 (by decide) rfl Tryz.ntmps87 Tryz.results87 (by simp) rfl ?_
        simp only [go_sem, flds, opv]
        refine vCall_of (hR) ?_ ?_ ?_; (focus simp only [go_sem, opv]); (focus simp only [go_sem, opv])
        simp only [go_sem, e3', e4']
        refine vCall_of (hI) ?_ ?_ ?_; (focus simp only [go_sem, flds, ref]); (focus simp only [go_sem, flds, ref])
        simp only [go_sem, Int.reduceEq, decide_false, Bool.false_and]
      · rw [h2] at hI
        have n1 : ¬ (g : Int) < 0 := by omega
        have n2 : (0 : Int) ≤ (g : Int) := by omega
        have n3 : (g : Int) < (l.length : Int) := by omega
        have hf : findF l at' = (l.getD g default, 0) := by unfold findF; rw [h2, if_neg (by omega)]; simp
        rw [hf]
        have hcs := hl.c _ (getD_mem (d := default) hg)
        have hT := RFits_pure (l.getD g default) text (by rw [maxLen_eq]; omega)
        have ek : ((l.getD g default).kind == 4) = decide ((l.getD g default).kind = 4) := by rw [Bool.eq_iff_iff]; simp
        cases has
        · refine PL.Pure.of_v Tryz.func87 (by decide) rfl Tryz.ntmps87 Tryz.results87 (by simp) rfl ?_
          simp only [go_sem, flds, opv]
          refine vCall_of (hR) ?_ ?_ ?_; (focus simp only [go_sem, opv]); (focus simp only [go_sem, opv])
          simp only [go_sem, e3', e4']
          refine vCall_of (hI) ?_ ?_ ?_; (focus simp only [go_sem, flds, ref]); (focus simp only [go_sem, flds, ref])
          simp only [go_sem, e3, n1, n2, n3, List.length_map, getD_fld hg, fld, ek, decide_true, Bool.true_and, Bool.false_eq_true, if_false]
        · refine PL.Pure.of_v Tryz.func87 (by decide) rfl Tryz.ntmps87 Tryz.results87 (by simp) rfl ?_
          simp only [go_sem, flds, opv]
          refine vCall_of (hR) ?_ ?_ ?_; (focus simp only [go_sem, opv]); (focus simp only [go_sem, opv])
          simp only [go_sem, e3', e4']
          refine vCall_of (hI) ?_ ?_ ?_; (focus simp only [go_sem, flds, ref]); (focus simp only [go_sem, flds, ref])
          simp only [go_sem, e3, n1]
          refine vDrawQ (by kernel_rfl) (by kernel_rfl) ?_
          simp only [go_sem, n1, n2, n3, List.length_map, getD_fld hg, fld]
          refine vCall_of (hT) ?_ ?_ ?_; (focus simp only [go_sem, fld]); (focus simp only [go_sem, fld])
          simp only [go_sem, decide_true, Bool.true_and, if_true]
    · have e4 : (kind == 4) = false := by simpa using k4
      have e4' : (kind != 4) = true := by simpa using k4
      refine PL.Pure.of_v Tryz.func87 (by decide) rfl Tryz.ntmps87 Tryz.results87 (by simp) rfl ?_
      simp only [go_sem, flds, opv]
      refine vCall_of (hR) ?_ ?_ ?_; (focus simp only [go_sem, opv]); (focus simp only [go_sem, opv])
      simp only [go_sem, e3', e4', e3, e4, Bool.or_false, if_true]
end Go.Proofs.YtnadlkjmdimjkaaGreat
