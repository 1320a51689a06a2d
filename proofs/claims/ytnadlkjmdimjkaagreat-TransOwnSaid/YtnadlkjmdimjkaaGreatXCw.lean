/- Contracts of functions and laws of this seat, each for every input that it names: lemmas of the proof. -/
import Derived.Test.YtnadlkjmdimjkaaGreatXCq
import Derived.Test.YtnadlkjmdimjkaaGreatXCu
import Derived.Test.YtnadlkjmdimjkaaGreatXBx
import Derived.Test.YtnadlkjmdimjkaaGreatXCc
import Derived.Test.YtnadlkjmdimjkaaGreatXAm
import Derived.Test.YtnadlkjmdimjkaaGreatRows
import Derived.ProofKit
import Derived.Test.YtnadlkjmdimjkaaGreatXCf
set_option linter.unusedSimpArgs false
set_option linter.unusedVariables false
set_option linter.unusedSimpArgs false
set_option linter.unusedVariables false
namespace Go.Proofs.YtnadlkjmdimjkaaGreat
open Go.PL
set_option maxRecDepth 20000 in
set_option maxHeartbeats 8000000 in
theorem TState_pure (m : List Eg) (id : Tg) : PL.Pure Tryz.prog 66 [tr (treeOf m), tg id] (.int .i64 (atN (treeOf m) id).st) := by
  have hA := at_pure (treeOf m) id
  generalize atN (treeOf m) id = n at *
  refine PL.Pure.of_v Tryz.func66 (by decide) rfl Tryz.ntmps66 Tryz.results66 (by simp) rfl ?_
  simp only [go_sem, tr, tg]
  refine vCall_of (hA) ?_ ?_ ?_; (focus simp only [go_sem, tr, tg]); (focus simp only [go_sem, tr, tg])
  simp only [go_sem, nd]
def parkedM (m : List Eg) (o : Opn) : Bool := rightO o && !decide (upC m o.sch = 0)
theorem st_up (m : List Eg) (id : Tg) : ((atN (treeOf m) id).st != 2) = !decide (upC m id = 0) := by
  have e : upC m id = (schM (treeOf m) id).2 := rfl
  rw [e]
  unfold schM
  by_cases h : (atN (treeOf m) id).st = 2
  · rw [if_pos h]; simp [h]
  · rw [if_neg h]
    have : ((atN (treeOf m) id).st != 2) = true := by simpa using h
    rw [this]
    split <;> simp
theorem stm_up (m : List Eg) (id : Tg) : ((stateM m id).1 != 2) = !decide (upC m id = 0) := by
  have e : upC m id = (schM (treeOf m) id).2 := rfl
  rw [e, sch_state]
  by_cases h : (stateM m id).1 = 2
  · rw [if_neg (by omega), if_neg (fun g => g h)]; simp [h]
  · have : ((stateM m id).1 != 2) = true := by simpa using h
    rw [this]
    by_cases h3 : (stateM m id).1 = 3
    · rw [if_pos h3]; simp
    · rw [if_neg h3, if_pos h]; simp
set_option maxRecDepth 20000 in
set_option maxHeartbeats 8000000 in
theorem TrParked_pure (m : List Eg) (o : Opn) (ho : OkOp o) : PL.Pure Tryz.prog 31 [tr (treeOf m), opv o] (.bool (parkedM m o)) := by
  have hR := ORight_pure o ho.len
  have hS := TState_pure m o.sch
  have e := st_up m o.sch
  unfold parkedM
  cases h1 : rightO o
  · rw [h1] at hR
    refine PL.Pure.of_v Tryz.func31 (by decide) rfl Tryz.ntmps31 Tryz.results31 (by simp) rfl ?_
    simp only [go_sem, tr, opv]
    refine vCall_of (hR) ?_ ?_ ?_; (focus simp only [go_sem, opv]); (focus simp only [go_sem, opv])
    simp only [go_sem, Bool.false_and]
  · rw [h1] at hR
    rw [← e]
    refine PL.Pure.of_v Tryz.func31 (by decide) rfl Tryz.ntmps31 Tryz.results31 (by simp) rfl ?_
    simp only [go_sem, tr, opv]
    refine vCall_of (hR) ?_ ?_ ?_; (focus simp only [go_sem, opv]); (focus simp only [go_sem, opv])
    simp only [go_sem]
    refine vCall_of (hS) ?_ ?_ ?_; (focus simp only [go_sem, tr, tg]); (focus simp only [go_sem, tr, tg])
    simp only [go_sem, Bool.true_and]
set_option maxRecDepth 20000 in
set_option maxHeartbeats 8000000 in
theorem RParked_pure (m : List Eg) (o : Opn) (hm : OkM m) : PL.Pure Tryz.prog 32 [egs m, opv o] (.bool (parkedM m o)) := by
  have hR := RORight_pure o
  have hS := RState_pure m o.sch hm
  have e := stm_up m o.sch
  unfold parkedM
  cases h1 : rightO o
  · rw [h1] at hR
    refine PL.Pure.of_v Tryz.func32 (by decide) rfl Tryz.ntmps32 Tryz.results32 (by simp) rfl ?_
    simp only [go_sem, egs, opv]
    refine vCall_of (hS) ?_ ?_ ?_; (focus simp only [go_sem, egs, tg]); (focus simp only [go_sem, egs, tg])
    simp only [go_sem, stc]
    refine vCall_of (hR) ?_ ?_ ?_; (focus simp only [go_sem, opv]); (focus simp only [go_sem, opv])
    simp only [go_sem, Bool.false_and]
  · rw [h1] at hR
    rw [← e]
    refine PL.Pure.of_v Tryz.func32 (by decide) rfl Tryz.ntmps32 Tryz.results32 (by simp) rfl ?_
    simp only [go_sem, egs, opv]
    refine vCall_of (hS) ?_ ?_ ?_; (focus simp only [go_sem, egs, tg]); (focus simp only [go_sem, egs, tg])
    simp only [go_sem, stc]
    refine vCall_of (hR) ?_ ?_ ?_; (focus simp only [go_sem, opv]); (focus simp only [go_sem, opv])
    simp only [go_sem, Bool.true_and]
set_option maxRecDepth 20000 in
set_option maxHeartbeats 8000000 in
theorem TrTo_nil (o : Opn) (b : Tg) : PL.Pure Tryz.prog 25 [.nilp, opv o, tg b] (seenv ⟨default, false, 1⟩) := by
  refine PL.Pure.of_v Tryz.func25 (by decide) rfl Tryz.ntmps25 Tryz.results25 (by simp) (seenv_dids _) ?_
  simp only [go_sem, tg, opv, seenv, opv_default]
  try rfl
set_option maxRecDepth 20000 in
set_option maxHeartbeats 8000000 in
theorem TrRead_nil (o : Opn) : PL.Pure Tryz.prog 27 [.nilp, opv o] (.bool false) := by
  refine PL.Pure.of_v Tryz.func27 (by decide) rfl Tryz.ntmps27 Tryz.results27 (by simp) rfl ?_
  simp only [go_sem, opv]
set_option maxRecDepth 20000 in
set_option maxHeartbeats 8000000 in
theorem TrParked_nil (o : Opn) : PL.Pure Tryz.prog 31 [.nilp, opv o] (.bool false) := by
  refine PL.Pure.of_v Tryz.func31 (by decide) rfl Tryz.ntmps31 Tryz.results31 (by simp) rfl ?_
  simp only [go_sem, opv]
set_option maxRecDepth 20000 in
set_option maxHeartbeats 32000000 in
theorem TransRound_pure (l : List Eg) (o : Opn) (b : Tg) (hl : l.length ≤ maxLen) (hx : ∀ e ∈ l, LenLn e.ln) : PL.Pure Tryz.prog 8 [egs l, opv o, tg b] (.bool true) := by
  have hH := RHeavyE_pure l 50 hl hx
  have hJ := RHeavyO_pure o
  cases hh : heavyE l 50
  · rw [hh] at hH
    cases hj : heavyO o
    · rw [hj] at hJ
      have oko := OkOfHeavy o hj
      obtain ⟨o1, o2⟩ := okL hh
      have hG := Grown_pure l (by omega) o2
      have hm : OkM (grownM l) := okGrown _ okM_nil o2
      have hr : RightM (grownM l) := rightGrown _ right_nil
      generalize grownM l = m at *
      have hT := TrRound_pure m o b hm hr oko
      have hK := RCheck_pure m o b hm
      have hP := KeptTo_pure m o.sch b o.at' hm hr
      have hcode := round_code m o b
      have okr := round_okO (m := m) (b := b) oko
      have hS0 := ROSame_pure default default def_ok.len def_ok.len
      rw [decide_eq_true rfl, opv_default] at hS0
      by_cases hc : checkO m o b = 0
      · obtain ⟨_, h2, h3, h4⟩ := check_zero.1 hc
        have pc : pathC m o.sch b = 0 := pathC_zero.2 ⟨h2, h3⟩
        rw [hc] at hK hcode
        rw [pc] at hP
        by_cases hk : keptT m o.sch b o.at' = true ∨ placedB o = false
        · rw [round_kept hm hr hc hk] at hT
          have hS := ROSame_pure o o oko.len oko.len
          rw [decide_eq_true rfl] at hS
          have hg : (keptT m o.sch b o.at' = true) ∨ (keptT m o.sch b o.at' = false ∧ (o.kind != 3) = true ∧ (o.kind != 4) = true) := by
            cases hq : keptT m o.sch b o.at'
            · right
              rcases hk with h | h
              · rw [hq] at h; cases h
              · simp [placedB] at h
                simpa using h
            · left; rfl
          generalize keptT m o.sch b o.at' = kp at *
          rcases hg with rfl | ⟨rfl, e1, e2⟩
          · refine PL.Pure.of_v Tryz.func8 (by decide) rfl Tryz.ntmps8 Tryz.results8 (by simp) rfl ?_
            simp only [go_sem, egs, opv, tg]
            refine vCall_of (awake22_pure) ?_ ?_ ?_; (focus simp only [go_sem]); (focus simp only [go_sem])
            simp only [go_sem]
            refine vCall_of (hH) ?_ ?_ ?_; (focus simp only [go_sem, egs]); (focus simp only [go_sem, egs])
            simp only [go_sem]
            refine vCall_of (hJ) ?_ ?_ ?_; (focus simp only [go_sem, opv]); (focus simp only [go_sem, opv])
            simp only [go_sem]
            refine vCall_of (hG) ?_ ?_ ?_; (focus simp only [go_sem, egs]); (focus simp only [go_sem, egs])
            simp only [go_sem, grv]
            refine vCall_of (hT) ?_ ?_ ?_; (focus simp only [go_sem, tr, tg, opv]); (focus simp only [go_sem, tr, tg, opv])
            simp only [go_sem, seenv, opv, egs, tg]
            refine vCall_of (hK) ?_ ?_ ?_; (focus simp only [go_sem, egs, tg, opv]); (focus simp only [go_sem, egs, tg, opv])
            simp only [go_sem, tr, tg, ref]
            refine vCall_of (hP) ?_ ?_ ?_; (focus simp only [go_sem, tr, tg, ref]); (focus simp only [go_sem, tr, tg, ref])
            simp only [go_sem, kpc]
            refine vCall_of (hS) ?_ ?_ ?_; (focus simp only [go_sem, opv]); (focus simp only [go_sem, opv])
            simp only [go_sem]
          · refine PL.Pure.of_v Tryz.func8 (by decide) rfl Tryz.ntmps8 Tryz.results8 (by simp) rfl ?_
            simp only [go_sem, egs, opv, tg]
            refine vCall_of (awake22_pure) ?_ ?_ ?_; (focus simp only [go_sem]); (focus simp only [go_sem])
            simp only [go_sem]
            refine vCall_of (hH) ?_ ?_ ?_; (focus simp only [go_sem, egs]); (focus simp only [go_sem, egs])
            simp only [go_sem]
            refine vCall_of (hJ) ?_ ?_ ?_; (focus simp only [go_sem, opv]); (focus simp only [go_sem, opv])
            simp only [go_sem]
            refine vCall_of (hG) ?_ ?_ ?_; (focus simp only [go_sem, egs]); (focus simp only [go_sem, egs])
            simp only [go_sem, grv]
            refine vCall_of (hT) ?_ ?_ ?_; (focus simp only [go_sem, tr, tg, opv]); (focus simp only [go_sem, tr, tg, opv])
            simp only [go_sem, seenv, opv, egs, tg]
            refine vCall_of (hK) ?_ ?_ ?_; (focus simp only [go_sem, egs, tg, opv]); (focus simp only [go_sem, egs, tg, opv])
            simp only [go_sem, tr, tg, ref]
            refine vCall_of (hP) ?_ ?_ ?_; (focus simp only [go_sem, tr, tg, ref]); (focus simp only [go_sem, tr, tg, ref])
            simp only [go_sem, kpc, e1, e2]
            refine vCall_of (hS) ?_ ?_ ?_; (focus simp only [go_sem, opv]); (focus simp only [go_sem, opv])
            simp only [go_sem]
        · simp only [not_or] at hk
          have hkp : keptT m o.sch b o.at' = false := by simpa using hk.1
          have hpl : ((o.kind != 3) = false) ∨ ((o.kind != 3) = true ∧ (o.kind != 4) = false) := by
            have := hk.2
            simp [placedB] at this
            by_cases k3 : o.kind = 3
            · left; simp [k3]
            · right
              simp [k3, this k3]
          rw [hkp] at hP
          clear hk
          by_cases hbad : (roundT m o b).ok = false
          · obtain ⟨z1, z2⟩ := round_false (.inr hbad)
            generalize roundT m o b = t at *
            obtain ⟨q, ok, c⟩ := t
            simp only at z1 z2 hcode
            subst z1 z2 hcode
            rcases hpl with e1 | ⟨e1, e2⟩
            · refine PL.Pure.of_v Tryz.func8 (by decide) rfl Tryz.ntmps8 Tryz.results8 (by simp) rfl ?_
              simp only [go_sem, egs, opv, tg]
              refine vCall_of (awake22_pure) ?_ ?_ ?_; (focus simp only [go_sem]); (focus simp only [go_sem])
              simp only [go_sem]
              refine vCall_of (hH) ?_ ?_ ?_; (focus simp only [go_sem, egs]); (focus simp only [go_sem, egs])
              simp only [go_sem]
              refine vCall_of (hJ) ?_ ?_ ?_; (focus simp only [go_sem, opv]); (focus simp only [go_sem, opv])
              simp only [go_sem]
              refine vCall_of (hG) ?_ ?_ ?_; (focus simp only [go_sem, egs]); (focus simp only [go_sem, egs])
              simp only [go_sem, grv]
              refine vCall_of (hT) ?_ ?_ ?_; (focus simp only [go_sem, tr, tg, opv]); (focus simp only [go_sem, tr, tg, opv])
              simp only [go_sem, seenv, opv_default, egs, tg]
              refine vCall_of (hK) ?_ ?_ ?_; (focus simp only [go_sem, egs, tg, opv]); (focus simp only [go_sem, egs, tg, opv])
              simp only [go_sem, tr, tg, ref]
              refine vCall_of (hP) ?_ ?_ ?_; (focus simp only [go_sem, tr, tg, ref]); (focus simp only [go_sem, tr, tg, ref])
              simp only [go_sem, kpc, e1]
              refine vCall_of (hS0) ?_ ?_ ?_; (focus simp only [go_sem]); (focus simp only [go_sem])
              simp only [go_sem]
            · refine PL.Pure.of_v Tryz.func8 (by decide) rfl Tryz.ntmps8 Tryz.results8 (by simp) rfl ?_
              simp only [go_sem, egs, opv, tg]
              refine vCall_of (awake22_pure) ?_ ?_ ?_; (focus simp only [go_sem]); (focus simp only [go_sem])
              simp only [go_sem]
              refine vCall_of (hH) ?_ ?_ ?_; (focus simp only [go_sem, egs]); (focus simp only [go_sem, egs])
              simp only [go_sem]
              refine vCall_of (hJ) ?_ ?_ ?_; (focus simp only [go_sem, opv]); (focus simp only [go_sem, opv])
              simp only [go_sem]
              refine vCall_of (hG) ?_ ?_ ?_; (focus simp only [go_sem, egs]); (focus simp only [go_sem, egs])
              simp only [go_sem, grv]
              refine vCall_of (hT) ?_ ?_ ?_; (focus simp only [go_sem, tr, tg, opv]); (focus simp only [go_sem, tr, tg, opv])
              simp only [go_sem, seenv, opv_default, egs, tg]
              refine vCall_of (hK) ?_ ?_ ?_; (focus simp only [go_sem, egs, tg, opv]); (focus simp only [go_sem, egs, tg, opv])
              simp only [go_sem, tr, tg, ref]
              refine vCall_of (hP) ?_ ?_ ?_; (focus simp only [go_sem, tr, tg, ref]); (focus simp only [go_sem, tr, tg, ref])
              simp only [go_sem, kpc, e1, e2]
              refine vCall_of (hS0) ?_ ?_ ?_; (focus simp only [go_sem]); (focus simp only [go_sem])
              simp only [go_sem]
          · have hok : (roundT m o b).ok = true := by simpa using hbad
            obtain ⟨r1, r2, r3⟩ := round_worth hm hr hc hok
            have hSa := Schema_pure m o.sch hm
            have okA := okSchO hm h2
            have hW := SWorth_pure (schM (treeOf m) o.sch).1 o okA
            have hV := SWorth_pure (schM (treeOf m) o.sch).1 (roundT m o b).o okA
            rw [r3] at hV
            have v2 : (schM (treeOf m) o.sch).2 = 0 := h2
            generalize worthM (schM (treeOf m) o.sch).1 o = y at *
            obtain ⟨wn, wc⟩ := y
            generalize roundT m o b = t at *
            obtain ⟨⟨qid, qsch, qtime, qcart, qkind, qitem, qat, qdelta, qhas, qtext, qdrops⟩, ok, c⟩ := t
            simp only at hok hcode r1 r2 hV
            subst hok hcode r1 r2
            have n1 : (wn == wn) = true := by simp
            have n2 : (wc == wc) = true := by simp
            have n3 : decide (o.id = o.id) = true := by simp
            have n4 : decide (o.sch = o.sch) = true := by simp
            rcases hpl with e1 | ⟨e1, e2⟩
            · refine PL.Pure.of_v Tryz.func8 (by decide) rfl Tryz.ntmps8 Tryz.results8 (by simp) rfl ?_
              simp only [go_sem, egs, opv, tg]
              refine vCall_of (awake22_pure) ?_ ?_ ?_; (focus simp only [go_sem]); (focus simp only [go_sem])
              simp only [go_sem]
              refine vCall_of (hH) ?_ ?_ ?_; (focus simp only [go_sem, egs]); (focus simp only [go_sem, egs])
              simp only [go_sem]
              refine vCall_of (hJ) ?_ ?_ ?_; (focus simp only [go_sem, opv]); (focus simp only [go_sem, opv])
              simp only [go_sem]
              refine vCall_of (hG) ?_ ?_ ?_; (focus simp only [go_sem, egs]); (focus simp only [go_sem, egs])
              simp only [go_sem, grv]
              refine vCall_of (hT) ?_ ?_ ?_; (focus simp only [go_sem, tr, tg, opv]); (focus simp only [go_sem, tr, tg, opv])
              simp only [go_sem, seenv, opv, egs, tg]
              refine vCall_of (hK) ?_ ?_ ?_; (focus simp only [go_sem, egs, tg, opv]); (focus simp only [go_sem, egs, tg, opv])
              simp only [go_sem, tr, tg, ref]
              refine vCall_of (hP) ?_ ?_ ?_; (focus simp only [go_sem, tr, tg, ref]); (focus simp only [go_sem, tr, tg, ref])
              simp only [go_sem, kpc, e1]
              refine vCall_of (hSa) ?_ ?_ ?_; (focus simp only [go_sem, tr, tg]); (focus simp only [go_sem, tr, tg])
              simp only [go_sem, fldsc, flds]
              refine vCall_of (hW) ?_ ?_ ?_; (focus simp only [go_sem, flds, opv]); (focus simp only [go_sem, flds, opv])
              simp only [go_sem, intc]
              refine vCall_of (hV) ?_ ?_ ?_; (focus simp only [go_sem, flds, opv]); (focus simp only [go_sem, flds, opv])
              simp only [go_sem, intc, tg_fold, n1, n2, n3, n4]
            · refine PL.Pure.of_v Tryz.func8 (by decide) rfl Tryz.ntmps8 Tryz.results8 (by simp) rfl ?_
              simp only [go_sem, egs, opv, tg]
              refine vCall_of (awake22_pure) ?_ ?_ ?_; (focus simp only [go_sem]); (focus simp only [go_sem])
              simp only [go_sem]
              refine vCall_of (hH) ?_ ?_ ?_; (focus simp only [go_sem, egs]); (focus simp only [go_sem, egs])
              simp only [go_sem]
              refine vCall_of (hJ) ?_ ?_ ?_; (focus simp only [go_sem, opv]); (focus simp only [go_sem, opv])
              simp only [go_sem]
              refine vCall_of (hG) ?_ ?_ ?_; (focus simp only [go_sem, egs]); (focus simp only [go_sem, egs])
              simp only [go_sem, grv]
              refine vCall_of (hT) ?_ ?_ ?_; (focus simp only [go_sem, tr, tg, opv]); (focus simp only [go_sem, tr, tg, opv])
              simp only [go_sem, seenv, opv, egs, tg]
              refine vCall_of (hK) ?_ ?_ ?_; (focus simp only [go_sem, egs, tg, opv]); (focus simp only [go_sem, egs, tg, opv])
              simp only [go_sem, tr, tg, ref]
              refine vCall_of (hP) ?_ ?_ ?_; (focus simp only [go_sem, tr, tg, ref]); (focus simp only [go_sem, tr, tg, ref])
              simp only [go_sem, kpc, e1, e2]
              refine vCall_of (hSa) ?_ ?_ ?_; (focus simp only [go_sem, tr, tg]); (focus simp only [go_sem, tr, tg])
              simp only [go_sem, fldsc, flds]
              refine vCall_of (hW) ?_ ?_ ?_; (focus simp only [go_sem, flds, opv]); (focus simp only [go_sem, flds, opv])
              simp only [go_sem, intc]
              refine vCall_of (hV) ?_ ?_ ?_; (focus simp only [go_sem, flds, opv]); (focus simp only [go_sem, flds, opv])
              simp only [go_sem, intc, tg_fold, n1, n2, n3, n4]
      · obtain ⟨z1, z2⟩ := round_false (m := m) (o := o) (b := b) (.inl (by rw [hcode]; exact hc))
        generalize checkO m o b = cc at *
        generalize roundT m o b = t at *
        obtain ⟨q, ok, c⟩ := t
        simp only at z1 z2 hcode
        subst z1 z2 hcode
        have n1 : (c != c) = false := by simp
        have n2 : (c != 0) = true := by simpa using hc
        refine PL.Pure.of_v Tryz.func8 (by decide) rfl Tryz.ntmps8 Tryz.results8 (by simp) rfl ?_
        simp only [go_sem, egs, opv, tg]
        refine vCall_of (awake22_pure) ?_ ?_ ?_; (focus simp only [go_sem]); (focus simp only [go_sem])
        simp only [go_sem]
        refine vCall_of (hH) ?_ ?_ ?_; (focus simp only [go_sem, egs]); (focus simp only [go_sem, egs])
        simp only [go_sem]
        refine vCall_of (hJ) ?_ ?_ ?_; (focus simp only [go_sem, opv]); (focus simp only [go_sem, opv])
        simp only [go_sem]
        refine vCall_of (hG) ?_ ?_ ?_; (focus simp only [go_sem, egs]); (focus simp only [go_sem, egs])
        simp only [go_sem, grv]
        refine vCall_of (hT) ?_ ?_ ?_; (focus simp only [go_sem, tr, tg, opv]); (focus simp only [go_sem, tr, tg, opv])
        simp only [go_sem, seenv, opv_default, egs, tg]
        refine vCall_of (hK) ?_ ?_ ?_; (focus simp only [go_sem, egs, tg, opv]); (focus simp only [go_sem, egs, tg, opv])
        simp only [go_sem, n1, n2]
        refine vCall_of (hS0) ?_ ?_ ?_; (focus simp only [go_sem]); (focus simp only [go_sem])
        simp only [go_sem]
    · rw [hj] at hJ
      refine PL.Pure.of_v Tryz.func8 (by decide) rfl Tryz.ntmps8 Tryz.results8 (by simp) rfl ?_
      simp only [go_sem, egs, opv, tg]
      refine vCall_of (awake22_pure) ?_ ?_ ?_; (focus simp only [go_sem]); (focus simp only [go_sem])
      simp only [go_sem]
      refine vCall_of (hH) ?_ ?_ ?_; (focus simp only [go_sem, egs]); (focus simp only [go_sem, egs])
      simp only [go_sem]
      refine vCall_of (hJ) ?_ ?_ ?_; (focus simp only [go_sem, opv]); (focus simp only [go_sem, opv])
      simp only [go_sem]
  · rw [hh] at hH
    refine PL.Pure.of_v Tryz.func8 (by decide) rfl Tryz.ntmps8 Tryz.results8 (by simp) rfl ?_
    simp only [go_sem, egs, opv, tg]
    refine vCall_of (awake22_pure) ?_ ?_ ?_; (focus simp only [go_sem]); (focus simp only [go_sem])
    simp only [go_sem]
    refine vCall_of (hH) ?_ ?_ ?_; (focus simp only [go_sem, egs]); (focus simp only [go_sem, egs])
    simp only [go_sem]
set_option maxRecDepth 20000 in
set_option maxHeartbeats 32000000 in
theorem TransTo_pure (l : List Eg) (o : Opn) (b : Tg) (hl : l.length ≤ maxLen) (hx : ∀ e ∈ l, LenLn e.ln) : PL.Pure Tryz.prog 5 [egs l, opv o, tg b] (.bool true) := by
  have hH := RHeavyE_pure l 50 hl hx
  have hJ := RHeavyO_pure o
  cases hh : heavyE l 50
  · rw [hh] at hH
    cases hj : heavyO o
    · rw [hj] at hJ
      have oko := OkOfHeavy o hj
      obtain ⟨o1, o2⟩ := okL hh
      have hG := Grown_pure l (by omega) o2
      have hm : OkM (grownM l) := okGrown _ okM_nil o2
      have hr : RightM (grownM l) := rightGrown _ right_nil
      generalize grownM l = m at *
      have hT := TrTo_pure m o b hm hr oko
      have hU := RTrTo_pure m o b hm hr
      have hD := TrRead_pure m o hm oko
      have hE := RRead_pure m o hm
      have hP := TrParked_pure m o oko
      have hQ := RParked_pure m o hm
      have okt := to_okO (m := m) (b := b) oko
      have hS := ROSame_pure (toT m o b).o (toT m o b).o okt.len okt.len
      rw [decide_eq_true rfl] at hS
      have hS0 := ROSame_pure default default def_ok.len def_ok.len
      rw [decide_eq_true rfl, opv_default] at hS0
      have hX := TrTo_nil o b
      have hY := TrRead_nil o
      have hZ := TrParked_nil o
      generalize toT m o b = t at *
      obtain ⟨q, ok, c⟩ := t
      simp only at hS
      generalize readO m o = rd at *
      generalize parkedM m o = pk at *
      have n1 : (ok != ok) = false := by simp
      have n2 : (c != c) = false := by simp
      have n3 : (rd != rd) = false := by simp
      have n4 : (pk != pk) = false := by simp
      refine PL.Pure.of_v Tryz.func5 (by decide) rfl Tryz.ntmps5 Tryz.results5 (by simp) rfl ?_
      simp only [go_sem, egs, opv, tg]
      refine vCall_of (awake22_pure) ?_ ?_ ?_; (focus simp only [go_sem]); (focus simp only [go_sem])
      simp only [go_sem]
      refine vCall_of (hH) ?_ ?_ ?_; (focus simp only [go_sem, egs]); (focus simp only [go_sem, egs])
      simp only [go_sem]
      refine vCall_of (hJ) ?_ ?_ ?_; (focus simp only [go_sem, opv]); (focus simp only [go_sem, opv])
      simp only [go_sem]
      refine vCall_of (hG) ?_ ?_ ?_; (focus simp only [go_sem, egs]); (focus simp only [go_sem, egs])
      simp only [go_sem, grv]
      refine vCall_of (hT) ?_ ?_ ?_; (focus simp only [go_sem, tr, tg, opv]); (focus simp only [go_sem, tr, tg, opv])
      simp only [go_sem, seenv, opv, egs, tg]
      refine vCall_of (hU) ?_ ?_ ?_; (focus simp only [go_sem, egs, tg, opv]); (focus simp only [go_sem, egs, tg, opv])
      simp only [go_sem, seenv, opv]
      refine vDrawQ (by kernel_rfl) (by kernel_rfl) ?_
      simp only [go_sem, n1, n2]
      refine vCall_of (hS) ?_ ?_ ?_; (focus simp only [go_sem, opv]); (focus simp only [go_sem, opv])
      simp only [go_sem, tr]
      refine vCall_of (hD) ?_ ?_ ?_; (focus simp only [go_sem, tr, opv]); (focus simp only [go_sem, tr, opv])
      simp only [go_sem, egs]
      refine vCall_of (hE) ?_ ?_ ?_; (focus simp only [go_sem, egs, opv]); (focus simp only [go_sem, egs, opv])
      simp only [go_sem, n3, tr]
      refine vCall_of (hP) ?_ ?_ ?_; (focus simp only [go_sem, tr, opv]); (focus simp only [go_sem, tr, opv])
      simp only [go_sem, egs]
      refine vCall_of (hQ) ?_ ?_ ?_; (focus simp only [go_sem, egs, opv]); (focus simp only [go_sem, egs, opv])
      simp only [go_sem, n4]
      refine vCall_of (hX) ?_ ?_ ?_; (focus simp only [go_sem, opv, tg]); (focus simp only [go_sem, opv, tg])
      simp only [go_sem, seenv, opv_default]
      refine vCall_of (hS0) ?_ ?_ ?_; (focus simp only [go_sem]); (focus simp only [go_sem])
      simp only [go_sem]
      refine vCall_of (hY) ?_ ?_ ?_; (focus simp only [go_sem, opv]); (focus simp only [go_sem, opv])
      simp only [go_sem]
      refine vCall_of (hZ) ?_ ?_ ?_; (focus simp only [go_sem, opv]); (focus simp only [go_sem, opv])
      simp only [go_sem]
    · rw [hj] at hJ
      refine PL.Pure.of_v Tryz.func5 (by decide) rfl Tryz.ntmps5 Tryz.results5 (by simp) rfl ?_
      simp only [go_sem, egs, opv, tg]
      refine vCall_of (awake22_pure) ?_ ?_ ?_; (focus simp only [go_sem]); (focus simp only [go_sem])
      simp only [go_sem]
      refine vCall_of (hH) ?_ ?_ ?_; (focus simp only [go_sem, egs]); (focus simp only [go_sem, egs])
      simp only [go_sem]
      refine vCall_of (hJ) ?_ ?_ ?_; (focus simp only [go_sem, opv]); (focus simp only [go_sem, opv])
      simp only [go_sem]
  · rw [hh] at hH
    refine PL.Pure.of_v Tryz.func5 (by decide) rfl Tryz.ntmps5 Tryz.results5 (by simp) rfl ?_
    simp only [go_sem, egs, opv, tg]
    refine vCall_of (awake22_pure) ?_ ?_ ?_; (focus simp only [go_sem]); (focus simp only [go_sem])
    simp only [go_sem]
    refine vCall_of (hH) ?_ ?_ ?_; (focus simp only [go_sem, egs]); (focus simp only [go_sem, egs])
    simp only [go_sem]
end Go.Proofs.YtnadlkjmdimjkaaGreat

set_option linter.unusedSimpArgs false
set_option linter.unusedVariables false
set_option linter.unusedSimpArgs false
set_option linter.unusedVariables false
namespace Go.Proofs.YtnadlkjmdimjkaaGreat
open Go.PL
open Go.ChangeShapes Go.WideShapes Go.ChangeAt Go.RowKit
theorem Tryz.own : ownKnob Tryz.prog.godebug = Option.none := by kernel_rfl
theorem Tryz.laidOut : laidOutB Tryz.prog = true := by kernel_rfl
theorem Tryz.lays : layAll Tryz.prog = true := by kernel_rfl
theorem oddStrs : oddB Tryz.prog 40 = false := by kernel_rfl
theorem oddPrs : oddB Tryz.prog 85 = false := by kernel_rfl
theorem oddEgs : oddB Tryz.prog 22 = false := by kernel_rfl
structure LenLn' (x : Ln) : Prop where
  c : x.fd.cases'.length ≤ maxLen
  f : x.fo.length ≤ maxLen
  b : x.ba.length ≤ maxLen
theorem pt_strs {cs : List PV} (h : PT Tryz.prog 40 cs) : ∃ l : List Str, cs = [.sl .no (l.map .str)] ∧ l.length ≤ maxLen := by
  obtain ⟨l, rfl, h1, h2⟩ := h.slice_inv oddStrs Tryz.underlying40
  obtain ⟨xs, rfl, _⟩ := all_told (enc := PV.str) (Q := fun _ => True) (fun p hp => by
    obtain ⟨s, rfl, _⟩ := (h2 p hp).string Tryz.underlying9
    exact ⟨s, rfl, trivial⟩)
  exact ⟨xs, rfl, by simpa using h1⟩
theorem pt_tag {cs : List PV} (h : PT Tryz.prog 24 cs) : ∃ r : Tg, cs = [.int .i64 r.r, .int .i64 r.n] := by
  have h1 : PTs Tryz.prog [3, 3] cs := h.struct_inv Tryz.underlying24
  obtain ⟨a, b, rfl, h2, h3⟩ := h1.cons_inv
  obtain ⟨c, d, rfl, h4, h5⟩ := h3.cons_inv
  obtain ⟨x, rfl, _⟩ := h2.int_inv Tryz.underlying3
  obtain ⟨y, rfl, _⟩ := h4.int_inv Tryz.underlying3
  rw [h5.nil_inv]
  exact ⟨⟨x, y⟩, rfl⟩
theorem pt_ref {cs : List PV} (h : PT Tryz.prog 44 cs) : ∃ r : Rf, cs = [.int .i64 r.sc, .str r.gr, .str r.nm] := by
  have h1 : PTs Tryz.prog [3, 9, 9] cs := h.struct_inv Tryz.underlying44
  obtain ⟨a, b, rfl, h2, h3⟩ := h1.cons_inv
  obtain ⟨c, d, rfl, h4, h5⟩ := h3.cons_inv
  obtain ⟨e, f, rfl, h6, h7⟩ := h5.cons_inv
  obtain ⟨x, rfl, _⟩ := h2.int_inv Tryz.underlying3
  obtain ⟨y, rfl, _⟩ := h4.string_inv Tryz.underlying9
  obtain ⟨z, rfl, _⟩ := h6.string_inv Tryz.underlying9
  rw [h7.nil_inv]
  exact ⟨⟨x, y, z⟩, rfl⟩
theorem pt_fld {cs : List PV} (h : PT Tryz.prog 84 cs) : ∃ f : Fd, cs = [.int .i64 f.at'.sc, .str f.at'.gr, .str f.at'.nm, .int .i64 f.kind, .str f.df, .sl .no (f.cases'.map .str), .int .i64 f.worth] ∧ f.cases'.length ≤ maxLen := by
  have h1 : PTs Tryz.prog [44, 3, 9, 40, 2] cs := h.struct_inv Tryz.underlying84
  obtain ⟨a1, b1, rfl, h2, h3⟩ := h1.cons_inv
  obtain ⟨a2, b2, rfl, h4, h5⟩ := h3.cons_inv
  obtain ⟨a3, b3, rfl, h6, h7⟩ := h5.cons_inv
  obtain ⟨a4, b4, rfl, h8, h9⟩ := h7.cons_inv
  obtain ⟨a5, b5, rfl, h10, h11⟩ := h9.cons_inv
  obtain ⟨r, rfl⟩ := pt_ref h2
  obtain ⟨x, rfl, _⟩ := h4.int_inv Tryz.underlying3
  obtain ⟨y, rfl, _⟩ := h6.string_inv Tryz.underlying9
  obtain ⟨l, rfl, hl⟩ := pt_strs h8
  obtain ⟨z, rfl, _⟩ := h10.int_inv Tryz.underlying2
  rw [h11.nil_inv]
  exact ⟨⟨r, x, y, l, z⟩, rfl, hl⟩
theorem pa_pair {p : PV} (h : PA Tryz.prog 219 p) : ∃ e : Pr, p = pr e := by
  obtain ⟨cs, rfl, h1⟩ := PA.agg tagg_219 h
  have h1 : PTs Tryz.prog [9, 9] cs := h1.struct_inv Tryz.underlying219
  obtain ⟨a, b, rfl, h2, h3⟩ := h1.cons_inv
  obtain ⟨c, d, rfl, h4, h5⟩ := h3.cons_inv
  obtain ⟨x, rfl, _⟩ := h2.string_inv Tryz.underlying9
  obtain ⟨y, rfl, _⟩ := h4.string_inv Tryz.underlying9
  rw [h5.nil_inv]
  exact ⟨⟨x, y⟩, rfl⟩
theorem pt_prs {cs : List PV} (h : PT Tryz.prog 85 cs) : ∃ l : List Pr, cs = [.sl .no (l.map pr)] ∧ l.length ≤ maxLen := by
  obtain ⟨l, rfl, h1, h2⟩ := h.slice_inv oddPrs Tryz.underlying85
  obtain ⟨xs, rfl, _⟩ := all_told (enc := pr) (Q := fun _ => True) (fun p hp => by
    obtain ⟨s, rfl⟩ := pa_pair (h2 p hp)
    exact ⟨s, rfl, trivial⟩)
  exact ⟨xs, rfl, by simpa using h1⟩
def lncellsG (x : Ln) : List PV := [.int .i64 x.kind, .int .i64 x.at'.sc, .str x.at'.gr, .str x.at'.nm, .str x.nm, .str x.ot, .int .i64 x.fac, .int .i64 x.fd.at'.sc, .str x.fd.at'.gr, .str x.fd.at'.nm, .int .i64 x.fd.kind, .str x.fd.df, .sl .no (x.fd.cases'.map .str), .int .i64 x.fd.worth, .sl .no (x.fo.map pr), .sl .no (x.ba.map pr)]
theorem pt_lens {cs : List PV} (h : PT Tryz.prog 87 cs) : ∃ x : Ln, cs = lncellsG x ∧ LenLn' x := by
  have h1 : PTs Tryz.prog [3, 44, 9, 9, 2, 84, 85, 85] cs := h.struct_inv Tryz.underlying87
  obtain ⟨a1, b1, rfl, h2, h3⟩ := h1.cons_inv
  obtain ⟨a2, b2, rfl, h4, h5⟩ := h3.cons_inv
  obtain ⟨a3, b3, rfl, h6, h7⟩ := h5.cons_inv
  obtain ⟨a4, b4, rfl, h8, h9⟩ := h7.cons_inv
  obtain ⟨a5, b5, rfl, h10, h11⟩ := h9.cons_inv
  obtain ⟨a6, b6, rfl, h12, h13⟩ := h11.cons_inv
  obtain ⟨a7, b7, rfl, h14, h15⟩ := h13.cons_inv
  obtain ⟨a8, b8, rfl, h16, h17⟩ := h15.cons_inv
  obtain ⟨x1, rfl, _⟩ := h2.int_inv Tryz.underlying3
  obtain ⟨x2, rfl⟩ := pt_ref h4
  obtain ⟨x3, rfl, _⟩ := h6.string_inv Tryz.underlying9
  obtain ⟨x4, rfl, _⟩ := h8.string_inv Tryz.underlying9
  obtain ⟨x5, rfl, _⟩ := h10.int_inv Tryz.underlying2
  obtain ⟨x6, rfl, k6⟩ := pt_fld h12
  obtain ⟨x7, rfl, k7⟩ := pt_prs h14
  obtain ⟨x8, rfl, k8⟩ := pt_prs h16
  rw [h17.nil_inv]
  exact ⟨⟨x1, x2, x3, x4, x5, x6, x7, x8⟩, rfl, ⟨k6, k7, k8⟩⟩
theorem pa_edge {p : PV} (h : PA Tryz.prog 89 p) : ∃ e : Eg, p = eg e ∧ LenLn' e.ln := by
  obtain ⟨cs, rfl, h1⟩ := PA.agg tagg_89 h
  have h1 : PTs Tryz.prog [24, 24, 87] cs := h1.struct_inv Tryz.underlying89
  obtain ⟨a1, b1, rfl, h2, h3⟩ := h1.cons_inv
  obtain ⟨a2, b2, rfl, h4, h5⟩ := h3.cons_inv
  obtain ⟨a3, b3, rfl, h6, h7⟩ := h5.cons_inv
  obtain ⟨x1, rfl⟩ := pt_tag h2
  obtain ⟨x2, rfl⟩ := pt_tag h4
  obtain ⟨x3, rfl, k3⟩ := pt_lens h6
  rw [h7.nil_inv]
  exact ⟨⟨x1, x2, x3⟩, rfl, k3⟩
theorem pa_edges {p : PV} (h : PA Tryz.prog 22 p) : ∃ l : List Eg, p = egs l ∧ l.length ≤ maxLen ∧ ∀ e ∈ l, LenLn' e.ln := by
  obtain ⟨l, rfl, h1, h2⟩ := h.slice oddEgs Tryz.underlying22
  obtain ⟨xs, rfl, h3⟩ := all_told (fun p hp => pa_edge (h2 p hp))
  exact ⟨xs, rfl, by simpa using h1, h3⟩
theorem pa_tag {p : PV} (h : PA Tryz.prog 24 p) : ∃ t : Tg, p = tg t := by
  obtain ⟨cs, rfl, h1⟩ := PA.agg tagg_24 h
  obtain ⟨r, rfl⟩ := pt_tag h1
  exact ⟨r, rfl⟩
end Go.Proofs.YtnadlkjmdimjkaaGreat

set_option linter.unusedSimpArgs false
set_option linter.unusedVariables false
set_option linter.unusedSimpArgs false
set_option linter.unusedVariables false
namespace Go.Proofs.YtnadlkjmdimjkaaGreat
open Go.PL
open Go.ChangeShapes Go.WideShapes Go.ChangeAt Go.RowKit
theorem oddTgs : oddB Tryz.prog 45 = false := by kernel_rfl
theorem pt_tgs {cs : List PV} (h : PT Tryz.prog 45 cs) : ∃ l : List Tg, cs = [.sl .no (l.map tg)] ∧ l.length ≤ maxLen := by
  obtain ⟨l, rfl, h1, h2⟩ := h.slice_inv oddTgs Tryz.underlying45
  obtain ⟨xs, rfl, _⟩ := all_told (enc := tg) (Q := fun _ => True) (fun p hp => by
    obtain ⟨s, rfl⟩ := pa_tag (h2 p hp)
    exact ⟨s, rfl, trivial⟩)
  exact ⟨xs, rfl, by simpa using h1⟩
theorem pa_op {p : PV} (h : PA Tryz.prog 47 p) : ∃ o : Opn, p = opv o ∧ o.drops.length ≤ maxLen := by
  obtain ⟨cs, rfl, h1⟩ := PA.agg tagg_47 h
  have h1 : PTs Tryz.prog [24, 24, 2, 9, 3, 9, 44, 2, 4, 9, 45] cs := h1.struct_inv Tryz.underlying47
  obtain ⟨a1, b1, rfl, h2, h3⟩ := h1.cons_inv
  obtain ⟨a2, b2, rfl, h4, h5⟩ := h3.cons_inv
  obtain ⟨a3, b3, rfl, h6, h7⟩ := h5.cons_inv
  obtain ⟨a4, b4, rfl, h8, h9⟩ := h7.cons_inv
  obtain ⟨a5, b5, rfl, h10, h11⟩ := h9.cons_inv
  obtain ⟨a6, b6, rfl, h12, h13⟩ := h11.cons_inv
  obtain ⟨a7, b7, rfl, h14, h15⟩ := h13.cons_inv
  obtain ⟨a8, b8, rfl, h16, h17⟩ := h15.cons_inv
  obtain ⟨a9, b9, rfl, h18, h19⟩ := h17.cons_inv
  obtain ⟨aa, ba, rfl, h20, h21⟩ := h19.cons_inv
  obtain ⟨ab, bb, rfl, h22, h23⟩ := h21.cons_inv
  obtain ⟨x1, rfl⟩ := pt_tag h2
  obtain ⟨x2, rfl⟩ := pt_tag h4
  obtain ⟨x3, rfl, _⟩ := h6.int_inv Tryz.underlying2
  obtain ⟨x4, rfl, _⟩ := h8.string_inv Tryz.underlying9
  obtain ⟨x5, rfl, _⟩ := h10.int_inv Tryz.underlying3
  obtain ⟨x6, rfl, _⟩ := h12.string_inv Tryz.underlying9
  obtain ⟨x7, rfl⟩ := pt_ref h14
  obtain ⟨x8, rfl, _⟩ := h16.int_inv Tryz.underlying2
  obtain ⟨x9, rfl⟩ := h18.bool_inv Tryz.underlying4
  obtain ⟨xa, rfl, _⟩ := h20.string_inv Tryz.underlying9
  obtain ⟨xb, rfl, kb⟩ := pt_tgs h22
  rw [h23.nil_inv]
  exact ⟨⟨x1, x2, x3, x4, x5, x6, x7, x8, x9, xa, xb⟩, rfl, kb⟩
end Go.Proofs.YtnadlkjmdimjkaaGreat
