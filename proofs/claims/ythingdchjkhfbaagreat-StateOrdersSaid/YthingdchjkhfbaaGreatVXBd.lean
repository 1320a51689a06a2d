/- Contracts of functions and laws of this seat, each for every input that it names: lemmas of the proof. -/
import Derived.Test.YthingdchjkhfbaaGreatVXBc
set_option linter.unusedSimpArgs false
set_option linter.unusedVariables false
set_option linter.unusedSimpArgs false
set_option linter.unusedVariables false
namespace Go.Proofs.YthingdchjkhfbaaGreat
open Go.PL
def itemB (o : Opn) : Bool := (o.kind == 1) || ((o.kind == 2) || (placedB o && (o.at'.sc == 1)))
def rightO (o : Opn) : Bool :=
 !(!(opParts o).2 || !decide (o = (opParts o).1)) && (!(!tagB o.id || (!decide (o.sch = default) && !tagB o.sch)) && (!((decide (o.time < 1) || decide (1099511627776 < o.time)) || !nameB o.cart)
  && (!(placedB o && !placeB o.at') && (!(itemB o && !nameB o.item) && (!(decide (o.delta < -1048576) || decide (1048576 < o.delta)) && (decide ((o.text.length : Int) ≤ 40) && dropsB o))))))
theorem okOParts {o : Opn} (h : o.drops.length ≤ maxLen) : (opParts o).1.drops.length ≤ maxLen := by
 unfold opParts
 repeat' split
 all_goals first | exact h | exact Nat.zero_le _
theorem tgd_fold (a : Tg) : (a.r == 0 && a.n == 0) = decide (a = default) := tg_fold a default
set_option maxRecDepth 20000 in
set_option maxHeartbeats 16000000 in
theorem ORight_pure (o : Opn) (ho : o.drops.length ≤ maxLen) : PL.Pure Tryz.prog 39 [opv o] (.bool (rightO o)) := by
 have hP := opParts_pure o
 have hS := OSame_pure o (opParts o).1 ho (okOParts ho)
 have hT := Tag_pure o.id
 have hU := Tag_pure o.sch
 have hC := Name_pure o.cart
 have hL := placed_pure o
 have hA := Place_pure o.at'
 have hI := Name_pure o.item
 have hX := Text_pure o.text
 have hD := rightDrops_pure o
 unfold rightO itemB
 generalize opParts o = y at *
 generalize dropsB o = db at *
 generalize placedB o = pb at *
 generalize nameB o.item = ni at *
 generalize nameB o.cart = nc at *
 generalize placeB o.at' = pa at *
 generalize tagB o.id = ti at *
 generalize tagB o.sch = ts at *
 obtain ⟨y, b⟩ := y
 refine PL.Pure.of_v Tryz.func39 (by decide) rfl Tryz.ntmps39 Tryz.results39 (by simp) rfl ?_
 simp only [go_sem, opv, tgd_fold]
 repeat' (first | (refine vGuard_t (fun h => ?_) (fun h => ?_) <;> (try simp only [go_sem, h, opb, opv, tgd_fold])) | (refine vGuard_f (fun h => ?_) (fun h => ?_) <;> (try simp only [go_sem, h, opb, opv, tgd_fold])) | (refine vCond_b (fun h => ?_) (fun h => ?_) <;> (try simp only [go_sem, h, opb, opv, tgd_fold])) | ((refine vCall_of (hP) ?_ ?_ ?_); (focus simp only [go_sem, opv, tg, ref]); (focus exact rfl); (try simp only [go_sem, opb, opv, tgd_fold])) | ((refine vCall_of (hS) ?_ ?_ ?_); (focus simp only [go_sem, opv, tg, ref]); (focus exact rfl); (try simp only [go_sem, opb, opv, tgd_fold])) | ((refine vCall_of (hT) ?_ ?_ ?_); (focus simp only [go_sem, opv, tg, ref]); (focus exact rfl); (try simp only [go_sem, opb, opv, tgd_fold])) | ((refine vCall_of (hU) ?_ ?_ ?_); (focus simp only [go_sem, opv, tg, ref]); (focus exact rfl); (try simp only [go_sem, opb, opv, tgd_fold])) | ((refine vCall_of (hC) ?_ ?_ ?_); (focus simp only [go_sem, opv, tg, ref]); (focus exact rfl); (try simp only [go_sem, opb, opv, tgd_fold])) | ((refine vCall_of (hL) ?_ ?_ ?_); (focus simp only [go_sem, opv, tg, ref]); (focus exact rfl); (try simp only [go_sem, opb, opv, tgd_fold])) | ((refine vCall_of (hA) ?_ ?_ ?_); (focus simp only [go_sem, opv, tg, ref]); (focus exact rfl); (try simp only [go_sem, opb, opv, tgd_fold])) | ((refine vCall_of (hI) ?_ ?_ ?_); (focus simp only [go_sem, opv, tg, ref]); (focus exact rfl); (try simp only [go_sem, opb, opv, tgd_fold])) | ((refine vCall_of (hX) ?_ ?_ ?_); (focus simp only [go_sem, opv, tg, ref]); (focus exact rfl); (try simp only [go_sem, opb, opv, tgd_fold])) | ((refine vCall_of (hD) ?_ ?_ ?_); (focus simp only [go_sem, opv, tg, ref]); (focus exact rfl); (try simp only [go_sem, opb, opv, tgd_fold])) | ((refine vDrawQ (by kernel_rfl) (by kernel_rfl) ?_); (try simp only [go_sem, opb, opv, tgd_fold])))
 all_goals clear hP hS hT hU hC hL hA hI hX hD ho
 all_goals (first
  | (simp only [*, Bool.not_true, Bool.not_false, Bool.and_true, Bool.true_and, Bool.and_false, Bool.false_and, Bool.or_true, Bool.true_or, Bool.or_false, Bool.false_or, Bool.not_not]; done)
  | (simp_all; done))
end Go.Proofs.YthingdchjkhfbaaGreat
