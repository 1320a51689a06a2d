/- Contracts of functions and laws of this seat, each for every input that it names: lemmas of the proof. -/
import Derived.Test.YtbojhapdidieoaaGreatXCc
import Derived.Test.YtbojhapdidieoaaGreatXBr
import Derived.Test.YtbojhapdidieoaaGreatXAp
import Derived.Test.YtbojhapdidieoaaGreatRows
import Derived.ProofKit
set_option linter.unusedSimpArgs false
set_option linter.unusedVariables false
set_option linter.unusedSimpArgs false
set_option linter.unusedVariables false
namespace Go.Proofs.YtbojhapdidieoaaGreat
open Go.PL
theorem up_small {m : List Eg} {a : Tg} (hm : OkM m) : (upM m a).1.length ≤ 50 := by
  unfold upM
  split
  · simp
  · rename_i h
    have hc : upC m a = 0 := by simpa using h
    obtain ⟨w, _, _⟩ := live_way hc
    have := w.len; have := hm.n
    simp only [upL_len]; omega
theorem stops_small {m : List Eg} {a b : Tg} (hm : OkM m) : (stopsM m a b).1.length ≤ 100 := by
  unfold stopsM
  split
  · simp
  · rename_i h
    have hc : pathC m a b = 0 := by simpa using h
    obtain ⟨ca, cb⟩ := pathC_zero.1 hc
    obtain ⟨wa, _, _⟩ := live_way ca
    obtain ⟨wb, _, _⟩ := live_way cb
    have := wa.len; have := wb.len; have := hm.n
    simp only [stops_len]; omega
set_option maxRecDepth 20000 in
set_option maxHeartbeats 16000000 in
theorem PathWays_pure (l : List Eg) (a b : Tg) (hl : l.length ≤ maxLen) (hx : ∀ e ∈ l, LenLn e.ln) : PL.Pure Tryz.prog 3 [egs l, tg a, tg b] (.bool true) := by
  have hH := RHeavyE_pure l 50 hl hx
  cases hh : heavyE l 50
  · rw [hh] at hH
    obtain ⟨o1, o2⟩ := okL hh
    have hG := Grown_pure l (by omega) o2
    have hm : OkM (grownM l) := okGrown _ okM_nil o2
    have hr : RightM (grownM l) := rightGrown _ right_nil
    generalize grownM l = m at *
    have u1 := Up_pure m a hm
    have u2 := RUp_pure m a hm
    have lu := up_small (a := a) hm
    have m1 := Meet_pure m a b hm
    have m2 := RMeet_pure m a b hm
    have p1 := Path_pure m a b hm
    have p2 := RPath_pure m a b hm
    have lp := legs_len m a b hm
    have s1 := Stops_pure m a b hm
    have s2 := RStops_pure m a b hm
    have ls := stops_small (a := a) (b := b) hm
    have r1 := Row_pure m a b hm hr
    have r2 := RRow_pure m a b hm hr
    obtain ⟨lr, or⟩ := row_ok (a := a) (b := b) hm
    generalize upM m a = u at *
    generalize meetM m a b = e at *
    generalize pathM m a b = p at *
    generalize stopsM m a b = s at *
    generalize rowM m a b = r at *
    obtain ⟨u, uc⟩ := u
    obtain ⟨e, ec⟩ := e
    obtain ⟨p, pc⟩ := p
    obtain ⟨s, sc⟩ := s
    obtain ⟨r, rc⟩ := r
    simp only at lu lp ls lr or
    have qu := REqTg_pure u u (by rw [maxLen_eq]; omega) (by rw [maxLen_eq]; omega)
    have qs := REqTg_pure s s (by rw [maxLen_eq]; omega) (by rw [maxLen_eq]; omega)
    have qp := REqLg_pure p p (by rw [maxLen_eq]; omega) (by rw [maxLen_eq]; omega)
    have qr := RRowSame_pure r r (by rw [maxLen_eq]; omega) or or
    rw [decide_eq_true rfl] at qu qs qp qr
    have n1 : (uc != uc) = false := by simp
    have n2 : (ec != ec) = false := by simp
    have n3 : decide (e = e) = true := by simp
    have n4 : (pc == pc) = true := by simp
    have n5 : (sc == sc) = true := by simp
    have n6 : (rc == rc) = true := by simp
    refine PL.Pure.of_v Tryz.func3 (by decide) rfl Tryz.ntmps3 Tryz.results3 (by simp) rfl ?_
    simp only [go_sem, reduceIte, Nat.reduceEqDiff, reduceCtorEq, Nat.reduceLT, Nat.reduceAdd, Nat.reduceSub, Nat.reduceMul, Nat.reduceLeDiff, Int.reduceLT, Int.reduceLE, Int.reduceToNat, Int.reduceEq, Int.reduceAdd, Int.reduceSub, Int.reduceNeg, Int.reduceBNe, Int.reduceBEq, egs, tg]
    refine vCall_of (awake18_pure) ?_ ?_ ?_; (focus simp only [go_sem, reduceIte, Nat.reduceEqDiff, reduceCtorEq]); (focus simp only [go_sem, reduceIte, Nat.reduceEqDiff, reduceCtorEq])
    simp only [go_sem, reduceIte, Nat.reduceEqDiff, reduceCtorEq, Nat.reduceLT, Nat.reduceAdd, Nat.reduceSub, Nat.reduceMul, Nat.reduceLeDiff, Int.reduceLT, Int.reduceLE, Int.reduceToNat, Int.reduceEq, Int.reduceAdd, Int.reduceSub, Int.reduceNeg, Int.reduceBNe, Int.reduceBEq]
    refine vCall_of (hH) ?_ ?_ ?_; (focus simp only [go_sem, reduceIte, Nat.reduceEqDiff, reduceCtorEq, egs]); (focus simp only [go_sem, reduceIte, Nat.reduceEqDiff, reduceCtorEq, egs])
    simp only [go_sem, reduceIte, Nat.reduceEqDiff, reduceCtorEq, Nat.reduceLT, Nat.reduceAdd, Nat.reduceSub, Nat.reduceMul, Nat.reduceLeDiff, Int.reduceLT, Int.reduceLE, Int.reduceToNat, Int.reduceEq, Int.reduceAdd, Int.reduceSub, Int.reduceNeg, Int.reduceBNe, Int.reduceBEq]
    refine vCall_of (hG) ?_ ?_ ?_; (focus simp only [go_sem, reduceIte, Nat.reduceEqDiff, reduceCtorEq, egs]); (focus simp only [go_sem, reduceIte, Nat.reduceEqDiff, reduceCtorEq, egs])
    simp only [go_sem, reduceIte, Nat.reduceEqDiff, reduceCtorEq, Nat.reduceLT, Nat.reduceAdd, Nat.reduceSub, Nat.reduceMul, Nat.reduceLeDiff, Int.reduceLT, Int.reduceLE, Int.reduceToNat, Int.reduceEq, Int.reduceAdd, Int.reduceSub, Int.reduceNeg, Int.reduceBNe, Int.reduceBEq, grv]
    refine vCall_of (u1) ?_ ?_ ?_; (focus simp only [go_sem, reduceIte, Nat.reduceEqDiff, reduceCtorEq, tr, tg]); (focus simp only [go_sem, reduceIte, Nat.reduceEqDiff, reduceCtorEq, tr, tg])
    simp only [go_sem, reduceIte, Nat.reduceEqDiff, reduceCtorEq, Nat.reduceLT, Nat.reduceAdd, Nat.reduceSub, Nat.reduceMul, Nat.reduceLeDiff, Int.reduceLT, Int.reduceLE, Int.reduceToNat, Int.reduceEq, Int.reduceAdd, Int.reduceSub, Int.reduceNeg, Int.reduceBNe, Int.reduceBEq, tgsc, egs]
    refine vCall_of (u2) ?_ ?_ ?_; (focus simp only [go_sem, reduceIte, Nat.reduceEqDiff, reduceCtorEq, egs, tg]); (focus simp only [go_sem, reduceIte, Nat.reduceEqDiff, reduceCtorEq, egs, tg])
    simp only [go_sem, reduceIte, Nat.reduceEqDiff, reduceCtorEq, Nat.reduceLT, Nat.reduceAdd, Nat.reduceSub, Nat.reduceMul, Nat.reduceLeDiff, Int.reduceLT, Int.reduceLE, Int.reduceToNat, Int.reduceEq, Int.reduceAdd, Int.reduceSub, Int.reduceNeg, Int.reduceBNe, Int.reduceBEq, tgsc]
    refine vCall_of (m1) ?_ ?_ ?_; (focus simp only [go_sem, reduceIte, Nat.reduceEqDiff, reduceCtorEq, tr, tg]); (focus simp only [go_sem, reduceIte, Nat.reduceEqDiff, reduceCtorEq, tr, tg])
    simp only [go_sem, reduceIte, Nat.reduceEqDiff, reduceCtorEq, Nat.reduceLT, Nat.reduceAdd, Nat.reduceSub, Nat.reduceMul, Nat.reduceLeDiff, Int.reduceLT, Int.reduceLE, Int.reduceToNat, Int.reduceEq, Int.reduceAdd, Int.reduceSub, Int.reduceNeg, Int.reduceBNe, Int.reduceBEq, tgc, tg, egs]
    refine vCall_of (m2) ?_ ?_ ?_; (focus simp only [go_sem, reduceIte, Nat.reduceEqDiff, reduceCtorEq, egs, tg]); (focus simp only [go_sem, reduceIte, Nat.reduceEqDiff, reduceCtorEq, egs, tg])
    simp only [go_sem, reduceIte, Nat.reduceEqDiff, reduceCtorEq, Nat.reduceLT, Nat.reduceAdd, Nat.reduceSub, Nat.reduceMul, Nat.reduceLeDiff, Int.reduceLT, Int.reduceLE, Int.reduceToNat, Int.reduceEq, Int.reduceAdd, Int.reduceSub, Int.reduceNeg, Int.reduceBNe, Int.reduceBEq, tgc, tg, n1, n2, tg_fold, n3, Bool.not_true]
    refine vCall_of (qu) ?_ ?_ ?_; (focus simp only [go_sem, reduceIte, Nat.reduceEqDiff, reduceCtorEq, tgs]); (focus simp only [go_sem, reduceIte, Nat.reduceEqDiff, reduceCtorEq, tgs])
    simp only [go_sem, reduceIte, Nat.reduceEqDiff, reduceCtorEq, Nat.reduceLT, Nat.reduceAdd, Nat.reduceSub, Nat.reduceMul, Nat.reduceLeDiff, Int.reduceLT, Int.reduceLE, Int.reduceToNat, Int.reduceEq, Int.reduceAdd, Int.reduceSub, Int.reduceNeg, Int.reduceBNe, Int.reduceBEq]
    refine vCall_of (p1) ?_ ?_ ?_; (focus simp only [go_sem, reduceIte, Nat.reduceEqDiff, reduceCtorEq, tr, tg]); (focus simp only [go_sem, reduceIte, Nat.reduceEqDiff, reduceCtorEq, tr, tg])
    simp only [go_sem, reduceIte, Nat.reduceEqDiff, reduceCtorEq, Nat.reduceLT, Nat.reduceAdd, Nat.reduceSub, Nat.reduceMul, Nat.reduceLeDiff, Int.reduceLT, Int.reduceLE, Int.reduceToNat, Int.reduceEq, Int.reduceAdd, Int.reduceSub, Int.reduceNeg, Int.reduceBNe, Int.reduceBEq, legsc, egs]
    refine vCall_of (p2) ?_ ?_ ?_; (focus simp only [go_sem, reduceIte, Nat.reduceEqDiff, reduceCtorEq, egs, tg]); (focus simp only [go_sem, reduceIte, Nat.reduceEqDiff, reduceCtorEq, egs, tg])
    simp only [go_sem, reduceIte, Nat.reduceEqDiff, reduceCtorEq, Nat.reduceLT, Nat.reduceAdd, Nat.reduceSub, Nat.reduceMul, Nat.reduceLeDiff, Int.reduceLT, Int.reduceLE, Int.reduceToNat, Int.reduceEq, Int.reduceAdd, Int.reduceSub, Int.reduceNeg, Int.reduceBNe, Int.reduceBEq, legsc]
    refine vCall_of (s1) ?_ ?_ ?_; (focus simp only [go_sem, reduceIte, Nat.reduceEqDiff, reduceCtorEq, tr, tg]); (focus simp only [go_sem, reduceIte, Nat.reduceEqDiff, reduceCtorEq, tr, tg])
    simp only [go_sem, reduceIte, Nat.reduceEqDiff, reduceCtorEq, Nat.reduceLT, Nat.reduceAdd, Nat.reduceSub, Nat.reduceMul, Nat.reduceLeDiff, Int.reduceLT, Int.reduceLE, Int.reduceToNat, Int.reduceEq, Int.reduceAdd, Int.reduceSub, Int.reduceNeg, Int.reduceBNe, Int.reduceBEq, tgsc, egs]
    refine vCall_of (s2) ?_ ?_ ?_; (focus simp only [go_sem, reduceIte, Nat.reduceEqDiff, reduceCtorEq, egs, tg]); (focus simp only [go_sem, reduceIte, Nat.reduceEqDiff, reduceCtorEq, egs, tg])
    simp only [go_sem, reduceIte, Nat.reduceEqDiff, reduceCtorEq, Nat.reduceLT, Nat.reduceAdd, Nat.reduceSub, Nat.reduceMul, Nat.reduceLeDiff, Int.reduceLT, Int.reduceLE, Int.reduceToNat, Int.reduceEq, Int.reduceAdd, Int.reduceSub, Int.reduceNeg, Int.reduceBNe, Int.reduceBEq, tgsc]
    refine vCall_of (r1) ?_ ?_ ?_; (focus simp only [go_sem, reduceIte, Nat.reduceEqDiff, reduceCtorEq, tr, tg]); (focus simp only [go_sem, reduceIte, Nat.reduceEqDiff, reduceCtorEq, tr, tg])
    simp only [go_sem, reduceIte, Nat.reduceEqDiff, reduceCtorEq, Nat.reduceLT, Nat.reduceAdd, Nat.reduceSub, Nat.reduceMul, Nat.reduceLeDiff, Int.reduceLT, Int.reduceLE, Int.reduceToNat, Int.reduceEq, Int.reduceAdd, Int.reduceSub, Int.reduceNeg, Int.reduceBNe, Int.reduceBEq, lnsc, egs]
    refine vCall_of (r2) ?_ ?_ ?_; (focus simp only [go_sem, reduceIte, Nat.reduceEqDiff, reduceCtorEq, egs, tg]); (focus simp only [go_sem, reduceIte, Nat.reduceEqDiff, reduceCtorEq, egs, tg])
    simp only [go_sem, reduceIte, Nat.reduceEqDiff, reduceCtorEq, Nat.reduceLT, Nat.reduceAdd, Nat.reduceSub, Nat.reduceMul, Nat.reduceLeDiff, Int.reduceLT, Int.reduceLE, Int.reduceToNat, Int.reduceEq, Int.reduceAdd, Int.reduceSub, Int.reduceNeg, Int.reduceBNe, Int.reduceBEq, lnsc, n4, n5, n6]
    refine vCall_of (qp) ?_ ?_ ?_; (focus simp only [go_sem, reduceIte, Nat.reduceEqDiff, reduceCtorEq, lgs]); (focus simp only [go_sem, reduceIte, Nat.reduceEqDiff, reduceCtorEq, lgs])
    simp only [go_sem, reduceIte, Nat.reduceEqDiff, reduceCtorEq, Nat.reduceLT, Nat.reduceAdd, Nat.reduceSub, Nat.reduceMul, Nat.reduceLeDiff, Int.reduceLT, Int.reduceLE, Int.reduceToNat, Int.reduceEq, Int.reduceAdd, Int.reduceSub, Int.reduceNeg, Int.reduceBNe, Int.reduceBEq]
    refine vCall_of (qs) ?_ ?_ ?_; (focus simp only [go_sem, reduceIte, Nat.reduceEqDiff, reduceCtorEq, tgs]); (focus simp only [go_sem, reduceIte, Nat.reduceEqDiff, reduceCtorEq, tgs])
    simp only [go_sem, reduceIte, Nat.reduceEqDiff, reduceCtorEq, Nat.reduceLT, Nat.reduceAdd, Nat.reduceSub, Nat.reduceMul, Nat.reduceLeDiff, Int.reduceLT, Int.reduceLE, Int.reduceToNat, Int.reduceEq, Int.reduceAdd, Int.reduceSub, Int.reduceNeg, Int.reduceBNe, Int.reduceBEq]
    refine vCall_of (qr) ?_ ?_ ?_; (focus simp only [go_sem, reduceIte, Nat.reduceEqDiff, reduceCtorEq, lnss]); (focus simp only [go_sem, reduceIte, Nat.reduceEqDiff, reduceCtorEq, lnss])
    simp only [go_sem, reduceIte, Nat.reduceEqDiff, reduceCtorEq, Nat.reduceLT, Nat.reduceAdd, Nat.reduceSub, Nat.reduceMul, Nat.reduceLeDiff, Int.reduceLT, Int.reduceLE, Int.reduceToNat, Int.reduceEq, Int.reduceAdd, Int.reduceSub, Int.reduceNeg, Int.reduceBNe, Int.reduceBEq]
  · rw [hh] at hH
    refine PL.Pure.of_v Tryz.func3 (by decide) rfl Tryz.ntmps3 Tryz.results3 (by simp) rfl ?_
    simp only [go_sem, reduceIte, Nat.reduceEqDiff, reduceCtorEq, Nat.reduceLT, Nat.reduceAdd, Nat.reduceSub, Nat.reduceMul, Nat.reduceLeDiff, Int.reduceLT, Int.reduceLE, Int.reduceToNat, Int.reduceEq, Int.reduceAdd, Int.reduceSub, Int.reduceNeg, Int.reduceBNe, Int.reduceBEq, egs, tg]
    refine vCall_of (awake18_pure) ?_ ?_ ?_; (focus simp only [go_sem, reduceIte, Nat.reduceEqDiff, reduceCtorEq]); (focus simp only [go_sem, reduceIte, Nat.reduceEqDiff, reduceCtorEq])
    simp only [go_sem, reduceIte, Nat.reduceEqDiff, reduceCtorEq, Nat.reduceLT, Nat.reduceAdd, Nat.reduceSub, Nat.reduceMul, Nat.reduceLeDiff, Int.reduceLT, Int.reduceLE, Int.reduceToNat, Int.reduceEq, Int.reduceAdd, Int.reduceSub, Int.reduceNeg, Int.reduceBNe, Int.reduceBEq]
    refine vCall_of (hH) ?_ ?_ ?_; (focus simp only [go_sem, reduceIte, Nat.reduceEqDiff, reduceCtorEq, egs]); (focus simp only [go_sem, reduceIte, Nat.reduceEqDiff, reduceCtorEq, egs])
    simp only [go_sem, reduceIte, Nat.reduceEqDiff, reduceCtorEq, Nat.reduceLT, Nat.reduceAdd, Nat.reduceSub, Nat.reduceMul, Nat.reduceLeDiff, Int.reduceLT, Int.reduceLE, Int.reduceToNat, Int.reduceEq, Int.reduceAdd, Int.reduceSub, Int.reduceNeg, Int.reduceBNe, Int.reduceBEq]
end Go.Proofs.YtbojhapdidieoaaGreat

set_option linter.unusedSimpArgs false
set_option linter.unusedVariables false
set_option linter.unusedSimpArgs false
set_option linter.unusedVariables false
namespace Go.Proofs.YtbojhapdidieoaaGreat
open Go.PL
open Go.ChangeShapes Go.WideShapes Go.ChangeAt Go.RowKit
theorem Tryz.own : ownKnob Tryz.prog.godebug = Option.none := by kernel_rfl
theorem Tryz.laidOut : laidOutB Tryz.prog = true := by kernel_rfl
theorem Tryz.lays : layAll Tryz.prog = true := by kernel_rfl
theorem oddStrs : oddB Tryz.prog 55 = false := by kernel_rfl
theorem oddPrs : oddB Tryz.prog 58 = false := by kernel_rfl
theorem oddEgs : oddB Tryz.prog 22 = false := by kernel_rfl
structure LenLn' (x : Ln) : Prop where
  c : x.fd.cases'.length ≤ maxLen
  f : x.fo.length ≤ maxLen
  b : x.ba.length ≤ maxLen
theorem pt_strs {cs : List PV} (h : PT Tryz.prog 55 cs) : ∃ l : List Str, cs = [.sl .no (l.map .str)] ∧ l.length ≤ maxLen := by
  obtain ⟨l, rfl, h1, h2⟩ := h.slice_inv oddStrs Tryz.underlying55
  obtain ⟨xs, rfl, _⟩ := all_told (enc := PV.str) (Q := fun _ => True) (fun p hp => by
    obtain ⟨s, rfl, _⟩ := (h2 p hp).string Tryz.underlying9
    exact ⟨s, rfl, trivial⟩)
  exact ⟨xs, rfl, by simpa using h1⟩
theorem pt_tag {cs : List PV} (h : PT Tryz.prog 24 cs) : ∃ r : Tg, cs = [.int .i64 r.r, .int .i64 r.n] := by
  have h1 : PTs Tryz.prog [3, 3] cs := h.struct_inv Tryz.underlying24
  obtain ⟨a, b, rfl, h2, h3⟩ := h1.cons_inv
  obtain ⟨c, d, rfl, h4, h5⟩ := h3.cons_inv
  obtain ⟨x, rfl, _⟩ := h2.int_inv Tryz.underlying3
  obtain ⟨y, rfl, _⟩ := h4.int_inv Tryz.underlying3
  rw [h5.nil_inv]
  exact ⟨⟨x, y⟩, rfl⟩
theorem pt_ref {cs : List PV} (h : PT Tryz.prog 54 cs) : ∃ r : Rf, cs = [.int .i64 r.sc, .str r.gr, .str r.nm] := by
  have h1 : PTs Tryz.prog [3, 9, 9] cs := h.struct_inv Tryz.underlying54
  obtain ⟨a, b, rfl, h2, h3⟩ := h1.cons_inv
  obtain ⟨c, d, rfl, h4, h5⟩ := h3.cons_inv
  obtain ⟨e, f, rfl, h6, h7⟩ := h5.cons_inv
  obtain ⟨x, rfl, _⟩ := h2.int_inv Tryz.underlying3
  obtain ⟨y, rfl, _⟩ := h4.string_inv Tryz.underlying9
  obtain ⟨z, rfl, _⟩ := h6.string_inv Tryz.underlying9
  rw [h7.nil_inv]
  exact ⟨⟨x, y, z⟩, rfl⟩
theorem pt_fld {cs : List PV} (h : PT Tryz.prog 57 cs) : ∃ f : Fd, cs = [.int .i64 f.at'.sc, .str f.at'.gr, .str f.at'.nm, .int .i64 f.kind, .str f.df, .sl .no (f.cases'.map .str), .int .i64 f.worth] ∧ f.cases'.length ≤ maxLen := by
  have h1 : PTs Tryz.prog [54, 3, 9, 55, 2] cs := h.struct_inv Tryz.underlying57
  obtain ⟨a1, b1, rfl, h2, h3⟩ := h1.cons_inv
  obtain ⟨a2, b2, rfl, h4, h5⟩ := h3.cons_inv
  obtain ⟨a3, b3, rfl, h6, h7⟩ := h5.cons_inv
  obtain ⟨a4, b4, rfl, h8, h9⟩ := h7.cons_inv
  obtain ⟨a5, b5, rfl, h10, h11⟩ := h9.cons_inv
  obtain ⟨r, rfl⟩ := pt_ref h2
  obtain ⟨x, rfl, _⟩ := h4.int_inv Tryz.underlying3
  obtain ⟨y, rfl, _⟩ := h6.string_inv Tryz.underlying9
  obtain ⟨l, rfl, hl⟩ := pt_strs h8
  obtain ⟨z, rfl, _⟩ := h10.int_inv Tryz.underlying2
  rw [h11.nil_inv]
  exact ⟨⟨r, x, y, l, z⟩, rfl, hl⟩
theorem pa_pair {p : PV} (h : PA Tryz.prog 160 p) : ∃ e : Pr, p = pr e := by
  obtain ⟨cs, rfl, h1⟩ := PA.agg tagg_160 h
  have h1 : PTs Tryz.prog [9, 9] cs := h1.struct_inv Tryz.underlying160
  obtain ⟨a, b, rfl, h2, h3⟩ := h1.cons_inv
  obtain ⟨c, d, rfl, h4, h5⟩ := h3.cons_inv
  obtain ⟨x, rfl, _⟩ := h2.string_inv Tryz.underlying9
  obtain ⟨y, rfl, _⟩ := h4.string_inv Tryz.underlying9
  rw [h5.nil_inv]
  exact ⟨⟨x, y⟩, rfl⟩
theorem pt_prs {cs : List PV} (h : PT Tryz.prog 58 cs) : ∃ l : List Pr, cs = [.sl .no (l.map pr)] ∧ l.length ≤ maxLen := by
  obtain ⟨l, rfl, h1, h2⟩ := h.slice_inv oddPrs Tryz.underlying58
  obtain ⟨xs, rfl, _⟩ := all_told (enc := pr) (Q := fun _ => True) (fun p hp => by
    obtain ⟨s, rfl⟩ := pa_pair (h2 p hp)
    exact ⟨s, rfl, trivial⟩)
  exact ⟨xs, rfl, by simpa using h1⟩
def lncellsG (x : Ln) : List PV := [.int .i64 x.kind, .int .i64 x.at'.sc, .str x.at'.gr, .str x.at'.nm, .str x.nm, .str x.ot, .int .i64 x.fac, .int .i64 x.fd.at'.sc, .str x.fd.at'.gr, .str x.fd.at'.nm, .int .i64 x.fd.kind, .str x.fd.df, .sl .no (x.fd.cases'.map .str), .int .i64 x.fd.worth, .sl .no (x.fo.map pr), .sl .no (x.ba.map pr)]
theorem pt_lens {cs : List PV} (h : PT Tryz.prog 60 cs) : ∃ x : Ln, cs = lncellsG x ∧ LenLn' x := by
  have h1 : PTs Tryz.prog [3, 54, 9, 9, 2, 57, 58, 58] cs := h.struct_inv Tryz.underlying60
  obtain ⟨a1, b1, rfl, h2, h3⟩ := h1.cons_inv
  obtain ⟨a2, b2, rfl, h4, h5⟩ := h3.cons_inv
  obtain ⟨a3, b3, rfl, h6, h7⟩ := h5.cons_inv
  obtain ⟨a4, b4, rfl, h8, h9⟩ := h7.cons_inv
  obtain ⟨a5, b5, rfl, h10, h11⟩ := h9.cons_inv
  obtain ⟨a6, b6, rfl, h12, h13⟩ := h11.cons_inv
  obtain ⟨a7, b7, rfl, h14, h15⟩ := h13.cons_inv
  obtain ⟨a8, b8, rfl, h16, h17⟩ := h15.cons_inv
  obtain ⟨x1, rfl, _⟩ := h2.int_inv Tryz.underlying3
  obtain ⟨x2, rfl⟩ := pt_ref h4
  obtain ⟨x3, rfl, _⟩ := h6.string_inv Tryz.underlying9
  obtain ⟨x4, rfl, _⟩ := h8.string_inv Tryz.underlying9
  obtain ⟨x5, rfl, _⟩ := h10.int_inv Tryz.underlying2
  obtain ⟨x6, rfl, k6⟩ := pt_fld h12
  obtain ⟨x7, rfl, k7⟩ := pt_prs h14
  obtain ⟨x8, rfl, k8⟩ := pt_prs h16
  rw [h17.nil_inv]
  exact ⟨⟨x1, x2, x3, x4, x5, x6, x7, x8⟩, rfl, ⟨k6, k7, k8⟩⟩
theorem pa_edge {p : PV} (h : PA Tryz.prog 91 p) : ∃ e : Eg, p = eg e ∧ LenLn' e.ln := by
  obtain ⟨cs, rfl, h1⟩ := PA.agg tagg_91 h
  have h1 : PTs Tryz.prog [24, 24, 60] cs := h1.struct_inv Tryz.underlying91
  obtain ⟨a1, b1, rfl, h2, h3⟩ := h1.cons_inv
  obtain ⟨a2, b2, rfl, h4, h5⟩ := h3.cons_inv
  obtain ⟨a3, b3, rfl, h6, h7⟩ := h5.cons_inv
  obtain ⟨x1, rfl⟩ := pt_tag h2
  obtain ⟨x2, rfl⟩ := pt_tag h4
  obtain ⟨x3, rfl, k3⟩ := pt_lens h6
  rw [h7.nil_inv]
  exact ⟨⟨x1, x2, x3⟩, rfl, k3⟩
theorem pa_edges {p : PV} (h : PA Tryz.prog 22 p) : ∃ l : List Eg, p = egs l ∧ l.length ≤ maxLen ∧ ∀ e ∈ l, LenLn' e.ln := by
  obtain ⟨l, rfl, h1, h2⟩ := h.slice oddEgs Tryz.underlying22
  obtain ⟨xs, rfl, h3⟩ := all_told (fun p hp => pa_edge (h2 p hp))
  exact ⟨xs, rfl, by simpa using h1, h3⟩
theorem pa_tag {p : PV} (h : PA Tryz.prog 24 p) : ∃ t : Tg, p = tg t := by
  obtain ⟨cs, rfl, h1⟩ := PA.agg tagg_24 h
  obtain ⟨r, rfl⟩ := pt_tag h1
  exact ⟨r, rfl⟩
end Go.Proofs.YtbojhapdidieoaaGreat
