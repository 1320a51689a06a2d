/- Contracts of functions and laws of this seat, each for every input that it names: lemmas of the proof. -/
import Derived.Test.YtbojhapdidieoaaXCc
set_option linter.unusedSimpArgs false
set_option linter.unusedVariables false
set_option linter.unusedSimpArgs false
set_option linter.unusedVariables false
namespace Go.Proofs.Ytbojhapdidieoaa
open Go.PL
theorem worthI_ok {n w : Int} (h1 : 1 ≤ w) (h2 : w ≤ 1048576) (h3 : -4503599627370496 ≤ n * w) (h4 : n * w ≤ 4503599627370496) : worthI n w = (n * w, 0) := by
  obtain ⟨m1, m2, m3, m4⟩ := mostOf_spec h1
  have a1 : n ≤ mostOf w := by
    refine Decidable.byContradiction fun h => ?_
    have : (mostOf w + 1) * w ≤ n * w := Int.mul_le_mul_of_nonneg_right (by omega) (by omega)
    omega
  have a2 : - mostOf w ≤ n := by
    refine Decidable.byContradiction fun h => ?_
    have : n * w ≤ (-(mostOf w + 1)) * w := Int.mul_le_mul_of_nonneg_right (by omega) (by omega)
    rw [Int.neg_mul] at this
    omega
  unfold worthI
  rw [if_neg (by omega), if_neg (by omega), wrap_id (by omega)]
theorem right_worth {f : Fd} (h : rightF f = true) (hk : f.kind = 1) : 1 ≤ f.worth ∧ f.worth ≤ 1048576 := by
  simp [rightF, hk] at h
  omega
theorem fitsO_right {l : List Fd} {o : Opn} (h : fitsO l o = true) : rightO o = true := by
  simp only [fitsO, Bool.and_eq_true] at h; exact h.1
theorem rightO_delta {o : Opn} (h : rightO o = true) : -1048576 ≤ o.delta ∧ o.delta ≤ 1048576 := by
  simp [rightO] at h
  omega
theorem placed3 {o : Opn} (h : o.kind = 3) : placedB o = true := by simp [placedB, h]
theorem fitsO_place {l : List Fd} {o : Opn} (h : fitsO l o = true) (hp : placedB o = true) : (findF l o.at').2 = 0 ∧
    (o.kind = 3 → (findF l o.at').1.kind = 1) ∧ (o.kind ≠ 3 → o.has = true → fitsF (findF l o.at').1 o.text = true) ∧ (o.kind ≠ 3 → o.has = false → (findF l o.at').1.kind = 4) := by
  simp only [fitsO, hp, Bool.and_eq_true, Bool.true_eq_false, if_false, decide_eq_true_eq] at h
  obtain ⟨_, h1, h2⟩ := h
  refine ⟨h1, fun k => ?_, fun k hh => ?_, fun k hh => ?_⟩
  · rw [if_pos k] at h2; simpa using h2
  · rw [if_neg k, if_pos hh] at h2; exact h2
  · rw [if_neg k, if_neg (by rw [hh]; simp)] at h2; simpa using h2
theorem placeI_neg {l : List Rf} {r : Rf} (h : placeI l r < 0) : r ∉ l := by
  unfold placeI idx at h
  cases hf : l.findIdx? fun a => decide (r = a) with
  | none =>
    rw [List.findIdx?_eq_none_iff] at hf
    intro hm
    have := hf r hm
    simp at this
  | some i => rw [hf] at h; simp at h; omega
theorem placeI_pos {l : List Rf} {r : Rf} (h : ¬ placeI l r < 0) : ∃ g : Nat, placeI l r = (g : Int) ∧ g < l.length ∧ l.getD g default = r := by
  unfold placeI idx at h ⊢
  cases hf : l.findIdx? fun a => decide (r = a) with
  | none => rw [hf] at h; exact absurd (by decide) h
  | some i =>
    rw [List.findIdx?_eq_some_iff_getElem] at hf
    obtain ⟨h1, h2, _⟩ := hf
    refine ⟨i, rfl, h1, ?_⟩
    rw [getD_lt h1]
    simpa using (of_decide_eq_true h2).symm
theorem placeI_one {a r : Rf} (h : ¬ placeI [a] r < 0) : a = r := by
  obtain ⟨g, _, h2, h3⟩ := placeI_pos h
  have : g = 0 := by simpa using h2
  subst this
  simpa using h3
theorem joinI_fine {d f : Int} (hd : -1048576 ≤ d ∧ d ≤ 1048576) (h : (joinI 0 d f).2 = 0) : 2 ≤ f ∧ f ≤ 1000 ∧ (joinI 0 d f).1 = f * d := by
  unfold joinI at h ⊢
  by_cases hf : 2 ≤ f ∧ f ≤ 1000
  · rw [if_neg (fun g => g hf)] at h ⊢
    have b1 : -1048576000 ≤ f * d ∧ f * d ≤ 1048576000 := by
      have p1 : f * d ≤ f * 1048576 := Int.mul_le_mul_of_nonneg_left hd.2 (by omega)
      have p2 : f * (-1048576) ≤ f * d := Int.mul_le_mul_of_nonneg_left hd.1 (by omega)
      omega
    have e : IntKind.i64.wrap (0 + IntKind.i64.wrap (f * d)) = f * d := by
      rw [wrap_id (n := f * d) (by omega), Int.zero_add, wrap_id (by omega)]
    refine ⟨hf.1, hf.2, ?_⟩
    split at h
    · cases h
    · rename_i hp
      rw [if_neg hp]
      split at h
      · rename_i hfi; rw [if_pos hfi]; exact e
      · cases h
  · rw [if_pos hf] at h; cases h
/-- the field of an Adjust, on the far side: what it is worth is the same -/
theorem over_field {l m : List Fd} {x : Ln} {o p : Opn} {f : Fd} (ha : applyM l x = (m, 0)) (hf : findF l o.at' = (f, 0)) (h1 : f.kind = 1) (k3 : o.kind = 3) (hd : -1048576 ≤ o.delta ∧ o.delta ≤ 1048576) (ho : overM x o = (p, true)) :
    ∃ g, findF m p.at' = (g, 0) ∧ g.kind = 1 ∧ p.kind = 3 ∧ 1 ≤ g.worth ∧ g.worth ≤ 1048576 ∧ p.delta * g.worth = o.delta * f.worth := by
  obtain ⟨hl, hx, cs, l1, e1, e2, e3⟩ := apply_fwd ha
  obtain ⟨a1, a2, a3, a4, a5⟩ := go_fwd hl e2
  obtain ⟨b1, b2, b3, b4, b5⟩ := come_fwd a1 e3
  have hk := (rightLn_kind hx).1
  have hm := (right_iff.1 b1).2
  have hfl := find_zero (l := l) (r := o.at') (by rw [hf])
  rw [hf] at hfl
  simp only at hfl
  obtain ⟨fm, fa⟩ := hfl
  have fr := (right_iff.1 hl).2.2 f fm
  have fw := right_worth fr h1
  have coming : ∀ g ∈ cs, findF m g.at' = (g, 0) ∧ rightF g = true := fun g hg => ⟨find_mem hm.1 ((b2 g).2 (.inr hg)), (b3 g hg).1⟩
  unfold overM at ho
  rw [if_neg (by rw [hx]; simp), if_neg (by omega)] at ho
  by_cases hp : placeI (goesR x) o.at' < 0
  · rw [if_pos hp] at ho
    cases ho
    have hfm : f ∈ m := (b2 f).2 (.inl ((a2 f).2 ⟨fm, by rw [fa]; exact placeI_neg hp⟩))
    have := find_mem hm.1 hfm
    rw [fa] at this
    exact ⟨f, this, h1, k3, fw.1, fw.2, rfl⟩
  · rw [if_neg hp] at ho
    by_cases hb : (becomeM x o).2 = false
    · rw [if_pos hb] at ho; simp at ho
    · rw [if_neg hb] at ho
      simp only [Prod.mk.injEq, and_true] at ho
      subst ho
      have hb' : (becomeM x o).2 = true := by simpa using hb
      clear hb b4 b5 a3 a4 a5
      obtain ⟨kind, at', nm, ot, fac, fd, fo, ba⟩ := x
      simp only at hk
      have mv : ∀ r, o.at' = at' → cs = [⟨r, f.kind, f.df, f.cases', f.worth⟩] → ∃ g, findF m r = (g, 0) ∧ g.kind = 1 ∧ 1 ≤ g.worth ∧ g.worth ≤ 1048576 ∧ o.delta * g.worth = o.delta * f.worth := fun r _ hc => by
        have := coming ⟨r, f.kind, f.df, f.cases', f.worth⟩ (by rw [hc]; simp)
        exact ⟨_, this.1, h1, fw.1, fw.2, rfl⟩
      rcases hk with rfl | rfl | rfl | rfl | rfl | rfl | rfl | rfl | rfl | rfl
      · have hat : at' = o.at' := placeI_one (by simpa [goesR] using hp)
        subst hat
        simp [arrM, comesR, hf] at e1
        obtain ⟨g, g1, g2, g3, g4, g5⟩ := mv (named o.at' nm) rfl e1.symm
        exact ⟨g, by simpa [becomeM, movedO, comesR] using g1, g2, by simpa [becomeM, movedO] using k3, g3, g4, by simpa [becomeM, movedO] using g5⟩
      · exact absurd (show placeI (goesR ⟨2, at', nm, ot, fac, fd, fo, ba⟩) o.at' < 0 from (by decide : (-1 : Int) < 0)) hp
      · simp [becomeM] at hb'
      · have hat : at' = o.at' := placeI_one (by simpa [goesR] using hp)
        subst hat
        simp [arrM, comesR, hf] at e1
        obtain ⟨g, g1, g2, g3, g4, g5⟩ := mv ⟨o.at'.sc, [], o.at'.nm⟩ rfl e1.symm
        exact ⟨g, by simpa [becomeM, movedO, comesR] using g1, g2, by simpa [becomeM, movedO] using k3, g3, g4, by simpa [becomeM, movedO] using g5⟩
      · have hat : at' = o.at' := placeI_one (by simpa [goesR] using hp)
        subst hat
        simp [arrM, comesR, hf] at e1
        obtain ⟨g, g1, g2, g3, g4, g5⟩ := mv ⟨o.at'.sc, nm, o.at'.nm⟩ rfl e1.symm
        exact ⟨g, by simpa [becomeM, movedO, comesR] using g1, g2, by simpa [becomeM, movedO] using k3, g3, g4, by simpa [becomeM, movedO] using g5⟩
      · have hat : at' = o.at' := placeI_one (by simpa [goesR] using hp)
        subst hat
        simp [arrM, hf] at e1
        have := coming ⟨named o.at' nm, 1, [], [], f.worth⟩ (by rw [← e1.1]; simp)
        exact ⟨⟨named o.at' nm, 1, [], [], f.worth⟩, by simpa [becomeM, movedO, comesR] using this.1, rfl, by simpa [becomeM, movedO] using k3, fw.1, fw.2, by simp [becomeM, movedO]⟩
      · simp [becomeM, k3] at hb'
      · simp [becomeM, convT, k3] at hb'
      · have hgo : goesR ⟨9, at', nm, ot, fac, fd, fo, ba⟩ = [named at' nm, named at' ot] := by simp [goesR]
        rw [hgo] at hp
        obtain ⟨g, hg1, hg2, hg3⟩ := placeI_pos hp
        simp [arrM, mergedM] at e1
        split at e1
        · simp at e1
        split at e1
        · simp at e1
        · rename_i u1 u2
          simp only [not_or, Decidable.not_not] at u1 u2
          simp only [Prod.mk.injEq, and_true] at e1
          obtain ⟨q1, q2⟩ := u1
          obtain ⟨q3, q4, q5⟩ := u2
          have hA := find_zero q1
          have hAr := right_worth ((right_iff.1 hl).2.2 _ hA.1) q2
          have hcm := coming ⟨at', 1, [], [], (findF l (named at' nm)).1.worth⟩ (by rw [← e1]; simp)
          have hb2 : becomeM ⟨9, at', nm, ot, fac, fd, fo, ba⟩ o = (deltaO o (mergeD o (g : Int) fac).1, (mergeD o (g : Int) fac).2) := by
            simp only [becomeM, hgo, hg1]; simp
          rw [hb2] at hb' ⊢
          simp only at hb'
          refine ⟨⟨at', 1, [], [], (findF l (named at' nm)).1.worth⟩, by simpa [movedO, comesR, deltaO] using hcm.1, rfl, by simpa [movedO, deltaO] using k3, hAr.1, hAr.2, ?_⟩
          simp only [movedO, deltaO]
          have hg01 : g = 0 ∨ g = 1 := by simp at hg2; omega
          rcases hg01 with rfl | rfl
          · have hat : named at' nm = o.at' := by simpa using hg3
            rw [hat, hf]
            simp [mergeD, k3]
          · have hat : named at' ot = o.at' := by simpa using hg3
            have hdd : fitsI o.delta = true := fitsI_iff.2 ⟨by omega, by omega⟩
            have hmd : mergeD o ((1 : Nat) : Int) fac = ((joinI 0 o.delta fac).1, decide ((joinI 0 o.delta fac).2 = 0)) := by
              unfold mergeD
              rw [if_neg (fun h => h k3), if_neg (by omega), if_pos hdd]
            rw [hmd] at hb' ⊢
            obtain ⟨j1, j2, j3⟩ := joinI_fine hd (of_decide_eq_true hb')
            rw [hat, hf] at q5
            simp only at q5 ⊢
            have hwr : IntKind.i64.wrap ((findF l (named at' nm)).1.worth * fac) = (findF l (named at' nm)).1.worth * fac := by
              have p1 : (findF l (named at' nm)).1.worth * fac ≤ 1048576 * fac := Int.mul_le_mul_of_nonneg_right hAr.2 (by omega)
              have p2 : 0 ≤ (findF l (named at' nm)).1.worth * fac := Int.mul_nonneg (by omega) (by omega)
              exact wrap_id (by omega)
            rw [hwr] at q5
            rw [j3, q5, Int.mul_comm fac, Int.mul_assoc, Int.mul_comm fac]
      · simp [becomeM, k3] at hb'
theorem worth_over {l m : List Fd} {x : Ln} {o p : Opn} (ha : applyM l x = (m, 0)) (hf : fitsO l o = true) (k3 : o.kind = 3) : (worthM l o).2 = 0 ∧ ∀ p, overM x o = (p, true) → worthM m p = worthM l o := by
  obtain ⟨f0, f1, _, _⟩ := fitsO_place hf (placed3 k3)
  have f1 := f1 k3
  have hd := rightO_delta (fitsO_right hf)
  have hl := (apply_fwd ha).1
  have hfe : findF l o.at' = ((findF l o.at').1, 0) := Prod.ext rfl f0
  have hz := find_zero f0
  generalize (findF l o.at').1 = f at *
  have fw := right_worth ((right_iff.1 hl).2.2 _ hz.1) f1
  have bd : -4503599627370496 ≤ o.delta * f.worth ∧ o.delta * f.worth ≤ 4503599627370496 := by
    have p1 : o.delta * f.worth ≤ 1048576 * f.worth := Int.mul_le_mul_of_nonneg_right hd.2 (by omega)
    have p2 : (-1048576) * f.worth ≤ o.delta * f.worth := Int.mul_le_mul_of_nonneg_right hd.1 (by omega)
    omega
  have hw : worthM l o = (o.delta * f.worth, 0) := by
    unfold worthM
    rw [if_neg (fun h => h k3), hfe, if_neg (by simp [f1])]
    exact worthI_ok fw.1 fw.2 bd.1 bd.2
  refine ⟨by rw [hw], fun p hp => ?_⟩
  obtain ⟨g, g1, g2, g3, g4, g5, g6⟩ := over_field ha hfe f1 k3 hd hp
  rw [hw]
  unfold worthM
  rw [if_neg (fun h => h g3), g1, if_neg (by simp [g2])]
  simp only
  rw [worthI_ok g4 g5 (by rw [g6]; exact bd.1) (by rw [g6]; exact bd.2), g6]
def awM : Ln := ⟨9, ⟨1, [], [113, 116, 121]⟩, [117, 110, 105, 116], [98, 111, 120], 12, default, [], []⟩
def awO : Opn := ⟨default, default, 0, [], 3, [], ⟨1, [], [98, 111, 120]⟩, 2, false, [], []⟩
theorem over_aw : overM awM awO = (⟨default, default, 0, [], 3, [], ⟨1, [], [113, 116, 121]⟩, 24, false, [], []⟩, true) := by decide +kernel
set_option maxRecDepth 20000 in
set_option maxHeartbeats 8000000 in
theorem awake21_pure : PL.Pure Try.prog 27 [] (.bool true) := by
  have h1 := Over_pure awM awO ⟨by decide, by decide, by decide⟩ ⟨by decide⟩
  rw [over_aw] at h1
  refine PL.Pure.of_v Try.func27 (by decide) rfl Try.ntmps27 Try.results27 (by simp) rfl ?_
  simp only [go_sem, reduceIte, Nat.reduceEqDiff, reduceCtorEq, Nat.reduceLT, Nat.reduceAdd, Nat.reduceSub, Nat.reduceMul, Nat.reduceLeDiff, Int.reduceLT, Int.reduceLE, Int.reduceToNat, Int.reduceEq, Int.reduceAdd, Int.reduceSub, Int.reduceNeg, Int.reduceBNe, Int.reduceBEq]
  refine vCall_of h1 ?_ ?_ ?_
  · simp only [go_sem, reduceIte, Nat.reduceEqDiff, reduceCtorEq, Nat.reduceLT, Nat.reduceAdd, Nat.reduceSub, Nat.reduceMul, Nat.reduceLeDiff, Int.reduceLT, Int.reduceLE, Int.reduceToNat, Int.reduceEq, Int.reduceAdd, Int.reduceSub, Int.reduceNeg, Int.reduceBNe, Int.reduceBEq]
  · rfl
  simp only [go_sem, reduceIte, Nat.reduceEqDiff, reduceCtorEq, Nat.reduceLT, Nat.reduceAdd, Nat.reduceSub, Nat.reduceMul, Nat.reduceLeDiff, Int.reduceLT, Int.reduceLE, Int.reduceToNat, Int.reduceEq, Int.reduceAdd, Int.reduceSub, Int.reduceNeg, Int.reduceBNe, Int.reduceBEq, opb, opv]
theorem okFsOfHeavy {l : List Fd} (h : heavyL l = false) : OkFs l := by
  simp only [heavyL, Bool.or_eq_false_iff, decide_eq_false_iff_not, List.any_eq_false] at h
  refine ⟨by omega, fun f hf => ?_⟩
  have h2 := h.2 f hf
  simp [heavyF, fldTop] at h2
  omega
theorem OkOfHeavy (o : Opn) (h : heavyO o = false) : OkOp o := ⟨by
  simp only [heavyO, Bool.or_eq_false_iff, decide_eq_false_iff_not] at h
  omega⟩
theorem over_okD {x : Ln} {o : Opn} (h : OkOp o) : OkOp (overM x o).1 := by
  have hd := h.d
  refine ⟨?_⟩
  unfold overM becomeM
  repeat' split
  all_goals first | exact hd | exact Nat.zero_le _
set_option maxRecDepth 20000 in
set_option maxHeartbeats 16000000 in
theorem StepWorth_pure (l : List Fd) (x : Ln) (o : Opn) (hl : l.length ≤ maxLen) (hl' : ∀ f ∈ l, f.cases'.length ≤ maxLen) (hx : LenLn x) (ho : o.drops.length ≤ maxLen) : PL.Pure Try.prog 7 [flds l, lns x, opv o] (.bool true) := by
  have h1 := RHeavyL_pure l hl hl'
  have h2 := RHeavyLn_pure x hx
  have h3 := RHeavyO_pure o
  cases hh1 : heavyL l
  · rw [hh1] at h1
    cases hh2 : heavyLn x
    · rw [hh2] at h2
      cases hh3 : heavyO o
      · rw [hh3] at h3
        have okl := okFsOfHeavy hh1
        have okx := okOfHeavy hh2
        have oko := OkOfHeavy o hh3
        have w1 := SWorth_pure l o okl
        have w2 := RWorth_pure l o hl
        have hA := Apply_pure l x okl okx
        have hF := OFits_pure l o okl ho
        have hO := Over_pure x o okx oko
        have okm := okApply okl okx
        have okp := over_okD (x := x) oko
        have key := fun hg hf hk => worth_over (l := l) (m := (applyM l x).1) (x := x) (o := o) (p := default) (Prod.ext rfl hg) hf hk
        generalize applyM l x = y at *
        obtain ⟨m, c⟩ := y
        simp only at okm key
        have n1 : ((worthM l o).1 != (worthM l o).1) = false := by simp
        have n2 : ((worthM l o).2 != (worthM l o).2) = false := by simp
        by_cases hc : c = 0
        · have ec : (c != 0) = false := by simpa using hc
          cases hfi : fitsO l o
          · rw [hfi] at hF
            refine PL.Pure.of_v Try.func7 (by decide) rfl Try.ntmps7 Try.results7 (by simp) rfl ?_
            simp only [go_sem, reduceIte, Nat.reduceEqDiff, reduceCtorEq, Nat.reduceLT, Nat.reduceAdd, Nat.reduceSub, Nat.reduceMul, Nat.reduceLeDiff, Int.reduceLT, Int.reduceLE, Int.reduceToNat, Int.reduceEq, Int.reduceAdd, Int.reduceSub, Int.reduceNeg, Int.reduceBNe, Int.reduceBEq, flds, lns, opv]
            refine vCall_of (awake21_pure) ?_ ?_ ?_; (focus simp only [go_sem, reduceIte, Nat.reduceEqDiff, reduceCtorEq]); (focus simp only [go_sem, reduceIte, Nat.reduceEqDiff, reduceCtorEq])
            simp only [go_sem, reduceIte, Nat.reduceEqDiff, reduceCtorEq, Nat.reduceLT, Nat.reduceAdd, Nat.reduceSub, Nat.reduceMul, Nat.reduceLeDiff, Int.reduceLT, Int.reduceLE, Int.reduceToNat, Int.reduceEq, Int.reduceAdd, Int.reduceSub, Int.reduceNeg, Int.reduceBNe, Int.reduceBEq]
            refine vCall_of (h1) ?_ ?_ ?_; (focus simp only [go_sem, reduceIte, Nat.reduceEqDiff, reduceCtorEq, flds]); (focus simp only [go_sem, reduceIte, Nat.reduceEqDiff, reduceCtorEq, flds])
            simp only [go_sem, reduceIte, Nat.reduceEqDiff, reduceCtorEq, Nat.reduceLT, Nat.reduceAdd, Nat.reduceSub, Nat.reduceMul, Nat.reduceLeDiff, Int.reduceLT, Int.reduceLE, Int.reduceToNat, Int.reduceEq, Int.reduceAdd, Int.reduceSub, Int.reduceNeg, Int.reduceBNe, Int.reduceBEq]
            refine vCall_of (h2) ?_ ?_ ?_; (focus simp only [go_sem, reduceIte, Nat.reduceEqDiff, reduceCtorEq, lns]); (focus simp only [go_sem, reduceIte, Nat.reduceEqDiff, reduceCtorEq, lns])
            simp only [go_sem, reduceIte, Nat.reduceEqDiff, reduceCtorEq, Nat.reduceLT, Nat.reduceAdd, Nat.reduceSub, Nat.reduceMul, Nat.reduceLeDiff, Int.reduceLT, Int.reduceLE, Int.reduceToNat, Int.reduceEq, Int.reduceAdd, Int.reduceSub, Int.reduceNeg, Int.reduceBNe, Int.reduceBEq]
            refine vCall_of (h3) ?_ ?_ ?_; (focus simp only [go_sem, reduceIte, Nat.reduceEqDiff, reduceCtorEq, opv]); (focus simp only [go_sem, reduceIte, Nat.reduceEqDiff, reduceCtorEq, opv])
            simp only [go_sem, reduceIte, Nat.reduceEqDiff, reduceCtorEq, Nat.reduceLT, Nat.reduceAdd, Nat.reduceSub, Nat.reduceMul, Nat.reduceLeDiff, Int.reduceLT, Int.reduceLE, Int.reduceToNat, Int.reduceEq, Int.reduceAdd, Int.reduceSub, Int.reduceNeg, Int.reduceBNe, Int.reduceBEq]
            refine vCall_of (w1) ?_ ?_ ?_; (focus simp only [go_sem, reduceIte, Nat.reduceEqDiff, reduceCtorEq, flds, opv]); (focus simp only [go_sem, reduceIte, Nat.reduceEqDiff, reduceCtorEq, flds, opv])
            simp only [go_sem, reduceIte, Nat.reduceEqDiff, reduceCtorEq, Nat.reduceLT, Nat.reduceAdd, Nat.reduceSub, Nat.reduceMul, Nat.reduceLeDiff, Int.reduceLT, Int.reduceLE, Int.reduceToNat, Int.reduceEq, Int.reduceAdd, Int.reduceSub, Int.reduceNeg, Int.reduceBNe, Int.reduceBEq, intc, flds]
            refine vCall_of (w2) ?_ ?_ ?_; (focus simp only [go_sem, reduceIte, Nat.reduceEqDiff, reduceCtorEq, flds, opv]); (focus simp only [go_sem, reduceIte, Nat.reduceEqDiff, reduceCtorEq, flds, opv])
            simp only [go_sem, reduceIte, Nat.reduceEqDiff, reduceCtorEq, Nat.reduceLT, Nat.reduceAdd, Nat.reduceSub, Nat.reduceMul, Nat.reduceLeDiff, Int.reduceLT, Int.reduceLE, Int.reduceToNat, Int.reduceEq, Int.reduceAdd, Int.reduceSub, Int.reduceNeg, Int.reduceBNe, Int.reduceBEq, intc, n1, n2, flds, lns]
            refine vCall_of (hA) ?_ ?_ ?_; (focus simp only [go_sem, reduceIte, Nat.reduceEqDiff, reduceCtorEq, flds, lns]); (focus simp only [go_sem, reduceIte, Nat.reduceEqDiff, reduceCtorEq, flds, lns])
            simp only [go_sem, reduceIte, Nat.reduceEqDiff, reduceCtorEq, Nat.reduceLT, Nat.reduceAdd, Nat.reduceSub, Nat.reduceMul, Nat.reduceLeDiff, Int.reduceLT, Int.reduceLE, Int.reduceToNat, Int.reduceEq, Int.reduceAdd, Int.reduceSub, Int.reduceNeg, Int.reduceBNe, Int.reduceBEq, fldsc, flds, ec, opv]
            refine vCall_of (hF) ?_ ?_ ?_; (focus simp only [go_sem, reduceIte, Nat.reduceEqDiff, reduceCtorEq, flds, opv]); (focus simp only [go_sem, reduceIte, Nat.reduceEqDiff, reduceCtorEq, flds, opv])
            simp only [go_sem, reduceIte, Nat.reduceEqDiff, reduceCtorEq, Nat.reduceLT, Nat.reduceAdd, Nat.reduceSub, Nat.reduceMul, Nat.reduceLeDiff, Int.reduceLT, Int.reduceLE, Int.reduceToNat, Int.reduceEq, Int.reduceAdd, Int.reduceSub, Int.reduceNeg, Int.reduceBNe, Int.reduceBEq, Bool.not_false]
          · rw [hfi] at hF
            by_cases k3 : o.kind = 3
            · have e3 : (o.kind != 3) = false := by simpa using k3
              obtain ⟨z1, z2⟩ := key hc hfi k3
              have ez : ((worthM l o).2 == 0) = true := by simpa using z1
              have hW := SWorth_pure m (overM x o).1 okm
              generalize hov : overM x o = q at *
              obtain ⟨p, b⟩ := q
              simp only at hW okp
              cases b
              · refine PL.Pure.of_v Try.func7 (by decide) rfl Try.ntmps7 Try.results7 (by simp) rfl ?_
                simp only [go_sem, reduceIte, Nat.reduceEqDiff, reduceCtorEq, Nat.reduceLT, Nat.reduceAdd, Nat.reduceSub, Nat.reduceMul, Nat.reduceLeDiff, Int.reduceLT, Int.reduceLE, Int.reduceToNat, Int.reduceEq, Int.reduceAdd, Int.reduceSub, Int.reduceNeg, Int.reduceBNe, Int.reduceBEq, flds, lns, opv]
                refine vCall_of (awake21_pure) ?_ ?_ ?_; (focus simp only [go_sem, reduceIte, Nat.reduceEqDiff, reduceCtorEq]); (focus simp only [go_sem, reduceIte, Nat.reduceEqDiff, reduceCtorEq])
                simp only [go_sem, reduceIte, Nat.reduceEqDiff, reduceCtorEq, Nat.reduceLT, Nat.reduceAdd, Nat.reduceSub, Nat.reduceMul, Nat.reduceLeDiff, Int.reduceLT, Int.reduceLE, Int.reduceToNat, Int.reduceEq, Int.reduceAdd, Int.reduceSub, Int.reduceNeg, Int.reduceBNe, Int.reduceBEq]
                refine vCall_of (h1) ?_ ?_ ?_; (focus simp only [go_sem, reduceIte, Nat.reduceEqDiff, reduceCtorEq, flds]); (focus simp only [go_sem, reduceIte, Nat.reduceEqDiff, reduceCtorEq, flds])
                simp only [go_sem, reduceIte, Nat.reduceEqDiff, reduceCtorEq, Nat.reduceLT, Nat.reduceAdd, Nat.reduceSub, Nat.reduceMul, Nat.reduceLeDiff, Int.reduceLT, Int.reduceLE, Int.reduceToNat, Int.reduceEq, Int.reduceAdd, Int.reduceSub, Int.reduceNeg, Int.reduceBNe, Int.reduceBEq]
                refine vCall_of (h2) ?_ ?_ ?_; (focus simp only [go_sem, reduceIte, Nat.reduceEqDiff, reduceCtorEq, lns]); (focus simp only [go_sem, reduceIte, Nat.reduceEqDiff, reduceCtorEq, lns])
                simp only [go_sem, reduceIte, Nat.reduceEqDiff, reduceCtorEq, Nat.reduceLT, Nat.reduceAdd, Nat.reduceSub, Nat.reduceMul, Nat.reduceLeDiff, Int.reduceLT, Int.reduceLE, Int.reduceToNat, Int.reduceEq, Int.reduceAdd, Int.reduceSub, Int.reduceNeg, Int.reduceBNe, Int.reduceBEq]
                refine vCall_of (h3) ?_ ?_ ?_; (focus simp only [go_sem, reduceIte, Nat.reduceEqDiff, reduceCtorEq, opv]); (focus simp only [go_sem, reduceIte, Nat.reduceEqDiff, reduceCtorEq, opv])
                simp only [go_sem, reduceIte, Nat.reduceEqDiff, reduceCtorEq, Nat.reduceLT, Nat.reduceAdd, Nat.reduceSub, Nat.reduceMul, Nat.reduceLeDiff, Int.reduceLT, Int.reduceLE, Int.reduceToNat, Int.reduceEq, Int.reduceAdd, Int.reduceSub, Int.reduceNeg, Int.reduceBNe, Int.reduceBEq]
                refine vCall_of (w1) ?_ ?_ ?_; (focus simp only [go_sem, reduceIte, Nat.reduceEqDiff, reduceCtorEq, flds, opv]); (focus simp only [go_sem, reduceIte, Nat.reduceEqDiff, reduceCtorEq, flds, opv])
                simp only [go_sem, reduceIte, Nat.reduceEqDiff, reduceCtorEq, Nat.reduceLT, Nat.reduceAdd, Nat.reduceSub, Nat.reduceMul, Nat.reduceLeDiff, Int.reduceLT, Int.reduceLE, Int.reduceToNat, Int.reduceEq, Int.reduceAdd, Int.reduceSub, Int.reduceNeg, Int.reduceBNe, Int.reduceBEq, intc, flds]
                refine vCall_of (w2) ?_ ?_ ?_; (focus simp only [go_sem, reduceIte, Nat.reduceEqDiff, reduceCtorEq, flds, opv]); (focus simp only [go_sem, reduceIte, Nat.reduceEqDiff, reduceCtorEq, flds, opv])
                simp only [go_sem, reduceIte, Nat.reduceEqDiff, reduceCtorEq, Nat.reduceLT, Nat.reduceAdd, Nat.reduceSub, Nat.reduceMul, Nat.reduceLeDiff, Int.reduceLT, Int.reduceLE, Int.reduceToNat, Int.reduceEq, Int.reduceAdd, Int.reduceSub, Int.reduceNeg, Int.reduceBNe, Int.reduceBEq, intc, n1, n2, flds, lns]
                refine vCall_of (hA) ?_ ?_ ?_; (focus simp only [go_sem, reduceIte, Nat.reduceEqDiff, reduceCtorEq, flds, lns]); (focus simp only [go_sem, reduceIte, Nat.reduceEqDiff, reduceCtorEq, flds, lns])
                simp only [go_sem, reduceIte, Nat.reduceEqDiff, reduceCtorEq, Nat.reduceLT, Nat.reduceAdd, Nat.reduceSub, Nat.reduceMul, Nat.reduceLeDiff, Int.reduceLT, Int.reduceLE, Int.reduceToNat, Int.reduceEq, Int.reduceAdd, Int.reduceSub, Int.reduceNeg, Int.reduceBNe, Int.reduceBEq, fldsc, flds, ec, opv]
                refine vCall_of (hF) ?_ ?_ ?_; (focus simp only [go_sem, reduceIte, Nat.reduceEqDiff, reduceCtorEq, flds, opv]); (focus simp only [go_sem, reduceIte, Nat.reduceEqDiff, reduceCtorEq, flds, opv])
                simp only [go_sem, reduceIte, Nat.reduceEqDiff, reduceCtorEq, Nat.reduceLT, Nat.reduceAdd, Nat.reduceSub, Nat.reduceMul, Nat.reduceLeDiff, Int.reduceLT, Int.reduceLE, Int.reduceToNat, Int.reduceEq, Int.reduceAdd, Int.reduceSub, Int.reduceNeg, Int.reduceBNe, Int.reduceBEq, Bool.not_true, e3, lns]
                refine vCall_of (hO) ?_ ?_ ?_; (focus simp only [go_sem, reduceIte, Nat.reduceEqDiff, reduceCtorEq, lns, opv]); (focus simp only [go_sem, reduceIte, Nat.reduceEqDiff, reduceCtorEq, lns, opv])
                simp only [go_sem, reduceIte, Nat.reduceEqDiff, reduceCtorEq, Nat.reduceLT, Nat.reduceAdd, Nat.reduceSub, Nat.reduceMul, Nat.reduceLeDiff, Int.reduceLT, Int.reduceLE, Int.reduceToNat, Int.reduceEq, Int.reduceAdd, Int.reduceSub, Int.reduceNeg, Int.reduceBNe, Int.reduceBEq, opb, opv, flds]
                refine vCall_of (hW) ?_ ?_ ?_; (focus simp only [go_sem, reduceIte, Nat.reduceEqDiff, reduceCtorEq, flds, opv]); (focus simp only [go_sem, reduceIte, Nat.reduceEqDiff, reduceCtorEq, flds, opv])
                simp only [go_sem, reduceIte, Nat.reduceEqDiff, reduceCtorEq, Nat.reduceLT, Nat.reduceAdd, Nat.reduceSub, Nat.reduceMul, Nat.reduceLeDiff, Int.reduceLT, Int.reduceLE, Int.reduceToNat, Int.reduceEq, Int.reduceAdd, Int.reduceSub, Int.reduceNeg, Int.reduceBNe, Int.reduceBEq, intc, ez, Bool.not_false]
              · have zz := z2 p rfl
                rw [zz] at hW
                have e4 : ((worthM l o).1 == (worthM l o).1) = true := by simp
                refine PL.Pure.of_v Try.func7 (by decide) rfl Try.ntmps7 Try.results7 (by simp) rfl ?_
                simp only [go_sem, reduceIte, Nat.reduceEqDiff, reduceCtorEq, Nat.reduceLT, Nat.reduceAdd, Nat.reduceSub, Nat.reduceMul, Nat.reduceLeDiff, Int.reduceLT, Int.reduceLE, Int.reduceToNat, Int.reduceEq, Int.reduceAdd, Int.reduceSub, Int.reduceNeg, Int.reduceBNe, Int.reduceBEq, flds, lns, opv]
                refine vCall_of (awake21_pure) ?_ ?_ ?_; (focus simp only [go_sem, reduceIte, Nat.reduceEqDiff, reduceCtorEq]); (focus simp only [go_sem, reduceIte, Nat.reduceEqDiff, reduceCtorEq])
                simp only [go_sem, reduceIte, Nat.reduceEqDiff, reduceCtorEq, Nat.reduceLT, Nat.reduceAdd, Nat.reduceSub, Nat.reduceMul, Nat.reduceLeDiff, Int.reduceLT, Int.reduceLE, Int.reduceToNat, Int.reduceEq, Int.reduceAdd, Int.reduceSub, Int.reduceNeg, Int.reduceBNe, Int.reduceBEq]
                refine vCall_of (h1) ?_ ?_ ?_; (focus simp only [go_sem, reduceIte, Nat.reduceEqDiff, reduceCtorEq, flds]); (focus simp only [go_sem, reduceIte, Nat.reduceEqDiff, reduceCtorEq, flds])
                simp only [go_sem, reduceIte, Nat.reduceEqDiff, reduceCtorEq, Nat.reduceLT, Nat.reduceAdd, Nat.reduceSub, Nat.reduceMul, Nat.reduceLeDiff, Int.reduceLT, Int.reduceLE, Int.reduceToNat, Int.reduceEq, Int.reduceAdd, Int.reduceSub, Int.reduceNeg, Int.reduceBNe, Int.reduceBEq]
                refine vCall_of (h2) ?_ ?_ ?_; (focus simp only [go_sem, reduceIte, Nat.reduceEqDiff, reduceCtorEq, lns]); (focus simp only [go_sem, reduceIte, Nat.reduceEqDiff, reduceCtorEq, lns])
                simp only [go_sem, reduceIte, Nat.reduceEqDiff, reduceCtorEq, Nat.reduceLT, Nat.reduceAdd, Nat.reduceSub, Nat.reduceMul, Nat.reduceLeDiff, Int.reduceLT, Int.reduceLE, Int.reduceToNat, Int.reduceEq, Int.reduceAdd, Int.reduceSub, Int.reduceNeg, Int.reduceBNe, Int.reduceBEq]
                refine vCall_of (h3) ?_ ?_ ?_; (focus simp only [go_sem, reduceIte, Nat.reduceEqDiff, reduceCtorEq, opv]); (focus simp only [go_sem, reduceIte, Nat.reduceEqDiff, reduceCtorEq, opv])
                simp only [go_sem, reduceIte, Nat.reduceEqDiff, reduceCtorEq, Nat.reduceLT, Nat.reduceAdd, Nat.reduceSub, Nat.reduceMul, Nat.reduceLeDiff, Int.reduceLT, Int.reduceLE, Int.reduceToNat, Int.reduceEq, Int.reduceAdd, Int.reduceSub, Int.reduceNeg, Int.reduceBNe, Int.reduceBEq]
                refine vCall_of (w1) ?_ ?_ ?_; (focus simp only [go_sem, reduceIte, Nat.reduceEqDiff, reduceCtorEq, flds, opv]); (focus simp only [go_sem, reduceIte, Nat.reduceEqDiff, reduceCtorEq, flds, opv])
                simp only [go_sem, reduceIte, Nat.reduceEqDiff, reduceCtorEq, Nat.reduceLT, Nat.reduceAdd, Nat.reduceSub, Nat.reduceMul, Nat.reduceLeDiff, Int.reduceLT, Int.reduceLE, Int.reduceToNat, Int.reduceEq, Int.reduceAdd, Int.reduceSub, Int.reduceNeg, Int.reduceBNe, Int.reduceBEq, intc, flds]
                refine vCall_of (w2) ?_ ?_ ?_; (focus simp only [go_sem, reduceIte, Nat.reduceEqDiff, reduceCtorEq, flds, opv]); (focus simp only [go_sem, reduceIte, Nat.reduceEqDiff, reduceCtorEq, flds, opv])
                simp only [go_sem, reduceIte, Nat.reduceEqDiff, reduceCtorEq, Nat.reduceLT, Nat.reduceAdd, Nat.reduceSub, Nat.reduceMul, Nat.reduceLeDiff, Int.reduceLT, Int.reduceLE, Int.reduceToNat, Int.reduceEq, Int.reduceAdd, Int.reduceSub, Int.reduceNeg, Int.reduceBNe, Int.reduceBEq, intc, n1, n2, flds, lns]
                refine vCall_of (hA) ?_ ?_ ?_; (focus simp only [go_sem, reduceIte, Nat.reduceEqDiff, reduceCtorEq, flds, lns]); (focus simp only [go_sem, reduceIte, Nat.reduceEqDiff, reduceCtorEq, flds, lns])
                simp only [go_sem, reduceIte, Nat.reduceEqDiff, reduceCtorEq, Nat.reduceLT, Nat.reduceAdd, Nat.reduceSub, Nat.reduceMul, Nat.reduceLeDiff, Int.reduceLT, Int.reduceLE, Int.reduceToNat, Int.reduceEq, Int.reduceAdd, Int.reduceSub, Int.reduceNeg, Int.reduceBNe, Int.reduceBEq, fldsc, flds, ec, opv]
                refine vCall_of (hF) ?_ ?_ ?_; (focus simp only [go_sem, reduceIte, Nat.reduceEqDiff, reduceCtorEq, flds, opv]); (focus simp only [go_sem, reduceIte, Nat.reduceEqDiff, reduceCtorEq, flds, opv])
                simp only [go_sem, reduceIte, Nat.reduceEqDiff, reduceCtorEq, Nat.reduceLT, Nat.reduceAdd, Nat.reduceSub, Nat.reduceMul, Nat.reduceLeDiff, Int.reduceLT, Int.reduceLE, Int.reduceToNat, Int.reduceEq, Int.reduceAdd, Int.reduceSub, Int.reduceNeg, Int.reduceBNe, Int.reduceBEq, Bool.not_true, e3, lns]
                refine vCall_of (hO) ?_ ?_ ?_; (focus simp only [go_sem, reduceIte, Nat.reduceEqDiff, reduceCtorEq, lns, opv]); (focus simp only [go_sem, reduceIte, Nat.reduceEqDiff, reduceCtorEq, lns, opv])
                simp only [go_sem, reduceIte, Nat.reduceEqDiff, reduceCtorEq, Nat.reduceLT, Nat.reduceAdd, Nat.reduceSub, Nat.reduceMul, Nat.reduceLeDiff, Int.reduceLT, Int.reduceLE, Int.reduceToNat, Int.reduceEq, Int.reduceAdd, Int.reduceSub, Int.reduceNeg, Int.reduceBNe, Int.reduceBEq, opb, opv, flds]
                refine vCall_of (hW) ?_ ?_ ?_; (focus simp only [go_sem, reduceIte, Nat.reduceEqDiff, reduceCtorEq, flds, opv]); (focus simp only [go_sem, reduceIte, Nat.reduceEqDiff, reduceCtorEq, flds, opv])
                simp only [go_sem, reduceIte, Nat.reduceEqDiff, reduceCtorEq, Nat.reduceLT, Nat.reduceAdd, Nat.reduceSub, Nat.reduceMul, Nat.reduceLeDiff, Int.reduceLT, Int.reduceLE, Int.reduceToNat, Int.reduceEq, Int.reduceAdd, Int.reduceSub, Int.reduceNeg, Int.reduceBNe, Int.reduceBEq, intc, ez, e4, Bool.not_true]
            · have e3 : (o.kind != 3) = true := by simpa using k3
              refine PL.Pure.of_v Try.func7 (by decide) rfl Try.ntmps7 Try.results7 (by simp) rfl ?_
              simp only [go_sem, reduceIte, Nat.reduceEqDiff, reduceCtorEq, Nat.reduceLT, Nat.reduceAdd, Nat.reduceSub, Nat.reduceMul, Nat.reduceLeDiff, Int.reduceLT, Int.reduceLE, Int.reduceToNat, Int.reduceEq, Int.reduceAdd, Int.reduceSub, Int.reduceNeg, Int.reduceBNe, Int.reduceBEq, flds, lns, opv]
              refine vCall_of (awake21_pure) ?_ ?_ ?_; (focus simp only [go_sem, reduceIte, Nat.reduceEqDiff, reduceCtorEq]); (focus simp only [go_sem, reduceIte, Nat.reduceEqDiff, reduceCtorEq])
              simp only [go_sem, reduceIte, Nat.reduceEqDiff, reduceCtorEq, Nat.reduceLT, Nat.reduceAdd, Nat.reduceSub, Nat.reduceMul, Nat.reduceLeDiff, Int.reduceLT, Int.reduceLE, Int.reduceToNat, Int.reduceEq, Int.reduceAdd, Int.reduceSub, Int.reduceNeg, Int.reduceBNe, Int.reduceBEq]
              refine vCall_of (h1) ?_ ?_ ?_; (focus simp only [go_sem, reduceIte, Nat.reduceEqDiff, reduceCtorEq, flds]); (focus simp only [go_sem, reduceIte, Nat.reduceEqDiff, reduceCtorEq, flds])
              simp only [go_sem, reduceIte, Nat.reduceEqDiff, reduceCtorEq, Nat.reduceLT, Nat.reduceAdd, Nat.reduceSub, Nat.reduceMul, Nat.reduceLeDiff, Int.reduceLT, Int.reduceLE, Int.reduceToNat, Int.reduceEq, Int.reduceAdd, Int.reduceSub, Int.reduceNeg, Int.reduceBNe, Int.reduceBEq]
              refine vCall_of (h2) ?_ ?_ ?_; (focus simp only [go_sem, reduceIte, Nat.reduceEqDiff, reduceCtorEq, lns]); (focus simp only [go_sem, reduceIte, Nat.reduceEqDiff, reduceCtorEq, lns])
              simp only [go_sem, reduceIte, Nat.reduceEqDiff, reduceCtorEq, Nat.reduceLT, Nat.reduceAdd, Nat.reduceSub, Nat.reduceMul, Nat.reduceLeDiff, Int.reduceLT, Int.reduceLE, Int.reduceToNat, Int.reduceEq, Int.reduceAdd, Int.reduceSub, Int.reduceNeg, Int.reduceBNe, Int.reduceBEq]
              refine vCall_of (h3) ?_ ?_ ?_; (focus simp only [go_sem, reduceIte, Nat.reduceEqDiff, reduceCtorEq, opv]); (focus simp only [go_sem, reduceIte, Nat.reduceEqDiff, reduceCtorEq, opv])
              simp only [go_sem, reduceIte, Nat.reduceEqDiff, reduceCtorEq, Nat.reduceLT, Nat.reduceAdd, Nat.reduceSub, Nat.reduceMul, Nat.reduceLeDiff, Int.reduceLT, Int.reduceLE, Int.reduceToNat, Int.reduceEq, Int.reduceAdd, Int.reduceSub, Int.reduceNeg, Int.reduceBNe, Int.reduceBEq]
              refine vCall_of (w1) ?_ ?_ ?_; (focus simp only [go_sem, reduceIte, Nat.reduceEqDiff, reduceCtorEq, flds, opv]); (focus simp only [go_sem, reduceIte, Nat.reduceEqDiff, reduceCtorEq, flds, opv])
              simp only [go_sem, reduceIte, Nat.reduceEqDiff, reduceCtorEq, Nat.reduceLT, Nat.reduceAdd, Nat.reduceSub, Nat.reduceMul, Nat.reduceLeDiff, Int.reduceLT, Int.reduceLE, Int.reduceToNat, Int.reduceEq, Int.reduceAdd, Int.reduceSub, Int.reduceNeg, Int.reduceBNe, Int.reduceBEq, intc, flds]
              refine vCall_of (w2) ?_ ?_ ?_; (focus simp only [go_sem, reduceIte, Nat.reduceEqDiff, reduceCtorEq, flds, opv]); (focus simp only [go_sem, reduceIte, Nat.reduceEqDiff, reduceCtorEq, flds, opv])
              simp only [go_sem, reduceIte, Nat.reduceEqDiff, reduceCtorEq, Nat.reduceLT, Nat.reduceAdd, Nat.reduceSub, Nat.reduceMul, Nat.reduceLeDiff, Int.reduceLT, Int.reduceLE, Int.reduceToNat, Int.reduceEq, Int.reduceAdd, Int.reduceSub, Int.reduceNeg, Int.reduceBNe, Int.reduceBEq, intc, n1, n2, flds, lns]
              refine vCall_of (hA) ?_ ?_ ?_; (focus simp only [go_sem, reduceIte, Nat.reduceEqDiff, reduceCtorEq, flds, lns]); (focus simp only [go_sem, reduceIte, Nat.reduceEqDiff, reduceCtorEq, flds, lns])
              simp only [go_sem, reduceIte, Nat.reduceEqDiff, reduceCtorEq, Nat.reduceLT, Nat.reduceAdd, Nat.reduceSub, Nat.reduceMul, Nat.reduceLeDiff, Int.reduceLT, Int.reduceLE, Int.reduceToNat, Int.reduceEq, Int.reduceAdd, Int.reduceSub, Int.reduceNeg, Int.reduceBNe, Int.reduceBEq, fldsc, flds, ec, opv]
              refine vCall_of (hF) ?_ ?_ ?_; (focus simp only [go_sem, reduceIte, Nat.reduceEqDiff, reduceCtorEq, flds, opv]); (focus simp only [go_sem, reduceIte, Nat.reduceEqDiff, reduceCtorEq, flds, opv])
              simp only [go_sem, reduceIte, Nat.reduceEqDiff, reduceCtorEq, Nat.reduceLT, Nat.reduceAdd, Nat.reduceSub, Nat.reduceMul, Nat.reduceLeDiff, Int.reduceLT, Int.reduceLE, Int.reduceToNat, Int.reduceEq, Int.reduceAdd, Int.reduceSub, Int.reduceNeg, Int.reduceBNe, Int.reduceBEq, Bool.not_true, e3]
        · have ec : (c != 0) = true := by simpa using hc
          refine PL.Pure.of_v Try.func7 (by decide) rfl Try.ntmps7 Try.results7 (by simp) rfl ?_
          simp only [go_sem, reduceIte, Nat.reduceEqDiff, reduceCtorEq, Nat.reduceLT, Nat.reduceAdd, Nat.reduceSub, Nat.reduceMul, Nat.reduceLeDiff, Int.reduceLT, Int.reduceLE, Int.reduceToNat, Int.reduceEq, Int.reduceAdd, Int.reduceSub, Int.reduceNeg, Int.reduceBNe, Int.reduceBEq, flds, lns, opv]
          refine vCall_of (awake21_pure) ?_ ?_ ?_; (focus simp only [go_sem, reduceIte, Nat.reduceEqDiff, reduceCtorEq]); (focus simp only [go_sem, reduceIte, Nat.reduceEqDiff, reduceCtorEq])
          simp only [go_sem, reduceIte, Nat.reduceEqDiff, reduceCtorEq, Nat.reduceLT, Nat.reduceAdd, Nat.reduceSub, Nat.reduceMul, Nat.reduceLeDiff, Int.reduceLT, Int.reduceLE, Int.reduceToNat, Int.reduceEq, Int.reduceAdd, Int.reduceSub, Int.reduceNeg, Int.reduceBNe, Int.reduceBEq]
          refine vCall_of (h1) ?_ ?_ ?_; (focus simp only [go_sem, reduceIte, Nat.reduceEqDiff, reduceCtorEq, flds]); (focus simp only [go_sem, reduceIte, Nat.reduceEqDiff, reduceCtorEq, flds])
          simp only [go_sem, reduceIte, Nat.reduceEqDiff, reduceCtorEq, Nat.reduceLT, Nat.reduceAdd, Nat.reduceSub, Nat.reduceMul, Nat.reduceLeDiff, Int.reduceLT, Int.reduceLE, Int.reduceToNat, Int.reduceEq, Int.reduceAdd, Int.reduceSub, Int.reduceNeg, Int.reduceBNe, Int.reduceBEq]
          refine vCall_of (h2) ?_ ?_ ?_; (focus simp only [go_sem, reduceIte, Nat.reduceEqDiff, reduceCtorEq, lns]); (focus simp only [go_sem, reduceIte, Nat.reduceEqDiff, reduceCtorEq, lns])
          simp only [go_sem, reduceIte, Nat.reduceEqDiff, reduceCtorEq, Nat.reduceLT, Nat.reduceAdd, Nat.reduceSub, Nat.reduceMul, Nat.reduceLeDiff, Int.reduceLT, Int.reduceLE, Int.reduceToNat, Int.reduceEq, Int.reduceAdd, Int.reduceSub, Int.reduceNeg, Int.reduceBNe, Int.reduceBEq]
          refine vCall_of (h3) ?_ ?_ ?_; (focus simp only [go_sem, reduceIte, Nat.reduceEqDiff, reduceCtorEq, opv]); (focus simp only [go_sem, reduceIte, Nat.reduceEqDiff, reduceCtorEq, opv])
          simp only [go_sem, reduceIte, Nat.reduceEqDiff, reduceCtorEq, Nat.reduceLT, Nat.reduceAdd, Nat.reduceSub, Nat.reduceMul, Nat.reduceLeDiff, Int.reduceLT, Int.reduceLE, Int.reduceToNat, Int.reduceEq, Int.reduceAdd, Int.reduceSub, Int.reduceNeg, Int.reduceBNe, Int.reduceBEq]
          refine vCall_of (w1) ?_ ?_ ?_; (focus simp only [go_sem, reduceIte, Nat.reduceEqDiff, reduceCtorEq, flds, opv]); (focus simp only [go_sem, reduceIte, Nat.reduceEqDiff, reduceCtorEq, flds, opv])
          simp only [go_sem, reduceIte, Nat.reduceEqDiff, reduceCtorEq, Nat.reduceLT, Nat.reduceAdd, Nat.reduceSub, Nat.reduceMul, Nat.reduceLeDiff, Int.reduceLT, Int.reduceLE, Int.reduceToNat, Int.reduceEq, Int.reduceAdd, Int.reduceSub, Int.reduceNeg, Int.reduceBNe, Int.reduceBEq, intc, flds]
          refine vCall_of (w2) ?_ ?_ ?_; (focus simp only [go_sem, reduceIte, Nat.reduceEqDiff, reduceCtorEq, flds, opv]); (focus simp only [go_sem, reduceIte, Nat.reduceEqDiff, reduceCtorEq, flds, opv])
          simp only [go_sem, reduceIte, Nat.reduceEqDiff, reduceCtorEq, Nat.reduceLT, Nat.reduceAdd, Nat.reduceSub, Nat.reduceMul, Nat.reduceLeDiff, Int.reduceLT, Int.reduceLE, Int.reduceToNat, Int.reduceEq, Int.reduceAdd, Int.reduceSub, Int.reduceNeg, Int.reduceBNe, Int.reduceBEq, intc, n1, n2, flds, lns]
          refine vCall_of (hA) ?_ ?_ ?_; (focus simp only [go_sem, reduceIte, Nat.reduceEqDiff, reduceCtorEq, flds, lns]); (focus simp only [go_sem, reduceIte, Nat.reduceEqDiff, reduceCtorEq, flds, lns])
          simp only [go_sem, reduceIte, Nat.reduceEqDiff, reduceCtorEq, Nat.reduceLT, Nat.reduceAdd, Nat.reduceSub, Nat.reduceMul, Nat.reduceLeDiff, Int.reduceLT, Int.reduceLE, Int.reduceToNat, Int.reduceEq, Int.reduceAdd, Int.reduceSub, Int.reduceNeg, Int.reduceBNe, Int.reduceBEq, fldsc, flds, ec]
      · rw [hh3] at h3
        refine PL.Pure.of_v Try.func7 (by decide) rfl Try.ntmps7 Try.results7 (by simp) rfl ?_
        simp only [go_sem, reduceIte, Nat.reduceEqDiff, reduceCtorEq, Nat.reduceLT, Nat.reduceAdd, Nat.reduceSub, Nat.reduceMul, Nat.reduceLeDiff, Int.reduceLT, Int.reduceLE, Int.reduceToNat, Int.reduceEq, Int.reduceAdd, Int.reduceSub, Int.reduceNeg, Int.reduceBNe, Int.reduceBEq, flds, lns, opv]
        refine vCall_of (awake21_pure) ?_ ?_ ?_; (focus simp only [go_sem, reduceIte, Nat.reduceEqDiff, reduceCtorEq]); (focus simp only [go_sem, reduceIte, Nat.reduceEqDiff, reduceCtorEq])
        simp only [go_sem, reduceIte, Nat.reduceEqDiff, reduceCtorEq, Nat.reduceLT, Nat.reduceAdd, Nat.reduceSub, Nat.reduceMul, Nat.reduceLeDiff, Int.reduceLT, Int.reduceLE, Int.reduceToNat, Int.reduceEq, Int.reduceAdd, Int.reduceSub, Int.reduceNeg, Int.reduceBNe, Int.reduceBEq]
        refine vCall_of (h1) ?_ ?_ ?_; (focus simp only [go_sem, reduceIte, Nat.reduceEqDiff, reduceCtorEq, flds]); (focus simp only [go_sem, reduceIte, Nat.reduceEqDiff, reduceCtorEq, flds])
        simp only [go_sem, reduceIte, Nat.reduceEqDiff, reduceCtorEq, Nat.reduceLT, Nat.reduceAdd, Nat.reduceSub, Nat.reduceMul, Nat.reduceLeDiff, Int.reduceLT, Int.reduceLE, Int.reduceToNat, Int.reduceEq, Int.reduceAdd, Int.reduceSub, Int.reduceNeg, Int.reduceBNe, Int.reduceBEq]
        refine vCall_of (h2) ?_ ?_ ?_; (focus simp only [go_sem, reduceIte, Nat.reduceEqDiff, reduceCtorEq, lns]); (focus simp only [go_sem, reduceIte, Nat.reduceEqDiff, reduceCtorEq, lns])
        simp only [go_sem, reduceIte, Nat.reduceEqDiff, reduceCtorEq, Nat.reduceLT, Nat.reduceAdd, Nat.reduceSub, Nat.reduceMul, Nat.reduceLeDiff, Int.reduceLT, Int.reduceLE, Int.reduceToNat, Int.reduceEq, Int.reduceAdd, Int.reduceSub, Int.reduceNeg, Int.reduceBNe, Int.reduceBEq]
        refine vCall_of (h3) ?_ ?_ ?_; (focus simp only [go_sem, reduceIte, Nat.reduceEqDiff, reduceCtorEq, opv]); (focus simp only [go_sem, reduceIte, Nat.reduceEqDiff, reduceCtorEq, opv])
        simp only [go_sem, reduceIte, Nat.reduceEqDiff, reduceCtorEq, Nat.reduceLT, Nat.reduceAdd, Nat.reduceSub, Nat.reduceMul, Nat.reduceLeDiff, Int.reduceLT, Int.reduceLE, Int.reduceToNat, Int.reduceEq, Int.reduceAdd, Int.reduceSub, Int.reduceNeg, Int.reduceBNe, Int.reduceBEq]
    · rw [hh2] at h2
      refine PL.Pure.of_v Try.func7 (by decide) rfl Try.ntmps7 Try.results7 (by simp) rfl ?_
      simp only [go_sem, reduceIte, Nat.reduceEqDiff, reduceCtorEq, Nat.reduceLT, Nat.reduceAdd, Nat.reduceSub, Nat.reduceMul, Nat.reduceLeDiff, Int.reduceLT, Int.reduceLE, Int.reduceToNat, Int.reduceEq, Int.reduceAdd, Int.reduceSub, Int.reduceNeg, Int.reduceBNe, Int.reduceBEq, flds, lns, opv]
      refine vCall_of (awake21_pure) ?_ ?_ ?_; (focus simp only [go_sem, reduceIte, Nat.reduceEqDiff, reduceCtorEq]); (focus simp only [go_sem, reduceIte, Nat.reduceEqDiff, reduceCtorEq])
      simp only [go_sem, reduceIte, Nat.reduceEqDiff, reduceCtorEq, Nat.reduceLT, Nat.reduceAdd, Nat.reduceSub, Nat.reduceMul, Nat.reduceLeDiff, Int.reduceLT, Int.reduceLE, Int.reduceToNat, Int.reduceEq, Int.reduceAdd, Int.reduceSub, Int.reduceNeg, Int.reduceBNe, Int.reduceBEq]
      refine vCall_of (h1) ?_ ?_ ?_; (focus simp only [go_sem, reduceIte, Nat.reduceEqDiff, reduceCtorEq, flds]); (focus simp only [go_sem, reduceIte, Nat.reduceEqDiff, reduceCtorEq, flds])
      simp only [go_sem, reduceIte, Nat.reduceEqDiff, reduceCtorEq, Nat.reduceLT, Nat.reduceAdd, Nat.reduceSub, Nat.reduceMul, Nat.reduceLeDiff, Int.reduceLT, Int.reduceLE, Int.reduceToNat, Int.reduceEq, Int.reduceAdd, Int.reduceSub, Int.reduceNeg, Int.reduceBNe, Int.reduceBEq]
      refine vCall_of (h2) ?_ ?_ ?_; (focus simp only [go_sem, reduceIte, Nat.reduceEqDiff, reduceCtorEq, lns]); (focus simp only [go_sem, reduceIte, Nat.reduceEqDiff, reduceCtorEq, lns])
      simp only [go_sem, reduceIte, Nat.reduceEqDiff, reduceCtorEq, Nat.reduceLT, Nat.reduceAdd, Nat.reduceSub, Nat.reduceMul, Nat.reduceLeDiff, Int.reduceLT, Int.reduceLE, Int.reduceToNat, Int.reduceEq, Int.reduceAdd, Int.reduceSub, Int.reduceNeg, Int.reduceBNe, Int.reduceBEq]
  · rw [hh1] at h1
    refine PL.Pure.of_v Try.func7 (by decide) rfl Try.ntmps7 Try.results7 (by simp) rfl ?_
    simp only [go_sem, reduceIte, Nat.reduceEqDiff, reduceCtorEq, Nat.reduceLT, Nat.reduceAdd, Nat.reduceSub, Nat.reduceMul, Nat.reduceLeDiff, Int.reduceLT, Int.reduceLE, Int.reduceToNat, Int.reduceEq, Int.reduceAdd, Int.reduceSub, Int.reduceNeg, Int.reduceBNe, Int.reduceBEq, flds, lns, opv]
    refine vCall_of (awake21_pure) ?_ ?_ ?_; (focus simp only [go_sem, reduceIte, Nat.reduceEqDiff, reduceCtorEq]); (focus simp only [go_sem, reduceIte, Nat.reduceEqDiff, reduceCtorEq])
    simp only [go_sem, reduceIte, Nat.reduceEqDiff, reduceCtorEq, Nat.reduceLT, Nat.reduceAdd, Nat.reduceSub, Nat.reduceMul, Nat.reduceLeDiff, Int.reduceLT, Int.reduceLE, Int.reduceToNat, Int.reduceEq, Int.reduceAdd, Int.reduceSub, Int.reduceNeg, Int.reduceBNe, Int.reduceBEq]
    refine vCall_of (h1) ?_ ?_ ?_; (focus simp only [go_sem, reduceIte, Nat.reduceEqDiff, reduceCtorEq, flds]); (focus simp only [go_sem, reduceIte, Nat.reduceEqDiff, reduceCtorEq, flds])
    simp only [go_sem, reduceIte, Nat.reduceEqDiff, reduceCtorEq, Nat.reduceLT, Nat.reduceAdd, Nat.reduceSub, Nat.reduceMul, Nat.reduceLeDiff, Int.reduceLT, Int.reduceLE, Int.reduceToNat, Int.reduceEq, Int.reduceAdd, Int.reduceSub, Int.reduceNeg, Int.reduceBNe, Int.reduceBEq]
end Go.Proofs.Ytbojhapdidieoaa
