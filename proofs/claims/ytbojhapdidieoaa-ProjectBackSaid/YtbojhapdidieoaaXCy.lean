/- Contracts of functions and laws of this seat, each for every input that it names: lemmas of the proof. -/
import Derived.Test.YtbojhapdidieoaaXCu
import Derived.Test.YtbojhapdidieoaaXBy
import Derived.Test.YtbojhapdidieoaaXAh
import Derived.Test.YtbojhapdidieoaaRows
import Derived.ProofKit
import Derived.Test.YtbojhapdidieoaaXAb
set_option linter.unusedSimpArgs false
set_option linter.unusedVariables false
set_option linter.unusedSimpArgs false
set_option linter.unusedVariables false
namespace Go.Proofs.Ytbojhapdidieoaa
open Go.PL
theorem over_default {l : List Fd} {x : Ln} {d : Dc} (h : (overP l x d).2 ≠ 0) : (overP l x d).1 = default := by
  unfold overP at h ⊢
  split
  · rfl
  split
  · rfl
  split
  · rfl
  split
  · rfl
  · rename_i h1 h2 h3 _ h4
    exfalso
    apply h
    rw [if_neg h1, if_neg h2, if_neg h3, h4]
theorem okDcDefault : OkDc default := ⟨by decide, by decide, (fun e he => by cases he), (fun r hr => by cases hr)⟩
set_option maxRecDepth 20000 in
set_option maxHeartbeats 32000000 in
theorem ProjectBack_pure (l : List Fd) (x : Ln) (d : Dc) (hl : l.length ≤ maxLen) (hl' : ∀ f ∈ l, f.cases'.length ≤ maxLen) (hx : LenLn x) (hd : Fine d) : PL.Pure Try.prog 10 [flds l, lns x, doc d] (.bool true) := by
  have h1 := RHeavyL_pure l hl hl'
  have h2 := RHeavyLn_pure x hx
  have h3 := Heavy_pure d hd
  cases hh1 : heavyL l
  · rw [hh1] at h1
    cases hh2 : heavyLn x
    · rw [hh2] at h2
      cases hh3 : heavyD d
      · rw [hh3] at h3
        have okl := okFsOfHeavy hh1
        have okx := okOfHeavy hh2
        have okd := okDcOfHeavy hh3
        have hP := POver_pure l x d okl okx okd
        by_cases hz : (overP l x d).2 = 0
        · have hc := (over_zero' hz).1
          have rx := (apply_right hc).2
          have okn := okDcOver (l := l) (x := x) (d := d)
          have okm := okApply okl okx
          have hA := Apply_pure l x okl okx
          have hI := Inverse_pure x okx
          have hiv : invM x = (invR x, 0) := by simp [invM, rx]
          rw [hiv] at hI
          have hP2 := POver_pure (applyM l x).1 (invR x) (overP l x d).1 okm (okInv okx) okn
          have key := over_back (l := l) (x := x) (d := d)
          have hS := RSameD_pure d d okd.fine okd.fine
          rw [decide_eq_true rfl] at hS
          have hK := Kept_pure x x.at' okx
          have hk := (rightLn_kind rx).1
          have key2 : Leads x → overP (applyM l x).1 (invR x) (overP l x d).1 = (d, 0) := fun h => key h hz
          clear key
          generalize applyM l x = ap at *
          obtain ⟨m, c1⟩ := ap
          generalize overP l x d = ov at *
          obtain ⟨nd, c2⟩ := ov
          simp only at hc hz hP2 key2
          subst hc hz
          unfold Leads at key2
          generalize invR x = iv at *
          generalize hkt : keptM x x.at' = kt at *
          obtain ⟨kind, at', nm, ot, fac, fd, fo, ba⟩ := x
          simp only at hk key2 hK
          rcases hk with rfl | rfl | rfl | rfl | rfl | rfl | rfl | rfl | rfl | rfl
          ·
            rw [key2 (by omega)] at hP2
            refine PL.Pure.of_v Try.func10 (by decide) rfl Try.ntmps10 Try.results10 (by simp) rfl ?_
            simp only [go_sem, flds, lns, doc]
            refine vCall_of (awake24_pure) ?_ ?_ ?_; (focus simp only [go_sem]); (focus simp only [go_sem])
            simp only [go_sem, flds]
            refine vCall_of (h1) ?_ ?_ ?_; (focus simp only [go_sem, flds]); (focus simp only [go_sem, flds])
            simp only [go_sem, lns]
            refine vCall_of (h2) ?_ ?_ ?_; (focus simp only [go_sem, lns]); (focus simp only [go_sem, lns])
            simp only [go_sem, doc]
            refine vCall_of (h3) ?_ ?_ ?_; (focus simp only [go_sem, doc]); (focus simp only [go_sem, doc])
            simp only [go_sem, flds, lns, doc]
            refine vCall_of (hP) ?_ ?_ ?_; (focus simp only [go_sem, flds, lns, doc]); (focus simp only [go_sem, flds, lns, doc])
            simp only [go_sem, docc, doc, lns, flds]
            refine vCall_of (hA) ?_ ?_ ?_; (focus simp only [go_sem, flds, lns]); (focus simp only [go_sem, flds, lns])
            simp only [go_sem, fldsc, flds, lns]
            refine vCall_of (hI) ?_ ?_ ?_; (focus simp only [go_sem, lns]); (focus simp only [go_sem, lns])
            simp only [go_sem, lnc, lns, flds, doc]
            refine vCall_of (hP2) ?_ ?_ ?_; (focus simp only [go_sem, flds, lns, doc]); (focus simp only [go_sem, flds, lns, doc])
            simp only [go_sem, docc, doc]
            refine vCall_of (hS) ?_ ?_ ?_; (focus simp only [go_sem, doc]); (focus simp only [go_sem, doc])
            simp only [go_sem]
          ·
            refine PL.Pure.of_v Try.func10 (by decide) rfl Try.ntmps10 Try.results10 (by simp) rfl ?_
            simp only [go_sem, flds, lns, doc]
            refine vCall_of (awake24_pure) ?_ ?_ ?_; (focus simp only [go_sem]); (focus simp only [go_sem])
            simp only [go_sem, flds]
            refine vCall_of (h1) ?_ ?_ ?_; (focus simp only [go_sem, flds]); (focus simp only [go_sem, flds])
            simp only [go_sem, lns]
            refine vCall_of (h2) ?_ ?_ ?_; (focus simp only [go_sem, lns]); (focus simp only [go_sem, lns])
            simp only [go_sem, doc]
            refine vCall_of (h3) ?_ ?_ ?_; (focus simp only [go_sem, doc]); (focus simp only [go_sem, doc])
            simp only [go_sem, flds, lns, doc]
            refine vCall_of (hP) ?_ ?_ ?_; (focus simp only [go_sem, flds, lns, doc]); (focus simp only [go_sem, flds, lns, doc])
            simp only [go_sem, docc, doc, lns, ref]
          ·
            refine PL.Pure.of_v Try.func10 (by decide) rfl Try.ntmps10 Try.results10 (by simp) rfl ?_
            simp only [go_sem, flds, lns, doc]
            refine vCall_of (awake24_pure) ?_ ?_ ?_; (focus simp only [go_sem]); (focus simp only [go_sem])
            simp only [go_sem, flds]
            refine vCall_of (h1) ?_ ?_ ?_; (focus simp only [go_sem, flds]); (focus simp only [go_sem, flds])
            simp only [go_sem, lns]
            refine vCall_of (h2) ?_ ?_ ?_; (focus simp only [go_sem, lns]); (focus simp only [go_sem, lns])
            simp only [go_sem, doc]
            refine vCall_of (h3) ?_ ?_ ?_; (focus simp only [go_sem, doc]); (focus simp only [go_sem, doc])
            simp only [go_sem, flds, lns, doc]
            refine vCall_of (hP) ?_ ?_ ?_; (focus simp only [go_sem, flds, lns, doc]); (focus simp only [go_sem, flds, lns, doc])
            simp only [go_sem, docc, doc, lns, ref]
          ·
            rw [key2 (by omega)] at hP2
            refine PL.Pure.of_v Try.func10 (by decide) rfl Try.ntmps10 Try.results10 (by simp) rfl ?_
            simp only [go_sem, flds, lns, doc]
            refine vCall_of (awake24_pure) ?_ ?_ ?_; (focus simp only [go_sem]); (focus simp only [go_sem])
            simp only [go_sem, flds]
            refine vCall_of (h1) ?_ ?_ ?_; (focus simp only [go_sem, flds]); (focus simp only [go_sem, flds])
            simp only [go_sem, lns]
            refine vCall_of (h2) ?_ ?_ ?_; (focus simp only [go_sem, lns]); (focus simp only [go_sem, lns])
            simp only [go_sem, doc]
            refine vCall_of (h3) ?_ ?_ ?_; (focus simp only [go_sem, doc]); (focus simp only [go_sem, doc])
            simp only [go_sem, flds, lns, doc]
            refine vCall_of (hP) ?_ ?_ ?_; (focus simp only [go_sem, flds, lns, doc]); (focus simp only [go_sem, flds, lns, doc])
            simp only [go_sem, docc, doc, lns, flds]
            refine vCall_of (hA) ?_ ?_ ?_; (focus simp only [go_sem, flds, lns]); (focus simp only [go_sem, flds, lns])
            simp only [go_sem, fldsc, flds, lns]
            refine vCall_of (hI) ?_ ?_ ?_; (focus simp only [go_sem, lns]); (focus simp only [go_sem, lns])
            simp only [go_sem, lnc, lns, flds, doc]
            refine vCall_of (hP2) ?_ ?_ ?_; (focus simp only [go_sem, flds, lns, doc]); (focus simp only [go_sem, flds, lns, doc])
            simp only [go_sem, docc, doc]
            refine vCall_of (hS) ?_ ?_ ?_; (focus simp only [go_sem, doc]); (focus simp only [go_sem, doc])
            simp only [go_sem]
          ·
            rw [key2 (by omega)] at hP2
            refine PL.Pure.of_v Try.func10 (by decide) rfl Try.ntmps10 Try.results10 (by simp) rfl ?_
            simp only [go_sem, flds, lns, doc]
            refine vCall_of (awake24_pure) ?_ ?_ ?_; (focus simp only [go_sem]); (focus simp only [go_sem])
            simp only [go_sem, flds]
            refine vCall_of (h1) ?_ ?_ ?_; (focus simp only [go_sem, flds]); (focus simp only [go_sem, flds])
            simp only [go_sem, lns]
            refine vCall_of (h2) ?_ ?_ ?_; (focus simp only [go_sem, lns]); (focus simp only [go_sem, lns])
            simp only [go_sem, doc]
            refine vCall_of (h3) ?_ ?_ ?_; (focus simp only [go_sem, doc]); (focus simp only [go_sem, doc])
            simp only [go_sem, flds, lns, doc]
            refine vCall_of (hP) ?_ ?_ ?_; (focus simp only [go_sem, flds, lns, doc]); (focus simp only [go_sem, flds, lns, doc])
            simp only [go_sem, docc, doc, lns, flds]
            refine vCall_of (hA) ?_ ?_ ?_; (focus simp only [go_sem, flds, lns]); (focus simp only [go_sem, flds, lns])
            simp only [go_sem, fldsc, flds, lns]
            refine vCall_of (hI) ?_ ?_ ?_; (focus simp only [go_sem, lns]); (focus simp only [go_sem, lns])
            simp only [go_sem, lnc, lns, flds, doc]
            refine vCall_of (hP2) ?_ ?_ ?_; (focus simp only [go_sem, flds, lns, doc]); (focus simp only [go_sem, flds, lns, doc])
            simp only [go_sem, docc, doc]
            refine vCall_of (hS) ?_ ?_ ?_; (focus simp only [go_sem, doc]); (focus simp only [go_sem, doc])
            simp only [go_sem]
          ·
            rw [key2 (by omega)] at hP2
            refine PL.Pure.of_v Try.func10 (by decide) rfl Try.ntmps10 Try.results10 (by simp) rfl ?_
            simp only [go_sem, flds, lns, doc]
            refine vCall_of (awake24_pure) ?_ ?_ ?_; (focus simp only [go_sem]); (focus simp only [go_sem])
            simp only [go_sem, flds]
            refine vCall_of (h1) ?_ ?_ ?_; (focus simp only [go_sem, flds]); (focus simp only [go_sem, flds])
            simp only [go_sem, lns]
            refine vCall_of (h2) ?_ ?_ ?_; (focus simp only [go_sem, lns]); (focus simp only [go_sem, lns])
            simp only [go_sem, doc]
            refine vCall_of (h3) ?_ ?_ ?_; (focus simp only [go_sem, doc]); (focus simp only [go_sem, doc])
            simp only [go_sem, flds, lns, doc]
            refine vCall_of (hP) ?_ ?_ ?_; (focus simp only [go_sem, flds, lns, doc]); (focus simp only [go_sem, flds, lns, doc])
            simp only [go_sem, docc, doc, lns, flds]
            refine vCall_of (hA) ?_ ?_ ?_; (focus simp only [go_sem, flds, lns]); (focus simp only [go_sem, flds, lns])
            simp only [go_sem, fldsc, flds, lns]
            refine vCall_of (hI) ?_ ?_ ?_; (focus simp only [go_sem, lns]); (focus simp only [go_sem, lns])
            simp only [go_sem, lnc, lns, flds, doc]
            refine vCall_of (hP2) ?_ ?_ ?_; (focus simp only [go_sem, flds, lns, doc]); (focus simp only [go_sem, flds, lns, doc])
            simp only [go_sem, docc, doc]
            refine vCall_of (hS) ?_ ?_ ?_; (focus simp only [go_sem, doc]); (focus simp only [go_sem, doc])
            simp only [go_sem]
          ·
            rw [key2 (by omega)] at hP2
            refine PL.Pure.of_v Try.func10 (by decide) rfl Try.ntmps10 Try.results10 (by simp) rfl ?_
            simp only [go_sem, flds, lns, doc]
            refine vCall_of (awake24_pure) ?_ ?_ ?_; (focus simp only [go_sem]); (focus simp only [go_sem])
            simp only [go_sem, flds]
            refine vCall_of (h1) ?_ ?_ ?_; (focus simp only [go_sem, flds]); (focus simp only [go_sem, flds])
            simp only [go_sem, lns]
            refine vCall_of (h2) ?_ ?_ ?_; (focus simp only [go_sem, lns]); (focus simp only [go_sem, lns])
            simp only [go_sem, doc]
            refine vCall_of (h3) ?_ ?_ ?_; (focus simp only [go_sem, doc]); (focus simp only [go_sem, doc])
            simp only [go_sem, flds, lns, doc]
            refine vCall_of (hP) ?_ ?_ ?_; (focus simp only [go_sem, flds, lns, doc]); (focus simp only [go_sem, flds, lns, doc])
            simp only [go_sem, docc, doc, lns, flds]
            refine vCall_of (hA) ?_ ?_ ?_; (focus simp only [go_sem, flds, lns]); (focus simp only [go_sem, flds, lns])
            simp only [go_sem, fldsc, flds, lns]
            refine vCall_of (hI) ?_ ?_ ?_; (focus simp only [go_sem, lns]); (focus simp only [go_sem, lns])
            simp only [go_sem, lnc, lns, flds, doc]
            refine vCall_of (hP2) ?_ ?_ ?_; (focus simp only [go_sem, flds, lns, doc]); (focus simp only [go_sem, flds, lns, doc])
            simp only [go_sem, docc, doc]
            refine vCall_of (hS) ?_ ?_ ?_; (focus simp only [go_sem, doc]); (focus simp only [go_sem, doc])
            simp only [go_sem]
          ·
            cases kt
            · refine PL.Pure.of_v Try.func10 (by decide) rfl Try.ntmps10 Try.results10 (by simp) rfl ?_
              simp only [go_sem, flds, lns, doc]
              refine vCall_of (awake24_pure) ?_ ?_ ?_; (focus simp only [go_sem]); (focus simp only [go_sem])
              simp only [go_sem, flds]
              refine vCall_of (h1) ?_ ?_ ?_; (focus simp only [go_sem, flds]); (focus simp only [go_sem, flds])
              simp only [go_sem, lns]
              refine vCall_of (h2) ?_ ?_ ?_; (focus simp only [go_sem, lns]); (focus simp only [go_sem, lns])
              simp only [go_sem, doc]
              refine vCall_of (h3) ?_ ?_ ?_; (focus simp only [go_sem, doc]); (focus simp only [go_sem, doc])
              simp only [go_sem, flds, lns, doc]
              refine vCall_of (hP) ?_ ?_ ?_; (focus simp only [go_sem, flds, lns, doc]); (focus simp only [go_sem, flds, lns, doc])
              simp only [go_sem, docc, doc, lns, ref]
              refine vCall_of (hK) ?_ ?_ ?_; (focus simp only [go_sem, lns, ref]); (focus simp only [go_sem, lns, ref])
              simp only [go_sem]
            · rw [key2 (.inr (.inr (.inr (.inr (.inr ⟨rfl, rfl⟩)))))] at hP2
              refine PL.Pure.of_v Try.func10 (by decide) rfl Try.ntmps10 Try.results10 (by simp) rfl ?_
              simp only [go_sem, flds, lns, doc]
              refine vCall_of (awake24_pure) ?_ ?_ ?_; (focus simp only [go_sem]); (focus simp only [go_sem])
              simp only [go_sem, flds]
              refine vCall_of (h1) ?_ ?_ ?_; (focus simp only [go_sem, flds]); (focus simp only [go_sem, flds])
              simp only [go_sem, lns]
              refine vCall_of (h2) ?_ ?_ ?_; (focus simp only [go_sem, lns]); (focus simp only [go_sem, lns])
              simp only [go_sem, doc]
              refine vCall_of (h3) ?_ ?_ ?_; (focus simp only [go_sem, doc]); (focus simp only [go_sem, doc])
              simp only [go_sem, flds, lns, doc]
              refine vCall_of (hP) ?_ ?_ ?_; (focus simp only [go_sem, flds, lns, doc]); (focus simp only [go_sem, flds, lns, doc])
              simp only [go_sem, docc, doc, lns, ref]
              refine vCall_of (hK) ?_ ?_ ?_; (focus simp only [go_sem, lns, ref]); (focus simp only [go_sem, lns, ref])
              simp only [go_sem, flds, lns]
              refine vCall_of (hA) ?_ ?_ ?_; (focus simp only [go_sem, flds, lns]); (focus simp only [go_sem, flds, lns])
              simp only [go_sem, fldsc, flds, lns]
              refine vCall_of (hI) ?_ ?_ ?_; (focus simp only [go_sem, lns]); (focus simp only [go_sem, lns])
              simp only [go_sem, lnc, lns, flds, doc]
              refine vCall_of (hP2) ?_ ?_ ?_; (focus simp only [go_sem, flds, lns, doc]); (focus simp only [go_sem, flds, lns, doc])
              simp only [go_sem, docc, doc]
              refine vCall_of (hS) ?_ ?_ ?_; (focus simp only [go_sem, doc]); (focus simp only [go_sem, doc])
              simp only [go_sem]
          ·
            refine PL.Pure.of_v Try.func10 (by decide) rfl Try.ntmps10 Try.results10 (by simp) rfl ?_
            simp only [go_sem, flds, lns, doc]
            refine vCall_of (awake24_pure) ?_ ?_ ?_; (focus simp only [go_sem]); (focus simp only [go_sem])
            simp only [go_sem, flds]
            refine vCall_of (h1) ?_ ?_ ?_; (focus simp only [go_sem, flds]); (focus simp only [go_sem, flds])
            simp only [go_sem, lns]
            refine vCall_of (h2) ?_ ?_ ?_; (focus simp only [go_sem, lns]); (focus simp only [go_sem, lns])
            simp only [go_sem, doc]
            refine vCall_of (h3) ?_ ?_ ?_; (focus simp only [go_sem, doc]); (focus simp only [go_sem, doc])
            simp only [go_sem, flds, lns, doc]
            refine vCall_of (hP) ?_ ?_ ?_; (focus simp only [go_sem, flds, lns, doc]); (focus simp only [go_sem, flds, lns, doc])
            simp only [go_sem, docc, doc, lns, ref]
          ·
            refine PL.Pure.of_v Try.func10 (by decide) rfl Try.ntmps10 Try.results10 (by simp) rfl ?_
            simp only [go_sem, flds, lns, doc]
            refine vCall_of (awake24_pure) ?_ ?_ ?_; (focus simp only [go_sem]); (focus simp only [go_sem])
            simp only [go_sem, flds]
            refine vCall_of (h1) ?_ ?_ ?_; (focus simp only [go_sem, flds]); (focus simp only [go_sem, flds])
            simp only [go_sem, lns]
            refine vCall_of (h2) ?_ ?_ ?_; (focus simp only [go_sem, lns]); (focus simp only [go_sem, lns])
            simp only [go_sem, doc]
            refine vCall_of (h3) ?_ ?_ ?_; (focus simp only [go_sem, doc]); (focus simp only [go_sem, doc])
            simp only [go_sem, flds, lns, doc]
            refine vCall_of (hP) ?_ ?_ ?_; (focus simp only [go_sem, flds, lns, doc]); (focus simp only [go_sem, flds, lns, doc])
            simp only [go_sem, docc, doc, lns, ref]
        · have hz' : ((overP l x d).2 != 0) = true := bne_iff_ne.2 hz
          have hdf := over_default hz
          have hS := RSameD_pure default default okDcDefault.fine okDcDefault.fine
          rw [decide_eq_true rfl] at hS
          generalize overP l x d = ov at *
          obtain ⟨nd, c2⟩ := ov
          simp only at hz' hdf
          subst hdf
          refine PL.Pure.of_v Try.func10 (by decide) rfl Try.ntmps10 Try.results10 (by simp) rfl ?_
          simp only [go_sem, flds, lns, doc]
          refine vCall_of (awake24_pure) ?_ ?_ ?_; (focus simp only [go_sem]); (focus simp only [go_sem])
          simp only [go_sem, flds]
          refine vCall_of (h1) ?_ ?_ ?_; (focus simp only [go_sem, flds]); (focus simp only [go_sem, flds])
          simp only [go_sem, lns]
          refine vCall_of (h2) ?_ ?_ ?_; (focus simp only [go_sem, lns]); (focus simp only [go_sem, lns])
          simp only [go_sem, doc]
          refine vCall_of (h3) ?_ ?_ ?_; (focus simp only [go_sem, doc]); (focus simp only [go_sem, doc])
          simp only [go_sem, flds, lns, doc]
          refine vCall_of (hP) ?_ ?_ ?_; (focus simp only [go_sem, flds, lns, doc]); (focus simp only [go_sem, flds, lns, doc])
          simp only [go_sem, docc, doc_default, hz']
          refine vCall_of (hS) ?_ ?_ ?_; (focus simp only [go_sem, doc_default]); (focus simp only [go_sem, doc_default])
          simp only [go_sem]
      · rw [hh3] at h3
        refine PL.Pure.of_v Try.func10 (by decide) rfl Try.ntmps10 Try.results10 (by simp) rfl ?_
        simp only [go_sem, flds, lns, doc]
        refine vCall_of (awake24_pure) ?_ ?_ ?_; (focus simp only [go_sem]); (focus simp only [go_sem])
        simp only [go_sem, flds]
        refine vCall_of (h1) ?_ ?_ ?_; (focus simp only [go_sem, flds]); (focus simp only [go_sem, flds])
        simp only [go_sem, lns]
        refine vCall_of (h2) ?_ ?_ ?_; (focus simp only [go_sem, lns]); (focus simp only [go_sem, lns])
        simp only [go_sem, doc]
        refine vCall_of (h3) ?_ ?_ ?_; (focus simp only [go_sem, doc]); (focus simp only [go_sem, doc])
        simp only [go_sem]
    · rw [hh2] at h2
      refine PL.Pure.of_v Try.func10 (by decide) rfl Try.ntmps10 Try.results10 (by simp) rfl ?_
      simp only [go_sem, flds, lns, doc]
      refine vCall_of (awake24_pure) ?_ ?_ ?_; (focus simp only [go_sem]); (focus simp only [go_sem])
      simp only [go_sem, flds]
      refine vCall_of (h1) ?_ ?_ ?_; (focus simp only [go_sem, flds]); (focus simp only [go_sem, flds])
      simp only [go_sem, lns]
      refine vCall_of (h2) ?_ ?_ ?_; (focus simp only [go_sem, lns]); (focus simp only [go_sem, lns])
      simp only [go_sem]
  · rw [hh1] at h1
    refine PL.Pure.of_v Try.func10 (by decide) rfl Try.ntmps10 Try.results10 (by simp) rfl ?_
    simp only [go_sem, flds, lns, doc]
    refine vCall_of (awake24_pure) ?_ ?_ ?_; (focus simp only [go_sem]); (focus simp only [go_sem])
    simp only [go_sem, flds]
    refine vCall_of (h1) ?_ ?_ ?_; (focus simp only [go_sem, flds]); (focus simp only [go_sem, flds])
    simp only [go_sem]
end Go.Proofs.Ytbojhapdidieoaa

set_option linter.unusedSimpArgs false
set_option linter.unusedVariables false
set_option linter.unusedSimpArgs false
set_option linter.unusedVariables false
namespace Go.Proofs.Ytbojhapdidieoaa
open Go.PL
open Go.ChangeShapes Go.WideShapes Go.ChangeAt Go.RowKit
theorem Try.own : ownKnob Try.prog.godebug = Option.none := by kernel_rfl
theorem Try.laidOut : laidOutB Try.prog = true := by kernel_rfl
theorem Try.lays : layAll Try.prog = true := by kernel_rfl
theorem oddStrs : oddB Try.prog 44 = false := by kernel_rfl
theorem oddPrs : oddB Try.prog 47 = false := by kernel_rfl
structure LenLn' (x : Ln) : Prop where
  c : x.fd.cases'.length ≤ maxLen
  f : x.fo.length ≤ maxLen
  b : x.ba.length ≤ maxLen
theorem pt_strs {cs : List PV} (h : PT Try.prog 44 cs) : ∃ l : List Str, cs = [.sl .no (l.map .str)] ∧ l.length ≤ maxLen := by
  obtain ⟨l, rfl, h1, h2⟩ := h.slice_inv oddStrs Try.underlying44
  obtain ⟨xs, rfl, _⟩ := all_told (enc := PV.str) (Q := fun _ => True) (fun p hp => by
    obtain ⟨s, rfl, _⟩ := (h2 p hp).string Try.underlying9
    exact ⟨s, rfl, trivial⟩)
  exact ⟨xs, rfl, by simpa using h1⟩
theorem pt_ref {cs : List PV} (h : PT Try.prog 43 cs) : ∃ r : Rf, cs = [.int .i64 r.sc, .str r.gr, .str r.nm] := by
  have h1 : PTs Try.prog [3, 9, 9] cs := h.struct_inv Try.underlying43
  obtain ⟨a, b, rfl, h2, h3⟩ := h1.cons_inv
  obtain ⟨c, d, rfl, h4, h5⟩ := h3.cons_inv
  obtain ⟨e, f, rfl, h6, h7⟩ := h5.cons_inv
  obtain ⟨x, rfl, _⟩ := h2.int_inv Try.underlying3
  obtain ⟨y, rfl, _⟩ := h4.string_inv Try.underlying9
  obtain ⟨z, rfl, _⟩ := h6.string_inv Try.underlying9
  rw [h7.nil_inv]
  exact ⟨⟨x, y, z⟩, rfl⟩
theorem pt_fld {cs : List PV} (h : PT Try.prog 46 cs) : ∃ f : Fd, cs = [.int .i64 f.at'.sc, .str f.at'.gr, .str f.at'.nm, .int .i64 f.kind, .str f.df, .sl .no (f.cases'.map .str), .int .i64 f.worth] ∧ f.cases'.length ≤ maxLen := by
  have h1 : PTs Try.prog [43, 3, 9, 44, 2] cs := h.struct_inv Try.underlying46
  obtain ⟨a1, b1, rfl, h2, h3⟩ := h1.cons_inv
  obtain ⟨a2, b2, rfl, h4, h5⟩ := h3.cons_inv
  obtain ⟨a3, b3, rfl, h6, h7⟩ := h5.cons_inv
  obtain ⟨a4, b4, rfl, h8, h9⟩ := h7.cons_inv
  obtain ⟨a5, b5, rfl, h10, h11⟩ := h9.cons_inv
  obtain ⟨r, rfl⟩ := pt_ref h2
  obtain ⟨x, rfl, _⟩ := h4.int_inv Try.underlying3
  obtain ⟨y, rfl, _⟩ := h6.string_inv Try.underlying9
  obtain ⟨l, rfl, hl⟩ := pt_strs h8
  obtain ⟨z, rfl, _⟩ := h10.int_inv Try.underlying2
  rw [h11.nil_inv]
  exact ⟨⟨r, x, y, l, z⟩, rfl, hl⟩
theorem pa_pair {p : PV} (h : PA Try.prog 161 p) : ∃ e : Pr, p = pr e := by
  obtain ⟨cs, rfl, h1⟩ := PA.agg tagg_161 h
  have h1 : PTs Try.prog [9, 9] cs := h1.struct_inv Try.underlying161
  obtain ⟨a, b, rfl, h2, h3⟩ := h1.cons_inv
  obtain ⟨c, d, rfl, h4, h5⟩ := h3.cons_inv
  obtain ⟨x, rfl, _⟩ := h2.string_inv Try.underlying9
  obtain ⟨y, rfl, _⟩ := h4.string_inv Try.underlying9
  rw [h5.nil_inv]
  exact ⟨⟨x, y⟩, rfl⟩
theorem pt_prs {cs : List PV} (h : PT Try.prog 47 cs) : ∃ l : List Pr, cs = [.sl .no (l.map pr)] ∧ l.length ≤ maxLen := by
  obtain ⟨l, rfl, h1, h2⟩ := h.slice_inv oddPrs Try.underlying47
  obtain ⟨xs, rfl, _⟩ := all_told (enc := pr) (Q := fun _ => True) (fun p hp => by
    obtain ⟨s, rfl⟩ := pa_pair (h2 p hp)
    exact ⟨s, rfl, trivial⟩)
  exact ⟨xs, rfl, by simpa using h1⟩
def lncellsG (x : Ln) : List PV := [.int .i64 x.kind, .int .i64 x.at'.sc, .str x.at'.gr, .str x.at'.nm, .str x.nm, .str x.ot, .int .i64 x.fac, .int .i64 x.fd.at'.sc, .str x.fd.at'.gr, .str x.fd.at'.nm, .int .i64 x.fd.kind, .str x.fd.df, .sl .no (x.fd.cases'.map .str), .int .i64 x.fd.worth, .sl .no (x.fo.map pr), .sl .no (x.ba.map pr)]
theorem pt_lens {cs : List PV} (h : PT Try.prog 49 cs) : ∃ x : Ln, cs = lncellsG x ∧ LenLn' x := by
  have h1 : PTs Try.prog [3, 43, 9, 9, 2, 46, 47, 47] cs := h.struct_inv Try.underlying49
  obtain ⟨a1, b1, rfl, h2, h3⟩ := h1.cons_inv
  obtain ⟨a2, b2, rfl, h4, h5⟩ := h3.cons_inv
  obtain ⟨a3, b3, rfl, h6, h7⟩ := h5.cons_inv
  obtain ⟨a4, b4, rfl, h8, h9⟩ := h7.cons_inv
  obtain ⟨a5, b5, rfl, h10, h11⟩ := h9.cons_inv
  obtain ⟨a6, b6, rfl, h12, h13⟩ := h11.cons_inv
  obtain ⟨a7, b7, rfl, h14, h15⟩ := h13.cons_inv
  obtain ⟨a8, b8, rfl, h16, h17⟩ := h15.cons_inv
  obtain ⟨x1, rfl, _⟩ := h2.int_inv Try.underlying3
  obtain ⟨x2, rfl⟩ := pt_ref h4
  obtain ⟨x3, rfl, _⟩ := h6.string_inv Try.underlying9
  obtain ⟨x4, rfl, _⟩ := h8.string_inv Try.underlying9
  obtain ⟨x5, rfl, _⟩ := h10.int_inv Try.underlying2
  obtain ⟨x6, rfl, k6⟩ := pt_fld h12
  obtain ⟨x7, rfl, k7⟩ := pt_prs h14
  obtain ⟨x8, rfl, k8⟩ := pt_prs h16
  rw [h17.nil_inv]
  exact ⟨⟨x1, x2, x3, x4, x5, x6, x7, x8⟩, rfl, ⟨k6, k7, k8⟩⟩
theorem pa_lens {p : PV} (h : PA Try.prog 49 p) : ∃ x : Ln, p = lns x ∧ LenLn' x := by
  obtain ⟨cs, rfl, h1⟩ := PA.agg tagg_49 h
  obtain ⟨x, rfl, k⟩ := pt_lens h1
  exact ⟨x, rfl, k⟩
end Go.Proofs.Ytbojhapdidieoaa

set_option linter.unusedSimpArgs false
set_option linter.unusedVariables false
set_option linter.unusedSimpArgs false
set_option linter.unusedVariables false
namespace Go.Proofs.Ytbojhapdidieoaa
open Go.PL
open Go.ChangeShapes Go.WideShapes Go.ChangeAt Go.RowKit
theorem oddFds : oddB Try.prog 55 = false := by kernel_rfl
theorem oddEnts : oddB Try.prog 88 = false := by kernel_rfl
theorem oddRows : oddB Try.prog 89 = false := by kernel_rfl
theorem pa_fld {p : PV} (h : PA Try.prog 46 p) : ∃ f : Fd, p = fld f ∧ f.cases'.length ≤ maxLen := by
  obtain ⟨cs, rfl, h1⟩ := PA.agg tagg_46 h
  obtain ⟨f, rfl, hf⟩ := pt_fld h1
  exact ⟨f, rfl, hf⟩
theorem pa_flds {p : PV} (h : PA Try.prog 55 p) : ∃ l : List Fd, p = flds l ∧ l.length ≤ maxLen ∧ ∀ f ∈ l, f.cases'.length ≤ maxLen := by
  obtain ⟨l, rfl, h1, h2⟩ := h.slice oddFds Try.underlying55
  obtain ⟨xs, rfl, h3⟩ := all_told (fun p hp => pa_fld (h2 p hp))
  exact ⟨xs, rfl, by simpa using h1, h3⟩
theorem pa_ent {p : PV} (h : PA Try.prog 138 p) : ∃ e : En, p = ent e ∧ e.l.length ≤ maxLen := by
  obtain ⟨cs, rfl, h1⟩ := PA.agg tagg_138 h
  have h1 : PTs Try.prog [43, 2, 44] cs := h1.struct_inv Try.underlying138
  obtain ⟨a, b, rfl, h2, h3⟩ := h1.cons_inv
  obtain ⟨c, d, rfl, h4, h5⟩ := h3.cons_inv
  obtain ⟨e, f, rfl, h6, h7⟩ := h5.cons_inv
  obtain ⟨r, rfl⟩ := pt_ref h2
  obtain ⟨n, rfl, _⟩ := h4.int_inv Try.underlying2
  obtain ⟨l, rfl, hl⟩ := pt_strs h6
  rw [h7.nil_inv]
  exact ⟨⟨r, n, l⟩, rfl, hl⟩
theorem pt_ents {cs : List PV} (h : PT Try.prog 88 cs) : ∃ l : List En, cs = [.sl .no (l.map ent)] ∧ l.length ≤ maxLen ∧ ∀ e ∈ l, e.l.length ≤ maxLen := by
  obtain ⟨l, rfl, h1, h2⟩ := h.slice_inv oddEnts Try.underlying88
  obtain ⟨xs, rfl, h3⟩ := all_told (fun p hp => pa_ent (h2 p hp))
  exact ⟨xs, rfl, by simpa using h1, h3⟩
theorem pa_row {p : PV} (h : PA Try.prog 140 p) : ∃ r : Rw, p = row r ∧ r.l.length ≤ maxLen ∧ ∀ e ∈ r.l, e.l.length ≤ maxLen := by
  obtain ⟨cs, rfl, h1⟩ := PA.agg tagg_140 h
  have h1 : PTs Try.prog [9, 88] cs := h1.struct_inv Try.underlying140
  obtain ⟨a, b, rfl, h2, h3⟩ := h1.cons_inv
  obtain ⟨c, d, rfl, h4, h5⟩ := h3.cons_inv
  obtain ⟨s, rfl, _⟩ := h2.string_inv Try.underlying9
  obtain ⟨l, rfl, hl⟩ := pt_ents h4
  rw [h5.nil_inv]
  exact ⟨⟨s, l⟩, rfl, hl⟩
theorem pa_doc {p : PV} (h : PA Try.prog 91 p) : ∃ d : Dc, p = doc d ∧ Fine d := by
  obtain ⟨cs, rfl, h1⟩ := PA.agg tagg_91 h
  have h1 : PTs Try.prog [88, 89] cs := h1.struct_inv Try.underlying91
  obtain ⟨a, b, rfl, h2, h3⟩ := h1.cons_inv
  obtain ⟨c, d, rfl, h4, h5⟩ := h3.cons_inv
  obtain ⟨l, rfl, hl⟩ := pt_ents h2
  obtain ⟨m, rfl, h6, h7⟩ := h4.slice_inv oddRows Try.underlying89
  obtain ⟨xs, rfl, h8⟩ := all_told (fun p hp => pa_row (h7 p hp))
  rw [h5.nil_inv]
  exact ⟨⟨l, xs⟩, rfl, hl.1, by simpa using h6, hl.2, h8⟩
end Go.Proofs.Ytbojhapdidieoaa
