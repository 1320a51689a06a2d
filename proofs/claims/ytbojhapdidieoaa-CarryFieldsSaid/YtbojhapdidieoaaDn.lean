/- Contracts of functions and laws of this seat, each for every input that it names: lemmas of the proof. -/
import Derived.Test.YtbojhapdidieoaaDm
set_option linter.unusedSimpArgs false
set_option linter.unusedVariables false
set_option linter.unusedSimpArgs false
set_option linter.unusedVariables false
namespace Go.Proofs.Ytbojhapdidieoaa
open Go.PL
def rowOk (l : List Fd) (rs : List Rw) (i : Nat) : Bool :=
  (nameB (rs.getD i default).item && (decide (i = 0) || bytesLt (rs.getD (i - 1) default).item (rs.getD i default).item)) && entriesB (scopeM l 1) (rs.getD i default).l
def headOk (l : List Fd) (d : Dc) : Bool := rightL l && (!decide (400 < (d.rows.length : Int)) && entriesB (scopeM l 0) d.head)
def rightD (l : List Fd) (d : Dc) : Bool := headOk l d && (List.range d.rows.length).all (rowOk l d.rows)
theorem rightL_len {l : List Fd} (h : rightL l = true) : l.length ≤ 16 := by
  simp only [rightL, Bool.and_eq_true, Bool.not_eq_true', decide_eq_false_iff_not] at h
  omega