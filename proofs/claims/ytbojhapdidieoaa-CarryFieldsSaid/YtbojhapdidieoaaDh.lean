/- Contracts of functions and laws of this seat, each for every input that it names: lemmas of the proof. -/
import Derived.Test.YtbojhapdidieoaaDg
set_option linter.unusedSimpArgs false
set_option linter.unusedVariables false
set_option linter.unusedSimpArgs false
set_option linter.unusedVariables false
namespace Go.Proofs.Ytbojhapdidieoaa
open Go.PL
theorem print_len (r : Rf) : (printM r).length ≤ 40 := by
  unfold printM
  split
  · rename_i h
    simp only [placeB, Bool.and_eq_true, Bool.or_eq_true, decide_eq_true_eq] at h
    have h1 := (name_len h.2.1).2
    have h2 : r.gr.length ≤ 12 := by
      rcases h.2.2 with h | h
      · rw [h]; decide
      · exact (name_len h).2
    simp only [prefixM, List.length_append, List.length_cons, List.length_nil]
    split <;> split <;> simp only [List.length_append, List.length_cons, List.length_nil] <;> omega
  · decide
theorem strs_dids (l : List Str) : (strs l).dids = [] := by simp only [strs, PV.dids, didsL_str]