/- For every list of fields, every document, every text, every entry, every reference the law DocSets returns true and changes nothing. No condition. -/
import Derived.Test.YtmnibpgmcgdfpaaXAa
import Derived.Test.YtmnibpgmcgdfpaaXAn
import Derived.Test.YtmnibpgmcgdfpaaXAu
import Derived.Test.YtmnibpgmcgdfpaaXDc
set_option linter.unusedSimpArgs false
set_option linter.unusedVariables false
set_option linter.unusedSimpArgs false
set_option linter.unusedVariables false
namespace Go.Proofs.Ytmnibpgmcgdfpaa
open Go.PL
open Go.ChangeShapes Go.WideShapes Go.ChangeAt Go.RowKit
set_option maxRecDepth 100000 in
theorem docSets_lifted (os : Os) (started : os.Started) (H : Type) (enc : TypeId × Value → H) :
    ReturnsInHanded {} Try.checked os 6 .any (Rows.docSetsSpec.pre6 enc Try.prog Try.f6 Rows.docSetsRow.domain false) (Rows.docSetsSpec.post enc Try.prog Try.f6 false true false false) := by
  refine returnsInHanded_of_change (C := Try.checked) Try.own started (by kernel_rfl) Try.func6
    (ChangeSpec.witness6 (enc := enc) (C := Try.checked) false ⟨#[], #[.slice none 0 0, .agg #[.slice none 0 0, .slice none 0 0], .string ⟨#[]⟩, .agg #[.int .i64 0, .string ⟨#[]⟩, .string ⟨#[]⟩, .int .i64 0, .slice none 0 0], .agg #[.int .i64 0, .string ⟨#[]⟩, .string ⟨#[]⟩]], []⟩ 8 (by kernel_rfl) (by kernel_rfl) (by kernel_rfl) (by kernel_rfl)) ?_
  intro W base args ds gs before hval0 hW hcnd _
  refine contract_of_pure (P := Try.prog) (tb := 4) Try.lays Try.laidOut rfl (by rw [Try.params6]; decide +kernel) (by kernel_rfl) Try.underlying4 (fun ds hd => ?_) (fun ps hps => ?_) W base args ds gs before hval0 hW
  · rw [Try.params6] at hd
    match ds, hd with
    | [d1, d2, d3, d4, d5], _ => rfl
  · rw [Try.params6] at hps
    obtain ⟨a0, b0, rfl, h0, r0⟩ := hps.cons_inv
    obtain ⟨a1, b1, rfl, h1, r1⟩ := r0.cons_inv
    obtain ⟨a2, b2, rfl, h2, r2⟩ := r1.cons_inv
    obtain ⟨a3, b3, rfl, h3, r3⟩ := r2.cons_inv
    obtain ⟨a4, b4, rfl, h4, r4⟩ := r3.cons_inv
    obtain ⟨x0, rfl, k0, q0⟩ := pa_flds h0
    obtain ⟨x1, rfl, k1⟩ := pa_doc h1
    obtain ⟨x2, rfl, _⟩ := PA.string (P := Try.prog) Try.underlying9 h2
    obtain ⟨x3, rfl, k3⟩ := pa_ent h3
    obtain ⟨x4, rfl⟩ := pa_ref h4
    rw [r4.nil_inv]
    exact DocSets_pure x0 x1 x2 x3 x4 k0 q0 k1 k3
theorem docSets_holds : Rows.DocSetsSaid :=
  OpenClaim.holds_of_wide 6 Try.f6 rfl rfl rfl rfl rfl rfl rfl ⟨rfl, rfl, rfl, rfl, rfl⟩ rfl rfl rfl rfl rfl (by kernel_rfl) Try.func6 (by kernel_rfl)
    (of_decide_eq_true (by kernel_rfl)) (by unfold Func.isWrapper; first | (rw [if_pos (by decide +kernel)]; kernel_rfl) | (rw [if_neg (by decide +kernel)]; exact ⟨rfl, rfl⟩))
    (fun os started H enc _ => docSets_lifted os started H enc)
end Go.Proofs.Ytmnibpgmcgdfpaa
#print axioms Go.Proofs.Ytmnibpgmcgdfpaa.docSets_holds
