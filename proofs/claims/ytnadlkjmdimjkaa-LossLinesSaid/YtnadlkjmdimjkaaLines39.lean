/- For every list of fates the law LossLines returns true and changes nothing. No condition. -/
import Derived.Test.YtnadlkjmdimjkaaXCr
set_option linter.unusedSimpArgs false
set_option linter.unusedVariables false
set_option linter.unusedSimpArgs false
set_option linter.unusedVariables false
namespace Go.Proofs.Ytnadlkjmdimjkaa
open Go.PL
open Go.ChangeShapes Go.WideShapes Go.ChangeAt Go.RowKit
set_option maxRecDepth 100000 in
theorem lossLines_lifted (os : Os) (started : os.Started) (H : Type) (enc : TypeId × Value → H) :
    ReturnsInHanded {} Try.checked os 3 .any (Rows.lossLinesSpec.pre6 enc Try.prog Try.f3 Rows.lossLinesRow.domain false) (Rows.lossLinesSpec.post enc Try.prog Try.f3 false true false false) := by
  refine returnsInHanded_of_change (C := Try.checked) Try.own started (by kernel_rfl) Try.func3
    (ChangeSpec.witness6 (enc := enc) (C := Try.checked) false ⟨#[], #[.slice none 0 0], []⟩ 8 (by kernel_rfl) (by kernel_rfl) (by kernel_rfl) (by kernel_rfl)) ?_
  intro W base args ds gs before hval0 hW hcnd _
  refine contract_of_pure (P := Try.prog) (tb := 4) Try.lays Try.laidOut rfl (by rw [Try.params3]; decide +kernel) (by kernel_rfl) Try.underlying4 (fun ds hd => ?_) (fun ps hps => ?_) W base args ds gs before hval0 hW
  · rw [Try.params3] at hd
    match ds, hd with
    | [d1], _ => rfl
  · rw [Try.params3] at hps
    obtain ⟨a0, b0, rfl, h0, r0⟩ := hps.cons_inv
    obtain ⟨x0, rfl, k0⟩ := pa_fates h0
    rw [r0.nil_inv]
    exact LossLines_pure x0 k0
theorem lossLines_holds : Rows.LossLinesSaid :=
  OpenClaim.holds_of_wide 3 Try.f3 rfl rfl rfl rfl rfl rfl rfl ⟨rfl, rfl, rfl, rfl, rfl⟩ rfl rfl rfl rfl rfl (by kernel_rfl) Try.func3 (by kernel_rfl)
    (of_decide_eq_true (by kernel_rfl)) (by unfold Func.isWrapper; first | (rw [if_pos (by decide +kernel)]; kernel_rfl) | (rw [if_neg (by decide +kernel)]; exact ⟨rfl, rfl⟩))
    (fun os started H enc _ => lossLines_lifted os started H enc)
end Go.Proofs.Ytnadlkjmdimjkaa
#print axioms Go.Proofs.Ytnadlkjmdimjkaa.lossLines_holds
