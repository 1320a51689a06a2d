/- For every list of fields, every lens and every document the law ProjectBack returns true and changes nothing. No condition. -/
import Derived.Test.YtbojhapdidieoaaXCy
set_option linter.unusedSimpArgs false
set_option linter.unusedVariables false
set_option linter.unusedSimpArgs false
set_option linter.unusedVariables false
namespace Go.Proofs.Ytbojhapdidieoaa
open Go.PL
open Go.ChangeShapes Go.WideShapes Go.ChangeAt Go.RowKit
theorem lenLn {x : Ln} (h : LenLn' x) : LenLn x := ⟨h.c, h.f, h.b⟩
set_option maxRecDepth 100000 in
theorem projectBack_lifted (os : Os) (started : os.Started) (H : Type) (enc : TypeId × Value → H) :
    ReturnsInHanded {} Try.checked os 10 .any (Rows.projectBackSpec.pre6 enc Try.prog Try.f10 Rows.projectBackRow.domain false) (Rows.projectBackSpec.post enc Try.prog Try.f10 false true false false) := by
  refine returnsInHanded_of_change (C := Try.checked) Try.own started (by kernel_rfl) Try.func10
    (ChangeSpec.witness6 (enc := enc) (C := Try.checked) false ⟨#[], #[.slice none 0 0, .agg #[.int .i64 0, .int .i64 0, .string ⟨#[]⟩, .string ⟨#[]⟩, .string ⟨#[]⟩, .string ⟨#[]⟩, .int .i64 0, .int .i64 0, .string ⟨#[]⟩, .string ⟨#[]⟩, .int .i64 0, .string ⟨#[]⟩, .slice none 0 0, .int .i64 0, .slice none 0 0, .slice none 0 0], .agg #[.slice none 0 0, .slice none 0 0]], []⟩ 8 (by kernel_rfl) (by kernel_rfl) (by kernel_rfl) (by kernel_rfl)) ?_
  intro W base args ds gs before hval0 hW hcnd _
  refine contract_of_pure (P := Try.prog) (tb := 4) Try.lays Try.laidOut rfl (by rw [Try.params10]; decide +kernel) (by kernel_rfl) Try.underlying4 (fun ds hd => ?_) (fun ps hps => ?_) W base args ds gs before hval0 hW
  · rw [Try.params10] at hd
    match ds, hd with
    | [d1, d2, d3], _ => rfl
  · rw [Try.params10] at hps
    obtain ⟨a0, b0, rfl, h0, r0⟩ := hps.cons_inv
    obtain ⟨a1, b1, rfl, h1, r1⟩ := r0.cons_inv
    obtain ⟨a2, b2, rfl, h2, r2⟩ := r1.cons_inv
    obtain ⟨x0, rfl, k0, q0⟩ := pa_flds h0
    obtain ⟨x1, rfl, k1⟩ := pa_lens h1
    obtain ⟨x2, rfl, k2⟩ := pa_doc h2
    rw [r2.nil_inv]
    exact ProjectBack_pure x0 x1 x2 k0 q0 (lenLn k1) k2
theorem projectBack_holds : Rows.ProjectBackSaid :=
  OpenClaim.holds_of_wide 10 Try.f10 rfl rfl rfl rfl rfl rfl rfl ⟨rfl, rfl, rfl, rfl, rfl⟩ rfl rfl rfl rfl rfl (by kernel_rfl) Try.func10 (by kernel_rfl)
    (of_decide_eq_true (by kernel_rfl)) (by unfold Func.isWrapper; first | (rw [if_pos (by decide +kernel)]; kernel_rfl) | (rw [if_neg (by decide +kernel)]; exact ⟨rfl, rfl⟩))
    (fun os started H enc _ => projectBack_lifted os started H enc)
end Go.Proofs.Ytbojhapdidieoaa
#print axioms Go.Proofs.Ytbojhapdidieoaa.projectBack_holds
