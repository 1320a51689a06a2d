/- For every list of edges, every two tags and every whole number the law PathParts returns true and changes nothing. No condition. -/
import Derived.Test.YtbojhapdidieoaaXBp
import Derived.Test.YtbojhapdidieoaaXCa
set_option linter.unusedSimpArgs false
set_option linter.unusedVariables false
set_option linter.unusedSimpArgs false
set_option linter.unusedVariables false
namespace Go.Proofs.Ytbojhapdidieoaa
open Go.PL
open Go.ChangeShapes Go.WideShapes Go.ChangeAt Go.RowKit
theorem lenLn {x : Ln} (h : LenLn' x) : LenLn x := ⟨h.c, h.f, h.b⟩
set_option maxRecDepth 100000 in
theorem pathParts_lifted (os : Os) (started : os.Started) (H : Type) (enc : TypeId × Value → H) :
    ReturnsInHanded {} Try.checked os 4 .any (Rows.pathPartsSpec.pre6 enc Try.prog Try.f4 Rows.pathPartsRow.domain false) (Rows.pathPartsSpec.post enc Try.prog Try.f4 false true false false) := by
  refine returnsInHanded_of_change (C := Try.checked) Try.own started (by kernel_rfl) Try.func4
    (ChangeSpec.witness6 (enc := enc) (C := Try.checked) false ⟨#[], #[.slice none 0 0, .agg #[.int .i64 0, .int .i64 0], .agg #[.int .i64 0, .int .i64 0], .int .i64 0], []⟩ 8 (by kernel_rfl) (by kernel_rfl) (by kernel_rfl) (by kernel_rfl)) ?_
  intro W base args ds gs before hval0 hW hcnd _
  refine contract_of_pure (P := Try.prog) (tb := 4) Try.lays Try.laidOut rfl (by rw [Try.params4]; decide +kernel) (by kernel_rfl) Try.underlying4 (fun ds hd => ?_) (fun ps hps => ?_) W base args ds gs before hval0 hW
  · rw [Try.params4] at hd
    match ds, hd with
    | [d1, d2, d3, d4], _ => rfl
  · rw [Try.params4] at hps
    obtain ⟨a0, b0, rfl, h0, r0⟩ := hps.cons_inv
    obtain ⟨a1, b1, rfl, h1, r1⟩ := r0.cons_inv
    obtain ⟨a2, b2, rfl, h2, r2⟩ := r1.cons_inv
    obtain ⟨x0, rfl, k0, q0⟩ := pa_edges h0
    obtain ⟨x1, rfl⟩ := pa_tag h1
    obtain ⟨x2, rfl⟩ := pa_tag h2
    obtain ⟨a3, b3, rfl, h3, r3⟩ := r2.cons_inv
    obtain ⟨x3, rfl, l3, u3⟩ := PA.int (P := Try.prog) Try.underlying3 h3
    rw [r3.nil_inv]
    exact PathParts_pure x0 x1 x2 x3 k0 (fun e he => lenLn (q0 e he)) l3 u3
theorem pathParts_holds : Rows.PathPartsSaid :=
  OpenClaim.holds_of_wide 4 Try.f4 rfl rfl rfl rfl rfl rfl rfl ⟨rfl, rfl, rfl, rfl, rfl⟩ rfl rfl rfl rfl rfl (by kernel_rfl) Try.func4 (by kernel_rfl)
    (of_decide_eq_true (by kernel_rfl)) (by unfold Func.isWrapper; first | (rw [if_pos (by decide +kernel)]; kernel_rfl) | (rw [if_neg (by decide +kernel)]; exact ⟨rfl, rfl⟩))
    (fun os started H enc _ => pathParts_lifted os started H enc)
end Go.Proofs.Ytbojhapdidieoaa
#print axioms Go.Proofs.Ytbojhapdidieoaa.pathParts_holds
