/- For every list of edges and every two tags the law PathBack returns true and changes nothing. No condition. -/
import Derived.Test.YtbojhapdidieoaaFl
import Derived.Test.YtbojhapdidieoaaGa
set_option linter.unusedSimpArgs false
set_option linter.unusedVariables false
set_option linter.unusedSimpArgs false
set_option linter.unusedVariables false
namespace Go.Proofs.Ytbojhapdidieoaa
open Go.PL
open Go.ChangeShapes Go.WideShapes Go.ChangeAt Go.RowKit
theorem lenLn {x : Ln} (h : LenLn' x) : LenLn x := ⟨h.c, h.f, h.b⟩
set_option maxRecDepth 100000 in
theorem pathBack_lifted (os : Os) (started : os.Started) (H : Type) (enc : TypeId × Value → H) :
    ReturnsInHanded {} Try.checked os 3 .any (Rows.pathBackSpec.pre6 enc Try.prog Try.f3 Rows.pathBackRow.domain false) (Rows.pathBackSpec.post enc Try.prog Try.f3 false true false false) := by
  refine returnsInHanded_of_change (C := Try.checked) Try.own started (by kernel_rfl) Try.func3
    (ChangeSpec.witness6 (enc := enc) (C := Try.checked) false ⟨#[], #[.slice none 0 0, .agg #[.int .i64 0, .int .i64 0], .agg #[.int .i64 0, .int .i64 0]], []⟩ 8 (by kernel_rfl) (by kernel_rfl) (by kernel_rfl) (by kernel_rfl)) ?_
  intro W base args ds gs before hval0 hW hcnd _
  refine contract_of_pure (P := Try.prog) (tb := 4) Try.lays Try.laidOut rfl (by rw [Try.params3]; decide +kernel) (by kernel_rfl) Try.underlying4 (fun ds hd => ?_) (fun ps hps => ?_) W base args ds gs before hval0 hW
  · rw [Try.params3] at hd
    match ds, hd with
    | [d1, d2, d3], _ => rfl
  · rw [Try.params3] at hps
    obtain ⟨a, b, rfl, h1, h2⟩ := hps.cons_inv
    obtain ⟨c, d, rfl, h3, h4⟩ := h2.cons_inv
    obtain ⟨e, f, rfl, h5, h6⟩ := h4.cons_inv
    obtain ⟨l, rfl, hl, hx⟩ := pa_edges h1
    obtain ⟨x, rfl⟩ := pa_tag h3
    obtain ⟨y, rfl⟩ := pa_tag h5
    rw [h6.nil_inv]
    exact PathBack_pure l x y hl (fun e he => lenLn (hx e he))
theorem pathBack_holds : Rows.PathBackSaid :=
  OpenClaim.holds_of_wide 3 Try.f3 rfl rfl rfl rfl rfl rfl rfl ⟨rfl, rfl, rfl, rfl, rfl⟩ rfl rfl rfl rfl rfl (by kernel_rfl) Try.func3 (by kernel_rfl)
    (of_decide_eq_true (by kernel_rfl)) (by unfold Func.isWrapper; first | (rw [if_pos (by decide +kernel)]; kernel_rfl) | (rw [if_neg (by decide +kernel)]; exact ⟨rfl, rfl⟩))
    (fun os started H enc _ => pathBack_lifted os started H enc)
end Go.Proofs.Ytbojhapdidieoaa
#print axioms Go.Proofs.Ytbojhapdidieoaa.pathBack_holds
