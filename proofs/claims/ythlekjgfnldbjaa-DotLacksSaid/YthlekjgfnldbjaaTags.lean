/- For every vector, tag and number of a replica the law DotTags returns true and changes nothing. No condition. -/
import Derived.Test.YthlekjgfnldbjaaRf
import Derived.ProofKit
set_option linter.unusedSimpArgs false
set_option linter.unusedVariables false
set_option linter.unusedSimpArgs false
set_option linter.unusedVariables false
namespace Go.Proofs.Ythlekjgfnldbjaa
open Go.PL
open Go.ChangeShapes Go.WideShapes Go.ChangeAt Go.RowKit
theorem Try.own : ownKnob Try.prog.godebug = Option.none := by kernel_rfl
theorem Try.laidOut : laidOutB Try.prog = true := by kernel_rfl
theorem Try.lays : layAll Try.prog = true := by kernel_rfl
theorem pa_vec {p : PV} (h : PA Try.prog 23 p) : ∃ v : List Int, p = vec v ∧ v.length = 6 := by
  obtain ⟨cs, rfl, h1⟩ := PA.agg tagg_23 h
  obtain ⟨l, rfl, h2, _⟩ := PTs.ints Try.underlying3 (h1.arr_inv Try.underlying23)
  exact ⟨l, rfl, h2⟩
theorem pa_tag {p : PV} (h : PA Try.prog 25 p) : ∃ r n : Int, p = tag r n := by
  obtain ⟨cs, rfl, h1⟩ := PA.agg tagg_25 h
  have h2 : PTs Try.prog [3, 3] cs := h1.struct_inv Try.underlying25
  obtain ⟨a, b, rfl, h3, h4⟩ := h2.cons_inv
  obtain ⟨c, d, rfl, h5, h6⟩ := h4.cons_inv
  obtain ⟨x, rfl, _⟩ := h3.int_inv Try.underlying3
  obtain ⟨y, rfl, _⟩ := h5.int_inv Try.underlying3
  rw [h6.nil_inv]
  exact ⟨x, y, rfl⟩
set_option maxRecDepth 100000 in
theorem dotTags_lifted (os : Os) (started : os.Started) (H : Type) (enc : TypeId × Value → H) :
    ReturnsInHanded {} Try.checked os 3 .any (Rows.dotTagsSpec.pre6 enc Try.prog Try.f3 Rows.dotTagsRow.domain false) (Rows.dotTagsSpec.post enc Try.prog Try.f3 false true false false) := by
  refine returnsInHanded_of_change (C := Try.checked) Try.own started (by kernel_rfl) Try.func3
    (ChangeSpec.witness6 (enc := enc) (C := Try.checked) false ⟨#[], #[.agg #[.int .i64 0, .int .i64 0, .int .i64 0, .int .i64 0, .int .i64 0, .int .i64 0], .agg #[.int .i64 0, .int .i64 0], .int .i64 0], []⟩ 8 (by kernel_rfl) (by kernel_rfl) (by kernel_rfl) (by kernel_rfl)) ?_
  intro W base args ds gs before hval0 hW hcnd _
  refine contract_of_pure (P := Try.prog) (tb := 4) Try.lays Try.laidOut rfl (by rw [Try.params3]; decide +kernel) (by kernel_rfl) Try.underlying4 (fun ds hd => ?_) (fun ps hps => ?_) W base args ds gs before hval0 hW
  · rw [Try.params3] at hd
    match ds, hd with
    | [d1, d2, d3], _ => rfl
  · rw [Try.params3] at hps
    obtain ⟨a, b, rfl, h1, h2⟩ := hps.cons_inv
    obtain ⟨c, d, rfl, h3, h4⟩ := h2.cons_inv
    obtain ⟨e, f, rfl, h5, h6⟩ := h4.cons_inv
    obtain ⟨v, rfl, hv⟩ := pa_vec h1
    obtain ⟨r, n, rfl⟩ := pa_tag h3
    obtain ⟨k, rfl, _⟩ := h5.int Try.underlying3
    rw [h6.nil_inv]
    exact DotTags_pure v hv r n k
theorem dotTags_holds : Rows.DotTagsSaid :=
  OpenClaim.holds_of_wide 3 Try.f3 rfl rfl rfl rfl rfl rfl rfl ⟨rfl, rfl, rfl, rfl, rfl⟩ rfl rfl rfl rfl rfl (by kernel_rfl) Try.func3 (by kernel_rfl)
    (of_decide_eq_true (by kernel_rfl)) (by unfold Func.isWrapper; first | (rw [if_pos (by decide +kernel)]; kernel_rfl) | (rw [if_neg (by decide +kernel)]; exact ⟨rfl, rfl⟩))
    (fun os started H enc _ => dotTags_lifted os started H enc)
end Go.Proofs.Ythlekjgfnldbjaa
#print axioms Go.Proofs.Ythlekjgfnldbjaa.dotTags_holds
