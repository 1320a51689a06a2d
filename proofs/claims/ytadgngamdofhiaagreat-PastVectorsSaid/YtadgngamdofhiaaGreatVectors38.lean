/- For every list of edges, every list of ops, every vector, every text, every tag the law PastVectors returns true and changes nothing. No condition. -/
import Derived.Test.YtadgngamdofhiaaGreatXAa
import Derived.Test.YtadgngamdofhiaaGreatXAi
import Derived.Test.YtadgngamdofhiaaGreatXCe
import Derived.Test.YtadgngamdofhiaaGreatXDa
import Derived.Test.YtadgngamdofhiaaGreatXEn
set_option linter.unusedSimpArgs false
set_option linter.unusedVariables false
set_option linter.unusedSimpArgs false
set_option linter.unusedVariables false
namespace Go.Proofs.YtadgngamdofhiaaGreat
open Go.PL
open Go.ChangeShapes Go.WideShapes Go.ChangeAt Go.RowKit
set_option maxRecDepth 100000 in
theorem pastVectors_lifted (os : Os) (started : os.Started) (H : Type) (enc : TypeId × Value → H) :
    ReturnsInHanded {} Tryz.checked os 4 .any (Rows.pastVectorsSpec.pre6 enc Tryz.prog Tryz.f4 Rows.pastVectorsRow.domain false) (Rows.pastVectorsSpec.post enc Tryz.prog Tryz.f4 false true false false) := by
  refine returnsInHanded_of_change (C := Tryz.checked) own started (by kernel_rfl) Tryz.func4
    (ChangeSpec.witness6 (enc := enc) (C := Tryz.checked) false ⟨#[], #[.slice none 0 0, .slice none 0 0, .agg #[.int .i64 0, .int .i64 0, .int .i64 0, .int .i64 0, .int .i64 0, .int .i64 0], .string ⟨#[]⟩, .agg #[.int .i64 0, .int .i64 0]], []⟩ 8 (by kernel_rfl) (by kernel_rfl) (by kernel_rfl) (by kernel_rfl)) ?_
  intro W base args ds gs before hval0 hW hcnd _
  refine contract_of_pure (P := Tryz.prog) (tb := 4) lays laidOut rfl (by rw [Tryz.params4]; decide +kernel) (by kernel_rfl) Tryz.underlying4 (fun ds hd => ?_) (fun ps hps => ?_) W base args ds gs before hval0 hW
  · rw [Tryz.params4] at hd
    match ds, hd with
    | [d1, d2, d3, d4, d5], _ => rfl
  · rw [Tryz.params4] at hps
    obtain ⟨a0, b0, rfl, h0, r0⟩ := hps.cons_inv
    obtain ⟨a1, b1, rfl, h1, r1⟩ := r0.cons_inv
    obtain ⟨a2, b2, rfl, h2, r2⟩ := r1.cons_inv
    obtain ⟨a3, b3, rfl, h3, r3⟩ := r2.cons_inv
    obtain ⟨a4, b4, rfl, h4, r4⟩ := r3.cons_inv
    obtain ⟨x0, rfl, k0, q0⟩ := pa_edges h0
    obtain ⟨x1, rfl, k1⟩ := pa_ops h1
    obtain ⟨x2, rfl, k2⟩ := pa_vec h2
    obtain ⟨x3, rfl, k3⟩ := PA.string (P := Tryz.prog) Tryz.underlying9 h3
    obtain ⟨x4, rfl⟩ := pa_tag h4
    rw [r4.nil_inv]
    exact PastVectors_pure x0 x1 x2 x3 x4 k0 (fun e he => lenLn (q0 e he)) k1 k2
set_option maxHeartbeats 64000000 in
theorem pastVectors_holds : Rows.PastVectorsSaid :=
  OpenClaim.holds_of_wide 4 Tryz.f4 rfl rfl rfl rfl rfl rfl rfl ⟨rfl, rfl, rfl, rfl, rfl⟩ rfl rfl rfl rfl rfl (by kernel_rfl) Tryz.func4 (by unfold joinedFacts;simp only[Bool.and_eq_true];and_intros;all_goals (as_aux_lemma => kernel_rfl))
    (of_decide_eq_true (by kernel_rfl)) (by unfold Func.isWrapper; first | (rw [if_pos (by decide +kernel)]; kernel_rfl) | (rw [if_neg (by decide +kernel)]; exact ⟨rfl, rfl⟩))
    (fun os started H enc _ => pastVectors_lifted os started H enc)
end Go.Proofs.YtadgngamdofhiaaGreat
#print axioms Go.Proofs.YtadgngamdofhiaaGreat.pastVectors_holds
