/- For every list of edges, every tag the law LossNearest returns true and changes nothing. No condition. -/
import Derived.Test.YtcomkajmhlhphaaGreatXCy
set_option linter.unusedSimpArgs false
set_option linter.unusedVariables false
set_option linter.unusedSimpArgs false
set_option linter.unusedVariables false
namespace Go.Proofs.YtcomkajmhlhphaaGreat
open Go.PL
open Go.ChangeShapes Go.WideShapes Go.ChangeAt Go.RowKit
theorem lenLn {x : Ln} (h : LenLn' x) : LenLn x := ⟨h.c, h.f, h.b⟩
set_option maxRecDepth 100000 in
theorem lossNearest_lifted (os : Os) (started : os.Started) (H : Type) (enc : TypeId × Value → H) :
    ReturnsInHanded {} Tryz.checked os 3 .any (Rows.lossNearestSpec.pre6 enc Tryz.prog Tryz.f3 Rows.lossNearestRow.domain false) (Rows.lossNearestSpec.post enc Tryz.prog Tryz.f3 false true false false) := by
  refine returnsInHanded_of_change (C := Tryz.checked) Tryz.own started (by kernel_rfl) Tryz.func3
    (ChangeSpec.witness6 (enc := enc) (C := Tryz.checked) false ⟨#[], #[.slice none 0 0, .agg #[.int .i64 0, .int .i64 0]], []⟩ 8 (by kernel_rfl) (by kernel_rfl) (by kernel_rfl) (by kernel_rfl)) ?_
  intro W base args ds gs before hval0 hW hcnd _
  refine contract_of_pure (P := Tryz.prog) (tb := 4) Tryz.lays Tryz.laidOut rfl (by rw [Tryz.params3]; decide +kernel) (by kernel_rfl) Tryz.underlying4 (fun ds hd => ?_) (fun ps hps => ?_) W base args ds gs before hval0 hW
  · rw [Tryz.params3] at hd
    match ds, hd with
    | [d1, d2], _ => rfl
  · rw [Tryz.params3] at hps
    obtain ⟨a0, b0, rfl, h0, r0⟩ := hps.cons_inv
    obtain ⟨a1, b1, rfl, h1, r1⟩ := r0.cons_inv
    obtain ⟨x0, rfl, k0, q0⟩ := pa_edges h0
    obtain ⟨x1, rfl⟩ := pa_tag h1
    rw [r1.nil_inv]
    exact LossNearest_pure x0 x1 k0 (fun e he => lenLn (q0 e he))
set_option maxHeartbeats 64000000 in
theorem lossNearest_holds : Rows.LossNearestSaid :=
  OpenClaim.holds_of_wide 3 Tryz.f3 rfl rfl rfl rfl rfl rfl rfl ⟨rfl, rfl, rfl, rfl, rfl⟩ rfl rfl rfl rfl rfl (by kernel_rfl) Tryz.func3 (by unfold joinedFacts;simp only[Bool.and_eq_true];and_intros;all_goals (as_aux_lemma => kernel_rfl))
    (of_decide_eq_true (by kernel_rfl)) (by unfold Func.isWrapper; first | (rw [if_pos (by decide +kernel)]; kernel_rfl) | (rw [if_neg (by decide +kernel)]; exact ⟨rfl, rfl⟩))
    (fun os started H enc _ => lossNearest_lifted os started H enc)
end Go.Proofs.YtcomkajmhlhphaaGreat
#print axioms Go.Proofs.YtcomkajmhlhphaaGreat.lossNearest_holds
