/- For every list of edges, every list of ops, every tag, every deed, every text, every tag the law CartOthers returns true and changes nothing. No condition. -/
import Derived.Test.YtepchngegclagaaGreatXAa
import Derived.Test.YtepchngegclagaaGreatXAn
import Derived.Test.YtepchngegclagaaGreatXAz
import Derived.Test.YtepchngegclagaaGreatXCc
import Derived.Test.YtepchngegclagaaGreatXEc
namespace Go.Proofs.YtepchngegclagaaGreat
set_option maxHeartbeats 64000000
set_option maxRecDepth 20000
set_option linter.unusedVariables false
set_option linter.unusedSimpArgs false
open Go.PL
open Go.ChangeShapes Go.WideShapes Go.ChangeAt Go.RowKit
set_option maxRecDepth 100000 in
theorem Gg (os:Os) (started:os.Started) (H:Type) (enc:TypeId×Value→H):
  ReturnsInHanded {} Tryz.checked os 5 .any (Rows.cartOthersSpec.pre6 enc Tryz.prog Tryz.f5 Rows.cartOthersRow.domain false) (Rows.cartOthersSpec.post enc Tryz.prog Tryz.f5 false true false false):=by
 refine returnsInHanded_of_change (C:=Tryz.checked) own started (by kernel_rfl) Tryz.func5
  (ChangeSpec.witness6 (enc:=enc) (C:=Tryz.checked) false ⟨#[],#[.slice none 0 0,.slice none 0 0,.agg #[.int .i64 0,.int .i64 0],.agg #[.int .i64 0,.string ⟨#[]⟩,.string ⟨#[]⟩,.int .i64 0,.string ⟨#[]⟩,.string ⟨#[]⟩,.int .i64 0,.string ⟨#[]⟩,.int .i64 0,.int .i64 0,.int .i64 0,.int .i64 0,.string ⟨#[]⟩,.string ⟨#[]⟩,.string ⟨#[]⟩,.string ⟨#[]⟩,.int .i64 0,.int .i64 0,.string ⟨#[]⟩,.string ⟨#[]⟩,.int .i64 0,.string ⟨#[]⟩,.slice none 0 0,.int .i64 0,.slice none 0 0,.slice none 0 0],.string ⟨#[]⟩,.agg #[.int .i64 0,.int .i64 0]],[]⟩ 8 (by kernel_rfl) (by kernel_rfl) (by kernel_rfl) (by kernel_rfl)) ?_
 intro W base args ds gs before hval0 hW hcnd _;refine G8 (P:=Tryz.prog) (tb:=4) lays laidOut rfl (by rw[Tryz.params5];decide+kernel) (by kernel_rfl) Tryz.underlying4 (fun ds hd=> ?_) (fun ps hps=> ?_) W base args ds gs before hval0 hW
 ·rw[Tryz.params5]at hd
  match ds,hd with
  | [d1,d2,d3,d4,d5,d6],_=>rfl
 ·rw[Tryz.params5]at hps;obtain⟨a0,b0,rfl,h0,r0⟩:=hps.cons_inv;obtain⟨a1,b1,rfl,h1,r1⟩:=r0.cons_inv;obtain⟨a2,b2,rfl,h2,r2⟩:=r1.cons_inv;obtain⟨a3,b3,rfl,h3,r3⟩:=r2.cons_inv;obtain⟨a4,b4,rfl,h4,r4⟩:=r3.cons_inv;obtain⟨a5,b5,rfl,h5,r5⟩:=r4.cons_inv;obtain⟨x0,rfl,k0,q0⟩:=ZmI h0;obtain⟨x1,rfl,k1⟩:=Zqy h1;obtain⟨x2,rfl⟩:=Zki h2;obtain⟨x3,rfl⟩:=Zqx h3;obtain⟨x4,rfl,k4⟩:=PA.string (P:=Tryz.prog) Tryz.underlying9 h4;obtain⟨x5,rfl⟩:=Zki h5;rw[r5.nil_inv];exact Dy x0 x1 x2 x3 x4 x5 k0 (fun e he=>ZsM (q0 e he)) k1
set_option maxHeartbeats 64000000 in
theorem cartOthers_holds:Rows.CartOthersSaid:=
 OpenClaim.holds_of_wide 5 Tryz.f5 rfl rfl rfl rfl rfl rfl rfl ⟨rfl,rfl,rfl,rfl,rfl⟩ rfl rfl rfl rfl rfl (by kernel_rfl) Tryz.func5 (by unfold joinedFacts;simp only[Bool.and_eq_true];and_intros;all_goals (as_aux_lemma => kernel_rfl))
  (of_decide_eq_true (by kernel_rfl)) (by unfold Func.isWrapper;first|(rw[if_pos (by decide+kernel)];kernel_rfl)|(rw[if_neg (by decide+kernel)];exact⟨rfl,rfl⟩))
  (fun os started H enc _=>Gg os started H enc)
end Go.Proofs.YtepchngegclagaaGreat
#print axioms Go.Proofs.YtepchngegclagaaGreat.cartOthers_holds
