/- For every list of edges, every list of ops, every whole number, every tag, every deed the law CartMakes returns true and changes nothing. No condition. -/
import Derived.Test.YtepchngegclagaaGreatXAa
import Derived.Test.YtepchngegclagaaGreatXAi
import Derived.Test.YtepchngegclagaaGreatXAo
import Derived.Test.YtepchngegclagaaGreatXDo
import Derived.Test.YtepchngegclagaaGreatXFu
namespace Go.Proofs.YtepchngegclagaaGreat
set_option maxHeartbeats 64000000
set_option maxRecDepth 20000
set_option linter.unusedVariables false
set_option linter.unusedSimpArgs false
open Go.PL
open Go.ChangeShapes Go.WideShapes Go.ChangeAt Go.RowKit
set_option maxRecDepth 100000 in
theorem D4 (os:Os) (started:os.Started) (H:Type) (enc:TypeId×Value→H):
  ReturnsInHanded {} Tryz.checked os 3 .any (Rows.cartMakesSpec.pre6 enc Tryz.prog Tryz.f3 Rows.cartMakesRow.domain false) (Rows.cartMakesSpec.post enc Tryz.prog Tryz.f3 false true false false):=by
 refine returnsInHanded_of_change (C:=Tryz.checked) own started (by kernel_rfl) Tryz.func3
  (ChangeSpec.witness6 (enc:=enc) (C:=Tryz.checked) false ⟨#[],#[.slice none 0 0,.slice none 0 0,.int .i64 0,.agg #[.int .i64 0,.int .i64 0],.agg #[.int .i64 0,.string ⟨#[]⟩,.string ⟨#[]⟩,.int .i64 0,.string ⟨#[]⟩,.string ⟨#[]⟩,.int .i64 0,.string ⟨#[]⟩,.int .i64 0,.int .i64 0,.int .i64 0,.int .i64 0,.string ⟨#[]⟩,.string ⟨#[]⟩,.string ⟨#[]⟩,.string ⟨#[]⟩,.int .i64 0,.int .i64 0,.string ⟨#[]⟩,.string ⟨#[]⟩,.int .i64 0,.string ⟨#[]⟩,.slice none 0 0,.int .i64 0,.slice none 0 0,.slice none 0 0]],[]⟩ 8 (by kernel_rfl) (by kernel_rfl) (by kernel_rfl) (by kernel_rfl)) ?_
 intro W base args ds gs before hval0 hW hcnd _;refine D5 (P:=Tryz.prog) (tb:=4) lays laidOut rfl (by rw[Tryz.params3];decide+kernel) (by kernel_rfl) Tryz.underlying4 (fun ds hd=> ?_) (fun ps hps=> ?_) W base args ds gs before hval0 hW
 ·rw[Tryz.params3]at hd
  match ds,hd with
  | [d1,d2,d3,d4,d5],_=>rfl
 ·rw[Tryz.params3]at hps;obtain⟨a0,b0,rfl,h0,r0⟩:=hps.cons_inv;obtain⟨a1,b1,rfl,h1,r1⟩:=r0.cons_inv;obtain⟨a2,b2,rfl,h2,r2⟩:=r1.cons_inv;obtain⟨a3,b3,rfl,h3,r3⟩:=r2.cons_inv;obtain⟨a4,b4,rfl,h4,r4⟩:=r3.cons_inv;obtain⟨x0,rfl,k0,q0⟩:=Znb h0;obtain⟨x1,rfl,k1⟩:=ZqZ h1;obtain⟨x2,rfl,l2,u2⟩:=PA.int (P:=Tryz.prog) Tryz.underlying3 h2;obtain⟨x3,rfl⟩:=Zob h3;obtain⟨x4,rfl⟩:=ZqY h4;rw[r4.nil_inv];exact ZaV x0 x1 x2 x3 x4 k0 (fun e he=>ZsZ (q0 e he)) k1
theorem cartMakes_holds:Rows.CartMakesSaid:=
 OpenClaim.holds_of_wide 3 Tryz.f3 rfl rfl rfl rfl rfl rfl rfl ⟨rfl,rfl,rfl,rfl,rfl⟩ rfl rfl rfl rfl rfl (by kernel_rfl) Tryz.func3 (by kernel_rfl)
  (of_decide_eq_true (by kernel_rfl)) (by unfold Func.isWrapper;first|(rw[if_pos (by decide+kernel)];kernel_rfl)|(rw[if_neg (by decide+kernel)];exact⟨rfl,rfl⟩))
  (fun os started H enc _=>D4 os started H enc)
end Go.Proofs.YtepchngegclagaaGreat
#print axioms Go.Proofs.YtepchngegclagaaGreat.cartMakes_holds
