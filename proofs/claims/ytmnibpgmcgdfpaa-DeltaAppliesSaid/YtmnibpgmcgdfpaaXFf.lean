/- For every list of fields, every document, every list of changes the law DeltaApplies returns true and changes nothing. No condition. -/
import Derived.Test.YtmnibpgmcgdfpaaPlM
import Derived.Test.YtmnibpgmcgdfpaaXAa
import Derived.Test.YtmnibpgmcgdfpaaXAc
import Derived.Test.YtmnibpgmcgdfpaaXAd
import Derived.Test.YtmnibpgmcgdfpaaXBl
import Derived.Test.YtmnibpgmcgdfpaaXCb
import Derived.Test.YtmnibpgmcgdfpaaXCc
import Derived.Test.YtmnibpgmcgdfpaaXDd
import Derived.Test.YtmnibpgmcgdfpaaXDf
import Derived.Test.YtmnibpgmcgdfpaaXDr
import Derived.Test.YtmnibpgmcgdfpaaXEd
import Derived.Test.YtmnibpgmcgdfpaaXFb
namespace Go.Proofs.Ytmnibpgmcgdfpaa
set_option maxHeartbeats 64000000
set_option maxRecDepth 20000
set_option linter.unusedVariables false
set_option linter.unusedSimpArgs false
open Go.PL
open Go.ChangeShapes Go.WideShapes Go.ChangeAt Go.RowKit
set_option maxRecDepth 100000 in
theorem Tm (os:Os) (started:os.Started) (H:Type) (enc:TypeId×Value→H):
  ReturnsInHanded {} Try.checked os 7 .any (Rows.deltaAppliesSpec.pre6 enc Try.prog Try.f7 Rows.deltaAppliesRow.domain false) (Rows.deltaAppliesSpec.post enc Try.prog Try.f7 false true false false):=by
 refine returnsInHanded_of_change (C:=Try.checked) Try.own started (by kernel_rfl) Try.func7
  (ChangeSpec.witness6 (enc:=enc) (C:=Try.checked) false ⟨#[],#[.slice none 0 0,.agg #[.slice none 0 0,.slice none 0 0],.slice none 0 0],[]⟩ 8 (by kernel_rfl) (by kernel_rfl) (by kernel_rfl) (by kernel_rfl)) ?_
 intro W base args ds gs before hval0 hW hcnd _;refine V6 (P:=Try.prog) (tb:=4) Try.lays Try.laidOut rfl (by rw[Try.params7];decide+kernel) (by kernel_rfl) Try.underlying4 (fun ds hd=> ?_) (fun ps hps=> ?_) W base args ds gs before hval0 hW
 ·rw[Try.params7]at hd
  match ds,hd with
  | [d1,d2,d3],_=>rfl
 ·rw[Try.params7]at hps;obtain⟨a0,b0,rfl,h0,r0⟩:=hps.cons_inv;obtain⟨a1,b1,rfl,h1,r1⟩:=r0.cons_inv;obtain⟨a2,b2,rfl,h2,r2⟩:=r1.cons_inv;obtain⟨x0,rfl,k0,q0⟩:=Zgx h0;obtain⟨x1,rfl,k1⟩:=Zgw h1;obtain⟨x2,rfl,k2,q2⟩:=Zkd h2;rw[r2.nil_inv];exact Sh x0 x1 x2 k0 q0 k1 k2 q2
theorem deltaApplies_holds:Rows.DeltaAppliesSaid:=
 OpenClaim.holds_of_wide 7 Try.f7 rfl rfl rfl rfl rfl rfl rfl ⟨rfl,rfl,rfl,rfl,rfl⟩ rfl rfl rfl rfl rfl (by kernel_rfl) Try.func7 (by kernel_rfl)
  (of_decide_eq_true (by kernel_rfl)) (by unfold Func.isWrapper;first|(rw[if_pos (by decide+kernel)];kernel_rfl)|(rw[if_neg (by decide+kernel)];exact⟨rfl,rfl⟩))
  (fun os started H enc _=>Tm os started H enc)
end Go.Proofs.Ytmnibpgmcgdfpaa
#print axioms Go.Proofs.Ytmnibpgmcgdfpaa.deltaApplies_holds
