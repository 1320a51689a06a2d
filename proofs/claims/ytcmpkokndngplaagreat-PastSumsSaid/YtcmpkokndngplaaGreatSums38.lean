/- For every list of edges, every list of ops, every text, every tag the law PastSums returns true and changes nothing. No condition. -/
import Derived.Test.YtcmpkokndngplaaGreatXCw
namespace Go.Proofs.YtcmpkokndngplaaGreat
set_option maxHeartbeats 64000000
set_option maxRecDepth 20000
set_option linter.unusedVariables false
set_option linter.unusedSimpArgs false
open Go.PL
open Go.ChangeShapes Go.WideShapes Go.ChangeAt Go.RowKit
set_option maxRecDepth 100000 in
theorem Zbw (os:Os) (started:os.Started) (H:Type) (enc:TypeId×Value→H):
  ReturnsInHanded {} Tryz.checked os 3 .any (Rows.pastSumsSpec.pre6 enc Tryz.prog Tryz.f3 Rows.pastSumsRow.domain false) (Rows.pastSumsSpec.post enc Tryz.prog Tryz.f3 false true false false):=by
 refine returnsInHanded_of_change (C:=Tryz.checked) own started (by kernel_rfl) Tryz.func3
  (ChangeSpec.witness6 (enc:=enc) (C:=Tryz.checked) false ⟨#[],#[.slice none 0 0,.slice none 0 0,.string ⟨#[]⟩,.agg #[.int .i64 0,.int .i64 0]],[]⟩ 8 (by kernel_rfl) (by kernel_rfl) (by kernel_rfl) (by kernel_rfl)) ?_
 intro W base args c gs before a j d _;refine FP (P:=Tryz.prog) (tb:=4) lays laidOut rfl (by rw[Tryz.params3];decide+kernel) (by kernel_rfl) Tryz.underlying4 (fun c hd=> ?_) (fun ps b=> ?_) W base args c gs before a j
 ·rw[Tryz.params3]at hd
  match c,hd with
  | [d1,d2,d3,d4],_=>rfl
 ·rw[Tryz.params3]at b;obtain⟨v,z,rfl,f,r0⟩:=b.cons_inv;obtain⟨w,A,rfl,g,o⟩:=r0.cons_inv;obtain⟨x,B,rfl,h,p⟩:=o.cons_inv;obtain⟨y,D,rfl,i,q⟩:=p.cons_inv;obtain⟨r,rfl,l,n⟩:=ZrJ f;obtain⟨s,rfl,m⟩:=ZvT g;obtain⟨t,rfl,E⟩:=PA.string (P:=Tryz.prog) Tryz.underlying9 h;obtain⟨u,rfl⟩:=ZsZ i;rw[q.nil_inv];exact Zd0 r s t u l (fun e k=>Zyn (n e k)) m
theorem pastSums_holds:Rows.PastSumsSaid:=
 OpenClaim.holds_of_wide 3 Tryz.f3 rfl rfl rfl rfl rfl rfl rfl ⟨rfl,rfl,rfl,rfl,rfl⟩ rfl rfl rfl rfl rfl (by kernel_rfl) Tryz.func3 (by kernel_rfl)
  (of_decide_eq_true (by kernel_rfl)) (by unfold Func.isWrapper;first|(rw[if_pos (by decide+kernel)];kernel_rfl)|(rw[if_neg (by decide+kernel)];exact⟨rfl,rfl⟩))
  (fun os started H enc _=>Zbw os started H enc)
end Go.Proofs.YtcmpkokndngplaaGreat
#print axioms Go.Proofs.YtcmpkokndngplaaGreat.pastSums_holds
