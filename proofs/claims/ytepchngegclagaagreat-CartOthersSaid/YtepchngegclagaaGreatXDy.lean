/- Lemmas of the proof. -/
import Derived.Test.YtepchngegclagaaGreatPlH
import Derived.Test.YtepchngegclagaaGreatXAa
import Derived.Test.YtepchngegclagaaGreatXAh
import Derived.Test.YtepchngegclagaaGreatXAn
import Derived.Test.YtepchngegclagaaGreatXBd
import Derived.Test.YtepchngegclagaaGreatXCc
open Go.Proofs.Tryz
open Bool renaming eq_iff_iff→Ja
namespace Go.Proofs.YtepchngegclagaaGreat
set_option maxHeartbeats 64000000
set_option maxRecDepth 20000
set_option linter.unusedVariables false
set_option linter.unusedSimpArgs false
open Go.PL
theorem ZcL (o:Opn):Pp 83 [opv o] (.bool (Yk o)):=by
 have hT:=UG o.id;have hU:=UG o.sch;have hC:=XH o.cart;have hA:=TR o.at';have hI:=XH o.item;have hD:=ZcJ o;have hP:=ZcK o;rw[<-Zkv];unfold Zku;generalize Wp o=db at *;generalize Vi o=pb at *;generalize ZL o.item=ni at *;generalize ZL o.cart=nc at *;generalize YY o.at'=pa at *;generalize Wy o.id=ti at *;generalize Wy o.sch=ts at *;refine ZF func83 rfl ntmps83 results83 ?_;simp only[go_sem,opv,TH];repeat' ((first|(first|apply Zl|apply Zj|apply Zs)<;>intro h|refine vc6 hT ?_|refine vc6 hU ?_|refine vc6 hC ?_|refine vc6 hA ?_|refine vc6 hI ?_|refine vc6 hD ?_|refine vc6 hP ?_|refine vDq ?_)<;>first|simp only[go_sem,h,opv,TH]|simp only[go_sem,opv,TH]|skip)
 all_goals clear hT hU hC hA hI hD hP
 all_goals (first
  |(simp only[*,Bool.not_true,Bool.not_false,Bool.and_true,Bool.true_and,Bool.and_false,Bool.false_and,Bool.or_true,Bool.true_or,Bool.or_false,Bool.false_or,Bool.not_not];done)
  |(simp_all;done)
  |(rw[Ja];simp_all;done)
  |(rw[Ja];simp_all;omega)
  |(simp_all;omega)
  |trace_state)
end Go.Proofs.YtepchngegclagaaGreat
