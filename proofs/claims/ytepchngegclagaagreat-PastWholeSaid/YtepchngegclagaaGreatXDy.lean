/- Lemmas of the proof. -/
import Derived.Test.YtepchngegclagaaGreatPlH
import Derived.Test.YtepchngegclagaaGreatXAa
import Derived.Test.YtepchngegclagaaGreatXAi
import Derived.Test.YtepchngegclagaaGreatXAy
import Derived.Test.YtepchngegclagaaGreatXBd
import Derived.Test.YtepchngegclagaaGreatXCc
open Go.Proofs.Tryz
open Bool renaming eq_iff_iff→Ja
namespace Go.Proofs.YtepchngegclagaaGreat
set_option maxHeartbeats 64000000
set_option maxRecDepth 20000
set_option linter.unusedVariables false
set_option linter.unusedSimpArgs false
open Go.PL
theorem Zcq (o:Opn):Pp 83 [opv o] (.bool (XJ o)):=by
 have hT:=VI o.id;have hU:=VI o.sch;have hC:=XD o.cart;have hA:=TQ o.at';have hI:=XD o.item;have hD:=Zco o;have hP:=Zcp o;rw[<-Zkn];unfold Zkm;generalize Vs o=db at *;generalize Va o=pb at *;generalize Z0 o.item=ni at *;generalize Z0 o.cart=nc at *;generalize XI o.at'=pa at *;generalize Vl o.id=ti at *;generalize Vl o.sch=ts at *;refine Zz func83 rfl ntmps83 results83 ?_;simp only[go_sem,opv,TF];repeat' ((first|(first|apply Zl|apply Zj|apply Zp)<;>intro h|refine vc6 hT ?_|refine vc6 hU ?_|refine vc6 hC ?_|refine vc6 hA ?_|refine vc6 hI ?_|refine vc6 hD ?_|refine vc6 hP ?_|refine vDq ?_)<;>first|simp only[go_sem,h,opv,TF]|simp only[go_sem,opv,TF]|skip)
 all_goals clear hT hU hC hA hI hD hP
 all_goals (first
  |(simp only[*,Bool.not_true,Bool.not_false,Bool.and_true,Bool.true_and,Bool.and_false,Bool.false_and,Bool.or_true,Bool.true_or,Bool.or_false,Bool.false_or,Bool.not_not];done)
  |(simp_all;done)
  |(rw[Ja];simp_all;done)
  |(rw[Ja];simp_all;omega)
  |(simp_all;omega)
  |trace_state)
end Go.Proofs.YtepchngegclagaaGreat
