/- Lemmas of the proof. -/
import Derived.Test.YtepchngegclagaaGreatPlH
import Derived.Test.YtepchngegclagaaGreatXAa
import Derived.Test.YtepchngegclagaaGreatXAi
import Derived.Test.YtepchngegclagaaGreatXBd
open Go.Proofs.Tryz
open Bool renaming eq_iff_iff→Ja
namespace Go.Proofs.YtepchngegclagaaGreat
set_option maxHeartbeats 64000000
set_option maxRecDepth 20000
set_option linter.unusedVariables false
set_option linter.unusedSimpArgs false
open Go.PL
theorem Tz (o:Opn):Pp 83 [opv o] (.bool (Yd o)):=by
 have hT:=TB o.id;have hU:=TB o.sch;have hC:=ZT o.cart;have hA:=SK o.at';have hI:=ZT o.item;have hD:=ZdJ o;have hP:=ZdK o;rw[<-ZkZ];unfold ZkY;generalize W9 o=db at *;generalize V1 o=pb at *;generalize ZU o.item=ni at *;generalize ZU o.cart=nc at *;generalize Xq o.at'=pa at *;generalize W6 o.id=ti at *;generalize W6 o.sch=ts at *;refine ZM func83 rfl ntmps83 results83 ?_;simp only[go_sem,opv,Ss];repeat' ((first|(first|apply Zt|apply Zs|apply Zm)<;>intro h|refine vc6 hT ?_|refine vc6 hU ?_|refine vc6 hC ?_|refine vc6 hA ?_|refine vc6 hI ?_|refine vc6 hD ?_|refine vc6 hP ?_|refine vDq ?_)<;>first|simp only[go_sem,h,opv,Ss]|simp only[go_sem,opv,Ss]|skip)
 all_goals clear hT hU hC hA hI hD hP
 all_goals (first
  |(simp only[*,Bool.not_true,Bool.not_false,Bool.and_true,Bool.true_and,Bool.and_false,Bool.false_and,Bool.or_true,Bool.true_or,Bool.or_false,Bool.false_or,Bool.not_not];done)
  |(simp_all;done)
  |(rw[Ja];simp_all;done)
  |(rw[Ja];simp_all;omega)
  |(simp_all;omega)
  |trace_state)
end Go.Proofs.YtepchngegclagaaGreat
