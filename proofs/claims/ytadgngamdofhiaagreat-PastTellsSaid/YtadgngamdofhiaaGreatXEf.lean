/- Lemmas of the proof. -/
import Derived.Test.YtadgngamdofhiaaGreatPlH
import Derived.Test.YtadgngamdofhiaaGreatXAa
import Derived.Test.YtadgngamdofhiaaGreatXBc
import Derived.Test.YtadgngamdofhiaaGreatXBr
open Go.Proofs.Tryz
open Bool renaming eq_iff_iff→Ja
namespace Go.Proofs.YtadgngamdofhiaaGreat
set_option maxHeartbeats 64000000
set_option maxRecDepth 20000
set_option linter.unusedVariables false
set_option linter.unusedSimpArgs false
open Go.PL
theorem Ft (o:Opn):Pp 183 [opv o] (.bool (XD o)):=by
 have hT:=TQ o.id;have hU:=TQ o.sch;have hC:=Y7 o.cart;have hA:=S7 o.at';have hI:=Y7 o.item;have hD:=Ze6 o;have hP:=Ze7 o;rw[<-ZnT];unfold ZnS;generalize V2 o=db at *;generalize Ue o=pb at *;generalize Yj o.item=ni at *;generalize Yj o.cart=nc at *;generalize X6 o.at'=pa at *;generalize F0 o.id=ti at *;generalize F0 o.sch=ts at *;refine ZM func183 rfl ntmps183 results183 ?_;simp only[go_sem,opv,ST];repeat' ((first|(first|apply ZC|apply ZB|apply ZO)<;>intro h|refine vc6 hT ?_|refine vc6 hU ?_|refine vc6 hC ?_|refine vc6 hA ?_|refine vc6 hI ?_|refine vc6 hD ?_|refine vc6 hP ?_|refine vDq ?_)<;>first|simp only[go_sem,h,opv,ST]|simp only[go_sem,opv,ST]|skip)
 all_goals clear hT hU hC hA hI hD hP
 all_goals (first
  |(simp only[*,Bool.not_true,Bool.not_false,Bool.and_true,Bool.true_and,Bool.and_false,Bool.false_and,Bool.or_true,Bool.true_or,Bool.or_false,Bool.false_or,Bool.not_not];done)
  |(simp_all;done)
  |(rw[Ja];simp_all;done)
  |(rw[Ja];simp_all;omega)
  |(simp_all;omega)
  |trace_state)
end Go.Proofs.YtadgngamdofhiaaGreat
