/- Lemmas of the proof. -/
import Derived.Test.YtadgngamdofhiaaGreatPlH
import Derived.Test.YtadgngamdofhiaaGreatXAa
import Derived.Test.YtadgngamdofhiaaGreatXAe
import Derived.Test.YtadgngamdofhiaaGreatXAi
import Derived.Test.YtadgngamdofhiaaGreatXBc
import Derived.Test.YtadgngamdofhiaaGreatXBd
import Derived.Test.YtadgngamdofhiaaGreatXCc
open Go.Proofs.Tryz
open Bool renaming eq_iff_iff→Ja
namespace Go.Proofs.YtadgngamdofhiaaGreat
set_option maxHeartbeats 64000000
set_option maxRecDepth 20000
set_option linter.unusedVariables false
set_option linter.unusedSimpArgs false
open Go.PL
theorem DG (o:Opn):Pp 183 [opv o] (.bool (X9 o)):=by
 have hT:=Uj o.id;have hU:=Uj o.sch;have hC:=Xo o.cart;have hA:=SC o.at';have hI:=Xo o.item;have hD:=Zef o;have hP:=Zeg o;rw[<-ZmI];unfold ZmH;generalize V4 o=db at *;generalize VR o=pb at *;generalize Ym o.item=ni at *;generalize Ym o.cart=nc at *;generalize XS o.at'=pa at *;generalize SZ o.id=ti at *;generalize SZ o.sch=ts at *;refine ZH func183 rfl ntmps183 results183 ?_;simp only[go_sem,opv,Sr];repeat' ((first|(first|apply Zw|apply Zu|apply ZF)<;>intro h|refine vc6 hT ?_|refine vc6 hU ?_|refine vc6 hC ?_|refine vc6 hA ?_|refine vc6 hI ?_|refine vc6 hD ?_|refine vc6 hP ?_|refine vDq ?_)<;>first|simp only[go_sem,h,opv,Sr]|simp only[go_sem,opv,Sr]|skip)
 all_goals clear hT hU hC hA hI hD hP
 all_goals (first
  |(simp only[*,Bool.not_true,Bool.not_false,Bool.and_true,Bool.true_and,Bool.and_false,Bool.false_and,Bool.or_true,Bool.true_or,Bool.or_false,Bool.false_or,Bool.not_not];done)
  |(simp_all;done)
  |(rw[Ja];simp_all;done)
  |(rw[Ja];simp_all;omega)
  |(simp_all;omega)
  |trace_state)
end Go.Proofs.YtadgngamdofhiaaGreat
