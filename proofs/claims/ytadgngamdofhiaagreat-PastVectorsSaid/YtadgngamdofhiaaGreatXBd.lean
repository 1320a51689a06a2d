/- Lemmas of the proof. -/
import Derived.Test.YtadgngamdofhiaaGreatPlH
import Derived.Test.YtadgngamdofhiaaGreatXAa
import Derived.Test.YtadgngamdofhiaaGreatXAe
import Derived.Test.YtadgngamdofhiaaGreatXAi
import Derived.Test.YtadgngamdofhiaaGreatXBc
open Go.Proofs.Tryz
namespace Go.Proofs.YtadgngamdofhiaaGreat
set_option maxHeartbeats 64000000
set_option maxRecDepth 20000
set_option linter.unusedVariables false
set_option linter.unusedSimpArgs false
open Go.PL
def Zac (o:Opn):Bool:=(o.kind==1)||((o.kind==2)||(Z1 o&&(o.at'.sc==1)))
def X9 (o:Opn):Bool:=
 !(!(Xh o).2|| !decide (o=(Xh o).1))&&(!(!SZ o.id||(!decide (o.sch=default)&& !SZ o.sch))&&(!((decide (o.time<1)||decide (1099511627776<o.time))|| !Ym o.cart)
  && (!(Z1 o&& !XS o.at')&&(!(Zac o&& !Ym o.item)&&(!(decide (o.delta < -1048576)||decide (1048576<o.delta))&&(decide ((o.text.length:Int)<=40)&&V4 o))))))
theorem Zo8 {o:Opn} (h:o.drops.length<=maxLen):(Xh o).1.drops.length<=maxLen:=by
 unfold Xh;repeat' split
 all_goals first|exact h|exact Nat.zero_le _
theorem Sr (a:Tg):(a.r==0&&a.n==0)=decide (a=default):=ZN a default
theorem SA (o:Opn) (ho:o.drops.length<=maxLen):Pp 161 [opv o] (.bool (X9 o)):=by
 have hP:=Zfo o;have hS:=Zi4 o (Xh o).1 ho (Zo8 ho);have hT:=TY o.id;have hU:=TY o.sch;have hC:=Xk o.cart;have hL:=ST o;have hA:=G0 o.at';have hI:=Xk o.item;have hX:=S8 o.text;have hD:=ZaD o;unfold X9 Zac;generalize Xh o=y at *;generalize V4 o=db at *;generalize Z1 o=pb at *;generalize Ym o.item=ni at *;generalize Ym o.cart=nc at *;generalize XS o.at'=pa at *;generalize SZ o.id=ti at *;generalize SZ o.sch=ts at *;obtain⟨y,b⟩:=y;refine ZH func161 rfl ntmps161 results161 ?_;simp only[go_sem,opv,Sr];repeat' ((first|(first|apply Zw|apply Zu|apply ZF)<;>intro h|refine vc6 hP ?_|refine vc6 hS ?_|refine vc6 hT ?_|refine vc6 hU ?_|refine vc6 hC ?_|refine vc6 hL ?_|refine vc6 hA ?_|refine vc6 hI ?_|refine vc6 hX ?_|refine vc6 hD ?_|refine vDq ?_)<;>first|simp only[go_sem,h,opb,opv,Sr]|simp only[go_sem,opb,opv,Sr]|skip)
 all_goals clear hP hS hT hU hC hL hA hI hX hD ho
 all_goals (first
  |(simp only[*,Bool.not_true,Bool.not_false,Bool.and_true,Bool.true_and,Bool.and_false,Bool.false_and,Bool.or_true,Bool.true_or,Bool.or_false,Bool.false_or,Bool.not_not];done)
  |(simp_all;done))
end Go.Proofs.YtadgngamdofhiaaGreat
