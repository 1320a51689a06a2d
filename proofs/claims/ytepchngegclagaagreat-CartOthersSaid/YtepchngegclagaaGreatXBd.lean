/- Lemmas of the proof. -/
import Derived.Test.YtepchngegclagaaGreatPlH
import Derived.Test.YtepchngegclagaaGreatXAa
import Derived.Test.YtepchngegclagaaGreatXAh
import Derived.Test.YtepchngegclagaaGreatXAn
open Go.Proofs.Tryz
namespace Go.Proofs.YtepchngegclagaaGreat
set_option maxHeartbeats 64000000
set_option maxRecDepth 20000
set_option linter.unusedVariables false
set_option linter.unusedSimpArgs false
open Go.PL
def VZ (o:Opn):Bool:=(o.kind==1)||((o.kind==2)||(Ye o&&(o.at'.sc==1)))
def Yk (o:Opn):Bool:=
 !(!(Z6 o).2|| !decide (o=(Z6 o).1))&&(!(!Wy o.id||(!decide (o.sch=default)&& !Wy o.sch))&&(!((decide (o.time<1)||decide (1099511627776<o.time))|| !ZL o.cart)
  && (!(Ye o&& !YY o.at')&&(!(VZ o&& !ZL o.item)&&(!(decide (o.delta < -1048576)||decide (1048576<o.delta))&&(decide ((o.text.length:Int)<=40)&&Wp o))))))
theorem ZmD {o:Opn} (h:o.drops.length<=maxLen):(Z6 o).1.drops.length<=maxLen:=by
 unfold Z6;repeat' split
 all_goals first|exact h|exact Nat.zero_le _
theorem TH (a:Tg):(a.r==0&&a.n==0)=decide (a=default):=ZB a default
theorem Ua (o:Opn) (ho:o.drops.length<=maxLen):Pp 53 [opv o] (.bool (Yk o)):=by
 have hP:=ZdB o;have hS:=Zaq o (Z6 o).1 ho (ZmD ho);have hT:=Th o.id;have hU:=Th o.sch;have hC:=YA o.cart;have hL:=T0 o;have hA:=S7 o.at';have hI:=YA o.item;have hX:=Sb o.text;have hD:=Fy o;unfold Yk VZ;generalize Z6 o=y at *;generalize Wp o=db at *;generalize Ye o=pb at *;generalize ZL o.item=ni at *;generalize ZL o.cart=nc at *;generalize YY o.at'=pa at *;generalize Wy o.id=ti at *;generalize Wy o.sch=ts at *;obtain⟨y,b⟩:=y;refine ZF func53 rfl ntmps53 results53 ?_;simp only[go_sem,opv,TH];repeat' ((first|(first|apply Zl|apply Zj|apply Zs)<;>intro h|refine vc6 hP ?_|refine vc6 hS ?_|refine vc6 hT ?_|refine vc6 hU ?_|refine vc6 hC ?_|refine vc6 hL ?_|refine vc6 hA ?_|refine vc6 hI ?_|refine vc6 hX ?_|refine vc6 hD ?_|refine vDq ?_)<;>first|simp only[go_sem,h,opb,opv,TH]|simp only[go_sem,opb,opv,TH]|skip)
 all_goals clear hP hS hT hU hC hL hA hI hX hD ho
 all_goals (first
  |(simp only[*,Bool.not_true,Bool.not_false,Bool.and_true,Bool.true_and,Bool.and_false,Bool.false_and,Bool.or_true,Bool.true_or,Bool.or_false,Bool.false_or,Bool.not_not];done)
  |(simp_all;done))
end Go.Proofs.YtepchngegclagaaGreat
