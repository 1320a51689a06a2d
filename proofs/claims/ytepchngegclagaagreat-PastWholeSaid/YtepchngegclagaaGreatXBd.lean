/- Lemmas of the proof. -/
import Derived.Test.YtepchngegclagaaGreatPlH
import Derived.Test.YtepchngegclagaaGreatXAa
import Derived.Test.YtepchngegclagaaGreatXAi
open Go.Proofs.Tryz
namespace Go.Proofs.YtepchngegclagaaGreat
set_option maxHeartbeats 64000000
set_option maxRecDepth 20000
set_option linter.unusedVariables false
set_option linter.unusedSimpArgs false
open Go.PL
def DW (o:Opn):Bool:=(o.kind==1)||((o.kind==2)||(Y4 o&&(o.at'.sc==1)))
def XJ (o:Opn):Bool:=
 !(!(YT o).2|| !decide (o=(YT o).1))&&(!(!Vl o.id||(!decide (o.sch=default)&& !Vl o.sch))&&(!((decide (o.time<1)||decide (1099511627776<o.time))|| !Z0 o.cart)
  && (!(Y4 o&& !XI o.at')&&(!(DW o&& !Z0 o.item)&&(!(decide (o.delta < -1048576)||decide (1048576<o.delta))&&(decide ((o.text.length:Int)<=40)&&Vs o))))))
theorem Zmz {o:Opn} (h:o.drops.length<=maxLen):(YT o).1.drops.length<=maxLen:=by
 unfold YT;repeat' split
 all_goals first|exact h|exact Nat.zero_le _
theorem TF (a:Tg):(a.r==0&&a.n==0)=decide (a=default):=ZD a default
theorem V8 (o:Opn) (ho:o.drops.length<=maxLen):Pp 53 [opv o] (.bool (XJ o)):=by
 have hP:=Zdm o;have hS:=Zac o (YT o).1 ho (Zmz ho);have hT:=Tj o.id;have hU:=Tj o.sch;have hC:=YL o.cart;have hL:=T3 o;have hA:=S6 o.at';have hI:=YL o.item;have hX:=Sd o.text;have hD:=Fj o;unfold XJ DW;generalize YT o=y at *;generalize Vs o=db at *;generalize Y4 o=pb at *;generalize Z0 o.item=ni at *;generalize Z0 o.cart=nc at *;generalize XI o.at'=pa at *;generalize Vl o.id=ti at *;generalize Vl o.sch=ts at *;obtain⟨y,b⟩:=y;refine Zz func53 rfl ntmps53 results53 ?_;simp only[go_sem,opv,TF];repeat' ((first|(first|apply Zl|apply Zj|apply Zp)<;>intro h|refine vc6 hP ?_|refine vc6 hS ?_|refine vc6 hT ?_|refine vc6 hU ?_|refine vc6 hC ?_|refine vc6 hL ?_|refine vc6 hA ?_|refine vc6 hI ?_|refine vc6 hX ?_|refine vc6 hD ?_|refine vDq ?_)<;>first|simp only[go_sem,h,opb,opv,TF]|simp only[go_sem,opb,opv,TF]|skip)
 all_goals clear hP hS hT hU hC hL hA hI hX hD ho
 all_goals (first
  |(simp only[*,Bool.not_true,Bool.not_false,Bool.and_true,Bool.true_and,Bool.and_false,Bool.false_and,Bool.or_true,Bool.true_or,Bool.or_false,Bool.false_or,Bool.not_not];done)
  |(simp_all;done))
end Go.Proofs.YtepchngegclagaaGreat
