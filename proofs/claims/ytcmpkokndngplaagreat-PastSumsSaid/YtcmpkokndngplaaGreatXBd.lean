/- Lemmas. -/
import Derived.Test.YtcmpkokndngplaaGreatXBc
set_option linter.defProp false
open Go.Proofs.Tryz
namespace Go.Proofs.YtcmpkokndngplaaGreat
set_option maxHeartbeats 64000000
set_option maxRecDepth 20000
set_option linter.unusedVariables false
set_option linter.unusedSimpArgs false
open Go.PL
def ZtK (o:Opn):Bool:=(o.kind==1)||((o.kind==2)||(ZG o&&(o.at'.sc==1)))
def Ws (o:Opn):Bool:=
 !(!(Tj o).2|| !decide (o=(Tj o).1))&&(!(!ZdN o.id||(!decide (o.sch=default)&& !ZdN o.sch))&&(!((decide (o.time<1)||decide (1099511627776<o.time))|| !Z0 o.cart)
  && (!(ZG o&& !Vd o.at')&&(!(ZtK o&& !Z0 o.item)&&(!(decide (o.delta < -1048576)||decide (1048576<o.delta))&&(decide ((o.text.length:Int)<=40)&&ZaS o))))))
def ZrD {o:Opn} (h:o.drops.length<=maxLen):(Tj o).1.drops.length<=maxLen:=by
 unfold Tj;repeat' split
 all_goals first|exact h|exact Nat.zero_le _
def ZeT (a:Tg):(a.r==0&&a.n==0)=decide (a=default):=Z6 a default
theorem Gj (o:Opn) (a:o.drops.length<=maxLen):Pp 96 [opv o] (.bool (Ws o)):=by
 have i:=ZgC o;have j:=ZkM o (Tj o).1 a (ZrD a);have k:=GQ o.id;have l:=GQ o.sch;have d:=Y0 o.cart;have g:=GB o;have c:=DM o.at';have f:=Y0 o.item;have m:=GR o.text;have e:=ZbE o;unfold Ws ZtK;generalize Tj o=y at *;generalize ZaS o=db at *;generalize ZG o=pb at *;generalize Z0 o.item=ni at *;generalize Z0 o.cart=nc at *;generalize Vd o.at'=pa at *;generalize ZdN o.id=ti at *;generalize ZdN o.sch=ts at *;obtain⟨y,b⟩:=y;refine ZM func96 rfl ntmps96 results96 ?_;simp only[go_sem,opv,ZeT];repeat' ((first|(first|apply Zw|apply Zv|apply ZK)<;>intro h|refine vc6 i ?_|refine vc6 j ?_|refine vc6 k ?_|refine vc6 l ?_|refine vc6 d ?_|refine vc6 g ?_|refine vc6 c ?_|refine vc6 f ?_|refine vc6 m ?_|refine vc6 e ?_|refine vDq ?_)<;>first|simp only[go_sem,h,opb,opv,ZeT]|simp only[go_sem,opb,opv,ZeT]|skip)
 all_goals clear i j k l d g c f m e a
 all_goals (first
  |(simp only[*,Bool.not_true,Bool.not_false,Bool.and_true,Bool.true_and,Bool.and_false,Bool.false_and,Bool.or_true,Bool.true_or,Bool.or_false,Bool.false_or,Bool.not_not];done)
  |(simp_all;done))
end Go.Proofs.YtcmpkokndngplaaGreat
