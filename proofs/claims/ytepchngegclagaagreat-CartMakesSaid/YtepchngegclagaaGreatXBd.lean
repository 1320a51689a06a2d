/- Lemmas of the proof. -/
import Derived.Test.YtepchngegclagaaGreatPlH
import Derived.Test.YtepchngegclagaaGreatXAa
import Derived.Test.YtepchngegclagaaGreatXAi
open Inhabited renaming default→Jd
open Go.Proofs.Tryz
open Bool renaming not_false→Ja,false_and→Jb,and_false→Jc,eq_iff_iff→Jh,not_true→Ji,true_and→Jj,and_self→Jk,or_true→Jl,true_or→Jm
open Int renaming natCast_nonneg→Je
open Nat renaming zero_le→Jf,not_lt_zero→Jg
namespace Go.Proofs.YtepchngegclagaaGreat
set_option maxHeartbeats 64000000
set_option maxRecDepth 20000
set_option linter.unusedVariables false
set_option linter.unusedSimpArgs false
open Go.PL
def UF (o:Opn):Bool:=(o.kind==1)||((o.kind==2)||(Yv o&&(o.at'.sc==1)))
def Yd (o:Opn):Bool:=
 !(!(Yj o).2|| !decide (o=(Yj o).1))&&(!(!W6 o.id||(!decide (o.sch=Jd)&& !W6 o.sch))&&(!((decide (o.time<1)||decide (1099511627776<o.time))|| !ZU o.cart)
  && (!(Yv o&& !Xq o.at')&&(!(UF o&& !ZU o.item)&&(!(decide (o.delta < -1048576)||decide (1048576<o.delta))&&(decide ((o.text.length:Int)<=40)&&W9 o))))))
theorem Zm6 {o:Opn} (h:o.drops.length<=maxLen):(Yj o).1.drops.length<=maxLen:=by
 unfold Yj;repeat' split
 all_goals first|exact h|exact Jf _
theorem Ss (a:Tg):(a.r==0&&a.n==0)=decide (a=Jd):=ZL a Jd
theorem UT (o:Opn) (ho:o.drops.length<=maxLen):Pp 53 [opv o] (.bool (Yd o)):=by
 have hP:=Zez o;have hS:=Zbh o (Yj o).1 ho (Zm6 ho);have hT:=T5 o.id;have hU:=T5 o.sch;have hC:=Xs o.cart;have hL:=S6 o;have hA:=G4 o.at';have hI:=Xs o.item;have hX:=Gg o.text;have hD:=Zau o;unfold Yd UF;generalize Yj o=y at *;generalize W9 o=db at *;generalize Yv o=pb at *;generalize ZU o.item=ni at *;generalize ZU o.cart=nc at *;generalize Xq o.at'=pa at *;generalize W6 o.id=ti at *;generalize W6 o.sch=ts at *;obtain⟨y,b⟩:=y;refine ZM func53 rfl ntmps53 results53 ?_;simp only[go_sem,opv,Ss];repeat' ((first|(first|apply Zt|apply Zs|apply Zm)<;>intro h|refine vc6 hP ?_|refine vc6 hS ?_|refine vc6 hT ?_|refine vc6 hU ?_|refine vc6 hC ?_|refine vc6 hL ?_|refine vc6 hA ?_|refine vc6 hI ?_|refine vc6 hX ?_|refine vc6 hD ?_|refine vDq ?_)<;>first|simp only[go_sem,h,opb,opv,Ss]|simp only[go_sem,opb,opv,Ss]|skip)
 all_goals clear hP hS hT hU hC hL hA hI hX hD ho
 all_goals (first
  |(simp only[*,Ji,Ja,Bool.and_true,Jj,Jc,Jb,Jl,Jm,Bool.or_false,Bool.false_or,Bool.not_not];done)
  |(simp_all;done))
open Go.PL
theorem SL (a b:Tg):Pp 97 [tg a,tg b] (.bool (Ye a b)):=by
 refine ZM func97 rfl ntmps97 results97 ?_;simp only[go_sem,tg];repeat' ((first|(first|apply Zt|apply Zs|apply Zm)<;>intro h|refine vDq ?_)<;>first|simp only[go_sem,h]|simp only[go_sem]|skip)
 all_goals simp_all[Ye]
 all_goals (try omega)
theorem ZdJ (o:Opn):Pp 132 [opv o] (.bool (W9 o)):=by
 by_cases h60:60<(o.drops.length:Int);refine ZM func132 rfl ntmps132 results132 ?_;simp only[go_sem,opv,h60,W9,Jb];have hm:o.drops.length<=maxLen:=by rw[Zc];omega
 have hx:W9 o=(List.range o.drops.length).all (Y1 o):=by simp only[W9,h60,decide_false,Ja,Jj]
 rw[hx];refine ZM func132 rfl ntmps132 results132 ?_;simp only[go_sem,opv,h60];refine ZA (ι:= { x:Nat // x<=(o.drops).length/\(∀j,j<x->Y1 o j=true) }) 51 (λx=> [(1,.ptr 1 0),(3,.int .i64 (x.1:Int))]) (λx=> [(1,Xc o,false)]) (λx=> []) (λx=>(o.drops).length-x.1) ⟨0,Jf _,λj hj=>absurd hj (Jg j)⟩ ⟨rfl,(Fc2 rfl rfl),(fcs ⟨rfl,rfl⟩ fnl),fnl⟩ (λx=>⟨(Fc2 rfl rfl),(fcs rfl fnl)⟩) (λx=> ?_);obtain⟨k,hk,hI⟩:=x;simp only at hk hI ⊢;by_cases h:(k:Int)<(o.drops.length:Int)
 (have hka:k<(o.drops).length:=by omega);(have w1:=WD hka (hm));(have i1:=Je k)
 have hT:=TB (o.drops.getD k Jd);cases ht:W6 (o.drops.getD k Jd);rw[ht]at hT;have hz:=Yl (p:=Y1 o) hka (by simp only[Y1,ht,Jb]);simp only[go_sem,Xc,h];refine vDq ?_;simp only[go_sem,Xc,h,ZO hka,tg,i1];refine vc3 hT ?_;simp only[go_sem,hz];rw[ht]at hT;cases he:decide (o.drops.getD k Jd=o.id);by_cases h0:0<(k:Int);have hk1:k-1<o.drops.length:=by omega
 have w2:IntKind.i64.wrap ((k:Int)-1)=((k-1:Nat):Int):=by rw[w64 (by omega)];omega
 have j1:(0:Int)<=((k-1:Nat):Int):=by omega
 have j2:((k-1:Nat):Int)<(o.drops.length:Int):=by omega
 have hL:=SL (o.drops.getD (k-1) Jd) (o.drops.getD k Jd);cases hb:Ye (o.drops.getD (k-1) Jd) (o.drops.getD k Jd);rw[hb]at hL;have hz:=Yl (p:=Y1 o) hka (by simp only[Y1,hb,decide_eq_false (show ¬k=0 by omega),Bool.or_self,Jc]);simp only[go_sem,Xc,h];refine vDq ?_;simp only[go_sem,Xc,h,ZO hka,tg,i1];refine vc3 hT ?_;simp only[go_sem,ZL,he,h0,w2,ZO hk1,ZO hka,tg,h,i1,j1,j2];refine vc3 hL ?_;simp only[go_sem,hz]
 ·rw[hb]at hL;have ok:Y1 o k=true:=by simp only[Y1,ht,he,hb,Jl,Ja,Jk]
  simp only[go_sem,Xc,h];refine vDq ?_;simp only[go_sem,Xc,h,ZO hka,tg,i1];refine vc3 hT ?_;simp only[go_sem,ZL,he,h0,w2,ZO hk1,ZO hka,tg,h,i1,j1,j2];refine vc3 hL ?_;simp only[go_sem,w1];exact⟨⟨k+1,by(try simp only);omega,Zu hI ok⟩,by show(o.drops).length-(k+1)<(o.drops).length-k;omega,⟨rfl,(Fc2 rfl rfl),(fcs ⟨rfl,rfl⟩ fnl),fnl⟩⟩
 ·have ok:Y1 o k=true:=by simp only[Y1,ht,he,decide_eq_true (show k=0 by omega),Jm,Ja,Jk]
  simp only[go_sem,Xc,h];refine vDq ?_;simp only[go_sem,Xc,h,ZO hka,tg,i1];refine vc3 hT ?_;simp only[go_sem,ZL,he,h0,w1,ZO hka,tg,i1,h];exact⟨⟨k+1,by(try simp only);omega,Zu hI ok⟩,by show(o.drops).length-(k+1)<(o.drops).length-k;omega,⟨rfl,(Fc2 rfl rfl),(fcs ⟨rfl,rfl⟩ fnl),fnl⟩⟩
 have hz:=Yl (p:=Y1 o) hka (by simp only[Y1,he,Ji,Jb,Jc]);simp only[go_sem,Xc,h];refine vDq ?_;simp only[go_sem,Xc,h,ZO hka,tg,i1];refine vc3 hT ?_;simp only[go_sem,ZL,he,hz,ZO hka,tg,i1,h];have hz:=UJ (p:=Y1 o) (n:=o.drops.length) (λj hj=>hI j (by omega));simp only[go_sem,Xc,h,hz]
def V1 (o:Opn):Bool:=decide (o.at'=Jd)&&(decide (o.delta=0)&&(!o.has&&decide (o.text= [])))
theorem Zaq (a:Rf):(a.sc==0&&(a.gr== []&&a.nm== []))=decide (a=Jd):=ZN a Jd
theorem ZdK (o:Opn):Pp 133 [opv o] (.bool (V1 o)):=by
 refine ZM func133 rfl ntmps133 results133 ?_;simp only[go_sem,opv,Zaq];repeat' ((first|(first|apply Zt|apply Zs|apply Zm)<;>intro h|refine vDq ?_)<;>first|simp only[go_sem,h,Zaq]|simp only[go_sem,Zaq]|skip)
 all_goals (simp_all[V1];try(rw[Jh];simp))
def ZnW (id:Tg) (l:List Tg):Bool:=W9 ⟨id,Jd,0,[],0,[],Jd,0,false,[],l⟩
theorem Zmy (o:Opn):W9 o=ZnW o.id o.drops:=rfl
def ZkY (o:Opn):Bool:=
 if((((!W6 o.id||(!decide (o.sch=Jd)&& !W6 o.sch))||decide (o.time<1))||decide (1099511627776<o.time))|| !ZU o.cart)|| !W9 o then false
 else if o.kind=5 then decide (o.item= [])&&V1 o
 else if o.kind=1 then(ZU o.item&&V1 o)&&decide ((o.drops.length:Int)=0)
 else if o.kind=2 then ZU o.item&&V1 o
 else if(!Xq o.at'||(decide (o.at'.sc=1)&& !ZU o.item))||(decide (o.at'.sc=0)&& !decide (o.item= []))then false
 else if o.kind=3 then(((!o.has&&decide (o.text= []))&&decide ((o.drops.length:Int)=0))&&decide (-1048577<o.delta))&&decide (o.delta<1048577)
 else(decide (o.kind=4)&&decide (o.delta=0))&&((o.has&&decide ((o.text.length:Int)<41))||(!o.has&&decide (o.text= [])))
theorem ZkZ (o:Opn):ZkY o=Yd o:=by
 rw[Jh];unfold ZkY Yd;rw[Zmy];obtain⟨id,sch,time,cart,kind,item,⟨sc,gr,nm⟩,delta,has,text,drops⟩:=o;simp only;generalize ZnW id drops=db;by_cases k5:kind=5;subst k5;simp[Yj,UF,Yv,V1];constructor
 ·intro h;simp_all;try omega
 ·intro h;simp_all;try omega
 by_cases k1:kind=1;subst k1;simp[Yj,UF,Yv,V1];constructor
 ·intro h;simp_all;try omega
 ·intro h;simp_all;try omega
 by_cases k2:kind=2;subst k2;simp[Yj,UF,Yv,V1];constructor
 ·intro h;simp_all;try omega
 ·intro h;simp_all;try omega
 by_cases k3:kind=3;subst k3;by_cases s1:sc=1;subst s1;simp[Yj,UF,Yv,V1];constructor
 ·intro h;simp_all;try omega
 ·intro h;simp_all;try omega
 by_cases s0:sc=0;subst s0;simp[Yj,UF,Yv,V1];constructor
 ·intro h;simp_all;try omega
 ·intro h;simp_all;try omega
 simp[Yj,UF,Yv,V1,Xq,s1,s0];by_cases k4:kind=4;subst k4;by_cases s1:sc=1
 ·subst s1;cases has;all_goals
   simp[Yj,UF,Yv,V1];constructor
   ·intro h;simp_all;try omega
   ·intro h;simp_all;try omega
 by_cases s0:sc=0
 ·subst s0;cases has;all_goals
   simp[Yj,UF,Yv,V1];constructor
   ·intro h;simp_all;try omega
   ·intro h;simp_all;try omega
 simp[Yj,UF,Yv,V1,Xq,s1,s0];simp[Yj,k1,k2,k3,k4,k5]
theorem ZhR (l:List Rf) (r:Rf) (hl:l.length<=maxLen):Pp 262 [refs l,ref r] (.int .i64 (Xw l r)):=by
 have hsym:Xw l r=idx (λx=>decide (x=r)) l:=by unfold Xw;congr 1;funext x;simp[eq_comm]
 rw[hsym];refine ZM func262 rfl ntmps262 results262 ?_;simp only[go_sem,refs,ref];refine ZA (ι:= { x:Nat // x<=(l).length/\(∀j,j<x->(λx=>decide (x=r)) (l.getD j Jd)=false) }) 19 (λx=> [(0,refs l),(3,.ptr 3 0),(5,.int .i64 (x.1:Int))]) (λx=> [(3,[.int .i64 r.sc,.str r.gr,.str r.nm],false)]) (λx=> []) (λx=>(l).length-x.1) ⟨0,Jf _,λj hj=>absurd hj (Jg j)⟩ ⟨rfl,(Fc3 rfl rfl rfl),(fcs ⟨rfl,rfl⟩ fnl),fnl⟩ (λx=>⟨(Fc3 rfl rfl rfl),(fcs rfl fnl)⟩) (λx=> ?_);obtain⟨k,hk,hI⟩:=x;simp only at hk hI ⊢;by_cases h:(k:Int)<(l.length:Int)
 (have hka:k<(l).length:=by omega);(have w1:=WD hka (hl));(have i1:=Je k)
 cases he:(λx=>decide (x=r)) (l.getD k Jd)
 ·have he0:=he;simp only at he;simp only[go_sem,refs,h];refine vDq ?_;simp only[go_sem,Z9 hka,h,i1,ref,ZN,he,w1];exact⟨⟨k+1,by(try simp only);omega,Zu hI he0⟩,by show(l).length-(k+1)<(l).length-k;omega,⟨rfl,(Fc3 rfl rfl rfl),(fcs ⟨rfl,rfl⟩ fnl),fnl⟩⟩
 have hx:=Wn (p:=λx=>decide (x=r)) hka hI he;simp only at he;simp only[go_sem,refs,h];refine vDq ?_;simp only[go_sem,Z9 hka,h,i1,ref,ZN,he,hx];have hx:=Vt (p:=λx=>decide (x=r)) (d:=Jd) (l:=l) (λj hj=>hI j (by omega));simp only[go_sem,refs,h,hx]
end Go.Proofs.YtepchngegclagaaGreat
