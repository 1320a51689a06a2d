/- Lemmas of the proof. -/
import Derived.Test.YtadgngamdofhiaaGreatPlH
import Derived.Test.YtadgngamdofhiaaGreatXAa
open Inhabited renaming default→Jd
open Go.Proofs.Tryz
open Bool renaming false_and→Ja,not_false→Jb,and_false→Jc,true_and→Jf,and_self→Jg,not_true→Jh,or_true→Ji,true_or→Jj
open List renaming append_nil→Je,range→Jl
open Nat renaming zero_le→Jk
namespace Go.Proofs.YtadgngamdofhiaaGreat
set_option maxHeartbeats 64000000
set_option maxRecDepth 20000
set_option linter.unusedVariables false
set_option linter.unusedSimpArgs false
open Go.PL
structure Opn where
 id:Tg
 sch:Tg
 time:Int
 cart:Str
 kind:Int
 item:Str
 at':Rf
 delta:Int
 has:Bool
 text:Str
 drops:List Tg
 deriving DecidableEq,Inhabited
def opv (o:Opn):PV:= .agg [.int .i64 o.id.r,.int .i64 o.id.n,.int .i64 o.sch.r,.int .i64 o.sch.n,.int .i64 o.time,.str o.cart,.int .i64 o.kind,.str o.item,.int .i64 o.at'.sc,.str o.at'.gr,.str o.at'.nm,.int .i64 o.delta,.bool o.has,.str o.text,.sl .no (o.drops.map tg)]
theorem vc6 {x:Bool} {M:KH} {g:FuncId} {args args':List PV} {K:KR} {r:PV} (h1:Pp g args' r) (h2:K.k r M.m) (h0:PV.givableL M.m args:=by first|(simp only[go_sem,ref,ent,Yd,doc,Yo,row,Zh,fld,lns,tg,refs,prs,pr,eg,egs,tgs,lg,lgs,Zf,opv];done)|exact rfl) (he:PV.giveL M.m args=args':=by first|(simp only[go_sem,ref,ent,Yd,doc,Yo,row,Zh,fld,lns,tg,refs,prs,pr,eg,egs,tgs,lg,lgs,Zf,opv];done)|exact rfl):@U9 prog x M (some (g,args)) K:=YD h1 h0 he h2
theorem Da (o:Opn):(opv o).dids= []:=by simp only[opv,PV.dids,PV.didsL,ZiQ,Je]
theorem Zz:opv Jd= .agg [.int .i64 0,.int .i64 0,.int .i64 0,.int .i64 0,.int .i64 0,.str [],.int .i64 0,.str [],.int .i64 0,.str [],.str [],.int .i64 0,.bool false,.str [],.sl .no []]:=rfl
theorem ZjX (a b:Opn) (ha:a.drops.length<=maxLen) (hb:b.drops.length<=maxLen):Pp 200 [opv a,opv b] (.bool (decide (a=b))):=by
 have hE:=ZlQ a.drops b.drops ha hb;refine ZM func200 rfl ntmps200 results200 ?_;simp only[go_sem,opv,Zr,Z4,List.append_eq,List.cons_append];repeat' ((first|(first|apply ZC|apply ZB|apply ZO)<;>intro h|refine vc3 hE ?_|refine vDq ?_)<;>first|simp only[go_sem,h,Zr,Z4]|simp only[go_sem,Zr,Z4]|skip)
 all_goals (clear hE ha hb;(cases a;cases b;simp_all)<;>rfl)
def SX (o:Opn):Bool:=WM 200 o.cart||(WM 200 o.item||(WM 200 o.at'.gr||(WM 200 o.at'.nm||(WM 200 o.text||decide (200<(o.drops.length:Int))))))
theorem Ze5 (o:Opn):Pp 25 [opv o] (.bool (SX o)):=by
 refine ZM func25 rfl ntmps25 results25 ?_;simp only[go_sem,opv];repeat' ((first|(first|apply ZC|apply ZB|apply ZO)<;>intro h|refine vDq ?_)<;>first|simp only[go_sem,h]|simp only[go_sem]|skip)
 all_goals (first|(simp_all[SX,WM];done)|(rw[Bool.eq_iff_iff];simp[SX,WM]at *;omega))
def ZK (o:Opn):Bool:=(o.kind==3)||(o.kind==4)
theorem Gq (o:Opn):Pp 201 [opv o] (.bool (ZK o)):=by
 refine ZM func201 rfl ntmps201 results201 ?_;simp only[go_sem,opv];repeat' ((first|(first|apply ZC|apply ZB|apply ZO)<;>intro h|refine vDq ?_)<;>first|simp only[go_sem,h]|simp only[go_sem]|skip)
 all_goals simp_all[ZK]
def Y6 (o:Opn) (i:Nat):Bool:=F0 (o.drops.getD i Jd)&&(!(decide (o.drops.getD i Jd=o.id))&&(decide (i=0)||Vw (o.drops.getD (i-1) Jd) (o.drops.getD i Jd)))
def V2 (o:Opn):Bool:= !decide (60<(o.drops.length:Int))&&(Jl o.drops.length).all (Y6 o)
def Xn (o:Opn):List PV:= [.int .i64 o.id.r,.int .i64 o.id.n,.int .i64 o.sch.r,.int .i64 o.sch.n,.int .i64 o.time,.str o.cart,.int .i64 o.kind,.str o.item,.int .i64 o.at'.sc,.str o.at'.gr,.str o.at'.nm,.int .i64 o.delta,.bool o.has,.str o.text,.sl .no (o.drops.map tg)]
theorem ZbB (o:Opn):Pp 202 [opv o] (.bool (V2 o)):=by
 by_cases h60:60<(o.drops.length:Int);refine ZM func202 rfl ntmps202 results202 ?_;simp only[go_sem,opv,h60,V2,Ja];have hm:o.drops.length<=maxLen:=by rw[Zb];omega
 have hx:V2 o=(Jl o.drops.length).all (Y6 o):=by simp only[V2,h60,decide_false,Jb,Jf]
 rw[hx];refine ZM func202 rfl ntmps202 results202 ?_;simp only[go_sem,opv,h60];refine Zs (ι:= { x:Nat // x<=(o.drops).length/\(∀j,j<x->Y6 o j=true) }) 40 (λx=> [(1,.ptr 1 0),(10,.sl .no (o.drops.map tg)),(11,.int .i64 (o.drops.length:Int)),(12,.int .i64 (x.1:Int))]) (λx=> [(1,Xn o,false)]) (λx=> []) (λx=>(o.drops).length-x.1) ⟨0,Jk _,λj hj=>absurd hj (Nat.not_lt_zero j)⟩ ⟨rfl,(Fc4 rfl rfl rfl rfl),(fcs ⟨rfl,rfl⟩ fnl),fnl⟩ (λx=>⟨(Fc4 rfl rfl rfl rfl),(fcs rfl fnl)⟩) (λx=> ?_);obtain⟨k,hk,hI⟩:=x;simp only at hk hI ⊢;by_cases h:(k:Int)<(o.drops.length:Int)
 (have hka:k<(o.drops).length:=by omega);(have w1:=Xi hka (hm));(have i1:=Int.natCast_nonneg k)
 have hT:=GD (o.drops.getD k Jd);cases ht:F0 (o.drops.getD k Jd);rw[ht]at hT;have hz:=ZU (p:=Y6 o) hka (by simp only[Y6,ht,Ja]);simp only[go_sem,Xn,h,Z7 hka,tg,i1];refine vc3 hT ?_;simp only[go_sem,hz];rw[ht]at hT;cases he:decide (o.drops.getD k Jd=o.id);by_cases h0:0<(k:Int);have hk1:k-1<o.drops.length:=by omega
 have w2:IntKind.i64.wrap ((k:Int)-1)=((k-1:Nat):Int):=by rw[w64 (by omega)];omega
 have j1:(0:Int)<=((k-1:Nat):Int):=by omega
 have j2:((k-1:Nat):Int)<(o.drops.length:Int):=by omega
 have hL:=ZcB (o.drops.getD (k-1) Jd) (o.drops.getD k Jd);cases hb:Vw (o.drops.getD (k-1) Jd) (o.drops.getD k Jd);rw[hb]at hL;have hz:=ZU (p:=Y6 o) hka (by simp only[Y6,hb,decide_eq_false (show ¬k=0 by omega),Bool.or_self,Jc]);simp only[go_sem,Xn,h,Z7 hka,tg,i1];refine vc3 hT ?_;simp only[go_sem,Z4,he];refine vDq ?_;simp only[go_sem,h0,w2,Z7 hk1,Z7 hka,tg,h,i1,j1,j2];refine vc3 hL ?_;simp only[go_sem,hz]
 ·rw[hb]at hL;have ok:Y6 o k=true:=by simp only[Y6,ht,he,hb,Ji,Jb,Jg]
  simp only[go_sem,Xn,h,Z7 hka,tg,i1];refine vc3 hT ?_;simp only[go_sem,Z4,he];refine vDq ?_;simp only[go_sem,h0,w2,Z7 hk1,Z7 hka,tg,h,i1,j1,j2];refine vc3 hL ?_;simp only[go_sem,w1];exact⟨⟨k+1,by(try simp only);omega,Zm hI ok⟩,by show(o.drops).length-(k+1)<(o.drops).length-k;omega,⟨rfl,(Fc4 rfl rfl rfl rfl),(fcs ⟨rfl,rfl⟩ fnl),fnl⟩⟩
 ·have ok:Y6 o k=true:=by simp only[Y6,ht,he,decide_eq_true (show k=0 by omega),Jj,Jb,Jg]
  simp only[go_sem,Xn,h,Z7 hka,tg,i1];refine vc3 hT ?_;simp only[go_sem,Z4,he];refine vDq ?_;simp only[go_sem,h0,w1];exact⟨⟨k+1,by(try simp only);omega,Zm hI ok⟩,by show(o.drops).length-(k+1)<(o.drops).length-k;omega,⟨rfl,(Fc4 rfl rfl rfl rfl),(fcs ⟨rfl,rfl⟩ fnl),fnl⟩⟩
 have hz:=ZU (p:=Y6 o) hka (by simp only[Y6,he,Jh,Ja,Jc]);simp only[go_sem,Xn,h,Z7 hka,tg,i1];refine vc3 hT ?_;simp only[go_sem,Z4,he,hz];have hz:=X7 (p:=Y6 o) (n:=o.drops.length) (λj hj=>hI j (by omega));simp only[go_sem,h,hz]
def Xs (o:Opn):Opn×Bool:=
 if o.kind=1 then(⟨o.id,o.sch,o.time,o.cart,o.kind,o.item,Jd,0,false,[],[]⟩,true)
 else if o.kind=2 then(⟨o.id,o.sch,o.time,o.cart,o.kind,o.item,Jd,0,false,[],o.drops⟩,true)
 else if o.kind=3 then(⟨o.id,o.sch,o.time,o.cart,o.kind,if o.at'.sc=1 then o.item else [],o.at',o.delta,false,[],[]⟩,true)
 else if o.kind=4 then(⟨o.id,o.sch,o.time,o.cart,o.kind,if o.at'.sc=1 then o.item else [],o.at',0,o.has,if o.has=true then o.text else [],o.drops⟩,true)
 else if o.kind=5 then(⟨o.id,o.sch,o.time,o.cart,o.kind,[],Jd,0,false,[],o.drops⟩,true)
 else(Jd,false)
def opb (x:Opn×Bool):PV:= .tup [opv x.1,.bool x.2]
theorem Zo (x:Opn×Bool):(opb x).dids= []:=by simp only[opb,PV.dids,PV.didsL,Da,Je]
theorem Zgd (o:Opn):Pp 199 [opv o] (opb (Xs o)):=by
 have hP:=Gq o;unfold ZK at hP;obtain⟨id,sch,time,cart,kind,item,at',delta,has,text,drops⟩:=o;cases has;all_goals
  refine Zx func199 rfl ntmps199 results199 (Zo _) ?_;simp only[go_sem,opv];repeat' ((first|(first|apply ZC|apply ZB|apply ZO)<;>intro h|refine vc6 hP ?_|refine ZjI [(1,4)] (by kernel_rfl) (by kernel_rfl) (by exact rfl) ?_|refine vDq ?_)<;>first|simp only[go_sem,h]|simp only[go_sem]|skip)
  all_goals (simp only[beq_iff_eq,beq_eq_false_iff_ne,ne_eq]at *;clear hP;simp_all[Xs,opb,opv];try decide)
open Go.PL
def FT (o:Opn):Bool:=(o.kind==1)||((o.kind==2)||(ZK o&&(o.at'.sc==1)))
def XD (o:Opn):Bool:=
 !(!(Xs o).2|| !decide (o=(Xs o).1))&&(!(!F0 o.id||(!decide (o.sch=Jd)&& !F0 o.sch))&&(!((decide (o.time<1)||decide (1099511627776<o.time))|| !Yj o.cart)
  && (!(ZK o&& !X6 o.at')&&(!(FT o&& !Yj o.item)&&(!(decide (o.delta < -1048576)||decide (1048576<o.delta))&&(decide ((o.text.length:Int)<=40)&&V2 o))))))
theorem Zqe {o:Opn} (h:o.drops.length<=maxLen):(Xs o).1.drops.length<=maxLen:=by
 unfold Xs;repeat' split
 all_goals first|exact h|exact Jk _
theorem ST (a:Tg):(a.r==0&&a.n==0)=decide (a=Jd):=Z4 a Jd
theorem S5 (o:Opn) (ho:o.drops.length<=maxLen):Pp 161 [opv o] (.bool (XD o)):=by
 have hP:=Zgd o;have hS:=ZjX o (Xs o).1 ho (Zqe ho);have hT:=GD o.id;have hU:=GD o.sch;have hC:=Xv o.cart;have hL:=Gq o;have hA:=DE o.at';have hI:=Xv o.item;have hX:=GE o.text;have hD:=ZbB o;unfold XD FT;generalize Xs o=y at *;generalize V2 o=db at *;generalize ZK o=pb at *;generalize Yj o.item=ni at *;generalize Yj o.cart=nc at *;generalize X6 o.at'=pa at *;generalize F0 o.id=ti at *;generalize F0 o.sch=ts at *;obtain⟨y,b⟩:=y;refine ZM func161 rfl ntmps161 results161 ?_;simp only[go_sem,opv,ST];repeat' ((first|(first|apply ZC|apply ZB|apply ZO)<;>intro h|refine vc6 hP ?_|refine vc6 hS ?_|refine vc6 hT ?_|refine vc6 hU ?_|refine vc6 hC ?_|refine vc6 hL ?_|refine vc6 hA ?_|refine vc6 hI ?_|refine vc6 hX ?_|refine vc6 hD ?_|refine vDq ?_)<;>first|simp only[go_sem,h,opb,opv,ST]|simp only[go_sem,opb,opv,ST]|skip)
 all_goals clear hP hS hT hU hC hL hA hI hX hD ho
 all_goals (first
  |(simp only[*,Jh,Jb,Bool.and_true,Jf,Jc,Ja,Ji,Jj,Bool.or_false,Bool.false_or,Bool.not_not];done)
  |(simp_all;done))
end Go.Proofs.YtadgngamdofhiaaGreat
