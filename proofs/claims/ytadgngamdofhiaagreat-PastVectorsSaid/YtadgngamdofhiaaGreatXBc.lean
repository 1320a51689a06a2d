/- Lemmas of the proof. -/
import Derived.Test.YtadgngamdofhiaaGreatPlH
import Derived.Test.YtadgngamdofhiaaGreatXAa
import Derived.Test.YtadgngamdofhiaaGreatXAe
import Derived.Test.YtadgngamdofhiaaGreatXAi
open Inhabited renaming default→Jd
open Go.Proofs.Tryz
open Bool renaming false_and→Ja,not_false→Jb,and_false→Jg,and_self→Jh
open List renaming cons_append→Jc,append_nil→Je,append_eq→Jf,range→Ji
namespace Go.Proofs.YtadgngamdofhiaaGreat
set_option maxHeartbeats 64000000
set_option maxRecDepth 20000
set_option linter.unusedVariables false
set_option linter.unusedSimpArgs false
open Go.PL
structure Opn where
 id:Tg
 sch:Tg
 time:Int
 cart:Str
 kind:Int
 item:Str
 at':Rf
 delta:Int
 has:Bool
 text:Str
 drops:List Tg
 deriving DecidableEq,Inhabited
def opv (o:Opn):PV:= .agg [.int .i64 o.id.r,.int .i64 o.id.n,.int .i64 o.sch.r,.int .i64 o.sch.n,.int .i64 o.time,.str o.cart,.int .i64 o.kind,.str o.item,.int .i64 o.at'.sc,.str o.at'.gr,.str o.at'.nm,.int .i64 o.delta,.bool o.has,.str o.text,.sl .no (o.drops.map tg)]
theorem vc6 {x:Bool} {M:KH} {g:FuncId} {args args':List PV} {K:KR} {r:PV} (h1:Pp g args' r) (h2:K.k r M.m) (h0:PV.givableL M.m args:=by first|(simp only[go_sem,ref,ent,YG,doc,Yq,row,Zi,fld,lns,tg,refs,prs,pr,eg,egs,tgs,lg,lgs,Zh,opv];done)|exact rfl) (he:PV.giveL M.m args=args':=by first|(simp only[go_sem,ref,ent,YG,doc,Yq,row,Zi,fld,lns,tg,refs,prs,pr,eg,egs,tgs,lg,lgs,Zh,opv];done)|exact rfl):@UJ prog x M (some (g,args)) K:=Yh h1 h0 he h2
theorem GD (o:Opn):(opv o).dids= []:=by simp only[opv,PV.dids,PV.didsL,Zh2,Je]
theorem Zv:opv Jd= .agg [.int .i64 0,.int .i64 0,.int .i64 0,.int .i64 0,.int .i64 0,.str [],.int .i64 0,.str [],.int .i64 0,.str [],.str [],.int .i64 0,.bool false,.str [],.sl .no []]:=rfl
theorem Zi4 (a b:Opn) (ha:a.drops.length<=maxLen) (hb:b.drops.length<=maxLen):Pp 200 [opv a,opv b] (.bool (decide (a=b))):=by
 have hE:=ZkJ a.drops b.drops ha hb;refine ZH func200 rfl ntmps200 results200 ?_;simp only[go_sem,opv,Zr,ZN,Jf,Jc];repeat' ((first|(first|apply Zw|apply Zu|apply ZF)<;>intro h|refine vc3 hE ?_|refine vDq ?_)<;>first|simp only[go_sem,h,Zr,ZN]|simp only[go_sem,Zr,ZN]|skip)
 all_goals (clear hE ha hb;(cases a;cases b;simp_all)<;>rfl)
theorem Zgq (a b:Opn) (ha:a.drops.length<=maxLen) (hb:b.drops.length<=maxLen):Pp 51 [opv a,opv b] (.bool (decide (a=b))):=by
 have hE:=Zjb a.drops b.drops ha hb;refine ZH func51 rfl ntmps51 results51 ?_;simp only[go_sem,opv,Zr,ZN,Jf,Jc];repeat' ((first|(first|apply Zw|apply Zu|apply ZF)<;>intro h|refine vc3 hE ?_|refine vDq ?_)<;>first|simp only[go_sem,h,Zr,ZN]|simp only[go_sem,Zr,ZN]|skip)
 all_goals (clear hE ha hb;(cases a;cases b;simp_all)<;>rfl)
def Sx (o:Opn):Bool:=Wt 200 o.cart||(Wt 200 o.item||(Wt 200 o.at'.gr||(Wt 200 o.at'.nm||(Wt 200 o.text||decide (200<(o.drops.length:Int))))))
theorem Zee (o:Opn):Pp 25 [opv o] (.bool (Sx o)):=by
 refine ZH func25 rfl ntmps25 results25 ?_;simp only[go_sem,opv];repeat' ((first|(first|apply Zw|apply Zu|apply ZF)<;>intro h|refine vDq ?_)<;>first|simp only[go_sem,h]|simp only[go_sem]|skip)
 all_goals (first|(simp_all[Sx,Wt];done)|(rw[Bool.eq_iff_iff];simp[Sx,Wt]at *;omega))
def Z1 (o:Opn):Bool:=(o.kind==3)||(o.kind==4)
theorem ST (o:Opn):Pp 201 [opv o] (.bool (Z1 o)):=by
 refine ZH func201 rfl ntmps201 results201 ?_;simp only[go_sem,opv];repeat' ((first|(first|apply Zw|apply Zu|apply ZF)<;>intro h|refine vDq ?_)<;>first|simp only[go_sem,h]|simp only[go_sem]|skip)
 all_goals simp_all[Z1]
def YZ (o:Opn) (i:Nat):Bool:=SZ (o.drops.getD i Jd)&&(!(decide (o.drops.getD i Jd=o.id))&&(decide (i=0)||Vd (o.drops.getD (i-1) Jd) (o.drops.getD i Jd)))
def V4 (o:Opn):Bool:= !decide (60<(o.drops.length:Int))&&(Ji o.drops.length).all (YZ o)
def Y8 (o:Opn):List PV:= [.int .i64 o.id.r,.int .i64 o.id.n,.int .i64 o.sch.r,.int .i64 o.sch.n,.int .i64 o.time,.str o.cart,.int .i64 o.kind,.str o.item,.int .i64 o.at'.sc,.str o.at'.gr,.str o.at'.nm,.int .i64 o.delta,.bool o.has,.str o.text,.sl .no (o.drops.map tg)]
theorem ZaD (o:Opn):Pp 202 [opv o] (.bool (V4 o)):=by
 by_cases h60:60<(o.drops.length:Int);refine ZH func202 rfl ntmps202 results202 ?_;simp only[go_sem,opv,h60,V4,Ja];have hm:o.drops.length<=maxLen:=by rw[Zb];omega
 have hx:V4 o=(Ji o.drops.length).all (YZ o):=by simp only[V4,h60,decide_false,Jb,Bool.true_and]
 rw[hx];refine ZH func202 rfl ntmps202 results202 ?_;simp only[go_sem,opv,h60];refine Zt (ι:= { x:Nat // x<=(o.drops).length/\(∀j,j<x->YZ o j=true) }) 40 (λx=> [(1,.ptr 1 0),(10,.sl .no (o.drops.map tg)),(11,.int .i64 (o.drops.length:Int)),(12,.int .i64 (x.1:Int))]) (λx=> [(1,Y8 o,false)]) (λx=> []) (λx=>(o.drops).length-x.1) ⟨0,Nat.zero_le _,λj hj=>absurd hj (Nat.not_lt_zero j)⟩ ⟨rfl,(Fc4 rfl rfl rfl rfl),(fcs ⟨rfl,rfl⟩ fnl),fnl⟩ (λx=>⟨(Fc4 rfl rfl rfl rfl),(fcs rfl fnl)⟩) (λx=> ?_);obtain⟨k,hk,hI⟩:=x;simp only at hk hI ⊢;by_cases h:(k:Int)<(o.drops.length:Int)
 (have hka:k<(o.drops).length:=by omega);(have w1:=Xb hka (hm));(have i1:=Int.natCast_nonneg k)
 have hT:=TY (o.drops.getD k Jd);cases ht:SZ (o.drops.getD k Jd);rw[ht]at hT;have hz:=Z0 (p:=YZ o) hka (by simp only[YZ,ht,Ja]);simp only[go_sem,Y8,h,ZK hka,tg,i1];refine vc3 hT ?_;simp only[go_sem,hz];rw[ht]at hT;cases he:decide (o.drops.getD k Jd=o.id);by_cases h0:0<(k:Int);have hk1:k-1<o.drops.length:=by omega
 have w2:IntKind.i64.wrap ((k:Int)-1)=((k-1:Nat):Int):=by rw[w64 (by omega)];omega
 have j1:(0:Int)<=((k-1:Nat):Int):=by omega
 have j2:((k-1:Nat):Int)<(o.drops.length:Int):=by omega
 have hL:=ZbA (o.drops.getD (k-1) Jd) (o.drops.getD k Jd);cases hb:Vd (o.drops.getD (k-1) Jd) (o.drops.getD k Jd);rw[hb]at hL;have hz:=Z0 (p:=YZ o) hka (by simp only[YZ,hb,decide_eq_false (show ¬k=0 by omega),Bool.or_self,Jg]);simp only[go_sem,Y8,h,ZK hka,tg,i1];refine vc3 hT ?_;simp only[go_sem,ZN,he];refine vDq ?_;simp only[go_sem,h0,w2,ZK hk1,ZK hka,tg,h,i1,j1,j2];refine vc3 hL ?_;simp only[go_sem,hz]
 ·rw[hb]at hL;have ok:YZ o k=true:=by simp only[YZ,ht,he,hb,Bool.or_true,Jb,Jh]
  simp only[go_sem,Y8,h,ZK hka,tg,i1];refine vc3 hT ?_;simp only[go_sem,ZN,he];refine vDq ?_;simp only[go_sem,h0,w2,ZK hk1,ZK hka,tg,h,i1,j1,j2];refine vc3 hL ?_;simp only[go_sem,w1];exact⟨⟨k+1,by(try simp only);omega,Zm hI ok⟩,by show(o.drops).length-(k+1)<(o.drops).length-k;omega,⟨rfl,(Fc4 rfl rfl rfl rfl),(fcs ⟨rfl,rfl⟩ fnl),fnl⟩⟩
 ·have ok:YZ o k=true:=by simp only[YZ,ht,he,decide_eq_true (show k=0 by omega),Bool.true_or,Jb,Jh]
  simp only[go_sem,Y8,h,ZK hka,tg,i1];refine vc3 hT ?_;simp only[go_sem,ZN,he];refine vDq ?_;simp only[go_sem,h0,w1];exact⟨⟨k+1,by(try simp only);omega,Zm hI ok⟩,by show(o.drops).length-(k+1)<(o.drops).length-k;omega,⟨rfl,(Fc4 rfl rfl rfl rfl),(fcs ⟨rfl,rfl⟩ fnl),fnl⟩⟩
 have hz:=Z0 (p:=YZ o) hka (by simp only[YZ,he,Bool.not_true,Ja,Jg]);simp only[go_sem,Y8,h,ZK hka,tg,i1];refine vc3 hT ?_;simp only[go_sem,ZN,he,hz];have hz:=W9 (p:=YZ o) (n:=o.drops.length) (λj hj=>hI j (by omega));simp only[go_sem,h,hz]
def Xh (o:Opn):Opn×Bool:=
 if o.kind=1 then(⟨o.id,o.sch,o.time,o.cart,o.kind,o.item,Jd,0,false,[],[]⟩,true)
 else if o.kind=2 then(⟨o.id,o.sch,o.time,o.cart,o.kind,o.item,Jd,0,false,[],o.drops⟩,true)
 else if o.kind=3 then(⟨o.id,o.sch,o.time,o.cart,o.kind,if o.at'.sc=1 then o.item else [],o.at',o.delta,false,[],[]⟩,true)
 else if o.kind=4 then(⟨o.id,o.sch,o.time,o.cart,o.kind,if o.at'.sc=1 then o.item else [],o.at',0,o.has,if o.has=true then o.text else [],o.drops⟩,true)
 else if o.kind=5 then(⟨o.id,o.sch,o.time,o.cart,o.kind,[],Jd,0,false,[],o.drops⟩,true)
 else(Jd,false)
def opb (x:Opn×Bool):PV:= .tup [opv x.1,.bool x.2]
theorem Zn (x:Opn×Bool):(opb x).dids= []:=by simp only[opb,PV.dids,PV.didsL,GD,Je]
theorem Zfo (o:Opn):Pp 199 [opv o] (opb (Xh o)):=by
 have hP:=ST o;unfold Z1 at hP;obtain⟨id,sch,time,cart,kind,item,at',delta,has,text,drops⟩:=o;cases has;all_goals
  refine ZA func199 rfl ntmps199 results199 (Zn _) ?_;simp only[go_sem,opv];repeat' ((first|(first|apply Zw|apply Zu|apply ZF)<;>intro h|refine vc6 hP ?_|refine Zf1 [(1,4)] (by kernel_rfl) (by kernel_rfl) (by exact rfl) ?_|refine vDq ?_)<;>first|simp only[go_sem,h]|simp only[go_sem]|skip)
  all_goals (simp only[beq_iff_eq,beq_eq_false_iff_ne,ne_eq]at *;clear hP;simp_all[Xh,opb,opv];try decide)
end Go.Proofs.YtadgngamdofhiaaGreat
