/- Lemmas. -/
import Derived.Test.YtcmpkokndngplaaGreatXAs
set_option linter.defProp false
open Inhabited renaming default→Jd
open Go.Proofs.Tryz
open Bool renaming false_and→Ja,not_false→Jb,and_false→Je,and_self→Jf
open List renaming append_nil→Jc,range→Jg
namespace Go.Proofs.YtcmpkokndngplaaGreat
set_option maxHeartbeats 64000000
set_option maxRecDepth 20000
set_option linter.unusedVariables false
set_option linter.unusedSimpArgs false
open Go.PL
structure Opn where
 id:Tg
 sch:Tg
 time:Int
 cart:Str
 kind:Int
 item:Str
 at':Rf
 delta:Int
 has:Bool
 text:Str
 drops:List Tg
 deriving DecidableEq,Inhabited
def opv (o:Opn):PV:= .agg [.int .i64 o.id.r,.int .i64 o.id.n,.int .i64 o.sch.r,.int .i64 o.sch.n,.int .i64 o.time,.str o.cart,.int .i64 o.kind,.str o.item,.int .i64 o.at'.sc,.str o.at'.gr,.str o.at'.nm,.int .i64 o.delta,.bool o.has,.str o.text,.sl .no (o.drops.map tg)]
def vc6 {x:Bool} {M:KH} {g:FuncId} {args args':List PV} {K:KR} {r:PV} (b:Pp g args' r) (c:K.k r M.m) (a:PV.givableL M.m args:=by first|(simp only[go_sem,ref,ent,ZX,doc,Y5,row,Zt,fld,lns,tg,refs,prs,pr,eg,egs,tgs,lg,lgs,Zy,opv];done)|exact rfl) (d:PV.giveL M.m args=args':=by first|(simp only[go_sem,ref,ent,ZX,doc,Y5,row,Zt,fld,lns,tg,refs,prs,pr,eg,egs,tgs,lg,lgs,Zy,opv];done)|exact rfl):@V8 prog x M (some (g,args)) K:=YN b a d c
def Do (o:Opn):(opv o).dids= []:=by simp only[opv,PV.dids,PV.didsL,Zjq,Jc]
theorem ZV:opv Jd= .agg [.int .i64 0,.int .i64 0,.int .i64 0,.int .i64 0,.int .i64 0,.str [],.int .i64 0,.str [],.int .i64 0,.str [],.str [],.int .i64 0,.bool false,.str [],.sl .no []]:=rfl
def ZkM (a b:Opn) (d:a.drops.length<=maxLen) (e:b.drops.length<=maxLen):Pp 142 [opv a,opv b] (.bool (decide (a=b))):=by
 have c:=ZmA a.drops b.drops d e;refine ZM func142 rfl ntmps142 results142 ?_;simp only[go_sem,opv,ZB,Z6,List.append_eq,List.cons_append];repeat' ((first|(first|apply Zw|apply Zv|apply ZK)<;>intro h|refine vc3 c ?_|refine vDq ?_)<;>first|simp only[go_sem,h,ZB,Z6]|simp only[go_sem,ZB,Z6]|skip)
 all_goals (clear c d e;(cases a;cases b;simp_all)<;>rfl)
def Gc (o:Opn):Bool:=Wm 200 o.cart||(Wm 200 o.item||(Wm 200 o.at'.gr||(Wm 200 o.at'.nm||(Wm 200 o.text||decide (200<(o.drops.length:Int))))))
def Zfl (o:Opn):Pp 18 [opv o] (.bool (Gc o)):=by
 refine ZM func18 rfl ntmps18 results18 ?_;simp only[go_sem,opv];repeat' ((first|(first|apply Zw|apply Zv|apply ZK)<;>intro h|refine vDq ?_)<;>first|simp only[go_sem,h]|simp only[go_sem]|skip)
 all_goals (first|(simp_all[Gc,Wm];done)|(rw[Bool.eq_iff_iff];simp[Gc,Wm]at *;omega))
def ZG (o:Opn):Bool:=(o.kind==3)||(o.kind==4)
def GB (o:Opn):Pp 143 [opv o] (.bool (ZG o)):=by
 refine ZM func143 rfl ntmps143 results143 ?_;simp only[go_sem,opv];repeat' ((first|(first|apply Zw|apply Zv|apply ZK)<;>intro h|refine vDq ?_)<;>first|simp only[go_sem,h]|simp only[go_sem]|skip)
 all_goals simp_all[ZG]
def VR (o:Opn) (i:Nat):Bool:=ZdN (o.drops.getD i Jd)&&(!(decide (o.drops.getD i Jd=o.id))&&(decide (i=0)||Uk (o.drops.getD (i-1) Jd) (o.drops.getD i Jd)))
def ZaS (o:Opn):Bool:= !decide (60<(o.drops.length:Int))&&(Jg o.drops.length).all (VR o)
def Ge (o:Opn):List PV:= [.int .i64 o.id.r,.int .i64 o.id.n,.int .i64 o.sch.r,.int .i64 o.sch.n,.int .i64 o.time,.str o.cart,.int .i64 o.kind,.str o.item,.int .i64 o.at'.sc,.str o.at'.gr,.str o.at'.nm,.int .i64 o.delta,.bool o.has,.str o.text,.sl .no (o.drops.map tg)]
def ZbE (o:Opn):Pp 144 [opv o] (.bool (ZaS o)):=by
 by_cases b:60<(o.drops.length:Int);refine ZM func144 rfl ntmps144 results144 ?_;simp only[go_sem,opv,b,ZaS,Ja];have z:o.drops.length<=maxLen:=by rw[Zd];omega
 have A:ZaS o=(Jg o.drops.length).all (VR o):=by simp only[ZaS,b,decide_false,Jb,Bool.true_and]
 rw[A];refine ZM func144 rfl ntmps144 results144 ?_;simp only[go_sem,opv,b];refine ZA (ι:= { x:Nat // x<=(o.drops).length/\(∀j,j<x->VR o j=true) }) 40 (λx=> [(1,.ptr 1 0),(10,.sl .no (o.drops.map tg)),(11,.int .i64 (o.drops.length:Int)),(12,.int .i64 (x.1:Int))]) (λx=> [(1,Ge o,false)]) (λx=> []) (λx=>(o.drops).length-x.1) ⟨0,Nat.zero_le _,λj s=>absurd s (Nat.not_lt_zero j)⟩ ⟨rfl,(Fc4 rfl rfl rfl rfl),(fcs ⟨rfl,rfl⟩ fnl),fnl⟩ (λx=>⟨(Fc4 rfl rfl rfl rfl),(fcs rfl fnl)⟩) (λx=> ?_);obtain⟨k,y,l⟩:=x;simp only at y l ⊢;by_cases h:(k:Int)<(o.drops.length:Int)
 (have a:k<(o.drops).length:=by omega);(have v:=Wa a (z));(have f:=Int.natCast_nonneg k)
 have c:=GQ (o.drops.getD k Jd);cases i:ZdN (o.drops.getD k Jd);rw[i]at c;have e:=Yf (p:=VR o) a (by simp only[VR,i,Ja]);simp only[go_sem,Ge,h,YU a,tg,f];refine vc3 c ?_;simp only[go_sem,e];rw[i]at c;cases d:decide (o.drops.getD k Jd=o.id);by_cases r:0<(k:Int);have g:k-1<o.drops.length:=by omega
 have w:IntKind.i64.wrap ((k:Int)-1)=((k-1:Nat):Int):=by rw[w64 (by omega)];omega
 have t:(0:Int)<=((k-1:Nat):Int):=by omega
 have u:((k-1:Nat):Int)<(o.drops.length:Int):=by omega
 have m:=ZcK (o.drops.getD (k-1) Jd) (o.drops.getD k Jd);cases q:Uk (o.drops.getD (k-1) Jd) (o.drops.getD k Jd);rw[q]at m;have e:=Yf (p:=VR o) a (by simp only[VR,q,decide_eq_false (show ¬k=0 by omega),Bool.or_self,Je]);simp only[go_sem,Ge,h,YU a,tg,f];refine vc3 c ?_;simp only[go_sem,Z6,d];refine vDq ?_;simp only[go_sem,r,w,YU g,YU a,tg,h,f,t,u];refine vc3 m ?_;simp only[go_sem,e]
 ·rw[q]at m;have ok:VR o k=true:=by simp only[VR,i,d,q,Bool.or_true,Jb,Jf]
  simp only[go_sem,Ge,h,YU a,tg,f];refine vc3 c ?_;simp only[go_sem,Z6,d];refine vDq ?_;simp only[go_sem,r,w,YU g,YU a,tg,h,f,t,u];refine vc3 m ?_;simp only[go_sem,v];exact⟨⟨k+1,by(try simp only);omega,Zm l ok⟩,by show(o.drops).length-(k+1)<(o.drops).length-k;omega,⟨rfl,(Fc4 rfl rfl rfl rfl),(fcs ⟨rfl,rfl⟩ fnl),fnl⟩⟩
 ·have ok:VR o k=true:=by simp only[VR,i,d,decide_eq_true (show k=0 by omega),Bool.true_or,Jb,Jf]
  simp only[go_sem,Ge,h,YU a,tg,f];refine vc3 c ?_;simp only[go_sem,Z6,d];refine vDq ?_;simp only[go_sem,r,v];exact⟨⟨k+1,by(try simp only);omega,Zm l ok⟩,by show(o.drops).length-(k+1)<(o.drops).length-k;omega,⟨rfl,(Fc4 rfl rfl rfl rfl),(fcs ⟨rfl,rfl⟩ fnl),fnl⟩⟩
 have e:=Yf (p:=VR o) a (by simp only[VR,d,Bool.not_true,Ja,Je]);simp only[go_sem,Ge,h,YU a,tg,f];refine vc3 c ?_;simp only[go_sem,Z6,d,e];have e:=UR (p:=VR o) (n:=o.drops.length) (λj s=>l j (by omega));simp only[go_sem,h,e]
def Tj (o:Opn):Opn×Bool:=
 if o.kind=1 then(⟨o.id,o.sch,o.time,o.cart,o.kind,o.item,Jd,0,false,[],[]⟩,true)
 else if o.kind=2 then(⟨o.id,o.sch,o.time,o.cart,o.kind,o.item,Jd,0,false,[],o.drops⟩,true)
 else if o.kind=3 then(⟨o.id,o.sch,o.time,o.cart,o.kind,if o.at'.sc=1 then o.item else [],o.at',o.delta,false,[],[]⟩,true)
 else if o.kind=4 then(⟨o.id,o.sch,o.time,o.cart,o.kind,if o.at'.sc=1 then o.item else [],o.at',0,o.has,if o.has=true then o.text else [],o.drops⟩,true)
 else if o.kind=5 then(⟨o.id,o.sch,o.time,o.cart,o.kind,[],Jd,0,false,[],o.drops⟩,true)
 else(Jd,false)
def opb (x:Opn×Bool):PV:= .tup [opv x.1,.bool x.2]
def ZE (x:Opn×Bool):(opb x).dids= []:=by simp only[opb,PV.dids,PV.didsL,Do,Jc]
def ZgC (o:Opn):Pp 141 [opv o] (opb (Tj o)):=by
 have a:=GB o;unfold ZG at a;obtain⟨id,sch,time,cart,kind,item,b,delta,has,text,drops⟩:=o;cases has;all_goals
  refine ZS func141 rfl ntmps141 results141 (ZE _) ?_;simp only[go_sem,opv];repeat' ((first|(first|apply Zw|apply Zv|apply ZK)<;>intro h|refine vc6 a ?_|refine Zks [(1,4)] (by kernel_rfl) (by kernel_rfl) (by exact rfl) ?_|refine vDq ?_)<;>first|simp only[go_sem,h]|simp only[go_sem]|skip)
  all_goals (simp only[beq_iff_eq,beq_eq_false_iff_ne,ne_eq]at *;clear a;simp_all[Tj,opb,opv];try decide)
end Go.Proofs.YtcmpkokndngplaaGreat
