/- Lemmas. -/
import Derived.Test.YtcmpkokndngplaaGreatXAa
set_option linter.defProp false
open Inhabited renaming default→Jd
open Go.Proofs.Tryz
open Go Go.PL
open Bool renaming false_and→Ja,and_false→Je,not_false→Jl,true_and→Jn,not_true→Jo,and_self→Jp
open Int renaming natCast_nonneg→Jc
open List renaming append_nil→Jh,length_take→Ji,length_map→Jj,range→Jk,mem_map→Jq
open Nat renaming zero_le→Jb,sub_zero→Jf,not_lt_zero→Jg
open PV renaming didsL→Jm,dids→Jr
namespace Go.Proofs.YtcmpkokndngplaaGreat
set_option maxHeartbeats 64000000
set_option maxRecDepth 20000
set_option linter.unusedVariables false
set_option linter.unusedSimpArgs false
def UK (l:List Pr) (s:Str):Bool:=l.any λq=>q.fr'==s
theorem ZfC (l:List Pr) (s:Str):(Xc l s).2=UK l s:=by
 unfold Xc UK;cases h:l.find? (λp=>p.fr'==s)with
 |none=>
  symm
  rw[List.any_eq_false];intro x a;exact List.find?_eq_none.1 h x a
 |some p=>
  symm
  exact List.any_eq_true.2 ⟨p,List.mem_of_find?_eq_some h,List.find?_some (p:=λp:Pr=>p.fr'==s) h⟩
def ZnR (l:List Pr) (s:Str):(X4 l).any (· == s)=UK l s:=by
 simp[X4,UK,List.any_map,Function.comp_def]
def Vm (t o:List Pr) (i:Nat):Bool:=Z0 (t.getD i Jd).fr'&&(!(UK (t.take i) (t.getD i Jd).fr')&&UK o (t.getD i Jd).to')
def Xm (t o:List Pr):Bool:=decide (1<=t.length/\t.length<=6)&&(Jk t.length).all (Vm t o)
def ZeS (l:List Pr) (k:Nat):List.take k (l.map pr)=(l.take k).map pr:=by rw[List.map_take]
def Dw (l:List Pr):Sized 2 (l.map pr):=λe a=>by
 obtain⟨x,_,rfl⟩:=Jq.1 a;rfl
def ZqC (l:List Pr):XF (l.map pr):=λe a=>by
 obtain⟨x,_,rfl⟩:=Jq.1 a;rfl
def Zlr {l:List Pr} {s:Str} {k:Nat} (a:k<l.length) (h:((l.getD k Jd).fr'==s)=true):UK l s=true:=U8 (p:=λq:Pr=>q.fr'==s) a h
def Zif {l:List Pr} {s:Str} (h:∀j,j<l.length->((l.getD j Jd).fr'==s)=false):UK l s=false:=UC (p:=λq:Pr=>q.fr'==s) (d:=Jd) h
def Sa (t o:List Pr) (I:o.length<=maxLen):Pp 168 [prs t,prs o] (.bool (Xm t o)):=by
 by_cases w:(t.length:Int)<1;have g:Xm t o=false:=by simp only[Xm,show ¬(1<=t.length/\t.length<=6)by omega,decide_false,Ja]
 refine ZM func168 rfl ntmps168 results168 ?_;simp only[go_sem,prs,w,g];by_cases B:(6:Int)<(t.length:Int);have g:Xm t o=false:=by simp only[Xm,show ¬(1<=t.length/\t.length<=6)by omega,decide_false,Ja]
 refine ZM func168 rfl ntmps168 results168 ?_;simp only[go_sem,prs,w,B,g];have G:t.length<=maxLen:=by rw[Zd];omega
 have g:Xm t o=(Jk t.length).all (Vm t o):=by simp only[Xm,show(1<=t.length/\t.length<=6)by omega,and_self,decide_true,Jn]
 rw[g];refine ZM func168 rfl ntmps168 results168 ?_;simp only[go_sem,prs,w,B];refine ZA (ι:= { x:Nat // x<=(t).length/\(∀j,j<x->Vm t o j=true) }) 54 (λx=> [(0,prs t),(1,prs o),(19,prs t),(20,.int .i64 (t.length:Int)),(21,.int .i64 (x.1:Int))]) (λx=> []) (λx=> []) (λx=>(t).length-x.1) ⟨0,Jb _,λj f=>absurd f (Jg j)⟩ ⟨rfl,(Fc5 rfl rfl rfl rfl rfl),fnl,fnl⟩ (λx=>⟨(Fc5 rfl rfl rfl rfl rfl),fnl⟩) (λx=> ?_);obtain⟨k,F,y⟩:=x;simp only at F y ⊢;by_cases h:(k:Int)<(t.length:Int)
 (have b:k<(t).length:=by omega);(have K:=Wa b (G));(have A:=Jc k)
 have J:(k:Int)<=(t.length:Int):=by omega
 have i:=Y0 (t.getD k Jd).fr';cases u:Z0 (t.getD k Jd).fr';rw[u]at i;have d:=Yf (p:=Vm t o) b (by simp only[Vm,u,Ja]);simp only[go_sem,prs,h,A,Yi b,pr];refine vc1 i ?_;simp only[go_sem,d];rw[u]at i;have D:(t.take k).length<=maxLen:=by rw[Ji];omega
 simp only[go_sem,prs,h,A,Yi b,pr];refine vc1 i ?_;simp only[go_sem,A,J,Dw,cut,Jf,ZeS];refine ZA (ι:= { x:Nat // x<=(t.take k).length/\(∀j,j<x->(((t.take k).getD j Jd).fr'==(t.getD k Jd).fr')=false) }) 54 (λx=> [(0,prs t),(1,prs o),(6,.ptr 6 0),(19,prs t),(20,.int .i64 (t.length:Int)),(21,.int .i64 (k:Int)),(32,.sl .no ((t.take k).map pr)),(33,.int .i64 ((t.take k).length:Int)),(34,.int .i64 (x.1:Int))]) (λx=> [(6,[.str (t.getD k Jd).fr',.str (t.getD k Jd).to'],false)]) (λx=> []) (λx=>(t.take k).length-x.1) ⟨0,Jb _,λj f=>absurd f (Jg j)⟩ ⟨rfl,(Fc9 rfl rfl rfl rfl rfl rfl rfl rfl rfl),(fcs ⟨rfl,rfl⟩ fnl),fnl⟩ (λx=>⟨(Fc9 rfl rfl rfl rfl rfl rfl rfl rfl rfl),(fcs rfl fnl)⟩) (λx=> ?_);obtain⟨e,z,c⟩:=x;simp only at z c ⊢;by_cases m:(e:Int)<((t.take k).length:Int)
 (have a:e<(t.take k).length:=by omega);(have w1b:=Wa a (D));(have i1b:=Jc e)
 cases q:(((t.take k).getD e Jd).fr'==(t.getD k Jd).fr')
 ·simp only[go_sem,prs,m,Yi a,pr,i1b,q,w1b];exact⟨⟨e+1,by(try simp only);omega,Zm c q⟩,by show(t.take k).length-(e+1)<(t.take k).length-e;omega,⟨rfl,(Fc9 rfl rfl rfl rfl rfl rfl rfl rfl rfl),(fcs ⟨rfl,rfl⟩ fnl),fnl⟩⟩
 have d:=Yf (p:=Vm t o) b (by simp only[Vm,Zlr a q,Jo,Ja,Je]);simp only[go_sem,prs,m,Yi a,pr,i1b,q,d];have E:=Zif (l:=t.take k) (s:=(t.getD k Jd).fr') (λj f=>c j (by omega));have C:=GM o (t.getD k Jd).to' I;have v:=ZfC o (t.getD k Jd).to';cases r:UK o (t.getD k Jd).to';have d:=Yf (p:=Vm t o) b (by simp only[Vm,r,Je]);rw[r]at v;simp only[go_sem,prs,m];refine vc3 C ?_;simp only[go_sem,ZdL,v,d]
 ·have ok:Vm t o k=true:=by simp only[Vm,u,E,r,Jl,Jp]
  rw[r]at v;simp only[go_sem,prs,m];refine vc3 C ?_;simp only[go_sem,ZdL,v,K];exact⟨⟨k+1,by(try simp only);omega,Zm y ok⟩,by show(t).length-(k+1)<(t).length-k;omega,⟨rfl,(Fc5 rfl rfl rfl rfl rfl),fnl,fnl⟩⟩
 have d:=UR (p:=Vm t o) (n:=t.length) (λj f=>y j (by omega));simp only[go_sem,prs,h,d]
def ZaB (t o:List Pr) (D:o.length<=1000000):Pp 126 [prs t,prs o] (.bool (Xm t o)):=by
 by_cases w:(t.length:Int)=0;have q:Xm t o=false:=by simp only[Xm,show ¬(1<=t.length/\t.length<=6)by omega,decide_false,Ja]
 have e:((t.length:Int)==0)=true:=by rw[w];rfl
 refine ZM func126 rfl ntmps126 results126 ?_;simp only[go_sem,prs,e,q];have e:((t.length:Int)==0)=false:=beq_eq_false_iff_ne.2 w;by_cases y:(6:Int)<(t.length:Int);have q:Xm t o=false:=by simp only[Xm,show ¬(1<=t.length/\t.length<=6)by omega,decide_false,Ja]
 refine ZM func126 rfl ntmps126 results126 ?_;simp only[go_sem,prs,e,y,q];have C:t.length<=maxLen:=by rw[Zd];omega
 have q:Xm t o=(Jk t.length).all (Vm t o):=by simp only[Xm,show(1<=t.length/\t.length<=6)by omega,and_self,decide_true,Jn]
 rw[q];refine ZM func126 rfl ntmps126 results126 ?_;simp only[go_sem,prs,e,y];refine ZA (ι:= { x:Nat // x<=(t).length/\(∀j,j<x->Vm t o j=true) }) 50 (λx=> [(0,prs t),(1,prs o),(5,.int .i64 (x.1:Int))]) (λx=> []) (λx=> []) (λx=>(t).length-x.1) ⟨0,Jb _,λj z=>absurd z (Jg j)⟩ ⟨rfl,(Fc3 rfl rfl rfl),fnl,fnl⟩ (λx=>⟨(Fc3 rfl rfl rfl),fnl⟩) (λx=> ?_);obtain⟨k,B,v⟩:=x;simp only at B v ⊢;by_cases h:(k:Int)<(t.length:Int)
 (have a:k<(t).length:=by omega);(have E:=Wa a (C));(have b:=Jc k)
 have f:(k:Int)<=(t.length:Int):=by omega
 have l:=Vw (t.getD k Jd).fr';have A:(t.take k).length<=1000000:=by rw[Ji];omega
 have g:=Zay (t.take k) A;have m:=Zay o D;have c:=GP (X4 (t.take k)) (t.getD k Jd).fr' (by rw[X4,Jj,Zd];omega);have d:=GP (X4 o) (t.getD k Jd).to' (by rw[X4,Jj,Zd];omega);rw[ZnR]at c d;cases u:Z0 (t.getD k Jd).fr';rw[u]at l;have i:=Yf (p:=Vm t o) a (by simp only[Vm,u,Ja]);simp only[go_sem,prs,h,b];refine vDq ?_;simp only[go_sem,prs,h,b,Yi a,pr];refine vc1 l ?_;simp only[go_sem,i];rw[u]at l;cases r:UK (t.take k) (t.getD k Jd).fr';rw[r]at c;cases s:UK o (t.getD k Jd).to';rw[s]at d;have i:=Yf (p:=Vm t o) a (by simp only[Vm,s,Je]);simp only[go_sem,prs,h,b];refine vDq ?_;simp only[go_sem,prs,h,b,Yi a,pr];refine vc1 l ?_;simp only[go_sem,prs,h,b,f,Dw,cut,Jf,ZeS];refine vc3 g ?_;simp only[go_sem,prs,h,b,f,Yi a,pr];refine vc1 c ?_;simp only[go_sem,prs];refine vc3 m ?_;simp only[go_sem,prs,h,b,f,Yi a,pr];refine vc1 d ?_;simp only[go_sem,i]
 ·rw[s]at d;have ok:Vm t o k=true:=by simp only[Vm,u,r,s,Jl,Jp]
  simp only[go_sem,prs,h,b];refine vDq ?_;simp only[go_sem,prs,h,b,Yi a,pr];refine vc1 l ?_;simp only[go_sem,prs,h,b,f,Dw,cut,Jf,ZeS];refine vc3 g ?_;simp only[go_sem,prs,h,b,f,Yi a,pr];refine vc1 c ?_;simp only[go_sem,prs];refine vc3 m ?_;simp only[go_sem,prs,h,b,f,Yi a,pr];refine vc1 d ?_;simp only[go_sem,E];exact⟨⟨k+1,by(try simp only);omega,Zm v ok⟩,by show(t).length-(k+1)<(t).length-k;omega,⟨rfl,(Fc3 rfl rfl rfl),fnl,fnl⟩⟩
 rw[r]at c;have i:=Yf (p:=Vm t o) a (by simp only[Vm,r,Jo,Ja,Je]);simp only[go_sem,prs,h,b];refine vDq ?_;simp only[go_sem,prs,h,b,Yi a,pr];refine vc1 l ?_;simp only[go_sem,prs,h,b,f,Dw,cut,Jf,ZeS];refine vc3 g ?_;simp only[go_sem,prs,h,b,f,Yi a,pr];refine vc1 c ?_;simp only[go_sem,i];have i:=UR (p:=Vm t o) (n:=t.length) (λj z=>v j (by omega));simp only[go_sem,prs,h,i]
theorem Zae (x:Ln):(lns x).dids= []:=by
 have:∀l:List Pr,Jm (l.map pr)= []:=λl=>by
  induction l with
  |nil=>rfl
  |cons t l ih=>simp only[List.map_cons,Jm,ih,pr,Jr,Jh]
 simp only[lns,Jr,Jm,XI,this,Jh]
structure OkLn (x:Ln):Prop where
 c:x.fd.cases'.length<=1000000
 f:x.fo.length<=1000000
 b:x.ba.length<=1000000
def Zaw (x:Ln) (a:OkLn x):Pp 94 [lns x] (lns x):=by
 have b:=Wb x.fd a.c;have c:=YP a.f (show 32<=1000 by omega);have d:=YP a.b (show 32<=1000 by omega);refine ZS func94 rfl ntmps94 results94 (Zae _) ?_;simp only[go_sem,lns];refine vc2 b ?_;simp only[go_sem,fld,lns,Dw,ZqC,c,d]
def ZcD (a b:Ln) (c:OkLn a) (d:OkLn b):Pp 93 [lns a,lns b] (.bool (decide (a=b))):=by
 have g:=DK a.fd b.fd (by have:=c.c;rw[Zd];omega) (by have:=d.c;rw[Zd];omega);have e:=Zfb a.fo b.fo (by have:=c.f;rw[Zd];omega) (by have:=d.f;rw[Zd];omega);have f:=Zfb a.ba b.ba (by have:=c.b;rw[Zd];omega) (by have:=d.b;rw[Zd];omega);clear c d;refine ZM func93 rfl ntmps93 results93 ?_;simp only[go_sem,lns,ZB];repeat' ((first|(first|apply Zw|apply Zv|apply ZK)<;>intro h|refine vc3 g ?_|refine vc3 e ?_|refine vc3 f ?_|refine vDq ?_)<;>first|simp only[go_sem,h,ZB]|simp only[go_sem,ZB]|skip)
 all_goals (clear g e f;(cases a;cases b;simp_all)<;>rfl)
def ZhH (a b:Ln) (c:OkLn a) (d:OkLn b):Pp 90 [lns a,lns b] (.bool (decide (a=b))):=by
 have g:=Zax a.fd b.fd (by have:=c.c;rw[Zd];omega) (by have:=d.c;rw[Zd];omega);have e:=ZcG a.fo b.fo (by have:=c.f;rw[Zd];omega) (by have:=d.f;rw[Zd];omega);have f:=ZcG a.ba b.ba (by have:=c.b;rw[Zd];omega) (by have:=d.b;rw[Zd];omega);clear c d;refine ZM func90 rfl ntmps90 results90 ?_;simp only[go_sem,lns,ZB];repeat' ((first|(first|apply Zw|apply Zv|apply ZK)<;>intro h|refine vc3 g ?_|refine vc3 e ?_|refine vc3 f ?_|refine vDq ?_)<;>first|simp only[go_sem,h,ZB]|simp only[go_sem,ZB]|skip)
 all_goals (clear g e f;(cases a;cases b;simp_all)<;>rfl)
open Go.PL
def Vc (x:Ln):Ln×Bool:=
 if x.kind=1\/x.kind=5 then(⟨x.kind,x.at',x.nm,[],0,Jd,[],[]⟩,true)
 else if x.kind=2\/x.kind=3 then(⟨x.kind,Jd,[],[],0,x.fd,[],[]⟩,true)
 else if x.kind=4 then(⟨x.kind,x.at',[],[],0,Jd,[],[]⟩,true)
 else if x.kind=6\/x.kind=9 then(⟨x.kind,x.at',x.nm,x.ot,x.fac,Jd,[],[]⟩,true)
 else if x.kind=7\/x.kind=10 then(⟨x.kind,x.at',[],x.ot,0,Jd,[],[]⟩,true)
 else if x.kind=8 then(⟨x.kind,x.at',x.nm,x.ot,0,Jd,x.fo,x.ba⟩,true)
 else(Jd,false)
def lnb (x:Ln×Bool):PV:= .tup [lns x.1,.bool x.2]
def Zru (x:Ln×Bool):(lnb x).dids= []:=by simp only[lnb,Jr,Jm,Zae,Jh]
theorem Zbh:lns Jd= .agg [.int .i64 0,.int .i64 0,.str [],.str [],.str [],.str [],.int .i64 0,.int .i64 0,.str [],.str [],.int .i64 0,.str [],.sl .no [],.int .i64 0,.sl .no [],.sl .no []]:=rfl
def ZlL (x:Ln):Pp 130 [lns x] (lnb (Vc x)):=by
 refine ZS func130 rfl ntmps130 results130 (Zru _) ?_;simp only[go_sem,lns];repeat' ((first|(first|apply Zw|apply Zv|apply ZK)<;>intro h|refine Zks [(1,4)] (by kernel_rfl) (by kernel_rfl) (by exact rfl) ?_|refine vDq ?_)<;>first|simp only[go_sem,h]|simp only[go_sem]|skip)
 all_goals (simp only[beq_iff_eq,beq_eq_false_iff_ne,ne_eq]at *;simp[Vc,lnb,lns, *];try decide)
def ZtU {x:Ln} (a:OkLn x):OkLn (Vc x).1:=by
 unfold Vc;repeat' split
 all_goals exact⟨by first|exact a.c|exact Jb _,by first|exact a.f|exact Jb _,by first|exact a.b|exact Jb _⟩
def rtM (x:Ln):Bool:=Z0 x.nm&&(Xm x.fo x.ba&&(Xm x.ba x.fo&&(((Xc x.fo x.nm).2&&((Xc x.fo x.nm).1==x.ot))&&((Xc x.ba x.ot).2&&((Xc x.ba x.ot).1==x.nm)))))
def FY (x:Ln) (a:OkLn x):Pp 134 [lns x] (.bool (rtM x)):=by
 have e:x.fo.length<=maxLen:=by have:=a.f;rw[Zd];omega
 have b:x.ba.length<=maxLen:=by have:=a.b;rw[Zd];omega
 have k:=Y0 x.nm;have f:=Sa x.fo x.ba b;have g:=Sa x.ba x.fo e;have i:=GM x.fo x.nm e;have j:=GM x.ba x.ot b;unfold rtM;generalize Xc x.fo x.nm=c at *;generalize Xc x.ba x.ot=d at *;obtain⟨c1,l⟩:=c;obtain⟨m,d2⟩:=d;refine ZM func134 rfl ntmps134 results134 ?_;simp only[go_sem,lns];repeat' ((first|(first|apply Zw|apply Zv|apply ZK)<;>intro h|refine vc3 k ?_|refine vc3 f ?_|refine vc3 g ?_|refine vc3 i ?_|refine vc3 j ?_|refine vDq ?_)<;>first|simp only[go_sem,h,ZdL]|simp only[go_sem,ZdL]|skip)
 all_goals (clear k f g i j e b a;simp_all)
def Zat (n:Int):Pp 132 [.int .i64 n] (.bool (decide (2<=n)&&decide (n<=1000))):=by
 refine ZM func132 rfl ntmps132 results132 ?_;simp only[go_sem];repeat' ((first|(first|apply Zw|apply Zv|apply ZK)<;>intro h|refine vDq ?_)<;>first|simp only[go_sem,h]|simp only[go_sem]|skip)
 all_goals simp_all
def XW (x:Ln):Bool:=
 if(Vc x).2=false\/ ¬x=(Vc x).1 then false
 else if x.kind=2\/x.kind=3 then ZT x.fd
 else if Vd x.at'=false then false
 else if x.kind=1 then Z0 x.nm
 else if x.kind=4 then !(x.at'.gr== [])
 else if x.kind=5 then(x.at'.gr== [])&&Z0 x.nm
 else if x.kind=6\/x.kind=9 then Z0 x.nm&&(Z0 x.ot&&(!(x.nm==x.ot)&&(decide (2<=x.fac)&&decide (x.fac<=1000))))
 else if x.kind=7\/x.kind=10 then decide ((x.ot.length:Int)<=40)
 else rtM x
def Zfh (x:Ln) (a:OkLn x):Pp 92 [lns x] (.bool (XW x)):=by
 have i:=ZlL x;have k:=ZcD x (Vc x).1 a (ZtU a);have d:=Uz x.fd (by have:=a.c;rw[Zd];omega);have c:=DM x.at';have f:=Y0 x.nm;have g:=Y0 x.ot;have l:=GR x.ot;have e:=Zat x.fac;have j:=FY x a;unfold XW;generalize Vc x=y at *;obtain⟨y,b⟩:=y;refine ZM func92 rfl ntmps92 results92 ?_;simp only[go_sem,lns];repeat' ((first|(first|apply Zw|apply Zv|apply ZK)<;>intro h|refine vc3 i ?_|refine vc3 k ?_|refine vc3 d ?_|refine vc3 c ?_|refine vc3 f ?_|refine vc3 g ?_|refine vc3 l ?_|refine vc3 e ?_|refine vc3 j ?_|refine vDq ?_)<;>first|simp only[go_sem,h,lnb,lns]|simp only[go_sem,lnb,lns]|skip)
 all_goals (clear i k d c f g l e j a;simp_all)
end Go.Proofs.YtcmpkokndngplaaGreat
