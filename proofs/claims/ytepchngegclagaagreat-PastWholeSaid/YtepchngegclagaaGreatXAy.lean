/- Lemmas of the proof. -/
import Derived.Test.YtepchngegclagaaGreatPlH
import Derived.Test.YtepchngegclagaaGreatXAa
import Derived.Test.YtepchngegclagaaGreatXAi
open Inhabited renaming default→Jd
open Option renaming some→Hs
open Bool renaming true→Ht,false→Hf
open Go.Proofs.Tryz
open Go Go.PL
open Bool renaming true_eq_false→Ja,and_eq_true→Jf,eq_iff_iff→Jp,false_eq_true→Jt,not_eq_true'→JC,or_eq_true→JF,or_eq_false_iff→JG,false_or→JI,and_self→JV
open Decidable renaming byContradiction→Jz
open Int renaming natCast_nonneg→Ji
open List renaming append_nil→Jb,getElem_map→Je,mem_singleton→Jh,nodup_iff_pairwise_ne→Jj,findIdx?_eq_some_iff_getElem→Jk,mem_of_find?_eq_some→Jl,pairwise_iff_getElem→Jm,map_cons→Jn,getElem_of_mem→Jo,mem_append→Jq,mem_map→Js,find?_eq_none→Ju,find?_eq_some_iff_getElem→Jv,findIdx?_eq_none_iff→JA,nodup_append→JB,getElem_mem→JE,length_append→JJ,find?_append→JK,drop_length→JM,length_cons→JN,ext_getElem→JO,map_append→JR,find?_map→JT,mem_cons→JU,map_map→JW,length→JY
open Nat renaming zero_le→Jc,lt_trichotomy→JL,not_lt_zero→JS
open Option renaming getD_some→Jw,map_some→Jy,bind_some→JD,some→JQ
open PV renaming didsL→Jg,dids→Jr,nomapL→JH,givableL→JP,giveL→JX
namespace Go.Proofs.YtepchngegclagaaGreat
set_option maxHeartbeats 64000000
set_option maxRecDepth 20000
set_option linter.unusedVariables false
set_option linter.unusedSimpArgs false
open Go.PL
def ZnW (l:List Fd) (x:Ln):List Fd×Bool:=
 if x.kind=2 then([x.fd],Ht)
 else if x.kind=3 then([],decide ((YM l x.fd.at').2=0)&&decide ((YM l x.fd.at').1=x.fd))
 else if x.kind=9 then D1 l x
 else if(YM l x.at').2≠0 then([],Hf)
 else if x.kind=6 then([⟨YS x.at' x.nm,1,[],[],(YM l x.at').1.worth⟩,⟨YS x.at' x.ot,1,[],[],IntKind.i64.wrap ((YM l x.at').1.worth*x.fac)⟩],decide ((YM l x.at').1.kind=1))
 else if x.kind=7 then([⟨x.at',4,[],[],0⟩],decide ((YM l x.at').1.kind=2)&&decide ((YM l x.at').1.df=x.ot))
 else if x.kind=10 then([⟨x.at',2,x.ot,[],0⟩],decide ((YM l x.at').1.kind=4))
 else if x.kind=8 then([⟨x.at',3,x.ot,WZ x.ba,0⟩],decide ((YM l x.at').1=⟨x.at',3,x.nm,WZ x.fo,0⟩))
 else([⟨(Zn x).getD 0 Jd,(YM l x.at').1.kind,(YM l x.at').1.df,(YM l x.at').1.cases',(YM l x.at').1.worth⟩],Ht)
theorem ZaB (l:List Pr):(WZ l).length=l.length:=by simp[WZ]
theorem Zbs (l:List Fd) (x:Ln) (hl:OkFs l) (hx:OkLn x) (hr:ZK x=Ht):Pp 178 [Zs l,lns x] (TG (ZnW l x)):=by
 have hn:=hl.n;have hO:=XQ x.fd hx.c;have okA:=Zgq hl x.at';have okF:=Zgq hl x.fd.at';have f1:=VK l x.fd.at' (by omega) hl.c;have f2:=VK l x.at' (by omega) hl.c;have s1:=SZ (YM l x.fd.at').1 x.fd (by rw[Zb];omega) (by have:=hx.c;rw[Zb];omega);have s2:=SZ (YM l x.at').1 ⟨x.at',3,x.nm,WZ x.fo,0⟩ (by rw[Zb];omega) (by have:=hx.f;simp only[ZaB];rw[Zb];omega);have r1:=ZaC x.fo hx.f;have r2:=ZaC x.ba hx.b;have hC:=F7 x hx;have hc:Zao x=Zn x:=by simp[Zao,hr]
 rw[hc]at hC;unfold ZnW;by_cases k9:x.kind=9;have hM:=Ze4 l x hl hx hr k9;rw[if_neg (by omega),if_neg (by omega),if_pos k9];generalize D1 l x=y at *;obtain⟨y,b⟩:=y;have e2:(x.kind==2)=false:=by rw[k9];rfl
 have e3:(x.kind==3)=false:=by rw[k9];rfl
 have e9:(x.kind==9)=true:=by rw[k9];rfl
 refine ZF func178 rfl ntmps178 results178 (YR _) ?_;simp only[go_sem,Zs,lns,e2,e3,e9];refine vc3 hM ?_;simp only[go_sem,TG,Zs];have e9:(x.kind==9)=false:=beq_eq_false_iff_ne.2 k9;rw[if_neg k9];generalize YM l x.fd.at'=a at *;generalize YM l x.at'=b at *;obtain⟨a,a0⟩:=a;obtain⟨b,b0⟩:=b;simp only at *;by_cases k2:x.kind=2;have e2:(x.kind==2)=true:=by rw[k2];rfl
 rw[if_pos k2];refine ZF func178 rfl ntmps178 results178 (YR _) ?_;simp only[go_sem,Zs,lns,e2];refine vc2 hO ?_;simp only[go_sem,TG,Zs,fld];have e2:(x.kind==2)=false:=beq_eq_false_iff_ne.2 k2;rw[if_neg k2];by_cases k3:x.kind=3
 ·have e3:(x.kind==3)=true:=by rw[k3];rfl
  rw[if_pos k3];refine ZF func178 rfl ntmps178 results178 (YR _) ?_;simp only[go_sem,Zs,lns,e2,e3];refine vc2 f1 ?_;simp only[go_sem,FN,fld];repeat' ((first|(first|apply Zl|apply Zj|apply Zp)<;>intro h|refine vc2 s1 ?_|refine vDq ?_)<;>first|simp only[go_sem,h,FN,fld,Zs]|simp only[go_sem,FN,fld,Zs]|skip)
  all_goals (clear hO f1 f2 s1 s2 r1 r2 hC hl hx okA okF;simp_all[TG,Zs,fld])
 have e3:(x.kind==3)=false:=beq_eq_false_iff_ne.2 k3;rw[if_neg k3];by_cases hb:b0=0;subst hb;simp only[ne_eq,not_true_eq_false,if_false];by_cases k6:x.kind=6
 ·have e6:(x.kind==6)=true:=by rw[k6];rfl
  have hcc:Zn x= [YS x.at' x.nm,YS x.at' x.ot]:=by simp[Zn,k6]
  rw[hcc]at hC;rw[if_pos k6];refine ZF func178 rfl ntmps178 results178 (YR _) ?_;simp only[go_sem,Zs,lns,e2,e3,e9];refine vc2 f2 ?_;simp only[go_sem,FN,fld];refine vc3 hC ?_;simp only[go_sem,refs,ref,e6];repeat' ((first|(first|apply Zl|apply Zj|apply Zp)<;>intro h|refine vDq ?_)<;>first|simp only[go_sem,h,refs,ref,fld]|simp only[go_sem,refs,ref,fld]|skip)
  all_goals (clear hO f1 f2 s1 s2 r1 r2 hC hl hx okA okF;simp_all[TG,Zs,fld]<;>(first|rfl|(rw[Jp];simp)))
 have e6:(x.kind==6)=false:=beq_eq_false_iff_ne.2 k6;rw[if_neg k6];by_cases k7:x.kind=7
 ·have e7:(x.kind==7)=true:=by rw[k7];rfl
  rw[if_pos k7];refine ZF func178 rfl ntmps178 results178 (YR _) ?_;simp only[go_sem,Zs,lns,e2,e3,e9];refine vc2 f2 ?_;simp only[go_sem,FN,fld];refine vc3 hC ?_;simp only[go_sem,refs,e6,e7];repeat' ((first|(first|apply Zl|apply Zj|apply Zp)<;>intro h|refine vDq ?_)<;>first|simp only[go_sem,h]|simp only[go_sem]|skip)
  all_goals (clear hO f1 f2 s1 s2 r1 r2 hC hl hx okA okF;simp_all[TG,Zs,fld]<;>(first|rfl|(rw[Jp];simp)))
 have e7:(x.kind==7)=false:=beq_eq_false_iff_ne.2 k7;rw[if_neg k7];by_cases k10:x.kind=10
 ·have e10:(x.kind==10)=true:=by rw[k10];rfl
  rw[if_pos k10];refine ZF func178 rfl ntmps178 results178 (YR _) ?_;simp only[go_sem,Zs,lns,e2,e3,e9];refine vc2 f2 ?_;simp only[go_sem,FN,fld];refine vc3 hC ?_;simp only[go_sem,refs,e6,e7,e10];repeat' ((first|(first|apply Zl|apply Zj|apply Zp)<;>intro h|refine vDq ?_)<;>first|simp only[go_sem,h]|simp only[go_sem]|skip)
  all_goals (clear hO f1 f2 s1 s2 r1 r2 hC hl hx okA okF;simp_all[TG,Zs,fld]<;>(first|rfl|(rw[Jp];simp)))
 have e10:(x.kind==10)=false:=beq_eq_false_iff_ne.2 k10;rw[if_neg k10];by_cases k8:x.kind=8
 ·have e8:(x.kind==8)=true:=by rw[k8];rfl
  rw[if_pos k8];refine ZF func178 rfl ntmps178 results178 (YR _) ?_;simp only[go_sem,Zs,lns,e2,e3,e9];refine vc2 f2 ?_;simp only[go_sem,FN,fld];refine vc3 hC ?_;simp only[go_sem,refs,e6,e7,e10,e8];repeat' ((first|(first|apply Zl|apply Zj|apply Zp)<;>intro h|refine vc3 r1 ?_|refine vc3 r2 ?_|refine vc3 s2 ?_|refine vDq ?_)<;>first|simp only[go_sem,h,YD,fld]|simp only[go_sem,YD,fld]|skip)
  all_goals (clear hO f1 f2 s1 s2 r1 r2 hC hl hx okA okF;simp_all[TG,Zs,fld])
 have e8:(x.kind==8)=false:=beq_eq_false_iff_ne.2 k8;rw[if_neg k8];have hk:x.kind=1\/x.kind=4\/x.kind=5:=by
  refine Jz λhne=> ?_
  simp[ZK,k2,k3,k6,k7,k8,k9,k10,show ¬x.kind=1 by omega,show ¬x.kind=4 by omega,show ¬x.kind=5 by omega]at hr
 obtain⟨c,hcc⟩:∃c,Zn x= [c]:=by
  rcases hk with h|h|h<;>simp[Zn,h]
 rw[hcc]at hC ⊢;refine ZF func178 rfl ntmps178 results178 (YR _) ?_;simp only[go_sem,Zs,lns,e2,e3,e9];refine vc2 f2 ?_;simp only[go_sem,FN,fld];refine vc3 hC ?_;simp only[go_sem,refs,ref,e6,e7,e10,e8,TG,Zs,fld];have hb':(b0 !=0)=true:=bne_iff_ne.2 hb;rw[if_pos hb];refine ZF func178 rfl ntmps178 results178 (YR _) ?_;simp only[go_sem,Zs,lns,e2,e3,e9];refine vc2 f2 ?_;simp only[go_sem,FN,fld,hb',TG,Zs]
open Go.PL
def ZcY:List Rf->List Fd->Option (List Fd)
 | [],l=>Hs l
 |r::rs,l=>if(Ux l r).2≠0 then none else ZcY rs (Ux l r).1
def UM:List Fd->List Fd->Option (List Fd)
 | [],l=>Hs l
 |f::fs,l=>if(ZfP l f).2≠0 then none else UM fs (ZfP l f).1
def ZiQ (l:List Fd) (x:Ln):Option (List Fd):=if(ZnW l x).2=Hf then none else(ZcY (XN x) l).bind (UM (ZnW l x).1)
def Wl (l:List Fd) (x:Ln):List Fd×Int:=
 if VA l=Hf\/ZK x=Hf then([],5)else match ZiQ l x with|none=>([],16)|some m=>(m,0)
theorem Zdk {l:List Fd} (h:OkFs l) (r:Rf):OkFs (Ux l r).1:=by
 unfold Ux;split;exact⟨Jc _,λf hf=>by cases hf⟩;split;exact⟨Jc _,λf hf=>by cases hf⟩;exact⟨Nat.le_trans (List.length_eraseIdx_le _ _) h.n,λf hf=>h.c f (List.mem_of_mem_eraseIdx hf)⟩
theorem Zof {l:List Fd} {f x:Fd} (h:x∈Zgg l f):x∈l\/x=f:=by
 unfold Zgg at h;rcases Jq.1 h with h|h;exact .inl (List.takeWhile_subset _ h);rcases JU.1 h with h|h;exact .inr h;exact .inl (List.dropWhile_subset _ h)
theorem ZnA {l:List Fd} (h:OkFs l) {f:Fd} (hf:f.cases'.length<=1000000):OkFs (ZfP l f).1:=by
 unfold ZfP;split;exact⟨Jc _,λf hf=>by cases hf⟩;split;exact⟨Jc _,λf hf=>by cases hf⟩;split;exact⟨Jc _,λf hf=>by cases hf⟩;refine⟨by simp only[ZeY];omega,λg hg=> ?_⟩;rcases Zof hg with h'|h';exact h.c g h';rw[h'];exact hf
theorem Zp7 {l:List Fd} {x:Ln} (hl:OkFs l) (hx:OkLn x):OkFs (ZnW l x).1:=by
 have o1:∀f:Fd,f.cases'.length<=1000000->OkFs [f]:=λf hf=>⟨by simp,λg hg=>by rw[Jh.1 hg];exact hf⟩
 have o0:OkFs []:=⟨Jc _,λf hf=>by cases hf⟩;unfold ZnW;split;exact o1 _ hx.c;split;exact o0;split;unfold D1;split;exact o0;split;exact o0;exact o1 _ (Jc _);split;exact o0;split;refine⟨by simp,λf hf=> ?_⟩;simp only[JU,List.not_mem_nil,or_false]at hf;rcases hf with rfl|rfl<;>exact Jc _
 split;exact o1 _ (Jc _);split;exact o1 _ (Jc _);split;exact o1 _ (by simp only[ZaB];exact hx.b);exact o1 _ (Zgq hl _)
theorem Zg2 (l:List Fd) (x:Ln) (hl:OkFs l) (hx:OkLn x):Pp 131 [Zs l,lns x] (YF (Wl l x)):=by
 have hn:=hl.n;have hS:=V9 l (by rw[Zb];omega) (λf hf=>by have:=hl.c f hf;rw[Zb];omega);have hR:=X6 x hx;unfold Wl;cases hsr:VA l;rw[hsr]at hS;refine ZF func131 rfl ntmps131 results131 (Z3 _) ?_;simp only[go_sem,Zs,lns];refine vc2 hS ?_;simp only[go_sem,if_true,YF,Zs];rw[hsr]at hS;cases hlr:ZK x;rw[hlr]at hR;refine ZF func131 rfl ntmps131 results131 (Z3 _) ?_;simp only[go_sem,Zs,lns];refine vc2 hS ?_;simp only[go_sem];refine vc3 hR ?_;simp only[go_sem,if_true,YF,Zs];rw[hlr]at hR;simp only[Ja,or_self,if_false];have hA:=Zbs l x hl hx hlr;have okA:=Zp7 hl hx;unfold ZiQ;generalize ZnW l x=y at *;obtain⟨come,ok⟩:=y;simp only at okA ⊢;cases ok;simp only[if_true];refine ZF func131 rfl ntmps131 results131 (Z3 _) ?_;simp only[go_sem,Zs,lns];refine vc2 hS ?_;simp only[go_sem];refine vc3 hR ?_;simp only[go_sem];refine vc3 hA ?_;simp only[go_sem,TG,YF,Zs];simp only[Ja,if_false];have hO:=Zcs l (by omega) hl.c;have hG:=Dq x hx;have hg:ZcZ x=XN x:=by simp[ZcZ,hlr]
 rw[hg]at hG;have hgl:(XN x).length<=maxLen:=by
  have:(XN x).length<=2:=by
   unfold XN;split;simp;split;simp;split<;>simp
  rw[Zb];omega
 generalize XN x=goes at *;generalize hGo:ZcY goes l=G;refine ZF func131 rfl ntmps131 results131 (Z3 _) ?_;simp only[go_sem,Zs,lns];refine vc2 hS ?_;simp only[go_sem];refine vc3 hR ?_;simp only[go_sem];refine vc3 hA ?_;simp only[go_sem,TG,Zs];refine vc2 hO ?_;simp only[go_sem,Zs,lns];refine vc3 hG ?_;simp only[go_sem,refs];refine Zr (ι:= { x:Nat×(List Fd) // x.1<=(goes).length/\(OkFs x.2/\ZcY (goes.drop x.1) x.2=G) }) 64 (λx=> [(6,Zs come),(8,Zs x.1.2),(33,refs goes),(34,.int .i64 (goes.length:Int)),(35,.int .i64 (x.1.1:Int))]) (λx=> []) (λx=> []) (λx=>(goes).length-x.1.1) ⟨(0,l),Jc _,⟨hl,hGo⟩⟩ ⟨rfl,(Fc5 rfl rfl rfl rfl rfl),fnl,fnl⟩ (λx=>⟨(Fc5 rfl rfl rfl rfl rfl),fnl⟩) (λx=> ?_);obtain⟨⟨k,out⟩,hk,hI⟩:=x;simp only at hk hI ⊢;obtain⟨okO,hI⟩:=hI;have hon:=okO.n;by_cases h:(k:Int)<(goes.length:Int)
 (have hka:k<(goes).length:=by omega);(have w1:=We hka (hgl));(have i1:=Ji k)
 have hW:=Zct out (goes.getD k Jd) (by omega) okO.c;have okW:=Zdk okO (goes.getD k Jd);rw[VR hka (d:=Jd),ZcY]at hI;generalize Ux out (goes.getD k Jd)=w at *;obtain⟨w,c⟩:=w;simp only at hI okW;by_cases hc:c=0
 ·subst hc;simp only[ne_eq,not_true_eq_false,if_false]at hI;simp only[go_sem,refs,h,i1,Xv hka,ref];refine vc2 hW ?_;simp only[go_sem,YF,Zs,w1];exact⟨⟨(k+1,w),by(try simp only);omega,⟨okW,hI⟩⟩,by show(goes).length-(k+1)<(goes).length-k;omega,⟨rfl,(Fc5 rfl rfl rfl rfl rfl),fnl,fnl⟩⟩
 have hc':(c !=0)=true:=bne_iff_ne.2 hc;simp only[ne_eq,hc,not_false_eq_true,if_true]at hI;subst hI;simp only[go_sem,refs,h,i1,Xv hka,ref];refine vc2 hW ?_;simp only[go_sem,YF,Zs,hc',Option.bind_none];obtain rfl:k=goes.length:=by omega
 rw[JM,ZcY]at hI;subst hI;have hcl:come.length<=maxLen:=by have:=okA.n;rw[Zb];omega
 simp only[go_sem,h,Zs];refine Zr (ι:= { x:Nat×(List Fd) // x.1<=(come).length/\(OkFs x.2/\UM (come.drop x.1) x.2=UM come out) }) 64 (λx=> [(8,Zs x.1.2),(48,Zs come),(49,.int .i64 (come.length:Int)),(50,.int .i64 (x.1.1:Int))]) (λx=> []) (λx=> []) (λx=>(come).length-x.1.1) ⟨(0,out),Jc _,⟨okO,rfl⟩⟩ ⟨rfl,(Fc4 rfl rfl rfl rfl),fnl,fnl⟩ (λx=>⟨(Fc4 rfl rfl rfl rfl),fnl⟩) (λx=> ?_);obtain⟨⟨kb,o2⟩,hkb,hIb⟩:=x;simp only at hkb hIb ⊢;obtain⟨ok2,hIb⟩:=hIb;have hon2:=ok2.n;by_cases hb:(kb:Int)<(come.length:Int)
 (have hkab:kb<(come).length:=by omega);(have w1b:=We hkab (hcl));(have i1b:=Ji kb)
 have hcf:=okA.c _ (Zh hkab (d:=Jd));have hW:=ZiK o2 (come.getD kb Jd) (by omega) ok2.c hcf;have okW:=ZnA ok2 hcf;rw[VR hkab (d:=Jd),UM]at hIb;generalize ZfP o2 (come.getD kb Jd)=w at *;obtain⟨w,c⟩:=w;simp only at hIb okW;by_cases hc:c=0
 ·subst hc;simp only[ne_eq,not_true_eq_false,if_false]at hIb;simp only[go_sem,Zs,hb,i1b,ZO hkab,fld];refine vc2 hW ?_;simp only[go_sem,YF,Zs,w1b];exact⟨⟨(kb+1,w),by(try simp only);omega,⟨okW,hIb⟩⟩,by show(come).length-(kb+1)<(come).length-kb;omega,⟨rfl,(Fc4 rfl rfl rfl rfl),fnl,fnl⟩⟩
 have hc':(c !=0)=true:=bne_iff_ne.2 hc;simp only[ne_eq,hc,not_false_eq_true,if_true]at hIb;simp only[go_sem,Zs,hb,i1b,ZO hkab,fld];refine vc2 hW ?_;simp only[go_sem,YF,Zs,hc',<-hIb,JD];obtain rfl:kb=come.length:=by omega
 rw[JM,UM]at hIb;simp only[go_sem,Zs,hb,<-hIb,YF,JD]
open Go.PL
def Zqg (fo ba:List Pr) (p:Pr):Bool:=(X3 fo p.fr').2&&((X3 ba (X3 fo p.fr').1).2&&((X3 ba (X3 fo p.fr').1).1==p.fr'))
def Zqf (fo ba:List Pr):Bool:=fo.all (Zqg fo ba)
def Zsm (x:Ln) (r:Rf):Bool:=
 if ZK x=Hf then Hf else if idx (λa=>decide (r=a)) (XN x)<0 then Ht
 else if x.kind=1\/x.kind=4\/x.kind=5\/x.kind=6\/x.kind=7\/x.kind=10 then Ht
 else if x.kind=9 then idx (λa=>decide (r=a)) (XN x)==0
 else if x.kind=8 then Zqf x.fo x.ba else Hf
theorem Zjv (x:Ln):(XN x).length<=2:=by
 unfold XN;split;simp;split;simp;split<;>simp
def ZnJ (x:Ln) (r:Rf):Rf×Bool:=
 if ZK x=Hf then(Jd,Hf)else if((XN x).any λa=>decide (r=a))=Hf then(r,Ht)
 else if(Zn x).length=0 then(Jd,Hf)else((Zn x).getD 0 Jd,Ht)
def Zpm (x:Ln):Ln:=
 if x.kind=1 then⟨1,⟨x.at'.sc,x.at'.gr,x.nm⟩,x.at'.nm,x.ot,x.fac,x.fd,x.fo,x.ba⟩
 else if x.kind=2 then⟨3,x.at',x.nm,x.ot,x.fac,x.fd,x.fo,x.ba⟩
 else if x.kind=3 then⟨2,x.at',x.nm,x.ot,x.fac,x.fd,x.fo,x.ba⟩
 else if x.kind=4 then⟨5,⟨x.at'.sc,[],x.at'.nm⟩,x.at'.gr,x.ot,x.fac,x.fd,x.fo,x.ba⟩
 else if x.kind=5 then⟨4,⟨x.at'.sc,x.nm,x.at'.nm⟩,[],x.ot,x.fac,x.fd,x.fo,x.ba⟩
 else if x.kind=6 then⟨9,x.at',x.nm,x.ot,x.fac,x.fd,x.fo,x.ba⟩
 else if x.kind=9 then⟨6,x.at',x.nm,x.ot,x.fac,x.fd,x.fo,x.ba⟩
 else if x.kind=7 then⟨10,x.at',x.nm,x.ot,x.fac,x.fd,x.fo,x.ba⟩
 else if x.kind=10 then⟨7,x.at',x.nm,x.ot,x.fac,x.fd,x.fo,x.ba⟩
 else if x.kind=8 then⟨8,x.at',x.ot,x.nm,x.fac,x.fd,x.ba,x.fo⟩else x
def lnc (x:Ln×Int):PV:= .tup [lns x.1,.int .i64 x.2]
theorem SC (x:Ln×Int):(lnc x).dids= []:=by simp only[lnc,Jr,Jg,De,Jb]
def Zrx (x:Ln):Ln×Int:=if ZK x=Hf then(Jd,5)else(Zpm x,0)
theorem Zch (x:Ln) (hx:OkLn x):Pp 268 [lns x] (lnc (Zrx x)):=by
 have hR:=X6 x hx;have hO:=Dr x hx;unfold Zrx;cases hlr:ZK x;rw[hlr]at hR;refine ZF func268 rfl ntmps268 results268 (SC _) ?_;simp only[go_sem,lns];refine vc3 hR ?_;simp only[go_sem,if_true,lnc,DY];rw[hlr]at hR;refine ZF func268 rfl ntmps268 results268 (SC _) ?_;simp only[go_sem,lns];refine vc3 hR ?_;simp only[go_sem,lns];refine vc3 hO ?_;simp only[go_sem,lns];repeat' ((first|(first|apply Zl|apply Zj|apply Zp)<;>intro h|refine ZdZ [(1,4)] (by kernel_rfl) (by kernel_rfl) (by exact rfl) ?_|refine vDq ?_)<;>first|simp only[go_sem,h]|simp only[go_sem]|skip)
 all_goals (simp only[beq_iff_eq,beq_eq_false_iff_ne,ne_eq]at *;clear hR hO hx;simp[Zpm,lnc,lns, *])
def SI (l:List Rf) (r:Rf):Int:=idx (λa=>decide (r=a)) l
open Go.PL
open Go.PL
structure Nd where
 e:Eg
 st:Int
 sch:List Fd
 dep:Int
 deriving DecidableEq,Inhabited
def nd (n:Nd):PV:= .agg [.int .i64 n.e.id.r,.int .i64 n.e.id.n,.int .i64 n.e.par.r,.int .i64 n.e.par.n,.int .i64 n.e.ln.kind,.int .i64 n.e.ln.at'.sc,.str n.e.ln.at'.gr,.str n.e.ln.at'.nm,.str n.e.ln.nm,.str n.e.ln.ot,.int .i64 n.e.ln.fac,.int .i64 n.e.ln.fd.at'.sc,.str n.e.ln.fd.at'.gr,.str n.e.ln.fd.at'.nm,.int .i64 n.e.ln.fd.kind,.str n.e.ln.fd.df,.sl .no (n.e.ln.fd.cases'.map .str),.int .i64 n.e.ln.fd.worth,.sl .no (n.e.ln.fo.map pr),.sl .no (n.e.ln.ba.map pr),.int .i64 n.st,.sl .no (n.sch.map fld),.int .i64 n.dep]
def kts (l:List Nd):List PV:=l.map λn=>tg n.e.id
def nds (l:List Nd):List PV:=l.map nd
def tr (l:List Nd):PV:= .rptr [.rmap (kts l) (nds l)]
theorem vc5 {x:Bool} {M:KH} {g:FuncId} {args args':List PV} {K:KR} {r:PV} (h1:Pp g args' r) (h2:K.k r M.m) (h0:JP M.m args:=by first|(simp only[go_sem,ref,ent,Ys,doc,YD,row,Zs,fld,lns,tg,refs,prs,pr,eg,egs,tgs,lg,lgs,tr];done)|exact rfl) (he:JX M.m args=args':=by first|(simp only[go_sem,ref,ent,Ys,doc,YD,row,Zs,fld,lns,tg,refs,prs,pr,eg,egs,tgs,lg,lgs,tr];done)|exact rfl):@Vo prog x M (Hs (g,args)) K:=Z6 h1 h0 he h2
def mc (l:List Nd):MapC:=⟨kts l,nds l⟩
theorem ZfY (l:List Pr):Jg (l.map pr)= []:=by
 induction l with
 |nil=>rfl
 |cons t l ih=>simp only[Jn,Jg,ih,pr,Jr,Jb]
theorem ZeM (e:Eg):(eg e).dids= []:=by simp only[eg,Jr,Jg,ZfY,XS,Jb]
theorem Ze7 (n:Nd):(nd n).dids= []:=by simp only[nd,Jr,Jg,ZfY,ZcF,XS,Jb]
theorem ZkM (t:Tg):(tg t).dids= []:=by simp only[tg,Jr,Jg,Jb]
theorem WM {α:Type} (f:α->PV) (h:∀x,(f x).nomap=Ht) (l:List α):JH (l.map f)=true:=Gv.2 λc hc=>by
 obtain⟨x,_,rfl⟩:=Js.1 hc;exact h x
theorem Tw (l:List Str):JH (l.map .str)=true:=WM _ (λ_=>rfl) l
theorem Zj2 (l:List Pr):JH (l.map pr)=true:=WM _ (λ_=>rfl) l
theorem Zj5 (f:Fd):(fld f).nomap=true:=by simp only[fld,PV.nomap,JH,Tw,JV]
theorem Zmy (n:Nd):(nd n).nomap=true:=by simp only[nd,PV.nomap,JH,Zj2,Tw,WM _ Zj5,JV]
theorem Zav (id:Tg):∀(l:List Nd) (i:Nat),findP [.int,.int] [.int .i64 id.r,.int .i64 id.n] (kts l) i=Hs ((l.findIdx? λn=>decide (id=n.e.id)).map (· + i))
 | [],i=>rfl
 |n::l,i=>by
  have ih:=Zav id l (i+1);simp only[kts,tg]at ih;simp only[kts,Jn,tg,findP,Zq,VS,if_true,List.findIdx?_cons,Bool.and_true,ZD];by_cases h:id=n.e.id;simp[h];simp only[h,decide_false,ih];simp only[Jt,if_false,Option.map_map];congr 2;funext x;simp;omega
theorem Yc (id:Tg) (l:List Nd):findP [.int,.int] [.int .i64 id.r,.int .i64 id.n] (kts l) 0=Hs (l.findIdx? λn=>decide (id=n.e.id)):=by
 rw[Zav];congr 1;cases List.findIdx? (λn=>decide (id=n.e.id)) l<;>rfl
def Gm (l:List Nd) (id:Tg):Option Nd:=l.find? λn=>decide (id=n.e.id)
theorem UR {l:List Nd} {id:Tg}:(l.findIdx? λn=>decide (id=n.e.id))=none↔Gm l id=none:=by
 unfold Gm;rw[JA,Ju];simp
theorem US {l:List Nd} {id:Tg} {i:Nat} (h:(l.findIdx? λn=>decide (id=n.e.id))=Hs i):i<l.length/\Gm l id=Hs (l.getD i Jd):=by
 rw[Jk]at h;obtain⟨h1,h2,h3⟩:=h;refine⟨h1,?_⟩;unfold Gm;rw[Jv];exact⟨by rw[getD_lt h1];exact h2,i,h1,(getD_lt h1).symm,λj hj=>by simpa using h3 j hj⟩
theorem DS {l:List Nd} {i:Nat} (h:i<l.length):(nds l).getD i .any=nd (l.getD i Jd):=Xa h
theorem Zjs {l:List Nd} {i:Nat} (h:i<l.length):(kts l).getD i .any=tg (l.getD i Jd).e.id:=Xa (d:=Jd) h
theorem S9:Pp 98 [] (tg Jd):=by
 refine ZF func98 rfl ntmps98 results98 (rfl) ?_;simp only[go_sem];rfl
theorem Zhh:Pp 99 [] (Zs FR):=by
 refine ZF func99 rfl ntmps99 results99 (UU _) ?_;simp only[go_sem];repeat((with_reducible refine And.intro ?_ ?_);(focus((repeat' (with_reducible apply And.intro))<;>(first|omega|exact Yi (by omega) (by omega)|exact Yi (by simp;omega) (by omega)|exact ZU _|(simp;done)|(simp;omega)))))
 rfl
def Zfj:Nd:=⟨Jd,2,FR,0⟩
def atN (l:List Nd) (id:Tg):Nd:=if id=Jd then Zfj else(Gm l id).getD Jd
theorem Zny:PL.Mk prog 27 [] (λb=> .rptr [.mref b]) (mc []):=by
 refine PL.Mk.of_v func27 (by decide) rfl ntmps27 results27 (by simp) (λb=>rfl) ?_;simp only[go_sem];intro b;exact⟨b,3,[.mref b],rfl,by simp,rfl,by simp[mc,kts,nds],rfl⟩
theorem ZiT (l:List Nd) (id:Tg):Pp 51 [tr l,tg id] (nd (atN l id)):=by
 unfold atN;by_cases h:id=Jd;rw[if_pos h];subst h;refine ZF func51 rfl ntmps51 results51 (Ze7 _) ?_;simp only[go_sem,tr,tg];refine vDq ?_;simp only[go_sem];refine vc3 S9 ?_;simp only[go_sem,tg];refine vc3 Zhh ?_;simp only[go_sem,Zs];rfl;rw[if_neg h];have hd:decide (id=Jd)=false:=by simpa using h
 refine ZF func51 rfl ntmps51 results51 (Ze7 _) ?_;simp only[go_sem,tr,tg];refine vDq ?_;simp only[go_sem];refine vc3 S9 ?_;simp only[go_sem,tg,ZD,hd];cases hf:l.findIdx? (λn=>decide (id=n.e.id))with
 |none=>
  have:=UR.1 hf;refine vDq ?_;simp only[go_sem,Yc,hf,this,Option.getD_none];rfl
 |some i=>
  obtain⟨h1,h2⟩:=US hf;refine vDq ?_;simp only[go_sem,Yc,hf,h2,Jw,DS h1,nd]
open Go.PL
def Y9 (m:List Eg) (id:Tg):Option Eg:=m.find? λe=>decide (id=e.id)
theorem XU {m:List Eg} {id:Tg} {e:Eg} (h:Y9 m id=Hs e):id=e.id/\e∈m:=by
 unfold Y9 at h;exact⟨by simpa using List.find?_some h,Jl h⟩
inductive Way (m:List Eg):Tg->List Eg->Prop
 |root:Way m Jd []
 |step {id:Tg} {e:Eg} {w:List Eg} (hn:id≠Jd) (he:Y9 m id=Hs e) (hw:Way m e.par w):Way m id (w++ [e])
theorem Way.fn {m:List Eg} {id:Tg} {w w':List Eg} (h:Way m id w) (h':Way m id w'):w=w':=by
 induction h generalizing w' with
 |root=>cases h' with
  |root=>rfl
  |step hn he hw=>exact absurd rfl hn
 |step hn he hw ih=>
  cases h' with
  |root=>exact absurd rfl hn
  |step hn' he' hw'=>
   rw[he]at he';cases he';rw[ih hw']
theorem Way.mem {m:List Eg} {id:Tg} {w:List Eg} (h:Way m id w):∀e∈w,e∈m:=by
 induction h with
 |root=>intro e he;cases he
 |step hn he hw ih=>
  intro x hx;rcases Jq.1 hx with hx|hx;exact ih x hx;rw[Jh.1 hx];exact(XU he).2
theorem Way.take {m:List Eg} {id:Tg} {w:List Eg} (h:Way m id w):∀k (hk:k<w.length),Way m (w[k]).id (w.take (k+1)):=by
 induction h with
 |root=>intro k hk;simp at hk
 |step hn he hw ih=>
  rename_i id e w;intro k hk;by_cases hlt:k<w.length;rw[List.getElem_append_left hlt,List.take_append_of_le_length (by omega)];exact ih k hlt;have hk':k=w.length:=by simp at hk;omega
  subst hk';have e1:(w++ [e])[w.length]'hk=e:=by simp
  rw[e1,List.take_of_length_le (by simp)];have:=(XU he).1;rw[<-this];exact .step hn he hw
theorem Way.nodup {m:List Eg} {id:Tg} {w:List Eg} (h:Way m id w):w.Nodup:=by
 rw[Jj,Jm];intro i j hi hj hij e;have h1:=h.take i hi;have h2:=h.take j hj;rw[e]at h1;have:=congrArg JY (h1.fn h2);simp at this;omega
theorem ZbK {α:Type} [DecidableEq α]:∀ {l m:List α},l.Nodup->(∀x∈l,x∈m)->l.length<=m.length
 | [],_,_,_=>Jc _
 |a::l,m,hn,hs=>by
  rw[List.nodup_cons]at hn;have ha:a∈m:=hs a (by simp);have:=ZbK (l:=l) (m:=m.erase a) hn.2 (λx hx=>(List.mem_erase_of_ne (λe:x=a=>hn.1 (e▸hx))).2 (hs x (by simp[hx])));rw[List.length_erase_of_mem ha]at this;have:0<m.length:=List.length_pos_of_mem ha;simp only[JN];omega
theorem Way.len {m:List Eg} {id:Tg} {w:List Eg} (h:Way m id w):w.length<=m.length:=ZbK h.nodup h.mem
def Zpb (m:List Eg):Nat->Tg->List Eg->Option (List Eg)
 |0,_,_=>none
 |k+1,id,way=>if id=Jd then Hs way else match Y9 m id with
  |none=>none
  |some e=>Zpb m k e.par (e::way)
def Ziv (m:List Eg) (id:Tg):Option (List Eg):=Zpb m (m.length+1) id []
theorem Zbf {m:List Eg}:∀ {k:Nat} {id:Tg} {acc r:List Eg},Zpb m k id acc=Hs r-> ∃w,Way m id w/\r=w++acc
 |0,_,_,_,h=>by cases h
 |k+1,id,acc,r,h=>by
  unfold Zpb at h;split at h;rename_i hd;cases h;exact⟨[],hd▸ .root,rfl⟩;rename_i hd;split at h;cases h;rename_i e he;obtain⟨w,h1,h2⟩:=Zbf h;exact⟨w++ [e],.step hd he h1,by rw[h2];simp⟩
theorem Zk9 {m:List Eg} {id:Tg} {w:List Eg} (h:Way m id w):∀ {k:Nat} (acc:List Eg),w.length<k->Zpb m k id acc=Hs (w++acc):=by
 induction h with
 |root=>intro k acc hk;cases k with
  |zero=>simp at hk
  |succ k=>simp[Zpb]
 |step hn he hw ih=>
  intro k acc hk;cases k with
  |zero=>simp at hk
  |succ k=>
   simp only[JJ,JN,List.length_nil]at hk;simp only[Zpb,if_neg hn,he];rw[ih _ (by omega)];simp
theorem Wj {m:List Eg} {id:Tg} {w:List Eg}:Ziv m id=Hs w↔Way m id w:=by
 constructor;intro h;obtain⟨w',h1,h2⟩:=Zbf h;rw[h2,Jb];exact h1;intro h;have:=Zk9 h (k:=m.length+1) [] (by have:=h.len;omega);simpa[Ziv]using this
def UV:List Eg->List Fd->Option (List Fd)
 | [],fs=>Hs fs
 |e::es,fs=>if(Wl fs e.ln).2≠0 then none else UV es (Wl fs e.ln).1
theorem ZcU (w v:List Eg) (fs:List Fd):UV (w++v) fs=(UV w fs).bind (UV v):=by
 induction w generalizing fs with
 |nil=>rfl
 |cons e w ih=>
  simp only[List.cons_append,UV];split;rfl;exact ih _
def FP (e:Eg):Option (List Eg)->Nd
 |none=>⟨e,1,[],0⟩
 |some w=>match UV w FR with
  |none=>⟨e,3,[],0⟩
  |some fs=>⟨e,2,fs,w.length⟩
def Z4 (m:List Eg) (e:Eg):Nd:=FP e (Ziv m e.id)
def Ze (m:List Eg):List Nd:=m.map (Z4 m)
def Zgt (e:Eg):Nd:=⟨e,1,[],0⟩
theorem Vw (m:List Eg) (e:Eg):(Z4 m e).e=e:=by
 unfold Z4 FP;split;rfl;split<;>rfl
structure Apart (m:List Eg):Prop where
 d:(m.map (·.id)).Nodup
 n:∀e∈m,e.id≠Jd
theorem Apart.find {m:List Eg} (h:Apart m) {e:Eg} (he:e∈m):Y9 m e.id=Hs e:=by
 obtain⟨l1,l2,rfl⟩:=List.append_of_mem he;have hd:=h.d;simp only[JR,Jn]at hd;unfold Y9;rw[JK];have hno:l1.find? (λx=>decide (e.id=x.id))=none:=by
  rw[Ju];intro x hx hh;have hx':x.id∈l1.map (·.id):=Js.2 ⟨x,hx,rfl⟩;have:=(JB.1 hd).2.2 _ hx' e.id (by simp);exact this (by simpa using Eq.symm (by simpa using hh))
 rw[hno];simp
def Zer (m:List Eg) (c:List Nd):Prop:=c.length=m.length/\ ∀i,i<m.length->c.getD i Jd=Zgt (m.getD i Jd)\/(c.getD i Jd=Z4 m (m.getD i Jd)/\(c.getD i Jd).st≠1)
theorem VY {m:List Eg} {e:Eg}:(Z4 m e).st=1↔Ziv m e.id=none:=by
 unfold Z4 FP;split;rename_i h;simp[h];rename_i w h;constructor;intro hh;split at hh<;>cases hh
 intro hh;rw[h]at hh;cases hh
theorem T0 {m:List Eg} {e:Eg} (h:Ziv m e.id=none):Z4 m e=Zgt e:=by simp[Z4,FP,h,Zgt]
theorem Zon (e:Eg):(Zgt e).st=1:=rfl
theorem Za3 {m:List Eg} {c:List Nd} (h:Zer m c) {i:Nat} (hi:i<m.length):(c.getD i Jd).e=m.getD i Jd:=by
 rcases h.2 i hi with h|⟨h,_⟩;rw[h];rfl;rw[h,Vw]
theorem ZbR {m:List Eg} {c:List Nd} (h:Zer m c):c.map (·.e)=m:=by
 apply JO;simp[h.1];intro i h1 h2;have:=Za3 h h2;rw[getD_lt (by have:=h.1;omega),getD_lt h2]at this;simpa using this
theorem ZcQ {m:List Eg} {c:List Nd} (h:Zer m c) (id:Tg):(Gm c id).map (·.e)=Y9 m id:=by
 rw[<-ZbR h];unfold Gm Y9;rw[JT];rfl
theorem Zgo {m:List Eg} {c:List Nd} (h:Zer m c) {n:Nd} (hn:n∈c):n.e∈m/\(n=Zgt n.e\/(n=Z4 m n.e/\n.st≠1)):=by
 obtain⟨i,hi,rfl⟩:=Jo hn;have hi':i<m.length:=by have:=h.1;omega
 have e:=Za3 h hi';have k:=h.2 i hi';rw[getD_lt hi]at e k;rw[e];exact⟨Zc hi',k⟩
def Ui (e:Eg) (up:Nd):Nd:=if up.st=2/\(Wl up.sch e.ln).2=0 then⟨e,2,(Wl up.sch e.ln).1,up.dep+1⟩else⟨e,3,[],0⟩
theorem Zfa {m:List Eg} {e:Eg} {w:List Eg} (ha:Apart m) (he:e∈m) (hw:Way m e.par w):Z4 m e=match UV w FR with
  |none=>⟨e,3,[],0⟩
  |some fs=>Ui e ⟨Jd,2,fs,w.length⟩:=by
 have h1:Way m e.id (w++ [e]):= .step (ha.n e he) (ha.find he) hw;have h2:=Wj.2 h1;unfold Z4 FP;rw[h2];simp only[ZcU];cases hf:UV w FR with
 |none=>rfl
 |some fs=>
  simp only[JD,UV,Ui]
  by_cases hz:(Wl fs e.ln).2=0
  ·simp[hz]
  ·simp[hz]
theorem Zku {m:List Eg} {c:List Nd} (ha:Apart m) (h:Zer m c) {e:Eg} (he:e∈m) (hu:(atN c e.par).st=2\/(atN c e.par).st=3):Ui e (atN c e.par)=Z4 m e/\(Z4 m e).st≠1:=by
 have key:∃w,Way m e.par w/\Ui e (atN c e.par)=(match UV w FR with|none=>⟨e,3,[],0⟩|some fs=>Ui e ⟨Jd,2,fs,w.length⟩):=by
  unfold atN at hu ⊢;by_cases hp:e.par=Jd;rw[if_pos hp];exact⟨[],hp▸ .root,by simp[UV,Ui,Zfj]⟩;rw[if_neg hp]at hu ⊢;cases hf:Gm c e.par with
  |none=>rw[hf]at hu;simp at hu;rcases hu with hu|hu<;>cases hu
  |some n=>
   rw[hf]at hu;simp only[Jw]at hu ⊢;have hn:n∈c:=Jl hf;obtain⟨hm,hk⟩:=Zgo h hn;rcases hk with hk|⟨hk,hst⟩
   ·rw[hk]at hu;simp[Zgt]at hu
   ·have hid:e.par=n.e.id:=by
     have:=ZcQ h e.par;rw[hf]at this;exact(XU this.symm).1
    cases hw:Ziv m n.e.id with
    |none=>rw[hk]at hst;exact absurd (VY.2 hw) hst
    |some w=>
     refine⟨w,by rw[hid];exact Wj.1 hw,?_⟩;have hnw:n=FP n.e (Hs w):=by rw[<-hw];exact hk
     unfold FP at hnw;cases hfa:UV w FR with
     |none=>
      simp only[hfa]at hnw;rw[hnw];simp[Ui]
     |some fs=>
      simp only[hfa]at hnw;rw[hnw];simp[Ui]
 obtain⟨w,hw,hk⟩:=key;refine⟨by rw[hk,Zfa ha he hw],λhh=> ?_⟩;have:=VY.1 hh;have h2:=Wj.2 (Way.step (ha.n e he) (ha.find he) hw);rw[this]at h2;cases h2
theorem Zkt {m:List Eg} {c:List Nd} (ha:Apart m) (h:Zer m c) (hd:∀i,i<m.length->(c.getD i Jd).st≠1\/((atN c (m.getD i Jd).par).st≠2/\(atN c (m.getD i Jd).par).st≠3)):c=Ze m:=by
 have hs:∀ {id w},Way m id w-> ∀e,Y9 m id=Hs e->id≠Jd->Z4 m e∈c:=by
  intro id w hw;induction hw with
  |root=>intro e _ hn;exact absurd rfl hn
  |step hn he hw ih=>
   rename_i id e w;intro e' he' _;rw[he]at he';cases he';obtain⟨hid,hem⟩:=XU he;obtain⟨i,hi,rfl⟩:=Jo hem;have hic:i<c.length:=by have:=h.1;omega
   rcases h.2 i hi with hk|⟨hk,_⟩;exfalso;rcases hd i hi with h1|⟨h1,h2⟩;rw[hk]at h1;exact h1 rfl;rw[getD_lt hi]at h1 h2;by_cases hp:(m[i]).par=Jd;simp[atN,hp,Zfj]at h1;cases hfe:Y9 m (m[i]).par with
   |none=>
    generalize (m[i]).par=p at *;cases hw with
    |root=>exact hp rfl
    |step _ hq _=>rw[hfe]at hq;cases hq
   |some q=>
    have hq:=ih q hfe hp;obtain⟨hqid,hqm⟩:=XU hfe;have hfn:Gm c (m[i]).par=Hs (Z4 m q):=by
     have h3:=ZcQ h (m[i]).par;rw[hfe]at h3;cases hx:Gm c (m[i]).par with
     |none=>rw[hx]at h3;cases h3
     |some n=>
      rw[hx]at h3;simp only[Jy,JQ.injEq]at h3;have hn:n∈c:=Jl hx;have hcd:(c.map (·.e.id)).Nodup:=by
       have:=ZbR h;have h4:=ha.d;rw[<-this,JW]at h4;exact h4
      congr 1;obtain⟨a1,b1,ha1⟩:=Jo hn;obtain⟨a2,b2,ha2⟩:=Jo hq;have hee:n.e.id=(Z4 m q).e.id:=by rw[Vw,h3]
      have:a1=a2:=by
       rw[Jj,Jm]at hcd;rcases JL a1 a2 with hlt|heq|hlt
       ·exact absurd (show(c.map (·.e.id))[a1]'(by simpa using b1)=(c.map (·.e.id))[a2]'(by simpa using b2)by rw[Je,Je,ha1,ha2];exact hee) (hcd a1 a2 (by simpa using b1) (by simpa using b2) hlt)
       ·exact heq
       ·exact absurd (show(c.map (·.e.id))[a2]'(by simpa using b2)=(c.map (·.e.id))[a1]'(by simpa using b1)by rw[Je,Je,ha1,ha2];exact hee.symm) (hcd a2 a1 (by simpa using b2) (by simpa using b1) hlt)
      subst this;rw[<-ha1,<-ha2]
    have hst:(Z4 m q).st≠1:=λhh=>by
     have:=VY.1 hh;rw[<-hqid]at this;rw[Wj.2 hw]at this;cases this
    have hst2:(Z4 m q).st=2\/(Z4 m q).st=3:=by
     revert hst;unfold Z4 FP;split;exact λh=>absurd rfl h
     split;exact λ_=> .inr rfl
     exact λ_=> .inl rfl
    have hat:atN c (m[i]).par=Z4 m q:=by simp[atN,hp,hfn]
    rw[hat]at h1 h2;rcases hst2 with h5|h5;exact h1 h5;exact h2 h5
   rw[getD_lt hic,getD_lt hi]at hk;rw[<-hk];exact JE hic
 apply JO;simp[Ze,h.1];intro i h1 h2;have hi:i<m.length:=by have:=h.1;omega
 have hk:=h.2 i hi;rw[getD_lt h1,getD_lt hi]at hk;simp only[Ze,Je];rcases hk with hk|⟨hk,_⟩;rw[hk];cases hw:Ziv m (m[i]).id with
 |none=>exact(T0 hw).symm
 |some w=>
  exfalso;have hem:m[i]∈m:=JE hi;have hmem:=hs (Wj.1 hw) _ (ha.find hem) (ha.n _ hem);obtain⟨j,hj,hje⟩:=Jo hmem;have hjm:j<m.length:=by have:=h.1;omega
  have h3:=Za3 h hjm;rw[getD_lt hj,getD_lt hjm,hje,Vw]at h3;have hij:i=j:=by
   have hd:=ha.d;rw[Jj,Jm]at hd;rcases JL i j with hlt|heq|hlt
   ·exact absurd (show(m.map (·.id))[i]'(by simpa using hi)=(m.map (·.id))[j]'(by simpa using hjm)by rw[Je,Je,h3]) (hd i j (by simpa using hi) (by simpa using hjm) hlt)
   ·exact heq
   ·exact absurd (show(m.map (·.id))[j]'(by simpa using hjm)=(m.map (·.id))[i]'(by simpa using hi)by rw[Je,Je,h3]) (hd j i (by simpa using hjm) (by simpa using hi) hlt)
  subst hij;rw[hk]at hje;have:=congrArg Nd.st hje;rw[Zon]at this;have:=VY.1 this.symm;rw[hw]at this;cases this
 exact hk
open Go.PL
theorem Zj8:∀(rs:List Rf) {l m:List Fd},OkFs l->ZcY rs l=Hs m->OkFs m
 | [],l,m,h,e=>by cases e;exact h
 |r::rs,l,m,h,e=>by
  unfold ZcY at e;split at e;cases e;exact Zj8 rs (Zdk h r) e
theorem Zdj:∀(fs:List Fd) {l m:List Fd},(∀f∈fs,f.cases'.length<=1000000)->OkFs l->UM fs l=Hs m->OkFs m
 | [],l,m,_,h,e=>by cases e;exact h
 |f::fs,l,m,hc,h,e=>by
  unfold UM at e;split at e;cases e;exact Zdj fs (λg hg=>hc g (by simp[hg])) (ZnA h (hc f (by simp))) e
theorem Zoh {l:List Fd} {x:Ln} (hl:OkFs l) (hx:OkLn x):OkFs (Wl l x).1:=by
 have o0:OkFs []:=⟨Jc _,λf hf=>by cases hf⟩;unfold Wl;split;exact o0;split;exact o0;rename_i m hm;unfold ZiQ at hm;split at hm;cases hm;obtain⟨k,h1,h2⟩:=Option.bind_eq_some_iff.1 hm;exact Zdj _ (Zp7 hl hx).c (Zj8 _ hl h1) h2
theorem Zka:OkFs FR:=⟨by decide,by decide⟩
theorem Zj7:∀(w:List Eg) {fs gs:List Fd},(∀e∈w,OkLn e.ln)->OkFs fs->UV w fs=Hs gs->OkFs gs
 | [],fs,gs,_,h,e=>by cases e;exact h
 |e::w,fs,gs,hw,h,he=>by
  unfold UV at he;split at he;cases he;exact Zj7 w (λx hx=>hw x (by simp[hx])) (Zoh h (hw e (by simp))) he
theorem Zqa {m:List Eg} (hm:∀e∈m,OkLn e.ln) (e:Eg):OkFs (Z4 m e).sch/\0<=(Z4 m e).dep/\(Z4 m e).dep<=(m.length:Int):=by
 have o0:OkFs []:=⟨Jc _,λf hf=>by cases hf⟩;unfold Z4 FP;split;exact⟨o0,by simp,by simp⟩;rename_i w hw;have h1:=Wj.1 hw;split;exact⟨o0,by simp,by simp⟩;rename_i fs hf;have:=h1.len;exact⟨Zj7 w (λx hx=>hm x (h1.mem x hx)) Zka hf,by simp,by simp only;omega⟩
theorem Zp8 {m:List Eg} {c:List Nd} (hm:∀e∈m,OkLn e.ln) (h:Zer m c) (id:Tg):OkFs (atN c id).sch/\0<=(atN c id).dep/\(atN c id).dep<=(m.length:Int):=by
 have o0:OkFs []:=⟨Jc _,λf hf=>by cases hf⟩;unfold atN;split;exact⟨Zka,by simp[Zfj],by simp[Zfj]⟩;cases hf:Gm c id with
 |none=>exact⟨o0,Int.le_refl _,by show(0:Int)<=_;omega⟩
 |some n=>
  simp only[Jw];obtain⟨_,hk⟩:=Zgo h (Jl hf);rcases hk with hk|⟨hk,_⟩;rw[hk];exact⟨o0,by simp[Zgt],by simp[Zgt]⟩;rw[hk];exact Zqa hm _
theorem ZmO {m:List Eg} {c:List Nd} (ha:Apart m) (h:Zer m c) {i:Nat} (hi:i<c.length):(c.findIdx? λn=>decide ((c.getD i Jd).e.id=n.e.id))=Hs i:=by
 rw[Jk];refine⟨hi,by rw[getD_lt hi];simp,λj hj=> ?_⟩;have hd:=ha.d;rw[<-ZbR h,JW]at hd;rw[Jj,Jm]at hd;have:=hd j i (by simp;omega) (by simpa using hi) hj;simp only[Je,Function.comp]at this;rw[getD_lt hi];simp only[decide_eq_true_eq];exact λe=>this e.symm
theorem ZgF {m:List Eg} {c:List Nd} (ha:Apart m) (h:Zer m c) {i:Nat} (hi:i<c.length) (hu:(atN c (c.getD i Jd).e.par).st=2\/(atN c (c.getD i Jd).e.par).st=3):Zer m (c.set i (Ui (c.getD i Jd).e (atN c (c.getD i Jd).e.par))):=by
 have him:i<m.length:=by have:=h.1;omega
 have he:=Za3 h him;rw[he]at hu ⊢;obtain⟨k1,k2⟩:=Zku ha h (Zc him) hu;rw[k1];refine⟨by simp[h.1],λj hj=> ?_⟩;by_cases e:i=j;subst e;right;have:(c.set i (Z4 m (m.getD i Jd))).getD i Jd=Z4 m (m.getD i Jd):=by
  rw[getD_lt (by simpa using hi)];simp
 rw[this];exact⟨rfl,k2⟩;have:(c.set i (Z4 m (m.getD i Jd))).getD j Jd=c.getD j Jd:=by
  simp only[List.getD_eq_getElem?_getD,List.getElem?_set_ne e]
 rw[this];exact h.2 j hj
def ZmD (c:List Nd):Nat:=c.countP λn=>decide (n.st=1)
theorem Fa {c:List Nd} {i:Nat} {n:Nd} (hi:i<c.length) (h1:(c.getD i Jd).st=1) (h2:n.st≠1):ZmD (c.set i n)<ZmD c:=by
 unfold ZmD;rw[getD_lt hi]at h1;rw[List.countP_set hi];have:0<c.countP λn=>decide (n.st=1):=List.countP_pos_iff.2 ⟨c[i],JE hi,by simpa using h1⟩
 simp only[h1,decide_true,if_true,h2,decide_false,Jt,if_false];omega
theorem Ze0 (c:List Nd) (i:Nat) (n:Nd) (h:n.e=(c.getD i Jd).e):kts (c.set i n)=kts c:=by
 unfold kts;apply List.ext_getElem?;intro j;simp only[List.getElem?_map,List.getElem?_set];by_cases e:i=j;subst e;by_cases hi:i<c.length;simp[hi,h,getD_lt hi];simp[hi];simp[e]
theorem Ze8 (c:List Nd) (i:Nat) (n:Nd):nds (c.set i n)=(nds c).set i (nd n):=by simp[nds,List.map_set]
theorem Ze9 (e:Eg) (u:Nd):(Ui e u).e=e:=by unfold Ui;split<;>rfl
theorem ZbI (e:Eg) (u:Nd):(Ui e u).st≠1:=by unfold Ui;split<;>simp
theorem DX (c:List Nd):(kts c).length=c.length:=by simp[kts]
structure Seen (n:Nat) (p:Nat->Prop) where
 l:List Nat
 d:l.Nodup
 h:∀i∈l,i<n/\p i
def Seen.next {n:Nat} {p:Nat->Prop} (s:Seen n p) (i:Nat) (hi:i<n) (hp:p i) (hn:i∉s.l):Seen n p:=
 ⟨s.l++ [i],by rw[JB];exact⟨s.d,by simp,λa ha b hb=>by simp at hb;subst hb;exact λe=>hn (e▸ha)⟩,λj hj=>by
  rcases Jq.1 hj with hj|hj
  ·exact s.h j hj
  ·simp at hj;subst hj;exact⟨hi,hp⟩⟩
theorem Seen.len {n:Nat} {p:Nat->Prop} (s:Seen n p):s.l.length<=n:=by
 have:=ZbK (m:=List.range n) s.d (λi hi=>List.mem_range.2 (s.h i hi).1);simpa using this
open Go.PL
def Zsg (m:List Eg):Type:= { c:List Nd // Zer m c }
def ZmS (c:List Nd) (i:Nat):Prop:=(c.getD i Jd).st≠1\/((atN c (c.getD i Jd).e.par).st≠2/\(atN c (c.getD i Jd).e.par).st≠3)
theorem Zc4 (l:List Nat) (i:Nat):(l++ [i]).getLast? = Hs i:=by simp
theorem Zkv {m:List Eg} {c:List Nd} (h:Zer m c) {i:Nat} (hi:i<m.length) (h1:(c.getD i Jd).st=1):(c.getD i Jd).sch= []/\(c.getD i Jd).dep=0:=by
 rcases h.2 i hi with hk|⟨_,hk⟩;rw[hk];exact⟨rfl,rfl⟩;exact absurd h1 hk
theorem Zkw (m:List Eg) (c0:List Nd) (ha:Apart m) (h0:Zer m c0) (hm:∀e∈m,OkLn e.ln) (hl:m.length<=1000):PL.Wr prog 82 (λb=> [.rptr [.mref b]]) (mc c0) (.tup []) (mc (Ze m)):=by
 refine PL.Wr.of_v func82 (by decide) rfl ntmps82 results82 (by simp) rfl (λb=> ?_);simp only[go_sem];refine Zo1 (ι:=Zsg m) 61 (λx=> [(0,.rptr [.mref b])]) (λx=> []) (λx=> []) (λx=> [(b,mc x.1)]) (λx=> []) (λx=>ZmD x.1) 0 _ (by exact rfl) (λx=>⟨(fcs rfl fnl),fnl⟩) (λx=> ?_) (λcut=> ?_);obtain⟨c,hc⟩:=x;simp only;have hcl:=hc.1;simp only[go_sem];intro ib;simp only[go_sem,forall_const,mc,DX];refine ZnK (ι:=Seen c.length (ZmS c)) 61 (λx=> [(0,.rptr [.mref b]),(11,.iptr ib)]) (λx=> []) (λx=> []) (λx=> [(b,mc c)]) (λx=> [(ib,⟨b,c.length,x.l,none⟩)]) (λx=>c.length-x.l.length) ⟨[],by simp,λi hi=>by cases hi⟩
  ⟨⟨rfl,(Fc2 rfl rfl),fnl,fnl⟩,fcs (by simp[upd,mc]) fnl,fcs (by simp[upd]) fnl⟩ (λx=>⟨(Fc2 rfl rfl),fnl⟩) (λx=> ?_)
 have hsl:=x.len;simp only[go_sem,mc,DX];refine⟨λhall=> ?_,λi hi hns=> ?_⟩;have hdone:c=Ze m:=Zkt ha hc λi hi=>by
  have:=(x.h i (hall i (by omega))).2;unfold ZmS at this;rw[Za3 hc hi]at this;exact this
 rw[<-hdone];have him:i<m.length:=by omega
 have hA:=ZiT c (c.getD i Jd).e.par;obtain⟨ok1,ok2,ok3⟩:=Zp8 hm hc (c.getD i Jd).e.par;have hL:=Zg2 (atN c (c.getD i Jd).e.par).sch (c.getD i Jd).e.ln ok1 (by rw[Za3 hc him];exact hm _ (Zc him));have hset:=ZmO ha hc hi;have hwd:IntKind.i64.wrap ((atN c (c.getD i Jd).e.par).dep+1)=(atN c (c.getD i Jd).e.par).dep+1:=w64 (by omega);have hnx:∀(s':St) (j:Seen c.length (ZmS c)),j.l.length=x.l.length+1->HasO 61 [(0,.rptr [.mref b]),(11,.iptr ib)] [] [] [(b,mc c)] [(ib,⟨b,c.length,j.l,none⟩)] s'->ZnR 61 (λx=> [(0,.rptr [.mref b]),(11,.iptr ib)]) (λx=> []) (λx=> []) (λx=> [(b,mc c)]) (λx=> [(ib,⟨b,c.length,x.l,none⟩)]) (λx:Seen c.length (ZmS c)=>c.length-x.l.length) x s':=λs' j hj hh=>⟨j,by have:=j.len;show c.length-j.l.length<c.length-x.l.length;omega,hh⟩
 by_cases h1:(c.getD i Jd).st=1;obtain⟨hp1,hp2⟩:=Zkv hc him h1;have e1:((c.getD i Jd).st !=1)=false:=by rw[h1];rfl
 simp only[go_sem,Zc4,DS hi,Zjs hi,hi,DX,tg,nd,e1];refine Dl hA (Zmy _) ?_ ?_ ?_;simp only[go_sem];simp only[go_sem,tr,tg,kts,nds];by_cases hs2:(atN c (c.getD i Jd).e.par).st=2;have e2:((atN c (c.getD i Jd).e.par).st !=2)=false:=by rw[hs2];rfl
 have e2':((atN c (c.getD i Jd).e.par).st==2)=true:=by rw[hs2];rfl
 have hsem:=ZgF ha hc hi (.inl hs2);simp only[go_sem,nd,e2,e2'];refine vc3 hL ?_;simp only[go_sem,YF,Zs];by_cases hz:(Wl (atN c (c.getD i Jd).e.par).sch (c.getD i Jd).e.ln).2=0;have hnn:Ui (c.getD i Jd).e (atN c (c.getD i Jd).e.par)=⟨(c.getD i Jd).e,2,(Wl (atN c (c.getD i Jd).e.par).sch (c.getD i Jd).e.ln).1,(atN c (c.getD i Jd).e.par).dep+1⟩:=by unfold Ui;rw[if_pos ⟨hs2,hz⟩]
 simp only[go_sem,hz];refine ZdZ [(4,3)] (by kernel_rfl) (by kernel_rfl) (by exact rfl) ?_;simp only[go_sem,hwd];refine vDq ?_;simp only[go_sem,Yc,hset];refine⟨⟨_,hsem⟩,Fa hi h1 (ZbI _ _),⟨⟨rfl,(fcs rfl fnl),fnl,fnl⟩,fcs ?_ fnl,fnl⟩⟩;simp only[Za];rw[Ze0 c i _ (Ze9 _ _),Ze8,hnn];rfl;have hnn:Ui (c.getD i Jd).e (atN c (c.getD i Jd).e.par)=⟨(c.getD i Jd).e,3,[],0⟩:=by unfold Ui;rw[if_neg (λhh=>hz hh.2)]
 have hzb:((Wl (atN c (c.getD i Jd).e.par).sch (c.getD i Jd).e.ln).2==0)=false:=by simpa using hz
 simp only[go_sem,hzb];refine vDq ?_;simp only[go_sem,Yc,hset];refine⟨⟨_,hsem⟩,Fa hi h1 (ZbI _ _),⟨⟨rfl,(fcs rfl fnl),fnl,fnl⟩,fcs ?_ fnl,fnl⟩⟩;simp only[Za];rw[Ze0 c i _ (Ze9 _ _),Ze8,hnn];simp only[nd,hp1,hp2];by_cases hs3:(atN c (c.getD i Jd).e.par).st=3;have e2:((atN c (c.getD i Jd).e.par).st !=2)=true:=by rw[hs3];rfl
 have e2':((atN c (c.getD i Jd).e.par).st==2)=false:=by rw[hs3];rfl
 have e3:((atN c (c.getD i Jd).e.par).st !=3)=false:=by rw[hs3];rfl
 have hsem:=ZgF ha hc hi (.inr hs3);have hnn:Ui (c.getD i Jd).e (atN c (c.getD i Jd).e.par)=⟨(c.getD i Jd).e,3,[],0⟩:=by unfold Ui;rw[if_neg (λhh=>hs2 hh.1)]
 simp only[go_sem,nd,e2,e2',e3];refine vDq ?_;simp only[go_sem,Yc,hset];refine⟨⟨_,hsem⟩,Fa hi h1 (ZbI _ _),⟨⟨rfl,(fcs rfl fnl),fnl,fnl⟩,fcs ?_ fnl,fnl⟩⟩;simp only[Za];rw[Ze0 c i _ (Ze9 _ _),Ze8,hnn];simp only[nd,hp1,hp2]
 ·have e2:((atN c (c.getD i Jd).e.par).st !=2)=true:=by simpa using hs2
  have e3:((atN c (c.getD i Jd).e.par).st !=3)=true:=by simpa using hs3
  simp only[go_sem,nd,e2,e3];refine hnx _ (x.next i hi (.inr ⟨hs2,hs3⟩) hns) (by simp[Seen.next]) ?_;exact⟨⟨rfl,(Fc2 rfl rfl),fnl,fnl⟩,fcs (by simp[upd,mc]) fnl,fcs (by simp[upd,Seen.next]) fnl⟩
 ·have e1:((c.getD i Jd).st !=1)=true:=by simpa using h1
  simp only[go_sem,Zc4,DS hi,Zjs hi,hi,DX,tg,nd,e1];refine hnx _ (x.next i hi (.inl h1) hns) (by simp[Seen.next]) ?_;exact⟨⟨rfl,(Fc2 rfl rfl),fnl,fnl⟩,fcs (by simp[upd,mc]) fnl,fcs (by simp[upd,Seen.next]) fnl⟩
 simp only[go_sem];exact Yr (cut ⟨c0,h0⟩ _ ⟨⟨rfl,(fcs rfl fnl),fnl,fnl⟩,fcs (by simp[upd]) fnl,fnl⟩)
open Go.PL
def Gi (e:Eg):Bool:=Vl e.id&&((decide (e.par=Jd)||(Vl e.par&& !decide (e.par=e.id)))&&(decide (1<=e.ln.kind)&&(decide (e.ln.kind<=8)&&ZK e.ln)))
theorem GZ {t:Tg} (h:Vl t=Ht):t≠Jd:=λe=>by subst e;exact absurd h (by decide)
theorem Zfh {x:Ln} (h:ZK x=Ht):1<=x.kind:=by
 unfold ZK at h;split at h;rename_i hk;omega;split at h;omega;split at h;omega;split at h;omega;split at h;omega;split at h;omega;simp only[Jf,decide_eq_true_eq]at h;omega
theorem Zib (e:Eg) (he:OkLn e.ln):Pp 79 [eg e] (.bool (Gi e)):=by
 have hT:=Tj e.id;have hU:=Tj e.par;have hR:=X6 e.ln he;unfold Gi;cases ht:Vl e.id;rw[ht]at hT;refine Zz func79 rfl ntmps79 results79 ?_;simp only[go_sem,eg];refine vc3 hT ?_;simp only[go_sem,Bool.false_and];rw[ht]at hT;generalize hdp:decide (e.par=Jd)=dp at *;generalize hde:decide (e.par=e.id)=de at *;generalize Vl e.par=tp at *;generalize ZK e.ln=rl at *;have hdp':(e.par.r==0&&e.par.n==0)=dp:=by rw[<-hdp];exact ZD e.par Jd
 refine Zz func79 rfl ntmps79 results79 ?_;simp only[go_sem,eg];refine vc3 hT ?_;simp only[go_sem];cases dp<;>cases tp<;>cases de
 all_goals
  refine vDq ?_;simp only[go_sem];refine vc3 S9 ?_;simp only[go_sem,tg,ZD,hdp,hde,hdp']
  (try refine vc3 hU ?_)
  (try simp only[go_sem,ZD,hde])
  (try repeat' ((first|(first|apply Zl|apply Zj|apply Zp)<;>intro h|refine vc3 hR ?_|refine vDq ?_)<;>first|simp only[go_sem,h]|simp only[go_sem]|skip))
  (try(all_goals simp_all))
open Go.PL
theorem VI (t:Tg):Pp 71 [tg t] (.bool (Vl t)):=by
 refine Zz func71 rfl ntmps71 results71 ?_;simp only[go_sem,tg];repeat' ((first|(first|apply Zl|apply Zj|apply Zp)<;>intro h|refine vDq ?_)<;>first|simp only[go_sem,h]|simp only[go_sem]|skip)
 all_goals (simp only[decide_eq_true_eq,decide_eq_false_iff_not]at *;rw[Jp];simp[Vl];omega)
theorem Zsj (e:Eg):Gi e=(Vl e.id&&((decide (e.par=Jd)||Vl e.par)&&(!decide (e.id=e.par)&&(ZK e.ln&&decide (e.ln.kind<9))))):=by
 unfold Gi;rw[Jp];simp only[Jf,JF,decide_eq_true_eq,JC,decide_eq_false_iff_not];constructor;rintro ⟨h1,h2,h3,h4,h5⟩;refine⟨h1,?_,?_,h5,by omega⟩;rcases h2 with h2|h2;exact .inl h2;exact .inr h2.1;rcases h2 with h2|h2;exact λe1=>GZ h1 (e1.trans h2)
 exact λe1=>h2.2 e1.symm
 rintro ⟨h1,h2,h3,h4,h5⟩;refine⟨h1,?_,Zfh h4,by omega,h4⟩;rcases h2 with h2|h2;exact .inl h2;exact .inr ⟨h2,λe1=>h3 e1.symm⟩
theorem Zhc (e:Eg) (he:OkLn e.ln):Pp 76 [eg e] (.bool (Gi e)):=by
 have hT:=VI e.id;have hU:=VI e.par;have hR:=Zcn e.ln he;rw[Zsj];generalize hdp:decide (e.par=Jd)=dp at *;generalize hde:decide (e.id=e.par)=de at *;generalize Vl e.par=tp at *;generalize Vl e.id=ti at *;generalize ZK e.ln=rl at *;have hdp':(e.par.r==0&&e.par.n==0)=dp:=by rw[<-hdp];exact ZD e.par Jd
 refine Zz func76 rfl ntmps76 results76 ?_;simp only[go_sem,eg,hdp',ZD,hde];repeat' ((first|(first|apply Zl|apply Zj|apply Zp)<;>intro h|refine vc3 hT ?_|refine vc3 hU ?_|refine vc3 hR ?_|refine vDq ?_)<;>first|simp only[go_sem,h,hdp',ZD,hde]|simp only[go_sem,hdp',ZD,hde]|skip)
 all_goals simp_all
theorem Zie (a b:Eg) (ha:OkLn a.ln) (hb:OkLn b.ln):Pp 80 [eg a,eg b] (.bool (decide (a=b))):=by
 have hE:=Zaa a.ln b.ln ha hb;refine Zz func80 rfl ntmps80 results80 ?_;simp only[go_sem,eg,ZD];repeat' ((first|(first|apply Zl|apply Zj|apply Zp)<;>intro h|refine vc3 hE ?_|refine vDq ?_)<;>first|simp only[go_sem,h,ZD]|simp only[go_sem,ZD]|skip)
 all_goals (clear hE ha hb;cases a;cases b;simp_all)
theorem Zej (a b:Eg) (ha:OkLn a.ln) (hb:OkLn b.ln):Pp 78 [eg a,eg b] (.bool (decide (a=b))):=by
 have hE:=Zek a.ln b.ln ha hb;refine Zz func78 rfl ntmps78 results78 ?_;simp only[go_sem,eg,ZD];repeat' ((first|(first|apply Zl|apply Zj|apply Zp)<;>intro h|refine vc3 hE ?_|refine vDq ?_)<;>first|simp only[go_sem,h,ZD]|simp only[go_sem,ZD]|skip)
 all_goals (clear hE ha hb;cases a;cases b;simp_all)
theorem ZdU (e:Eg) (he:OkLn e.ln):Pp 81 [eg e] (eg e):=by
 have hO:=Dr e.ln he;refine ZF func81 rfl ntmps81 results81 (ZeM _) ?_;simp only[go_sem,eg];refine vDq ?_;simp only[go_sem];refine vc3 hO ?_;simp only[go_sem,lns];rfl
def Uj (p:Pr):Bool:=XX 200 p.fr'||XX 200 p.to'
def Sx (l:List Pr):Bool:=decide (20<(l.length:Int))||l.any Uj
theorem GL (l:List Pr) (hl:l.length<=maxLen):Pp 75 [prs l] (.bool (Sx l)):=by
 by_cases h20:(20:Int)<(l.length:Int);refine Zz func75 rfl ntmps75 results75 ?_;simp only[go_sem,prs,h20,Sx];have hx:Sx l=l.any Uj:=by simp only[Sx,h20,decide_false,JI]
 rw[hx];refine Zz func75 rfl ntmps75 results75 ?_;simp only[go_sem,prs,h20];refine Zr (ι:= { x:Nat // x<=(l).length/\(∀j,j<x->Uj (l.getD j Jd)=Hf) }) 29 (λx=> [(0,prs l),(3,.int .i64 (x.1:Int))]) (λx=> []) (λx=> []) (λx=>(l).length-x.1) ⟨0,Jc _,λj hj=>absurd hj (JS j)⟩ ⟨rfl,(Fc2 rfl rfl),fnl,fnl⟩ (λx=>⟨(Fc2 rfl rfl),fnl⟩) (λx=> ?_);obtain⟨k,hk,hI⟩:=x;simp only at hk hI ⊢;by_cases h:(k:Int)<(l.length:Int)
 (have hka:k<(l).length:=by omega);(have w1:=We hka (hl));(have i1:=Ji k)
 by_cases g1:(200:Int)<((l.getD k Jd).fr'.length:Int);have hz:=Ub (p:=Uj) hka (d:=Jd) (by simp only[Uj,XX,JF,decide_eq_true_eq];omega);simp only[go_sem,prs,h,ZW hka,pr,i1,g1,hz];by_cases g2:(200:Int)<((l.getD k Jd).to'.length:Int);have hz:=Ub (p:=Uj) hka (d:=Jd) (by simp only[Uj,XX,JF,decide_eq_true_eq];omega);simp only[go_sem,prs,h,ZW hka,pr,i1,g1,g2,hz]
 ·simp only[go_sem,prs,h,ZW hka,pr,i1,g1,g2,w1];exact⟨⟨k+1,by(try simp only);omega,Zi hI (by simp only[Uj,XX,JG,decide_eq_false_iff_not];omega)⟩,by show(l).length-(k+1)<(l).length-k;omega,⟨rfl,(Fc2 rfl rfl),fnl,fnl⟩⟩
 have hz:=VM (p:=Uj) (d:=Jd) (l:=l) (λj hj=>hI j (by omega));simp only[go_sem,prs,h,hz]
theorem Zsn (s:Str):XX 200 s=decide ((200:Int)<(s.length:Int)):=rfl
def VE (x:Ln):Bool:=XX 200 x.at'.gr||(XX 200 x.at'.nm||(XX 200 x.nm||(XX 200 x.ot||(GR x.fd||(Sx x.fo||Sx x.ba)))))
structure LenLn (x:Ln):Prop where
 c:x.fd.cases'.length<=maxLen
 f:x.fo.length<=maxLen
 b:x.ba.length<=maxLen
theorem Zbm (x:Ln) (hx:LenLn x):Pp 29 [lns x] (.bool (VE x)):=by
 have hF:=Zcl x.fd hx.c;have hP:=GL x.fo hx.f;have hQ:=GL x.ba hx.b;unfold VE;generalize GR x.fd=a1 at *;generalize Sx x.fo=a2 at *;generalize Sx x.ba=a3 at *;refine Zz func29 rfl ntmps29 results29 ?_;simp only[go_sem,lns];repeat' ((first|(first|apply Zl|apply Zj|apply Zp)<;>intro h|refine vc3 hF ?_|refine vc3 hP ?_|refine vc3 hQ ?_|refine vDq ?_)<;>first|simp only[go_sem,h]|simp only[go_sem]|skip)
 all_goals (clear hF hP hQ hx;simp only[Zsn, *,Bool.true_or,Bool.or_true,JI,Bool.or_false])
def DU (l:List Eg) (most:Int):Bool:=decide (most<(l.length:Int))||l.any λe=>VE e.ln
theorem Zck (l:List Eg) (most:Int) (hl:l.length<=maxLen) (hx:∀e∈l,LenLn e.ln):Pp 7 [egs l,.int .i64 most] (.bool (DU l most)):=by
 by_cases hm:most<(l.length:Int);refine Zz func7 rfl ntmps7 results7 ?_;simp only[go_sem,egs,hm,DU];have hz:DU l most=l.any λe=>VE e.ln:=by simp only[DU,hm,decide_false,JI]
 rw[hz];refine Zz func7 rfl ntmps7 results7 ?_;simp only[go_sem,egs,hm];refine Zr (ι:= { x:Nat // x<=(l).length/\(∀j,j<x->VE (l.getD j Jd).ln=Hf) }) 22 (λx=> [(0,egs l),(5,.int .i64 (x.1:Int))]) (λx=> []) (λx=> []) (λx=>(l).length-x.1) ⟨0,Jc _,λj hj=>absurd hj (JS j)⟩ ⟨rfl,(Fc2 rfl rfl),fnl,fnl⟩ (λx=>⟨(Fc2 rfl rfl),fnl⟩) (λx=> ?_);obtain⟨k,hk,hI⟩:=x;simp only at hk hI ⊢;by_cases h:(k:Int)<(l.length:Int)
 (have hka:k<(l).length:=by omega);(have w1:=We hka (hl));(have i1:=Ji k)
 have hF:=Zbm (l.getD k Jd).ln (hx _ (Zh hka));cases hf:VE (l.getD k Jd).ln
 ·rw[hf]at hF;simp only[go_sem,egs,h,UW hka,eg,i1];refine vc3 hF ?_;simp only[go_sem,w1];exact⟨⟨k+1,by(try simp only);omega,Zi hI hf⟩,by show(l).length-(k+1)<(l).length-k;omega,⟨rfl,(Fc2 rfl rfl),fnl,fnl⟩⟩
 rw[hf]at hF;have hz:=Ub (p:=λe:Eg=>VE e.ln) hka hf;simp only[go_sem,egs,h,UW hka,eg,i1];refine vc3 hF ?_;simp only[go_sem,hz];have hz:=VM (p:=λe:Eg=>VE e.ln) (d:=Jd) (l:=l) (λj hj=>hI j (by omega));simp only[go_sem,egs,h,hz]
theorem Zj9 {x:Ln} (h:VE x=Hf):OkLn x:=by
 simp only[VE,GR,Zay,Sx,JG,decide_eq_false_iff_not]at h;obtain⟨_,_,_,_,⟨⟨_,_,_,h1⟩,_⟩,⟨h2,_⟩,h3,_⟩:=h;exact⟨by omega,by omega,by omega⟩
open Go.PL
def Zcc (m:List Eg) (e:Eg):List Eg×Int:=
 if Gi e=Hf then(m,5)else match Y9 m e.id with
  |some x=>if x=e then(m,7)else(m,15)
  |none=>if 40<=m.length then(m,9)else(m++ [e],0)
structure OkM (m:List Eg):Prop where
 a:Apart m
 l:∀e∈m,OkLn e.ln
 n:m.length<=40
theorem T1:OkM []:=⟨⟨by simp,λe h=>(by cases h)⟩,λe h=>(by cases h),by simp⟩
theorem Zoj {m:List Eg} (h:OkM m) {e:Eg} (he:OkLn e.ln):OkM (Zcc m e).1:=by
 unfold Zcc;split;exact h;rename_i hb;split;split<;>exact h
 rename_i hf;split;exact h;rename_i hn;refine⟨⟨?_,λx hx=> ?_⟩,λx hx=> ?_,by simp;omega⟩;rw[JR,JB];refine⟨h.a.d,by simp,λa ha b hb'=> ?_⟩;simp only[Jn,List.map_nil,Jh]at hb';subst hb';obtain⟨x,hx,rfl⟩:=Js.1 ha;unfold Y9 at hf;rw[Ju]at hf;have:=hf x hx;simp only[decide_eq_true_eq]at this;exact λe1=>this e1.symm
 rcases Jq.1 hx with hx|hx;exact h.a.n x hx;rw[Jh.1 hx];have hb:Gi e=true:=by simpa using hb
 simp only[Gi,Jf]at hb;exact GZ hb.1;rcases Jq.1 hx with hx|hx;exact h.l x hx;rw[Jh.1 hx];exact he
theorem ZcL {m:List Eg} {e x:Eg} {id:Tg} (h:Y9 m id=Hs x):Y9 (m++ [e]) id=Hs x:=by
 unfold Y9 at *;rw[JK,h];rfl
theorem Way.append {m:List Eg} {e:Eg} {id:Tg} {w:List Eg} (h:Way m id w):Way (m++ [e]) id w:=by
 induction h with
 |root=>exact .root
 |step hn he hw ih=>exact .step hn (ZcL he) ih
theorem ZmP {m:List Eg} (e:Eg):Zer (m++ [e]) (Ze m++ [Zgt e]):=by
 refine⟨by simp[Ze],λi hi=> ?_⟩;by_cases hl:i<m.length;rw[Zd (by simpa[Ze]using hl),Zd hl];have e1:(Ze m).getD i Jd=Z4 m (m.getD i Jd):=by
  rw[getD_lt (by simpa[Ze]using hl),getD_lt hl];simp[Ze]
 rw[e1];cases hw:Ziv m (m.getD i Jd).id with
 |none=>exact .inl (T0 hw)
 |some w=>
  right;have:Ziv (m++ [e]) (m.getD i Jd).id=Hs w:=Wj.2 (Wj.1 hw).append;refine⟨by simp only[Z4,hw,this],λhh=> ?_⟩;rw[VY.1 hh]at hw;cases hw
 left;have hi':i=m.length:=by simp at hi;omega
 subst hi';rw[Zg (by simp[Ze]),Zg (Nat.le_refl _)];simp[Ze]
theorem ZkQ (m:List Eg):Zer m (Ze m):=by
 refine⟨by simp[Ze],λi hi=> ?_⟩;have e1:(Ze m).getD i Jd=Z4 m (m.getD i Jd):=by
  rw[getD_lt (by simpa[Ze]using hi),getD_lt hi];simp[Ze]
 rw[e1];cases hw:Ziv m (m.getD i Jd).id with
 |none=>exact .inl (T0 hw)
 |some w=>exact .inr ⟨rfl,λhh=>by rw[VY.1 hh]at hw;cases hw⟩
theorem UT (m:List Eg) (id:Tg):Gm (Ze m) id=(Y9 m id).map (Z4 m):=by
 unfold Gm Y9 Ze;rw[JT];congr 1;congr 1;funext x;simp[Vw]
theorem Zgd (m:List Eg) (id:Tg):((Ze m).findIdx? λn=>decide (id=n.e.id))=m.findIdx? λe=>decide (id=e.id):=by
 unfold Ze;rw[List.findIdx?_map];congr 1;funext x;simp[Vw]
theorem Zm5 (m:List Eg):(Ze m).length=m.length:=by simp[Ze]
theorem Zod (m:List Eg) (e:Eg):mc (Ze m++ [Zgt e])=⟨kts (Ze m)++ [tg e.id],nds (Ze m)++ [nd (Zgt e)]⟩:=by simp[mc,kts,nds,Zgt]
theorem Zqe (m:List Eg) (e:Eg) (hm:OkM m) (he:OkLn e.ln):PL.Wr prog 32 (λb=> [.rptr [.mref b],eg e]) (mc (Ze m)) (.int .i64 (Zcc m e).2) (mc (Ze (Zcc m e).1)):=by
 have hE:=Zib e he;have hok:=Zoj hm he;unfold Zcc at hok ⊢;cases hb:Gi e;rw[hb]at hE;refine PL.Wr.of_v func32 (by decide) rfl ntmps32 results32 (by simp) rfl (λb=> ?_);simp only[go_sem,eg];refine vc3 hE ?_;simp only[go_sem,if_true];rw[hb]at hE;simp only[hb,Ja,if_false]at hok ⊢;have hidx:=Zgd m e.id;cases hf:m.findIdx? (λx=>decide (e.id=x.id))with
 |some i=>
  rw[hf]at hidx;obtain⟨h1,h2⟩:=US hidx;rw[UT]at h2;cases hfe:Y9 m e.id with
  |none=>rw[hfe]at h2;cases h2
  |some x=>
   rw[hfe]at h2;simp only[Jy,JQ.injEq]at h2;have hxm:=(XU hfe).2;have hS:=Zie x e (hm.l x hxm) he;have hgx:((Ze m).getD i Jd).e=x:=by rw[<-h2,Vw]
   have hval:(nds (Ze m)).getD i .any=nd (Z4 m x):=by rw[DS h1,h2]
   have hne:=Vw m x;simp only;cases hd:decide (x=e)
   ·rw[hd]at hS;have hx:¬x=e:=by simpa using hd
    simp only[hx,if_false];refine PL.Wr.of_v func32 (by decide) rfl ntmps32 results32 (by simp) rfl (λb=> ?_);simp only[go_sem,eg];refine vc3 hE ?_;simp only[go_sem];refine vDq ?_;simp only[go_sem,mc,Yc,hidx,hval,nd,hne];refine vc3 hS ?_;simp only[go_sem,mc]
   ·rw[hd]at hS;have hx:x=e:=by simpa using hd
    simp only[hx,if_true];refine PL.Wr.of_v func32 (by decide) rfl ntmps32 results32 (by simp) rfl (λb=> ?_);simp only[go_sem,eg];refine vc3 hE ?_;simp only[go_sem];refine vDq ?_;simp only[go_sem,mc,Yc,hidx,hval,nd,hne];refine vc3 hS ?_;simp only[go_sem,mc]
 |none=>
  rw[hf]at hidx;have h2:=UR.1 hidx;rw[UT]at h2;have hfe:Y9 m e.id=none:=by
   cases hx:Y9 m e.id with
   |none=>rfl
   |some x=>rw[hx]at h2;cases h2
  rw[hfe]at hok ⊢;simp only at hok ⊢;have hkl:(kts (Ze m)).length=m.length:=by rw[DX,Zm5]
  by_cases hn:40<=m.length
  ·have hn':(40:Int)<=(m.length:Int):=by omega
   simp only[hn,if_true];refine PL.Wr.of_v func32 (by decide) rfl ntmps32 results32 (by simp) rfl (λb=> ?_);simp only[go_sem,eg];refine vc3 hE ?_;simp only[go_sem];refine vDq ?_;simp only[go_sem,mc,Yc,hidx,hkl,hn']
  ·have hn':¬(40:Int)<=(m.length:Int):=by omega
   simp only[hn,if_false]at hok ⊢;have hO:=ZdU e he;have hW:=Zkw (m++ [e]) (Ze m++ [Zgt e]) hok.a (ZmP e) hok.l (by have:=hok.n;omega);refine PL.Wr.of_v func32 (by decide) rfl ntmps32 results32 (by simp) rfl (λb=> ?_);simp only[go_sem,eg];refine vc3 hE ?_;simp only[go_sem];refine vDq ?_;simp only[go_sem,mc,Yc,hidx,hkl,hn'];refine vDq ?_;simp only[go_sem];refine vc3 hO ?_;simp only[go_sem,eg,mc,Yc,hidx];refine ZgS b hW ?_ ?_ ?_ ?_
   ·simp only[go_sem]
   ·simp only[go_sem]
   ·rw[Zod];simp[upd,tg,nd,Zgt]
   ·simp only[go_sem,mc]
def Zl6 (x:List Eg×Int):PV:= .tup [egs x.1,.int .i64 x.2]
theorem Zf3 (l:List Eg):(egs l).dids= []:=by
 unfold egs;simp only[Jr];induction l with
 |nil=>rfl
 |cons e l ih=>simp only[Jn,Jg,ih,ZeM,Jb]
theorem UO (x:List Eg×Int):(Zl6 x).dids= []:=by simp only[Zl6,Jr,Jg,Zf3,Jb]
theorem ZmQ (l:List Eg):Sized 20 (l.map eg):=λe he=>by
 obtain⟨x,_,rfl⟩:=Js.1 he;rfl
theorem ZlK (l:List Eg):YZ (l.map eg):=λe he=>by
 obtain⟨x,_,rfl⟩:=Js.1 he;rfl
theorem Zmk {m:List Eg} {id:Tg}:(idx (λx=>decide (x.id=id)) m= -1/\Y9 m id=none)\/ ∃i:Nat,i<m.length/\idx (λx=>decide (x.id=id)) m=(i:Int)/\Y9 m id=Hs (m.getD i Jd):=by
 have e:(λx:Eg=>decide (x.id=id))=λx=>decide (id=x.id):=by funext x;simp[eq_comm]
 unfold idx;rw[e];cases hf:m.findIdx? (λx=>decide (id=x.id))with
 |none=>
  left;refine⟨rfl,?_⟩;rw[JA]at hf;unfold Y9;rw[Ju];intro x hx hh;rw[hf x hx]at hh;cases hh
 |some i=>
  right;rw[Jk]at hf;obtain⟨h1,h2,h3⟩:=hf;refine⟨i,h1,rfl,?_⟩;unfold Y9;rw[Jv];exact⟨by rw[getD_lt h1];exact h2,i,h1,(getD_lt h1).symm,λj hj=>by simpa using h3 j hj⟩
theorem ZiG (m:List Eg) (e:Eg) (hm:OkM m) (he:OkLn e.ln):Pp 31 [egs m,eg e] (Zl6 (Zcc m e)):=by
 have hE:=Zhc e he;have hA:=ZiF m e.id (by rw[Zb];have:=hm.n;omega);unfold Zcc;cases hb:Gi e;rw[hb]at hE;refine ZF func31 rfl ntmps31 results31 (UO _) ?_;simp only[go_sem,eg,egs];refine vc3 hE ?_;simp only[go_sem,if_true,Zl6,egs];rw[hb]at hE;simp only[Ja,if_false];rcases Zmk (m:=m) (id:=e.id)with ⟨h1,h2⟩|⟨i,hi,h1,h2⟩;rw[h1]at hA;rw[h2];by_cases hn:40<=m.length;have hn':(39:Int)<(m.length:Int):=by omega
 simp only[hn,if_true];refine ZF func31 rfl ntmps31 results31 (UO _) ?_;simp only[go_sem,eg,egs];refine vc3 hE ?_;simp only[go_sem];refine vc3 hA ?_;simp only[go_sem];refine vDq ?_;simp only[go_sem,hn',Zl6,egs]
 ·have hn':¬(39:Int)<(m.length:Int):=by omega
  simp only[hn,if_false];have hr1:=Ym (show m.length<=1000000 by omega) (show 256<=1000 by omega);have hr2:=Ym (show m.length+1<=1000000 by omega) (show 256<=1000 by omega);refine ZF func31 rfl ntmps31 results31 (UO _) ?_;simp only[go_sem,eg,egs];refine vc3 hE ?_;simp only[go_sem];refine vc3 hA ?_;simp only[go_sem];refine vDq ?_;simp only[go_sem,hn',Zl6,egs,ZmQ,ZlK,hr1,hr2];repeat((with_reducible refine And.intro ?_ ?_);(focus((repeat' (with_reducible apply And.intro))<;>(first|omega|exact Yi (by omega) (by omega)|exact Yi (by simp;omega) (by omega)|exact ZU _|(simp;done)|(simp;omega)))))
  simp[eg]
 rw[h1]at hA;rw[h2];have hS:=Zej (m.getD i Jd) e (hm.l _ (Zc hi)) he;have i0:=Ji i
 have i1:(i:Int)<(m.length:Int):=by omega
 cases hd:decide (m.getD i Jd=e);rw[hd]at hS;have hx:¬m.getD i Jd=e:=by simpa using hd
 simp only[hx,if_false];refine ZF func31 rfl ntmps31 results31 (UO _) ?_;simp only[go_sem,eg,egs];refine vc3 hE ?_;simp only[go_sem];refine vc3 hA ?_;simp only[go_sem];refine vDq ?_;simp only[go_sem,i0,i1,UW hi,eg];refine vc3 hS ?_;simp only[go_sem,i0,Zl6,egs];rw[hd]at hS;have hx:m.getD i Jd=e:=by simpa using hd
 simp only[hx,if_true];refine ZF func31 rfl ntmps31 results31 (UO _) ?_;simp only[go_sem,eg,egs];refine vc3 hE ?_;simp only[go_sem];refine vc3 hA ?_;simp only[go_sem];refine vDq ?_;simp only[go_sem,i0,i1,UW hi,eg];refine vc3 hS ?_;simp only[go_sem,i0,Zl6,egs]
open Go.PL
def W6 (l:List Eg):List Eg:=l.foldl (λm e=>(Zcc m e).1) []
theorem Zfd:∀(l:List Eg) {m:List Eg},OkM m->(∀e∈l,OkLn e.ln)->OkM (l.foldl (λm e=>(Zcc m e).1) m)
 | [],m,h,_=>h
 |e::l,m,h,hl=>Zfd l (Zoj h (hl e (by simp))) (λx hx=>hl x (by simp[hx]))
theorem ZhD {l:List Eg} {k:Nat} (hk:k<l.length):(l.take (k+1)).foldl (λm e=>(Zcc m e).1) []=(Zcc ((l.take k).foldl (λm e=>(Zcc m e).1) []) (l.getD k Jd)).1:=by
 have:l.take (k+1)=l.take k++ [l.getD k Jd]:=by
  rw[getD_lt hk,List.take_add_one];simp[hk]
 rw[this,List.foldl_append];rfl
def grv (m:List Eg):PV:= .tup [tr (Ze m),egs m,.bool Ht]
theorem Zjf (l:List Nd):Jg (kts l)= []:=by
 unfold kts;induction l with
 |nil=>rfl
 |cons e l ih=>simp only[Jn,Jg,ih,ZkM,Jb]
theorem Zjg (l:List Nd):Jg (nds l)= []:=by
 unfold nds;induction l with
 |nil=>rfl
 |cons e l ih=>simp only[Jn,Jg,ih,Ze7,Jb]
theorem ZoD (l:List Nd):(tr l).dids= []:=by simp only[tr,Jr,Jg,Zjf,Zjg,Jb]
theorem Zmf (m:List Eg):(grv m).dids= []:=by simp only[grv,Jr,Jg,ZoD,Zf3,Jb]
theorem Zg7 (l:List Eg) (hl:l.length<=1000) (hx:∀e∈l,OkLn e.ln):Pp 10 [egs l] (grv (W6 l)):=by
 have hml:l.length<=maxLen:=by rw[Zb];omega
 refine PL.Pure.of_vs func10 (by decide) rfl ntmps10 results10 (by simp) (Zmf _) ?_;simp only[go_sem,egs];refine ZgQ Zny ?_ ?_ (λb hb=> ?_);simp only[go_sem];simp only[go_sem];simp only[go_sem];refine Zcz 6 11 [] rfl ?_;refine ZnK (ι:= { k:Nat // k<=l.length }) 40 (λx=> [(0,egs l),(5,.rptr [.mref b]),(6,egs (W6 (l.take x.1))),(7,.int .i64 (x.1:Int))]) (λx=> []) (λx=> []) (λx=> [(b,mc (Ze (W6 (l.take x.1))))]) (λx=> []) (λx=>l.length-x.1) ⟨0,Jc _⟩
  ⟨⟨rfl,(Fc4 rfl rfl rfl rfl),fnl,fnl⟩,fcs (by simp[upd];rfl) fnl,fnl⟩ (λx=>⟨(Fc4 rfl rfl rfl rfl),fnl⟩) (λx=> ?_)
 obtain⟨k,hk⟩:=x;simp only;by_cases h:(k:Int)<(l.length:Int);have hka:k<l.length:=by omega
 have w1:=We hka hml;have i1:=Ji k
 have hft:=ZhD hka;have hom:OkM (W6 (l.take k)):=Zfd _ T1 (λe he=>hx e (List.mem_of_mem_take he));have hR:=ZiG (W6 (l.take k)) (l.getD k Jd) hom (hx _ (Zc hka));have hW:=Zqe (W6 (l.take k)) (l.getD k Jd) hom (hx _ (Zc hka));have hne:((Zcc (W6 (l.take k)) (l.getD k Jd)).2 !=(Zcc (W6 (l.take k)) (l.getD k Jd)).2)=false:=by simp
 simp only[go_sem,egs,h,UW hka,eg,i1];refine vc3 hR ?_;simp only[go_sem,Zl6,egs,h,UW hka,eg,i1];refine ZgS b hW ?_ ?_ ?_ ?_;simp only[go_sem];simp only[go_sem,eg];simp[upd];simp only[go_sem,hne,w1];refine⟨⟨k+1,by omega⟩,nx9 (by omega),⟨⟨rfl,fcs rfl (fcs rfl (fcs ?_ (fcs ?_ fnl))),fnl,fnl⟩,fcs ?_ fnl,fnl⟩⟩;show _=egs (W6 (l.take (k+1)));unfold W6;rw[hft];rfl;rfl;show _=Hs (mc (Ze (W6 (l.take (k+1)))));unfold W6;rw[hft];simp[upd];obtain rfl:k=l.length:=by omega
 have htl:l.take l.length=l:=List.take_length;simp only[go_sem,egs,h,htl,mc];exact⟨_,rfl,by simp[PV.shut,PV.sealL,upd,grv,tr,egs]⟩
def edc (x:Eg×Int):PV:= .tup [eg x.1,.int .i64 x.2]
theorem Zf2 (x:Eg×Int):(edc x).dids= []:=by simp only[edc,Jr,Jg,ZeM,Jb]
theorem Zaq:eg Jd= .agg [.int .i64 0,.int .i64 0,.int .i64 0,.int .i64 0,.int .i64 0,.int .i64 0,.str [],.str [],.str [],.str [],.int .i64 0,.int .i64 0,.str [],.str [],.int .i64 0,.str [],.sl .no [],.int .i64 0,.sl .no [],.sl .no []]:=rfl
def ZcO (m:List Eg) (id:Tg):Eg×Int:=match Y9 m id with|some e=>(e,0)|none=>(Jd,6)
theorem Zah (m:List Eg) (id:Tg) (hm:OkM m):Pp 267 [tr (Ze m),tg id] (edc (ZcO m id)):=by
 have hidx:=Zgd m id;unfold ZcO;cases hf:m.findIdx? (λx=>decide (id=x.id))with
 |some i=>
  rw[hf]at hidx;obtain⟨h1,h2⟩:=US hidx;rw[UT]at h2;cases hfe:Y9 m id with
  |none=>rw[hfe]at h2;cases h2
  |some x=>
   rw[hfe]at h2;simp only[Jy,JQ.injEq]at h2;have hO:=ZdU x (hm.l x (XU hfe).2);have hval:(nds (Ze m)).getD i .any=nd (Z4 m x):=by rw[DS h1,h2]
   have hne:=Vw m x;refine ZF func267 rfl ntmps267 results267 (Zf2 _) ?_;simp only[go_sem,tr,tg];refine vDq ?_;simp only[go_sem,Yc,hidx,hval,nd,hne];refine vc3 hO ?_;simp only[go_sem,eg,edc]
 |none=>
  rw[hf]at hidx;have h2:=UR.1 hidx;rw[UT]at h2;have hfe:Y9 m id=none:=by
   cases hx:Y9 m id with
   |none=>rfl
   |some x=>rw[hx]at h2;cases h2
  rw[hfe];refine ZF func267 rfl ntmps267 results267 (Zf2 _) ?_;simp only[go_sem,tr,tg];refine vDq ?_;simp only[go_sem,Yc,hidx,edc,Zaq]
def XC (l:List Nd) (id:Tg):List Fd×Int:=if(atN l id).st=2 then((atN l id).sch,0)else if(atN l id).st=3 then([],16)else([],13)
theorem Xy (m:List Eg) (id:Tg) (hm:OkM m):Pp 16 [tr (Ze m),tg id] (YF (XC (Ze m) id)):=by
 have hA:=ZiT (Ze m) id;obtain⟨o1,o2,o3⟩:=Zp8 hm.l (ZkQ m) id;have hO:=Zcs (atN (Ze m) id).sch (by have:=o1.n;omega) o1.c;unfold XC;by_cases h2:(atN (Ze m) id).st=2;have e2:((atN (Ze m) id).st==2)=true:=by rw[h2];rfl
 simp only[h2,if_true];refine ZF func16 rfl ntmps16 results16 (Z3 _) ?_;simp only[go_sem,tr,tg];refine vc5 hA ?_;simp only[go_sem,nd,e2];refine vc2 hO ?_;simp only[go_sem,Zs,YF];by_cases h3:(atN (Ze m) id).st=3;have e2:((atN (Ze m) id).st==2)=false:=by simpa using h2
 have e3:((atN (Ze m) id).st==3)=true:=by rw[h3];rfl
 simp only[h2,h3,if_true,if_false];refine ZF func16 rfl ntmps16 results16 (Z3 _) ?_;simp only[go_sem,tr,tg];refine vc5 hA ?_;simp only[go_sem,nd,e2,e3,YF,Zs];have e2:((atN (Ze m) id).st==2)=false:=by simpa using h2
 have e3:((atN (Ze m) id).st==3)=false:=by simpa using h3
 simp only[h2,h3,if_false];refine ZF func16 rfl ntmps16 results16 (Z3 _) ?_;simp only[go_sem,tr,tg];refine vc5 hA ?_;simp only[go_sem,nd,e2,e3,YF,Zs]
def Zsi (l:List Nd) (id:Tg):Int:=if(atN l id).st=2 then(atN l id).dep else-1
open Go.PL
def upL (w:List Eg):List Tg:=(w.reverse.map (·.id))++ [Jd]
def upC (m:List Eg) (id:Tg):Int:=(XC (Ze m) id).2
def UH (m:List Eg) (id:Tg):List Eg:=(Ziv m id).getD []
theorem ZlJ (m:List Eg) (id:Tg) (h:id≠Jd):atN (Ze m) id=((Y9 m id).map (Z4 m)).getD Jd:=by
 simp only[atN,h,if_false,UT]
theorem Wi {m:List Eg} {id:Tg} (h:upC m id=0):Way m id (UH m id)/\UV (UH m id) FR=Hs (XC (Ze m) id).1/\Zsi (Ze m) id=((UH m id).length:Int):=by
 have hst:(atN (Ze m) id).st=2:=by
  unfold upC XC at h;split at h;assumption;split at h<;>cases h
 have hs:(XC (Ze m) id).1=(atN (Ze m) id).sch:=by simp only[XC,hst,if_true]
 have hdp:Zsi (Ze m) id=(atN (Ze m) id).dep:=by simp only[Zsi,hst,if_true]
 rw[hs,hdp];by_cases hd:id=Jd;subst hd;have hw:UH m Jd= []:=by
  have:=Wj.2 (Way.root (m:=m));simp[UH,this]
 rw[hw];exact⟨.root,by simp[UV,atN,Zfj],by simp[atN,Zfj]⟩;rw[ZlJ m id hd]at hst ⊢;cases hf:Y9 m id with
 |none=>rw[hf]at hst;cases hst
 |some e=>
  rw[hf]at hst;simp only[Jy,Jw]at hst ⊢;have hid:=(XU hf).1;unfold Z4 FP at hst ⊢;rw[<-hid]at hst ⊢;cases hw:Ziv m id with
  |none=>rw[hw]at hst;cases hst
  |some w=>
   have hwd:UH m id=w:=by simp[UH,hw]
   rw[hw]at hst;rw[hwd];simp only at hst ⊢;cases hfa:UV w FR with
   |none=>rw[hfa]at hst;cases hst
   |some fs=>exact⟨Wj.1 hw,rfl,rfl⟩
theorem ZgO (w:List Eg) (e:Eg):upL (w++ [e])=e.id::upL w:=by simp[upL]
theorem T7 (w:List Eg):(upL w).length=w.length+1:=by simp[upL]
theorem Zfy (w:List Eg) (t:Nat) (ht:t<w.length):(upL w).getD (w.length-t-1) Jd=(w.getD t Jd).id:=by
 unfold upL;rw[Zd (by simp;omega)];rw[getD_lt (by simp;omega),getD_lt ht];simp only[Je,List.getElem_reverse];congr 2;omega
theorem ZgN {m:List Eg} {id:Tg} {w:List Eg} (h:Way m id w):upL w=id::(upL w).tail:=by
 cases h with
 |root=>rfl
 |step hn he hw=>rw[ZgO,(XU he).1];rfl
def Zlo (x:List Tg×Int):PV:= .tup [tgs x.1,.int .i64 x.2]
theorem ZgL (l:List Tg):(tgs l).dids= []:=by simp only[tgs,Jr,ZfZ]
theorem ZdS (x:List Tg×Int):(Zlo x).dids= []:=by simp only[Zlo,Jr,Jg,ZgL,Jb]
def upM (m:List Eg) (id:Tg):List Tg×Int:=if upC m id≠0 then([],upC m id)else(upL (UH m id),0)
structure UpS (m:List Eg) (w:List Eg) where
 id:Tg
 r:List Eg
 acc:List Tg
 hw:Way m id r
 hx:acc++(upL r).tail=upL w
theorem tgd (t:Tg):(t.r==0&&t.n==0)=decide (t=Jd):=ZD t Jd
theorem ZiI (m:List Eg) (id:Tg) (hm:OkM m):Pp 277 [tr (Ze m),tg id] (Zlo (upM m id)):=by
 have hS:=Xy m id hm;unfold upM;by_cases hc:upC m id=0;obtain⟨hw,_,_⟩:=Wi hc;simp only[hc,ne_eq,not_true_eq_false,if_false];have hc':(XC (Ze m) id).2=0:=hc;generalize UH m id=w at *;have hwl:w.length<=40:=by have:=hw.len;have:=hm.n;omega
 refine ZF func277 rfl ntmps277 results277 (ZdS _) ?_;simp only[go_sem,tr,tg];refine vc5 hS ?_;simp only[go_sem,YF,hc'];refine Yj 8 21 39 1 2 25 [tg id] rfl rfl rfl ?_;refine Zr (ι:=UpS m w) 41 (λx=> [(0,tr (Ze m)),(3,.ptr 3 0),(8,.sl (.row 39) (x.acc.map tg))]) (λx=> [(3,[.int .i64 x.id.r,.int .i64 x.id.n],Hf)]) (λx=> [(39,.live x.acc.length 2 25)]) (λx=>x.r.length) ⟨id,w,[id],hw,by rw[ZgN hw];rfl⟩
  ⟨rfl,(Fc3 rfl rfl rfl),fcs ⟨rfl,rfl⟩ fnl,fcs rfl fnl⟩ (λx=>⟨Fc3 rfl rfl (by simp[PV.ids,Zy]),(fcs rfl fnl)⟩) (λx=> ?_)
 obtain⟨id',r,acc,hr,hx⟩:=x;simp only;have hal:acc.length<=41:=by
  have:=congrArg JY hx;rw[JJ,T7]at this;omega
 have hrm:=Ym (show acc.length+1<=1000000 by omega) (show 16<=1000 by omega);by_cases hd:id'=Jd;have hb:decide (id'=Jd)=true:=by simpa using hd
 have hacc:acc=upL w:=by
  rw[<-hx];subst hd;cases hr with
  |root=>simp[upL]
  |step hn _ _=>exact absurd rfl hn
 simp only[go_sem,tgd,hb,Zlo,tgs,hacc];have hb:decide (id'=Jd)=false:=by simpa using hd
 have hF:=Zah m id' hm;cases hr with
 |root=>exact absurd rfl hd
 |step hn he hw'=>
  rename_i e u;have hfm:ZcO m id'=(e,0):=by simp[ZcO,he]
  rw[hfm]at hF;have hx':(acc++ [e.par])++(upL u).tail=upL w:=by
   rw[<-hx,ZgO,List.tail_cons,ZgN hw'];simp
  simp only[go_sem,tr,tgd,hb];refine vc5 hF ?_;simp only[go_sem,edc,eg,Dh,hrm];exact⟨⟨e.par,u,acc++ [e.par],hw',hx'⟩,by show u.length<(u++ [e]).length;simp,⟨rfl,Fc3 rfl rfl (by simp[upd,tg]),fcs ⟨rfl,rfl⟩ fnl,fcs (by simp[upd]) fnl⟩⟩
 have hc':((XC (Ze m) id).2 !=0)=true:=by have h:(XC (Ze m) id).2≠0:=hc;simpa using h
 simp only[ne_eq,hc,not_false_eq_true,if_true];refine ZF func277 rfl ntmps277 results277 (ZdS _) ?_;simp only[go_sem,tr,tg];refine vc5 hS ?_;simp only[go_sem,YF,hc',Zlo,tgs,upC]
open Go.PL
theorem ZdA {x:Ln} (h:ZK x=Ht):(x.kind=1\/x.kind=2\/x.kind=3\/x.kind=4\/x.kind=5\/x.kind=6\/x.kind=7\/x.kind=8\/x.kind=9\/x.kind=10)/\(x.kind≠8->x.fo= []/\x.ba= []):=by
 unfold ZK at h;split at h;rename_i hk;simp only[Jf,JC]at h;exact⟨by omega,λ_=>Us.1 h.2.2.2.2.1⟩;simp only[Jf]at h;obtain⟨_,h⟩:=h;split at h;rename_i hk;exact⟨by omega,λhn=>absurd hk hn⟩;simp only[Jf,JC]at h;refine⟨?_,λ_=>Us.1 h.1⟩;have h:=h.2;split at h;omega;simp only[Jf]at h;have h:=h.2;split at h;omega;simp only[Jf]at h;have h:=h.2;split at h;omega;split at h;omega;simp only[Jf,decide_eq_true_eq]at h;omega
def Ze3 (m:List Eg) (x:Lg):Ln×Int:=match Y9 m x.id with|none=>(Jd,6)|some e=>if x.down=Ht then(e.ln,0)else(Zpm e.ln,0)
structure RightM (m:List Eg):Prop where
 r:∀e∈m,Gi e=Ht
theorem Zhz {e:Eg} (h:Gi e=Ht):ZK e.ln=true:=by
 simp only[Gi,Jf]at h;exact h.2.2.2.2
theorem ZmL {m:List Eg} (h:RightM m) (e:Eg):RightM (Zcc m e).1:=by
 unfold Zcc;split;exact h;rename_i hb;split;split<;>exact h
 split;exact h;refine⟨λx hx=> ?_⟩;rcases Jq.1 hx with hx|hx;exact h.r x hx;rw[Jh.1 hx];simpa using hb
theorem ZaY:∀(l:List Eg) {m:List Eg},RightM m->RightM (l.foldl (λm e=>(Zcc m e).1) m)
 | [],m,h=>h
 |e::l,m,h=>ZaY l (ZmL h e)
theorem Fl:RightM []:=⟨λe h=>by cases h⟩
theorem Zhi (m:List Eg) (x:Lg) (hm:OkM m) (hr:RightM m):Pp 246 [tr (Ze m),lg x] (lnc (Ze3 m x)):=by
 have hF:=Zah m x.id hm;unfold ZcO at hF;unfold Ze3;cases hf:Y9 m x.id with
 |none=>
  rw[hf]at hF;simp only at hF ⊢;refine ZF func246 rfl ntmps246 results246 (SC _) ?_;simp only[go_sem,tr,lg];refine vc5 hF ?_;simp only[go_sem,edc,Zaq,lnc,DY]
 |some e=>
  rw[hf]at hF;simp only at hF ⊢;have hem:=(XU hf).2;have hO:=Dr e.ln (hm.l e hem);have hI:=Zch e.ln (hm.l e hem);have hi:Zrx e.ln=(Zpm e.ln,0):=by unfold Zrx;rw[Zhz (hr.r e hem)];rfl
  rw[hi]at hI;obtain⟨id,down⟩:=x;cases down
  ·refine ZF func246 rfl ntmps246 results246 (SC _) ?_;simp only[go_sem,tr,lg];refine vc5 hF ?_;simp only[go_sem,edc,eg];refine vc3 hI ?_;simp only[go_sem,lnc,lns,if_false]
  ·refine ZF func246 rfl ntmps246 results246 (SC _) ?_;simp only[go_sem,tr,lg];refine vc5 hF ?_;simp only[go_sem,edc,eg];refine vc3 hO ?_;simp only[go_sem,lnc,lns,if_true]
theorem Zso {x:Ln} (h:OkLn x):OkLn (Zpm x):=by
 unfold Zpm;repeat' split
 all_goals first|exact⟨h.c,h.f,h.b⟩|exact⟨h.c,h.b,h.f⟩
theorem Zp9 {m:List Eg} (hm:OkM m) (x:Lg):OkLn (Ze3 m x).1:=by
 unfold Ze3;split;exact⟨by decide,by decide,by decide⟩;rename_i e he;have:=hm.l e (XU he).2;split;exact this;exact Zso this
open Go.PL
def VX (w:Int):Int:=(4503599627370496:Int).tdiv w
theorem Ze5 {w:Int} (h:1<=w):0<=VX w/\VX w<=4503599627370496/\VX w*w<=4503599627370496/\4503599627370496<(VX w+1)*w:=by
 unfold VX;have e:(4503599627370496:Int).tdiv w=(4503599627370496:Int) / w:=Int.tdiv_eq_ediv_of_nonneg (by omega);rw[e];have h1:(4503599627370496:Int) / w*w<=4503599627370496:=Int.ediv_mul_le _ (by omega);have h2:=Int.lt_ediv_add_one_mul_self 4503599627370496 (show 0<w by omega);have h3:0<=(4503599627370496:Int) / w:=Int.ediv_nonneg (by omega) (by omega);have h4:(4503599627370496:Int) / w<=4503599627370496:=Int.ediv_le_self _ (by omega);exact⟨h3,h4,h1,h2⟩
def ZjJ (u p f:Int):Int×Int:=
 if ¬(2<=f/\f<=1000)then(0,2)else if p < - VX f\/VX f<p then(0,3)
 else if Wx (IntKind.i64.wrap (u+IntKind.i64.wrap (f*p)))=Ht then(IntKind.i64.wrap (u+IntKind.i64.wrap (f*p)),0)else(0,3)
def Zn9 (x:Int×Int):PV:= .tup [.int .i64 x.1,.int .i64 x.2]
theorem Zlg {n:Int} (h: -9223372036854775808<=n/\n<=9223372036854775807):IntKind.i64.wrap n=n:=w64 (by omega)
theorem Zg8 (u p f:Int) (hu:Lim u) (hp:Lim p):Pp 278 [.cpx .f64 (X1 u) (X1 p),.int .i64 f] (Zn9 (ZjJ u p f)):=by
 have hF:=Dp f;have hP:=Ti u p hu hp;have hA:=ZiX (IntKind.i64.wrap (u+IntKind.i64.wrap (f*p)));unfold ZjJ;by_cases hf:2<=f/\f<=1000;have e1:(decide (2<=f)&&decide (f<=1000))=true:=by simpa using hf
 rw[e1]at hF;rw[if_neg (λh=>h hf)];have ms:=Ze5 (w:=f) (by omega);have q1:IntKind.i64.wrap ((4503599627370496:Int).tdiv f)=VX f:=Zlg (by unfold VX at ms;omega);have q2:IntKind.i64.wrap (0-VX f)= - VX f:=by rw[Zlg (by omega)];omega
 have fz:f≠0:=by omega
 by_cases c1:p < - VX f;rw[if_pos (.inl c1)];refine ZF func278 rfl ntmps278 results278 (rfl) ?_;simp only[go_sem];refine vc1 hF ?_;simp only[go_sem];refine vc1 hP ?_;simp only[go_sem,q1,q2,fz,c1,Zn9];by_cases c2:VX f<p;rw[if_pos (.inr c2)];refine ZF func278 rfl ntmps278 results278 (rfl) ?_;simp only[go_sem];refine vc1 hF ?_;simp only[go_sem];refine vc1 hP ?_;simp only[go_sem,q1,q2,fz,c1,c2,Zn9];rw[if_neg (by omega)];cases ha:Wx (IntKind.i64.wrap (u+IntKind.i64.wrap (f*p)));rw[ha]at hA;simp only[Jt,if_false];refine ZF func278 rfl ntmps278 results278 (rfl) ?_;simp only[go_sem];refine vc1 hF ?_;simp only[go_sem];refine vc1 hP ?_;simp only[go_sem,q1,q2,fz,c1,c2];refine vc1 hA ?_;simp only[go_sem,Zn9];rw[ha]at hA;simp only[if_true];refine ZF func278 rfl ntmps278 results278 (rfl) ?_;simp only[go_sem];refine vc1 hF ?_;simp only[go_sem];refine vc1 hP ?_;simp only[go_sem,q1,q2,fz,c1,c2];refine vc1 hA ?_;simp only[go_sem,Zn9];have e1:(decide (2<=f)&&decide (f<=1000))=false:=by rw[Bool.eq_false_iff];simpa using hf
 rw[e1]at hF;rw[if_pos hf];refine ZF func278 rfl ntmps278 results278 (rfl) ?_;simp only[go_sem];refine vc1 hF ?_;simp only[go_sem,Zn9]
structure OkOp (o:Opn):Prop where
 d:o.drops.length<=1000000
theorem Xp (o:Opn) (ho:OkOp o):Pp 247 [opv o] (opv o):=by
 have hr:=Ym ho.d (show 16<=1000 by omega);refine ZF func247 rfl ntmps247 results247 (Ty _) ?_;simp only[go_sem,opv,Dh,ZfU,hr]
def D0 (o:Opn) (i f:Int):Int×Bool:=if o.kind≠3 then(0,Hf)else if i=0 then(o.delta,Ht)else if Wx o.delta=Ht then((ZjJ 0 o.delta f).1,decide ((ZjJ 0 o.delta f).2=0))else(0,Hf)
def Zmm (x:Int×Bool):PV:= .tup [.int .i64 x.1,.bool x.2]
theorem ZdF (o:Opn) (i f:Int):Pp 270 [opv o,.int .i64 i,.int .i64 f] (Zmm (D0 o i f)):=by
 unfold D0;by_cases k3:o.kind=3;have e3:(o.kind !=3)=false:=by simpa using k3
 rw[if_neg (λh=>h k3)];by_cases i0:i=0;have ei:(i==0)=true:=by simpa using i0
 rw[if_pos i0];refine ZF func270 rfl ntmps270 results270 (rfl) ?_;simp only[go_sem,opv,e3,ei,Zmm];have ei:(i==0)=false:=by simpa using i0
 rw[if_neg i0];have hO:=Zeg 0 o.delta;have f0:Wx 0=true:=by decide
 cases hd:Wx o.delta;rw[if_neg (by rw[hd];simp)]at hO;simp only[Jt,if_false];refine ZF func270 rfl ntmps270 results270 (rfl) ?_;simp only[go_sem,opv,e3,ei];refine vc1 hO ?_;simp only[go_sem,Zmm];rw[if_pos ⟨f0,hd⟩]at hO;have hJ:=Zg8 0 o.delta f (Su.1 f0) (Su.1 hd);simp only[if_true];generalize ZjJ 0 o.delta f=y at *;obtain⟨n,c⟩:=y;have ec:(c==0)=decide (c=0):=by rw[Jp];simp
 refine ZF func270 rfl ntmps270 results270 (rfl) ?_;simp only[go_sem,opv,e3,ei];refine vc1 hO ?_;simp only[go_sem];refine vc1 hJ ?_;simp only[go_sem,Zn9,ec,Zmm];have e3:(o.kind !=3)=true:=by simpa using k3
 rw[if_pos k3];refine ZF func270 rfl ntmps270 results270 (rfl) ?_;simp only[go_sem,opv,e3,Zmm]
def ZeK (o:Opn) (fo:List Pr):Str×Bool:=if o.kind≠4 then([],Hf)else if o.has=Hf then(o.text,Ht)else X3 fo o.text
theorem ZhZ (o:Opn) (fo:List Pr) (hf:fo.length<=maxLen):Pp 271 [opv o,prs fo] (Zba (ZeK o fo)):=by
 have hC:=T8 fo o.text hf;unfold ZeK;obtain⟨id,sch,time,cart,kind,item,at',delta,has,text,drops⟩:=o;simp only at hC ⊢;by_cases k4:kind=4;have e4:(kind !=4)=false:=by simpa using k4
 rw[if_neg (λh=>h k4)];cases has;refine ZF func271 rfl ntmps271 results271 (rfl) ?_;simp only[go_sem,opv,prs,e4,Zba,if_true];simp only[Ja,if_false];generalize X3 fo text=y at *;obtain⟨s,b⟩:=y;refine ZF func271 rfl ntmps271 results271 (rfl) ?_;simp only[go_sem,opv,prs,e4];refine vc3 hC ?_;simp only[go_sem,Zba];have e4:(kind !=4)=true:=by simpa using k4
 rw[if_pos k4];refine ZF func271 rfl ntmps271 results271 (rfl) ?_;simp only[go_sem,opv,prs,e4,Zba]
def ZR (o:Opn) (r:Rf):Opn:=⟨o.id,o.sch,o.time,o.cart,o.kind,o.item,r,o.delta,o.has,o.text,o.drops⟩
def Z1 (o:Opn) (d:Int):Opn:=⟨o.id,o.sch,o.time,o.cart,o.kind,o.item,o.at',d,o.has,o.text,o.drops⟩
def YW (o:Opn) (s:Str):Opn:=⟨o.id,o.sch,o.time,o.cart,o.kind,o.item,o.at',o.delta,o.has,s,o.drops⟩
theorem vcn {x:Bool} {M:KH} {g:FuncId} {args args':List PV} {K:KR} {r:PV} (h1:Pp g args' r) (h2:K.k r M.m) (h0:JP M.m args:=by first|(simp only[go_sem,ref,ent,Ys,doc,YD,row,Zs,fld,lns,tg,refs,prs,pr,eg,egs,tgs,lg,lgs,YS,opv,tr,ZR,Z1,YW];done)|exact rfl) (he:JX M.m args=args':=by first|(simp only[go_sem,ref,ent,Ys,doc,YD,row,Zs,fld,lns,tg,refs,prs,pr,eg,egs,tgs,lg,lgs,YS,opv,tr,ZR,Z1,YW];done)|exact rfl):@Vo prog x M (Hs (g,args)) K:=Z6 h1 h0 he h2
def Yv (x:Ln) (o:Opn):Opn×Bool:=
 if x.kind=1\/x.kind=4\/x.kind=5 then(o,Ht)
 else if x.kind=6 then(o,decide (o.kind=3))
 else if x.kind=9 then(Z1 o (D0 o (SI (XN x) o.at') x.fac).1,(D0 o (SI (XN x) o.at') x.fac).2)
 else if x.kind=7\/x.kind=10 then(o,decide (o.kind=4))
 else if x.kind=8 then(YW o (ZeK o x.fo).1,(ZeK o x.fo).2)
 else(o,Hf)
def FQ (x:Ln) (o:Opn):Opn×Bool:=
 if ZK x=Hf then(Jd,Hf)else if o.kind≠3/\o.kind≠4 then(o,Ht)else if SI (XN x) o.at'<0 then(o,Ht)
 else if(Yv x o).2=Hf then(Jd,Hf)else(ZR (Yv x o).1 ((Zn x).getD 0 Jd),Ht)
theorem ZiA (x:Ln) (o:Opn) (hx:OkLn x) (ho:OkOp o):Pp 248 [lns x,opv o] (opb (FQ x o)):=by
 have hR:=X6 x hx;have hO:=Xp o ho;unfold FQ;cases hlr:ZK x;rw[hlr]at hR;refine ZF func248 rfl ntmps248 results248 (Zu _) ?_;simp only[go_sem,lns,opv];refine vc3 hR ?_;simp only[go_sem,if_true,opb,Zw];have hk:=(ZdA hlr).1;rw[hlr]at hR;simp only[Ja,if_false];by_cases hp:o.kind≠3/\o.kind≠4;rw[if_pos hp];have e1:(o.kind !=3)=true:=by simpa using hp.1
 have e2:(o.kind !=4)=true:=by simpa using hp.2
 refine ZF func248 rfl ntmps248 results248 (Zu _) ?_;simp only[go_sem,lns,opv];refine vc3 hR ?_;simp only[go_sem,e1,e2,opv];refine vc6 hO ?_;simp only[go_sem,opb,opv];rw[if_neg hp];have hG:=Dq x hx;have hC:=F7 x hx;have hg:ZcZ x=XN x:=by simp[ZcZ,hlr]
 have hc:Zao x=Zn x:=by simp[Zao,hlr]
 rw[hg]at hG;rw[hc]at hC;have hI:Pp 269 [refs (XN x),ref o.at'] (.int .i64 (SI (XN x) o.at')):=Zed (XN x) o.at' (by have:=Zjv x;rw[Zb];omega);have pl:((o.kind !=3)=Ht/\(o.kind !=4)=Hf)\/(o.kind !=3)=false:=by
  by_cases k3:o.kind=3;right;simpa using k3;left;refine⟨by simpa using k3,?_⟩;simp only[bne_eq_false_iff_eq];exact Jz λh=>hp ⟨k3,h⟩
 by_cases hi:SI (XN x) o.at'<0;rw[if_pos hi];rcases pl with ⟨e1,e2⟩|e1;refine ZF func248 rfl ntmps248 results248 (Zu _) ?_;simp only[go_sem,lns,opv];refine vc3 hR ?_;simp only[go_sem,e1,e2,lns];refine vDq ?_;simp only[go_sem,lns,opv];refine vc3 hG ?_;simp only[go_sem,refs];refine vc3 hI ?_;simp only[go_sem,hi,opv];refine vc6 hO ?_;simp only[go_sem,opb,opv];refine ZF func248 rfl ntmps248 results248 (Zu _) ?_;simp only[go_sem,lns,opv];refine vc3 hR ?_;simp only[go_sem,e1,lns];refine vDq ?_;simp only[go_sem,lns,opv];refine vc3 hG ?_;simp only[go_sem,refs];refine vc3 hI ?_;simp only[go_sem,hi,opv];refine vc6 hO ?_;simp only[go_sem,opb,opv];rw[if_neg hi];have hM:=ZdF o (SI (XN x) o.at') x.fac;have hV:=ZhZ o x.fo (by have:=hx.f;rw[Zb];omega);obtain⟨kind,at',nm,ot,fac,fd,fo,ba⟩:=x;simp only at hk hM hV;rcases hk with rfl|rfl|rfl|rfl|rfl|rfl|rfl|rfl|rfl|rfl;have hne:(Zn ⟨1,at',nm,ot,fac,fd,fo,ba⟩).length≠0:=by unfold Zn;simp
 have hc0:0<(Zn ⟨1,at',nm,ot,fac,fd,fo,ba⟩).length:=by omega
 have hc1:(0:Int)<((Zn ⟨1,at',nm,ot,fac,fd,fo,ba⟩).length:Int):=by omega
 have hc2:(((Zn ⟨1,at',nm,ot,fac,fd,fo,ba⟩).map ref).getD 0 .any)=ref ((Zn ⟨1,at',nm,ot,fac,fd,fo,ba⟩).getD 0 Jd):=Xv hc0;generalize Zn ⟨1,at',nm,ot,fac,fd,fo,ba⟩=comes at *;have hb:Yv ⟨1,at',nm,ot,fac,fd,fo,ba⟩ o=(o,Ht):=by simp[Yv]
 rw[hb];simp only[Ja,if_false];have hO2:=Xp (ZR o (comes.getD 0 Jd)) ⟨ho.d⟩;rcases pl with ⟨e1,e2⟩|e1;refine ZF func248 rfl ntmps248 results248 (Zu _) ?_;simp only[go_sem,lns,opv];refine vc3 hR ?_;simp only[go_sem,e1,e2,lns];refine vDq ?_;simp only[go_sem,lns,opv];refine vc3 hG ?_;simp only[go_sem,refs];refine vc3 hI ?_;simp only[go_sem,hi,opv,lns];refine vc3 hC ?_;simp only[go_sem,refs,hc1,hc2,ref,opv,ZR,Z1,YW];refine vcn hO2 ?_;simp only[go_sem,opb,opv,ZR,Z1,YW];refine ZF func248 rfl ntmps248 results248 (Zu _) ?_;simp only[go_sem,lns,opv];refine vc3 hR ?_;simp only[go_sem,e1,lns];refine vDq ?_;simp only[go_sem,lns,opv];refine vc3 hG ?_;simp only[go_sem,refs];refine vc3 hI ?_;simp only[go_sem,hi,opv,lns];refine vc3 hC ?_;simp only[go_sem,refs,hc1,hc2,ref,opv,ZR,Z1,YW];refine vcn hO2 ?_;simp only[go_sem,opb,opv,ZR,Z1,YW];exfalso;have:XN ⟨2,at',nm,ot,fac,fd,fo,ba⟩= []:=by simp[XN]
 rw[this]at hi;exact hi (by show(-1:Int)<0;omega);have hb:Yv ⟨3,at',nm,ot,fac,fd,fo,ba⟩ o=(o,Hf):=by simp[Yv]
 rw[hb];simp only[if_true];rcases pl with ⟨e1,e2⟩|e1
 ·refine ZF func248 rfl ntmps248 results248 (Zu _) ?_;simp only[go_sem,lns,opv];refine vc3 hR ?_;simp only[go_sem,e1,e2,lns];refine vDq ?_;simp only[go_sem,lns,opv];refine vc3 hG ?_;simp only[go_sem,refs];refine vc3 hI ?_;simp only[go_sem,hi,opv,lns]
  (try simp only[go_sem,opb,Zw])
 ·refine ZF func248 rfl ntmps248 results248 (Zu _) ?_;simp only[go_sem,lns,opv];refine vc3 hR ?_;simp only[go_sem,e1,lns];refine vDq ?_;simp only[go_sem,lns,opv];refine vc3 hG ?_;simp only[go_sem,refs];refine vc3 hI ?_;simp only[go_sem,hi,opv,lns]
  (try simp only[go_sem,opb,Zw])
 have hne:(Zn ⟨4,at',nm,ot,fac,fd,fo,ba⟩).length≠0:=by unfold Zn;simp
 have hc0:0<(Zn ⟨4,at',nm,ot,fac,fd,fo,ba⟩).length:=by omega
 have hc1:(0:Int)<((Zn ⟨4,at',nm,ot,fac,fd,fo,ba⟩).length:Int):=by omega
 have hc2:(((Zn ⟨4,at',nm,ot,fac,fd,fo,ba⟩).map ref).getD 0 .any)=ref ((Zn ⟨4,at',nm,ot,fac,fd,fo,ba⟩).getD 0 Jd):=Xv hc0;generalize Zn ⟨4,at',nm,ot,fac,fd,fo,ba⟩=comes at *;have hb:Yv ⟨4,at',nm,ot,fac,fd,fo,ba⟩ o=(o,Ht):=by simp[Yv]
 rw[hb];simp only[Ja,if_false];have hO2:=Xp (ZR o (comes.getD 0 Jd)) ⟨ho.d⟩;rcases pl with ⟨e1,e2⟩|e1;refine ZF func248 rfl ntmps248 results248 (Zu _) ?_;simp only[go_sem,lns,opv];refine vc3 hR ?_;simp only[go_sem,e1,e2,lns];refine vDq ?_;simp only[go_sem,lns,opv];refine vc3 hG ?_;simp only[go_sem,refs];refine vc3 hI ?_;simp only[go_sem,hi,opv,lns];refine vc3 hC ?_;simp only[go_sem,refs,hc1,hc2,ref,opv,ZR,Z1,YW];refine vcn hO2 ?_;simp only[go_sem,opb,opv,ZR,Z1,YW];refine ZF func248 rfl ntmps248 results248 (Zu _) ?_;simp only[go_sem,lns,opv];refine vc3 hR ?_;simp only[go_sem,e1,lns];refine vDq ?_;simp only[go_sem,lns,opv];refine vc3 hG ?_;simp only[go_sem,refs];refine vc3 hI ?_;simp only[go_sem,hi,opv,lns];refine vc3 hC ?_;simp only[go_sem,refs,hc1,hc2,ref,opv,ZR,Z1,YW];refine vcn hO2 ?_;simp only[go_sem,opb,opv,ZR,Z1,YW];have hne:(Zn ⟨5,at',nm,ot,fac,fd,fo,ba⟩).length≠0:=by unfold Zn;simp
 have hc0:0<(Zn ⟨5,at',nm,ot,fac,fd,fo,ba⟩).length:=by omega
 have hc1:(0:Int)<((Zn ⟨5,at',nm,ot,fac,fd,fo,ba⟩).length:Int):=by omega
 have hc2:(((Zn ⟨5,at',nm,ot,fac,fd,fo,ba⟩).map ref).getD 0 .any)=ref ((Zn ⟨5,at',nm,ot,fac,fd,fo,ba⟩).getD 0 Jd):=Xv hc0;generalize Zn ⟨5,at',nm,ot,fac,fd,fo,ba⟩=comes at *;have hb:Yv ⟨5,at',nm,ot,fac,fd,fo,ba⟩ o=(o,Ht):=by simp[Yv]
 rw[hb];simp only[Ja,if_false];have hO2:=Xp (ZR o (comes.getD 0 Jd)) ⟨ho.d⟩;rcases pl with ⟨e1,e2⟩|e1;refine ZF func248 rfl ntmps248 results248 (Zu _) ?_;simp only[go_sem,lns,opv];refine vc3 hR ?_;simp only[go_sem,e1,e2,lns];refine vDq ?_;simp only[go_sem,lns,opv];refine vc3 hG ?_;simp only[go_sem,refs];refine vc3 hI ?_;simp only[go_sem,hi,opv,lns];refine vc3 hC ?_;simp only[go_sem,refs,hc1,hc2,ref,opv,ZR,Z1,YW];refine vcn hO2 ?_;simp only[go_sem,opb,opv,ZR,Z1,YW];refine ZF func248 rfl ntmps248 results248 (Zu _) ?_;simp only[go_sem,lns,opv];refine vc3 hR ?_;simp only[go_sem,e1,lns];refine vDq ?_;simp only[go_sem,lns,opv];refine vc3 hG ?_;simp only[go_sem,refs];refine vc3 hI ?_;simp only[go_sem,hi,opv,lns];refine vc3 hC ?_;simp only[go_sem,refs,hc1,hc2,ref,opv,ZR,Z1,YW];refine vcn hO2 ?_;simp only[go_sem,opb,opv,ZR,Z1,YW];have hne:(Zn ⟨6,at',nm,ot,fac,fd,fo,ba⟩).length≠0:=by unfold Zn;simp
 have hc0:0<(Zn ⟨6,at',nm,ot,fac,fd,fo,ba⟩).length:=by omega
 have hc1:(0:Int)<((Zn ⟨6,at',nm,ot,fac,fd,fo,ba⟩).length:Int):=by omega
 have hc2:(((Zn ⟨6,at',nm,ot,fac,fd,fo,ba⟩).map ref).getD 0 .any)=ref ((Zn ⟨6,at',nm,ot,fac,fd,fo,ba⟩).getD 0 Jd):=Xv hc0;generalize Zn ⟨6,at',nm,ot,fac,fd,fo,ba⟩=comes at *;have hb:Yv ⟨6,at',nm,ot,fac,fd,fo,ba⟩ o=(o,decide (o.kind=3)):=by simp[Yv]
 rw[hb];by_cases kk:o.kind=3;have e3:(o.kind==3)=true:=by simpa using kk
 simp only[kk,decide_true,Ja,if_false];have hO2:=Xp (ZR o (comes.getD 0 Jd)) ⟨ho.d⟩;rcases pl with ⟨e1,e2⟩|e1;refine ZF func248 rfl ntmps248 results248 (Zu _) ?_;simp only[go_sem,lns,opv];refine vc3 hR ?_;simp only[go_sem,e1,e2,lns];refine vDq ?_;simp only[go_sem,lns,opv];refine vc3 hG ?_;simp only[go_sem,refs];refine vc3 hI ?_;simp only[go_sem,hi,opv,lns,e3];refine vc3 hC ?_;simp only[go_sem,refs,hc1,hc2,ref,opv,ZR,Z1,YW];refine vcn hO2 ?_;simp only[go_sem,opb,opv,kk,ZR,Z1,YW];refine ZF func248 rfl ntmps248 results248 (Zu _) ?_;simp only[go_sem,lns,opv];refine vc3 hR ?_;simp only[go_sem,e1,lns];refine vDq ?_;simp only[go_sem,lns,opv];refine vc3 hG ?_;simp only[go_sem,refs];refine vc3 hI ?_;simp only[go_sem,hi,opv,lns,e3];refine vc3 hC ?_;simp only[go_sem,refs,hc1,hc2,ref,opv,ZR,Z1,YW];refine vcn hO2 ?_;simp only[go_sem,opb,opv,kk,ZR,Z1,YW];have e3:(o.kind==3)=false:=by simpa using kk
 simp only[kk,decide_false,if_true];rcases pl with ⟨e1,e2⟩|e1
 ·refine ZF func248 rfl ntmps248 results248 (Zu _) ?_;simp only[go_sem,lns,opv];refine vc3 hR ?_;simp only[go_sem,e1,e2,lns];refine vDq ?_;simp only[go_sem,lns,opv];refine vc3 hG ?_;simp only[go_sem,refs];refine vc3 hI ?_;simp only[go_sem,hi,opv,lns,e3]
  (try simp only[go_sem,opb,Zw])
 ·refine ZF func248 rfl ntmps248 results248 (Zu _) ?_;simp only[go_sem,lns,opv];refine vc3 hR ?_;simp only[go_sem,e1,lns];refine vDq ?_;simp only[go_sem,lns,opv];refine vc3 hG ?_;simp only[go_sem,refs];refine vc3 hI ?_;simp only[go_sem,hi,opv,lns,e3]
  (try simp only[go_sem,opb,Zw])
 have hne:(Zn ⟨7,at',nm,ot,fac,fd,fo,ba⟩).length≠0:=by unfold Zn;simp
 have hc0:0<(Zn ⟨7,at',nm,ot,fac,fd,fo,ba⟩).length:=by omega
 have hc1:(0:Int)<((Zn ⟨7,at',nm,ot,fac,fd,fo,ba⟩).length:Int):=by omega
 have hc2:(((Zn ⟨7,at',nm,ot,fac,fd,fo,ba⟩).map ref).getD 0 .any)=ref ((Zn ⟨7,at',nm,ot,fac,fd,fo,ba⟩).getD 0 Jd):=Xv hc0;generalize Zn ⟨7,at',nm,ot,fac,fd,fo,ba⟩=comes at *;have hb:Yv ⟨7,at',nm,ot,fac,fd,fo,ba⟩ o=(o,decide (o.kind=4)):=by simp[Yv]
 rw[hb];by_cases kk:o.kind=4;have e3:(o.kind==4)=true:=by simpa using kk
 simp only[kk,decide_true,Ja,if_false];have hO2:=Xp (ZR o (comes.getD 0 Jd)) ⟨ho.d⟩;rcases pl with ⟨e1,e2⟩|e1;refine ZF func248 rfl ntmps248 results248 (Zu _) ?_;simp only[go_sem,lns,opv];refine vc3 hR ?_;simp only[go_sem,e1,e2,lns];refine vDq ?_;simp only[go_sem,lns,opv];refine vc3 hG ?_;simp only[go_sem,refs];refine vc3 hI ?_;simp only[go_sem,hi,opv,lns,e3];refine vc3 hC ?_;simp only[go_sem,refs,hc1,hc2,ref,opv,ZR,Z1,YW];refine vcn hO2 ?_;simp only[go_sem,opb,opv,kk,ZR,Z1,YW];refine ZF func248 rfl ntmps248 results248 (Zu _) ?_;simp only[go_sem,lns,opv];refine vc3 hR ?_;simp only[go_sem,e1,lns];refine vDq ?_;simp only[go_sem,lns,opv];refine vc3 hG ?_;simp only[go_sem,refs];refine vc3 hI ?_;simp only[go_sem,hi,opv,lns,e3];refine vc3 hC ?_;simp only[go_sem,refs,hc1,hc2,ref,opv,ZR,Z1,YW];refine vcn hO2 ?_;simp only[go_sem,opb,opv,kk,ZR,Z1,YW];have e3:(o.kind==4)=false:=by simpa using kk
 simp only[kk,decide_false,if_true];rcases pl with ⟨e1,e2⟩|e1
 ·refine ZF func248 rfl ntmps248 results248 (Zu _) ?_;simp only[go_sem,lns,opv];refine vc3 hR ?_;simp only[go_sem,e1,e2,lns];refine vDq ?_;simp only[go_sem,lns,opv];refine vc3 hG ?_;simp only[go_sem,refs];refine vc3 hI ?_;simp only[go_sem,hi,opv,lns,e3]
  (try simp only[go_sem,opb,Zw])
 ·refine ZF func248 rfl ntmps248 results248 (Zu _) ?_;simp only[go_sem,lns,opv];refine vc3 hR ?_;simp only[go_sem,e1,lns];refine vDq ?_;simp only[go_sem,lns,opv];refine vc3 hG ?_;simp only[go_sem,refs];refine vc3 hI ?_;simp only[go_sem,hi,opv,lns,e3]
  (try simp only[go_sem,opb,Zw])
 have hne:(Zn ⟨8,at',nm,ot,fac,fd,fo,ba⟩).length≠0:=by unfold Zn;simp
 have hc0:0<(Zn ⟨8,at',nm,ot,fac,fd,fo,ba⟩).length:=by omega
 have hc1:(0:Int)<((Zn ⟨8,at',nm,ot,fac,fd,fo,ba⟩).length:Int):=by omega
 have hc2:(((Zn ⟨8,at',nm,ot,fac,fd,fo,ba⟩).map ref).getD 0 .any)=ref ((Zn ⟨8,at',nm,ot,fac,fd,fo,ba⟩).getD 0 Jd):=Xv hc0;generalize Zn ⟨8,at',nm,ot,fac,fd,fo,ba⟩=comes at *;have hb:Yv ⟨8,at',nm,ot,fac,fd,fo,ba⟩ o=(YW o (ZeK o fo).1,(ZeK o fo).2):=by simp[Yv]
 rw[hb];generalize ZeK o fo=y at *;obtain⟨d,b⟩:=y;cases b;simp only[if_true];rcases pl with ⟨e1,e2⟩|e1;refine ZF func248 rfl ntmps248 results248 (Zu _) ?_;simp only[go_sem,lns,opv];refine vc3 hR ?_;simp only[go_sem,e1,e2,lns];refine vDq ?_;simp only[go_sem,lns,opv];refine vc3 hG ?_;simp only[go_sem,refs];refine vc3 hI ?_;simp only[go_sem,hi,opv,lns];refine vc6 hV ?_;simp only[go_sem,Zba,opb,Zw];refine ZF func248 rfl ntmps248 results248 (Zu _) ?_;simp only[go_sem,lns,opv];refine vc3 hR ?_;simp only[go_sem,e1,lns];refine vDq ?_;simp only[go_sem,lns,opv];refine vc3 hG ?_;simp only[go_sem,refs];refine vc3 hI ?_;simp only[go_sem,hi,opv,lns];refine vc6 hV ?_;simp only[go_sem,Zba,opb,Zw];simp only[Ja,if_false];have hO2:=Xp (ZR (YW o d) (comes.getD 0 Jd)) ⟨ho.d⟩;rcases pl with ⟨e1,e2⟩|e1;refine ZF func248 rfl ntmps248 results248 (Zu _) ?_;simp only[go_sem,lns,opv];refine vc3 hR ?_;simp only[go_sem,e1,e2,lns];refine vDq ?_;simp only[go_sem,lns,opv];refine vc3 hG ?_;simp only[go_sem,refs];refine vc3 hI ?_;simp only[go_sem,hi,opv,lns];refine vc6 hV ?_;simp only[go_sem,Zba,lns];refine vc3 hC ?_;simp only[go_sem,refs,hc1,hc2,ref,opv,ZR,Z1,YW];refine vcn hO2 ?_;simp only[go_sem,opb,opv,ZR,Z1,YW];refine ZF func248 rfl ntmps248 results248 (Zu _) ?_;simp only[go_sem,lns,opv];refine vc3 hR ?_;simp only[go_sem,e1,lns];refine vDq ?_;simp only[go_sem,lns,opv];refine vc3 hG ?_;simp only[go_sem,refs];refine vc3 hI ?_;simp only[go_sem,hi,opv,lns];refine vc6 hV ?_;simp only[go_sem,Zba,lns];refine vc3 hC ?_;simp only[go_sem,refs,hc1,hc2,ref,opv,ZR,Z1,YW];refine vcn hO2 ?_;simp only[go_sem,opb,opv,ZR,Z1,YW];have hne:(Zn ⟨9,at',nm,ot,fac,fd,fo,ba⟩).length≠0:=by unfold Zn;simp
 have hc0:0<(Zn ⟨9,at',nm,ot,fac,fd,fo,ba⟩).length:=by omega
 have hc1:(0:Int)<((Zn ⟨9,at',nm,ot,fac,fd,fo,ba⟩).length:Int):=by omega
 have hc2:(((Zn ⟨9,at',nm,ot,fac,fd,fo,ba⟩).map ref).getD 0 .any)=ref ((Zn ⟨9,at',nm,ot,fac,fd,fo,ba⟩).getD 0 Jd):=Xv hc0;generalize Zn ⟨9,at',nm,ot,fac,fd,fo,ba⟩=comes at *;have hb:Yv ⟨9,at',nm,ot,fac,fd,fo,ba⟩ o=(Z1 o (D0 o (SI (XN ⟨9,at',nm,ot,fac,fd,fo,ba⟩) o.at') fac).1,(D0 o (SI (XN ⟨9,at',nm,ot,fac,fd,fo,ba⟩) o.at') fac).2):=by simp[Yv]
 rw[hb];generalize D0 o (SI (XN ⟨9,at',nm,ot,fac,fd,fo,ba⟩) o.at') fac=y at *;obtain⟨d,b⟩:=y;cases b;simp only[if_true];rcases pl with ⟨e1,e2⟩|e1;refine ZF func248 rfl ntmps248 results248 (Zu _) ?_;simp only[go_sem,lns,opv];refine vc3 hR ?_;simp only[go_sem,e1,e2,lns];refine vDq ?_;simp only[go_sem,lns,opv];refine vc3 hG ?_;simp only[go_sem,refs];refine vc3 hI ?_;simp only[go_sem,hi,opv,lns];refine vc6 hM ?_;simp only[go_sem,Zmm,opb,Zw];refine ZF func248 rfl ntmps248 results248 (Zu _) ?_;simp only[go_sem,lns,opv];refine vc3 hR ?_;simp only[go_sem,e1,lns];refine vDq ?_;simp only[go_sem,lns,opv];refine vc3 hG ?_;simp only[go_sem,refs];refine vc3 hI ?_;simp only[go_sem,hi,opv,lns];refine vc6 hM ?_;simp only[go_sem,Zmm,opb,Zw];simp only[Ja,if_false];have hO2:=Xp (ZR (Z1 o d) (comes.getD 0 Jd)) ⟨ho.d⟩;rcases pl with ⟨e1,e2⟩|e1;refine ZF func248 rfl ntmps248 results248 (Zu _) ?_;simp only[go_sem,lns,opv];refine vc3 hR ?_;simp only[go_sem,e1,e2,lns];refine vDq ?_;simp only[go_sem,lns,opv];refine vc3 hG ?_;simp only[go_sem,refs];refine vc3 hI ?_;simp only[go_sem,hi,opv,lns];refine vc6 hM ?_;simp only[go_sem,Zmm,lns];refine vc3 hC ?_;simp only[go_sem,refs,hc1,hc2,ref,opv,ZR,Z1,YW];refine vcn hO2 ?_;simp only[go_sem,opb,opv,ZR,Z1,YW];refine ZF func248 rfl ntmps248 results248 (Zu _) ?_;simp only[go_sem,lns,opv];refine vc3 hR ?_;simp only[go_sem,e1,lns];refine vDq ?_;simp only[go_sem,lns,opv];refine vc3 hG ?_;simp only[go_sem,refs];refine vc3 hI ?_;simp only[go_sem,hi,opv,lns];refine vc6 hM ?_;simp only[go_sem,Zmm,lns];refine vc3 hC ?_;simp only[go_sem,refs,hc1,hc2,ref,opv,ZR,Z1,YW];refine vcn hO2 ?_;simp only[go_sem,opb,opv,ZR,Z1,YW];have hne:(Zn ⟨10,at',nm,ot,fac,fd,fo,ba⟩).length≠0:=by unfold Zn;simp
 have hc0:0<(Zn ⟨10,at',nm,ot,fac,fd,fo,ba⟩).length:=by omega
 have hc1:(0:Int)<((Zn ⟨10,at',nm,ot,fac,fd,fo,ba⟩).length:Int):=by omega
 have hc2:(((Zn ⟨10,at',nm,ot,fac,fd,fo,ba⟩).map ref).getD 0 .any)=ref ((Zn ⟨10,at',nm,ot,fac,fd,fo,ba⟩).getD 0 Jd):=Xv hc0;generalize Zn ⟨10,at',nm,ot,fac,fd,fo,ba⟩=comes at *;have hb:Yv ⟨10,at',nm,ot,fac,fd,fo,ba⟩ o=(o,decide (o.kind=4)):=by simp[Yv]
 rw[hb];by_cases kk:o.kind=4;have e3:(o.kind==4)=true:=by simpa using kk
 simp only[kk,decide_true,Ja,if_false];have hO2:=Xp (ZR o (comes.getD 0 Jd)) ⟨ho.d⟩;rcases pl with ⟨e1,e2⟩|e1;refine ZF func248 rfl ntmps248 results248 (Zu _) ?_;simp only[go_sem,lns,opv];refine vc3 hR ?_;simp only[go_sem,e1,e2,lns];refine vDq ?_;simp only[go_sem,lns,opv];refine vc3 hG ?_;simp only[go_sem,refs];refine vc3 hI ?_;simp only[go_sem,hi,opv,lns,e3];refine vc3 hC ?_;simp only[go_sem,refs,hc1,hc2,ref,opv,ZR,Z1,YW];refine vcn hO2 ?_;simp only[go_sem,opb,opv,kk,ZR,Z1,YW];refine ZF func248 rfl ntmps248 results248 (Zu _) ?_;simp only[go_sem,lns,opv];refine vc3 hR ?_;simp only[go_sem,e1,lns];refine vDq ?_;simp only[go_sem,lns,opv];refine vc3 hG ?_;simp only[go_sem,refs];refine vc3 hI ?_;simp only[go_sem,hi,opv,lns,e3];refine vc3 hC ?_;simp only[go_sem,refs,hc1,hc2,ref,opv,ZR,Z1,YW];refine vcn hO2 ?_;simp only[go_sem,opb,opv,kk,ZR,Z1,YW];have e3:(o.kind==4)=false:=by simpa using kk
 simp only[kk,decide_false,if_true];rcases pl with ⟨e1,e2⟩|e1
 ·refine ZF func248 rfl ntmps248 results248 (Zu _) ?_;simp only[go_sem,lns,opv];refine vc3 hR ?_;simp only[go_sem,e1,e2,lns];refine vDq ?_;simp only[go_sem,lns,opv];refine vc3 hG ?_;simp only[go_sem,refs];refine vc3 hI ?_;simp only[go_sem,hi,opv,lns,e3]
  (try simp only[go_sem,opb,Zw])
 refine ZF func248 rfl ntmps248 results248 (Zu _) ?_;simp only[go_sem,lns,opv];refine vc3 hR ?_;simp only[go_sem,e1,lns];refine vDq ?_;simp only[go_sem,lns,opv];refine vc3 hG ?_;simp only[go_sem,refs];refine vc3 hI ?_;simp only[go_sem,hi,opv,lns,e3]
 (try simp only[go_sem,opb,Zw])
open Go.PL
structure ChT where
 l:List Fd
 n:Nat
 c:Int
def Zi9:List Fd->List Ln->Nat->ChT
 |fs,[],i=>⟨fs,i,0⟩
 |fs,x::xs,i=>if(Wl fs x).2≠0 then⟨[],i,(Wl fs x).2⟩else Zi9 (Wl fs x).1 xs (i+1)
structure ChS (l:List Fd) (row:List Ln) where
 k:Nat
 fs:List Fd
 hk:k<=row.length
 ok:OkFs fs
 h:Zi9 fs (row.drop k) k=Zi9 l row 0
theorem ZnZ {row:List Ln} {k:Nat} (hk:k<row.length):row.drop k=row.getD k Jd::row.drop (k+1):=by
 rw[getD_lt hk,List.drop_eq_getElem_cons hk]
open Go.PL
structure Cg where
 kind:Int
 item:Str
 was:En
 now:En
 l:List En
deriving DecidableEq,Inhabited
def chg (c:Cg):PV:= .agg [.int .i64 c.kind,.str c.item,.int .i64 c.was.at'.sc,.str c.was.at'.gr,.str c.was.at'.nm,.int .i64 c.was.n,.sl .no (c.was.l.map .str),.int .i64 c.now.at'.sc,.str c.now.at'.gr,.str c.now.at'.nm,.int .i64 c.now.n,.sl .no (c.now.l.map .str),.sl .no (c.l.map ent)]
def Zbu (l:List Cg):PV:= .sl .no (l.map chg)
theorem vc8 {x:Bool} {M:KH} {g:FuncId} {args args':List PV} {K:KR} {r:PV} (h1:Pp g args' r) (h2:K.k r M.m) (h0:JP M.m args:=by first|(simp only[go_sem,ref,ent,Ys,doc,YD,row,Zs,fld,lns,tg,refs,prs,pr,eg,egs,tgs,lg,lgs,YS,opv,tr,chg,Zbu];done)|exact rfl) (he:JX M.m args=args':=by first|(simp only[go_sem,ref,ent,Ys,doc,YD,row,Zs,fld,lns,tg,refs,prs,pr,eg,egs,tgs,lg,lgs,YS,opv,tr,chg,Zbu];done)|exact rfl):@Vo prog x M (Hs (g,args)) K:=Z6 h1 h0 he h2
structure FineC (c:Cg):Prop where
 w:c.was.l.length<=maxLen
 n:c.now.l.length<=maxLen
 l:c.l.length<=maxLen
 e:∀e∈c.l,e.l.length<=maxLen
theorem Zf8 {l:List Cg} {i:Nat} (h:i<l.length):(l.map chg).getD i .any=chg (l.getD i Jd):=Xa h
open Go.PL
open Go.PL
theorem V5 (l:List Cg):Sized 13 (l.map chg):=λe he=>by
 obtain⟨x,_,rfl⟩:=Js.1 he;rfl
theorem ZiU (l:List Cg):YZ (l.map chg):=λe he=>by
 obtain⟨x,_,rfl⟩:=Js.1 he;rfl
theorem ZlW (c:Cg):(chg c).dids= []:=by simp only[chg,Jr,Jg,XS,Sn,Jb]
theorem ZcE (l:List Cg):Jg (l.map chg)= []:=by
 induction l with
 |nil=>rfl
 |cons e l ih=>rw[Jn,Jg,ih,ZlW];rfl
theorem ZcD (l:List Cg):(Zbu l).dids= []:=by simp only[Zbu,Jr,ZcE]
end Go.Proofs.YtepchngegclagaaGreat
