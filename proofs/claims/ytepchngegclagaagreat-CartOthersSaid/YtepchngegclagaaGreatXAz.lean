/- Lemmas of the proof. -/
import Derived.Test.YtepchngegclagaaGreatPlH
import Derived.Test.YtepchngegclagaaGreatXAa
import Derived.Test.YtepchngegclagaaGreatXAh
import Derived.Test.YtepchngegclagaaGreatXAn
import Derived.ProofKit
open Inhabited renaming default→Jd
open Option renaming some→Hs
open Bool renaming true→Ht,false→Hf
open Go.Proofs.Tryz
open Go Go.PL
open _root_.Array renaming getElem?_eq_some_iff→JN,getElem?_modify→J3
open BelowF renaming refl→Kz
open Bool renaming true_eq_false→Jb,and_eq_true→Jh,false_eq_true→Jw,or_eq_false_iff→JJ,not_eq_true'→Kf,eq_false_iff→Kg,eq_iff_iff→Kl,false_and→Kn,and_false→Ko,and_self→Ks
open Classical renaming not_not→KA
open Decidable renaming byContradiction→Kq
open Int renaming natCast_nonneg→Jf,reduceEq→Jj,toNat_natCast→JO
open List renaming append_nil→Ja,mem_map→Je,getElem_map→Jg,getElem_mem→Ji,pairwise_iff_getElem→Jk,getD_cons_zero→Jl,findIdx?_eq_some_iff_getElem→Jm,map_cons→Jn,take_of_length_le→Jo,mem_append→Jp,map_append→Jq,length_map→Js,getElem_of_mem→Jt,mem_singleton→Ju,nodup_iff_pairwise_ne→Jv,length_filter_le→Jy,mem_of_find?_eq_some→Jz,mem_cons→JA,length_append→JC,length_cons→JD,findIdx?_eq_none_iff→JE,nodup_cons→JF,take_add_one→JG,mem_append_right→JH,take_append_of_le_length→JI,pairwise_cons→JL,find?_eq_none→JM,nodup_append→JR,getElem_append_left→JS,getElem?_eq_getElem→JT,take_length→JX,length_eq_zero_iff→JY,filter_cons_of_neg→JZ,filter_cons_of_pos→J2,mem_append_left→J4,mem_of_mem_drop→J5,length_take_le→J6,filter_append→J8,find?_append→Ka,map_map→Kc,foldl_append→Kd,any_eq_false→Ke,drop_length→Kh,ext_getElem→Ki,find?_map→Km,map_take→Kr,length→Ku
open Nat renaming zero_le→Jc,lt_trichotomy→JP,le_trans→J9,add_zero→Kt,sub_sub→Kv,mul_one→Ky
open Option renaming map_some→JK,bind_some→JU,bind_eq_some_iff→JV,getD_some→JW,some→Kj
open PV renaming didsL→Jr,dids→JB,ids→J7,givableL→Kk,sl→Kw,giveL→Kx,str→KB
open Prod renaming mk→JQ
namespace Go.Proofs.YtepchngegclagaaGreat
set_option maxHeartbeats 64000000
set_option maxRecDepth 20000
set_option linter.unusedVariables false
set_option linter.unusedSimpArgs false
open Go.PL
def Sr:List Rf->List Fd->Option (List Fd)
 | [],l=>Hs l
 |r::rs,l=>if(YZ l r).2≠0 then none else Sr rs (YZ l r).1
def XU:List Fd->List Fd->Option (List Fd)
 | [],l=>Hs l
 |f::fs,l=>if(SX l f).2≠0 then none else XU fs (SX l f).1
def ZaA (l:List Fd) (x:Ln):Option (List Fd):=if(Gc l x).2=Hf then none else(Sr (Yx x) l).bind (XU (Gc l x).1)
def YQ (l:List Fd) (x:Ln):List Fd×Int:=
 if Yj l=Hf\/ZA x=Hf then([],5)else match ZaA l x with|none=>([],16)|some m=>(m,0)
theorem ZdA {l:List Fd} (h:OkFs l) (r:Rf):OkFs (YZ l r).1:=by
 unfold YZ;split;exact⟨Jc _,λf hf=>by cases hf⟩;split;exact⟨Jc _,λf hf=>by cases hf⟩;exact⟨J9 (List.length_eraseIdx_le _ _) h.n,λf hf=>h.c f (List.mem_of_mem_eraseIdx hf)⟩
theorem Zow {l:List Fd} {f x:Fd} (h:x∈Zdm l f):x∈l\/x=f:=by
 unfold Zdm at h;rcases Jp.1 h with h|h;exact .inl (List.takeWhile_subset _ h);rcases JA.1 h with h|h;exact .inr h;exact .inl (List.dropWhile_subset _ h)
theorem ZnK {l:List Fd} (h:OkFs l) {f:Fd} (hf:f.cases'.length<=1000000):OkFs (SX l f).1:=by
 unfold SX;split;exact⟨Jc _,λf hf=>by cases hf⟩;split;exact⟨Jc _,λf hf=>by cases hf⟩;split;exact⟨Jc _,λf hf=>by cases hf⟩;refine⟨by simp only[ZbP];omega,λg hg=> ?_⟩;rcases Zow hg with h'|h';exact h.c g h';rw[h'];exact hf
theorem Zqs {l:List Fd} {x:Ln} (hl:OkFs l) (hx:OkLn x):OkFs (Gc l x).1:=by
 have o1:∀f:Fd,f.cases'.length<=1000000->OkFs [f]:=λf hf=>⟨by simp,λg hg=>by rw[Ju.1 hg];exact hf⟩
 have o0:OkFs []:=⟨Jc _,λf hf=>by cases hf⟩;unfold Gc;split;exact o1 _ hx.c;split;exact o0;split;unfold Gv;split;exact o0;split;exact o0;exact o1 _ (Jc _);split;exact o0;split;refine⟨by simp,λf hf=> ?_⟩;simp only[JA,List.not_mem_nil,or_false]at hf;rcases hf with rfl|rfl<;>exact Jc _
 split;exact o1 _ (Jc _);split;exact o1 _ (Jc _);split;exact o1 _ (by simp only[ZaO];exact hx.b);exact o1 _ (ZgE hl _)
theorem Zg9 (l:List Fd) (x:Ln) (hl:OkFs l) (hx:OkLn x):Pp 131 [Zp l,lns x] (YJ (YQ l x)):=by
 have hn:=hl.n;have hS:=TS l (by rw[Zd];omega) (λf hf=>by have:=hl.c f hf;rw[Zd];omega);have hR:=X9 x hx;unfold YQ;cases hsr:Yj l;rw[hsr]at hS;refine ZM func131 rfl ntmps131 results131 (Z5 _) ?_;simp only[go_sem,Zp,lns];refine vc2 hS ?_;simp only[go_sem,if_true,YJ,Zp];rw[hsr]at hS;cases hlr:ZA x;rw[hlr]at hR;refine ZM func131 rfl ntmps131 results131 (Z5 _) ?_;simp only[go_sem,Zp,lns];refine vc2 hS ?_;simp only[go_sem];refine vc3 hR ?_;simp only[go_sem,if_true,YJ,Zp];rw[hlr]at hR;simp only[Jb,or_self,if_false];have hA:=Zbw l x hl hx hlr;have okA:=Zqs hl hx;unfold ZaA;generalize Gc l x=y at *;obtain⟨come,ok⟩:=y;simp only at okA ⊢;cases ok;simp only[if_true];refine ZM func131 rfl ntmps131 results131 (Z5 _) ?_;simp only[go_sem,Zp,lns];refine vc2 hS ?_;simp only[go_sem];refine vc3 hR ?_;simp only[go_sem];refine vc3 hA ?_;simp only[go_sem,TJ,YJ,Zp];simp only[Jb,if_false];have hO:=ZcN l (by omega) hl.c;have hG:=DB x hx;have hg:Zdk x=Yx x:=by simp[Zdk,hlr]
 rw[hg]at hG;have hgl:(Yx x).length<=maxLen:=by
  have:(Yx x).length<=2:=by
   unfold Yx;split;simp;split;simp;split<;>simp
  rw[Zd];omega
 generalize Yx x=goes at *;generalize hGo:Sr goes l=G;refine ZM func131 rfl ntmps131 results131 (Z5 _) ?_;simp only[go_sem,Zp,lns];refine vc2 hS ?_;simp only[go_sem];refine vc3 hR ?_;simp only[go_sem];refine vc3 hA ?_;simp only[go_sem,TJ,Zp];refine vc2 hO ?_;simp only[go_sem,Zp,lns];refine vc3 hG ?_;simp only[go_sem,refs];refine Zz (ι:= { x:Nat×(List Fd) // x.1<=(goes).length/\(OkFs x.2/\Sr (goes.drop x.1) x.2=G) }) 64 (λx=> [(6,Zp come),(8,Zp x.1.2),(33,refs goes),(34,.int .i64 (goes.length:Int)),(35,.int .i64 (x.1.1:Int))]) (λx=> []) (λx=> []) (λx=>(goes).length-x.1.1) ⟨(0,l),Jc _,⟨hl,hGo⟩⟩ ⟨rfl,(Fc5 rfl rfl rfl rfl rfl),fnl,fnl⟩ (λx=>⟨(Fc5 rfl rfl rfl rfl rfl),fnl⟩) (λx=> ?_);obtain⟨⟨k,out⟩,hk,hI⟩:=x;simp only at hk hI ⊢;obtain⟨okO,hI⟩:=hI;have hon:=okO.n;by_cases h:(k:Int)<(goes.length:Int)
 (have hka:k<(goes).length:=by omega);(have w1:=Vt hka (hgl));(have i1:=Jf k)
 have hW:=ZcR out (goes.getD k Jd) (by omega) okO.c;have okW:=ZdA okO (goes.getD k Jd);rw[VU hka (d:=Jd),Sr]at hI;generalize YZ out (goes.getD k Jd)=w at *;obtain⟨w,c⟩:=w;simp only at hI okW;by_cases hc:c=0
 ·subst hc;simp only[ne_eq,not_true_eq_false,if_false]at hI;simp only[go_sem,refs,h,i1,Xw hka,ref];refine vc2 hW ?_;simp only[go_sem,YJ,Zp,w1];exact⟨⟨(k+1,w),by(try simp only);omega,⟨okW,hI⟩⟩,by show(goes).length-(k+1)<(goes).length-k;omega,⟨rfl,(Fc5 rfl rfl rfl rfl rfl),fnl,fnl⟩⟩
 have hc':(c !=0)=true:=bne_iff_ne.2 hc;simp only[ne_eq,hc,not_false_eq_true,if_true]at hI;subst hI;simp only[go_sem,refs,h,i1,Xw hka,ref];refine vc2 hW ?_;simp only[go_sem,YJ,Zp,hc',Option.bind_none];obtain rfl:k=goes.length:=by omega
 rw[Kh,Sr]at hI;subst hI;have hcl:come.length<=maxLen:=by have:=okA.n;rw[Zd];omega
 simp only[go_sem,h,Zp];refine Zz (ι:= { x:Nat×(List Fd) // x.1<=(come).length/\(OkFs x.2/\XU (come.drop x.1) x.2=XU come out) }) 64 (λx=> [(8,Zp x.1.2),(48,Zp come),(49,.int .i64 (come.length:Int)),(50,.int .i64 (x.1.1:Int))]) (λx=> []) (λx=> []) (λx=>(come).length-x.1.1) ⟨(0,out),Jc _,⟨okO,rfl⟩⟩ ⟨rfl,(Fc4 rfl rfl rfl rfl),fnl,fnl⟩ (λx=>⟨(Fc4 rfl rfl rfl rfl),fnl⟩) (λx=> ?_);obtain⟨⟨kb,o2⟩,hkb,hIb⟩:=x;simp only at hkb hIb ⊢;obtain⟨ok2,hIb⟩:=hIb;have hon2:=ok2.n;by_cases hb:(kb:Int)<(come.length:Int)
 (have hkab:kb<(come).length:=by omega);(have w1b:=Vt hkab (hcl));(have i1b:=Jf kb)
 have hcf:=okA.c _ (Zy hkab (d:=Jd));have hW:=ZiR o2 (come.getD kb Jd) (by omega) ok2.c hcf;have okW:=ZnK ok2 hcf;rw[VU hkab (d:=Jd),XU]at hIb;generalize SX o2 (come.getD kb Jd)=w at *;obtain⟨w,c⟩:=w;simp only at hIb okW;by_cases hc:c=0
 ·subst hc;simp only[ne_eq,not_true_eq_false,if_false]at hIb;simp only[go_sem,Zp,hb,i1b,ZX hkab,fld];refine vc2 hW ?_;simp only[go_sem,YJ,Zp,w1b];exact⟨⟨(kb+1,w),by(try simp only);omega,⟨okW,hIb⟩⟩,by show(come).length-(kb+1)<(come).length-kb;omega,⟨rfl,(Fc4 rfl rfl rfl rfl),fnl,fnl⟩⟩
 have hc':(c !=0)=true:=bne_iff_ne.2 hc;simp only[ne_eq,hc,not_false_eq_true,if_true]at hIb;simp only[go_sem,Zp,hb,i1b,ZX hkab,fld];refine vc2 hW ?_;simp only[go_sem,YJ,Zp,hc',<-hIb,JU];obtain rfl:kb=come.length:=by omega
 rw[Kh,XU]at hIb;simp only[go_sem,Zp,hb,<-hIb,YJ,JU]
open Go.PL
def ZqG (fo ba:List Pr) (p:Pr):Bool:=(X4 fo p.fr').2&&((X4 ba (X4 fo p.fr').1).2&&((X4 ba (X4 fo p.fr').1).1==p.fr'))
def ZqF (fo ba:List Pr):Bool:=fo.all (ZqG fo ba)
def ZsL (x:Ln) (r:Rf):Bool:=
 if ZA x=Hf then Hf else if idx (λa=>decide (r=a)) (Yx x)<0 then Ht
 else if x.kind=1\/x.kind=4\/x.kind=5\/x.kind=6\/x.kind=7\/x.kind=10 then Ht
 else if x.kind=9 then idx (λa=>decide (r=a)) (Yx x)==0
 else if x.kind=8 then ZqF x.fo x.ba else Hf
theorem Zjz (x:Ln):(Yx x).length<=2:=by
 unfold Yx;split;simp;split;simp;split<;>simp
def ZnU (x:Ln) (r:Rf):Rf×Bool:=
 if ZA x=Hf then(Jd,Hf)else if((Yx x).any λa=>decide (r=a))=Hf then(r,Ht)
 else if(Zq x).length=0 then(Jd,Hf)else((Zq x).getD 0 Jd,Ht)
def Zdn (x:Ln):Ln:=
 if x.kind=1 then⟨1,⟨x.at'.sc,x.at'.gr,x.nm⟩,x.at'.nm,x.ot,x.fac,x.fd,x.fo,x.ba⟩
 else if x.kind=2 then⟨3,x.at',x.nm,x.ot,x.fac,x.fd,x.fo,x.ba⟩
 else if x.kind=3 then⟨2,x.at',x.nm,x.ot,x.fac,x.fd,x.fo,x.ba⟩
 else if x.kind=4 then⟨5,⟨x.at'.sc,[],x.at'.nm⟩,x.at'.gr,x.ot,x.fac,x.fd,x.fo,x.ba⟩
 else if x.kind=5 then⟨4,⟨x.at'.sc,x.nm,x.at'.nm⟩,[],x.ot,x.fac,x.fd,x.fo,x.ba⟩
 else if x.kind=6 then⟨9,x.at',x.nm,x.ot,x.fac,x.fd,x.fo,x.ba⟩
 else if x.kind=9 then⟨6,x.at',x.nm,x.ot,x.fac,x.fd,x.fo,x.ba⟩
 else if x.kind=7 then⟨10,x.at',x.nm,x.ot,x.fac,x.fd,x.fo,x.ba⟩
 else if x.kind=10 then⟨7,x.at',x.nm,x.ot,x.fac,x.fd,x.fo,x.ba⟩
 else if x.kind=8 then⟨8,x.at',x.ot,x.nm,x.fac,x.fd,x.ba,x.fo⟩else x
def lnc (x:Ln×Int):PV:= .tup [lns x.1,.int .i64 x.2]
theorem SA (x:Ln×Int):(lnc x).dids= []:=by simp only[lnc,JB,Jr,Dr,Ja]
def Zr3 (x:Ln):Ln×Int:=if ZA x=Hf then(Jd,5)else(Zdn x,0)
theorem ZcB (x:Ln) (hx:OkLn x):Pp 268 [lns x] (lnc (Zr3 x)):=by
 have hR:=X9 x hx;have hO:=DC x hx;unfold Zr3;cases hlr:ZA x;rw[hlr]at hR;refine ZM func268 rfl ntmps268 results268 (SA _) ?_;simp only[go_sem,lns];refine vc3 hR ?_;simp only[go_sem,if_true,lnc,Fh];rw[hlr]at hR;refine ZM func268 rfl ntmps268 results268 (SA _) ?_;simp only[go_sem,lns];refine vc3 hR ?_;simp only[go_sem,lns];refine vc3 hO ?_;simp only[go_sem,lns];repeat' ((first|(first|apply Zl|apply Zj|apply Zs)<;>intro h|refine Zg2 [(1,4)] (by kernel_rfl) (by kernel_rfl) (by exact rfl) ?_|refine vDq ?_)<;>first|simp only[go_sem,h]|simp only[go_sem]|skip)
 all_goals (simp only[beq_iff_eq,beq_eq_false_iff_ne,ne_eq]at *;clear hR hO hx;simp[Zdn,lnc,lns, *])
def SE (l:List Rf) (r:Rf):Int:=idx (λa=>decide (r=a)) l
open Go.PL
theorem Gd (l:List Fd) (r:Rf):(idx (atF r) l= -1/\ ∀g∈l,g.at'≠r)\/ ∃i:Nat,∃h:i<l.length,idx (atF r) l=(i:Int)/\(l[i]).at'=r:=by
 unfold idx;cases hf:l.findIdx? (atF r)with
 |none=>
  left;refine⟨rfl,λg hg e=> ?_⟩;rw[JE]at hf;have:=hf g hg;simp[atF,e]at this
 |some i=>
  right;rw[Jm]at hf;obtain⟨h1,h2,_⟩:=hf;exact⟨i,h1,rfl,by simpa[atF]using h2⟩
theorem VB {l:List Fd} (h:Zlo l) {f:Fd} (hf:f∈l):ZC l f.at'=(f,0):=by
 unfold ZC;rcases Gd l f.at' with ⟨_,h2⟩|⟨i,hi,h1,h2⟩;exact absurd rfl (h2 f hf);rw[h1,if_neg (by omega)];simp only[JO];rw[getD_lt hi];rw[Zfv h (Ji hi) hf h2]
theorem Zjq {l:List Fd} {r:Rf} (h:(ZC l r).2=0):(ZC l r).1∈l/\(ZC l r).1.at'=r:=by
 unfold ZC at *;rcases Gd l r with ⟨h1,_⟩|⟨i,hi,h1,h2⟩;rw[h1]at h;simp at h;rw[h1,if_neg (by omega)];simp only[JO];rw[getD_lt hi];exact⟨Ji hi,h2⟩
theorem Zn2 {l:List Fd} {r:Rf} (h:(YZ l r).2=0):Yj l=Ht/\(∃f∈l,f.at'=r)/\Yj (YZ l r).1=Ht/\(∀g,g∈(YZ l r).1↔g∈l/\g.at'≠r)/\(YZ l r).1.length+1=l.length:=by
 unfold YZ at *;cases hr:Yj l with
 |false=>rw[hr]at h;simp at h
 |true=>
  rcases Gd l r with ⟨h1,_⟩|⟨i,hi,h1,h2⟩
  ·rw[hr,h1]at h;simp at h
  ·simp only[h1,Jb,if_false,show ¬(i:Int)<0 by omega,JO];obtain⟨k1,k2,k3⟩:=Xq.1 hr;have hsub:(l.eraseIdx i).Sublist l:=List.eraseIdx_sublist _ _;have hlen:(l.eraseIdx i).length+1=l.length:=by rw[List.length_eraseIdx_of_lt hi];omega
   refine⟨trivial,⟨_,Ji hi,h2⟩,Xq.2 ⟨by omega,List.Pairwise.sublist hsub k2,λf hf=>k3 f (hsub.mem hf)⟩,λg=> ?_,hlen⟩;rw[List.mem_eraseIdx_iff_getElem];constructor
   ·rintro ⟨j,hj,hne,rfl⟩
    refine⟨Ji hj,λe=> ?_⟩;have e2:=Zfv k2 (Ji hj) (Ji hi) (e.trans h2.symm);rcases JP j i with q|q|q
    ·have:=Jk.1 k2 j i hj hi q;rw[e2,Vg]at this;cases this
    ·exact hne q
    ·have:=Jk.1 k2 i j hi hj q;rw[e2,Vg]at this;cases this
   ·rintro ⟨hg,hne⟩
    obtain⟨j,hj,rfl⟩:=Jt hg;exact⟨j,hj,λe=>hne (by subst e;exact h2),rfl⟩
theorem ZrZ {l:List Fd} {r:Rf} (hr:Yj l=Ht) (h:∃f∈l,f.at'=r):(YZ l r).2=0:=by
 obtain⟨f,hf,e⟩:=h;unfold YZ;rcases Gd l r with ⟨_,h2⟩|⟨i,hi,h1,h2⟩;exact absurd e (h2 f hf);simp[hr,h1,show ¬(i:Int)<0 by omega]
theorem Ze9 (l:List Fd) (f g:Fd):g∈Zdm l f↔g∈l\/g=f:=by
 unfold Zdm;have:=List.takeWhile_append_dropWhile (p:=ZhU f.at') (l:=l);constructor;intro h;rcases Jp.1 h with h|h;exact .inl (by rw[<-this];exact J4 _ h);rcases JA.1 h with h|h;exact .inr h;exact .inl (by rw[<-this];exact JH _ h);rintro (h|h);rw[<-this]at h;rcases Jp.1 h with h|h;exact J4 _ h;exact JH _ (List.mem_cons_of_mem _ h);exact JH _ (by simp[h])
theorem Zgu:∀ {l:List Fd} {f:Fd},Zlo l->(∀g∈l,g.at'≠f.at')->Zlo (Zdm l f)
 | [],f,_,_=>List.pairwise_singleton _ _
 |a::l,f,h,hn=>by
  obtain⟨p,q⟩:=JL.1 h;cases hb:Vh a.at' f.at' with
  |true=>
   rw[Zqh hb];refine JL.2 ⟨λx hx=> ?_,Zgu q (λg hg=>hn g (by simp[hg]))⟩;rcases(Ze9 l f x).1 hx with hx|hx
   ·exact p x hx
   ·rw[hx];exact hb
  |false=>
   rw[Zqg hb];have hfa:Vh f.at' a.at'=true:=by
    rcases Zms a.at' f.at' with h1|h1|h1
    ·rw[hb]at h1;cases h1
    ·exact absurd h1 (hn a (by simp))
    ·exact h1
   refine JL.2 ⟨λx hx=> ?_,h⟩;rcases JA.1 hx with rfl|hx
   ·exact hfa
   ·exact ZbR hfa (p x hx)
theorem Zn1 {l:List Fd} {f:Fd} (h:(SX l f).2=0):Yj l=Ht/\Yi f=Ht/\(∀g∈l,g.at'≠f.at')/\Yj (SX l f).1=Ht/\(∀g,g∈(SX l f).1↔g∈l\/g=f)/\(SX l f).1.length=l.length+1:=by
 unfold SX at *;cases hr:Yj l with
 |false=>rw[hr]at h;simp at h
 |true=>
  cases hf:Yi f with
  |false=>rw[hr,hf]at h;simp at h
  |true=>
   rcases Gd l f.at' with ⟨h1,h2⟩|⟨i,hi,h1,h2⟩
   ·by_cases hl:16<=(l.length:Int)
    ·rw[hr,hf,h1]at h;simp[hl]at h
    ·simp only[h1,Jb,or_self,if_false,hl,show ¬(0:Int)<= -1 by omega];obtain⟨k1,k2,k3⟩:=Xq.1 hr;have hil:=ZbP l f;refine⟨trivial,trivial,h2,Xq.2 ⟨by omega,Zgu k2 h2,λg hg=> ?_⟩,λg=>Ze9 l f g,hil⟩;rcases(Ze9 l f g).1 hg with hg|hg
     ·exact k3 g hg
     ·rw[hg];exact hf
   ·rw[hr,hf,h1]at h;simp at h
theorem ZrY {l:List Fd} {f:Fd} (hr:Yj l=Ht) (hf:Yi f=Ht) (hn:∀g∈l,g.at'≠f.at') (hl:l.length<16):(SX l f).2=0:=by
 unfold SX;rcases Gd l f.at' with ⟨h1,h2⟩|⟨i,hi,h1,h2⟩;simp[hr,hf,h1,show ¬16<=(l.length:Int)by omega];exact absurd h2 (hn _ (Ji hi))
theorem Zgl:∀ {rs:List Rf} {l m:List Fd},Yj l=Ht->Sr rs l=Hs m->Yj m=Ht/\(∀g,g∈m↔g∈l/\g.at'∉rs)/\(∀r∈rs,∃f∈l,f.at'=r)/\rs.Nodup/\m.length+rs.length=l.length
 | [],l,m,hr,h=>by cases h;exact⟨hr,by simp,by simp,by simp,by simp⟩
 |r::rs,l,m,hr,h=>by
  unfold Sr at h;split at h;cases h;rename_i hz;obtain⟨a1,a2,a3,a4,a5⟩:=Zn2 (by simpa using hz);obtain⟨b1,b2,b3,b4,b5⟩:=Zgl a3 h;refine⟨b1,λg=> ?_,λq hq=> ?_,JF.2 ⟨λhin=> ?_,b4⟩,by simp only[JD];omega⟩;rw[b2,a4];simp only[JA,not_or];exact⟨λh=>⟨h.1.1,h.1.2,h.2⟩,λh=>⟨⟨h.1,h.2.1⟩,h.2.2⟩⟩;rcases JA.1 hq with rfl|hq;exact a2;obtain⟨f,hf,e⟩:=b3 q hq;exact⟨f,((a4 f).1 hf).1,e⟩;obtain⟨f,hf,e⟩:=b3 r hin;exact((a4 f).1 hf).2 e
theorem ZnA:∀ {rs:List Rf} {l:List Fd},Yj l=Ht->rs.Nodup->(∀r∈rs,∃f∈l,f.at'=r)-> ∃m,Sr rs l=Hs m
 | [],l,_,_,_=>⟨l,rfl⟩
 |r::rs,l,hr,hn,h=>by
  rw[JF]at hn;have hz:=ZrZ hr (h r (by simp));obtain⟨a1,a2,a3,a4,a5⟩:=Zn2 hz;obtain⟨m,hm⟩:=ZnA (rs:=rs) a3 hn.2 (λq hq=>by
   obtain⟨f,hf,e⟩:=h q (by simp[hq]);exact⟨f,(a4 f).2 ⟨hf,λe2=>hn.1 (by rw[<-e2,e];exact hq)⟩,e⟩)
  exact⟨m,by unfold Sr;rw[if_neg (by simp[hz])];exact hm⟩
theorem Dk:∀ {fs l m:List Fd},Yj l=Ht->XU fs l=Hs m->Yj m=Ht/\(∀g,g∈m↔g∈l\/g∈fs)/\(∀f∈fs,Yi f=Ht/\ ∀g∈l,g.at'≠f.at')/\(fs.map (·.at')).Nodup/\m.length=l.length+fs.length
 | [],l,m,hr,h=>by cases h;exact⟨hr,by simp,by simp,by simp,by simp⟩
 |f::fs,l,m,hr,h=>by
  unfold XU at h;split at h;cases h;rename_i hz;obtain⟨a1,a2,a3,a4,a5,a6⟩:=Zn1 (by simpa using hz);obtain⟨b1,b2,b3,b4,b5⟩:=Dk a4 h;refine⟨b1,λg=> ?_,λq hq=> ?_,?_,by simp only[JD];omega⟩;rw[b2,a5,JA,or_assoc];rcases JA.1 hq with rfl|hq;exact⟨a2,a3⟩;exact⟨(b3 q hq).1,λg hg=>(b3 q hq).2 g ((a5 g).2 (.inl hg))⟩;rw[Jn,JF];refine⟨λhin=> ?_,b4⟩;obtain⟨q,hq,e⟩:=Je.1 hin;exact(b3 q hq).2 f ((a5 f).2 (.inr rfl)) e.symm
theorem Zf7:∀ {fs l:List Fd},Yj l=Ht->(∀f∈fs,Yi f=Ht)->(∀f∈fs,∀g∈l,g.at'≠f.at')->(fs.map (·.at')).Nodup->l.length+fs.length<=16-> ∃m,XU fs l=Hs m
 | [],l,_,_,_,_,_=>⟨l,rfl⟩
 |f::fs,l,hr,hf,hp,hn,hl=>by
  rw[Jn,JF]at hn;simp only[JD]at hl;have hz:=ZrY hr (hf f (by simp)) (hp f (by simp)) (by omega);obtain⟨a1,a2,a3,a4,a5,a6⟩:=Zn1 hz;obtain⟨m,hm⟩:=Zf7 (fs:=fs) a4 (λq hq=>hf q (by simp[hq])) (λq hq g hg e=>by
   rcases(a5 g).1 hg with hg|hg;exact hp q (by simp[hq]) g hg e;exact hn.1 (Je.2 ⟨q,hq,by rw[<-e,hg]⟩)) hn.2 (by omega)
  exact⟨m,by unfold XU;rw[if_neg (by simp[hz])];exact hm⟩
theorem DK {l m:List Fd} {x:Ln} (h:YQ l x=(m,0)):Yj l=Ht/\ZA x=Ht/\ ∃cs l1,Gc l x=(cs,Ht)/\Sr (Yx x) l=Hs l1/\XU cs l1=Hs m:=by
 unfold YQ at h;split at h;simp at h;rename_i hh;simp only[not_or,Bool.not_eq_false]at hh;refine⟨hh.1,hh.2,?_⟩;split at h;simp at h;rename_i k hk;simp only[JQ.injEq,and_true]at h;subst h;unfold ZaA at hk;split at hk;cases hk;rename_i ha;obtain⟨l1,h1,h2⟩:=JV.1 hk;refine⟨(Gc l x).1,l1,?_,h1,h2⟩;have:(Gc l x).2=true:=by simpa using ha
 rw[<-this]
theorem UU {l l1 m cs gs:List Fd} {x y:Ln} (hl:Yj l=Ht) (h1:Sr (Yx x) l=Hs l1) (h2:XU cs l1=Hs m) (hy:ZA y=Ht) (k1:Yx y=cs.map (·.at')) (k2:Gc m y=(gs,Ht)) (k3:∀g∈gs,g∈l) (k4:gs.map (·.at')=Yx x):YQ m y=(l,0):=by
 obtain⟨a1,a2,a3,a4,a5⟩:=Zgl hl h1;obtain⟨b1,b2,b3,b4,b5⟩:=Dk a1 h2;obtain⟨r1,r2,r3⟩:=Xq.1 hl;obtain⟨m1,hm1⟩:=ZnA (rs:=cs.map (·.at')) b1 b4 (λr hr=>by
  obtain⟨f,hf,e⟩:=Je.1 hr;exact⟨f,(b2 f).2 (.inr hf),e⟩)
 obtain⟨c1,c2,c3,c4,c5⟩:=Zgl b1 hm1;have e1:m1=l1:=Zb3 (Xq.1 c1).2.1 (Xq.1 a1).2.1 λf=>by
  rw[c2,b2];constructor;rintro ⟨hf|hf,hn⟩;exact hf;exact absurd (Je.2 ⟨f,hf,rfl⟩) hn;intro hf;refine⟨.inl hf,λhin=> ?_⟩;obtain⟨q,hq,e⟩:=Je.1 hin;exact(b3 q hq).2 f hf e.symm
 subst e1;have hgl:gs.length=(Yx x).length:=by rw[<-k4];simp
 obtain⟨l2,hl2⟩:=Zf7 (fs:=gs) a1 (λf hf=>r3 f (k3 f hf)) (λf hf g hg e=>((a2 g).1 hg).2 (by rw[e,<-k4];exact Je.2 ⟨f,hf,rfl⟩)) (by rw[k4];exact a4) (by omega);obtain⟨d1,d2,d3,d4,d5⟩:=Dk a1 hl2;have e2:l2=l:=Zb3 (Xq.1 d1).2.1 r2 λf=>by
  rw[d2,a2];constructor;rintro (hf|hf);exact hf.1;exact k3 f hf;intro hf;by_cases hin:f.at'∈Yx x;right;rw[<-k4]at hin;obtain⟨q,hq,e⟩:=Je.1 hin;rw[<-Zfv r2 (k3 q hq) hf e];exact hq;exact .inl ⟨hf,hin⟩
 subst e2;unfold YQ;rw[if_neg (by simp[b1,hy])];have:ZaA m y=Hs l2:=by
  unfold ZaA;rw[k2,if_neg (by simp),k1,hm1];exact hl2
 rw[this]
open Go.PL
def Y8 (m:List Eg) (id:Tg):Option Eg:=m.find? λe=>decide (id=e.id)
theorem Xv {m:List Eg} {id:Tg} {e:Eg} (h:Y8 m id=Hs e):id=e.id/\e∈m:=by
 unfold Y8 at h;exact⟨by simpa using List.find?_some h,Jz h⟩
inductive Way (m:List Eg):Tg->List Eg->Prop
 |root:Way m Jd []
 |step {id:Tg} {e:Eg} {w:List Eg} (hn:id≠Jd) (he:Y8 m id=Hs e) (hw:Way m e.par w):Way m id (w++ [e])
theorem Way.fn {m:List Eg} {id:Tg} {w w':List Eg} (h:Way m id w) (h':Way m id w'):w=w':=by
 induction h generalizing w' with
 |root=>cases h' with
  |root=>rfl
  |step hn he hw=>exact absurd rfl hn
 |step hn he hw ih=>
  cases h' with
  |root=>exact absurd rfl hn
  |step hn' he' hw'=>
   rw[he]at he';cases he';rw[ih hw']
theorem Way.mem {m:List Eg} {id:Tg} {w:List Eg} (h:Way m id w):∀e∈w,e∈m:=by
 induction h with
 |root=>intro e he;cases he
 |step hn he hw ih=>
  intro x hx;rcases Jp.1 hx with hx|hx;exact ih x hx;rw[Ju.1 hx];exact(Xv he).2
theorem Way.take {m:List Eg} {id:Tg} {w:List Eg} (h:Way m id w):∀k (hk:k<w.length),Way m (w[k]).id (w.take (k+1)):=by
 induction h with
 |root=>intro k hk;simp at hk
 |step hn he hw ih=>
  rename_i id e w;intro k hk;by_cases hlt:k<w.length;rw[JS hlt,JI (by omega)];exact ih k hlt;have hk':k=w.length:=by simp at hk;omega
  subst hk';have e1:(w++ [e])[w.length]'hk=e:=by simp
  rw[e1,Jo (by simp)];have:=(Xv he).1;rw[<-this];exact .step hn he hw
theorem Way.nodup {m:List Eg} {id:Tg} {w:List Eg} (h:Way m id w):w.Nodup:=by
 rw[Jv,Jk];intro i j hi hj hij e;have h1:=h.take i hi;have h2:=h.take j hj;rw[e]at h1;have:=congrArg Ku (h1.fn h2);simp at this;omega
theorem ZbV {α:Type} [DecidableEq α]:∀ {l m:List α},l.Nodup->(∀x∈l,x∈m)->l.length<=m.length
 | [],_,_,_=>Jc _
 |a::l,m,hn,hs=>by
  rw[JF]at hn;have ha:a∈m:=hs a (by simp);have:=ZbV (l:=l) (m:=m.erase a) hn.2 (λx hx=>(List.mem_erase_of_ne (λe:x=a=>hn.1 (e▸hx))).2 (hs x (by simp[hx])));rw[List.length_erase_of_mem ha]at this;have:0<m.length:=List.length_pos_of_mem ha;simp only[JD];omega
theorem Way.len {m:List Eg} {id:Tg} {w:List Eg} (h:Way m id w):w.length<=m.length:=ZbV h.nodup h.mem
def Zn0 (m:List Eg):Nat->Tg->List Eg->Option (List Eg)
 |0,_,_=>none
 |k+1,id,way=>if id=Jd then Hs way else match Y8 m id with
  |none=>none
  |some e=>Zn0 m k e.par (e::way)
def ZiC (m:List Eg) (id:Tg):Option (List Eg):=Zn0 m (m.length+1) id []
theorem Zbn {m:List Eg}:∀ {k:Nat} {id:Tg} {acc r:List Eg},Zn0 m k id acc=Hs r-> ∃w,Way m id w/\r=w++acc
 |0,_,_,_,h=>by cases h
 |k+1,id,acc,r,h=>by
  unfold Zn0 at h;split at h;rename_i hd;cases h;exact⟨[],hd▸ .root,rfl⟩;rename_i hd;split at h;cases h;rename_i e he;obtain⟨w,h1,h2⟩:=Zbn h;exact⟨w++ [e],.step hd he h1,by rw[h2];simp⟩
theorem Zlh {m:List Eg} {id:Tg} {w:List Eg} (h:Way m id w):∀ {k:Nat} (acc:List Eg),w.length<k->Zn0 m k id acc=Hs (w++acc):=by
 induction h with
 |root=>intro k acc hk;cases k with
  |zero=>simp at hk
  |succ k=>simp[Zn0]
 |step hn he hw ih=>
  intro k acc hk;cases k with
  |zero=>simp at hk
  |succ k=>
   simp only[JC,JD,List.length_nil]at hk;simp only[Zn0,if_neg hn,he];rw[ih _ (by omega)];simp
theorem Wk {m:List Eg} {id:Tg} {w:List Eg}:ZiC m id=Hs w↔Way m id w:=by
 constructor;intro h;obtain⟨w',h1,h2⟩:=Zbn h;rw[h2,Ja];exact h1;intro h;have:=Zlh h (k:=m.length+1) [] (by have:=h.len;omega);simpa[ZiC]using this
def VL:List Eg->List Fd->Option (List Fd)
 | [],fs=>Hs fs
 |e::es,fs=>if(YQ fs e.ln).2≠0 then none else VL es (YQ fs e.ln).1
theorem Zdg (w v:List Eg) (fs:List Fd):VL (w++v) fs=(VL w fs).bind (VL v):=by
 induction w generalizing fs with
 |nil=>rfl
 |cons e w ih=>
  simp only[List.cons_append,VL];split;rfl;exact ih _
def F6 (e:Eg):Option (List Eg)->Nd
 |none=>⟨e,1,[],0⟩
 |some w=>match VL w FA with
  |none=>⟨e,3,[],0⟩
  |some fs=>⟨e,2,fs,w.length⟩
def Z7 (m:List Eg) (e:Eg):Nd:=F6 e (ZiC m e.id)
def Zc (m:List Eg):List Nd:=m.map (Z7 m)
def ZgF (e:Eg):Nd:=⟨e,1,[],0⟩
theorem VE (m:List Eg) (e:Eg):(Z7 m e).e=e:=by
 unfold Z7 F6;split;rfl;split<;>rfl
structure Apart (m:List Eg):Prop where
 d:(m.map (·.id)).Nodup
 n:∀e∈m,e.id≠Jd
theorem Apart.find {m:List Eg} (h:Apart m) {e:Eg} (he:e∈m):Y8 m e.id=Hs e:=by
 obtain⟨l1,l2,rfl⟩:=List.append_of_mem he;have hd:=h.d;simp only[Jq,Jn]at hd;unfold Y8;rw[Ka];have hno:l1.find? (λx=>decide (e.id=x.id))=none:=by
  rw[JM];intro x hx hh;have hx':x.id∈l1.map (·.id):=Je.2 ⟨x,hx,rfl⟩;have:=(JR.1 hd).2.2 _ hx' e.id (by simp);exact this (by simpa using Eq.symm (by simpa using hh))
 rw[hno];simp
def ZeH (m:List Eg) (c:List Nd):Prop:=c.length=m.length/\ ∀i,i<m.length->c.getD i Jd=ZgF (m.getD i Jd)\/(c.getD i Jd=Z7 m (m.getD i Jd)/\(c.getD i Jd).st≠1)
theorem V1 {m:List Eg} {e:Eg}:(Z7 m e).st=1↔ZiC m e.id=none:=by
 unfold Z7 F6;split;rename_i h;simp[h];rename_i w h;constructor;intro hh;split at hh<;>cases hh
 intro hh;rw[h]at hh;cases hh
theorem TZ {m:List Eg} {e:Eg} (h:ZiC m e.id=none):Z7 m e=ZgF e:=by simp[Z7,F6,h,ZgF]
theorem ZoG (e:Eg):(ZgF e).st=1:=rfl
theorem Zbb {m:List Eg} {c:List Nd} (h:ZeH m c) {i:Nat} (hi:i<m.length):(c.getD i Jd).e=m.getD i Jd:=by
 rcases h.2 i hi with h|⟨h,_⟩;rw[h];rfl;rw[h,VE]
theorem Zb5 {m:List Eg} {c:List Nd} (h:ZeH m c):c.map (·.e)=m:=by
 apply Ki;simp[h.1];intro i h1 h2;have:=Zbb h h2;rw[getD_lt (by have:=h.1;omega),getD_lt h2]at this;simpa using this
theorem Zdd {m:List Eg} {c:List Nd} (h:ZeH m c) (id:Tg):(Gm c id).map (·.e)=Y8 m id:=by
 rw[<-Zb5 h];unfold Gm Y8;rw[Km];rfl
theorem ZgB {m:List Eg} {c:List Nd} (h:ZeH m c) {n:Nd} (hn:n∈c):n.e∈m/\(n=ZgF n.e\/(n=Z7 m n.e/\n.st≠1)):=by
 obtain⟨i,hi,rfl⟩:=Jt hn;have hi':i<m.length:=by have:=h.1;omega
 have e:=Zbb h hi';have k:=h.2 i hi';rw[getD_lt hi]at e k;rw[e];exact⟨Ze hi',k⟩
def Uk (e:Eg) (up:Nd):Nd:=if up.st=2/\(YQ up.sch e.ln).2=0 then⟨e,2,(YQ up.sch e.ln).1,up.dep+1⟩else⟨e,3,[],0⟩
theorem Zfl {m:List Eg} {e:Eg} {w:List Eg} (ha:Apart m) (he:e∈m) (hw:Way m e.par w):Z7 m e=match VL w FA with
  |none=>⟨e,3,[],0⟩
  |some fs=>Uk e ⟨Jd,2,fs,w.length⟩:=by
 have h1:Way m e.id (w++ [e]):= .step (ha.n e he) (ha.find he) hw;have h2:=Wk.2 h1;unfold Z7 F6;rw[h2];simp only[Zdg];cases hf:VL w FA with
 |none=>rfl
 |some fs=>
  simp only[JU,VL,Uk]
  by_cases hz:(YQ fs e.ln).2=0
  ·simp[hz]
  ·simp[hz]
theorem ZkB {m:List Eg} {c:List Nd} (ha:Apart m) (h:ZeH m c) {e:Eg} (he:e∈m) (hu:(atN c e.par).st=2\/(atN c e.par).st=3):Uk e (atN c e.par)=Z7 m e/\(Z7 m e).st≠1:=by
 have key:∃w,Way m e.par w/\Uk e (atN c e.par)=(match VL w FA with|none=>⟨e,3,[],0⟩|some fs=>Uk e ⟨Jd,2,fs,w.length⟩):=by
  unfold atN at hu ⊢;by_cases hp:e.par=Jd;rw[if_pos hp];exact⟨[],hp▸ .root,by simp[VL,Uk,Zfw]⟩;rw[if_neg hp]at hu ⊢;cases hf:Gm c e.par with
  |none=>rw[hf]at hu;simp at hu;rcases hu with hu|hu<;>cases hu
  |some n=>
   rw[hf]at hu;simp only[JW]at hu ⊢;have hn:n∈c:=Jz hf;obtain⟨hm,hk⟩:=ZgB h hn;rcases hk with hk|⟨hk,hst⟩
   ·rw[hk]at hu;simp[ZgF]at hu
   ·have hid:e.par=n.e.id:=by
     have:=Zdd h e.par;rw[hf]at this;exact(Xv this.symm).1
    cases hw:ZiC m n.e.id with
    |none=>rw[hk]at hst;exact absurd (V1.2 hw) hst
    |some w=>
     refine⟨w,by rw[hid];exact Wk.1 hw,?_⟩;have hnw:n=F6 n.e (Hs w):=by rw[<-hw];exact hk
     unfold F6 at hnw;cases hfa:VL w FA with
     |none=>
      simp only[hfa]at hnw;rw[hnw];simp[Uk]
     |some fs=>
      simp only[hfa]at hnw;rw[hnw];simp[Uk]
 obtain⟨w,hw,hk⟩:=key;refine⟨by rw[hk,Zfl ha he hw],λhh=> ?_⟩;have:=V1.1 hh;have h2:=Wk.2 (Way.step (ha.n e he) (ha.find he) hw);rw[this]at h2;cases h2
theorem ZkA {m:List Eg} {c:List Nd} (ha:Apart m) (h:ZeH m c) (hd:∀i,i<m.length->(c.getD i Jd).st≠1\/((atN c (m.getD i Jd).par).st≠2/\(atN c (m.getD i Jd).par).st≠3)):c=Zc m:=by
 have hs:∀ {id w},Way m id w-> ∀e,Y8 m id=Hs e->id≠Jd->Z7 m e∈c:=by
  intro id w hw;induction hw with
  |root=>intro e _ hn;exact absurd rfl hn
  |step hn he hw ih=>
   rename_i id e w;intro e' he' _;rw[he]at he';cases he';obtain⟨hid,hem⟩:=Xv he;obtain⟨i,hi,rfl⟩:=Jt hem;have hic:i<c.length:=by have:=h.1;omega
   rcases h.2 i hi with hk|⟨hk,_⟩;exfalso;rcases hd i hi with h1|⟨h1,h2⟩;rw[hk]at h1;exact h1 rfl;rw[getD_lt hi]at h1 h2;by_cases hp:(m[i]).par=Jd;simp[atN,hp,Zfw]at h1;cases hfe:Y8 m (m[i]).par with
   |none=>
    generalize (m[i]).par=p at *;cases hw with
    |root=>exact hp rfl
    |step _ hq _=>rw[hfe]at hq;cases hq
   |some q=>
    have hq:=ih q hfe hp;obtain⟨hqid,hqm⟩:=Xv hfe;have hfn:Gm c (m[i]).par=Hs (Z7 m q):=by
     have h3:=Zdd h (m[i]).par;rw[hfe]at h3;cases hx:Gm c (m[i]).par with
     |none=>rw[hx]at h3;cases h3
     |some n=>
      rw[hx]at h3;simp only[JK,Kj.injEq]at h3;have hn:n∈c:=Jz hx;have hcd:(c.map (·.e.id)).Nodup:=by
       have:=Zb5 h;have h4:=ha.d;rw[<-this,Kc]at h4;exact h4
      congr 1;obtain⟨a1,b1,ha1⟩:=Jt hn;obtain⟨a2,b2,ha2⟩:=Jt hq;have hee:n.e.id=(Z7 m q).e.id:=by rw[VE,h3]
      have:a1=a2:=by
       rw[Jv,Jk]at hcd;rcases JP a1 a2 with hlt|heq|hlt
       ·exact absurd (show(c.map (·.e.id))[a1]'(by simpa using b1)=(c.map (·.e.id))[a2]'(by simpa using b2)by rw[Jg,Jg,ha1,ha2];exact hee) (hcd a1 a2 (by simpa using b1) (by simpa using b2) hlt)
       ·exact heq
       ·exact absurd (show(c.map (·.e.id))[a2]'(by simpa using b2)=(c.map (·.e.id))[a1]'(by simpa using b1)by rw[Jg,Jg,ha1,ha2];exact hee.symm) (hcd a2 a1 (by simpa using b2) (by simpa using b1) hlt)
      subst this;rw[<-ha1,<-ha2]
    have hst:(Z7 m q).st≠1:=λhh=>by
     have:=V1.1 hh;rw[<-hqid]at this;rw[Wk.2 hw]at this;cases this
    have hst2:(Z7 m q).st=2\/(Z7 m q).st=3:=by
     revert hst;unfold Z7 F6;split;exact λh=>absurd rfl h
     split;exact λ_=> .inr rfl
     exact λ_=> .inl rfl
    have hat:atN c (m[i]).par=Z7 m q:=by simp[atN,hp,hfn]
    rw[hat]at h1 h2;rcases hst2 with h5|h5;exact h1 h5;exact h2 h5
   rw[getD_lt hic,getD_lt hi]at hk;rw[<-hk];exact Ji hic
 apply Ki;simp[Zc,h.1];intro i h1 h2;have hi:i<m.length:=by have:=h.1;omega
 have hk:=h.2 i hi;rw[getD_lt h1,getD_lt hi]at hk;simp only[Zc,Jg];rcases hk with hk|⟨hk,_⟩;rw[hk];cases hw:ZiC m (m[i]).id with
 |none=>exact(TZ hw).symm
 |some w=>
  exfalso;have hem:m[i]∈m:=Ji hi;have hmem:=hs (Wk.1 hw) _ (ha.find hem) (ha.n _ hem);obtain⟨j,hj,hje⟩:=Jt hmem;have hjm:j<m.length:=by have:=h.1;omega
  have h3:=Zbb h hjm;rw[getD_lt hj,getD_lt hjm,hje,VE]at h3;have hij:i=j:=by
   have hd:=ha.d;rw[Jv,Jk]at hd;rcases JP i j with hlt|heq|hlt
   ·exact absurd (show(m.map (·.id))[i]'(by simpa using hi)=(m.map (·.id))[j]'(by simpa using hjm)by rw[Jg,Jg,h3]) (hd i j (by simpa using hi) (by simpa using hjm) hlt)
   ·exact heq
   ·exact absurd (show(m.map (·.id))[j]'(by simpa using hjm)=(m.map (·.id))[i]'(by simpa using hi)by rw[Jg,Jg,h3]) (hd j i (by simpa using hjm) (by simpa using hi) hlt)
  subst hij;rw[hk]at hje;have:=congrArg Nd.st hje;rw[ZoG]at this;have:=V1.1 this.symm;rw[hw]at this;cases this
 exact hk
open Go.PL
theorem Zkc:∀(rs:List Rf) {l m:List Fd},OkFs l->Sr rs l=Hs m->OkFs m
 | [],l,m,h,e=>by cases e;exact h
 |r::rs,l,m,h,e=>by
  unfold Sr at e;split at e;cases e;exact Zkc rs (ZdA h r) e
theorem Zdz:∀(fs:List Fd) {l m:List Fd},(∀f∈fs,f.cases'.length<=1000000)->OkFs l->XU fs l=Hs m->OkFs m
 | [],l,m,_,h,e=>by cases e;exact h
 |f::fs,l,m,hc,h,e=>by
  unfold XU at e;split at e;cases e;exact Zdz fs (λg hg=>hc g (by simp[hg])) (ZnK h (hc f (by simp))) e
theorem Zoy {l:List Fd} {x:Ln} (hl:OkFs l) (hx:OkLn x):OkFs (YQ l x).1:=by
 have o0:OkFs []:=⟨Jc _,λf hf=>by cases hf⟩;unfold YQ;split;exact o0;split;exact o0;rename_i m hm;unfold ZaA at hm;split at hm;cases hm;obtain⟨k,h1,h2⟩:=JV.1 hm;exact Zdz _ (Zqs hl hx).c (Zkc _ hl h1) h2
theorem Zke:OkFs FA:=⟨by decide,by decide⟩
theorem Zkb:∀(w:List Eg) {fs gs:List Fd},(∀e∈w,OkLn e.ln)->OkFs fs->VL w fs=Hs gs->OkFs gs
 | [],fs,gs,_,h,e=>by cases e;exact h
 |e::w,fs,gs,hw,h,he=>by
  unfold VL at he;split at he;cases he;exact Zkb w (λx hx=>hw x (by simp[hx])) (Zoy h (hw e (by simp))) he
theorem Zqv {m:List Eg} (hm:∀e∈m,OkLn e.ln) (e:Eg):OkFs (Z7 m e).sch/\0<=(Z7 m e).dep/\(Z7 m e).dep<=(m.length:Int):=by
 have o0:OkFs []:=⟨Jc _,λf hf=>by cases hf⟩;unfold Z7 F6;split;exact⟨o0,by simp,by simp⟩;rename_i w hw;have h1:=Wk.1 hw;split;exact⟨o0,by simp,by simp⟩;rename_i fs hf;have:=h1.len;exact⟨Zkb w (λx hx=>hm x (h1.mem x hx)) Zke hf,by simp,by simp only;omega⟩
theorem Zqt {m:List Eg} {c:List Nd} (hm:∀e∈m,OkLn e.ln) (h:ZeH m c) (id:Tg):OkFs (atN c id).sch/\0<=(atN c id).dep/\(atN c id).dep<=(m.length:Int):=by
 have o0:OkFs []:=⟨Jc _,λf hf=>by cases hf⟩;unfold atN;split;exact⟨Zke,by simp[Zfw],by simp[Zfw]⟩;cases hf:Gm c id with
 |none=>exact⟨o0,Int.le_refl _,by show(0:Int)<=_;omega⟩
 |some n=>
  simp only[JW];obtain⟨_,hk⟩:=ZgB h (Jz hf);rcases hk with hk|⟨hk,_⟩;rw[hk];exact⟨o0,by simp[ZgF],by simp[ZgF]⟩;rw[hk];exact Zqv hm _
theorem ZmV {m:List Eg} {c:List Nd} (ha:Apart m) (h:ZeH m c) {i:Nat} (hi:i<c.length):(c.findIdx? λn=>decide ((c.getD i Jd).e.id=n.e.id))=Hs i:=by
 rw[Jm];refine⟨hi,by rw[getD_lt hi];simp,λj hj=> ?_⟩;have hd:=ha.d;rw[<-Zb5 h,Kc]at hd;rw[Jv,Jk]at hd;have:=hd j i (by simp;omega) (by simpa using hi) hj;simp only[Jg,Function.comp]at this;rw[getD_lt hi];simp only[decide_eq_true_eq];exact λe=>this e.symm
theorem ZgQ {m:List Eg} {c:List Nd} (ha:Apart m) (h:ZeH m c) {i:Nat} (hi:i<c.length) (hu:(atN c (c.getD i Jd).e.par).st=2\/(atN c (c.getD i Jd).e.par).st=3):ZeH m (c.set i (Uk (c.getD i Jd).e (atN c (c.getD i Jd).e.par))):=by
 have him:i<m.length:=by have:=h.1;omega
 have he:=Zbb h him;rw[he]at hu ⊢;obtain⟨k1,k2⟩:=ZkB ha h (Ze him) hu;rw[k1];refine⟨by simp[h.1],λj hj=> ?_⟩;by_cases e:i=j;subst e;right;have:(c.set i (Z7 m (m.getD i Jd))).getD i Jd=Z7 m (m.getD i Jd):=by
  rw[getD_lt (by simpa using hi)];simp
 rw[this];exact⟨rfl,k2⟩;have:(c.set i (Z7 m (m.getD i Jd))).getD j Jd=c.getD j Jd:=by
  simp only[List.getD_eq_getElem?_getD,List.getElem?_set_ne e]
 rw[this];exact h.2 j hj
def ZmJ (c:List Nd):Nat:=c.countP λn=>decide (n.st=1)
theorem Fr {c:List Nd} {i:Nat} {n:Nd} (hi:i<c.length) (h1:(c.getD i Jd).st=1) (h2:n.st≠1):ZmJ (c.set i n)<ZmJ c:=by
 unfold ZmJ;rw[getD_lt hi]at h1;rw[List.countP_set hi];have:0<c.countP λn=>decide (n.st=1):=List.countP_pos_iff.2 ⟨c[i],Ji hi,by simpa using h1⟩
 simp only[h1,decide_true,if_true,h2,decide_false,Jw,if_false];omega
theorem Zfb (c:List Nd) (i:Nat) (n:Nd) (h:n.e=(c.getD i Jd).e):kts (c.set i n)=kts c:=by
 unfold kts;apply List.ext_getElem?;intro j;simp only[List.getElem?_map,List.getElem?_set];by_cases e:i=j;subst e;by_cases hi:i<c.length;simp[hi,h,getD_lt hi];simp[hi];simp[e]
theorem Zfj (c:List Nd) (i:Nat) (n:Nd):nds (c.set i n)=(nds c).set i (nd n):=by simp[nds,List.map_set]
theorem Zfk (e:Eg) (u:Nd):(Uk e u).e=e:=by unfold Uk;split<;>rfl
theorem ZbT (e:Eg) (u:Nd):(Uk e u).st≠1:=by unfold Uk;split<;>simp
theorem Ff (c:List Nd):(kts c).length=c.length:=by simp[kts]
structure Seen (n:Nat) (p:Nat->Prop) where
 l:List Nat
 d:l.Nodup
 h:∀i∈l,i<n/\p i
def Seen.next {n:Nat} {p:Nat->Prop} (s:Seen n p) (i:Nat) (hi:i<n) (hp:p i) (hn:i∉s.l):Seen n p:=
 ⟨s.l++ [i],by rw[JR];exact⟨s.d,by simp,λa ha b hb=>by simp at hb;subst hb;exact λe=>hn (e▸ha)⟩,λj hj=>by
  rcases Jp.1 hj with hj|hj
  ·exact s.h j hj
  ·simp at hj;subst hj;exact⟨hi,hp⟩⟩
theorem Seen.len {n:Nat} {p:Nat->Prop} (s:Seen n p):s.l.length<=n:=by
 have:=ZbV (m:=List.range n) s.d (λi hi=>List.mem_range.2 (s.h i hi).1);simpa using this
open Go.PL
def ZsH (m:List Eg):Type:= { c:List Nd // ZeH m c }
def ZmZ (c:List Nd) (i:Nat):Prop:=(c.getD i Jd).st≠1\/((atN c (c.getD i Jd).e.par).st≠2/\(atN c (c.getD i Jd).e.par).st≠3)
theorem Zdp (l:List Nat) (i:Nat):(l++ [i]).getLast? = Hs i:=by simp
theorem ZkC {m:List Eg} {c:List Nd} (h:ZeH m c) {i:Nat} (hi:i<m.length) (h1:(c.getD i Jd).st=1):(c.getD i Jd).sch= []/\(c.getD i Jd).dep=0:=by
 rcases h.2 i hi with hk|⟨_,hk⟩;rw[hk];exact⟨rfl,rfl⟩;exact absurd h1 hk
theorem ZkD (m:List Eg) (c0:List Nd) (ha:Apart m) (h0:ZeH m c0) (hm:∀e∈m,OkLn e.ln) (hl:m.length<=1000):PL.Wr prog 82 (λb=> [.rptr [.mref b]]) (mc c0) (.tup []) (mc (Zc m)):=by
 refine PL.Wr.of_v func82 (by decide) rfl ntmps82 results82 (by simp) rfl (λb=> ?_);simp only[go_sem];refine Zpj (ι:=ZsH m) 61 (λx=> [(0,.rptr [.mref b])]) (λx=> []) (λx=> []) (λx=> [(b,mc x.1)]) (λx=> []) (λx=>ZmJ x.1) 0 _ (by exact rfl) (λx=>⟨(fcs rfl fnl),fnl⟩) (λx=> ?_) (λcut=> ?_);obtain⟨c,hc⟩:=x;simp only;have hcl:=hc.1;simp only[go_sem];intro ib;simp only[go_sem,forall_const,mc,Ff];refine ZnW (ι:=Seen c.length (ZmZ c)) 61 (λx=> [(0,.rptr [.mref b]),(11,.iptr ib)]) (λx=> []) (λx=> []) (λx=> [(b,mc c)]) (λx=> [(ib,⟨b,c.length,x.l,none⟩)]) (λx=>c.length-x.l.length) ⟨[],by simp,λi hi=>by cases hi⟩
  ⟨⟨rfl,(Fc2 rfl rfl),fnl,fnl⟩,fcs (by simp[upd,mc]) fnl,fcs (by simp[upd]) fnl⟩ (λx=>⟨(Fc2 rfl rfl),fnl⟩) (λx=> ?_)
 have hsl:=x.len;simp only[go_sem,mc,Ff];refine⟨λhall=> ?_,λi hi hns=> ?_⟩;have hdone:c=Zc m:=ZkA ha hc λi hi=>by
  have:=(x.h i (hall i (by omega))).2;unfold ZmZ at this;rw[Zbb hc hi]at this;exact this
 rw[<-hdone];have him:i<m.length:=by omega
 have hA:=ZiZ c (c.getD i Jd).e.par;obtain⟨ok1,ok2,ok3⟩:=Zqt hm hc (c.getD i Jd).e.par;have hL:=Zg9 (atN c (c.getD i Jd).e.par).sch (c.getD i Jd).e.ln ok1 (by rw[Zbb hc him];exact hm _ (Ze him));have hset:=ZmV ha hc hi;have hwd:IntKind.i64.wrap ((atN c (c.getD i Jd).e.par).dep+1)=(atN c (c.getD i Jd).e.par).dep+1:=w64 (by omega);have hnx:∀(s':St) (j:Seen c.length (ZmZ c)),j.l.length=x.l.length+1->HasO 61 [(0,.rptr [.mref b]),(11,.iptr ib)] [] [] [(b,mc c)] [(ib,⟨b,c.length,j.l,none⟩)] s'->Zn5 61 (λx=> [(0,.rptr [.mref b]),(11,.iptr ib)]) (λx=> []) (λx=> []) (λx=> [(b,mc c)]) (λx=> [(ib,⟨b,c.length,x.l,none⟩)]) (λx:Seen c.length (ZmZ c)=>c.length-x.l.length) x s':=λs' j hj hh=>⟨j,by have:=j.len;show c.length-j.l.length<c.length-x.l.length;omega,hh⟩
 by_cases h1:(c.getD i Jd).st=1;obtain⟨hp1,hp2⟩:=ZkC hc him h1;have e1:((c.getD i Jd).st !=1)=false:=by rw[h1];rfl
 simp only[go_sem,Zdp,D8 hi,Zjw hi,hi,Ff,tg,nd,e1];refine Znl hA (ZmC _) ?_ ?_ ?_;simp only[go_sem];simp only[go_sem,tr,tg,kts,nds];by_cases hs2:(atN c (c.getD i Jd).e.par).st=2;have e2:((atN c (c.getD i Jd).e.par).st !=2)=false:=by rw[hs2];rfl
 have e2':((atN c (c.getD i Jd).e.par).st==2)=true:=by rw[hs2];rfl
 have hsem:=ZgQ ha hc hi (.inl hs2);simp only[go_sem,nd,e2,e2'];refine vc3 hL ?_;simp only[go_sem,YJ,Zp];by_cases hz:(YQ (atN c (c.getD i Jd).e.par).sch (c.getD i Jd).e.ln).2=0;have hnn:Uk (c.getD i Jd).e (atN c (c.getD i Jd).e.par)=⟨(c.getD i Jd).e,2,(YQ (atN c (c.getD i Jd).e.par).sch (c.getD i Jd).e.ln).1,(atN c (c.getD i Jd).e.par).dep+1⟩:=by unfold Uk;rw[if_pos ⟨hs2,hz⟩]
 simp only[go_sem,hz];refine Zg2 [(4,3)] (by kernel_rfl) (by kernel_rfl) (by exact rfl) ?_;simp only[go_sem,hwd];refine vDq ?_;simp only[go_sem,Yd,hset];refine⟨⟨_,hsem⟩,Fr hi h1 (ZbT _ _),⟨⟨rfl,(fcs rfl fnl),fnl,fnl⟩,fcs ?_ fnl,fnl⟩⟩;simp only[Za];rw[Zfb c i _ (Zfk _ _),Zfj,hnn];rfl;have hnn:Uk (c.getD i Jd).e (atN c (c.getD i Jd).e.par)=⟨(c.getD i Jd).e,3,[],0⟩:=by unfold Uk;rw[if_neg (λhh=>hz hh.2)]
 have hzb:((YQ (atN c (c.getD i Jd).e.par).sch (c.getD i Jd).e.ln).2==0)=false:=by simpa using hz
 simp only[go_sem,hzb];refine vDq ?_;simp only[go_sem,Yd,hset];refine⟨⟨_,hsem⟩,Fr hi h1 (ZbT _ _),⟨⟨rfl,(fcs rfl fnl),fnl,fnl⟩,fcs ?_ fnl,fnl⟩⟩;simp only[Za];rw[Zfb c i _ (Zfk _ _),Zfj,hnn];simp only[nd,hp1,hp2];by_cases hs3:(atN c (c.getD i Jd).e.par).st=3;have e2:((atN c (c.getD i Jd).e.par).st !=2)=true:=by rw[hs3];rfl
 have e2':((atN c (c.getD i Jd).e.par).st==2)=false:=by rw[hs3];rfl
 have e3:((atN c (c.getD i Jd).e.par).st !=3)=false:=by rw[hs3];rfl
 have hsem:=ZgQ ha hc hi (.inr hs3);have hnn:Uk (c.getD i Jd).e (atN c (c.getD i Jd).e.par)=⟨(c.getD i Jd).e,3,[],0⟩:=by unfold Uk;rw[if_neg (λhh=>hs2 hh.1)]
 simp only[go_sem,nd,e2,e2',e3];refine vDq ?_;simp only[go_sem,Yd,hset];refine⟨⟨_,hsem⟩,Fr hi h1 (ZbT _ _),⟨⟨rfl,(fcs rfl fnl),fnl,fnl⟩,fcs ?_ fnl,fnl⟩⟩;simp only[Za];rw[Zfb c i _ (Zfk _ _),Zfj,hnn];simp only[nd,hp1,hp2]
 ·have e2:((atN c (c.getD i Jd).e.par).st !=2)=true:=by simpa using hs2
  have e3:((atN c (c.getD i Jd).e.par).st !=3)=true:=by simpa using hs3
  simp only[go_sem,nd,e2,e3];refine hnx _ (x.next i hi (.inr ⟨hs2,hs3⟩) hns) (by simp[Seen.next]) ?_;exact⟨⟨rfl,(Fc2 rfl rfl),fnl,fnl⟩,fcs (by simp[upd,mc]) fnl,fcs (by simp[upd,Seen.next]) fnl⟩
 ·have e1:((c.getD i Jd).st !=1)=true:=by simpa using h1
  simp only[go_sem,Zdp,D8 hi,Zjw hi,hi,Ff,tg,nd,e1];refine hnx _ (x.next i hi (.inl h1) hns) (by simp[Seen.next]) ?_;exact⟨⟨rfl,(Fc2 rfl rfl),fnl,fnl⟩,fcs (by simp[upd,mc]) fnl,fcs (by simp[upd,Seen.next]) fnl⟩
 simp only[go_sem];exact YM (cut ⟨c0,h0⟩ _ ⟨⟨rfl,(fcs rfl fnl),fnl,fnl⟩,fcs (by simp[upd]) fnl,fnl⟩)
open Go.PL
def Zb0 (m:List Eg) (e:Eg):List Eg×Int:=
 if TT e=Hf then(m,5)else match Y8 m e.id with
  |some x=>if x=e then(m,7)else(m,15)
  |none=>if 40<=m.length then(m,9)else(m++ [e],0)
structure OkM (m:List Eg):Prop where
 a:Apart m
 l:∀e∈m,OkLn e.ln
 n:m.length<=40
theorem Gy:OkM []:=⟨⟨by simp,λe h=>(by cases h)⟩,λe h=>(by cases h),by simp⟩
theorem ZoA {m:List Eg} (h:OkM m) {e:Eg} (he:OkLn e.ln):OkM (Zb0 m e).1:=by
 unfold Zb0;split;exact h;rename_i hb;split;split<;>exact h
 rename_i hf;split;exact h;rename_i hn;refine⟨⟨?_,λx hx=> ?_⟩,λx hx=> ?_,by simp;omega⟩;rw[Jq,JR];refine⟨h.a.d,by simp,λa ha b hb'=> ?_⟩;simp only[Jn,List.map_nil,Ju]at hb';subst hb';obtain⟨x,hx,rfl⟩:=Je.1 ha;unfold Y8 at hf;rw[JM]at hf;have:=hf x hx;simp only[decide_eq_true_eq]at this;exact λe1=>this e1.symm
 rcases Jp.1 hx with hx|hx;exact h.a.n x hx;rw[Ju.1 hx];have hb:TT e=true:=by simpa using hb
 simp only[TT,Jh]at hb;exact G4 hb.1;rcases Jp.1 hx with hx|hx;exact h.l x hx;rw[Ju.1 hx];exact he
theorem Zc8 {m:List Eg} {e x:Eg} {id:Tg} (h:Y8 m id=Hs x):Y8 (m++ [e]) id=Hs x:=by
 unfold Y8 at *;rw[Ka,h];rfl
theorem Way.append {m:List Eg} {e:Eg} {id:Tg} {w:List Eg} (h:Way m id w):Way (m++ [e]) id w:=by
 induction h with
 |root=>exact .root
 |step hn he hw ih=>exact .step hn (Zc8 he) ih
theorem ZmW {m:List Eg} (e:Eg):ZeH (m++ [e]) (Zc m++ [ZgF e]):=by
 refine⟨by simp[Zc],λi hi=> ?_⟩;by_cases hl:i<m.length;rw[Zb (by simpa[Zc]using hl),Zb hl];have e1:(Zc m).getD i Jd=Z7 m (m.getD i Jd):=by
  rw[getD_lt (by simpa[Zc]using hl),getD_lt hl];simp[Zc]
 rw[e1];cases hw:ZiC m (m.getD i Jd).id with
 |none=>exact .inl (TZ hw)
 |some w=>
  right;have:ZiC (m++ [e]) (m.getD i Jd).id=Hs w:=Wk.2 (Wk.1 hw).append;refine⟨by simp only[Z7,hw,this],λhh=> ?_⟩;rw[V1.1 hh]at hw;cases hw
 left;have hi':i=m.length:=by simp at hi;omega
 subst hi';rw[Zf (by simp[Zc]),Zf (Nat.le_refl _)];simp[Zc]
theorem ZkX (m:List Eg):ZeH m (Zc m):=by
 refine⟨by simp[Zc],λi hi=> ?_⟩;have e1:(Zc m).getD i Jd=Z7 m (m.getD i Jd):=by
  rw[getD_lt (by simpa[Zc]using hi),getD_lt hi];simp[Zc]
 rw[e1];cases hw:ZiC m (m.getD i Jd).id with
 |none=>exact .inl (TZ hw)
 |some w=>exact .inr ⟨rfl,λhh=>by rw[V1.1 hh]at hw;cases hw⟩
theorem UQ (m:List Eg) (id:Tg):Gm (Zc m) id=(Y8 m id).map (Z7 m):=by
 unfold Gm Y8 Zc;rw[Km];congr 1;congr 1;funext x;simp[VE]
theorem Zgr (m:List Eg) (id:Tg):((Zc m).findIdx? λn=>decide (id=n.e.id))=m.findIdx? λe=>decide (id=e.id):=by
 unfold Zc;rw[List.findIdx?_map];congr 1;funext x;simp[VE]
theorem Znb (m:List Eg):(Zc m).length=m.length:=by simp[Zc]
theorem Zou (m:List Eg) (e:Eg):mc (Zc m++ [ZgF e])=⟨kts (Zc m)++ [tg e.id],nds (Zc m)++ [nd (ZgF e)]⟩:=by simp[mc,kts,nds,ZgF]
theorem ZqC (m:List Eg) (e:Eg) (hm:OkM m) (he:OkLn e.ln):PL.Wr prog 32 (λb=> [.rptr [.mref b],eg e]) (mc (Zc m)) (.int .i64 (Zb0 m e).2) (mc (Zc (Zb0 m e).1)):=by
 have hE:=Zim e he;have hok:=ZoA hm he;unfold Zb0 at hok ⊢;cases hb:TT e;rw[hb]at hE;refine PL.Wr.of_v func32 (by decide) rfl ntmps32 results32 (by simp) rfl (λb=> ?_);simp only[go_sem,eg];refine vc3 hE ?_;simp only[go_sem,if_true];rw[hb]at hE;simp only[hb,Jb,if_false]at hok ⊢;have hidx:=Zgr m e.id;cases hf:m.findIdx? (λx=>decide (e.id=x.id))with
 |some i=>
  rw[hf]at hidx;obtain⟨h1,h2⟩:=UP hidx;rw[UQ]at h2;cases hfe:Y8 m e.id with
  |none=>rw[hfe]at h2;cases h2
  |some x=>
   rw[hfe]at h2;simp only[JK,Kj.injEq]at h2;have hxm:=(Xv hfe).2;have hS:=Zip x e (hm.l x hxm) he;have hgx:((Zc m).getD i Jd).e=x:=by rw[<-h2,VE]
   have hval:(nds (Zc m)).getD i .any=nd (Z7 m x):=by rw[D8 h1,h2]
   have hne:=VE m x;simp only;cases hd:decide (x=e)
   ·rw[hd]at hS;have hx:¬x=e:=by simpa using hd
    simp only[hx,if_false];refine PL.Wr.of_v func32 (by decide) rfl ntmps32 results32 (by simp) rfl (λb=> ?_);simp only[go_sem,eg];refine vc3 hE ?_;simp only[go_sem];refine vDq ?_;simp only[go_sem,mc,Yd,hidx,hval,nd,hne];refine vc3 hS ?_;simp only[go_sem,mc]
   ·rw[hd]at hS;have hx:x=e:=by simpa using hd
    simp only[hx,if_true];refine PL.Wr.of_v func32 (by decide) rfl ntmps32 results32 (by simp) rfl (λb=> ?_);simp only[go_sem,eg];refine vc3 hE ?_;simp only[go_sem];refine vDq ?_;simp only[go_sem,mc,Yd,hidx,hval,nd,hne];refine vc3 hS ?_;simp only[go_sem,mc]
 |none=>
  rw[hf]at hidx;have h2:=UO.1 hidx;rw[UQ]at h2;have hfe:Y8 m e.id=none:=by
   cases hx:Y8 m e.id with
   |none=>rfl
   |some x=>rw[hx]at h2;cases h2
  rw[hfe]at hok ⊢;simp only at hok ⊢;have hkl:(kts (Zc m)).length=m.length:=by rw[Ff,Znb]
  by_cases hn:40<=m.length
  ·have hn':(40:Int)<=(m.length:Int):=by omega
   simp only[hn,if_true];refine PL.Wr.of_v func32 (by decide) rfl ntmps32 results32 (by simp) rfl (λb=> ?_);simp only[go_sem,eg];refine vc3 hE ?_;simp only[go_sem];refine vDq ?_;simp only[go_sem,mc,Yd,hidx,hkl,hn']
  ·have hn':¬(40:Int)<=(m.length:Int):=by omega
   simp only[hn,if_false]at hok ⊢;have hO:=Zea e he;have hW:=ZkD (m++ [e]) (Zc m++ [ZgF e]) hok.a (ZmW e) hok.l (by have:=hok.n;omega);refine PL.Wr.of_v func32 (by decide) rfl ntmps32 results32 (by simp) rfl (λb=> ?_);simp only[go_sem,eg];refine vc3 hE ?_;simp only[go_sem];refine vDq ?_;simp only[go_sem,mc,Yd,hidx,hkl,hn'];refine vDq ?_;simp only[go_sem];refine vc3 hO ?_;simp only[go_sem,eg,mc,Yd,hidx];refine Zg1 b hW ?_ ?_ ?_ ?_
   ·simp only[go_sem]
   ·simp only[go_sem]
   ·rw[Zou];simp[upd,tg,nd,ZgF]
   ·simp only[go_sem,mc]
def Zl9 (x:List Eg×Int):PV:= .tup [egs x.1,.int .i64 x.2]
theorem Zgc (l:List Eg):(egs l).dids= []:=by
 unfold egs;simp only[JB];induction l with
 |nil=>rfl
 |cons e l ih=>simp only[Jn,Jr,ih,ZeX,Ja]
theorem UL (x:List Eg×Int):(Zl9 x).dids= []:=by simp only[Zl9,JB,Jr,Zgc,Ja]
theorem ZmX (l:List Eg):Sized 20 (l.map eg):=λe he=>by
 obtain⟨x,_,rfl⟩:=Je.1 he;rfl
theorem ZlR (l:List Eg):XQ (l.map eg):=λe he=>by
 obtain⟨x,_,rfl⟩:=Je.1 he;rfl
theorem Zmm {m:List Eg} {id:Tg}:(idx (λx=>decide (x.id=id)) m= -1/\Y8 m id=none)\/ ∃i:Nat,i<m.length/\idx (λx=>decide (x.id=id)) m=(i:Int)/\Y8 m id=Hs (m.getD i Jd):=by
 have e:(λx:Eg=>decide (x.id=id))=λx=>decide (id=x.id):=by funext x;simp[eq_comm]
 unfold idx;rw[e];cases hf:m.findIdx? (λx=>decide (id=x.id))with
 |none=>
  left;refine⟨rfl,?_⟩;rw[JE]at hf;unfold Y8;rw[JM];intro x hx hh;rw[hf x hx]at hh;cases hh
 |some i=>
  right;rw[Jm]at hf;obtain⟨h1,h2,h3⟩:=hf;refine⟨i,h1,rfl,?_⟩;unfold Y8;rw[List.find?_eq_some_iff_getElem];exact⟨by rw[getD_lt h1];exact h2,i,h1,(getD_lt h1).symm,λj hj=>by simpa using h3 j hj⟩
theorem ZiN (m:List Eg) (e:Eg) (hm:OkM m) (he:OkLn e.ln):Pp 31 [egs m,eg e] (Zl9 (Zb0 m e)):=by
 have hE:=Zhg e he;have hA:=ZiM m e.id (by rw[Zd];have:=hm.n;omega);unfold Zb0;cases hb:TT e;rw[hb]at hE;refine ZM func31 rfl ntmps31 results31 (UL _) ?_;simp only[go_sem,eg,egs];refine vc3 hE ?_;simp only[go_sem,if_true,Zl9,egs];rw[hb]at hE;simp only[Jb,if_false];rcases Zmm (m:=m) (id:=e.id)with ⟨h1,h2⟩|⟨i,hi,h1,h2⟩;rw[h1]at hA;rw[h2];by_cases hn:40<=m.length;have hn':(39:Int)<(m.length:Int):=by omega
 simp only[hn,if_true];refine ZM func31 rfl ntmps31 results31 (UL _) ?_;simp only[go_sem,eg,egs];refine vc3 hE ?_;simp only[go_sem];refine vc3 hA ?_;simp only[go_sem];refine vDq ?_;simp only[go_sem,hn',Zl9,egs]
 ·have hn':¬(39:Int)<(m.length:Int):=by omega
  simp only[hn,if_false];have hr1:=YV (show m.length<=1000000 by omega) (show 256<=1000 by omega);have hr2:=YV (show m.length+1<=1000000 by omega) (show 256<=1000 by omega);refine ZM func31 rfl ntmps31 results31 (UL _) ?_;simp only[go_sem,eg,egs];refine vc3 hE ?_;simp only[go_sem];refine vc3 hA ?_;simp only[go_sem];refine vDq ?_;simp only[go_sem,hn',Zl9,egs,ZmX,ZlR,hr1,hr2];repeat((with_reducible refine And.intro ?_ ?_);(focus((repeat' (with_reducible apply And.intro))<;>(first|omega|exact Xb (by omega) (by omega)|exact Xb (by simp;omega) (by omega)|exact Y4 _|(simp;done)|(simp;omega)))))
  simp[eg]
 rw[h1]at hA;rw[h2];have hS:=Zez (m.getD i Jd) e (hm.l _ (Ze hi)) he;have i0:=Jf i
 have i1:(i:Int)<(m.length:Int):=by omega
 cases hd:decide (m.getD i Jd=e);rw[hd]at hS;have hx:¬m.getD i Jd=e:=by simpa using hd
 simp only[hx,if_false];refine ZM func31 rfl ntmps31 results31 (UL _) ?_;simp only[go_sem,eg,egs];refine vc3 hE ?_;simp only[go_sem];refine vc3 hA ?_;simp only[go_sem];refine vDq ?_;simp only[go_sem,i0,i1,US hi,eg];refine vc3 hS ?_;simp only[go_sem,i0,Zl9,egs];rw[hd]at hS;have hx:m.getD i Jd=e:=by simpa using hd
 simp only[hx,if_true];refine ZM func31 rfl ntmps31 results31 (UL _) ?_;simp only[go_sem,eg,egs];refine vc3 hE ?_;simp only[go_sem];refine vc3 hA ?_;simp only[go_sem];refine vDq ?_;simp only[go_sem,i0,i1,US hi,eg];refine vc3 hS ?_;simp only[go_sem,i0,Zl9,egs]
open Go.PL
def Vd (l:List Eg):List Eg:=l.foldl (λm e=>(Zb0 m e).1) []
theorem Zfp:∀(l:List Eg) {m:List Eg},OkM m->(∀e∈l,OkLn e.ln)->OkM (l.foldl (λm e=>(Zb0 m e).1) m)
 | [],m,h,_=>h
 |e::l,m,h,hl=>Zfp l (ZoA h (hl e (by simp))) (λx hx=>hl x (by simp[hx]))
theorem ZhH {l:List Eg} {k:Nat} (hk:k<l.length):(l.take (k+1)).foldl (λm e=>(Zb0 m e).1) []=(Zb0 ((l.take k).foldl (λm e=>(Zb0 m e).1) []) (l.getD k Jd)).1:=by
 have:l.take (k+1)=l.take k++ [l.getD k Jd]:=by
  rw[getD_lt hk,JG];simp[hk]
 rw[this,Kd];rfl
def grv (m:List Eg):PV:= .tup [tr (Zc m),egs m,.bool Ht]
theorem Zjf (l:List Nd):Jr (kts l)= []:=by
 unfold kts;induction l with
 |nil=>rfl
 |cons e l ih=>simp only[Jn,Jr,ih,ZoT,Ja]
theorem Zjg (l:List Nd):Jr (nds l)= []:=by
 unfold nds;induction l with
 |nil=>rfl
 |cons e l ih=>simp only[Jn,Jr,ih,Zfi,Ja]
theorem ZfM (l:List Nd):(tr l).dids= []:=by simp only[tr,JB,Jr,Zjf,Zjg,Ja]
theorem Zmi (m:List Eg):(grv m).dids= []:=by simp only[grv,JB,Jr,ZfM,Zgc,Ja]
theorem Zhd (l:List Eg) (hl:l.length<=1000) (hx:∀e∈l,OkLn e.ln):Pp 10 [egs l] (grv (Vd l)):=by
 have hml:l.length<=maxLen:=by rw[Zd];omega
 refine PL.Pure.of_vs func10 (by decide) rfl ntmps10 results10 (by simp) (Zmi _) ?_;simp only[go_sem,egs];refine Znj ZnH ?_ ?_ (λb hb=> ?_);simp only[go_sem];simp only[go_sem];simp only[go_sem];refine ZcX 6 11 [] rfl ?_;refine ZnW (ι:= { k:Nat // k<=l.length }) 40 (λx=> [(0,egs l),(5,.rptr [.mref b]),(6,egs (Vd (l.take x.1))),(7,.int .i64 (x.1:Int))]) (λx=> []) (λx=> []) (λx=> [(b,mc (Zc (Vd (l.take x.1))))]) (λx=> []) (λx=>l.length-x.1) ⟨0,Jc _⟩
  ⟨⟨rfl,(Fc4 rfl rfl rfl rfl),fnl,fnl⟩,fcs (by simp[upd];rfl) fnl,fnl⟩ (λx=>⟨(Fc4 rfl rfl rfl rfl),fnl⟩) (λx=> ?_)
 obtain⟨k,hk⟩:=x;simp only;by_cases h:(k:Int)<(l.length:Int);have hka:k<l.length:=by omega
 have w1:=Vt hka hml;have i1:=Jf k
 have hft:=ZhH hka;have hom:OkM (Vd (l.take k)):=Zfp _ Gy (λe he=>hx e (List.mem_of_mem_take he));have hR:=ZiN (Vd (l.take k)) (l.getD k Jd) hom (hx _ (Ze hka));have hW:=ZqC (Vd (l.take k)) (l.getD k Jd) hom (hx _ (Ze hka));have hne:((Zb0 (Vd (l.take k)) (l.getD k Jd)).2 !=(Zb0 (Vd (l.take k)) (l.getD k Jd)).2)=false:=by simp
 simp only[go_sem,egs,h,US hka,eg,i1];refine vc3 hR ?_;simp only[go_sem,Zl9,egs,h,US hka,eg,i1];refine Zg1 b hW ?_ ?_ ?_ ?_;simp only[go_sem];simp only[go_sem,eg];simp[upd];simp only[go_sem,hne,w1];refine⟨⟨k+1,by omega⟩,nx9 (by omega),⟨⟨rfl,fcs rfl (fcs rfl (fcs ?_ (fcs ?_ fnl))),fnl,fnl⟩,fcs ?_ fnl,fnl⟩⟩;show _=egs (Vd (l.take (k+1)));unfold Vd;rw[hft];rfl;rfl;show _=Hs (mc (Zc (Vd (l.take (k+1)))));unfold Vd;rw[hft];simp[upd];obtain rfl:k=l.length:=by omega
 have htl:l.take l.length=l:=JX;simp only[go_sem,egs,h,htl,mc];exact⟨_,rfl,by simp[PV.shut,PV.sealL,upd,grv,tr,egs]⟩
def edc (x:Eg×Int):PV:= .tup [eg x.1,.int .i64 x.2]
theorem Zgb (x:Eg×Int):(edc x).dids= []:=by simp only[edc,JB,Jr,ZeX,Ja]
theorem ZaD:eg Jd= .agg [.int .i64 0,.int .i64 0,.int .i64 0,.int .i64 0,.int .i64 0,.int .i64 0,.str [],.str [],.str [],.str [],.int .i64 0,.int .i64 0,.str [],.str [],.int .i64 0,.str [],.sl .no [],.int .i64 0,.sl .no [],.sl .no []]:=rfl
def Zdb (m:List Eg) (id:Tg):Eg×Int:=match Y8 m id with|some e=>(e,0)|none=>(Jd,6)
theorem Zav (m:List Eg) (id:Tg) (hm:OkM m):Pp 267 [tr (Zc m),tg id] (edc (Zdb m id)):=by
 have hidx:=Zgr m id;unfold Zdb;cases hf:m.findIdx? (λx=>decide (id=x.id))with
 |some i=>
  rw[hf]at hidx;obtain⟨h1,h2⟩:=UP hidx;rw[UQ]at h2;cases hfe:Y8 m id with
  |none=>rw[hfe]at h2;cases h2
  |some x=>
   rw[hfe]at h2;simp only[JK,Kj.injEq]at h2;have hO:=Zea x (hm.l x (Xv hfe).2);have hval:(nds (Zc m)).getD i .any=nd (Z7 m x):=by rw[D8 h1,h2]
   have hne:=VE m x;refine ZM func267 rfl ntmps267 results267 (Zgb _) ?_;simp only[go_sem,tr,tg];refine vDq ?_;simp only[go_sem,Yd,hidx,hval,nd,hne];refine vc3 hO ?_;simp only[go_sem,eg,edc]
 |none=>
  rw[hf]at hidx;have h2:=UO.1 hidx;rw[UQ]at h2;have hfe:Y8 m id=none:=by
   cases hx:Y8 m id with
   |none=>rfl
   |some x=>rw[hx]at h2;cases h2
  rw[hfe];refine ZM func267 rfl ntmps267 results267 (Zgb _) ?_;simp only[go_sem,tr,tg];refine vDq ?_;simp only[go_sem,Yd,hidx,edc,ZaD]
def Y0 (l:List Nd) (id:Tg):List Fd×Int:=if(atN l id).st=2 then((atN l id).sch,0)else if(atN l id).st=3 then([],16)else([],13)
theorem XB (m:List Eg) (id:Tg) (hm:OkM m):Pp 16 [tr (Zc m),tg id] (YJ (Y0 (Zc m) id)):=by
 have hA:=ZiZ (Zc m) id;obtain⟨o1,o2,o3⟩:=Zqt hm.l (ZkX m) id;have hO:=ZcN (atN (Zc m) id).sch (by have:=o1.n;omega) o1.c;unfold Y0;by_cases h2:(atN (Zc m) id).st=2;have e2:((atN (Zc m) id).st==2)=true:=by rw[h2];rfl
 simp only[h2,if_true];refine ZM func16 rfl ntmps16 results16 (Z5 _) ?_;simp only[go_sem,tr,tg];refine vc5 hA ?_;simp only[go_sem,nd,e2];refine vc2 hO ?_;simp only[go_sem,Zp,YJ];by_cases h3:(atN (Zc m) id).st=3;have e2:((atN (Zc m) id).st==2)=false:=by simpa using h2
 have e3:((atN (Zc m) id).st==3)=true:=by rw[h3];rfl
 simp only[h2,h3,if_true,if_false];refine ZM func16 rfl ntmps16 results16 (Z5 _) ?_;simp only[go_sem,tr,tg];refine vc5 hA ?_;simp only[go_sem,nd,e2,e3,YJ,Zp];have e2:((atN (Zc m) id).st==2)=false:=by simpa using h2
 have e3:((atN (Zc m) id).st==3)=false:=by simpa using h3
 simp only[h2,h3,if_false];refine ZM func16 rfl ntmps16 results16 (Z5 _) ?_;simp only[go_sem,tr,tg];refine vc5 hA ?_;simp only[go_sem,nd,e2,e3,YJ,Zp]
def ZsK (l:List Nd) (id:Tg):Int:=if(atN l id).st=2 then(atN l id).dep else-1
open Go.PL
def upL (w:List Eg):List Tg:=(w.reverse.map (·.id))++ [Jd]
def upC (m:List Eg) (id:Tg):Int:=(Y0 (Zc m) id).2
def UC (m:List Eg) (id:Tg):List Eg:=(ZiC m id).getD []
theorem ZlQ (m:List Eg) (id:Tg) (h:id≠Jd):atN (Zc m) id=((Y8 m id).map (Z7 m)).getD Jd:=by
 simp only[atN,h,if_false,UQ]
theorem Xx {m:List Eg} {id:Tg} (h:upC m id=0):Way m id (UC m id)/\VL (UC m id) FA=Hs (Y0 (Zc m) id).1/\ZsK (Zc m) id=((UC m id).length:Int):=by
 have hst:(atN (Zc m) id).st=2:=by
  unfold upC Y0 at h;split at h;assumption;split at h<;>cases h
 have hs:(Y0 (Zc m) id).1=(atN (Zc m) id).sch:=by simp only[Y0,hst,if_true]
 have hdp:ZsK (Zc m) id=(atN (Zc m) id).dep:=by simp only[ZsK,hst,if_true]
 rw[hs,hdp];by_cases hd:id=Jd;subst hd;have hw:UC m Jd= []:=by
  have:=Wk.2 (Way.root (m:=m));simp[UC,this]
 rw[hw];exact⟨.root,by simp[VL,atN,Zfw],by simp[atN,Zfw]⟩;rw[ZlQ m id hd]at hst ⊢;cases hf:Y8 m id with
 |none=>rw[hf]at hst;cases hst
 |some e=>
  rw[hf]at hst;simp only[JK,JW]at hst ⊢;have hid:=(Xv hf).1;unfold Z7 F6 at hst ⊢;rw[<-hid]at hst ⊢;cases hw:ZiC m id with
  |none=>rw[hw]at hst;cases hst
  |some w=>
   have hwd:UC m id=w:=by simp[UC,hw]
   rw[hw]at hst;rw[hwd];simp only at hst ⊢;cases hfa:VL w FA with
   |none=>rw[hfa]at hst;cases hst
   |some fs=>exact⟨Wk.1 hw,rfl,rfl⟩
theorem ZgX (w:List Eg) (e:Eg):upL (w++ [e])=e.id::upL w:=by simp[upL]
theorem T5 (w:List Eg):(upL w).length=w.length+1:=by simp[upL]
theorem ZfN (w:List Eg) (t:Nat) (ht:t<w.length):(upL w).getD (w.length-t-1) Jd=(w.getD t Jd).id:=by
 unfold upL;rw[Zb (by simp;omega)];rw[getD_lt (by simp;omega),getD_lt ht];simp only[Jg,List.getElem_reverse];congr 2;omega
theorem ZgW {m:List Eg} {id:Tg} {w:List Eg} (h:Way m id w):upL w=id::(upL w).tail:=by
 cases h with
 |root=>rfl
 |step hn he hw=>rw[ZgX,(Xv he).1];rfl
def Zlu (x:List Tg×Int):PV:= .tup [tgs x.1,.int .i64 x.2]
theorem Zch (l:List Tg):(tgs l).dids= []:=by simp only[tgs,JB,Zf9]
theorem Zd9 (x:List Tg×Int):(Zlu x).dids= []:=by simp only[Zlu,JB,Jr,Zch,Ja]
def upM (m:List Eg) (id:Tg):List Tg×Int:=if upC m id≠0 then([],upC m id)else(upL (UC m id),0)
structure UpS (m:List Eg) (w:List Eg) where
 id:Tg
 r:List Eg
 acc:List Tg
 hw:Way m id r
 hx:acc++(upL r).tail=upL w
theorem tgd (t:Tg):(t.r==0&&t.n==0)=decide (t=Jd):=ZB t Jd
theorem ZiP (m:List Eg) (id:Tg) (hm:OkM m):Pp 277 [tr (Zc m),tg id] (Zlu (upM m id)):=by
 have hS:=XB m id hm;unfold upM;by_cases hc:upC m id=0;obtain⟨hw,_,_⟩:=Xx hc;simp only[hc,ne_eq,not_true_eq_false,if_false];have hc':(Y0 (Zc m) id).2=0:=hc;generalize UC m id=w at *;have hwl:w.length<=40:=by have:=hw.len;have:=hm.n;omega
 refine ZM func277 rfl ntmps277 results277 (Zd9 _) ?_;simp only[go_sem,tr,tg];refine vc5 hS ?_;simp only[go_sem,YJ,hc'];refine Ym 8 21 39 1 2 25 [tg id] rfl rfl rfl ?_;refine Zz (ι:=UpS m w) 41 (λx=> [(0,tr (Zc m)),(3,.ptr 3 0),(8,.sl (.row 39) (x.acc.map tg))]) (λx=> [(3,[.int .i64 x.id.r,.int .i64 x.id.n],Hf)]) (λx=> [(39,.live x.acc.length 2 25)]) (λx=>x.r.length) ⟨id,w,[id],hw,by rw[ZgW hw];rfl⟩
  ⟨rfl,(Fc3 rfl rfl rfl),fcs ⟨rfl,rfl⟩ fnl,fcs rfl fnl⟩ (λx=>⟨Fc3 rfl rfl (by simp[J7,ZN]),(fcs rfl fnl)⟩) (λx=> ?_)
 obtain⟨id',r,acc,hr,hx⟩:=x;simp only;have hal:acc.length<=41:=by
  have:=congrArg Ku hx;rw[JC,T5]at this;omega
 have hrm:=YV (show acc.length+1<=1000000 by omega) (show 16<=1000 by omega);by_cases hd:id'=Jd;have hb:decide (id'=Jd)=true:=by simpa using hd
 have hacc:acc=upL w:=by
  rw[<-hx];subst hd;cases hr with
  |root=>simp[upL]
  |step hn _ _=>exact absurd rfl hn
 simp only[go_sem,tgd,hb,Zlu,tgs,hacc];have hb:decide (id'=Jd)=false:=by simpa using hd
 have hF:=Zav m id' hm;cases hr with
 |root=>exact absurd rfl hd
 |step hn he hw'=>
  rename_i e u;have hfm:Zdb m id'=(e,0):=by simp[Zdb,he]
  rw[hfm]at hF;have hx':(acc++ [e.par])++(upL u).tail=upL w:=by
   rw[<-hx,ZgX,List.tail_cons,ZgW hw'];simp
  simp only[go_sem,tr,tgd,hb];refine vc5 hF ?_;simp only[go_sem,edc,eg,SR,hrm];exact⟨⟨e.par,u,acc++ [e.par],hw',hx'⟩,by show u.length<(u++ [e]).length;simp,⟨rfl,Fc3 rfl rfl (by simp[upd,tg]),fcs ⟨rfl,rfl⟩ fnl,fcs (by simp[upd]) fnl⟩⟩
 have hc':((Y0 (Zc m) id).2 !=0)=true:=by have h:(Y0 (Zc m) id).2≠0:=hc;simpa using h
 simp only[ne_eq,hc,not_false_eq_true,if_true];refine ZM func277 rfl ntmps277 results277 (Zd9 _) ?_;simp only[go_sem,tr,tg];refine vc5 hS ?_;simp only[go_sem,YJ,hc',Zlu,tgs,upC]
open Go.PL
def lcp:List Eg->List Eg->Nat
 |a::xs,b::ys=>if a=b then lcp xs ys+1 else 0
 |_,_=>0
theorem ZjU:∀(a b:List Eg),lcp a b<=a.length/\lcp a b<=b.length
 | [],b=>by simp[lcp]
 |a::xs,[]=>by simp[lcp]
 |a::xs,b::ys=>by
  have:=ZjU xs ys;simp only[lcp];split;simp;omega;simp
theorem ZjT:∀(a b:List Eg) (t:Nat),t<lcp a b->a.getD t Jd=b.getD t Jd
 | [],b,t,h=>by simp[lcp]at h
 |a::xs,[],t,h=>by simp[lcp]at h
 |a::xs,b::ys,t,h=>by
  simp only[lcp]at h;split at h;rename_i e;cases t with
  |zero=>simpa using e
  |succ t=>simpa using ZjT xs ys t (by omega)
  omega
theorem Zgv:∀(a b:List Eg),lcp a b<a.length->lcp a b<b.length->a.getD (lcp a b) Jd≠b.getD (lcp a b) Jd
 | [],b,h,_=>by simp at h
 |a::xs,[],_,h=>by simp at h
 |a::xs,b::ys,h1,h2=>by
  simp only[lcp]at h1 h2 ⊢;split;rename_i e;rw[if_pos e]at h1 h2;simpa using Zgv xs ys (by simpa using h1) (by simpa using h2);rename_i e;simpa using e
theorem Apart.inj {m:List Eg} (h:Apart m) {a b:Eg} (ha:a∈m) (hb:b∈m) (e:a.id=b.id):a=b:=by
 have h1:=h.find ha;rw[e,h.find hb]at h1;cases h1;rfl
structure WayT where
 up:List Tg
 down:List Tg
 i:Nat
 j:Nat
 c:Int
def Zlw (x:WayT):PV:= .tup [tgs x.up,tgs x.down,.int .i64 (x.i:Int),.int .i64 (x.j:Int),.int .i64 x.c]
theorem FU (x:WayT):(Zlw x).dids= []:=by simp only[Zlw,JB,Jr,Zch,Ja]
def ZiD (m:List Eg) (a b:Tg):WayT:=
 if upC m a≠0 then⟨[],[],0,0,upC m a⟩else if upC m b≠0 then⟨[],[],0,0,upC m b⟩
 else⟨upL (UC m a),upL (UC m b),(UC m a).length-lcp (UC m a) (UC m b),(UC m b).length-lcp (UC m a) (UC m b),0⟩
theorem Zlj (m:List Eg) (a b:Tg) (hm:OkM m):Pp 266 [tr (Zc m),tg a,tg b] (Zlw (ZiD m a b)):=by
 have hA:=ZiP m a hm;have hB:=ZiP m b hm;unfold ZiD;unfold upM at hA hB;by_cases ha:upC m a=0;by_cases hb:upC m b=0;obtain⟨wa,_,_⟩:=Xx ha;obtain⟨wb,_,_⟩:=Xx hb;simp only[ha,hb,ne_eq,not_true_eq_false,if_false]at hA hB ⊢;generalize UC m a=p at *;generalize UC m b=q at *;have hlc:=ZjU p q;have hpl:p.length<=40:=by have:=wa.len;have:=hm.n;omega
 have hql:q.length<=40:=by have:=wb.len;have:=hm.n;omega
 have l1:((upL p).length:Int)=(p.length:Int)+1:=by rw[T5];rfl
 have l2:((upL q).length:Int)=(q.length:Int)+1:=by rw[T5];rfl
 have s1:IntKind.i64.wrap ((p.length:Int)+1-1)=(p.length:Int):=by rw[w64 (by omega)];omega
 have s2:IntKind.i64.wrap ((q.length:Int)+1-1)=(q.length:Int):=by rw[w64 (by omega)];omega
 refine ZM func266 rfl ntmps266 results266 (FU _) ?_;simp only[go_sem,tr,tg];refine Zf0 (ι:= { t:Nat // t<=lcp p q }) 62 (λx=> [(6,tgs (upL p)),(7,tgs (upL q)),(8,.int .i64 ((p.length-x.1:Nat):Int)),(9,.int .i64 ((q.length-x.1:Nat):Int))]) (λx=> []) (λx=> []) (λx=>lcp p q-x.1) 0 _ (by exact rfl) (λx=>⟨(Fc4 rfl rfl rfl rfl),fnl⟩) (λx=> ?_) (λcut=> ?_);obtain⟨t,ht⟩:=x;simp only;by_cases g1:t<p.length;have c1:(0:Int)<((p.length-t:Nat):Int):=by omega
 by_cases g2:t<q.length;have c2:(0:Int)<((q.length-t:Nat):Int):=by omega
 have w1:IntKind.i64.wrap (((p.length-t:Nat):Int)-1)=((p.length-t-1:Nat):Int):=by rw[w64 (by omega)];omega
 have w2:IntKind.i64.wrap (((q.length-t:Nat):Int)-1)=((q.length-t-1:Nat):Int):=by rw[w64 (by omega)];omega
 have k1:p.length-t-1<(upL p).length:=by rw[T5];omega
 have k2:q.length-t-1<(upL q).length:=by rw[T5];omega
 have b1:(0:Int)<=((p.length-t-1:Nat):Int):=by omega
 have b2:(0:Int)<=((q.length-t-1:Nat):Int):=by omega
 have b3:((p.length-t-1:Nat):Int)<((upL p).length:Int):=by omega
 have b4:((q.length-t-1:Nat):Int)<((upL q).length:Int):=by omega
 have v1:=ZfN p t g1;have v2:=ZfN q t g2;by_cases hlt:t<lcp p q;have heq:decide ((p.getD t Jd).id=(q.getD t Jd).id)=true:=by rw[ZjT p q t hlt];simp
 simp only[go_sem,tgs];refine vDq ?_;simp only[go_sem,c1,c2,w1,w2,ZK k1,ZK k2,v1,v2,tg,b1,b2,b3,b4,ZB,heq];exact⟨⟨t+1,by omega⟩,by show lcp p q-(t+1)<lcp p q-t;omega,⟨rfl,Fc4 rfl rfl (by simp only[Kv];rfl) (by simp only[Kv];rfl),fnl,fnl⟩⟩;obtain rfl:t=lcp p q:=by omega
 have hne:decide ((p.getD (lcp p q) Jd).id=(q.getD (lcp p q) Jd).id)=false:=by
  rw[decide_eq_false_iff_not];intro e;have hs:=Zgv p q (by omega) (by omega);exact hs (hm.a.inj (wa.mem _ (Ze g1)) (wb.mem _ (Ze g2)) e)
 simp only[go_sem,tgs];refine vDq ?_;simp only[go_sem,c1,c2,w1,w2,ZK k1,ZK k2,v1,v2,tg,b1,b2,b3,b4,ZB,hne,Zlw,tgs];have c2:¬(0:Int)<((q.length-t:Nat):Int):=by omega
 obtain rfl:t=lcp p q:=by omega
 simp only[go_sem,tgs];refine vDq ?_;simp only[go_sem,c1,c2,Zlw,tgs];have c1:¬(0:Int)<((p.length-t:Nat):Int):=by omega
 obtain rfl:t=lcp p q:=by omega
 simp only[go_sem,tgs];refine vDq ?_;simp only[go_sem,c1,Zlw,tgs];simp only[go_sem];refine vc5 hA ?_;simp only[go_sem,Zlu];refine vc5 hB ?_;simp only[go_sem,Zlu,tgs,l1,l2,s1,s2];exact YM (cut ⟨0,Jc _⟩ _ ⟨rfl,(Fc4 rfl rfl rfl rfl),fnl,fnl⟩);have hb':(upC m b !=0)=true:=by simpa using hb
 simp only[ha,hb,ne_eq,not_true_eq_false,not_false_eq_true,if_true,if_false]at hA hB ⊢;refine ZM func266 rfl ntmps266 results266 (FU _) ?_;simp only[go_sem,tr,tg];refine T6 ?_;simp only[go_sem];refine vc5 hA ?_;simp only[go_sem,Zlu];refine vc5 hB ?_;simp only[go_sem,Zlu,tgs,hb',Zlw];have ha':(upC m a !=0)=true:=by simpa using ha
 simp only[ha,ne_eq,not_false_eq_true,if_true]at hA ⊢;refine ZM func266 rfl ntmps266 results266 (FU _) ?_;simp only[go_sem,tr,tg];refine T6 ?_;simp only[go_sem];refine vc5 hA ?_;simp only[go_sem,Zlu,tgs,ha',Zlw]
open Go.PL
def dn (e:Eg):Lg:=⟨e.id,Ht⟩
def upg (i:Tg):Lg:=⟨i,Hf⟩
def Zfc (p q:List Eg):List Lg:=((p.drop (lcp p q)).reverse.map λe=>upg e.id)++(q.drop (lcp p q)).map dn
theorem Znd (p:List Eg) (c:Nat) (hc:c<=p.length):(upL p).take (p.length-c)=(p.drop c).reverse.map (·.id):=by
 unfold upL;rw[JI (by simp),<-Kr,List.take_reverse];congr 3;omega
def Zfd (x:List Lg×Int):PV:= .tup [lgs x.1,.int .i64 x.2]
theorem Zl2 (l:List Lg):Jr (l.map lg)= []:=by
 induction l with
 |nil=>rfl
 |cons t l ih=>simp only[Jn,Jr,ih,lg,JB,Ja]
theorem Zmv (l:List Lg):(lgs l).dids= []:=by simp only[lgs,JB,Zl2]
theorem ZaU (x:List Lg×Int):(Zfd x).dids= []:=by simp only[Zfd,JB,Jr,Zmv,Ja]
theorem ZgR (l:List Lg):Sized 3 (l.map lg):=λe he=>by
 obtain⟨x,_,rfl⟩:=Je.1 he;rfl
def Um (m:List Eg) (a b:Tg):Int:=if upC m a≠0 then upC m a else upC m b
def Zh1 (m:List Eg) (a b:Tg):List Lg×Int:=if Um m a b≠0 then([],Um m a b)else(Zfc (UC m a) (UC m b),0)
theorem TC {m:List Eg} {a b:Tg}:Um m a b=0↔upC m a=0/\upC m b=0:=by
 unfold Um;split;rename_i h;exact⟨λh'=>absurd h' h,λh'=>absurd h'.1 h⟩;rename_i h;exact⟨λh'=>⟨by simpa using h,h'⟩,λh'=>h'.2⟩
theorem Zli {m:List Eg} {a b:Tg} (h:Um m a b≠0):ZiD m a b=⟨[],[],0,0,Um m a b⟩:=by
 unfold ZiD Um at *;split;rfl;rename_i h1;rw[if_neg h1]at h;rw[if_pos h]
theorem ZiE {m:List Eg} {a b:Tg} (h:Um m a b=0):ZiD m a b=⟨upL (UC m a),upL (UC m b),(UC m a).length-lcp (UC m a) (UC m b),(UC m b).length-lcp (UC m a) (UC m b),0⟩:=by
 obtain⟨h1,h2⟩:=TC.1 h;unfold ZiD;rw[if_neg (by simp[h1]),if_neg (by simp[h2])]
theorem F3 {q:List Eg} {c s:Nat} (h:c+s<q.length):(q.drop c).take (s+1)=(q.drop c).take s++ [q.getD (c+s) Jd]:=by
 rw[JG];congr 1;rw[List.getElem?_drop,JT h,getD_lt h];rfl
theorem ZiK (m:List Eg) (a b:Tg) (hm:OkM m):Pp 245 [tr (Zc m),tg a,tg b] (Zfd (Zh1 m a b)):=by
 have hW:=Zlj m a b hm;unfold Zh1;by_cases hc:Um m a b=0;rw[ZiE hc]at hW;obtain⟨ha,hb⟩:=TC.1 hc;obtain⟨wa,_,_⟩:=Xx ha;obtain⟨wb,_,_⟩:=Xx hb;simp only[hc,ne_eq,not_true_eq_false,if_false];generalize UC m a=p at *;generalize UC m b=q at *;have hlc:=ZjU p q;have hpl:p.length<=40:=by have:=wa.len;have:=hm.n;omega
 have hql:q.length<=40:=by have:=wb.len;have:=hm.n;omega
 unfold Zfc;have hut:=Znd p (lcp p q) hlc.1;have hdl:(p.drop (lcp p q)).length=p.length-lcp p q:=by simp
 have hql':(q.drop (lcp p q)).length=q.length-lcp p q:=by simp
 generalize hids:(p.drop (lcp p q)).reverse.map (·.id)=ids at *;have hidl:ids.length=p.length-lcp p q:=by rw[<-hids];simp
 have hfst:((p.drop (lcp p q)).reverse.map λe=>upg e.id)=ids.map upg:=by rw[<-hids,Kc];rfl
 rw[hfst];have hlen:ids.length<=maxLen:=by rw[Zd];omega
 have s0:IntKind.i64.wrap (((p.length-lcp p q:Nat):Int)+((q.length-lcp p q:Nat):Int))=((p.length-lcp p q+(q.length-lcp p q):Nat):Int):=by rw[w64 (by omega)];omega
 have hup:(upL p).length=p.length+1:=T5 p;refine ZM func245 rfl ntmps245 results245 (ZaU _) ?_;simp only[go_sem,tr,tg];refine Zf0 (ι:= { s:Nat // s<=q.length-lcp p q }) 60 (λx=> [(9,tgs (upL q)),(11,.int .i64 ((q.length-lcp p q-x.1:Nat):Int)),(13,.sl (.row 58) ((ids.map upg++((q.drop (lcp p q)).take x.1).map dn).map lg))]) (λx=> []) (λx=> [(58,.live (ids.length+x.1) 3 287)]) (λx=>q.length-lcp p q-x.1) 0 _ (by exact rfl)
  (λx=>⟨Fc3 rfl rfl (by simp[J7,ZN]),fnl⟩) (λx=> ?_) (λcut=> ?_)
 obtain⟨s,hs⟩:=x;simp only;by_cases hlt:s<q.length-lcp p q;have c1:(0:Int)<((q.length-lcp p q-s:Nat):Int):=by omega
 have w1:IntKind.i64.wrap (((q.length-lcp p q-s:Nat):Int)-1)=((q.length-(lcp p q+s)-1:Nat):Int):=by rw[w64 (by omega)];omega
 have k1:q.length-(lcp p q+s)-1<(upL q).length:=by rw[T5];omega
 have b1:(0:Int)<=((q.length-(lcp p q+s)-1:Nat):Int):=by omega
 have b2:((q.length-(lcp p q+s)-1:Nat):Int)<((upL q).length:Int):=by omega
 have v1:=ZfN q (lcp p q+s) (by omega);have hrm:=YV (show ids.length+s+1<=1000000 by omega) (show 24<=1000 by omega);have hsl:(ids.map upg++((q.drop (lcp p q)).take s).map dn).length=ids.length+s:=by simp;omega
 have hnx:=F3 (q:=q) (c:=lcp p q) (s:=s) (by omega);simp only[go_sem,tgs,c1,w1,ZK k1,v1,tg,b1,b2,ZgR,hsl,hrm];refine⟨⟨s+1,by omega⟩,by show q.length-lcp p q-(s+1)<q.length-lcp p q-s;omega,⟨rfl,fcs rfl (fcs ?_ (fcs ?_ fnl)),fnl,fcs ?_ fnl⟩⟩;show PV.int .i64 _=PV.int .i64 _;congr 2;simp only;omega;show Kw (.row 58) _=Kw (.row 58) _;simp[hnx,dn,lg];rfl;obtain rfl:s=q.length-lcp p q:=by omega
 have c1:¬(0:Int)<((q.length-lcp p q-(q.length-lcp p q):Nat):Int):=by omega
 have htk:(q.drop (lcp p q)).take (q.length-lcp p q)=q.drop (lcp p q):=Jo (by omega);simp only[go_sem,tgs,c1,Zfd,lgs,htk]
 ·simp only[go_sem];refine vc5 hW ?_;simp only[go_sem,Zlw,tgs,s0];repeat((with_reducible refine And.intro ?_ ?_);(focus((repeat' (with_reducible apply And.intro))<;>(first|omega|exact Xb (by omega) (by omega)|exact Xb (by simp;omega) (by omega)|exact Y4 _|(simp;done)|(simp;omega)))))
  have htt:PL.cut (List.map tg (upL p)) 0 ((p.length-lcp p q:Nat):Int)=ids.map tg:=by simp[PL.cut,<-Kr,hut]
  refine⟨⟨by omega,by omega,SR _⟩,?_⟩;simp only[go_sem,htt];refine Ym 13 32 45 0 3 287 [] rfl rfl rfl ?_;refine Zz (ι:= { x:Nat // x<=(ids).length }) 60 (λx=> [(9,tgs (upL q)),(11,.int .i64 ((q.length-lcp p q:Nat):Int)),(13,.sl (.row 45) (((ids.take x.1).map upg).map lg)),(35,tgs ids),(36,.int .i64 (ids.length:Int)),(37,.int .i64 (x.1:Int))]) (λx=> []) (λx=> [(45,.live (x.1) (3) (287))]) (λx=>(ids).length-x.1) ⟨0,Jc _⟩ ⟨rfl,(Fc6 rfl rfl rfl rfl rfl rfl),fnl,(fcs rfl fnl)⟩ (λx=>⟨(Fc6 rfl rfl (by simp[J7,ZN]) rfl rfl rfl),fnl⟩) (λx=> ?_);obtain⟨k,hk⟩:=x;simp only at hk ⊢;by_cases h:(k:Int)<(ids.length:Int)
  ·(have hka:k<(ids).length:=by omega);(have w1:=Vt hka (hlen));(have i1:=Jf k)
   have hts:ids.take (k+1)=ids.take k++ [ids.getD k Jd]:=by rw[JG,getD_lt hka];simp[hka]
   have hkl:(ids.take k).length=k:=by simp;omega
   have hrm:=YV (show k+1<=1000000 by omega) (show 24<=1000 by omega);simp only[go_sem,h,tgs,ZK hka,tg,i1,w1,ZgR,hkl,hrm];exact⟨⟨k+1,by(try simp only);omega⟩,by show(ids).length-(k+1)<(ids).length-k;omega,⟨rfl,(Fc6 rfl rfl (by(show Kw _ _=Kw _ _;simp[hts,upg,lg])) rfl rfl rfl),fnl,(fcs rfl fnl)⟩⟩
  obtain rfl:k=ids.length:=by omega
  have htk:ids.take ids.length=ids:=JX;simp only[go_sem,h,htk];refine Ym 13 45 58 ids.length 3 287 ((ids.map upg).map lg) rfl rfl rfl ?_;exact YM (cut ⟨0,Jc _⟩ _ ⟨rfl,Fc3 rfl rfl (by simp[upd,St.with]),fnl,fcs (by simp[upd,Hp.setq,St.with]) fnl⟩)
 have hc':(Um m a b !=0)=true:=by simpa using hc
 rw[Zli hc]at hW;simp only[ne_eq,hc,not_false_eq_true,if_true];refine ZM func245 rfl ntmps245 results245 (ZaU _) ?_;simp only[go_sem,tr,tg];refine T6 ?_;simp only[go_sem];refine vc5 hW ?_;simp only[go_sem,Zlw,tgs,hc',Zfd,lgs]
open Go.PL
def awX:Ln:=⟨1,⟨1,[],[110,111,116,101]⟩,[109,101,109,111],[],0,Jd,[],[]⟩
def awA:Eg:=⟨⟨1,1⟩,Jd,awX⟩
def awB:Eg:=⟨⟨2,1⟩,Jd,awX⟩
theorem Zvk:OkLn awX:=⟨by decide,by decide,by decide⟩
theorem Zvm:Zb0 [] awA=([awA],0):=by decide+kernel
theorem putB:Zb0 [awA] awB=([awA,awB],0):=by decide+kernel
theorem okA:OkM [awA]:=by have:=ZoA Gy (e:=awA) Zvk;rw[Zvm]at this;exact this
theorem Zgw (m:List Eg) (a b:Tg) (hm:OkM m):(Zh1 m a b).1.length<=80:=by
 unfold Zh1;split;simp;rename_i h;have h:=TC.1 (by simpa using h);have w1:=(Xx h.1).1.len;have w2:=(Xx h.2).1.len;have:=hm.n;simp only[Zfc,JC,Js,List.length_reverse,List.length_drop];omega
theorem okL {l:List Eg} (h:Fa l 50=Hf):l.length<=50/\ ∀e∈l,OkLn e.ln:=by
 simp only[Fa,JJ,decide_eq_false_iff_not,Ke]at h;exact⟨by omega,λe he=>Zkd (by simpa using h.2 e he)⟩
open Go.PL
theorem G1 {x:Ln} (h:ZA x=Ht):(x.kind=1\/x.kind=2\/x.kind=3\/x.kind=4\/x.kind=5\/x.kind=6\/x.kind=7\/x.kind=8\/x.kind=9\/x.kind=10)/\(x.kind≠8->x.fo= []/\x.ba= []):=by
 unfold ZA at h;split at h;rename_i hk;simp only[Jh,Kf]at h;exact⟨by omega,λ_=>Ut.1 h.2.2.2.2.1⟩;simp only[Jh]at h;obtain⟨_,h⟩:=h;split at h;rename_i hk;exact⟨by omega,λhn=>absurd hk hn⟩;simp only[Jh,Kf]at h;refine⟨?_,λ_=>Ut.1 h.1⟩;have h:=h.2;split at h;omega;simp only[Jh]at h;have h:=h.2;split at h;omega;simp only[Jh]at h;have h:=h.2;split at h;omega;split at h;omega;simp only[Jh,decide_eq_true_eq]at h;omega
def Zfe (m:List Eg) (x:Lg):Ln×Int:=match Y8 m x.id with|none=>(Jd,6)|some e=>if x.down=Ht then(e.ln,0)else(Zdn e.ln,0)
structure RightM (m:List Eg):Prop where
 r:∀e∈m,TT e=Ht
theorem ZhB {e:Eg} (h:TT e=Ht):ZA e.ln=true:=by
 simp only[TT,Jh]at h;exact h.2.2.2.2
theorem ZmS {m:List Eg} (h:RightM m) (e:Eg):RightM (Zb0 m e).1:=by
 unfold Zb0;split;exact h;rename_i hb;split;split<;>exact h
 split;exact h;refine⟨λx hx=> ?_⟩;rcases Jp.1 hx with hx|hx;exact h.r x hx;rw[Ju.1 hx];simpa using hb
theorem Za9:∀(l:List Eg) {m:List Eg},RightM m->RightM (l.foldl (λm e=>(Zb0 m e).1) m)
 | [],m,h=>h
 |e::l,m,h=>Za9 l (ZmS h e)
theorem SI:RightM []:=⟨λe h=>by cases h⟩
theorem Zhm (m:List Eg) (x:Lg) (hm:OkM m) (hr:RightM m):Pp 246 [tr (Zc m),lg x] (lnc (Zfe m x)):=by
 have hF:=Zav m x.id hm;unfold Zdb at hF;unfold Zfe;cases hf:Y8 m x.id with
 |none=>
  rw[hf]at hF;simp only at hF ⊢;refine ZM func246 rfl ntmps246 results246 (SA _) ?_;simp only[go_sem,tr,lg];refine vc5 hF ?_;simp only[go_sem,edc,ZaD,lnc,Fh]
 |some e=>
  rw[hf]at hF;simp only at hF ⊢;have hem:=(Xv hf).2;have hO:=DC e.ln (hm.l e hem);have hI:=ZcB e.ln (hm.l e hem);have hi:Zr3 e.ln=(Zdn e.ln,0):=by unfold Zr3;rw[ZhB (hr.r e hem)];rfl
  rw[hi]at hI;obtain⟨id,down⟩:=x;cases down
  ·refine ZM func246 rfl ntmps246 results246 (SA _) ?_;simp only[go_sem,tr,lg];refine vc5 hF ?_;simp only[go_sem,edc,eg];refine vc3 hI ?_;simp only[go_sem,lnc,lns,if_false]
  ·refine ZM func246 rfl ntmps246 results246 (SA _) ?_;simp only[go_sem,tr,lg];refine vc5 hF ?_;simp only[go_sem,edc,eg];refine vc3 hO ?_;simp only[go_sem,lnc,lns,if_true]
theorem ZsO {x:Ln} (h:OkLn x):OkLn (Zdn x):=by
 unfold Zdn;repeat' split
 all_goals first|exact⟨h.c,h.f,h.b⟩|exact⟨h.c,h.b,h.f⟩
theorem Zqu {m:List Eg} (hm:OkM m) (x:Lg):OkLn (Zfe m x).1:=by
 unfold Zfe;split;exact⟨by decide,by decide,by decide⟩;rename_i e he;have:=hm.l e (Xv he).2;split;exact this;exact ZsO this
open Go.PL
def tgc (x:Tg×Int):PV:= .tup [tg x.1,.int .i64 x.2]
open Go.PL
theorem Zos {m:List Eg} {a b:Tg} (h:Um m a b=0) (ha:Apart m):∀x∈Zfc (UC m a) (UC m b),∃e,e∈m/\Y8 m x.id=Hs e/\x.id=e.id:=by
 obtain⟨h1,h2⟩:=TC.1 h;obtain⟨wa,_,_⟩:=Xx h1;obtain⟨wb,_,_⟩:=Xx h2;intro x hx;have key:∀e∈m,∃e',e'∈m/\Y8 m e.id=Hs e'/\e.id=e'.id:=λe he=>⟨e,he,ha.find he,rfl⟩
 unfold Zfc at hx;rcases Jp.1 hx with hx|hx;obtain⟨e,he,rfl⟩:=Je.1 hx;exact key e (wa.mem e (J5 (List.mem_reverse.1 he)));obtain⟨e,he,rfl⟩:=Je.1 hx;exact key e (wb.mem e (J5 he))
def ZaV (m:List Eg) (l:List Lg):List Ln:=l.map λx=>(Zfe m x).1
def Zky (m:List Eg) (a b:Tg):List Ln×Int:=if Um m a b≠0 then([],Um m a b)else(ZaV m (Zfc (UC m a) (UC m b)),0)
def Zeq (l:List Ln):PV:= .sl .no (l.map lns)
def ZnF (x:List Ln×Int):PV:= .tup [Zeq x.1,.int .i64 x.2]
theorem ZjW (l:List Ln):(Zeq l).dids= []:=by
 unfold Zeq;simp only[JB];induction l with
 |nil=>rfl
 |cons e l ih=>simp only[Jn,Jr,ih,Dr,Ja]
theorem Zdr (x:List Ln×Int):(ZnF x).dids= []:=by simp only[ZnF,JB,Jr,ZjW,Ja]
theorem ZmY (l:List Ln):Sized 16 (l.map lns):=λe he=>by
 obtain⟨x,_,rfl⟩:=Je.1 he;rfl
theorem Zjx {l:List Ln} {i:Nat} (h:i<l.length):(l.map lns).getD i .any=lns (l.getD i Jd):=WM h
theorem Zlz (m:List Eg) (a b:Tg) (hm:OkM m) (hr:RightM m):Pp 204 [tr (Zc m),tg a,tg b] (ZnF (Zky m a b)):=by
 have hP:=ZiK m a b hm;have hll:=Zgw m a b hm;unfold Zky;unfold Zh1 at hP hll;by_cases hc:Um m a b=0
 ·have hin:=Zos hc hm.a;simp only[hc,ne_eq,not_true_eq_false,if_false]at hP hll ⊢;generalize Zfc (UC m a) (UC m b)=legs at *;have hlm:legs.length<=maxLen:=by rw[Zd];omega
  refine ZM func204 rfl ntmps204 results204 (Zdr _) ?_;simp only[go_sem,tr,tg];refine vc5 hP ?_;simp only[go_sem,Zfd,lgs];repeat((with_reducible refine And.intro ?_ ?_);(focus((repeat' (with_reducible apply And.intro))<;>(first|omega|exact Xb (by omega) (by omega)|exact Xb (by simp;omega) (by omega)|exact Y4 _|(simp;done)|(simp;omega)))))
  refine Ym 10 27 46 0 16 33 [] rfl rfl rfl ?_;refine Zz (ι:= { x:Nat // x<=(legs).length }) 49 (λx=> [(0,tr (Zc m)),(10,.sl (.row 46) ((ZaV m (legs.take x.1)).map lns)),(28,lgs legs),(29,.int .i64 (legs.length:Int)),(30,.int .i64 (x.1:Int))]) (λx=> []) (λx=> [(46,.live (x.1) (16) (33))]) (λx=>(legs).length-x.1) ⟨0,Jc _⟩ ⟨rfl,(Fc5 rfl rfl rfl rfl rfl),fnl,(fcs rfl fnl)⟩ (λx=>⟨(Fc5 rfl (by simp[J7,ZN]) rfl rfl rfl),fnl⟩) (λx=> ?_);obtain⟨k,hk⟩:=x;simp only at hk ⊢;by_cases h:(k:Int)<(legs.length:Int)
  ·(have hka:k<(legs).length:=by omega);(have w1:=Vt hka (hlm));(have i1:=Jf k)
   obtain⟨e,he,hfe,_⟩:=hin _ (Ze (d:=Jd) hka);have hL:=Zhm m (legs.getD k Jd) hm hr;have hz:(Zfe m (legs.getD k Jd)).2=0:=by unfold Zfe;rw[hfe];simp only;split<;>rfl
   have hts:legs.take (k+1)=legs.take k++ [legs.getD k Jd]:=by rw[JG,getD_lt hka];simp[hka]
   have hkl:(ZaV m (legs.take k)).length=k:=by simp[ZaV];omega
   have hrm:=YV (show k+1<=1000000 by omega) (show 232<=1000 by omega);simp only[go_sem,tr,h,lgs,Zoo hka,lg,i1];refine vc5 hL ?_;simp only[go_sem,lnc,hz,lns,ZmY,hkl,hrm,w1];exact⟨⟨k+1,by(try simp only);omega⟩,by show(legs).length-(k+1)<(legs).length-k;omega,⟨rfl,(Fc5 rfl (by(show Kw _ _=Kw _ _;simp[hts,ZaV,lns])) rfl rfl rfl),fnl,(fcs rfl fnl)⟩⟩
  obtain rfl:k=legs.length:=by omega
  have htk:legs.take legs.length=legs:=JX;simp only[go_sem,h,htk,ZnF,Zeq]
 have hc':(Um m a b !=0)=true:=by simpa using hc
 simp only[ne_eq,hc,not_false_eq_true,if_true]at hP ⊢;refine ZM func204 rfl ntmps204 results204 (Zdr _) ?_;simp only[go_sem,tr,tg];refine vc5 hP ?_;simp only[go_sem,Zfd,lgs,hc',ZnF,Zeq]
open Go.PL
theorem Zkx {x:Ln} (h:ZA x=Ht) (hk:x.kind=1\/x.kind=2\/x.kind=3\/x.kind=4\/x.kind=5\/x.kind=6\/x.kind=7\/x.kind=8\/x.kind=9\/x.kind=10):ZA (Zdn x)=true:=by
 obtain⟨kind,⟨sc,gr,n0⟩,nm,ot,fac,fd,fo,ba⟩:=x;simp only at hk;rcases hk with rfl|rfl|rfl|rfl|rfl|rfl|rfl|rfl|rfl|rfl
 all_goals
  simp[ZA,Zdn,YY,T4]at h ⊢
  (try(simp_all;done))
  (try(obtain⟨h1,h2⟩:=h;simp_all;done))
 obtain⟨⟨⟨g1,g2,g3⟩,g4⟩,g5,g6,g7,g8,g9⟩:=h;exact⟨⟨⟨g1,g2,.inr g9⟩,g4⟩,g5,g6,g7,λe=>by subst e;exact absurd g9 (by decide)⟩
theorem Zjn (f:Fd) (r:Rf) (h:f.at'=r):(⟨r,f.kind,f.df,f.cases',f.worth⟩:Fd)=f:=by subst h;rfl
theorem ZqD {f:Fd} (h:Yi f=Ht) (hk:f.kind=1):f=⟨f.at',1,[],[],f.worth⟩:=by
 obtain⟨a,k,d,c,w⟩:=f;simp only at hk;subst hk;simp[Yi]at h;simp_all
theorem ZqE {f:Fd} (h:Yi f=Ht) (hk:f.kind=2):f=⟨f.at',2,f.df,[],0⟩:=by
 obtain⟨a,k,d,c,w⟩:=f;simp only at hk;subst hk;simp[Yi,Zil]at h;simp_all
theorem ZiY {l m:List Fd} {x:Ln} (hk:x.kind<=8) (h:YQ l x=(m,0)):YQ m (Zdn x)=(l,0):=by
 obtain⟨hl,hx,cs,l1,h1,h2,h3⟩:=DK h;have hkind:x.kind=1\/x.kind=2\/x.kind=3\/x.kind=4\/x.kind=5\/x.kind=6\/x.kind=7\/x.kind=8:=by
  have:=(G1 hx).1;omega
 have hy:=Zkx hx (by omega);obtain⟨r1,r2,r3⟩:=Xq.1 hl;obtain⟨a1,a2,a3,a4,a5⟩:=Zgl hl h2;obtain⟨b1,b2,b3,b4,b5⟩:=Dk a1 h3;have hm:=(Xq.1 b1).2.1;have find1:∀ {r:Rf},(ZC l r).2=0->(ZC l r).1∈l/\(ZC l r).1.at'=r:=λh=>Zjq h
 obtain⟨kind,⟨sc,gr,n0⟩,nm,ot,fac,fd,fo,ba⟩:=x;simp only at hkind;rcases hkind with rfl|rfl|rfl|rfl|rfl|rfl|rfl|rfl
 -- rename
 simp only[Gc,Zq,YD,Jj,if_false,if_true,Jl]at h1;split at h1;cases h1;rename_i hz;simp only[JQ.injEq,and_true]at h1;obtain⟨f1,f2⟩:=find1 (by simpa using hz);generalize (ZC l ⟨sc,gr,n0⟩).1=f at *;subst h1;refine UU hl h2 h3 hy (gs:= [f]) rfl ?_ (by simpa using f1) (by simp[Yx,f2]);have hc:=VB hm ((b2 ⟨⟨sc,gr,nm⟩,f.kind,f.df,f.cases',f.worth⟩).2 (.inr (by simp)));simp only[Gc,Zdn,Zq,YD,Jj,if_false,if_true,Jl,hc,ne_eq,not_true_eq_false];rw[Zjn f _ f2]
 -- add
 simp only[Gc,Jj,if_true,JQ.injEq,and_true]at h1;subst h1;have hc:=VB hm ((b2 fd).2 (.inr (by simp)));refine UU hl h2 h3 hy (gs:= []) rfl ?_ (by simp) rfl;simp[Gc,Zdn,hc]
 -- remove
 simp only[Gc,Jj,if_false,if_true,JQ.injEq,Jh,decide_eq_true_eq]at h1;obtain⟨rfl,h4,h5⟩:=h1;obtain⟨f1,f2⟩:=find1 h4;rw[h5]at f1;exact UU hl h2 h3 hy (gs:= [fd]) rfl (by simp[Gc,Zdn]) (by simpa using f1) rfl
 -- hoist
 simp only[Gc,Zq,Jj,if_false,if_true,Jl]at h1;split at h1;cases h1;rename_i hz;simp only[JQ.injEq,and_true]at h1;obtain⟨f1,f2⟩:=find1 (by simpa using hz);generalize (ZC l ⟨sc,gr,n0⟩).1=f at *;subst h1;refine UU hl h2 h3 hy (gs:= [f]) rfl ?_ (by simpa using f1) (by simp[Yx,f2]);have hc:=VB hm ((b2 ⟨⟨sc,[],n0⟩,f.kind,f.df,f.cases',f.worth⟩).2 (.inr (by simp)));simp only[Gc,Zdn,Zq,YD,Jj,if_false,if_true,Jl,hc,ne_eq,not_true_eq_false];rw[Zjn f _ f2]
 -- plunge
 have hg:gr= []:=by simp[ZA]at hx;exact hx.2.2.2.2.1
 subst hg;simp only[Gc,Zq,Jj,if_false,if_true,Jl]at h1;split at h1;cases h1;rename_i hz;simp only[JQ.injEq,and_true]at h1;obtain⟨f1,f2⟩:=find1 (by simpa using hz);generalize (ZC l ⟨sc,[],n0⟩).1=f at *;subst h1;refine UU hl h2 h3 hy (gs:= [f]) rfl ?_ (by simpa using f1) (by simp[Yx,f2]);have hc:=VB hm ((b2 ⟨⟨sc,nm,n0⟩,f.kind,f.df,f.cases',f.worth⟩).2 (.inr (by simp)));simp only[Gc,Zdn,Zq,YD,Jj,if_false,if_true,Jl,hc,ne_eq,not_true_eq_false];rw[Zjn f _ f2]
 -- split
 simp only[Gc,YD,Jj,if_false,if_true]at h1;split at h1;cases h1;rename_i hz;simp only[JQ.injEq,decide_eq_true_eq]at h1;obtain⟨h1,h4⟩:=h1;obtain⟨f1,f2⟩:=find1 (by simpa using hz);generalize (ZC l ⟨sc,gr,n0⟩).1=f at *;subst h1;have hf:=ZqD (r3 f f1) h4;rw[f2]at hf;refine UU hl h2 h3 hy (gs:= [f]) rfl ?_ (by simpa using f1) (by simp[Yx,f2]);have hc:=VB hm ((b2 ⟨⟨sc,gr,nm⟩,1,[],[],f.worth⟩).2 (.inr (by simp)));have hd:=VB hm ((b2 ⟨⟨sc,gr,ot⟩,1,[],[],IntKind.i64.wrap (f.worth*fac)⟩).2 (.inr (by simp)));simp only[Gc,Gv,Zdn,YD,Jj,if_false,if_true,hc,hd,ne_eq,not_true_eq_false,or_self];rw[<-hf]
 -- wrap
 simp only[Gc,Jj,if_false,if_true]at h1;split at h1;cases h1;rename_i hz;simp only[JQ.injEq,Jh,decide_eq_true_eq]at h1;obtain⟨h1,h4,h5⟩:=h1;obtain⟨f1,f2⟩:=find1 (by simpa using hz);generalize (ZC l ⟨sc,gr,n0⟩).1=f at *;subst h1;have hf:=ZqE (r3 f f1) h4;rw[f2,h5]at hf;refine UU hl h2 h3 hy (gs:= [f]) rfl ?_ (by simpa using f1) (by simp[Yx,f2]);have hc:=VB hm ((b2 ⟨⟨sc,gr,n0⟩,4,[],[],0⟩).2 (.inr (by simp)));simp only[Gc,Zdn,Jj,if_false,if_true,hc,ne_eq,not_true_eq_false,decide_true];rw[<-hf]
 -- convert
 simp only[Gc,Jj,if_false,if_true]at h1;split at h1;cases h1;rename_i hz;simp only[JQ.injEq,decide_eq_true_eq]at h1;obtain⟨h1,h4⟩:=h1;obtain⟨f1,f2⟩:=find1 (by simpa using hz);generalize (ZC l ⟨sc,gr,n0⟩).1=f at *;subst h1;refine UU hl h2 h3 hy (gs:= [f]) rfl ?_ (by simpa using f1) (by simp[Yx,f2]);have hc:=VB hm ((b2 ⟨⟨sc,gr,n0⟩,3,ot,WK ba,0⟩).2 (.inr (by simp)));simp only[Gc,Zdn,Jj,if_false,if_true,hc,ne_eq,not_true_eq_false,decide_true];rw[h4]
open Go.PL
def V0 (w:Int):Int:=(4503599627370496:Int).tdiv w
theorem Zfg {w:Int} (h:1<=w):0<=V0 w/\V0 w<=4503599627370496/\V0 w*w<=4503599627370496/\4503599627370496<(V0 w+1)*w:=by
 unfold V0;have e:(4503599627370496:Int).tdiv w=(4503599627370496:Int) / w:=Int.tdiv_eq_ediv_of_nonneg (by omega);rw[e];have h1:(4503599627370496:Int) / w*w<=4503599627370496:=Int.ediv_mul_le _ (by omega);have h2:=Int.lt_ediv_add_one_mul_self 4503599627370496 (show 0<w by omega);have h3:0<=(4503599627370496:Int) / w:=Int.ediv_nonneg (by omega) (by omega);have h4:(4503599627370496:Int) / w<=4503599627370496:=Int.ediv_le_self _ (by omega);exact⟨h3,h4,h1,h2⟩
def ZjP (u p f:Int):Int×Int:=
 if ¬(2<=f/\f<=1000)then(0,2)else if p < - V0 f\/V0 f<p then(0,3)
 else if WD (IntKind.i64.wrap (u+IntKind.i64.wrap (f*p)))=Ht then(IntKind.i64.wrap (u+IntKind.i64.wrap (f*p)),0)else(0,3)
def Zoq (x:Int×Int):PV:= .tup [.int .i64 x.1,.int .i64 x.2]
theorem Zlm {n:Int} (h: -9223372036854775808<=n/\n<=9223372036854775807):IntKind.i64.wrap n=n:=w64 (by omega)
theorem Zhe (u p f:Int) (hu:Lim u) (hp:Lim p):Pp 278 [.cpx .f64 (X3 u) (X3 p),.int .i64 f] (Zoq (ZjP u p f)):=by
 have hF:=DA f;have hP:=Te u p hu hp;have hA:=Zi3 (IntKind.i64.wrap (u+IntKind.i64.wrap (f*p)));unfold ZjP;by_cases hf:2<=f/\f<=1000;have e1:(decide (2<=f)&&decide (f<=1000))=true:=by simpa using hf
 rw[e1]at hF;rw[if_neg (λh=>h hf)];have ms:=Zfg (w:=f) (by omega);have q1:IntKind.i64.wrap ((4503599627370496:Int).tdiv f)=V0 f:=Zlm (by unfold V0 at ms;omega);have q2:IntKind.i64.wrap (0-V0 f)= - V0 f:=by rw[Zlm (by omega)];omega
 have fz:f≠0:=by omega
 by_cases c1:p < - V0 f;rw[if_pos (.inl c1)];refine ZM func278 rfl ntmps278 results278 (rfl) ?_;simp only[go_sem];refine vc1 hF ?_;simp only[go_sem];refine vc1 hP ?_;simp only[go_sem,q1,q2,fz,c1,Zoq];by_cases c2:V0 f<p;rw[if_pos (.inr c2)];refine ZM func278 rfl ntmps278 results278 (rfl) ?_;simp only[go_sem];refine vc1 hF ?_;simp only[go_sem];refine vc1 hP ?_;simp only[go_sem,q1,q2,fz,c1,c2,Zoq];rw[if_neg (by omega)];cases ha:WD (IntKind.i64.wrap (u+IntKind.i64.wrap (f*p)));rw[ha]at hA;simp only[Jw,if_false];refine ZM func278 rfl ntmps278 results278 (rfl) ?_;simp only[go_sem];refine vc1 hF ?_;simp only[go_sem];refine vc1 hP ?_;simp only[go_sem,q1,q2,fz,c1,c2];refine vc1 hA ?_;simp only[go_sem,Zoq];rw[ha]at hA;simp only[if_true];refine ZM func278 rfl ntmps278 results278 (rfl) ?_;simp only[go_sem];refine vc1 hF ?_;simp only[go_sem];refine vc1 hP ?_;simp only[go_sem,q1,q2,fz,c1,c2];refine vc1 hA ?_;simp only[go_sem,Zoq];have e1:(decide (2<=f)&&decide (f<=1000))=false:=by rw[Kg];simpa using hf
 rw[e1]at hF;rw[if_pos hf];refine ZM func278 rfl ntmps278 results278 (rfl) ?_;simp only[go_sem];refine vc1 hF ?_;simp only[go_sem,Zoq]
structure OkOp (o:Opn):Prop where
 d:o.drops.length<=1000000
theorem Xs (o:Opn) (ho:OkOp o):Pp 247 [opv o] (opv o):=by
 have hr:=YV ho.d (show 16<=1000 by omega);refine ZM func247 rfl ntmps247 results247 (TA _) ?_;simp only[go_sem,opv,SR,Zbx,hr]
def Fj (o:Opn) (i f:Int):Int×Bool:=if o.kind≠3 then(0,Hf)else if i=0 then(o.delta,Ht)else if WD o.delta=Ht then((ZjP 0 o.delta f).1,decide ((ZjP 0 o.delta f).2=0))else(0,Hf)
def Zmn (x:Int×Bool):PV:= .tup [.int .i64 x.1,.bool x.2]
theorem ZdV (o:Opn) (i f:Int):Pp 270 [opv o,.int .i64 i,.int .i64 f] (Zmn (Fj o i f)):=by
 unfold Fj;by_cases k3:o.kind=3;have e3:(o.kind !=3)=false:=by simpa using k3
 rw[if_neg (λh=>h k3)];by_cases i0:i=0;have ei:(i==0)=true:=by simpa using i0
 rw[if_pos i0];refine ZM func270 rfl ntmps270 results270 (rfl) ?_;simp only[go_sem,opv,e3,ei,Zmn];have ei:(i==0)=false:=by simpa using i0
 rw[if_neg i0];have hO:=Zew 0 o.delta;have f0:WD 0=true:=by decide
 cases hd:WD o.delta;rw[if_neg (by rw[hd];simp)]at hO;simp only[Jw,if_false];refine ZM func270 rfl ntmps270 results270 (rfl) ?_;simp only[go_sem,opv,e3,ei];refine vc1 hO ?_;simp only[go_sem,Zmn];rw[if_pos ⟨f0,hd⟩]at hO;have hJ:=Zhe 0 o.delta f (Sn.1 f0) (Sn.1 hd);simp only[if_true];generalize ZjP 0 o.delta f=y at *;obtain⟨n,c⟩:=y;have ec:(c==0)=decide (c=0):=by rw[Kl];simp
 refine ZM func270 rfl ntmps270 results270 (rfl) ?_;simp only[go_sem,opv,e3,ei];refine vc1 hO ?_;simp only[go_sem];refine vc1 hJ ?_;simp only[go_sem,Zoq,ec,Zmn];have e3:(o.kind !=3)=true:=by simpa using k3
 rw[if_pos k3];refine ZM func270 rfl ntmps270 results270 (rfl) ?_;simp only[go_sem,opv,e3,Zmn]
def ZeW (o:Opn) (fo:List Pr):Str×Bool:=if o.kind≠4 then([],Hf)else if o.has=Hf then(o.text,Ht)else X4 fo o.text
theorem Zia (o:Opn) (fo:List Pr) (hf:fo.length<=maxLen):Pp 271 [opv o,prs fo] (Zbj (ZeW o fo)):=by
 have hC:=T8 fo o.text hf;unfold ZeW;obtain⟨id,sch,time,cart,kind,item,at',delta,has,text,drops⟩:=o;simp only at hC ⊢;by_cases k4:kind=4;have e4:(kind !=4)=false:=by simpa using k4
 rw[if_neg (λh=>h k4)];cases has;refine ZM func271 rfl ntmps271 results271 (rfl) ?_;simp only[go_sem,opv,prs,e4,Zbj,if_true];simp only[Jb,if_false];generalize X4 fo text=y at *;obtain⟨s,b⟩:=y;refine ZM func271 rfl ntmps271 results271 (rfl) ?_;simp only[go_sem,opv,prs,e4];refine vc3 hC ?_;simp only[go_sem,Zbj];have e4:(kind !=4)=true:=by simpa using k4
 rw[if_pos k4];refine ZM func271 rfl ntmps271 results271 (rfl) ?_;simp only[go_sem,opv,prs,e4,Zbj]
def ZS (o:Opn) (r:Rf):Opn:=⟨o.id,o.sch,o.time,o.cart,o.kind,o.item,r,o.delta,o.has,o.text,o.drops⟩
def Z3 (o:Opn) (d:Int):Opn:=⟨o.id,o.sch,o.time,o.cart,o.kind,o.item,o.at',d,o.has,o.text,o.drops⟩
def YW (o:Opn) (s:Str):Opn:=⟨o.id,o.sch,o.time,o.cart,o.kind,o.item,o.at',o.delta,o.has,s,o.drops⟩
theorem vcn {x:Bool} {M:KH} {g:FuncId} {args args':List PV} {K:KR} {r:PV} (h1:Pp g args' r) (h2:K.k r M.m) (h0:Kk M.m args:=by first|(simp only[go_sem,ref,ent,UM,doc,Xd,row,Zp,fld,lns,tg,refs,prs,pr,eg,egs,tgs,lg,lgs,YD,opv,tr,ZS,Z3,YW];done)|exact rfl) (he:Kx M.m args=args':=by first|(simp only[go_sem,ref,ent,UM,doc,Xd,row,Zp,fld,lns,tg,refs,prs,pr,eg,egs,tgs,lg,lgs,YD,opv,tr,ZS,Z3,YW];done)|exact rfl):@Vr prog x M (Hs (g,args)) K:=Zk h1 h0 he h2
def Yv (x:Ln) (o:Opn):Opn×Bool:=
 if x.kind=1\/x.kind=4\/x.kind=5 then(o,Ht)
 else if x.kind=6 then(o,decide (o.kind=3))
 else if x.kind=9 then(Z3 o (Fj o (SE (Yx x) o.at') x.fac).1,(Fj o (SE (Yx x) o.at') x.fac).2)
 else if x.kind=7\/x.kind=10 then(o,decide (o.kind=4))
 else if x.kind=8 then(YW o (ZeW o x.fo).1,(ZeW o x.fo).2)
 else(o,Hf)
def F7 (x:Ln) (o:Opn):Opn×Bool:=
 if ZA x=Hf then(Jd,Hf)else if o.kind≠3/\o.kind≠4 then(o,Ht)else if SE (Yx x) o.at'<0 then(o,Ht)
 else if(Yv x o).2=Hf then(Jd,Hf)else(ZS (Yv x o).1 ((Zq x).getD 0 Jd),Ht)
theorem ZiJ (x:Ln) (o:Opn) (hx:OkLn x) (ho:OkOp o):Pp 248 [lns x,opv o] (opb (F7 x o)):=by
 have hR:=X9 x hx;have hO:=Xs o ho;unfold F7;cases hlr:ZA x;rw[hlr]at hR;refine ZM func248 rfl ntmps248 results248 (Zu _) ?_;simp only[go_sem,lns,opv];refine vc3 hR ?_;simp only[go_sem,if_true,opb,Zi];have hk:=(G1 hlr).1;rw[hlr]at hR;simp only[Jb,if_false];by_cases hp:o.kind≠3/\o.kind≠4;rw[if_pos hp];have e1:(o.kind !=3)=true:=by simpa using hp.1
 have e2:(o.kind !=4)=true:=by simpa using hp.2
 refine ZM func248 rfl ntmps248 results248 (Zu _) ?_;simp only[go_sem,lns,opv];refine vc3 hR ?_;simp only[go_sem,e1,e2,opv];refine vc6 hO ?_;simp only[go_sem,opb,opv];rw[if_neg hp];have hG:=DB x hx;have hC:=Zal x hx;have hg:Zdk x=Yx x:=by simp[Zdk,hlr]
 have hc:ZaC x=Zq x:=by simp[ZaC,hlr]
 rw[hg]at hG;rw[hc]at hC;have hI:Pp 269 [refs (Yx x),ref o.at'] (.int .i64 (SE (Yx x) o.at')):=Zet (Yx x) o.at' (by have:=Zjz x;rw[Zd];omega);have pl:((o.kind !=3)=Ht/\(o.kind !=4)=Hf)\/(o.kind !=3)=false:=by
  by_cases k3:o.kind=3;right;simpa using k3;left;refine⟨by simpa using k3,?_⟩;simp only[bne_eq_false_iff_eq];exact Kq λh=>hp ⟨k3,h⟩
 by_cases hi:SE (Yx x) o.at'<0;rw[if_pos hi];rcases pl with ⟨e1,e2⟩|e1;refine ZM func248 rfl ntmps248 results248 (Zu _) ?_;simp only[go_sem,lns,opv];refine vc3 hR ?_;simp only[go_sem,e1,e2,lns];refine vDq ?_;simp only[go_sem,lns,opv];refine vc3 hG ?_;simp only[go_sem,refs];refine vc3 hI ?_;simp only[go_sem,hi,opv];refine vc6 hO ?_;simp only[go_sem,opb,opv];refine ZM func248 rfl ntmps248 results248 (Zu _) ?_;simp only[go_sem,lns,opv];refine vc3 hR ?_;simp only[go_sem,e1,lns];refine vDq ?_;simp only[go_sem,lns,opv];refine vc3 hG ?_;simp only[go_sem,refs];refine vc3 hI ?_;simp only[go_sem,hi,opv];refine vc6 hO ?_;simp only[go_sem,opb,opv];rw[if_neg hi];have hM:=ZdV o (SE (Yx x) o.at') x.fac;have hV:=Zia o x.fo (by have:=hx.f;rw[Zd];omega);obtain⟨kind,at',nm,ot,fac,fd,fo,ba⟩:=x;simp only at hk hM hV;rcases hk with rfl|rfl|rfl|rfl|rfl|rfl|rfl|rfl|rfl|rfl;have hne:(Zq ⟨1,at',nm,ot,fac,fd,fo,ba⟩).length≠0:=by unfold Zq;simp
 have hc0:0<(Zq ⟨1,at',nm,ot,fac,fd,fo,ba⟩).length:=by omega
 have hc1:(0:Int)<((Zq ⟨1,at',nm,ot,fac,fd,fo,ba⟩).length:Int):=by omega
 have hc2:(((Zq ⟨1,at',nm,ot,fac,fd,fo,ba⟩).map ref).getD 0 .any)=ref ((Zq ⟨1,at',nm,ot,fac,fd,fo,ba⟩).getD 0 Jd):=Xw hc0;generalize Zq ⟨1,at',nm,ot,fac,fd,fo,ba⟩=comes at *;have hb:Yv ⟨1,at',nm,ot,fac,fd,fo,ba⟩ o=(o,Ht):=by simp[Yv]
 rw[hb];simp only[Jb,if_false];have hO2:=Xs (ZS o (comes.getD 0 Jd)) ⟨ho.d⟩;rcases pl with ⟨e1,e2⟩|e1;refine ZM func248 rfl ntmps248 results248 (Zu _) ?_;simp only[go_sem,lns,opv];refine vc3 hR ?_;simp only[go_sem,e1,e2,lns];refine vDq ?_;simp only[go_sem,lns,opv];refine vc3 hG ?_;simp only[go_sem,refs];refine vc3 hI ?_;simp only[go_sem,hi,opv,lns];refine vc3 hC ?_;simp only[go_sem,refs,hc1,hc2,ref,opv,ZS,Z3,YW];refine vcn hO2 ?_;simp only[go_sem,opb,opv,ZS,Z3,YW];refine ZM func248 rfl ntmps248 results248 (Zu _) ?_;simp only[go_sem,lns,opv];refine vc3 hR ?_;simp only[go_sem,e1,lns];refine vDq ?_;simp only[go_sem,lns,opv];refine vc3 hG ?_;simp only[go_sem,refs];refine vc3 hI ?_;simp only[go_sem,hi,opv,lns];refine vc3 hC ?_;simp only[go_sem,refs,hc1,hc2,ref,opv,ZS,Z3,YW];refine vcn hO2 ?_;simp only[go_sem,opb,opv,ZS,Z3,YW];exfalso;have:Yx ⟨2,at',nm,ot,fac,fd,fo,ba⟩= []:=by simp[Yx]
 rw[this]at hi;exact hi (by show(-1:Int)<0;omega);have hb:Yv ⟨3,at',nm,ot,fac,fd,fo,ba⟩ o=(o,Hf):=by simp[Yv]
 rw[hb];simp only[if_true];rcases pl with ⟨e1,e2⟩|e1
 ·refine ZM func248 rfl ntmps248 results248 (Zu _) ?_;simp only[go_sem,lns,opv];refine vc3 hR ?_;simp only[go_sem,e1,e2,lns];refine vDq ?_;simp only[go_sem,lns,opv];refine vc3 hG ?_;simp only[go_sem,refs];refine vc3 hI ?_;simp only[go_sem,hi,opv,lns]
  (try simp only[go_sem,opb,Zi])
 ·refine ZM func248 rfl ntmps248 results248 (Zu _) ?_;simp only[go_sem,lns,opv];refine vc3 hR ?_;simp only[go_sem,e1,lns];refine vDq ?_;simp only[go_sem,lns,opv];refine vc3 hG ?_;simp only[go_sem,refs];refine vc3 hI ?_;simp only[go_sem,hi,opv,lns]
  (try simp only[go_sem,opb,Zi])
 have hne:(Zq ⟨4,at',nm,ot,fac,fd,fo,ba⟩).length≠0:=by unfold Zq;simp
 have hc0:0<(Zq ⟨4,at',nm,ot,fac,fd,fo,ba⟩).length:=by omega
 have hc1:(0:Int)<((Zq ⟨4,at',nm,ot,fac,fd,fo,ba⟩).length:Int):=by omega
 have hc2:(((Zq ⟨4,at',nm,ot,fac,fd,fo,ba⟩).map ref).getD 0 .any)=ref ((Zq ⟨4,at',nm,ot,fac,fd,fo,ba⟩).getD 0 Jd):=Xw hc0;generalize Zq ⟨4,at',nm,ot,fac,fd,fo,ba⟩=comes at *;have hb:Yv ⟨4,at',nm,ot,fac,fd,fo,ba⟩ o=(o,Ht):=by simp[Yv]
 rw[hb];simp only[Jb,if_false];have hO2:=Xs (ZS o (comes.getD 0 Jd)) ⟨ho.d⟩;rcases pl with ⟨e1,e2⟩|e1;refine ZM func248 rfl ntmps248 results248 (Zu _) ?_;simp only[go_sem,lns,opv];refine vc3 hR ?_;simp only[go_sem,e1,e2,lns];refine vDq ?_;simp only[go_sem,lns,opv];refine vc3 hG ?_;simp only[go_sem,refs];refine vc3 hI ?_;simp only[go_sem,hi,opv,lns];refine vc3 hC ?_;simp only[go_sem,refs,hc1,hc2,ref,opv,ZS,Z3,YW];refine vcn hO2 ?_;simp only[go_sem,opb,opv,ZS,Z3,YW];refine ZM func248 rfl ntmps248 results248 (Zu _) ?_;simp only[go_sem,lns,opv];refine vc3 hR ?_;simp only[go_sem,e1,lns];refine vDq ?_;simp only[go_sem,lns,opv];refine vc3 hG ?_;simp only[go_sem,refs];refine vc3 hI ?_;simp only[go_sem,hi,opv,lns];refine vc3 hC ?_;simp only[go_sem,refs,hc1,hc2,ref,opv,ZS,Z3,YW];refine vcn hO2 ?_;simp only[go_sem,opb,opv,ZS,Z3,YW];have hne:(Zq ⟨5,at',nm,ot,fac,fd,fo,ba⟩).length≠0:=by unfold Zq;simp
 have hc0:0<(Zq ⟨5,at',nm,ot,fac,fd,fo,ba⟩).length:=by omega
 have hc1:(0:Int)<((Zq ⟨5,at',nm,ot,fac,fd,fo,ba⟩).length:Int):=by omega
 have hc2:(((Zq ⟨5,at',nm,ot,fac,fd,fo,ba⟩).map ref).getD 0 .any)=ref ((Zq ⟨5,at',nm,ot,fac,fd,fo,ba⟩).getD 0 Jd):=Xw hc0;generalize Zq ⟨5,at',nm,ot,fac,fd,fo,ba⟩=comes at *;have hb:Yv ⟨5,at',nm,ot,fac,fd,fo,ba⟩ o=(o,Ht):=by simp[Yv]
 rw[hb];simp only[Jb,if_false];have hO2:=Xs (ZS o (comes.getD 0 Jd)) ⟨ho.d⟩;rcases pl with ⟨e1,e2⟩|e1;refine ZM func248 rfl ntmps248 results248 (Zu _) ?_;simp only[go_sem,lns,opv];refine vc3 hR ?_;simp only[go_sem,e1,e2,lns];refine vDq ?_;simp only[go_sem,lns,opv];refine vc3 hG ?_;simp only[go_sem,refs];refine vc3 hI ?_;simp only[go_sem,hi,opv,lns];refine vc3 hC ?_;simp only[go_sem,refs,hc1,hc2,ref,opv,ZS,Z3,YW];refine vcn hO2 ?_;simp only[go_sem,opb,opv,ZS,Z3,YW];refine ZM func248 rfl ntmps248 results248 (Zu _) ?_;simp only[go_sem,lns,opv];refine vc3 hR ?_;simp only[go_sem,e1,lns];refine vDq ?_;simp only[go_sem,lns,opv];refine vc3 hG ?_;simp only[go_sem,refs];refine vc3 hI ?_;simp only[go_sem,hi,opv,lns];refine vc3 hC ?_;simp only[go_sem,refs,hc1,hc2,ref,opv,ZS,Z3,YW];refine vcn hO2 ?_;simp only[go_sem,opb,opv,ZS,Z3,YW];have hne:(Zq ⟨6,at',nm,ot,fac,fd,fo,ba⟩).length≠0:=by unfold Zq;simp
 have hc0:0<(Zq ⟨6,at',nm,ot,fac,fd,fo,ba⟩).length:=by omega
 have hc1:(0:Int)<((Zq ⟨6,at',nm,ot,fac,fd,fo,ba⟩).length:Int):=by omega
 have hc2:(((Zq ⟨6,at',nm,ot,fac,fd,fo,ba⟩).map ref).getD 0 .any)=ref ((Zq ⟨6,at',nm,ot,fac,fd,fo,ba⟩).getD 0 Jd):=Xw hc0;generalize Zq ⟨6,at',nm,ot,fac,fd,fo,ba⟩=comes at *;have hb:Yv ⟨6,at',nm,ot,fac,fd,fo,ba⟩ o=(o,decide (o.kind=3)):=by simp[Yv]
 rw[hb];by_cases kk:o.kind=3;have e3:(o.kind==3)=true:=by simpa using kk
 simp only[kk,decide_true,Jb,if_false];have hO2:=Xs (ZS o (comes.getD 0 Jd)) ⟨ho.d⟩;rcases pl with ⟨e1,e2⟩|e1;refine ZM func248 rfl ntmps248 results248 (Zu _) ?_;simp only[go_sem,lns,opv];refine vc3 hR ?_;simp only[go_sem,e1,e2,lns];refine vDq ?_;simp only[go_sem,lns,opv];refine vc3 hG ?_;simp only[go_sem,refs];refine vc3 hI ?_;simp only[go_sem,hi,opv,lns,e3];refine vc3 hC ?_;simp only[go_sem,refs,hc1,hc2,ref,opv,ZS,Z3,YW];refine vcn hO2 ?_;simp only[go_sem,opb,opv,kk,ZS,Z3,YW];refine ZM func248 rfl ntmps248 results248 (Zu _) ?_;simp only[go_sem,lns,opv];refine vc3 hR ?_;simp only[go_sem,e1,lns];refine vDq ?_;simp only[go_sem,lns,opv];refine vc3 hG ?_;simp only[go_sem,refs];refine vc3 hI ?_;simp only[go_sem,hi,opv,lns,e3];refine vc3 hC ?_;simp only[go_sem,refs,hc1,hc2,ref,opv,ZS,Z3,YW];refine vcn hO2 ?_;simp only[go_sem,opb,opv,kk,ZS,Z3,YW];have e3:(o.kind==3)=false:=by simpa using kk
 simp only[kk,decide_false,if_true];rcases pl with ⟨e1,e2⟩|e1
 ·refine ZM func248 rfl ntmps248 results248 (Zu _) ?_;simp only[go_sem,lns,opv];refine vc3 hR ?_;simp only[go_sem,e1,e2,lns];refine vDq ?_;simp only[go_sem,lns,opv];refine vc3 hG ?_;simp only[go_sem,refs];refine vc3 hI ?_;simp only[go_sem,hi,opv,lns,e3]
  (try simp only[go_sem,opb,Zi])
 ·refine ZM func248 rfl ntmps248 results248 (Zu _) ?_;simp only[go_sem,lns,opv];refine vc3 hR ?_;simp only[go_sem,e1,lns];refine vDq ?_;simp only[go_sem,lns,opv];refine vc3 hG ?_;simp only[go_sem,refs];refine vc3 hI ?_;simp only[go_sem,hi,opv,lns,e3]
  (try simp only[go_sem,opb,Zi])
 have hne:(Zq ⟨7,at',nm,ot,fac,fd,fo,ba⟩).length≠0:=by unfold Zq;simp
 have hc0:0<(Zq ⟨7,at',nm,ot,fac,fd,fo,ba⟩).length:=by omega
 have hc1:(0:Int)<((Zq ⟨7,at',nm,ot,fac,fd,fo,ba⟩).length:Int):=by omega
 have hc2:(((Zq ⟨7,at',nm,ot,fac,fd,fo,ba⟩).map ref).getD 0 .any)=ref ((Zq ⟨7,at',nm,ot,fac,fd,fo,ba⟩).getD 0 Jd):=Xw hc0;generalize Zq ⟨7,at',nm,ot,fac,fd,fo,ba⟩=comes at *;have hb:Yv ⟨7,at',nm,ot,fac,fd,fo,ba⟩ o=(o,decide (o.kind=4)):=by simp[Yv]
 rw[hb];by_cases kk:o.kind=4;have e3:(o.kind==4)=true:=by simpa using kk
 simp only[kk,decide_true,Jb,if_false];have hO2:=Xs (ZS o (comes.getD 0 Jd)) ⟨ho.d⟩;rcases pl with ⟨e1,e2⟩|e1;refine ZM func248 rfl ntmps248 results248 (Zu _) ?_;simp only[go_sem,lns,opv];refine vc3 hR ?_;simp only[go_sem,e1,e2,lns];refine vDq ?_;simp only[go_sem,lns,opv];refine vc3 hG ?_;simp only[go_sem,refs];refine vc3 hI ?_;simp only[go_sem,hi,opv,lns,e3];refine vc3 hC ?_;simp only[go_sem,refs,hc1,hc2,ref,opv,ZS,Z3,YW];refine vcn hO2 ?_;simp only[go_sem,opb,opv,kk,ZS,Z3,YW];refine ZM func248 rfl ntmps248 results248 (Zu _) ?_;simp only[go_sem,lns,opv];refine vc3 hR ?_;simp only[go_sem,e1,lns];refine vDq ?_;simp only[go_sem,lns,opv];refine vc3 hG ?_;simp only[go_sem,refs];refine vc3 hI ?_;simp only[go_sem,hi,opv,lns,e3];refine vc3 hC ?_;simp only[go_sem,refs,hc1,hc2,ref,opv,ZS,Z3,YW];refine vcn hO2 ?_;simp only[go_sem,opb,opv,kk,ZS,Z3,YW];have e3:(o.kind==4)=false:=by simpa using kk
 simp only[kk,decide_false,if_true];rcases pl with ⟨e1,e2⟩|e1
 ·refine ZM func248 rfl ntmps248 results248 (Zu _) ?_;simp only[go_sem,lns,opv];refine vc3 hR ?_;simp only[go_sem,e1,e2,lns];refine vDq ?_;simp only[go_sem,lns,opv];refine vc3 hG ?_;simp only[go_sem,refs];refine vc3 hI ?_;simp only[go_sem,hi,opv,lns,e3]
  (try simp only[go_sem,opb,Zi])
 ·refine ZM func248 rfl ntmps248 results248 (Zu _) ?_;simp only[go_sem,lns,opv];refine vc3 hR ?_;simp only[go_sem,e1,lns];refine vDq ?_;simp only[go_sem,lns,opv];refine vc3 hG ?_;simp only[go_sem,refs];refine vc3 hI ?_;simp only[go_sem,hi,opv,lns,e3]
  (try simp only[go_sem,opb,Zi])
 have hne:(Zq ⟨8,at',nm,ot,fac,fd,fo,ba⟩).length≠0:=by unfold Zq;simp
 have hc0:0<(Zq ⟨8,at',nm,ot,fac,fd,fo,ba⟩).length:=by omega
 have hc1:(0:Int)<((Zq ⟨8,at',nm,ot,fac,fd,fo,ba⟩).length:Int):=by omega
 have hc2:(((Zq ⟨8,at',nm,ot,fac,fd,fo,ba⟩).map ref).getD 0 .any)=ref ((Zq ⟨8,at',nm,ot,fac,fd,fo,ba⟩).getD 0 Jd):=Xw hc0;generalize Zq ⟨8,at',nm,ot,fac,fd,fo,ba⟩=comes at *;have hb:Yv ⟨8,at',nm,ot,fac,fd,fo,ba⟩ o=(YW o (ZeW o fo).1,(ZeW o fo).2):=by simp[Yv]
 rw[hb];generalize ZeW o fo=y at *;obtain⟨d,b⟩:=y;cases b;simp only[if_true];rcases pl with ⟨e1,e2⟩|e1;refine ZM func248 rfl ntmps248 results248 (Zu _) ?_;simp only[go_sem,lns,opv];refine vc3 hR ?_;simp only[go_sem,e1,e2,lns];refine vDq ?_;simp only[go_sem,lns,opv];refine vc3 hG ?_;simp only[go_sem,refs];refine vc3 hI ?_;simp only[go_sem,hi,opv,lns];refine vc6 hV ?_;simp only[go_sem,Zbj,opb,Zi];refine ZM func248 rfl ntmps248 results248 (Zu _) ?_;simp only[go_sem,lns,opv];refine vc3 hR ?_;simp only[go_sem,e1,lns];refine vDq ?_;simp only[go_sem,lns,opv];refine vc3 hG ?_;simp only[go_sem,refs];refine vc3 hI ?_;simp only[go_sem,hi,opv,lns];refine vc6 hV ?_;simp only[go_sem,Zbj,opb,Zi];simp only[Jb,if_false];have hO2:=Xs (ZS (YW o d) (comes.getD 0 Jd)) ⟨ho.d⟩;rcases pl with ⟨e1,e2⟩|e1;refine ZM func248 rfl ntmps248 results248 (Zu _) ?_;simp only[go_sem,lns,opv];refine vc3 hR ?_;simp only[go_sem,e1,e2,lns];refine vDq ?_;simp only[go_sem,lns,opv];refine vc3 hG ?_;simp only[go_sem,refs];refine vc3 hI ?_;simp only[go_sem,hi,opv,lns];refine vc6 hV ?_;simp only[go_sem,Zbj,lns];refine vc3 hC ?_;simp only[go_sem,refs,hc1,hc2,ref,opv,ZS,Z3,YW];refine vcn hO2 ?_;simp only[go_sem,opb,opv,ZS,Z3,YW];refine ZM func248 rfl ntmps248 results248 (Zu _) ?_;simp only[go_sem,lns,opv];refine vc3 hR ?_;simp only[go_sem,e1,lns];refine vDq ?_;simp only[go_sem,lns,opv];refine vc3 hG ?_;simp only[go_sem,refs];refine vc3 hI ?_;simp only[go_sem,hi,opv,lns];refine vc6 hV ?_;simp only[go_sem,Zbj,lns];refine vc3 hC ?_;simp only[go_sem,refs,hc1,hc2,ref,opv,ZS,Z3,YW];refine vcn hO2 ?_;simp only[go_sem,opb,opv,ZS,Z3,YW];have hne:(Zq ⟨9,at',nm,ot,fac,fd,fo,ba⟩).length≠0:=by unfold Zq;simp
 have hc0:0<(Zq ⟨9,at',nm,ot,fac,fd,fo,ba⟩).length:=by omega
 have hc1:(0:Int)<((Zq ⟨9,at',nm,ot,fac,fd,fo,ba⟩).length:Int):=by omega
 have hc2:(((Zq ⟨9,at',nm,ot,fac,fd,fo,ba⟩).map ref).getD 0 .any)=ref ((Zq ⟨9,at',nm,ot,fac,fd,fo,ba⟩).getD 0 Jd):=Xw hc0;generalize Zq ⟨9,at',nm,ot,fac,fd,fo,ba⟩=comes at *;have hb:Yv ⟨9,at',nm,ot,fac,fd,fo,ba⟩ o=(Z3 o (Fj o (SE (Yx ⟨9,at',nm,ot,fac,fd,fo,ba⟩) o.at') fac).1,(Fj o (SE (Yx ⟨9,at',nm,ot,fac,fd,fo,ba⟩) o.at') fac).2):=by simp[Yv]
 rw[hb];generalize Fj o (SE (Yx ⟨9,at',nm,ot,fac,fd,fo,ba⟩) o.at') fac=y at *;obtain⟨d,b⟩:=y;cases b;simp only[if_true];rcases pl with ⟨e1,e2⟩|e1;refine ZM func248 rfl ntmps248 results248 (Zu _) ?_;simp only[go_sem,lns,opv];refine vc3 hR ?_;simp only[go_sem,e1,e2,lns];refine vDq ?_;simp only[go_sem,lns,opv];refine vc3 hG ?_;simp only[go_sem,refs];refine vc3 hI ?_;simp only[go_sem,hi,opv,lns];refine vc6 hM ?_;simp only[go_sem,Zmn,opb,Zi];refine ZM func248 rfl ntmps248 results248 (Zu _) ?_;simp only[go_sem,lns,opv];refine vc3 hR ?_;simp only[go_sem,e1,lns];refine vDq ?_;simp only[go_sem,lns,opv];refine vc3 hG ?_;simp only[go_sem,refs];refine vc3 hI ?_;simp only[go_sem,hi,opv,lns];refine vc6 hM ?_;simp only[go_sem,Zmn,opb,Zi];simp only[Jb,if_false];have hO2:=Xs (ZS (Z3 o d) (comes.getD 0 Jd)) ⟨ho.d⟩;rcases pl with ⟨e1,e2⟩|e1;refine ZM func248 rfl ntmps248 results248 (Zu _) ?_;simp only[go_sem,lns,opv];refine vc3 hR ?_;simp only[go_sem,e1,e2,lns];refine vDq ?_;simp only[go_sem,lns,opv];refine vc3 hG ?_;simp only[go_sem,refs];refine vc3 hI ?_;simp only[go_sem,hi,opv,lns];refine vc6 hM ?_;simp only[go_sem,Zmn,lns];refine vc3 hC ?_;simp only[go_sem,refs,hc1,hc2,ref,opv,ZS,Z3,YW];refine vcn hO2 ?_;simp only[go_sem,opb,opv,ZS,Z3,YW];refine ZM func248 rfl ntmps248 results248 (Zu _) ?_;simp only[go_sem,lns,opv];refine vc3 hR ?_;simp only[go_sem,e1,lns];refine vDq ?_;simp only[go_sem,lns,opv];refine vc3 hG ?_;simp only[go_sem,refs];refine vc3 hI ?_;simp only[go_sem,hi,opv,lns];refine vc6 hM ?_;simp only[go_sem,Zmn,lns];refine vc3 hC ?_;simp only[go_sem,refs,hc1,hc2,ref,opv,ZS,Z3,YW];refine vcn hO2 ?_;simp only[go_sem,opb,opv,ZS,Z3,YW];have hne:(Zq ⟨10,at',nm,ot,fac,fd,fo,ba⟩).length≠0:=by unfold Zq;simp
 have hc0:0<(Zq ⟨10,at',nm,ot,fac,fd,fo,ba⟩).length:=by omega
 have hc1:(0:Int)<((Zq ⟨10,at',nm,ot,fac,fd,fo,ba⟩).length:Int):=by omega
 have hc2:(((Zq ⟨10,at',nm,ot,fac,fd,fo,ba⟩).map ref).getD 0 .any)=ref ((Zq ⟨10,at',nm,ot,fac,fd,fo,ba⟩).getD 0 Jd):=Xw hc0;generalize Zq ⟨10,at',nm,ot,fac,fd,fo,ba⟩=comes at *;have hb:Yv ⟨10,at',nm,ot,fac,fd,fo,ba⟩ o=(o,decide (o.kind=4)):=by simp[Yv]
 rw[hb];by_cases kk:o.kind=4;have e3:(o.kind==4)=true:=by simpa using kk
 simp only[kk,decide_true,Jb,if_false];have hO2:=Xs (ZS o (comes.getD 0 Jd)) ⟨ho.d⟩;rcases pl with ⟨e1,e2⟩|e1;refine ZM func248 rfl ntmps248 results248 (Zu _) ?_;simp only[go_sem,lns,opv];refine vc3 hR ?_;simp only[go_sem,e1,e2,lns];refine vDq ?_;simp only[go_sem,lns,opv];refine vc3 hG ?_;simp only[go_sem,refs];refine vc3 hI ?_;simp only[go_sem,hi,opv,lns,e3];refine vc3 hC ?_;simp only[go_sem,refs,hc1,hc2,ref,opv,ZS,Z3,YW];refine vcn hO2 ?_;simp only[go_sem,opb,opv,kk,ZS,Z3,YW];refine ZM func248 rfl ntmps248 results248 (Zu _) ?_;simp only[go_sem,lns,opv];refine vc3 hR ?_;simp only[go_sem,e1,lns];refine vDq ?_;simp only[go_sem,lns,opv];refine vc3 hG ?_;simp only[go_sem,refs];refine vc3 hI ?_;simp only[go_sem,hi,opv,lns,e3];refine vc3 hC ?_;simp only[go_sem,refs,hc1,hc2,ref,opv,ZS,Z3,YW];refine vcn hO2 ?_;simp only[go_sem,opb,opv,kk,ZS,Z3,YW];have e3:(o.kind==4)=false:=by simpa using kk
 simp only[kk,decide_false,if_true];rcases pl with ⟨e1,e2⟩|e1
 ·refine ZM func248 rfl ntmps248 results248 (Zu _) ?_;simp only[go_sem,lns,opv];refine vc3 hR ?_;simp only[go_sem,e1,e2,lns];refine vDq ?_;simp only[go_sem,lns,opv];refine vc3 hG ?_;simp only[go_sem,refs];refine vc3 hI ?_;simp only[go_sem,hi,opv,lns,e3]
  (try simp only[go_sem,opb,Zi])
 refine ZM func248 rfl ntmps248 results248 (Zu _) ?_;simp only[go_sem,lns,opv];refine vc3 hR ?_;simp only[go_sem,e1,lns];refine vDq ?_;simp only[go_sem,lns,opv];refine vc3 hG ?_;simp only[go_sem,refs];refine vc3 hI ?_;simp only[go_sem,hi,opv,lns,e3]
 (try simp only[go_sem,opb,Zi])
open Go.PL
structure ChT where
 l:List Fd
 n:Nat
 c:Int
def Zi9:List Fd->List Ln->Nat->ChT
 |fs,[],i=>⟨fs,i,0⟩
 |fs,x::xs,i=>if(YQ fs x).2≠0 then⟨[],i,(YQ fs x).2⟩else Zi9 (YQ fs x).1 xs (i+1)
structure ChS (l:List Fd) (row:List Ln) where
 k:Nat
 fs:List Fd
 hk:k<=row.length
 ok:OkFs fs
 h:Zi9 fs (row.drop k) k=Zi9 l row 0
theorem Zog {row:List Ln} {k:Nat} (hk:k<row.length):row.drop k=row.getD k Jd::row.drop (k+1):=by
 rw[getD_lt hk,List.drop_eq_getElem_cons hk]
open Go.PL
theorem ZhG {e:Eg} {w:List Eg} {fs gs:List Fd} (h:VL (e::w) fs=Hs gs):∃f1,YQ fs e.ln=(f1,0)/\VL w f1=Hs gs:=by
 simp only[VL]at h;split at h;cases h;rename_i hz;exact⟨(YQ fs e.ln).1,Prod.ext rfl (KA.1 hz),h⟩
theorem D3:∀(w:List Eg) {fs gs:List Fd},(∀e∈w,e.ln.kind<=8)->Yj fs=Ht->VL w fs=Hs gs->Yj gs=Ht
 | [],fs,gs,_,hr,h=>by cases h;exact hr
 |e::w,fs,gs,hk,hr,h=>by
  obtain⟨f1,ha,hw⟩:=ZhG h;exact D3 w (λx hx=>hk x (by simp[hx])) (DK (ZiY (hk e (by simp)) ha)).1 hw
theorem Zh9:Yj FA=true:=by decide
theorem Zjl {e:Eg} (h:TT e=Ht):e.ln.kind<=8:=by
 simp only[TT,Jh,decide_eq_true_eq]at h;exact h.2.2.2.1
open Go.PL
def Zor:List Ln->Rf->Bool
 | [],r=>Ht
 |x::xs,r=>if ZsL x r=Hf then Hf else if(ZnU x r).2=Hf then Hf else Zor xs (ZnU x r).1
structure TrS (row:List Ln) (f:List Ln->Rf->Rf×Bool) (r0:Rf) where
 k:Nat
 r:Rf
 hk:k<=row.length
 h:f (row.drop k) r=f row r0
structure KpS (row:List Ln) (r0:Rf) where
 k:Nat
 r:Rf
 hk:k<=row.length
 h:Zor (row.drop k) r=Zor row r0
theorem ZqH {m:List Eg} {a b:Tg} (hm:OkM m):(Zky m a b).1.length<=1000/\ ∀x∈(Zky m a b).1,OkLn x:=by
 unfold Zky;split;simp;rename_i h;have hl:=Zgw m a b hm;unfold Zh1 at hl;rw[if_neg h]at hl;refine⟨by simp only at hl;simp[ZaV];omega,λx hx=> ?_⟩;obtain⟨y,_,rfl⟩:=Je.1 hx;exact Zqu hm y
open Go.PL
structure Pair (l m:List Fd) (x y:Ln):Prop where
 a:YQ l x=(m,0)
 b:YQ m y=(l,0)
 g:Yx y=Zq x
 c:Zq y=Yx x
theorem Pair.back {l m:List Fd} {x y:Ln} (h:Pair l m x y):Pair m l y x:=⟨h.b,h.a,h.c.symm,h.g.symm⟩
theorem Pair.right {l m:List Fd} {x y:Ln} (h:Pair l m x y):ZA x=true:=(DK h.a).2.1
inductive Pairs:List Fd->List Fd->List Ln->List Ln->Prop
 |nil (l:List Fd):Pairs l l [] []
 |cons {l m n:List Fd} {x y:Ln} {xs ys:List Ln} (h:Pair l m x y) (hs:Pairs m n xs ys):Pairs l n (x::xs) (ys++ [y])
theorem Pairs.append {l m n:List Fd} {xs ys us vs:List Ln} (h1:Pairs l m xs ys) (h2:Pairs m n us vs):Pairs l n (xs++us) (vs++ys):=by
 induction h1 with
 |nil=>simpa using h2
 |cons h hs ih=>rw[<-List.append_assoc];exact .cons h (ih h2)
theorem Pairs.back {l m:List Fd} {xs ys:List Ln} (h:Pairs l m xs ys):Pairs m l ys xs:=by
 induction h with
 |nil=>exact .nil _
 |cons h hs ih=>exact ih.append (.cons h.back (.nil _))
open Go.PL Go.PL.Srt
def XM (a b:Opn):Bool:=if a.time=b.time then ZW a.id b.id else decide (a.time<b.time)
theorem Zap (a b:Opn):Pp 153 [opv a,opv b] (.bool (XM a b)):=by
 have hT:=Zaw a.id b.id;unfold XM;by_cases h:a.time=b.time;have e:(a.time !=b.time)=false:=by simpa using h
 rw[if_pos h];refine ZF func153 rfl ntmps153 results153 ?_;simp only[go_sem,opv,e];refine vc3 hT ?_;simp only[go_sem];have e:(a.time !=b.time)=true:=by simpa using h
 rw[if_neg h];refine ZF func153 rfl ntmps153 results153 ?_;simp only[go_sem,opv,e]
def ZmG (a b:Opn):Int:=if XM a b=Ht then-1 else if XM b a=Ht then 1 else 0
theorem Zev (a b:Opn):Pp 119 [opv a,opv b] (.int .i64 (ZmG a b)):=by
 have h1:=Zap a b;have h2:=Zap b a;unfold ZmG;cases e1:XM a b
 ·cases e2:XM b a;all_goals
   rw[e1]at h1;rw[e2]at h2;refine ZF func119 rfl ntmps119 results119 ?_;simp only[go_sem,opv];refine vc6 h1 ?_;simp only[go_sem];refine vc6 h2 ?_;simp only[go_sem]
 rw[e1]at h1;refine ZF func119 rfl ntmps119 results119 ?_;simp only[go_sem,opv];refine vc6 h1 ?_;simp only[go_sem]
theorem V7 (a b:Tg):ZW a b=Ht↔a.r<b.r\/(a.r=b.r/\a.n<b.n):=by
 unfold ZW;split;rename_i h;rw[decide_eq_true_eq];exact⟨λk=> .inr ⟨h,k⟩,λk=>by rcases k with k|k;exact absurd h (by omega);exact k.2⟩;rename_i h;rw[decide_eq_true_eq];exact⟨.inl,λk=>by rcases k with k|k;exact k;exact absurd k.1 h⟩
theorem Zin {a b:Tg} (h:ZW a b=Ht):ZW b a=false:=by
 rw[Kg,ne_eq,V7];rw[V7]at h;omega
theorem ZfK {a b c:Tg} (h1:ZW a b=Ht) (h2:ZW b c=Ht):ZW a c=true:=by
 rw[V7]at *;omega
theorem ZkU {a b:Tg} (h:a≠b):ZW a b=Ht\/ZW b a=true:=by
 rw[V7,V7];by_cases e:a.r=b.r;have hn:a.n≠b.n:=λen=>h (by cases a;cases b;simp only at e en;subst e en;rfl)
 omega;omega
theorem Ty:Srt.Good XM where
 asym a b h:=by
  unfold XM at *
  by_cases e:a.time=b.time
  ·rw[if_pos e]at h;rw[if_pos e.symm];exact Zin h
  ·rw[if_neg e]at h;rw[if_neg (λx=>e x.symm)];simp at h ⊢;omega
 trans a b c h1 h2:=by
  unfold XM at *
  by_cases p:a.time=b.time
  ·rw[if_pos p]at h1
   by_cases q:b.time=c.time
   ·rw[if_pos q]at h2;rw[if_pos (p.trans q)];exact ZfK h1 h2
   ·rw[if_neg q]at h2;rw[if_neg (λx=>q (p.symm.trans x))];simp at h2 ⊢;omega
  ·rw[if_neg p]at h1
   by_cases q:b.time=c.time
   ·rw[if_pos q]at h2;rw[if_neg (λx=>p (x.trans q.symm))];simp at h1 ⊢;omega
   ·rw[if_neg q]at h2;simp at h1 h2;rw[if_neg (by omega)];simp;omega
theorem Zkf {a b:Opn} (h:a.id≠b.id):XM a b=Ht\/XM b a=true:=by
 unfold XM;by_cases e:a.time=b.time;rw[if_pos e,if_pos e.symm];exact ZkU h;rw[if_neg e,if_neg (λx=>e x.symm)];simp;omega
theorem ops_sort:SortK opv 119 XM ZmG where
 len _:=rfl
 atom a:=rfl
 ids a:=by simp[opv,J7,PV.idsL]
 known _:=rfl
 give a m:=by simp[opv,PV.give,Kx]
 givable a m:=by simp[opv,PV.givable,Kk]
 part a:=rfl
 cmp:=Zev
 cv a b:=by
  unfold ZmG;cases h1:XM a b
  ·cases h2:XM b a<;>simp
  ·simp
 good:=Ty
def Zr (l:List Opn):PV:= .sl .no (l.map opv)
theorem vc7 {x:Bool} {M:KH} {g:FuncId} {args args':List PV} {K:KR} {r:PV} (h1:Pp g args' r) (h2:K.k r M.m) (h0:Kk M.m args:=by first|(simp only[go_sem,ref,ent,UM,doc,Xd,row,Zp,fld,lns,tg,refs,prs,pr,eg,egs,tgs,lg,lgs,YD,opv,tr,Zr];done)|exact rfl) (he:Kx M.m args=args':=by first|(simp only[go_sem,ref,ent,UM,doc,Xd,row,Zp,fld,lns,tg,refs,prs,pr,eg,egs,tgs,lg,lgs,YD,opv,tr,Zr];done)|exact rfl):@Vr prog x M (Hs (g,args)) K:=Zk h1 h0 he h2
theorem Yt (l:List Opn):Sized 15 (l.map opv):=λe he=>by
 obtain⟨o,_,rfl⟩:=Je.1 he;rfl
theorem Wj (l:List Opn):XQ (l.map opv):=λe he=>by
 obtain⟨o,_,rfl⟩:=Je.1 he;rfl
theorem Zl3 (l:List Opn):Jr (l.map opv)= []:=by
 induction l with
 |nil=>rfl
 |cons o l ih=>simp only[Jn,Jr,TA,ih,Ja]
theorem U1 (l:List Opn):(Zr l).dids= []:=by simp only[Zr,JB,Zl3]
theorem ZI {l:List Opn} {k:Nat} (h:k<l.length):(l.map opv).getD k .any=opv (l.getD k Jd):=WM h
theorem XF (o:Opn):(opv o).ids= []:=ops_sort.ids o
theorem T9 (o:Opn) (ho:OkOp o):Pp 59 [opv o] (opv o):=by
 have hr:=YV ho.d (show 16<=1000 by omega);refine ZM func59 rfl ntmps59 results59 (TA _) ?_;simp only[go_sem,opv,SR,Zbx,hr]
def Uh (l:List Opn) (most:Int):Bool:=decide (most<(l.length:Int))||l.any TM
theorem FX (l:List Opn) (most:Int) (hl:l.length<=maxLen):Pp 8 [Zr l,.int .i64 most] (.bool (Uh l most)):=by
 by_cases hm:most<(l.length:Int);refine ZF func8 rfl ntmps8 results8 ?_;simp only[go_sem,Zr,hm,Uh];have hz:Uh l most=l.any TM:=by simp only[Uh,hm,decide_false,Bool.false_or]
 rw[hz];refine ZF func8 rfl ntmps8 results8 ?_;simp only[go_sem,Zr,hm];refine Zz (ι:= { x:Nat // x<=(l).length/\(∀j,j<x->TM (l.getD j Jd)=Hf) }) 21 (λx=> [(0,Zr l),(5,.int .i64 (x.1:Int))]) (λx=> []) (λx=> []) (λx=>(l).length-x.1) ⟨0,Jc _,λj hj=>absurd hj (Nat.not_lt_zero j)⟩ ⟨rfl,(Fc2 rfl rfl),fnl,fnl⟩ (λx=>⟨(Fc2 rfl rfl),fnl⟩) (λx=> ?_);obtain⟨k,hk,hI⟩:=x;simp only at hk hI ⊢;by_cases h:(k:Int)<(l.length:Int)
 (have hka:k<(l).length:=by omega);(have w1:=Vt hka (hl));(have i1:=Jf k)
 have hF:=ZcH (l.getD k Jd);cases hf:TM (l.getD k Jd)
 ·rw[hf]at hF;simp only[go_sem,Zr,h,ZI hka,opv,i1];refine vc6 hF ?_;simp only[go_sem,w1];exact⟨⟨k+1,by(try simp only);omega,Zn hI hf⟩,by show(l).length-(k+1)<(l).length-k;omega,⟨rfl,(Fc2 rfl rfl),fnl,fnl⟩⟩
 rw[hf]at hF;have hz:=Uc (p:=TM) hka hf;simp only[go_sem,Zr,h,ZI hka,opv,i1];refine vc6 hF ?_;simp only[go_sem,hz];have hz:=VQ (p:=TM) (d:=Jd) (l:=l) (λj hj=>hI j (by omega));simp only[go_sem,Zr,h,hz]
theorem ZsP {l:List Opn} {most:Nat} (h:Uh l (most:Int)=Hf):l.length<=most/\ ∀o∈l,OkOp o:=by
 simp only[Uh,JJ,decide_eq_false_iff_not,Ke]at h;refine⟨by omega,λo ho=>⟨?_⟩⟩;have:=h.2 o ho;simp only[TM,Bool.not_eq_true,JJ,decide_eq_false_iff_not]at this;omega
def apartB (l:List Opn):Bool:=decide (l.map Opn.id).Nodup
open Go.PL
open Go.Shelf Go.RowKit Go.Lib Go.Sort
def flatStr:Flat Str where
 p:= .str
 v:=λs=> [.string ⟨⟨s⟩⟩]
 sz:=1
 pos:=by decide
 hp:=λ_=>rfl
 hv:=λ_=>rfl
 to:=λS x j u hj h=>by
  match j,hj with
  |0,_=>cases h;rfl
 of:=λS x j hj=>by
  match j,hj with
  |0,_=>exact .str _
theorem ZsI {w:World} {b o:Nat} {vs:List Value} {e:TypeId} (h:w.heap[b]? = Hs (.cells ⟨vs⟩ e (0,0))) (ho:o<vs.length):w.cell? ⟨b,o,none⟩=Hs (vs.getD o undef):=by
 rw[YB h,JT ho,PL.getD_lt ho]
theorem Zt4 (xs:List Str) (j:Nat) (h:j<xs.length):xs.toArray[j]! = xs.getD j Jd:=by
 rw[PL.getD_lt h];simp[h]
theorem Za7 {w:World} {b:Nat} {xs:List Str} {e:TypeId} {vs:List Value} (hw:w.heap[b]? = Hs (.cells ⟨vs⟩ e (0,0))) (hl:xs.length*flatStr.sz<=vs.length)
  (hv:∀i j,i<xs.length->j<flatStr.sz->vs.getD (i*flatStr.sz+j) undef=(flatStr.v (xs.getD i Jd)).getD j undef):Holds encStr w b 0 xs.toArray:=by
 intro j hj;have hj':j<xs.length:=by simpa using hj
 have hl':xs.length<=vs.length:=by simpa[flatStr]using hl
 have h1:=hv j 0 hj' (by decide);simp only[flatStr,Ky,Kt,Jl]at h1;rw[Nat.zero_add,Zt4 xs j hj'];refine⟨?_,?_⟩;rw[ZsI hw (by omega),h1];simp[World.frozen?,hw]
theorem ZgK {w:World} {b c n lo:Nat} {xs ys rest:List Str} {e:TypeId} {vs:List Value} {os:Array Obj} (hlo:lo<=b) (hc:xs.length<=c) (hw:w.heap[b]? = Hs (.cells ⟨vs⟩ e (0,0))) (hl:xs.length*flatStr.sz<=vs.length) (hy:(ys++rest).length=xs.length):
  UH flatStr (grow (putRow encStr (Sort.ahead w n) b 0 (ys++rest).toArray) os) lo ys (.slice (Hs ⟨b,0,none⟩) ys.length c)/\BelowF (λk=>k<lo) w (grow (putRow encStr (Sort.ahead w n) b 0 (ys++rest).toArray) os):=by
 have hb:b<w.heap.size:=(JN.1 hw).1;have hl':xs.length<=vs.length:=by simpa[flatStr]using hl
 have hyl:ys.length<=xs.length:=by rw[<-hy];simp
 have hs:(grow (putRow encStr (Sort.ahead w n) b 0 (ys++rest).toArray) os).heap=w.heap.modify b (onCells (putCells encStr 0 (ys++rest).toArray))++os:=rfl;have hat:∀k,k<w.heap.size->(grow (putRow encStr (Sort.ahead w n) b 0 (ys++rest).toArray) os).heap[k]? = (w.heap.modify b (onCells (putCells encStr 0 (ys++rest).toArray)))[k]? :=λk hk=>by
  rw[hs,Array.getElem?_append_left (by simpa using hk)]
 refine⟨.inr ⟨b,c,e,(putCells encStr 0 (ys++rest).toArray ⟨vs⟩).toList,hlo,rfl,by omega,?_,?_,λi j hi hj=> ?_⟩,?_⟩;rw[hat b hb,J3,if_pos rfl,hw];rfl;show ys.length*1<=_;simp only[putCells,Array.length_toList,Array.size_mapIdx,List.size_toArray];omega;have hj0:j=0:=by have:j<1:=hj;omega
 subst hj0;have hiv:i<vs.length:=by omega
 show(putCells encStr 0 (ys++rest).toArray ⟨vs⟩).toList.getD (i*1+0) undef= [Value.string ⟨⟨ys.getD i Jd⟩⟩].getD 0 undef;simp only[Ky,Kt,Jl];rw[PL.getD_lt (by simpa[putCells]using hiv)];simp only[putCells,Array.getElem_toList,Array.getElem_mapIdx];rw[if_pos ⟨Jc _,by simp;omega⟩];simp only[Nat.sub_zero];rw[Zt4 (ys++rest) i (by simp;omega),PL.getD_lt (by simp;omega),PL.getD_lt hi,JS hi];refine⟨rfl,rfl,rfl,?_,λk hk=> ?_⟩;rw[hs];simp;have hk':k<lo:=hk;rw[hat k (by omega),J3,if_neg (by omega)]
def SS (xs:List Str):List Str:=xs.mergeSort λx y=>decide (x<=y)
theorem Zid (xs:List Str) (lo:Nat) (w:World) (v:Value) (hx:xs.length<=1000000) (hr:UH flatStr w lo xs v) (hlo:lo<=w.heap.size):
  Calls prog 123 #[v] w λe w'=>e= .returned (.tuple #[])/\UH flatStr w' lo (SS xs) v/\BelowF (λk=>k<lo) w w':=by
 rcases hr with ⟨h0,rfl⟩|⟨b,c,e,vs,h1,rfl,h3,h4,h5,h6⟩;obtain rfl:=JY.1 h0;refine(Any.slices_Sort_string_none ZkE none 0 w).mono λe w' ⟨he,hw⟩=> ?_
 subst hw;exact⟨he,.inl ⟨by simp[SS],rfl⟩,Kz _ _⟩;have hb:b<w.heap.size:=(JN.1 h4).1;refine(Any.slices_Sort_string ZkE b 0 c xs w (Za7 h4 h5 h6) hb (by omega)).mono λe w' ⟨he,n,os,hw⟩=>⟨he,?_⟩
 have hly:(SS xs++ []).length=xs.length:=by simp[SS]
 have hrs:=ZgK (ys:=SS xs) (rest:= []) (n:=n) (os:=os) h1 h3 h4 h5 hly;rw[Ja]at hrs hly;rw[hly]at hrs;rw[hw];exact hrs
theorem Ue (xs:List Str):(Lib.compact xs).length<=xs.length:=by
 unfold Lib.compact Lib.compactUpTo;rw[Js];exact J9 (Jy _ _) (by simp)
theorem Zhx (xs:List Str) (lo:Nat) (w:World) (v:Value) (hx:xs.length<=1000000) (hr:UH flatStr w lo xs v):
  Calls prog 124 #[v] w λe w'=>∃u,e= .returned u/\UH flatStr w' lo (Lib.compact xs) u/\BelowF (λk=>k<lo) w w':=by
 rcases hr with ⟨h0,rfl⟩|⟨b,c,e,vs,h1,rfl,h3,h4,h5,h6⟩;obtain rfl:=JY.1 h0;refine(Any.slices_Compact_string_empty Zja none 0 w).mono λe w' ⟨he,hw⟩=> ?_
 subst hw;exact⟨_,he,.inl ⟨by have:=Ue [];simpa using this,rfl⟩,Kz _ _⟩;refine(Any.slices_Compact_string Zja b 0 c xs w (Za7 h4 h5 h6) (by omega) h3).mono λe w' ⟨he,n,hw⟩=>⟨_,he,?_⟩
 have hcl:=Ue xs;have hrs:=ZgK (ys:=Lib.compact xs) (rest:=List.replicate (xs.length-(Lib.compact xs).length) []) (n:=n) (os:= #[]) h1 h3 h4 h5 (by simp;omega);have hg:∀W:World,grow W #[]=W:=λW=>by simp[grow]
 rw[hg]at hrs;rw[hw];exact hrs
def Xf (l:List Opn) (c:Str):List Str:=(l.filter λo=>o.kind==1&&o.cart==c).map Opn.item
def GW (l:List Opn) (c:Str):List Str:=Lib.compact (SS (Xf l c))
theorem Zfh {l:List Opn} {k:Nat} (c:Str) (h:k<l.length):Xf (l.take (k+1)) c=Xf (l.take k) c++(if((l.getD k Jd).kind==1&&(l.getD k Jd).cart==c)=Ht then [(l.getD k Jd).item]else []):=by
 unfold Xf;rw[ZT (d:=Jd) h,J8,Jq];congr 1;generalize l.getD k Jd=x;cases hr:(x.kind==1&&x.cart==c);rw[JZ (by rw[hr];simp),if_neg (by simp)];rfl;rw[J2 (by exact hr),if_pos rfl];rfl
theorem Tx (l:List Opn) (c:Str):(Xf l c).length<=l.length:=by unfold Xf;rw[Js];exact Jy _ _
theorem Zbc (l:List Str):Sized 1 (l.map .str):=λe he=>by
 obtain⟨o,_,rfl⟩:=Je.1 he;rfl
theorem ZhS (l:List Opn) (ct:Str) (hl:l.length<=100000) {c:Code} (hc:f69.body=Hs c):ZnT prog (λs=>s.n=33/\s.fr 5= .sl (.row 27) ((Xf l ct).map .str)/\s.m.q 27=Hs (.live (Xf l ct).length 1 9)) 3 c (St.init [Zr l,.str ct] 33):=by
 cases hc;have hlm:l.length<=maxLen:=by rw[Zd];omega
 refine TG ?_;simp only[go_sem];refine TG ?_;simp only[go_sem];refine TG ?_;simp only[go_sem,Zr];refine Y6 5 27 1 9 rfl rfl ?_;refine Zz (ι:= { x:Nat // x<=(l).length }) 33 (λx=> [(1,.str ct),(5,.sl (.row 27) ((Xf (l.take x.1) ct).map .str)),(8,Zr l),(9,.int .i64 (l.length:Int)),(10,.int .i64 (x.1:Int))]) (λx=> []) (λx=> [(27,.live ((Xf (l.take x.1) ct).length) (1) (9))]) (λx=>(l).length-x.1) ⟨0,Jc _⟩ ⟨rfl,(Fc5 rfl rfl rfl rfl rfl),fnl,(fcs rfl fnl)⟩ (λx=>⟨(Fc5 rfl (by simp[J7,ZN]) rfl rfl rfl),fnl⟩) (λx=> ?_);obtain⟨k,hk⟩:=x;simp only at hk ⊢;by_cases h:(k:Int)<(l.length:Int)
 (have hka:k<(l).length:=by omega);(have w1:=Vt hka (hlm));(have i1:=Jf k)
 have hsn:=Zfh ct hka;have hnl:=Tx (l.take k) ct;have htl:(l.take k).length<=k:=J6 _ _;have hrm:=YV (show(Xf (l.take k) ct).length+1<=1000000 by omega) (show 16<=1000 by omega);have hml:((Xf (l.take k) ct).map KB).length=(Xf (l.take k) ct).length:=Js _;have hsz:=Zbc (Xf (l.take k) ct);generalize hx:l.getD k Jd=x at *;cases k1:(x.kind==1);rw[k1,Kn,if_neg (by simp),Ja]at hsn;simp only[go_sem,Zr,h,ZI hka,hx,opv,i1,k1,w1];exact⟨⟨k+1,by omega⟩,nx9 (by omega),⟨rfl,by simp only;rw[hsn];exact(Fc5 rfl rfl rfl rfl rfl),fnl,by simp only;rw[hsn];exact fcs rfl fnl⟩⟩;cases k2:(x.cart==ct);rw[k1,k2,Ko,if_neg (by simp),Ja]at hsn;simp only[go_sem,Zr,h,ZI hka,hx,opv,i1,k1,k2,w1];exact⟨⟨k+1,by omega⟩,nx9 (by omega),⟨rfl,by simp only;rw[hsn];exact(Fc5 rfl rfl rfl rfl rfl),fnl,by simp only;rw[hsn];exact fcs rfl fnl⟩⟩;rw[k1,k2,Ks,if_pos rfl]at hsn;simp only[go_sem,Zr,h,ZI hka,hx,opv,i1,k1,k2,w1,hml,hsz,hrm];exact⟨⟨k+1,by omega⟩,nx9 (by omega),⟨rfl,by simp only;rw[hsn,Jq];exact(Fc5 rfl rfl rfl rfl rfl),fnl,by simp only;rw[hsn,JC];exact fcs rfl fnl⟩⟩;have htk:l.take k=l:=Jo (by omega);simp only[go_sem,Zr,h,htk];exact⟨rfl,rfl,rfl⟩
theorem ZhR (l:List Opn) (ct:Str) (hl:l.length<=100000):Pp 69 [Zr l,.str ct] (.sl .no ((GW l ct).map .str)):=by
 have hnl:=Tx l ct;refine PL.Pure.tail flatStr (k:=3) (i:=5) (d:=27) (N:=33) (G:=λxs=>xs=Xf l ct) (g:=λxs=>Lib.compact (SS xs)) func69 (by decide) rfl (by show 2<=33;decide) (by simp only[JB,Wo]) (ZhS l ct hl rfl) (λs ⟨h2,h3,h4⟩=>⟨Xf l ct,_,rfl,h2,h3,h4⟩) ?_ (λxs h=>by rw[h];rfl);intro xs lo a w hG hd hN hr hlo;subst hG;have hcall:=Zid _ lo w _ (by omega) hr hlo;refine Zep (N:=33) hN (by decide) (by decide) (by decide) (by decide) (by decide) (by decide) (by decide) func123 (by decide) (by intro h;cases h) func124 (by decide) (by intro h;cases h) ?_;refine hcall.mono λe w' ⟨he,h1,h2⟩=>⟨_,he,?_⟩
 refine(Zhx _ lo w' _ (by simp[SS];omega) h1).mono λe w'' ⟨u,he,h3,h4⟩=>⟨u,he,λa' hd' hr'=>⟨.inr rfl,by rw[hd',hd],?_⟩⟩
 exact⟨a'.tmps.getD 4 undef,Go.results_tmp rfl _ _ _,by rw[hr'];exact h3,h2.trans h4⟩
open Go.PL
def ZmK (a b:Int):PV:=if WD a=Ht/\WD b=Ht then .tup [.cpx .f64 (X3 a) (X3 b),.int .i64 0]else .tup [.cpx .f64 0 0,.int .i64 3]
theorem Zjr:X3 0=0:=by decide+kernel
theorem ZiL (a b c d:Int) (ha:Lim a) (hb:Lim b) (hc:Lim c) (hd:Lim d):Pp 162 [.cpx .f64 (X3 a) (X3 b),.cpx .f64 (X3 c) (X3 d)] (ZmK (a+c) (b+d)):=by
 have hW1:=Ga a b ha hb;have hW2:=Ga c d hc hd;have hP1:=Te a b ha hb;have hP2:=Te c d hc hd;have hO:=Zew (a+c) (b+d);have w1:IntKind.i64.wrap (a+c)=a+c:=w64 (by obtain⟨_,_⟩:=ha;obtain⟨_,_⟩:=hc;omega);have w2:IntKind.i64.wrap (b+d)=b+d:=w64 (by obtain⟨_,_⟩:=hb;obtain⟨_,_⟩:=hd;omega);unfold ZmK;generalize WD (a+c)=x at *;generalize WD (b+d)=y at *;by_cases h:x=Ht/\y=Ht;rw[if_pos h]at hO ⊢;refine ZF func162 rfl ntmps162 results162 ?_;simp only[go_sem];refine vc1 hW1 ?_;simp only[go_sem];refine vc1 hW2 ?_;simp only[go_sem];refine vc1 hP1 ?_;simp only[go_sem];refine vc1 hP2 ?_;simp only[go_sem,w1,w2];refine vc1 hO ?_;simp only[go_sem];rw[if_neg h]at hO ⊢;refine ZF func162 rfl ntmps162 results162 ?_;simp only[go_sem];refine vc1 hW1 ?_;simp only[go_sem];refine vc1 hW2 ?_;simp only[go_sem];refine vc1 hP1 ?_;simp only[go_sem];refine vc1 hP2 ?_;simp only[go_sem,w1,w2];refine vc1 hO ?_;simp only[go_sem]
def GI (s:Int) (o:Opn):Int:=if o.kind=3/\WD o.delta=Ht/\WD (s+o.delta)=Ht then s+o.delta else s
def Zna (l:List Opn):Int:=l.foldl GI 0
theorem ZkS {s:Int} {o:Opn} (h:Lim s):Lim (GI s o):=by
 unfold GI;split;rename_i h2;exact Sn.1 h2.2.2;exact h
theorem Zck:∀(l:List Opn) {s:Int},Lim s->Lim (l.foldl GI s)
 | [],s,h=>h
 |o::l,s,h=>Zck l (ZkS h)
theorem Zql:Lim 0:=by unfold Lim;omega
theorem ZkW {l:List Opn} {k:Nat} (h:k<l.length):Zna (l.take (k+1))=GI (Zna (l.take k)) (l.getD k Jd):=by
 unfold Zna;rw[ZT (d:=Jd) h,Kd];rfl
theorem Zio (l:List Opn) (hl:l.length<=maxLen):Pp 122 [Zr l] (.int .i64 (Zna l)):=by
 have f0:WD 0=true:=by decide
 have hP:=Te (Zna l) 0 (Zck l Zql) Zql;have hl2:=hl;rw[Zd]at hl2;refine ZF func122 rfl ntmps122 results122 ?_;simp only[go_sem,Zr];refine Zz (ι:= { k:Nat // k<=l.length }) 47 (λx=> [(3,.cpx .f64 (X3 (Zna (l.take x.1))) (X3 0)),(13,Zr l),(14,.int .i64 (l.length:Int)),(15,.int .i64 (x.1:Int))]) (λx=> []) (λx=> []) (λx=>l.length-x.1) ⟨0,Jc _⟩
  ⟨rfl,Fc4 (by show PV.cpx .f64 0 0=PV.cpx .f64 (X3 0) (X3 0);rw[Zjr]) rfl rfl rfl,fnl,fnl⟩ (λx=>⟨(Fc4 rfl rfl rfl rfl),fnl⟩) (λx=> ?_)
 obtain⟨k,hk⟩:=x;simp only;by_cases h:(k:Int)<(l.length:Int);have hka:k<l.length:=by omega
 have i1:=Jf k
 have w1:=wk9 (k:=k) (by omega)
 have hsn:=ZkW hka;have hs:Lim (Zna (l.take k)):=Zck _ Zql;generalize Zna (l.take k)=s at *;generalize hx:l.getD k Jd=x at *;by_cases k3:x.kind=3;have e3:(x.kind !=3)=false:=by simpa using k3
 have hO:=Zew x.delta 0;cases f1:WD x.delta;rw[f1]at hO;have hz:GI s x=s:=by unfold GI;rw[if_neg (by rw[f1];simp)]
 rw[hz]at hsn;simp only[Jw,false_and,if_false]at hO;simp only[go_sem,Zr,h,ZI hka,hx,opv,i1,e3];refine vc1 hO ?_;simp only[go_sem,w1];exact⟨⟨k+1,by omega⟩,nx9 (by omega),⟨rfl,Fc4 (by simp only;rw[hsn];rfl) rfl rfl rfl,fnl,fnl⟩⟩;have hd:Lim x.delta:=Sn.1 f1;rw[f1,f0]at hO;simp only[and_self,if_true]at hO;have hPl:=ZiL s 0 x.delta 0 hs Zql hd Zql;cases f2:WD (s+x.delta);have hz:GI s x=s:=by unfold GI;rw[if_neg (by rw[f2];simp)]
 rw[hz]at hsn;unfold ZmK at hPl;rw[f2]at hPl;simp only[Jw,false_and,if_false]at hPl;simp only[go_sem,Zr,h,ZI hka,hx,opv,i1,e3];refine vc1 hO ?_;simp only[go_sem];refine vc1 hPl ?_;simp only[go_sem,w1];exact⟨⟨k+1,by omega⟩,nx9 (by omega),⟨rfl,Fc4 (by simp only;rw[hsn];rfl) rfl rfl rfl,fnl,fnl⟩⟩;have hz:GI s x=s+x.delta:=by unfold GI;rw[if_pos ⟨k3,f1,f2⟩]
 rw[hz]at hsn;unfold ZmK at hPl;rw[f2,show WD (0+0)=Ht by decide]at hPl;simp only[and_self,if_true,Int.zero_add]at hPl;simp only[go_sem,Zr,h,ZI hka,hx,opv,i1,e3];refine vc1 hO ?_;simp only[go_sem];refine vc1 hPl ?_;simp only[go_sem,w1];exact⟨⟨k+1,by omega⟩,nx9 (by omega),⟨rfl,Fc4 (by simp only;rw[hsn];rfl) rfl rfl rfl,fnl,fnl⟩⟩;have e3:(x.kind !=3)=true:=by simpa using k3
 have hz:GI s x=s:=by unfold GI;rw[if_neg (λhh=>k3 hh.1)]
 rw[hz]at hsn;simp only[go_sem,Zr,h,ZI hka,hx,opv,i1,e3,w1];exact⟨⟨k+1,by omega⟩,nx9 (by omega),⟨rfl,Fc4 (by simp only;rw[hsn];rfl) rfl rfl rfl,fnl,fnl⟩⟩;have htk:l.take k=l:=Jo (by omega);simp only[go_sem,Zr,h,htk];refine vc1 hP ?_;simp only[go_sem]
def YH (l:List Opn):List Str:=(l.filter λo=>o.kind==4&&o.has).map Opn.text
theorem ZfJ {l:List Opn} {k:Nat} (h:k<l.length):YH (l.take (k+1))=YH (l.take k)++(if((l.getD k Jd).kind==4&&(l.getD k Jd).has)=Ht then [(l.getD k Jd).text]else []):=by
 unfold YH;rw[ZT (d:=Jd) h,J8,Jq];congr 1;generalize l.getD k Jd=x;cases hr:(x.kind==4&&x.has);rw[JZ (by rw[hr];simp),if_neg (by simp)];rfl;rw[J2 (by exact hr),if_pos rfl];rfl
theorem GL (l:List Opn):(YH l).length<=l.length:=by unfold YH;rw[Js];exact Jy _ _
def Zg4 (f:Fd) (ops:List Opn):En:=
 if f.kind=1 then⟨f.at',Zna ops,(Tc f).l⟩
 else⟨f.at',0,if f.kind=4 then YH ops else if(YH ops).length=0 then(Tc f).l else [(YH ops).getD ((YH ops).length-1) []]⟩
theorem Ziw (f:Fd) (l:List Opn) (hl:l.length<=100000):Pp 68 [fld f,Zr l] (ent (Zg4 f l)):=by
 have hV:=Zhp f;have hlm:l.length<=maxLen:=by rw[Zd];omega
 have hT:=Zio l hlm;have hva:(Tc f).at'=f.at':=rfl;have hvn:(Tc f).n=0:=rfl;unfold Zg4;generalize Tc f=v at *;obtain⟨va,vn,vl⟩:=v;simp only at hva hvn;subst hva hvn;by_cases k1:f.kind=1;have e1:(f.kind==1)=true:=by simpa using k1
 rw[if_pos k1];refine ZM func68 rfl ntmps68 results68 (Tm _) ?_;simp only[go_sem,fld,Zr];refine vc2 hV ?_;simp only[go_sem,ent,e1];refine vc7 hT ?_;simp only[go_sem,ent];have e1:(f.kind==1)=false:=by simpa using k1
 rw[if_neg k1];refine ZM func68 rfl ntmps68 results68 (Tm _) ?_;simp only[go_sem,fld,Zr];refine vc2 hV ?_;simp only[go_sem,ent,e1];refine Y6 6 35 1 9 rfl rfl ?_;refine Zz (ι:= { x:Nat // x<=(l).length }) 56 (λx=> [(2,.ptr 2 0),(4,.ptr 4 0),(5,.ptr 5 0),(6,.sl (.row 35) ((YH (l.take x.1)).map .str)),(18,Zr l),(19,.int .i64 (l.length:Int)),(20,.int .i64 (x.1:Int))]) (λx=> [(2,[.int .i64 f.at'.sc,.str f.at'.gr,.str f.at'.nm,.int .i64 f.kind,.str f.df,.sl .no (f.cases'.map .str),.int .i64 f.worth],Hf),(4,[.int .i64 0,.str [],.str [],.int .i64 0,.sl .nil []],Hf),(5,[.int .i64 f.at'.sc,.str f.at'.gr,.str f.at'.nm,.int .i64 0,.sl .no (vl.map .str)],Hf)]) (λx=> [(35,.live ((YH (l.take x.1)).length) (1) (9))]) (λx=>(l).length-x.1) ⟨0,Jc _⟩ ⟨rfl,(Fc7 rfl rfl rfl rfl rfl rfl rfl),(Fc3 ⟨rfl,rfl⟩ ⟨rfl,rfl⟩ ⟨rfl,rfl⟩),(fcs rfl fnl)⟩ (λx=>⟨(Fc7 rfl rfl rfl (by simp[J7,ZN]) rfl rfl rfl),(Fc3 rfl rfl rfl)⟩) (λx=> ?_);obtain⟨k,hk⟩:=x;simp only at hk ⊢;by_cases h:(k:Int)<(l.length:Int)
 (have hka:k<(l).length:=by omega);(have w1:=Vt hka (hlm));(have i1:=Jf k)
 have hsn:=ZfJ hka;have hnl:=GL (l.take k);have htl:(l.take k).length<=k:=J6 _ _;have hrm:=YV (show(YH (l.take k)).length+1<=1000000 by omega) (show 16<=1000 by omega);have hml:((YH (l.take k)).map KB).length=(YH (l.take k)).length:=Js _;have hsz:=Zbc (YH (l.take k));generalize hx:l.getD k Jd=x at *;cases k1:(x.kind==4);rw[k1,Kn,if_neg (by simp),Ja]at hsn;simp only[go_sem,Zr,h,ZI hka,hx,opv,i1,k1,w1];exact⟨⟨k+1,by omega⟩,nx9 (by omega),⟨rfl,by simp only;rw[hsn];exact(Fc7 rfl rfl rfl rfl rfl rfl rfl),(Fc3 ⟨rfl,rfl⟩ ⟨rfl,rfl⟩ ⟨rfl,rfl⟩),by simp only;rw[hsn];exact fcs rfl fnl⟩⟩;cases k2:x.has;rw[k1,k2,Ko,if_neg (by simp),Ja]at hsn;simp only[go_sem,Zr,h,ZI hka,hx,opv,i1,k1,k2,w1];exact⟨⟨k+1,by omega⟩,nx9 (by omega),⟨rfl,by simp only;rw[hsn];exact(Fc7 rfl rfl rfl rfl rfl rfl rfl),(Fc3 ⟨rfl,rfl⟩ ⟨rfl,rfl⟩ ⟨rfl,rfl⟩),by simp only;rw[hsn];exact fcs rfl fnl⟩⟩;rw[k1,k2,Ks,if_pos rfl]at hsn;simp only[go_sem,Zr,h,ZI hka,hx,opv,i1,k1,k2,w1,hml,hsz,hrm];exact⟨⟨k+1,by omega⟩,nx9 (by omega),⟨rfl,by simp only;rw[hsn,Jq];exact(Fc7 rfl rfl rfl rfl rfl rfl rfl),(Fc3 ⟨rfl,rfl⟩ ⟨rfl,rfl⟩ ⟨rfl,rfl⟩),by simp only;rw[hsn,JC];exact fcs rfl fnl⟩⟩;have htk:l.take k=l:=Jo (by omega);rw[htk];have hnl:=GL l;by_cases k4:f.kind=4;have e4:(f.kind==4)=true:=by simpa using k4
 rw[if_pos k4];simp only[go_sem,Zr,h,e4,ent];have e4:(f.kind==4)=false:=by simpa using k4
 rw[if_neg k4];have hml:((YH l).map KB).length=(YH l).length:=Js _;by_cases k5:(YH l).length=0;have e5:¬(0:Int)<((YH l).length:Int):=by omega
 rw[if_pos k5];simp only[go_sem,Zr,h,e4,ent,hml,e5];have e5:(0:Int)<((YH l).length:Int):=by omega
 have w5:IntKind.i64.wrap (((YH l).length:Int)-1)=(((YH l).length-1:Nat):Int):=by rw[w64 (by omega)];omega
 have hlt:(YH l).length-1<(YH l).length:=by omega
 have b5:(0:Int)<=(((YH l).length-1:Nat):Int)/\(((YH l).length-1:Nat):Int)<((YH l).length:Int):=by omega
 rw[if_neg k5];simp only[go_sem,Zr,h,e4,ent,hml,e5,w5,b5.1,b5.2,ZY hlt]
open Go.PL Go.PL.Srt
structure Sp where
 item:Str
 at':Rf
 deriving DecidableEq,Inhabited
def spv (s:Sp):PV:= .agg [.str s.item,.int .i64 s.at'.sc,.str s.at'.gr,.str s.at'.nm]
def spO (o:Opn):Sp:=⟨o.item,o.at'⟩
def Z4 (seen:List Opn) (s:Sp):List Opn:=seen.filter λo=>decide (spO o=s)
theorem ZoN (a b:Sp):(a.item==b.item&&(a.at'.sc==b.at'.sc&&(a.at'.gr==b.at'.gr&&a.at'.nm==b.at'.nm)))=decide (a=b):=by
 obtain⟨i1,r1⟩:=a;obtain⟨i2,r2⟩:=b;cases r1;cases r2;rw[Kl];simp
theorem Zc9 (s:Sp):∀(l:List Sp) (i:Nat),findP [.str,.int,.str,.str] [.str s.item,.int .i64 s.at'.sc,.str s.at'.gr,.str s.at'.nm] (l.map spv) i=Hs ((l.findIdx? λx=>decide (s=x)).map (· + i))
 | [],i=>rfl
 |n::l,i=>by
  have ih:=Zc9 s l (i+1);simp only[Jn,spv,findP,Zt,VV,if_true,List.findIdx?_cons,Bool.and_true,ZoN];by_cases h:s=n;simp[h];simp only[h,decide_false,ih];simp only[Jw,if_false,Option.map_map];congr 2;funext x;simp;omega
theorem ZaH (s:Sp) (l:List Sp):findP [.str,.int,.str,.str] [.str s.item,.int .i64 s.at'.sc,.str s.at'.gr,.str s.at'.nm] (l.map spv) 0=Hs (l.findIdx? λx=>decide (s=x)):=by
 rw[Zc9];congr 1;cases List.findIdx? (λx=>decide (s=x)) l<;>rfl
theorem Zgq {t:Sp} {l:List Sp}:(l.findIdx? λx=>decide (t=x))=none↔t∉l:=by
 rw[JE];constructor;intro h hm;have:=h t hm;simp at this;intro h x hx;simp only[decide_eq_false_iff_not];intro e;exact h (e▸hx)
theorem ZjH {t:Sp} {l:List Sp} {i:Nat} (h:(l.findIdx? λx=>decide (t=x))=Hs i):i<l.length/\l.getD i Jd=t:=by
 obtain⟨h1,h2,_⟩:=Jm.1 h;exact⟨h1,by rw[getD_lt h1];exact(of_decide_eq_true h2).symm⟩
theorem Zbl {seen:List Opn} {s:Sp} (h:¬ ∃o∈seen,spO o=s):Z4 seen s= []:=by
 unfold Z4;rw[List.filter_eq_nil_iff];intro o ho hd;exact h ⟨o,ho,of_decide_eq_true hd⟩
theorem FK (seen:List Opn) (s:Sp):(Z4 seen s).length<=seen.length:=Jy _ _
def G9 (F:List Fd) (seen:List Opn) (sc:Int) (item:Str):List En:=(U7 F sc).map λf=>Zg4 f (Z4 seen ⟨item,f.at'⟩)
theorem Zjp (F:List Fd) (seen:List Opn) (ks:List Sp) (sc:Int) (item:Str) (hF:OkFs F) (hs:seen.length<=100000) (hks:∀s,s∈ks↔ ∃o∈seen,spO o=s):
  Pp 66 [.int .i64 sc,.str item,.rptr [Zp F],.rptr [.rmap (ks.map spv) (ks.map λs=>Zr (Z4 seen s))]] (UM (G9 F seen sc item)):=by
 have hFn:=hF.n;have hSc:=Zhl F sc (by omega) hF.c;have hscl:(U7 F sc).length<=F.length:=Jy _ _;unfold G9;generalize hA:U7 F sc=A at *;have hAm:A.length<=maxLen:=by rw[Zd];omega
 have hV:∀f s,Pp 68 [fld f,Zr (Z4 seen s)] (ent (Zg4 f (Z4 seen s))):=λf s=>Ziw f _ (J9 (FK _ _) hs)
 refine ZM func66 rfl ntmps66 results66 (Zjm _) ?_;simp only[go_sem,Zp];refine vc2 hSc ?_;simp only[go_sem,Zp];refine Y6 7 28 5 125 rfl rfl ?_;refine Zz (ι:= { x:Nat // x<=(A).length }) 31 (λx=> [(1,.str item),(3,.rptr [.rmap (ks.map spv) (ks.map λs=>Zr (Z4 seen s))]),(7,.sl (.row 28) (((A.take x.1).map λf=>Zg4 f (Z4 seen ⟨item,f.at'⟩)).map ent)),(12,Zp A),(13,.int .i64 (A.length:Int)),(14,.int .i64 (x.1:Int))]) (λx=> []) (λx=> [(28,.live (x.1) (5) (125))]) (λx=>(A).length-x.1) ⟨0,Jc _⟩ ⟨rfl,(Fc6 rfl rfl rfl rfl rfl rfl),fnl,(fcs rfl fnl)⟩ (λx=>⟨(Fc6 rfl rfl (by simp[J7,ZN]) rfl rfl rfl),fnl⟩) (λx=> ?_);obtain⟨k,hk⟩:=x;simp only at hk ⊢;by_cases h:(k:Int)<(A.length:Int)
 (have hka:k<(A).length:=by omega);(have w1:=Vt hka (hAm));(have i1:=Jf k)
 have htk:((A.take (k+1)).map λf=>Zg4 f (Z4 seen ⟨item,f.at'⟩))=((A.take k).map λf=>Zg4 f (Z4 seen ⟨item,f.at'⟩))++ [Zg4 (A.getD k Jd) (Z4 seen ⟨item,(A.getD k Jd).at'⟩)]:=by rw[ZT (d:=Jd) hka,Jq];rfl
 have hlk:((A.take k).map λf=>Zg4 f (Z4 seen ⟨item,f.at'⟩)).length=k:=by simp;omega
 have hrm:=YV (show k+1<=1000000 by omega) (show 72<=1000 by omega);have hsz:=ZdU ((A.take k).map λf=>Zg4 f (Z4 seen ⟨item,f.at'⟩));have hV1:=hV (A.getD k Jd) ⟨item,(A.getD k Jd).at'⟩;have hfp:=ZaH ⟨item,(A.getD k Jd).at'⟩ ks;have hget:∀i,i<ks.length->(ks.map λs=>Zr (Z4 seen s)).getD i .any=Zr (Z4 seen (ks.getD i Jd)):=λi hi=>by rw[getD_lt (by simpa using hi),getD_lt hi,Jg]
 generalize hx:A.getD k Jd=x at *;generalize ((A.take k).map λf=>Zg4 f (Z4 seen ⟨item,f.at'⟩))=E at *;generalize hv:Zg4 x (Z4 seen ⟨item,x.at'⟩)=v at *;have hsx:Sized 5 [ent v]:=ZdU [v];have hax:XQ [ent v]:=Zi0 [v];have hml:(E.map ent).length=k:=by rw[Js];exact hlk
 simp only[ent]at hsx hax;simp only at hfp;cases hf:ks.findIdx? (λy=>decide ((⟨item,x.at'⟩:Sp)=y))with
 |none=>
  rw[hf]at hfp;have hn:Z4 seen ⟨item,x.at'⟩= []:=Zbl (λhh=>Zgq.1 hf ((hks _).2 hh));rw[hn]at hV1;simp only[go_sem,Zp,h,ZX hka,hx,fld,i1];refine vDq ?_;simp only[go_sem,hfp];refine vc7 hV1 ?_;simp only[go_sem,ent,hsz,hsx,hax,hml,hrm,w1];exact⟨⟨k+1,by omega⟩,nx9 (by omega),⟨rfl,by simp only;rw[htk,Jq];exact(Fc6 rfl rfl rfl rfl rfl rfl),fnl,fcs rfl fnl⟩⟩
 |some i=>
  rw[hf]at hfp;obtain⟨hi,he⟩:=ZjH hf;have hg:=hget i hi;rw[he]at hg;simp only[go_sem,Zp,h,ZX hka,hx,fld,i1];refine vDq ?_;simp only[go_sem,hfp,hg];refine vc7 hV1 ?_;simp only[go_sem,ent,hsz,hsx,hax,hml,hrm,w1];exact⟨⟨k+1,by omega⟩,nx9 (by omega),⟨rfl,by simp only;rw[htk,Jq];exact(Fc6 rfl rfl rfl rfl rfl rfl),fnl,fcs rfl fnl⟩⟩
 have htk:A.take k=A:=Jo (by omega);simp only[go_sem,Zp,h,htk,UM]
open Go.PL
structure Cg where
 kind:Int
 item:Str
 was:En
 now:En
 l:List En
deriving DecidableEq,Inhabited
def chg (c:Cg):PV:= .agg [.int .i64 c.kind,.str c.item,.int .i64 c.was.at'.sc,.str c.was.at'.gr,.str c.was.at'.nm,.int .i64 c.was.n,.sl .no (c.was.l.map .str),.int .i64 c.now.at'.sc,.str c.now.at'.gr,.str c.now.at'.nm,.int .i64 c.now.n,.sl .no (c.now.l.map .str),.sl .no (c.l.map ent)]
def Zt1 (l:List Cg):PV:= .sl .no (l.map chg)
structure FineC (c:Cg):Prop where
 w:c.was.l.length<=maxLen
 n:c.now.l.length<=maxLen
 l:c.l.length<=maxLen
 e:∀e∈c.l,e.l.length<=maxLen
open Go.PL
open Go.PL
open Go.PL
open Go.PL
open Go.PL
open Go.ChangeShapes Go.WideShapes Go.ChangeAt Go.RowKit
theorem Zqr:Zcx prog 46=false:=by kernel_rfl
theorem ZqB {cs:List PV} (h:PT prog 46 cs):∃l:List Tg,cs= [.sl .no (l.map tg)]/\l.length<=maxLen:=by
 obtain⟨l,rfl,h1,h2⟩:=h.slice_inv Zqr underlying46;obtain⟨xs,rfl,_⟩:=Ti (enc:=tg) (Q:=λ_=>True) (λp hp=>by
  obtain⟨s,rfl⟩:=Zki (h2 p hp);exact⟨s,rfl,trivial⟩)
 exact⟨xs,rfl,by simpa using h1⟩
theorem ZsQ {p:PV} (h:PA prog 48 p):∃o:Opn,p=opv o/\o.drops.length<=maxLen:=by
 obtain⟨cs,rfl,h1⟩:=PA.agg ZoR h;have h1:PTs prog [25,25,2,9,3,9,27,2,4,9,46] cs:=h1.struct_inv underlying48;obtain⟨a1,b1,rfl,h2,h3⟩:=h1.cons_inv;obtain⟨a2,b2,rfl,h4,h5⟩:=h3.cons_inv;obtain⟨a3,b3,rfl,h6,h7⟩:=h5.cons_inv;obtain⟨a4,b4,rfl,h8,h9⟩:=h7.cons_inv;obtain⟨a5,b5,rfl,h10,h11⟩:=h9.cons_inv;obtain⟨a6,b6,rfl,h12,h13⟩:=h11.cons_inv;obtain⟨a7,b7,rfl,h14,h15⟩:=h13.cons_inv;obtain⟨a8,b8,rfl,h16,h17⟩:=h15.cons_inv;obtain⟨a9,b9,rfl,h18,h19⟩:=h17.cons_inv;obtain⟨aa,ba,rfl,h20,h21⟩:=h19.cons_inv;obtain⟨ab,bb,rfl,h22,h23⟩:=h21.cons_inv;obtain⟨x1,rfl⟩:=Za6 h2;obtain⟨x2,rfl⟩:=Za6 h4;obtain⟨x3,rfl,_⟩:=h6.int_inv underlying2;obtain⟨x4,rfl,_⟩:=h8.string_inv underlying9;obtain⟨x5,rfl,_⟩:=h10.int_inv underlying3;obtain⟨x6,rfl,_⟩:=h12.string_inv underlying9;obtain⟨x7,rfl⟩:=ZgI h14;obtain⟨x8,rfl,_⟩:=h16.int_inv underlying2;obtain⟨x9,rfl⟩:=h18.bool_inv underlying4;obtain⟨xa,rfl,_⟩:=h20.string_inv underlying9;obtain⟨xb,rfl,kb⟩:=ZqB h22;rw[h23.nil_inv];exact⟨⟨x1,x2,x3,x4,x5,x6,x7,x8,x9,xa,xb⟩,rfl,kb⟩
open Go.PL
open Go.ChangeShapes Go.WideShapes Go.ChangeAt Go.RowKit
theorem Zqp:Zcx prog 23=false:=by kernel_rfl
theorem Zqy {p:PV} (h:PA prog 23 p):∃l:List Opn,p=Zr l/\l.length<=maxLen:=by
 obtain⟨l,rfl,h1,h2⟩:=h.slice Zqp underlying23;obtain⟨xs,rfl,h3⟩:=Ti (enc:=opv) (Q:=λ_=>True) (λp hp=>by
  obtain⟨s,rfl,_⟩:=ZsQ (h2 p hp);exact⟨s,rfl,trivial⟩)
 exact⟨xs,rfl,by simpa using h1⟩
theorem ZsM {x:Ln} (h:LenLn' x):LenLn x:=⟨h.c,h.f,h.b⟩
end Go.Proofs.YtepchngegclagaaGreat
