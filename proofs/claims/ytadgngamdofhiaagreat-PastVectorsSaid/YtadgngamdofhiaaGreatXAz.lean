/- Lemmas of the proof. -/
import Derived.Test.YtadgngamdofhiaaGreatPlH
import Derived.Test.YtadgngamdofhiaaGreatXAa
import Derived.Test.YtadgngamdofhiaaGreatXAe
import Derived.Test.YtadgngamdofhiaaGreatXAi
open Inhabited renaming default→Jd
open Go.Proofs.Tryz
open Go Go.PL
open Bool renaming true_eq_false→Ji,and_eq_true→Jm,true_and→Jn,not_eq_true'→JX
open Decidable renaming byContradiction→J6
open Int renaming natCast_nonneg→Jf,reduceEq→Jr,toNat_natCast→JC
open List renaming append_nil→Jb,map_cons→Jc,pairwise_iff_getElem→Je,getElem_map→Jg,getD_cons_zero→Jh,getElem_mem→Jj,mem_map→Jk,mem_singleton→Jl,mem_append→Jo,getElem_of_mem→Jp,map_nil→Jq,nodup_iff_pairwise_ne→Js,findIdx?_eq_some_iff_getElem→Jt,mem_of_find?_eq_some→Ju,nodup_cons→Jv,mem_cons→Jw,length_append→Jz,length_cons→JA,mem_append_right→JD,drop_length→JE,take_append_of_le_length→JI,pairwise_cons→JJ,find?_eq_none→JK,findIdx?_eq_none_iff→JL,nodup_append→JN,take_add_one→JO,length_eraseIdx_le→JP,ext_getElem→JR,take_length→JS,take_of_length_le→JT,mem_append_left→JU,find?_append→JV,map_map→JW,not_mem_nil→JY,cons_append→JZ,map_append→J4,find?_map→J5,map_take→J7,length→J9
open Nat renaming zero_le→Ja,lt_trichotomy→JM,le_trans→J8,sub_sub→Ka
open Option renaming map_some→JB,bind_some→JF,getD_some→JG,bind_eq_some_iff→JQ,some→J3
open PV renaming didsL→Jy,dids→JH,ids→J2,sl→Kb
namespace Go.Proofs.YtadgngamdofhiaaGreat
set_option maxHeartbeats 64000000
set_option maxRecDepth 20000
set_option linter.unusedVariables false
set_option linter.unusedSimpArgs false
open Go.PL
def Tj:List Rf->List Fd->Option (List Fd)
 | [],l=>some l
 |r::rs,l=>if(YE l r).2≠0 then none else Tj rs (YE l r).1
def YD:List Fd->List Fd->Option (List Fd)
 | [],l=>some l
 |f::fs,l=>if(Vm l f).2≠0 then none else YD fs (Vm l f).1
def Gg (l:List Fd) (x:Ln):Option (List Fd):=if(Vn l x).2=false then none else(Tj (Zy x) l).bind (YD (Vn l x).1)
def ZT (l:List Fd) (x:Ln):List Fd×Int:=
 if Z2 l=false\/ZE x=false then([],5)else match Gg l x with|none=>([],16)|some m=>(m,0)
theorem Zaq {l:List Fd} (h:OkFs l) (r:Rf):OkFs (YE l r).1:=by
 unfold YE;split;exact⟨Ja _,λf hf=>by cases hf⟩;split;exact⟨Ja _,λf hf=>by cases hf⟩;exact⟨J8 (JP _ _) h.n,λf hf=>h.c f (List.mem_of_mem_eraseIdx hf)⟩
theorem Zq3 {l:List Fd} {f x:Fd} (h:x∈Zbd l f):x∈l\/x=f:=by
 unfold Zbd at h;rcases Jo.1 h with h|h;exact .inl (List.takeWhile_subset _ h);rcases Jw.1 h with h|h;exact .inr h;exact .inl (List.dropWhile_subset _ h)
theorem Zmr {l:List Fd} (h:OkFs l) {f:Fd} (hf:f.cases'.length<=1000000):OkFs (Vm l f).1:=by
 unfold Vm;split;exact⟨Ja _,λf hf=>by cases hf⟩;split;exact⟨Ja _,λf hf=>by cases hf⟩;split;exact⟨Ja _,λf hf=>by cases hf⟩;refine⟨by simp only[SP];omega,λg hg=> ?_⟩;rcases Zq3 hg with h'|h';exact h.c g h';rw[h'];exact hf
theorem ZsR {l:List Fd} {x:Ln} (hl:OkFs l) (hx:OkLn x):OkFs (Vn l x).1:=by
 have o1:∀f:Fd,f.cases'.length<=1000000->OkFs [f]:=λf hf=>⟨by simp,λg hg=>by rw[Jl.1 hg];exact hf⟩
 have o0:OkFs []:=⟨Ja _,λf hf=>by cases hf⟩;unfold Vn;split;exact o1 _ hx.c;split;exact o0;split;unfold U2;split;exact o0;split;exact o0;exact o1 _ (Ja _);split;exact o0;split;refine⟨by simp,λf hf=> ?_⟩;simp only[Jw,JY,or_false]at hf;rcases hf with rfl|rfl<;>exact Ja _
 split;exact o1 _ (Ja _);split;exact o1 _ (Ja _);split;exact o1 _ (by simp only[WO];exact hx.b);exact o1 _ (Zfk hl _)
theorem ZiX (l:List Fd) (x:Ln) (hl:OkFs l) (hx:OkLn x):Pp 108 [Zi l,lns x] (ZM (ZT l x)):=by
 have hn:=hl.n;have hS:=UO l (by rw[Zb];omega) (λf hf=>by have:=hl.c f hf;rw[Zb];omega);have hR:=WJ x hx;unfold ZT;cases hsr:Z2 l;rw[hsr]at hS;refine ZA func108 rfl ntmps108 results108 (ZI _) ?_;simp only[go_sem,Zi,lns];refine vc2 hS ?_;simp only[go_sem,if_true,ZM,Zi];rw[hsr]at hS;cases hlr:ZE x;rw[hlr]at hR;refine ZA func108 rfl ntmps108 results108 (ZI _) ?_;simp only[go_sem,Zi,lns];refine vc2 hS ?_;simp only[go_sem];refine vc3 hR ?_;simp only[go_sem,if_true,ZM,Zi];rw[hlr]at hR;simp only[Ji,or_self,if_false];have hA:=Zc1 l x hl hx hlr;have okA:=ZsR hl hx;unfold Gg;generalize Vn l x=y at *;obtain⟨come,ok⟩:=y;simp only at okA ⊢;cases ok;simp only[if_true];refine ZA func108 rfl ntmps108 results108 (ZI _) ?_;simp only[go_sem,Zi,lns];refine vc2 hS ?_;simp only[go_sem];refine vc3 hR ?_;simp only[go_sem];refine vc3 hA ?_;simp only[go_sem,YS,ZM,Zi];simp only[Ji,if_false];have hO:=Zeo l (by omega) hl.c;have hG:=Fw x hx;have hg:Ze4 x=Zy x:=by simp[Ze4,hlr]
 rw[hg]at hG;have hgl:(Zy x).length<=maxLen:=by
  have:(Zy x).length<=2:=by
   unfold Zy;split;simp;split;simp;split<;>simp
  rw[Zb];omega
 generalize Zy x=goes at *;generalize hGo:Tj goes l=G;refine ZA func108 rfl ntmps108 results108 (ZI _) ?_;simp only[go_sem,Zi,lns];refine vc2 hS ?_;simp only[go_sem];refine vc3 hR ?_;simp only[go_sem];refine vc3 hA ?_;simp only[go_sem,YS,Zi];refine vc2 hO ?_;simp only[go_sem,Zi,lns];refine vc3 hG ?_;simp only[go_sem,refs];refine Zt (ι:= { x:Nat×(List Fd) // x.1<=(goes).length/\(OkFs x.2/\Tj (goes.drop x.1) x.2=G) }) 64 (λx=> [(6,Zi come),(8,Zi x.1.2),(33,refs goes),(34,.int .i64 (goes.length:Int)),(35,.int .i64 (x.1.1:Int))]) (λx=> []) (λx=> []) (λx=>(goes).length-x.1.1) ⟨(0,l),Ja _,⟨hl,hGo⟩⟩ ⟨rfl,(Fc5 rfl rfl rfl rfl rfl),fnl,fnl⟩ (λx=>⟨(Fc5 rfl rfl rfl rfl rfl),fnl⟩) (λx=> ?_);obtain⟨⟨k,out⟩,hk,hI⟩:=x;simp only at hk hI ⊢;obtain⟨okO,hI⟩:=hI;have hon:=okO.n;by_cases h:(k:Int)<(goes.length:Int)
 (have hka:k<(goes).length:=by omega);(have w1:=Xb hka (hgl));(have i1:=Jf k)
 have hW:=Zep out (goes.getD k Jd) (by omega) okO.c;have okW:=Zaq okO (goes.getD k Jd);rw[Y0 hka (d:=Jd),Tj]at hI;generalize YE out (goes.getD k Jd)=w at *;obtain⟨w,c⟩:=w;simp only at hI okW;by_cases hc:c=0
 ·subst hc;simp only[ne_eq,not_true_eq_false,if_false]at hI;simp only[go_sem,refs,h,i1,Yf hka,ref];refine vc2 hW ?_;simp only[go_sem,ZM,Zi,w1];exact⟨⟨(k+1,w),by(try simp only);omega,⟨okW,hI⟩⟩,by show(goes).length-(k+1)<(goes).length-k;omega,⟨rfl,(Fc5 rfl rfl rfl rfl rfl),fnl,fnl⟩⟩
 have hc':(c !=0)=true:=bne_iff_ne.2 hc;simp only[ne_eq,hc,not_false_eq_true,if_true]at hI;subst hI;simp only[go_sem,refs,h,i1,Yf hka,ref];refine vc2 hW ?_;simp only[go_sem,ZM,Zi,hc',Option.bind_none];obtain rfl:k=goes.length:=by omega
 rw[JE,Tj]at hI;subst hI;have hcl:come.length<=maxLen:=by have:=okA.n;rw[Zb];omega
 simp only[go_sem,h,Zi];refine Zt (ι:= { x:Nat×(List Fd) // x.1<=(come).length/\(OkFs x.2/\YD (come.drop x.1) x.2=YD come out) }) 64 (λx=> [(8,Zi x.1.2),(48,Zi come),(49,.int .i64 (come.length:Int)),(50,.int .i64 (x.1.1:Int))]) (λx=> []) (λx=> []) (λx=>(come).length-x.1.1) ⟨(0,out),Ja _,⟨okO,rfl⟩⟩ ⟨rfl,(Fc4 rfl rfl rfl rfl),fnl,fnl⟩ (λx=>⟨(Fc4 rfl rfl rfl rfl),fnl⟩) (λx=> ?_);obtain⟨⟨kb,o2⟩,hkb,hIb⟩:=x;simp only at hkb hIb ⊢;obtain⟨ok2,hIb⟩:=hIb;have hon2:=ok2.n;by_cases hb:(kb:Int)<(come.length:Int)
 (have hkab:kb<(come).length:=by omega);(have w1b:=Xb hkab (hcl));(have i1b:=Jf kb)
 have hcf:=okA.c _ (Zs hkab (d:=Jd));have hW:=ZkW o2 (come.getD kb Jd) (by omega) ok2.c hcf;have okW:=Zmr ok2 hcf;rw[Y0 hkab (d:=Jd),YD]at hIb;generalize Vm o2 (come.getD kb Jd)=w at *;obtain⟨w,c⟩:=w;simp only at hIb okW;by_cases hc:c=0
 ·subst hc;simp only[ne_eq,not_true_eq_false,if_false]at hIb;simp only[go_sem,Zi,hb,i1b,Zx hkab,fld];refine vc2 hW ?_;simp only[go_sem,ZM,Zi,w1b];exact⟨⟨(kb+1,w),by(try simp only);omega,⟨okW,hIb⟩⟩,by show(come).length-(kb+1)<(come).length-kb;omega,⟨rfl,(Fc4 rfl rfl rfl rfl),fnl,fnl⟩⟩
 have hc':(c !=0)=true:=bne_iff_ne.2 hc;simp only[ne_eq,hc,not_false_eq_true,if_true]at hIb;simp only[go_sem,Zi,hb,i1b,Zx hkab,fld];refine vc2 hW ?_;simp only[go_sem,ZM,Zi,hc',<-hIb,JF];obtain rfl:kb=come.length:=by omega
 rw[JE,YD]at hIb;simp only[go_sem,Zi,hb,<-hIb,ZM,JF]
open Go.PL
theorem SE (l:List Fd) (r:Rf):(idx (atF r) l= -1/\ ∀g∈l,g.at'≠r)\/ ∃i:Nat,∃h:i<l.length,idx (atF r) l=(i:Int)/\(l[i]).at'=r:=by
 unfold idx;cases hf:l.findIdx? (atF r)with
 |none=>
  left;refine⟨rfl,λg hg e=> ?_⟩;rw[JL]at hf;have:=hf g hg;simp[atF,e]at this
 |some i=>
  right;rw[Jt]at hf;obtain⟨h1,h2,_⟩:=hf;exact⟨i,h1,rfl,by simpa[atF]using h2⟩
theorem Xf {l:List Fd} (h:ZkS l) {f:Fd} (hf:f∈l):ZJ l f.at'=(f,0):=by
 unfold ZJ;rcases SE l f.at' with ⟨_,h2⟩|⟨i,hi,h1,h2⟩;exact absurd rfl (h2 f hf);rw[h1,if_neg (by omega)];simp only[JC];rw[getD_lt hi];rw[Zhn h (Jj hi) hf h2]
theorem W4 {l:List Fd} {r:Rf} (h:(ZJ l r).2=0):(ZJ l r).1∈l/\(ZJ l r).1.at'=r:=by
 unfold ZJ at *;rcases SE l r with ⟨h1,_⟩|⟨i,hi,h1,h2⟩;rw[h1]at h;simp at h;rw[h1,if_neg (by omega)];simp only[JC];rw[getD_lt hi];exact⟨Jj hi,h2⟩
theorem ZnL {l:List Fd} {r:Rf} (h:(YE l r).2=0):Z2 l=true/\(∃f∈l,f.at'=r)/\Z2 (YE l r).1=true/\(∀g,g∈(YE l r).1↔g∈l/\g.at'≠r)/\(YE l r).1.length+1=l.length:=by
 unfold YE at *;cases hr:Z2 l with
 |false=>rw[hr]at h;simp at h
 |true=>
  rcases SE l r with ⟨h1,_⟩|⟨i,hi,h1,h2⟩
  ·rw[hr,h1]at h;simp at h
  ·simp only[h1,Ji,if_false,show ¬(i:Int)<0 by omega,JC];obtain⟨k1,k2,k3⟩:=Ya.1 hr;have hsub:(l.eraseIdx i).Sublist l:=List.eraseIdx_sublist _ _;have hlen:(l.eraseIdx i).length+1=l.length:=by rw[List.length_eraseIdx_of_lt hi];omega
   refine⟨trivial,⟨_,Jj hi,h2⟩,Ya.2 ⟨by omega,List.Pairwise.sublist hsub k2,λf hf=>k3 f (hsub.mem hf)⟩,λg=> ?_,hlen⟩;rw[List.mem_eraseIdx_iff_getElem];constructor
   ·rintro ⟨j,hj,hne,rfl⟩
    refine⟨Jj hj,λe=> ?_⟩;have e2:=Zhn k2 (Jj hj) (Jj hi) (e.trans h2.symm);rcases JM j i with q|q|q
    ·have:=Je.1 k2 j i hj hi q;rw[e2,Wo]at this;cases this
    ·exact hne q
    ·have:=Je.1 k2 i j hi hj q;rw[e2,Wo]at this;cases this
   ·rintro ⟨hg,hne⟩
    obtain⟨j,hj,rfl⟩:=Jp hg;exact⟨j,hj,λe=>hne (by subst e;exact h2),rfl⟩
theorem ZqA {l:List Fd} {r:Rf} (hr:Z2 l=true) (h:∃f∈l,f.at'=r):(YE l r).2=0:=by
 obtain⟨f,hf,e⟩:=h;unfold YE;rcases SE l r with ⟨_,h2⟩|⟨i,hi,h1,h2⟩;exact absurd e (h2 f hf);simp[hr,h1,show ¬(i:Int)<0 by omega]
theorem Zg1 (l:List Fd) (f g:Fd):g∈Zbd l f↔g∈l\/g=f:=by
 unfold Zbd;have:=List.takeWhile_append_dropWhile (p:=ZjW f.at') (l:=l);constructor;intro h;rcases Jo.1 h with h|h;exact .inl (by rw[<-this];exact JU _ h);rcases Jw.1 h with h|h;exact .inr h;exact .inl (by rw[<-this];exact JD _ h);rintro (h|h);rw[<-this]at h;rcases Jo.1 h with h|h;exact JU _ h;exact JD _ (List.mem_cons_of_mem _ h);exact JD _ (by simp[h])
theorem Zik:∀ {l:List Fd} {f:Fd},ZkS l->(∀g∈l,g.at'≠f.at')->ZkS (Zbd l f)
 | [],f,_,_=>List.pairwise_singleton _ _
 |a::l,f,h,hn=>by
  obtain⟨p,q⟩:=JJ.1 h;cases hb:WQ a.at' f.at' with
  |true=>
   rw[ZqU hb];refine JJ.2 ⟨λx hx=> ?_,Zik q (λg hg=>hn g (by simp[hg]))⟩;rcases(Zg1 l f x).1 hx with hx|hx
   ·exact p x hx
   ·rw[hx];exact hb
  |false=>
   rw[ZqT hb];have hfa:WQ f.at' a.at'=true:=by
    rcases ZoY a.at' f.at' with h1|h1|h1
    ·rw[hb]at h1;cases h1
    ·exact absurd h1 (hn a (by simp))
    ·exact h1
   refine JJ.2 ⟨λx hx=> ?_,h⟩;rcases Jw.1 hx with rfl|hx
   ·exact hfa
   ·exact Zdj hfa (p x hx)
theorem Zqz {l:List Fd} {f:Fd} (h:(Vm l f).2=0):Z2 l=true/\ZY f=true/\(∀g∈l,g.at'≠f.at')/\Z2 (Vm l f).1=true/\(∀g,g∈(Vm l f).1↔g∈l\/g=f)/\(Vm l f).1.length=l.length+1:=by
 unfold Vm at *;cases hr:Z2 l with
 |false=>rw[hr]at h;simp at h
 |true=>
  cases hf:ZY f with
  |false=>rw[hr,hf]at h;simp at h
  |true=>
   rcases SE l f.at' with ⟨h1,h2⟩|⟨i,hi,h1,h2⟩
   ·by_cases hl:16<=(l.length:Int)
    ·rw[hr,hf,h1]at h;simp[hl]at h
    ·simp only[h1,Ji,or_self,if_false,hl,show ¬(0:Int)<= -1 by omega];obtain⟨k1,k2,k3⟩:=Ya.1 hr;have hil:=SP l f;refine⟨trivial,trivial,h2,Ya.2 ⟨by omega,Zik k2 h2,λg hg=> ?_⟩,λg=>Zg1 l f g,hil⟩;rcases(Zg1 l f g).1 hg with hg|hg
     ·exact k3 g hg
     ·rw[hg];exact hf
   ·rw[hr,hf,h1]at h;simp at h
theorem Zun {l:List Fd} {f:Fd} (hr:Z2 l=true) (hf:ZY f=true) (hn:∀g∈l,g.at'≠f.at') (hl:l.length<16):(Vm l f).2=0:=by
 unfold Vm;rcases SE l f.at' with ⟨h1,h2⟩|⟨i,hi,h1,h2⟩;simp[hr,hf,h1,show ¬16<=(l.length:Int)by omega];exact absurd h2 (hn _ (Jj hi))
theorem F7:∀ {rs:List Rf} {l m:List Fd},Z2 l=true->Tj rs l=some m->Z2 m=true/\(∀g,g∈m↔g∈l/\g.at'∉rs)/\(∀r∈rs,∃f∈l,f.at'=r)/\rs.Nodup/\m.length+rs.length=l.length
 | [],l,m,hr,h=>by cases h;exact⟨hr,by simp,by simp,by simp,by simp⟩
 |r::rs,l,m,hr,h=>by
  unfold Tj at h;split at h;cases h;rename_i hz;obtain⟨a1,a2,a3,a4,a5⟩:=ZnL (by simpa using hz);obtain⟨b1,b2,b3,b4,b5⟩:=F7 a3 h;refine⟨b1,λg=> ?_,λq hq=> ?_,Jv.2 ⟨λhin=> ?_,b4⟩,by simp only[JA];omega⟩;rw[b2,a4];simp only[Jw,not_or];exact⟨λh=>⟨h.1.1,h.1.2,h.2⟩,λh=>⟨⟨h.1,h.2.1⟩,h.2.2⟩⟩;rcases Jw.1 hq with rfl|hq;exact a2;obtain⟨f,hf,e⟩:=b3 q hq;exact⟨f,((a4 f).1 hf).1,e⟩;obtain⟨f,hf,e⟩:=b3 r hin;exact((a4 f).1 hf).2 e
theorem Zp7:∀ {rs:List Rf} {l:List Fd},Z2 l=true->rs.Nodup->(∀r∈rs,∃f∈l,f.at'=r)-> ∃m,Tj rs l=some m
 | [],l,_,_,_=>⟨l,rfl⟩
 |r::rs,l,hr,hn,h=>by
  rw[Jv]at hn;have hz:=ZqA hr (h r (by simp));obtain⟨a1,a2,a3,a4,a5⟩:=ZnL hz;obtain⟨m,hm⟩:=Zp7 (rs:=rs) a3 hn.2 (λq hq=>by
   obtain⟨f,hf,e⟩:=h q (by simp[hq]);exact⟨f,(a4 f).2 ⟨hf,λe2=>hn.1 (by rw[<-e2,e];exact hq)⟩,e⟩)
  exact⟨m,by unfold Tj;rw[if_neg (by simp[hz])];exact hm⟩
theorem T4:∀ {fs l m:List Fd},Z2 l=true->YD fs l=some m->Z2 m=true/\(∀g,g∈m↔g∈l\/g∈fs)/\(∀f∈fs,ZY f=true/\ ∀g∈l,g.at'≠f.at')/\(fs.map (·.at')).Nodup/\m.length=l.length+fs.length
 | [],l,m,hr,h=>by cases h;exact⟨hr,by simp,by simp,by simp,by simp⟩
 |f::fs,l,m,hr,h=>by
  unfold YD at h;split at h;cases h;rename_i hz;obtain⟨a1,a2,a3,a4,a5,a6⟩:=Zqz (by simpa using hz);obtain⟨b1,b2,b3,b4,b5⟩:=T4 a4 h;refine⟨b1,λg=> ?_,λq hq=> ?_,?_,by simp only[JA];omega⟩;rw[b2,a5,Jw,or_assoc];rcases Jw.1 hq with rfl|hq;exact⟨a2,a3⟩;exact⟨(b3 q hq).1,λg hg=>(b3 q hq).2 g ((a5 g).2 (.inl hg))⟩;rw[Jc,Jv];refine⟨λhin=> ?_,b4⟩;obtain⟨q,hq,e⟩:=Jk.1 hin;exact(b3 q hq).2 f ((a5 f).2 (.inr rfl)) e.symm
theorem ZhZ:∀ {fs l:List Fd},Z2 l=true->(∀f∈fs,ZY f=true)->(∀f∈fs,∀g∈l,g.at'≠f.at')->(fs.map (·.at')).Nodup->l.length+fs.length<=16-> ∃m,YD fs l=some m
 | [],l,_,_,_,_,_=>⟨l,rfl⟩
 |f::fs,l,hr,hf,hp,hn,hl=>by
  rw[Jc,Jv]at hn;simp only[JA]at hl;have hz:=Zun hr (hf f (by simp)) (hp f (by simp)) (by omega);obtain⟨a1,a2,a3,a4,a5,a6⟩:=Zqz hz;obtain⟨m,hm⟩:=ZhZ (fs:=fs) a4 (λq hq=>hf q (by simp[hq])) (λq hq g hg e=>by
   rcases(a5 g).1 hg with hg|hg;exact hp q (by simp[hq]) g hg e;exact hn.1 (Jk.2 ⟨q,hq,by rw[<-e,hg]⟩)) hn.2 (by omega)
  exact⟨m,by unfold YD;rw[if_neg (by simp[hz])];exact hm⟩
theorem Gi {l m:List Fd} {x:Ln} (h:ZT l x=(m,0)):Z2 l=true/\ZE x=true/\ ∃cs l1,Vn l x=(cs,true)/\Tj (Zy x) l=some l1/\YD cs l1=some m:=by
 unfold ZT at h;split at h;simp at h;rename_i hh;simp only[not_or,Bool.not_eq_false]at hh;refine⟨hh.1,hh.2,?_⟩;split at h;simp at h;rename_i k hk;simp only[Prod.mk.injEq,and_true]at h;subst h;unfold Gg at hk;split at hk;cases hk;rename_i ha;obtain⟨l1,h1,h2⟩:=JQ.1 hk;refine⟨(Vn l x).1,l1,?_,h1,h2⟩;have:(Vn l x).2=true:=by simpa using ha
 rw[<-this]
theorem TB {l l1 m cs gs:List Fd} {x y:Ln} (hl:Z2 l=true) (h1:Tj (Zy x) l=some l1) (h2:YD cs l1=some m) (hy:ZE y=true) (k1:Zy y=cs.map (·.at')) (k2:Vn m y=(gs,true)) (k3:∀g∈gs,g∈l) (k4:gs.map (·.at')=Zy x):ZT m y=(l,0):=by
 obtain⟨a1,a2,a3,a4,a5⟩:=F7 hl h1;obtain⟨b1,b2,b3,b4,b5⟩:=T4 a1 h2;obtain⟨r1,r2,r3⟩:=Ya.1 hl;obtain⟨m1,hm1⟩:=Zp7 (rs:=cs.map (·.at')) b1 b4 (λr hr=>by
  obtain⟨f,hf,e⟩:=Jk.1 hr;exact⟨f,(b2 f).2 (.inr hf),e⟩)
 obtain⟨c1,c2,c3,c4,c5⟩:=F7 b1 hm1;have e1:m1=l1:=ZdB (Ya.1 c1).2.1 (Ya.1 a1).2.1 λf=>by
  rw[c2,b2];constructor;rintro ⟨hf|hf,hn⟩;exact hf;exact absurd (Jk.2 ⟨f,hf,rfl⟩) hn;intro hf;refine⟨.inl hf,λhin=> ?_⟩;obtain⟨q,hq,e⟩:=Jk.1 hin;exact(b3 q hq).2 f hf e.symm
 subst e1;have hgl:gs.length=(Zy x).length:=by rw[<-k4];simp
 obtain⟨l2,hl2⟩:=ZhZ (fs:=gs) a1 (λf hf=>r3 f (k3 f hf)) (λf hf g hg e=>((a2 g).1 hg).2 (by rw[e,<-k4];exact Jk.2 ⟨f,hf,rfl⟩)) (by rw[k4];exact a4) (by omega);obtain⟨d1,d2,d3,d4,d5⟩:=T4 a1 hl2;have e2:l2=l:=ZdB (Ya.1 d1).2.1 r2 λf=>by
  rw[d2,a2];constructor;rintro (hf|hf);exact hf.1;exact k3 f hf;intro hf;by_cases hin:f.at'∈Zy x;right;rw[<-k4]at hin;obtain⟨q,hq,e⟩:=Jk.1 hin;rw[<-Zhn r2 (k3 q hq) hf e];exact hq;exact .inl ⟨hf,hin⟩
 subst e2;unfold ZT;rw[if_neg (by simp[b1,hy])];have:Gg m y=some l2:=by
  unfold Gg;rw[k2,if_neg (by simp),k1,hm1];exact hl2
 rw[this]
open Go.PL
def Xs (m:List Eg) (id:Tg):Option Eg:=m.find? λe=>decide (id=e.id)
theorem XW {m:List Eg} {id:Tg} {e:Eg} (h:Xs m id=some e):id=e.id/\e∈m:=by
 unfold Xs at h;exact⟨by simpa using List.find?_some h,Ju h⟩
inductive Way (m:List Eg):Tg->List Eg->Prop
 |root:Way m Jd []
 |step {id:Tg} {e:Eg} {w:List Eg} (hn:id≠Jd) (he:Xs m id=some e) (hw:Way m e.par w):Way m id (w++ [e])
theorem Way.fn {m:List Eg} {id:Tg} {w w':List Eg} (h:Way m id w) (h':Way m id w'):w=w':=by
 induction h generalizing w' with
 |root=>cases h' with
  |root=>rfl
  |step hn he hw=>exact absurd rfl hn
 |step hn he hw ih=>
  cases h' with
  |root=>exact absurd rfl hn
  |step hn' he' hw'=>
   rw[he]at he';cases he';rw[ih hw']
theorem Way.mem {m:List Eg} {id:Tg} {w:List Eg} (h:Way m id w):∀e∈w,e∈m:=by
 induction h with
 |root=>intro e he;cases he
 |step hn he hw ih=>
  intro x hx;rcases Jo.1 hx with hx|hx;exact ih x hx;rw[Jl.1 hx];exact(XW he).2
theorem Way.take {m:List Eg} {id:Tg} {w:List Eg} (h:Way m id w):∀k (hk:k<w.length),Way m (w[k]).id (w.take (k+1)):=by
 induction h with
 |root=>intro k hk;simp at hk
 |step hn he hw ih=>
  rename_i id e w;intro k hk;by_cases hlt:k<w.length;rw[List.getElem_append_left hlt,JI (by omega)];exact ih k hlt;have hk':k=w.length:=by simp at hk;omega
  subst hk';have e1:(w++ [e])[w.length]'hk=e:=by simp
  rw[e1,JT (by simp)];have:=(XW he).1;rw[<-this];exact .step hn he hw
theorem Way.nodup {m:List Eg} {id:Tg} {w:List Eg} (h:Way m id w):w.Nodup:=by
 rw[Js,Je];intro i j hi hj hij e;have h1:=h.take i hi;have h2:=h.take j hj;rw[e]at h1;have:=congrArg J9 (h1.fn h2);simp at this;omega
theorem Zdr {α:Type} [DecidableEq α]:∀ {l m:List α},l.Nodup->(∀x∈l,x∈m)->l.length<=m.length
 | [],_,_,_=>Ja _
 |a::l,m,hn,hs=>by
  rw[Jv]at hn;have ha:a∈m:=hs a (by simp);have:=Zdr (l:=l) (m:=m.erase a) hn.2 (λx hx=>(List.mem_erase_of_ne (λe:x=a=>hn.1 (e▸hx))).2 (hs x (by simp[hx])));rw[List.length_erase_of_mem ha]at this;have:0<m.length:=List.length_pos_of_mem ha;simp only[JA];omega
theorem Way.len {m:List Eg} {id:Tg} {w:List Eg} (h:Way m id w):w.length<=m.length:=Zdr h.nodup h.mem
def ZnX (m:List Eg):Nat->Tg->List Eg->Option (List Eg)
 |0,_,_=>none
 |k+1,id,way=>if id=Jd then some way else match Xs m id with
  |none=>none
  |some e=>ZnX m k e.par (e::way)
def Zd1 (m:List Eg) (id:Tg):Option (List Eg):=ZnX m (m.length+1) id []
theorem ZcH {m:List Eg}:∀ {k:Nat} {id:Tg} {acc r:List Eg},ZnX m k id acc=some r-> ∃w,Way m id w/\r=w++acc
 |0,_,_,_,h=>by cases h
 |k+1,id,acc,r,h=>by
  unfold ZnX at h;split at h;rename_i hd;cases h;exact⟨[],hd▸ .root,rfl⟩;rename_i hd;split at h;cases h;rename_i e he;obtain⟨w,h1,h2⟩:=ZcH h;exact⟨w++ [e],.step hd he h1,by rw[h2];simp⟩
theorem ZnD {m:List Eg} {id:Tg} {w:List Eg} (h:Way m id w):∀ {k:Nat} (acc:List Eg),w.length<k->ZnX m k id acc=some (w++acc):=by
 induction h with
 |root=>intro k acc hk;cases k with
  |zero=>simp at hk
  |succ k=>simp[ZnX]
 |step hn he hw ih=>
  intro k acc hk;cases k with
  |zero=>simp at hk
  |succ k=>
   simp only[Jz,JA,List.length_nil]at hk;simp only[ZnX,if_neg hn,he];rw[ih _ (by omega)];simp
theorem XF {m:List Eg} {id:Tg} {w:List Eg}:Zd1 m id=some w↔Way m id w:=by
 constructor;intro h;obtain⟨w',h1,h2⟩:=ZcH h;rw[h2,Jb];exact h1;intro h;have:=ZnD h (k:=m.length+1) [] (by have:=h.len;omega);simpa[Zd1]using this
def Xg:List Eg->List Fd->Option (List Fd)
 | [],fs=>some fs
 |e::es,fs=>if(ZT fs e.ln).2≠0 then none else Xg es (ZT fs e.ln).1
theorem DL (w v:List Eg) (fs:List Fd):Xg (w++v) fs=(Xg w fs).bind (Xg v):=by
 induction w generalizing fs with
 |nil=>rfl
 |cons e w ih=>
  simp only[JZ,Xg];split;rfl;exact ih _
def Dq (e:Eg):Option (List Eg)->Nd
 |none=>⟨e,1,[],0⟩
 |some w=>match Xg w U5 with
  |none=>⟨e,3,[],0⟩
  |some fs=>⟨e,2,fs,w.length⟩
def Yp (m:List Eg) (e:Eg):Nd:=Dq e (Zd1 m e.id)
def Zd (m:List Eg):List Nd:=m.map (Yp m)
def Zis (e:Eg):Nd:=⟨e,1,[],0⟩
theorem V7 (m:List Eg) (e:Eg):(Yp m e).e=e:=by
 unfold Yp Dq;split;rfl;split<;>rfl
structure Apart (m:List Eg):Prop where
 d:(m.map (·.id)).Nodup
 n:∀e∈m,e.id≠Jd
theorem Apart.find {m:List Eg} (h:Apart m) {e:Eg} (he:e∈m):Xs m e.id=some e:=by
 obtain⟨l1,l2,rfl⟩:=List.append_of_mem he;have hd:=h.d;simp only[J4,Jc]at hd;unfold Xs;rw[JV];have hno:l1.find? (λx=>decide (e.id=x.id))=none:=by
  rw[JK];intro x hx hh;have hx':x.id∈l1.map (·.id):=Jk.2 ⟨x,hx,rfl⟩;have:=(JN.1 hd).2.2 _ hx' e.id (by simp);exact this (by simpa using Eq.symm (by simpa using hh))
 rw[hno];simp
def Zgx (m:List Eg) (c:List Nd):Prop:=c.length=m.length/\ ∀i,i<m.length->c.getD i Jd=Zis (m.getD i Jd)\/(c.getD i Jd=Yp m (m.getD i Jd)/\(c.getD i Jd).st≠1)
theorem Uz {m:List Eg} {e:Eg}:(Yp m e).st=1↔Zd1 m e.id=none:=by
 unfold Yp Dq;split;rename_i h;simp[h];rename_i w h;constructor;intro hh;split at hh<;>cases hh
 intro hh;rw[h]at hh;cases hh
theorem SQ {m:List Eg} {e:Eg} (h:Zd1 m e.id=none):Yp m e=Zis e:=by simp[Yp,Dq,h,Zis]
theorem Zrc (e:Eg):(Zis e).st=1:=rfl
theorem Zcu {m:List Eg} {c:List Nd} (h:Zgx m c) {i:Nat} (hi:i<m.length):(c.getD i Jd).e=m.getD i Jd:=by
 rcases h.2 i hi with h|⟨h,_⟩;rw[h];rfl;rw[h,V7]
theorem ZdC {m:List Eg} {c:List Nd} (h:Zgx m c):c.map (·.e)=m:=by
 apply JR;simp[h.1];intro i h1 h2;have:=Zcu h h2;rw[getD_lt (by have:=h.1;omega),getD_lt h2]at this;simpa using this
theorem ZeU {m:List Eg} {c:List Nd} (h:Zgx m c) (id:Tg):(Dk c id).map (·.e)=Xs m id:=by
 rw[<-ZdC h];unfold Dk Xs;rw[J5];rfl
theorem Ziq {m:List Eg} {c:List Nd} (h:Zgx m c) {n:Nd} (hn:n∈c):n.e∈m/\(n=Zis n.e\/(n=Yp m n.e/\n.st≠1)):=by
 obtain⟨i,hi,rfl⟩:=Jp hn;have hi':i<m.length:=by have:=h.1;omega
 have e:=Zcu h hi';have k:=h.2 i hi';rw[getD_lt hi]at e k;rw[e];exact⟨Ze hi',k⟩
def U3 (e:Eg) (up:Nd):Nd:=if up.st=2/\(ZT up.sch e.ln).2=0 then⟨e,2,(ZT up.sch e.ln).1,up.dep+1⟩else⟨e,3,[],0⟩
theorem Zha {m:List Eg} {e:Eg} {w:List Eg} (ha:Apart m) (he:e∈m) (hw:Way m e.par w):Yp m e=match Xg w U5 with
  |none=>⟨e,3,[],0⟩
  |some fs=>U3 e ⟨Jd,2,fs,w.length⟩:=by
 have h1:Way m e.id (w++ [e]):= .step (ha.n e he) (ha.find he) hw;have h2:=XF.2 h1;unfold Yp Dq;rw[h2];simp only[DL];cases hf:Xg w U5 with
 |none=>rfl
 |some fs=>
  simp only[JF,Xg,U3]
  by_cases hz:(ZT fs e.ln).2=0
  ·simp[hz]
  ·simp[hz]
theorem ZmS {m:List Eg} {c:List Nd} (ha:Apart m) (h:Zgx m c) {e:Eg} (he:e∈m) (hu:(atN c e.par).st=2\/(atN c e.par).st=3):U3 e (atN c e.par)=Yp m e/\(Yp m e).st≠1:=by
 have key:∃w,Way m e.par w/\U3 e (atN c e.par)=(match Xg w U5 with|none=>⟨e,3,[],0⟩|some fs=>U3 e ⟨Jd,2,fs,w.length⟩):=by
  unfold atN at hu ⊢;by_cases hp:e.par=Jd;rw[if_pos hp];exact⟨[],hp▸ .root,by simp[Xg,U3,ZfE]⟩;rw[if_neg hp]at hu ⊢;cases hf:Dk c e.par with
  |none=>rw[hf]at hu;simp at hu;rcases hu with hu|hu<;>cases hu
  |some n=>
   rw[hf]at hu;simp only[JG]at hu ⊢;have hn:n∈c:=Ju hf;obtain⟨hm,hk⟩:=Ziq h hn;rcases hk with hk|⟨hk,hst⟩
   ·rw[hk]at hu;simp[Zis]at hu
   ·have hid:e.par=n.e.id:=by
     have:=ZeU h e.par;rw[hf]at this;exact(XW this.symm).1
    cases hw:Zd1 m n.e.id with
    |none=>rw[hk]at hst;exact absurd (Uz.2 hw) hst
    |some w=>
     refine⟨w,by rw[hid];exact XF.1 hw,?_⟩;have hnw:n=Dq n.e (some w):=by rw[<-hw];exact hk
     unfold Dq at hnw;cases hfa:Xg w U5 with
     |none=>
      simp only[hfa]at hnw;rw[hnw];simp[U3]
     |some fs=>
      simp only[hfa]at hnw;rw[hnw];simp[U3]
 obtain⟨w,hw,hk⟩:=key;refine⟨by rw[hk,Zha ha he hw],λhh=> ?_⟩;have:=Uz.1 hh;have h2:=XF.2 (Way.step (ha.n e he) (ha.find he) hw);rw[this]at h2;cases h2
theorem ZmR {m:List Eg} {c:List Nd} (ha:Apart m) (h:Zgx m c) (hd:∀i,i<m.length->(c.getD i Jd).st≠1\/((atN c (m.getD i Jd).par).st≠2/\(atN c (m.getD i Jd).par).st≠3)):c=Zd m:=by
 have hs:∀ {id w},Way m id w-> ∀e,Xs m id=some e->id≠Jd->Yp m e∈c:=by
  intro id w hw;induction hw with
  |root=>intro e _ hn;exact absurd rfl hn
  |step hn he hw ih=>
   rename_i id e w;intro e' he' _;rw[he]at he';cases he';obtain⟨hid,hem⟩:=XW he;obtain⟨i,hi,rfl⟩:=Jp hem;have hic:i<c.length:=by have:=h.1;omega
   rcases h.2 i hi with hk|⟨hk,_⟩;exfalso;rcases hd i hi with h1|⟨h1,h2⟩;rw[hk]at h1;exact h1 rfl;rw[getD_lt hi]at h1 h2;by_cases hp:(m[i]).par=Jd;simp[atN,hp,ZfE]at h1;cases hfe:Xs m (m[i]).par with
   |none=>
    generalize (m[i]).par=p at *;cases hw with
    |root=>exact hp rfl
    |step _ hq _=>rw[hfe]at hq;cases hq
   |some q=>
    have hq:=ih q hfe hp;obtain⟨hqid,hqm⟩:=XW hfe;have hfn:Dk c (m[i]).par=some (Yp m q):=by
     have h3:=ZeU h (m[i]).par;rw[hfe]at h3;cases hx:Dk c (m[i]).par with
     |none=>rw[hx]at h3;cases h3
     |some n=>
      rw[hx]at h3;simp only[JB,J3.injEq]at h3;have hn:n∈c:=Ju hx;have hcd:(c.map (·.e.id)).Nodup:=by
       have:=ZdC h;have h4:=ha.d;rw[<-this,JW]at h4;exact h4
      congr 1;obtain⟨a1,b1,ha1⟩:=Jp hn;obtain⟨a2,b2,ha2⟩:=Jp hq;have hee:n.e.id=(Yp m q).e.id:=by rw[V7,h3]
      have:a1=a2:=by
       rw[Js,Je]at hcd;rcases JM a1 a2 with hlt|heq|hlt
       ·exact absurd (show(c.map (·.e.id))[a1]'(by simpa using b1)=(c.map (·.e.id))[a2]'(by simpa using b2)by rw[Jg,Jg,ha1,ha2];exact hee) (hcd a1 a2 (by simpa using b1) (by simpa using b2) hlt)
       ·exact heq
       ·exact absurd (show(c.map (·.e.id))[a2]'(by simpa using b2)=(c.map (·.e.id))[a1]'(by simpa using b1)by rw[Jg,Jg,ha1,ha2];exact hee.symm) (hcd a2 a1 (by simpa using b2) (by simpa using b1) hlt)
      subst this;rw[<-ha1,<-ha2]
    have hst:(Yp m q).st≠1:=λhh=>by
     have:=Uz.1 hh;rw[<-hqid]at this;rw[XF.2 hw]at this;cases this
    have hst2:(Yp m q).st=2\/(Yp m q).st=3:=by
     revert hst;unfold Yp Dq;split;exact λh=>absurd rfl h
     split;exact λ_=> .inr rfl
     exact λ_=> .inl rfl
    have hat:atN c (m[i]).par=Yp m q:=by simp[atN,hp,hfn]
    rw[hat]at h1 h2;rcases hst2 with h5|h5;exact h1 h5;exact h2 h5
   rw[getD_lt hic,getD_lt hi]at hk;rw[<-hk];exact Jj hic
 apply JR;simp[Zd,h.1];intro i h1 h2;have hi:i<m.length:=by have:=h.1;omega
 have hk:=h.2 i hi;rw[getD_lt h1,getD_lt hi]at hk;simp only[Zd,Jg];rcases hk with hk|⟨hk,_⟩;rw[hk];cases hw:Zd1 m (m[i]).id with
 |none=>exact(SQ hw).symm
 |some w=>
  exfalso;have hem:m[i]∈m:=Jj hi;have hmem:=hs (XF.1 hw) _ (ha.find hem) (ha.n _ hem);obtain⟨j,hj,hje⟩:=Jp hmem;have hjm:j<m.length:=by have:=h.1;omega
  have h3:=Zcu h hjm;rw[getD_lt hj,getD_lt hjm,hje,V7]at h3;have hij:i=j:=by
   have hd:=ha.d;rw[Js,Je]at hd;rcases JM i j with hlt|heq|hlt
   ·exact absurd (show(m.map (·.id))[i]'(by simpa using hi)=(m.map (·.id))[j]'(by simpa using hjm)by rw[Jg,Jg,h3]) (hd i j (by simpa using hi) (by simpa using hjm) hlt)
   ·exact heq
   ·exact absurd (show(m.map (·.id))[j]'(by simpa using hjm)=(m.map (·.id))[i]'(by simpa using hi)by rw[Jg,Jg,h3]) (hd j i (by simpa using hjm) (by simpa using hi) hlt)
  subst hij;rw[hk]at hje;have:=congrArg Nd.st hje;rw[Zrc]at this;have:=Uz.1 this.symm;rw[hw]at this;cases this
 exact hk
open Go.PL
theorem Zmp:∀(rs:List Rf) {l m:List Fd},OkFs l->Tj rs l=some m->OkFs m
 | [],l,m,h,e=>by cases e;exact h
 |r::rs,l,m,h,e=>by
  unfold Tj at e;split at e;cases e;exact Zmp rs (Zaq h r) e
theorem Zfj:∀(fs:List Fd) {l m:List Fd},(∀f∈fs,f.cases'.length<=1000000)->OkFs l->YD fs l=some m->OkFs m
 | [],l,m,_,h,e=>by cases e;exact h
 |f::fs,l,m,hc,h,e=>by
  unfold YD at e;split at e;cases e;exact Zfj fs (λg hg=>hc g (by simp[hg])) (Zmr h (hc f (by simp))) e
theorem Zhd {l:List Fd} {x:Ln} (hl:OkFs l) (hx:OkLn x):OkFs (ZT l x).1:=by
 have o0:OkFs []:=⟨Ja _,λf hf=>by cases hf⟩;unfold ZT;split;exact o0;split;exact o0;rename_i m hm;unfold Gg at hm;split at hm;cases hm;obtain⟨k,h1,h2⟩:=JQ.1 hm;exact Zfj _ (ZsR hl hx).c (Zmp _ hl h1) h2
theorem Zfm:OkFs U5:=⟨by decide,by decide⟩
theorem Zmo:∀(w:List Eg) {fs gs:List Fd},(∀e∈w,OkLn e.ln)->OkFs fs->Xg w fs=some gs->OkFs gs
 | [],fs,gs,_,h,e=>by cases e;exact h
 |e::w,fs,gs,hw,h,he=>by
  unfold Xg at he;split at he;cases he;exact Zmo w (λx hx=>hw x (by simp[hx])) (Zhd h (hw e (by simp))) he
theorem ZsU {m:List Eg} (hm:∀e∈m,OkLn e.ln) (e:Eg):OkFs (Yp m e).sch/\0<=(Yp m e).dep/\(Yp m e).dep<=(m.length:Int):=by
 have o0:OkFs []:=⟨Ja _,λf hf=>by cases hf⟩;unfold Yp Dq;split;exact⟨o0,by simp,by simp⟩;rename_i w hw;have h1:=XF.1 hw;split;exact⟨o0,by simp,by simp⟩;rename_i fs hf;have:=h1.len;exact⟨Zmo w (λx hx=>hm x (h1.mem x hx)) Zfm hf,by simp,by simp only;omega⟩
theorem ZsS {m:List Eg} {c:List Nd} (hm:∀e∈m,OkLn e.ln) (h:Zgx m c) (id:Tg):OkFs (atN c id).sch/\0<=(atN c id).dep/\(atN c id).dep<=(m.length:Int):=by
 have o0:OkFs []:=⟨Ja _,λf hf=>by cases hf⟩;unfold atN;split;exact⟨Zfm,by simp[ZfE],by simp[ZfE]⟩;cases hf:Dk c id with
 |none=>exact⟨o0,Int.le_refl _,by show(0:Int)<=_;omega⟩
 |some n=>
  simp only[JG];obtain⟨_,hk⟩:=Ziq h (Ju hf);rcases hk with hk|⟨hk,_⟩;rw[hk];exact⟨o0,by simp[Zis],by simp[Zis]⟩;rw[hk];exact ZsU hm _
theorem Zpt {m:List Eg} {c:List Nd} (ha:Apart m) (h:Zgx m c) {i:Nat} (hi:i<c.length):(c.findIdx? λn=>decide ((c.getD i Jd).e.id=n.e.id))=some i:=by
 rw[Jt];refine⟨hi,by rw[getD_lt hi];simp,λj hj=> ?_⟩;have hd:=ha.d;rw[<-ZdC h,JW]at hd;rw[Js,Je]at hd;have:=hd j i (by simp;omega) (by simpa using hi) hj;simp only[Jg,Function.comp]at this;rw[getD_lt hi];simp only[decide_eq_true_eq];exact λe=>this e.symm
theorem ZiB {m:List Eg} {c:List Nd} (ha:Apart m) (h:Zgx m c) {i:Nat} (hi:i<c.length) (hu:(atN c (c.getD i Jd).e.par).st=2\/(atN c (c.getD i Jd).e.par).st=3):Zgx m (c.set i (U3 (c.getD i Jd).e (atN c (c.getD i Jd).e.par))):=by
 have him:i<m.length:=by have:=h.1;omega
 have he:=Zcu h him;rw[he]at hu ⊢;obtain⟨k1,k2⟩:=ZmS ha h (Ze him) hu;rw[k1];refine⟨by simp[h.1],λj hj=> ?_⟩;by_cases e:i=j;subst e;right;have:(c.set i (Yp m (m.getD i Jd))).getD i Jd=Yp m (m.getD i Jd):=by
  rw[getD_lt (by simpa using hi)];simp
 rw[this];exact⟨rfl,k2⟩;have:(c.set i (Yp m (m.getD i Jd))).getD j Jd=c.getD j Jd:=by
  simp only[List.getD_eq_getElem?_getD,List.getElem?_set_ne e]
 rw[this];exact h.2 j hj
def Zpd (c:List Nd):Nat:=c.countP λn=>decide (n.st=1)
theorem Zau {c:List Nd} {i:Nat} {n:Nd} (hi:i<c.length) (h1:(c.getD i Jd).st=1) (h2:n.st≠1):Zpd (c.set i n)<Zpd c:=by
 unfold Zpd;rw[getD_lt hi]at h1;rw[List.countP_set hi];have:0<c.countP λn=>decide (n.st=1):=List.countP_pos_iff.2 ⟨c[i],Jj hi,by simpa using h1⟩
 simp only[h1,decide_true,if_true,h2,decide_false,Bool.false_eq_true,if_false];omega
theorem Zg3 (c:List Nd) (i:Nat) (n:Nd) (h:n.e=(c.getD i Jd).e):kts (c.set i n)=kts c:=by
 unfold kts;apply List.ext_getElem?;intro j;simp only[List.getElem?_map,List.getElem?_set];by_cases e:i=j;subst e;by_cases hi:i<c.length;simp[hi,h,getD_lt hi];simp[hi];simp[e]
theorem Zg8 (c:List Nd) (i:Nat) (n:Nd):nds (c.set i n)=(nds c).set i (nd n):=by simp[nds,List.map_set]
theorem Zg9 (e:Eg) (u:Nd):(U3 e u).e=e:=by unfold U3;split<;>rfl
theorem Zdp (e:Eg) (u:Nd):(U3 e u).st≠1:=by unfold U3;split<;>simp
theorem Zaf (c:List Nd):(kts c).length=c.length:=by simp[kts]
structure Seen (n:Nat) (p:Nat->Prop) where
 l:List Nat
 d:l.Nodup
 h:∀i∈l,i<n/\p i
def Seen.next {n:Nat} {p:Nat->Prop} (s:Seen n p) (i:Nat) (hi:i<n) (hp:p i) (hn:i∉s.l):Seen n p:=
 ⟨s.l++ [i],by rw[JN];exact⟨s.d,by simp,λa ha b hb=>by simp at hb;subst hb;exact λe=>hn (e▸ha)⟩,λj hj=>by
  rcases Jo.1 hj with hj|hj
  ·exact s.h j hj
  ·simp at hj;subst hj;exact⟨hi,hp⟩⟩
theorem Seen.len {n:Nat} {p:Nat->Prop} (s:Seen n p):s.l.length<=n:=by
 have:=Zdr (m:=List.range n) s.d (λi hi=>List.mem_range.2 (s.h i hi).1);simpa using this
open Go.PL
def Zu7 (m:List Eg):Type:= { c:List Nd // Zgx m c }
def Zpv (c:List Nd) (i:Nat):Prop:=(c.getD i Jd).st≠1\/((atN c (c.getD i Jd).e.par).st≠2/\(atN c (c.getD i Jd).e.par).st≠3)
theorem Ze8 (l:List Nat) (i:Nat):(l++ [i]).getLast? = some i:=by simp
theorem ZmT {m:List Eg} {c:List Nd} (h:Zgx m c) {i:Nat} (hi:i<m.length) (h1:(c.getD i Jd).st=1):(c.getD i Jd).sch= []/\(c.getD i Jd).dep=0:=by
 rcases h.2 i hi with hk|⟨_,hk⟩;rw[hk];exact⟨rfl,rfl⟩;exact absurd h1 hk
theorem ZmU (m:List Eg) (c0:List Nd) (ha:Apart m) (h0:Zgx m c0) (hm:∀e∈m,OkLn e.ln) (hl:m.length<=1000):PL.Wr prog 66 (λb=> [.rptr [.mref b]]) (mc c0) (.tup []) (mc (Zd m)):=by
 refine PL.Wr.of_v func66 (by decide) rfl ntmps66 results66 (by simp) rfl (λb=> ?_);simp only[go_sem];refine ZrU (ι:=Zu7 m) 61 (λx=> [(0,.rptr [.mref b])]) (λx=> []) (λx=> []) (λx=> [(b,mc x.1)]) (λx=> []) (λx=>Zpd x.1) 0 _ (by exact rfl) (λx=>⟨(fcs rfl fnl),fnl⟩) (λx=> ?_) (λcut=> ?_);obtain⟨c,hc⟩:=x;simp only;have hcl:=hc.1;simp only[go_sem];intro ib;simp only[go_sem,forall_const,mc,Zaf];refine Zqv (ι:=Seen c.length (Zpv c)) 61 (λx=> [(0,.rptr [.mref b]),(11,.iptr ib)]) (λx=> []) (λx=> []) (λx=> [(b,mc c)]) (λx=> [(ib,⟨b,c.length,x.l,none⟩)]) (λx=>c.length-x.l.length) ⟨[],by simp,λi hi=>by cases hi⟩
  ⟨⟨rfl,(Fc2 rfl rfl),fnl,fnl⟩,fcs (by simp[upd,mc]) fnl,fcs (by simp[upd]) fnl⟩ (λx=>⟨(Fc2 rfl rfl),fnl⟩) (λx=> ?_)
 have hsl:=x.len;simp only[go_sem,mc,Zaf];refine⟨λhall=> ?_,λi hi hns=> ?_⟩;have hdone:c=Zd m:=ZmR ha hc λi hi=>by
  have:=(x.h i (hall i (by omega))).2;unfold Zpv at this;rw[Zcu hc hi]at this;exact this
 rw[<-hdone];have him:i<m.length:=by omega
 have hA:=Zk4 c (c.getD i Jd).e.par;obtain⟨ok1,ok2,ok3⟩:=ZsS hm hc (c.getD i Jd).e.par;have hL:=ZiX (atN c (c.getD i Jd).e.par).sch (c.getD i Jd).e.ln ok1 (by rw[Zcu hc him];exact hm _ (Ze him));have hset:=Zpt ha hc hi;have hwd:IntKind.i64.wrap ((atN c (c.getD i Jd).e.par).dep+1)=(atN c (c.getD i Jd).e.par).dep+1:=w64 (by omega);have hnx:∀(s':St) (j:Seen c.length (Zpv c)),j.l.length=x.l.length+1->HasO 61 [(0,.rptr [.mref b]),(11,.iptr ib)] [] [] [(b,mc c)] [(ib,⟨b,c.length,j.l,none⟩)] s'->ZqD 61 (λx=> [(0,.rptr [.mref b]),(11,.iptr ib)]) (λx=> []) (λx=> []) (λx=> [(b,mc c)]) (λx=> [(ib,⟨b,c.length,x.l,none⟩)]) (λx:Seen c.length (Zpv c)=>c.length-x.l.length) x s':=λs' j hj hh=>⟨j,by have:=j.len;show c.length-j.l.length<c.length-x.l.length;omega,hh⟩
 by_cases h1:(c.getD i Jd).st=1;obtain⟨hp1,hp2⟩:=ZmT hc him h1;have e1:((c.getD i Jd).st !=1)=false:=by rw[h1];rfl
 simp only[go_sem,Ze8,F6 hi,ZlI hi,hi,Zaf,tg,nd,e1];refine Fs hA (Zo6 _) ?_ ?_ ?_;simp only[go_sem];simp only[go_sem,tr,tg,kts,nds];by_cases hs2:(atN c (c.getD i Jd).e.par).st=2;have e2:((atN c (c.getD i Jd).e.par).st !=2)=false:=by rw[hs2];rfl
 have e2':((atN c (c.getD i Jd).e.par).st==2)=true:=by rw[hs2];rfl
 have hsem:=ZiB ha hc hi (.inl hs2);simp only[go_sem,nd,e2,e2'];refine vc3 hL ?_;simp only[go_sem,ZM,Zi];by_cases hz:(ZT (atN c (c.getD i Jd).e.par).sch (c.getD i Jd).e.ln).2=0;have hnn:U3 (c.getD i Jd).e (atN c (c.getD i Jd).e.par)=⟨(c.getD i Jd).e,2,(ZT (atN c (c.getD i Jd).e.par).sch (c.getD i Jd).e.ln).1,(atN c (c.getD i Jd).e.par).dep+1⟩:=by unfold U3;rw[if_pos ⟨hs2,hz⟩]
 simp only[go_sem,hz];refine Zf1 [(4,3)] (by kernel_rfl) (by kernel_rfl) (by exact rfl) ?_;simp only[go_sem,hwd];refine vDq ?_;simp only[go_sem,Yy,hset];refine⟨⟨_,hsem⟩,Zau hi h1 (Zdp _ _),⟨⟨rfl,(fcs rfl fnl),fnl,fnl⟩,fcs ?_ fnl,fnl⟩⟩;simp only[Za];rw[Zg3 c i _ (Zg9 _ _),Zg8,hnn];rfl;have hnn:U3 (c.getD i Jd).e (atN c (c.getD i Jd).e.par)=⟨(c.getD i Jd).e,3,[],0⟩:=by unfold U3;rw[if_neg (λhh=>hz hh.2)]
 have hzb:((ZT (atN c (c.getD i Jd).e.par).sch (c.getD i Jd).e.ln).2==0)=false:=by simpa using hz
 simp only[go_sem,hzb];refine vDq ?_;simp only[go_sem,Yy,hset];refine⟨⟨_,hsem⟩,Zau hi h1 (Zdp _ _),⟨⟨rfl,(fcs rfl fnl),fnl,fnl⟩,fcs ?_ fnl,fnl⟩⟩;simp only[Za];rw[Zg3 c i _ (Zg9 _ _),Zg8,hnn];simp only[nd,hp1,hp2];by_cases hs3:(atN c (c.getD i Jd).e.par).st=3;have e2:((atN c (c.getD i Jd).e.par).st !=2)=true:=by rw[hs3];rfl
 have e2':((atN c (c.getD i Jd).e.par).st==2)=false:=by rw[hs3];rfl
 have e3:((atN c (c.getD i Jd).e.par).st !=3)=false:=by rw[hs3];rfl
 have hsem:=ZiB ha hc hi (.inr hs3);have hnn:U3 (c.getD i Jd).e (atN c (c.getD i Jd).e.par)=⟨(c.getD i Jd).e,3,[],0⟩:=by unfold U3;rw[if_neg (λhh=>hs2 hh.1)]
 simp only[go_sem,nd,e2,e2',e3];refine vDq ?_;simp only[go_sem,Yy,hset];refine⟨⟨_,hsem⟩,Zau hi h1 (Zdp _ _),⟨⟨rfl,(fcs rfl fnl),fnl,fnl⟩,fcs ?_ fnl,fnl⟩⟩;simp only[Za];rw[Zg3 c i _ (Zg9 _ _),Zg8,hnn];simp only[nd,hp1,hp2]
 ·have e2:((atN c (c.getD i Jd).e.par).st !=2)=true:=by simpa using hs2
  have e3:((atN c (c.getD i Jd).e.par).st !=3)=true:=by simpa using hs3
  simp only[go_sem,nd,e2,e3];refine hnx _ (x.next i hi (.inr ⟨hs2,hs3⟩) hns) (by simp[Seen.next]) ?_;exact⟨⟨rfl,(Fc2 rfl rfl),fnl,fnl⟩,fcs (by simp[upd,mc]) fnl,fcs (by simp[upd,Seen.next]) fnl⟩
 ·have e1:((c.getD i Jd).st !=1)=true:=by simpa using h1
  simp only[go_sem,Ze8,F6 hi,ZlI hi,hi,Zaf,tg,nd,e1];refine hnx _ (x.next i hi (.inl h1) hns) (by simp[Seen.next]) ?_;exact⟨⟨rfl,(Fc2 rfl rfl),fnl,fnl⟩,fcs (by simp[upd,mc]) fnl,fcs (by simp[upd,Seen.next]) fnl⟩
 simp only[go_sem];exact YQ (cut ⟨c0,h0⟩ _ ⟨⟨rfl,(fcs rfl fnl),fnl,fnl⟩,fcs (by simp[upd]) fnl,fnl⟩)
open Go.PL
def ZdY (m:List Eg) (e:Eg):List Eg×Int:=
 if SF e=false then(m,5)else match Xs m e.id with
  |some x=>if x=e then(m,7)else(m,15)
  |none=>if 40<=m.length then(m,9)else(m++ [e],0)
structure OkM (m:List Eg):Prop where
 a:Apart m
 l:∀e∈m,OkLn e.ln
 n:m.length<=40
theorem SR:OkM []:=⟨⟨by simp,λe h=>(by cases h)⟩,λe h=>(by cases h),by simp⟩
theorem Zq7 {m:List Eg} (h:OkM m) {e:Eg} (he:OkLn e.ln):OkM (ZdY m e).1:=by
 unfold ZdY;split;exact h;rename_i hb;split;split<;>exact h
 rename_i hf;split;exact h;rename_i hn;refine⟨⟨?_,λx hx=> ?_⟩,λx hx=> ?_,by simp;omega⟩;rw[J4,JN];refine⟨h.a.d,by simp,λa ha b hb'=> ?_⟩;simp only[Jc,Jq,Jl]at hb';subst hb';obtain⟨x,hx,rfl⟩:=Jk.1 ha;unfold Xs at hf;rw[JK]at hf;have:=hf x hx;simp only[decide_eq_true_eq]at this;exact λe1=>this e1.symm
 rcases Jo.1 hx with hx|hx;exact h.a.n x hx;rw[Jl.1 hx];have hb:SF e=true:=by simpa using hb
 simp only[SF,Jm]at hb;exact DX hb.1;rcases Jo.1 hx with hx|hx;exact h.l x hx;rw[Jl.1 hx];exact he
theorem ZeP {m:List Eg} {e x:Eg} {id:Tg} (h:Xs m id=some x):Xs (m++ [e]) id=some x:=by
 unfold Xs at *;rw[JV,h];rfl
theorem Way.append {m:List Eg} {e:Eg} {id:Tg} {w:List Eg} (h:Way m id w):Way (m++ [e]) id w:=by
 induction h with
 |root=>exact .root
 |step hn he hw ih=>exact .step hn (ZeP he) ih
theorem Zpu {m:List Eg} (e:Eg):Zgx (m++ [e]) (Zd m++ [Zis e]):=by
 refine⟨by simp[Zd],λi hi=> ?_⟩;by_cases hl:i<m.length;rw[Zg (by simpa[Zd]using hl),Zg hl];have e1:(Zd m).getD i Jd=Yp m (m.getD i Jd):=by
  rw[getD_lt (by simpa[Zd]using hl),getD_lt hl];simp[Zd]
 rw[e1];cases hw:Zd1 m (m.getD i Jd).id with
 |none=>exact .inl (SQ hw)
 |some w=>
  right;have:Zd1 (m++ [e]) (m.getD i Jd).id=some w:=XF.2 (XF.1 hw).append;refine⟨by simp only[Yp,hw,this],λhh=> ?_⟩;rw[Uz.1 hh]at hw;cases hw
 left;have hi':i=m.length:=by simp at hi;omega
 subst hi';rw[Zj (by simp[Zd]),Zj (Nat.le_refl _)];simp[Zd]
theorem Znj (m:List Eg):Zgx m (Zd m):=by
 refine⟨by simp[Zd],λi hi=> ?_⟩;have e1:(Zd m).getD i Jd=Yp m (m.getD i Jd):=by
  rw[getD_lt (by simpa[Zd]using hi),getD_lt hi];simp[Zd]
 rw[e1];cases hw:Zd1 m (m.getD i Jd).id with
 |none=>exact .inl (SQ hw)
 |some w=>exact .inr ⟨rfl,λhh=>by rw[Uz.1 hh]at hw;cases hw⟩
theorem Ty (m:List Eg) (id:Tg):Dk (Zd m) id=(Xs m id).map (Yp m):=by
 unfold Dk Xs Zd;rw[J5];congr 1;congr 1;funext x;simp[V7]
theorem Zih (m:List Eg) (id:Tg):((Zd m).findIdx? λn=>decide (id=n.e.id))=m.findIdx? λe=>decide (id=e.id):=by
 unfold Zd;rw[List.findIdx?_map];congr 1;funext x;simp[V7]
theorem ZpJ (m:List Eg):(Zd m).length=m.length:=by simp[Zd]
theorem Zq0 (m:List Eg) (e:Eg):mc (Zd m++ [Zis e])=⟨kts (Zd m)++ [tg e.id],nds (Zd m)++ [nd (Zis e)]⟩:=by simp[mc,kts,nds,Zis]
theorem Zs0 (m:List Eg) (e:Eg) (hm:OkM m) (he:OkLn e.ln):PL.Wr prog 27 (λb=> [.rptr [.mref b],eg e]) (mc (Zd m)) (.int .i64 (ZdY m e).2) (mc (Zd (ZdY m e).1)):=by
 have hE:=Zkn e he;have hok:=Zq7 hm he;unfold ZdY at hok ⊢;cases hb:SF e;rw[hb]at hE;refine PL.Wr.of_v func27 (by decide) rfl ntmps27 results27 (by simp) rfl (λb=> ?_);simp only[go_sem,eg];refine vc3 hE ?_;simp only[go_sem,if_true];rw[hb]at hE;simp only[hb,Ji,if_false]at hok ⊢;have hidx:=Zih m e.id;cases hf:m.findIdx? (λx=>decide (e.id=x.id))with
 |some i=>
  rw[hf]at hidx;obtain⟨h1,h2⟩:=Tx hidx;rw[Ty]at h2;cases hfe:Xs m e.id with
  |none=>rw[hfe]at h2;cases h2
  |some x=>
   rw[hfe]at h2;simp only[JB,J3.injEq]at h2;have hxm:=(XW hfe).2;have hS:=Zkq x e (hm.l x hxm) he;have hgx:((Zd m).getD i Jd).e=x:=by rw[<-h2,V7]
   have hval:(nds (Zd m)).getD i .any=nd (Yp m x):=by rw[F6 h1,h2]
   have hne:=V7 m x;simp only;cases hd:decide (x=e)
   ·rw[hd]at hS;have hx:¬x=e:=by simpa using hd
    simp only[hx,if_false];refine PL.Wr.of_v func27 (by decide) rfl ntmps27 results27 (by simp) rfl (λb=> ?_);simp only[go_sem,eg];refine vc3 hE ?_;simp only[go_sem];refine vDq ?_;simp only[go_sem,mc,Yy,hidx,hval,nd,hne];refine vc3 hS ?_;simp only[go_sem,mc]
   ·rw[hd]at hS;have hx:x=e:=by simpa using hd
    simp only[hx,if_true];refine PL.Wr.of_v func27 (by decide) rfl ntmps27 results27 (by simp) rfl (λb=> ?_);simp only[go_sem,eg];refine vc3 hE ?_;simp only[go_sem];refine vDq ?_;simp only[go_sem,mc,Yy,hidx,hval,nd,hne];refine vc3 hS ?_;simp only[go_sem,mc]
 |none=>
  rw[hf]at hidx;have h2:=Tw.1 hidx;rw[Ty]at h2;have hfe:Xs m e.id=none:=by
   cases hx:Xs m e.id with
   |none=>rfl
   |some x=>rw[hx]at h2;cases h2
  rw[hfe]at hok ⊢;simp only at hok ⊢;have hkl:(kts (Zd m)).length=m.length:=by rw[Zaf,ZpJ]
  by_cases hn:40<=m.length
  ·have hn':(40:Int)<=(m.length:Int):=by omega
   simp only[hn,if_true];refine PL.Wr.of_v func27 (by decide) rfl ntmps27 results27 (by simp) rfl (λb=> ?_);simp only[go_sem,eg];refine vc3 hE ?_;simp only[go_sem];refine vDq ?_;simp only[go_sem,mc,Yy,hidx,hkl,hn']
  ·have hn':¬(40:Int)<=(m.length:Int):=by omega
   simp only[hn,if_false]at hok ⊢;have hO:=ZfV e he;have hW:=ZmU (m++ [e]) (Zd m++ [Zis e]) hok.a (Zpu e) hok.l (by have:=hok.n;omega);refine PL.Wr.of_v func27 (by decide) rfl ntmps27 results27 (by simp) rfl (λb=> ?_);simp only[go_sem,eg];refine vc3 hE ?_;simp only[go_sem];refine vDq ?_;simp only[go_sem,mc,Yy,hidx,hkl,hn'];refine vDq ?_;simp only[go_sem];refine vc3 hO ?_;simp only[go_sem,eg,mc,Yy,hidx];refine ZiP b hW ?_ ?_ ?_ ?_
   ·simp only[go_sem]
   ·simp only[go_sem]
   ·rw[Zq0];simp[upd,tg,nd,Zis]
   ·simp only[go_sem,mc]
def ZoE (x:List Eg×Int):PV:= .tup [egs x.1,.int .i64 x.2]
theorem Zc8 (l:List Eg):(egs l).dids= []:=by
 unfold egs;simp only[JH];induction l with
 |nil=>rfl
 |cons e l ih=>simp only[Jc,Jy,ih,ZgQ,Jb]
theorem Tr (x:List Eg×Int):(ZoE x).dids= []:=by simp only[ZoE,JH,Jy,Zc8,Jb]
theorem ZdD (l:List Eg):Sized 20 (l.map eg):=λe he=>by
 obtain⟨x,_,rfl⟩:=Jk.1 he;rfl
theorem ZhV (l:List Eg):Xw (l.map eg):=λe he=>by
 obtain⟨x,_,rfl⟩:=Jk.1 he;rfl
theorem Gu {m:List Eg} {id:Tg}:(idx (λx=>decide (x.id=id)) m= -1/\Xs m id=none)\/ ∃i:Nat,i<m.length/\idx (λx=>decide (x.id=id)) m=(i:Int)/\Xs m id=some (m.getD i Jd):=by
 have e:(λx:Eg=>decide (x.id=id))=λx=>decide (id=x.id):=by funext x;simp[eq_comm]
 unfold idx;rw[e];cases hf:m.findIdx? (λx=>decide (id=x.id))with
 |none=>
  left;refine⟨rfl,?_⟩;rw[JL]at hf;unfold Xs;rw[JK];intro x hx hh;rw[hf x hx]at hh;cases hh
 |some i=>
  right;rw[Jt]at hf;obtain⟨h1,h2,h3⟩:=hf;refine⟨i,h1,rfl,?_⟩;unfold Xs;rw[List.find?_eq_some_iff_getElem];exact⟨by rw[getD_lt h1];exact h2,i,h1,(getD_lt h1).symm,λj hj=>by simpa using h3 j hj⟩
theorem ZkQ (m:List Eg) (e:Eg) (hm:OkM m) (he:OkLn e.ln):Pp 26 [egs m,eg e] (ZoE (ZdY m e)):=by
 have hE:=Zja e he;have hA:=S7 m e.id (by rw[Zb];have:=hm.n;omega);unfold ZdY;cases hb:SF e;rw[hb]at hE;refine ZA func26 rfl ntmps26 results26 (Tr _) ?_;simp only[go_sem,eg,egs];refine vc3 hE ?_;simp only[go_sem,if_true,ZoE,egs];rw[hb]at hE;simp only[Ji,if_false];rcases Gu (m:=m) (id:=e.id)with ⟨h1,h2⟩|⟨i,hi,h1,h2⟩;rw[h1]at hA;rw[h2];by_cases hn:40<=m.length;have hn':(39:Int)<(m.length:Int):=by omega
 simp only[hn,if_true];refine ZA func26 rfl ntmps26 results26 (Tr _) ?_;simp only[go_sem,eg,egs];refine vc3 hE ?_;simp only[go_sem];refine vc3 hA ?_;simp only[go_sem];refine vDq ?_;simp only[go_sem,hn',ZoE,egs]
 ·have hn':¬(39:Int)<(m.length:Int):=by omega
  simp only[hn,if_false];have hr1:=Yb (show m.length<=1000000 by omega) (show 256<=1000 by omega);have hr2:=Yb (show m.length+1<=1000000 by omega) (show 256<=1000 by omega);refine ZA func26 rfl ntmps26 results26 (Tr _) ?_;simp only[go_sem,eg,egs];refine vc3 hE ?_;simp only[go_sem];refine vc3 hA ?_;simp only[go_sem];refine vDq ?_;simp only[go_sem,hn',ZoE,egs,ZdD,ZhV,hr1,hr2];repeat((with_reducible refine And.intro ?_ ?_);(focus((repeat' (with_reducible apply And.intro))<;>(first|omega|exact Yr (by omega) (by omega)|exact Yr (by simp;omega) (by omega)|exact Z6 _|(simp;done)|(simp;omega)))))
  simp[eg]
 rw[h1]at hA;rw[h2];have hS:=Zgm (m.getD i Jd) e (hm.l _ (Ze hi)) he;have i0:=Jf i
 have i1:(i:Int)<(m.length:Int):=by omega
 cases hd:decide (m.getD i Jd=e);rw[hd]at hS;have hx:¬m.getD i Jd=e:=by simpa using hd
 simp only[hx,if_false];refine ZA func26 rfl ntmps26 results26 (Tr _) ?_;simp only[go_sem,eg,egs];refine vc3 hE ?_;simp only[go_sem];refine vc3 hA ?_;simp only[go_sem];refine vDq ?_;simp only[go_sem,i0,i1,XI hi,eg];refine vc3 hS ?_;simp only[go_sem,i0,ZoE,egs];rw[hd]at hS;have hx:m.getD i Jd=e:=by simpa using hd
 simp only[hx,if_true];refine ZA func26 rfl ntmps26 results26 (Tr _) ?_;simp only[go_sem,eg,egs];refine vc3 hE ?_;simp only[go_sem];refine vc3 hA ?_;simp only[go_sem];refine vDq ?_;simp only[go_sem,i0,i1,XI hi,eg];refine vc3 hS ?_;simp only[go_sem,i0,ZoE,egs]
open Go.PL
def VL (l:List Eg):List Eg:=l.foldl (λm e=>(ZdY m e).1) []
theorem Zhe:∀(l:List Eg) {m:List Eg},OkM m->(∀e∈l,OkLn e.ln)->OkM (l.foldl (λm e=>(ZdY m e).1) m)
 | [],m,h,_=>h
 |e::l,m,h,hl=>Zhe l (Zq7 h (hl e (by simp))) (λx hx=>hl x (by simp[hx]))
theorem ZjH {l:List Eg} {k:Nat} (hk:k<l.length):(l.take (k+1)).foldl (λm e=>(ZdY m e).1) []=(ZdY ((l.take k).foldl (λm e=>(ZdY m e).1) []) (l.getD k Jd)).1:=by
 have:l.take (k+1)=l.take k++ [l.getD k Jd]:=by
  rw[getD_lt hk,JO];simp[hk]
 rw[this,List.foldl_append];rfl
def grv (m:List Eg):PV:= .tup [tr (Zd m),egs m,.bool true]
theorem Zlr (l:List Nd):Jy (kts l)= []:=by
 unfold kts;induction l with
 |nil=>rfl
 |cons e l ih=>simp only[Jc,Jy,ih,Znb,Jb]
theorem Zls (l:List Nd):Jy (nds l)= []:=by
 unfold nds;induction l with
 |nil=>rfl
 |cons e l ih=>simp only[Jc,Jy,ih,Zg7,Jb]
theorem Zrv (l:List Nd):(tr l).dids= []:=by simp only[tr,JH,Jy,Zlr,Zls,Jb]
theorem ZoM (m:List Eg):(grv m).dids= []:=by simp only[grv,JH,Jy,Zrv,Zc8,Jb]
theorem Zi2 (l:List Eg) (hl:l.length<=1000) (hx:∀e∈l,OkLn e.ln):Pp 9 [egs l] (grv (VL l)):=by
 have hml:l.length<=maxLen:=by rw[Zb];omega
 refine PL.Pure.of_vs func9 (by decide) rfl ntmps9 results9 (by simp) (ZoM _) ?_;simp only[go_sem,egs];refine ZiO Zqe ?_ ?_ (λb hb=> ?_);simp only[go_sem];simp only[go_sem];simp only[go_sem];refine Zli 6 11 [] rfl ?_;refine Zqv (ι:= { k:Nat // k<=l.length }) 40 (λx=> [(0,egs l),(5,.rptr [.mref b]),(6,egs (VL (l.take x.1))),(7,.int .i64 (x.1:Int))]) (λx=> []) (λx=> []) (λx=> [(b,mc (Zd (VL (l.take x.1))))]) (λx=> []) (λx=>l.length-x.1) ⟨0,Ja _⟩
  ⟨⟨rfl,(Fc4 rfl rfl rfl rfl),fnl,fnl⟩,fcs (by simp[upd];rfl) fnl,fnl⟩ (λx=>⟨(Fc4 rfl rfl rfl rfl),fnl⟩) (λx=> ?_)
 obtain⟨k,hk⟩:=x;simp only;by_cases h:(k:Int)<(l.length:Int);have hka:k<l.length:=by omega
 have w1:=Xb hka hml;have i1:=Jf k
 have hft:=ZjH hka;have hom:OkM (VL (l.take k)):=Zhe _ SR (λe he=>hx e (List.mem_of_mem_take he));have hR:=ZkQ (VL (l.take k)) (l.getD k Jd) hom (hx _ (Ze hka));have hW:=Zs0 (VL (l.take k)) (l.getD k Jd) hom (hx _ (Ze hka));have hne:((ZdY (VL (l.take k)) (l.getD k Jd)).2 !=(ZdY (VL (l.take k)) (l.getD k Jd)).2)=false:=by simp
 simp only[go_sem,egs,h,XI hka,eg,i1];refine vc3 hR ?_;simp only[go_sem,ZoE,egs,h,XI hka,eg,i1];refine ZiP b hW ?_ ?_ ?_ ?_;simp only[go_sem];simp only[go_sem,eg];simp[upd];simp only[go_sem,hne,w1];refine⟨⟨k+1,by omega⟩,nx9 (by omega),⟨⟨rfl,fcs rfl (fcs rfl (fcs ?_ (fcs ?_ fnl))),fnl,fnl⟩,fcs ?_ fnl,fnl⟩⟩;show _=egs (VL (l.take (k+1)));unfold VL;rw[hft];rfl;rfl;show _=some (mc (Zd (VL (l.take (k+1)))));unfold VL;rw[hft];simp[upd];obtain rfl:k=l.length:=by omega
 have htl:l.take l.length=l:=JS;simp only[go_sem,egs,h,htl,mc];exact⟨_,rfl,by simp[PV.shut,PV.sealL,upd,grv,tr,egs]⟩
def edc (x:Eg×Int):PV:= .tup [eg x.1,.int .i64 x.2]
theorem Zh6 (x:Eg×Int):(edc x).dids= []:=by simp only[edc,JH,Jy,ZgQ,Jb]
theorem ZbL:eg Jd= .agg [.int .i64 0,.int .i64 0,.int .i64 0,.int .i64 0,.int .i64 0,.int .i64 0,.str [],.str [],.str [],.str [],.int .i64 0,.int .i64 0,.str [],.str [],.int .i64 0,.str [],.sl .no [],.int .i64 0,.sl .no [],.sl .no []]:=rfl
def ZeS (m:List Eg) (id:Tg):Eg×Int:=match Xs m id with|some e=>(e,0)|none=>(Jd,6)
theorem Zbz (m:List Eg) (id:Tg) (hm:OkM m):Pp 248 [tr (Zd m),tg id] (edc (ZeS m id)):=by
 have hidx:=Zih m id;unfold ZeS;cases hf:m.findIdx? (λx=>decide (id=x.id))with
 |some i=>
  rw[hf]at hidx;obtain⟨h1,h2⟩:=Tx hidx;rw[Ty]at h2;cases hfe:Xs m id with
  |none=>rw[hfe]at h2;cases h2
  |some x=>
   rw[hfe]at h2;simp only[JB,J3.injEq]at h2;have hO:=ZfV x (hm.l x (XW hfe).2);have hval:(nds (Zd m)).getD i .any=nd (Yp m x):=by rw[F6 h1,h2]
   have hne:=V7 m x;refine ZA func248 rfl ntmps248 results248 (Zh6 _) ?_;simp only[go_sem,tr,tg];refine vDq ?_;simp only[go_sem,Yy,hidx,hval,nd,hne];refine vc3 hO ?_;simp only[go_sem,eg,edc]
 |none=>
  rw[hf]at hidx;have h2:=Tw.1 hidx;rw[Ty]at h2;have hfe:Xs m id=none:=by
   cases hx:Xs m id with
   |none=>rfl
   |some x=>rw[hx]at h2;cases h2
  rw[hfe];refine ZA func248 rfl ntmps248 results248 (Zh6 _) ?_;simp only[go_sem,tr,tg];refine vDq ?_;simp only[go_sem,Yy,hidx,edc,ZbL]
def Ys (l:List Nd) (id:Tg):List Fd×Int:=if(atN l id).st=2 then((atN l id).sch,0)else if(atN l id).st=3 then([],16)else([],13)
theorem X0 (m:List Eg) (id:Tg) (hm:OkM m):Pp 29 [tr (Zd m),tg id] (ZM (Ys (Zd m) id)):=by
 have hA:=Zk4 (Zd m) id;obtain⟨o1,o2,o3⟩:=ZsS hm.l (Znj m) id;have hO:=Zeo (atN (Zd m) id).sch (by have:=o1.n;omega) o1.c;unfold Ys;by_cases h2:(atN (Zd m) id).st=2;have e2:((atN (Zd m) id).st==2)=true:=by rw[h2];rfl
 simp only[h2,if_true];refine ZA func29 rfl ntmps29 results29 (ZI _) ?_;simp only[go_sem,tr,tg];refine vc5 hA ?_;simp only[go_sem,nd,e2];refine vc2 hO ?_;simp only[go_sem,Zi,ZM];by_cases h3:(atN (Zd m) id).st=3;have e2:((atN (Zd m) id).st==2)=false:=by simpa using h2
 have e3:((atN (Zd m) id).st==3)=true:=by rw[h3];rfl
 simp only[h2,h3,if_true,if_false];refine ZA func29 rfl ntmps29 results29 (ZI _) ?_;simp only[go_sem,tr,tg];refine vc5 hA ?_;simp only[go_sem,nd,e2,e3,ZM,Zi];have e2:((atN (Zd m) id).st==2)=false:=by simpa using h2
 have e3:((atN (Zd m) id).st==3)=false:=by simpa using h3
 simp only[h2,h3,if_false];refine ZA func29 rfl ntmps29 results29 (ZI _) ?_;simp only[go_sem,tr,tg];refine vc5 hA ?_;simp only[go_sem,nd,e2,e3,ZM,Zi]
def Zva (l:List Nd) (id:Tg):Int:=if(atN l id).st=2 then(atN l id).dep else-1
open Go.PL
def upL (w:List Eg):List Tg:=(w.reverse.map (·.id))++ [Jd]
def upC (m:List Eg) (id:Tg):Int:=(Ys (Zd m) id).2
def WH (m:List Eg) (id:Tg):List Eg:=(Zd1 m id).getD []
theorem ZhU (m:List Eg) (id:Tg) (h:id≠Jd):atN (Zd m) id=((Xs m id).map (Yp m)).getD Jd:=by
 simp only[atN,h,if_false,Ty]
theorem YN {m:List Eg} {id:Tg} (h:upC m id=0):Way m id (WH m id)/\Xg (WH m id) U5=some (Ys (Zd m) id).1/\Zva (Zd m) id=((WH m id).length:Int):=by
 have hst:(atN (Zd m) id).st=2:=by
  unfold upC Ys at h;split at h;assumption;split at h<;>cases h
 have hs:(Ys (Zd m) id).1=(atN (Zd m) id).sch:=by simp only[Ys,hst,if_true]
 have hdp:Zva (Zd m) id=(atN (Zd m) id).dep:=by simp only[Zva,hst,if_true]
 rw[hs,hdp];by_cases hd:id=Jd;subst hd;have hw:WH m Jd= []:=by
  have:=XF.2 (Way.root (m:=m));simp[WH,this]
 rw[hw];exact⟨.root,by simp[Xg,atN,ZfE],by simp[atN,ZfE]⟩;rw[ZhU m id hd]at hst ⊢;cases hf:Xs m id with
 |none=>rw[hf]at hst;cases hst
 |some e=>
  rw[hf]at hst;simp only[JB,JG]at hst ⊢;have hid:=(XW hf).1;unfold Yp Dq at hst ⊢;rw[<-hid]at hst ⊢;cases hw:Zd1 m id with
  |none=>rw[hw]at hst;cases hst
  |some w=>
   have hwd:WH m id=w:=by simp[WH,hw]
   rw[hw]at hst;rw[hwd];simp only at hst ⊢;cases hfa:Xg w U5 with
   |none=>rw[hfa]at hst;cases hst
   |some fs=>exact⟨XF.1 hw,rfl,rfl⟩
theorem ZiM (w:List Eg) (e:Eg):upL (w++ [e])=e.id::upL w:=by simp[upL]
theorem X4 (w:List Eg):(upL w).length=w.length+1:=by simp[upL]
theorem ZaU (w:List Eg) (t:Nat) (ht:t<w.length):(upL w).getD (w.length-t-1) Jd=(w.getD t Jd).id:=by
 unfold upL;rw[Zg (by simp;omega)];rw[getD_lt (by simp;omega),getD_lt ht];simp only[Jg,List.getElem_reverse];congr 2;omega
theorem ZiL {m:List Eg} {id:Tg} {w:List Eg} (h:Way m id w):upL w=id::(upL w).tail:=by
 cases h with
 |root=>rfl
 |step hn he hw=>rw[ZiM,(XW he).1];rfl
def ZcD (x:List Tg×Int):PV:= .tup [tgs x.1,.int .i64 x.2]
theorem ZiH (l:List Tg):(tgs l).dids= []:=by simp only[tgs,JH,Zh2]
theorem GP (x:List Tg×Int):(ZcD x).dids= []:=by simp only[ZcD,JH,Jy,ZiH,Jb]
def upM (m:List Eg) (id:Tg):List Tg×Int:=if upC m id≠0 then([],upC m id)else(upL (WH m id),0)
structure UpS (m:List Eg) (w:List Eg) where
 id:Tg
 r:List Eg
 acc:List Tg
 hw:Way m id r
 hx:acc++(upL r).tail=upL w
theorem tgd (t:Tg):(t.r==0&&t.n==0)=decide (t=Jd):=ZN t Jd
theorem ZkU (m:List Eg) (id:Tg) (hm:OkM m):Pp 257 [tr (Zd m),tg id] (ZcD (upM m id)):=by
 have hS:=X0 m id hm;unfold upM;by_cases hc:upC m id=0;obtain⟨hw,_,_⟩:=YN hc;simp only[hc,ne_eq,not_true_eq_false,if_false];have hc':(Ys (Zd m) id).2=0:=hc;generalize WH m id=w at *;have hwl:w.length<=40:=by have:=hw.len;have:=hm.n;omega
 refine ZA func257 rfl ntmps257 results257 (GP _) ?_;simp only[go_sem,tr,tg];refine vc5 hS ?_;simp only[go_sem,ZM,hc'];refine ZL 8 21 39 1 2 25 [tg id] rfl rfl rfl ?_;refine Zt (ι:=UpS m w) 41 (λx=> [(0,tr (Zd m)),(3,.ptr 3 0),(8,.sl (.row 39) (x.acc.map tg))]) (λx=> [(3,[.int .i64 x.id.r,.int .i64 x.id.n],false)]) (λx=> [(39,.live x.acc.length 2 25)]) (λx=>x.r.length) ⟨id,w,[id],hw,by rw[ZiL hw];rfl⟩
  ⟨rfl,(Fc3 rfl rfl rfl),fcs ⟨rfl,rfl⟩ fnl,fcs rfl fnl⟩ (λx=>⟨Fc3 rfl rfl (by simp[J2,ZG]),(fcs rfl fnl)⟩) (λx=> ?_)
 obtain⟨id',r,acc,hr,hx⟩:=x;simp only;have hal:acc.length<=41:=by
  have:=congrArg J9 hx;rw[Jz,X4]at this;omega
 have hrm:=Yb (show acc.length+1<=1000000 by omega) (show 16<=1000 by omega);by_cases hd:id'=Jd;have hb:decide (id'=Jd)=true:=by simpa using hd
 have hacc:acc=upL w:=by
  rw[<-hx];subst hd;cases hr with
  |root=>simp[upL]
  |step hn _ _=>exact absurd rfl hn
 simp only[go_sem,tgd,hb,ZcD,tgs,hacc];have hb:decide (id'=Jd)=false:=by simpa using hd
 have hF:=Zbz m id' hm;cases hr with
 |root=>exact absurd rfl hd
 |step hn he hw'=>
  rename_i e u;have hfm:ZeS m id'=(e,0):=by simp[ZeS,he]
  rw[hfm]at hF;have hx':(acc++ [e.par])++(upL u).tail=upL w:=by
   rw[<-hx,ZiM,List.tail_cons,ZiL hw'];simp
  simp only[go_sem,tr,tgd,hb];refine vc5 hF ?_;simp only[go_sem,edc,eg,Sl,hrm];exact⟨⟨e.par,u,acc++ [e.par],hw',hx'⟩,by show u.length<(u++ [e]).length;simp,⟨rfl,Fc3 rfl rfl (by simp[upd,tg]),fcs ⟨rfl,rfl⟩ fnl,fcs (by simp[upd]) fnl⟩⟩
 have hc':((Ys (Zd m) id).2 !=0)=true:=by have h:(Ys (Zd m) id).2≠0:=hc;simpa using h
 simp only[ne_eq,hc,not_false_eq_true,if_true];refine ZA func257 rfl ntmps257 results257 (GP _) ?_;simp only[go_sem,tr,tg];refine vc5 hS ?_;simp only[go_sem,ZM,hc',ZcD,tgs,upC]
open Go.PL
def lcp:List Eg->List Eg->Nat
 |a::xs,b::ys=>if a=b then lcp xs ys+1 else 0
 |_,_=>0
theorem Zb8:∀(a b:List Eg),lcp a b<=a.length/\lcp a b<=b.length
 | [],b=>by simp[lcp]
 |a::xs,[]=>by simp[lcp]
 |a::xs,b::ys=>by
  have:=Zb8 xs ys;simp only[lcp];split;simp;omega;simp
theorem Zdk:∀(a b:List Eg),lcp a b=lcp b a
 | [],[]=>rfl
 | [],b::ys=>rfl
 |a::xs,[]=>rfl
 |a::xs,b::ys=>by
  simp only[lcp,Zdk xs ys,eq_comm]
theorem Zg4:∀(a b:List Eg) (t:Nat),t<lcp a b->a.getD t Jd=b.getD t Jd
 | [],b,t,h=>by simp[lcp]at h
 |a::xs,[],t,h=>by simp[lcp]at h
 |a::xs,b::ys,t,h=>by
  simp only[lcp]at h;split at h;rename_i e;cases t with
  |zero=>simpa using e
  |succ t=>simpa using Zg4 xs ys t (by omega)
  omega
theorem Zdl:∀(a b:List Eg),lcp a b<a.length->lcp a b<b.length->a.getD (lcp a b) Jd≠b.getD (lcp a b) Jd
 | [],b,h,_=>by simp at h
 |a::xs,[],_,h=>by simp at h
 |a::xs,b::ys,h1,h2=>by
  simp only[lcp]at h1 h2 ⊢;split;rename_i e;rw[if_pos e]at h1 h2;simpa using Zdl xs ys (by simpa using h1) (by simpa using h2);rename_i e;simpa using e
theorem Zdm (a b:List Eg):a.take (lcp a b)=b.take (lcp a b):=by
 have hl:=Zb8 a b;apply JR;simp;omega;intro i h1 h2;have hi:i<lcp a b:=by simp at h1;omega
 have:=Zg4 a b i hi;rw[getD_lt (by omega),getD_lt (by omega)]at this;simpa using this
theorem Apart.inj {m:List Eg} (h:Apart m) {a b:Eg} (ha:a∈m) (hb:b∈m) (e:a.id=b.id):a=b:=by
 have h1:=h.find ha;rw[e,h.find hb]at h1;cases h1;rfl
structure WayT where
 up:List Tg
 down:List Tg
 i:Nat
 j:Nat
 c:Int
def ZnY (x:WayT):PV:= .tup [tgs x.up,tgs x.down,.int .i64 (x.i:Int),.int .i64 (x.j:Int),.int .i64 x.c]
theorem Za1 (x:WayT):(ZnY x).dids= []:=by simp only[ZnY,JH,Jy,ZiH,Jb]
def ZkA (m:List Eg) (a b:Tg):WayT:=
 if upC m a≠0 then⟨[],[],0,0,upC m a⟩else if upC m b≠0 then⟨[],[],0,0,upC m b⟩
 else⟨upL (WH m a),upL (WH m b),(WH m a).length-lcp (WH m a) (WH m b),(WH m b).length-lcp (WH m a) (WH m b),0⟩
theorem ZnI (m:List Eg) (a b:Tg) (hm:OkM m):Pp 247 [tr (Zd m),tg a,tg b] (ZnY (ZkA m a b)):=by
 have hA:=ZkU m a hm;have hB:=ZkU m b hm;unfold ZkA;unfold upM at hA hB;by_cases ha:upC m a=0;by_cases hb:upC m b=0;obtain⟨wa,_,_⟩:=YN ha;obtain⟨wb,_,_⟩:=YN hb;simp only[ha,hb,ne_eq,not_true_eq_false,if_false]at hA hB ⊢;generalize WH m a=p at *;generalize WH m b=q at *;have hlc:=Zb8 p q;have hpl:p.length<=40:=by have:=wa.len;have:=hm.n;omega
 have hql:q.length<=40:=by have:=wb.len;have:=hm.n;omega
 have l1:((upL p).length:Int)=(p.length:Int)+1:=by rw[X4];rfl
 have l2:((upL q).length:Int)=(q.length:Int)+1:=by rw[X4];rfl
 have s1:IntKind.i64.wrap ((p.length:Int)+1-1)=(p.length:Int):=by rw[w64 (by omega)];omega
 have s2:IntKind.i64.wrap ((q.length:Int)+1-1)=(q.length:Int):=by rw[w64 (by omega)];omega
 refine ZA func247 rfl ntmps247 results247 (Za1 _) ?_;simp only[go_sem,tr,tg];refine ZdT (ι:= { t:Nat // t<=lcp p q }) 62 (λx=> [(6,tgs (upL p)),(7,tgs (upL q)),(8,.int .i64 ((p.length-x.1:Nat):Int)),(9,.int .i64 ((q.length-x.1:Nat):Int))]) (λx=> []) (λx=> []) (λx=>lcp p q-x.1) 0 _ (by exact rfl) (λx=>⟨(Fc4 rfl rfl rfl rfl),fnl⟩) (λx=> ?_) (λcut=> ?_);obtain⟨t,ht⟩:=x;simp only;by_cases g1:t<p.length;have c1:(0:Int)<((p.length-t:Nat):Int):=by omega
 by_cases g2:t<q.length;have c2:(0:Int)<((q.length-t:Nat):Int):=by omega
 have w1:IntKind.i64.wrap (((p.length-t:Nat):Int)-1)=((p.length-t-1:Nat):Int):=by rw[w64 (by omega)];omega
 have w2:IntKind.i64.wrap (((q.length-t:Nat):Int)-1)=((q.length-t-1:Nat):Int):=by rw[w64 (by omega)];omega
 have k1:p.length-t-1<(upL p).length:=by rw[X4];omega
 have k2:q.length-t-1<(upL q).length:=by rw[X4];omega
 have b1:(0:Int)<=((p.length-t-1:Nat):Int):=by omega
 have b2:(0:Int)<=((q.length-t-1:Nat):Int):=by omega
 have b3:((p.length-t-1:Nat):Int)<((upL p).length:Int):=by omega
 have b4:((q.length-t-1:Nat):Int)<((upL q).length:Int):=by omega
 have v1:=ZaU p t g1;have v2:=ZaU q t g2;by_cases hlt:t<lcp p q;have heq:decide ((p.getD t Jd).id=(q.getD t Jd).id)=true:=by rw[Zg4 p q t hlt];simp
 simp only[go_sem,tgs];refine vDq ?_;simp only[go_sem,c1,c2,w1,w2,ZK k1,ZK k2,v1,v2,tg,b1,b2,b3,b4,ZN,heq];exact⟨⟨t+1,by omega⟩,by show lcp p q-(t+1)<lcp p q-t;omega,⟨rfl,Fc4 rfl rfl (by simp only[Ka];rfl) (by simp only[Ka];rfl),fnl,fnl⟩⟩;obtain rfl:t=lcp p q:=by omega
 have hne:decide ((p.getD (lcp p q) Jd).id=(q.getD (lcp p q) Jd).id)=false:=by
  rw[decide_eq_false_iff_not];intro e;have hs:=Zdl p q (by omega) (by omega);exact hs (hm.a.inj (wa.mem _ (Ze g1)) (wb.mem _ (Ze g2)) e)
 simp only[go_sem,tgs];refine vDq ?_;simp only[go_sem,c1,c2,w1,w2,ZK k1,ZK k2,v1,v2,tg,b1,b2,b3,b4,ZN,hne,ZnY,tgs];have c2:¬(0:Int)<((q.length-t:Nat):Int):=by omega
 obtain rfl:t=lcp p q:=by omega
 simp only[go_sem,tgs];refine vDq ?_;simp only[go_sem,c1,c2,ZnY,tgs];have c1:¬(0:Int)<((p.length-t:Nat):Int):=by omega
 obtain rfl:t=lcp p q:=by omega
 simp only[go_sem,tgs];refine vDq ?_;simp only[go_sem,c1,ZnY,tgs];simp only[go_sem];refine vc5 hA ?_;simp only[go_sem,ZcD];refine vc5 hB ?_;simp only[go_sem,ZcD,tgs,l1,l2,s1,s2];exact YQ (cut ⟨0,Ja _⟩ _ ⟨rfl,(Fc4 rfl rfl rfl rfl),fnl,fnl⟩);have hb':(upC m b !=0)=true:=by simpa using hb
 simp only[ha,hb,ne_eq,not_true_eq_false,not_false_eq_true,if_true,if_false]at hA hB ⊢;refine ZA func247 rfl ntmps247 results247 (Za1 _) ?_;simp only[go_sem,tr,tg];refine U9 ?_;simp only[go_sem];refine vc5 hA ?_;simp only[go_sem,ZcD];refine vc5 hB ?_;simp only[go_sem,ZcD,tgs,hb',ZnY];have ha':(upC m a !=0)=true:=by simpa using ha
 simp only[ha,ne_eq,not_false_eq_true,if_true]at hA ⊢;refine ZA func247 rfl ntmps247 results247 (Za1 _) ?_;simp only[go_sem,tr,tg];refine U9 ?_;simp only[go_sem];refine vc5 hA ?_;simp only[go_sem,ZcD,tgs,ha',ZnY]
open Go.PL
def dn (e:Eg):Lg:=⟨e.id,true⟩
def upg (i:Tg):Lg:=⟨i,false⟩
def D4 (p q:List Eg):List Lg:=((p.drop (lcp p q)).reverse.map λe=>upg e.id)++(q.drop (lcp p q)).map dn
theorem ZiN (p:List Eg) (c:Nat) (hc:c<=p.length):(upL p).take (p.length-c)=(p.drop c).reverse.map (·.id):=by
 unfold upL;rw[JI (by simp),<-J7,List.take_reverse];congr 3;omega
def D5 (x:List Lg×Int):PV:= .tup [lgs x.1,.int .i64 x.2]
theorem Zox (l:List Lg):Jy (l.map lg)= []:=by
 induction l with
 |nil=>rfl
 |cons t l ih=>simp only[Jc,Jy,ih,lg,JH,Jb]
theorem Zo0 (l:List Lg):(lgs l).dids= []:=by simp only[lgs,JH,Zox]
theorem Sa (x:List Lg×Int):(D5 x).dids= []:=by simp only[D5,JH,Jy,Zo0,Jb]
theorem Fm (l:List Lg):Sized 3 (l.map lg):=λe he=>by
 obtain⟨x,_,rfl⟩:=Jk.1 he;rfl
def Wd (m:List Eg) (a b:Tg):Int:=if upC m a≠0 then upC m a else upC m b
def Zdx (m:List Eg) (a b:Tg):List Lg×Int:=if Wd m a b≠0 then([],Wd m a b)else(D4 (WH m a) (WH m b),0)
theorem WS {m:List Eg} {a b:Tg}:Wd m a b=0↔upC m a=0/\upC m b=0:=by
 unfold Wd;split;rename_i h;exact⟨λh'=>absurd h' h,λh'=>absurd h'.1 h⟩;rename_i h;exact⟨λh'=>⟨by simpa using h,h'⟩,λh'=>h'.2⟩
theorem ZnH {m:List Eg} {a b:Tg} (h:Wd m a b≠0):ZkA m a b=⟨[],[],0,0,Wd m a b⟩:=by
 unfold ZkA Wd at *;split;rfl;rename_i h1;rw[if_neg h1]at h;rw[if_pos h]
theorem ZkB {m:List Eg} {a b:Tg} (h:Wd m a b=0):ZkA m a b=⟨upL (WH m a),upL (WH m b),(WH m a).length-lcp (WH m a) (WH m b),(WH m b).length-lcp (WH m a) (WH m b),0⟩:=by
 obtain⟨h1,h2⟩:=WS.1 h;unfold ZkA;rw[if_neg (by simp[h1]),if_neg (by simp[h2])]
theorem Sw {q:List Eg} {c s:Nat} (h:c+s<q.length):(q.drop c).take (s+1)=(q.drop c).take s++ [q.getD (c+s) Jd]:=by
 rw[JO];congr 1;rw[List.getElem?_drop,List.getElem?_eq_getElem h,getD_lt h];rfl
theorem ZkO (m:List Eg) (a b:Tg) (hm:OkM m):Pp 231 [tr (Zd m),tg a,tg b] (D5 (Zdx m a b)):=by
 have hW:=ZnI m a b hm;unfold Zdx;by_cases hc:Wd m a b=0;rw[ZkB hc]at hW;obtain⟨ha,hb⟩:=WS.1 hc;obtain⟨wa,_,_⟩:=YN ha;obtain⟨wb,_,_⟩:=YN hb;simp only[hc,ne_eq,not_true_eq_false,if_false];generalize WH m a=p at *;generalize WH m b=q at *;have hlc:=Zb8 p q;have hpl:p.length<=40:=by have:=wa.len;have:=hm.n;omega
 have hql:q.length<=40:=by have:=wb.len;have:=hm.n;omega
 unfold D4;have hut:=ZiN p (lcp p q) hlc.1;have hdl:(p.drop (lcp p q)).length=p.length-lcp p q:=by simp
 have hql':(q.drop (lcp p q)).length=q.length-lcp p q:=by simp
 generalize hids:(p.drop (lcp p q)).reverse.map (·.id)=ids at *;have hidl:ids.length=p.length-lcp p q:=by rw[<-hids];simp
 have hfst:((p.drop (lcp p q)).reverse.map λe=>upg e.id)=ids.map upg:=by rw[<-hids,JW];rfl
 rw[hfst];have hlen:ids.length<=maxLen:=by rw[Zb];omega
 have s0:IntKind.i64.wrap (((p.length-lcp p q:Nat):Int)+((q.length-lcp p q:Nat):Int))=((p.length-lcp p q+(q.length-lcp p q):Nat):Int):=by rw[w64 (by omega)];omega
 have hup:(upL p).length=p.length+1:=X4 p;refine ZA func231 rfl ntmps231 results231 (Sa _) ?_;simp only[go_sem,tr,tg];refine ZdT (ι:= { s:Nat // s<=q.length-lcp p q }) 60 (λx=> [(9,tgs (upL q)),(11,.int .i64 ((q.length-lcp p q-x.1:Nat):Int)),(13,.sl (.row 58) ((ids.map upg++((q.drop (lcp p q)).take x.1).map dn).map lg))]) (λx=> []) (λx=> [(58,.live (ids.length+x.1) 3 257)]) (λx=>q.length-lcp p q-x.1) 0 _ (by exact rfl)
  (λx=>⟨Fc3 rfl rfl (by simp[J2,ZG]),fnl⟩) (λx=> ?_) (λcut=> ?_)
 obtain⟨s,hs⟩:=x;simp only;by_cases hlt:s<q.length-lcp p q;have c1:(0:Int)<((q.length-lcp p q-s:Nat):Int):=by omega
 have w1:IntKind.i64.wrap (((q.length-lcp p q-s:Nat):Int)-1)=((q.length-(lcp p q+s)-1:Nat):Int):=by rw[w64 (by omega)];omega
 have k1:q.length-(lcp p q+s)-1<(upL q).length:=by rw[X4];omega
 have b1:(0:Int)<=((q.length-(lcp p q+s)-1:Nat):Int):=by omega
 have b2:((q.length-(lcp p q+s)-1:Nat):Int)<((upL q).length:Int):=by omega
 have v1:=ZaU q (lcp p q+s) (by omega);have hrm:=Yb (show ids.length+s+1<=1000000 by omega) (show 24<=1000 by omega);have hsl:(ids.map upg++((q.drop (lcp p q)).take s).map dn).length=ids.length+s:=by simp;omega
 have hnx:=Sw (q:=q) (c:=lcp p q) (s:=s) (by omega);simp only[go_sem,tgs,c1,w1,ZK k1,v1,tg,b1,b2,Fm,hsl,hrm];refine⟨⟨s+1,by omega⟩,by show q.length-lcp p q-(s+1)<q.length-lcp p q-s;omega,⟨rfl,fcs rfl (fcs ?_ (fcs ?_ fnl)),fnl,fcs ?_ fnl⟩⟩;show PV.int .i64 _=PV.int .i64 _;congr 2;simp only;omega;show Kb (.row 58) _=Kb (.row 58) _;simp[hnx,dn,lg];rfl;obtain rfl:s=q.length-lcp p q:=by omega
 have c1:¬(0:Int)<((q.length-lcp p q-(q.length-lcp p q):Nat):Int):=by omega
 have htk:(q.drop (lcp p q)).take (q.length-lcp p q)=q.drop (lcp p q):=JT (by omega);simp only[go_sem,tgs,c1,D5,lgs,htk]
 ·simp only[go_sem];refine vc5 hW ?_;simp only[go_sem,ZnY,tgs,s0];repeat((with_reducible refine And.intro ?_ ?_);(focus((repeat' (with_reducible apply And.intro))<;>(first|omega|exact Yr (by omega) (by omega)|exact Yr (by simp;omega) (by omega)|exact Z6 _|(simp;done)|(simp;omega)))))
  have htt:PL.cut (List.map tg (upL p)) 0 ((p.length-lcp p q:Nat):Int)=ids.map tg:=by simp[PL.cut,<-J7,hut]
  refine⟨⟨by omega,by omega,Sl _⟩,?_⟩;simp only[go_sem,htt];refine ZL 13 32 45 0 3 257 [] rfl rfl rfl ?_;refine Zt (ι:= { x:Nat // x<=(ids).length }) 60 (λx=> [(9,tgs (upL q)),(11,.int .i64 ((q.length-lcp p q:Nat):Int)),(13,.sl (.row 45) (((ids.take x.1).map upg).map lg)),(35,tgs ids),(36,.int .i64 (ids.length:Int)),(37,.int .i64 (x.1:Int))]) (λx=> []) (λx=> [(45,.live (x.1) (3) (257))]) (λx=>(ids).length-x.1) ⟨0,Ja _⟩ ⟨rfl,(Fc6 rfl rfl rfl rfl rfl rfl),fnl,(fcs rfl fnl)⟩ (λx=>⟨(Fc6 rfl rfl (by simp[J2,ZG]) rfl rfl rfl),fnl⟩) (λx=> ?_);obtain⟨k,hk⟩:=x;simp only at hk ⊢;by_cases h:(k:Int)<(ids.length:Int)
  ·(have hka:k<(ids).length:=by omega);(have w1:=Xb hka (hlen));(have i1:=Jf k)
   have hts:ids.take (k+1)=ids.take k++ [ids.getD k Jd]:=by rw[JO,getD_lt hka];simp[hka]
   have hkl:(ids.take k).length=k:=by simp;omega
   have hrm:=Yb (show k+1<=1000000 by omega) (show 24<=1000 by omega);simp only[go_sem,h,tgs,ZK hka,tg,i1,w1,Fm,hkl,hrm];exact⟨⟨k+1,by(try simp only);omega⟩,by show(ids).length-(k+1)<(ids).length-k;omega,⟨rfl,(Fc6 rfl rfl (by(show Kb _ _=Kb _ _;simp[hts,upg,lg])) rfl rfl rfl),fnl,(fcs rfl fnl)⟩⟩
  obtain rfl:k=ids.length:=by omega
  have htk:ids.take ids.length=ids:=JS;simp only[go_sem,h,htk];refine ZL 13 45 58 ids.length 3 257 ((ids.map upg).map lg) rfl rfl rfl ?_;exact YQ (cut ⟨0,Ja _⟩ _ ⟨rfl,Fc3 rfl rfl (by simp[upd,St.with]),fnl,fcs (by simp[upd,Hp.setq,St.with]) fnl⟩)
 have hc':(Wd m a b !=0)=true:=by simpa using hc
 rw[ZnH hc]at hW;simp only[ne_eq,hc,not_false_eq_true,if_true];refine ZA func231 rfl ntmps231 results231 (Sa _) ?_;simp only[go_sem,tr,tg];refine U9 ?_;simp only[go_sem];refine vc5 hW ?_;simp only[go_sem,ZnY,tgs,hc',D5,lgs]
open Go.PL
theorem Y9 {x:Ln} (h:ZE x=true):(x.kind=1\/x.kind=2\/x.kind=3\/x.kind=4\/x.kind=5\/x.kind=6\/x.kind=7\/x.kind=8\/x.kind=9\/x.kind=10)/\(x.kind≠8->x.fo= []/\x.ba= []):=by
 unfold ZE at h;split at h;rename_i hk;simp only[Jm,JX]at h;exact⟨by omega,λ_=>U8.1 h.2.2.2.2.1⟩;simp only[Jm]at h;obtain⟨_,h⟩:=h;split at h;rename_i hk;exact⟨by omega,λhn=>absurd hk hn⟩;simp only[Jm,JX]at h;refine⟨?_,λ_=>U8.1 h.1⟩;have h:=h.2;split at h;omega;simp only[Jm]at h;have h:=h.2;split at h;omega;simp only[Jm]at h;have h:=h.2;split at h;omega;split at h;omega;simp only[Jm,decide_eq_true_eq]at h;omega
def ZsX (k:Int):Int:=if k=2\/k=3 then 5-k else if k=4\/k=5 then 9-k else if k=6\/k=9 then 15-k else if k=7\/k=10 then 17-k else k
theorem Zj2 (k:Int) (h:k=1\/k=2\/k=3\/k=4\/k=5\/k=6\/k=7\/k=8\/k=9\/k=10):Pp 256 [.int .i64 k] (.int .i64 (ZsX k)):=by
 rcases h with rfl|rfl|rfl|rfl|rfl|rfl|rfl|rfl|rfl|rfl
 all_goals
  refine ZH func256 rfl ntmps256 results256 ?_;simp only[go_sem];rfl
theorem ZcR (x:Ln) (hx:OkLn x):Pp 244 [lns x] (lnc (Zqa x)):=by
 have hR:=V0 x hx;unfold Zqa;cases hlr:ZE x;rw[hlr]at hR;refine ZA func244 rfl ntmps244 results244 (Ws _) ?_;simp only[go_sem,lns];refine vc3 hR ?_;simp only[go_sem,if_true,lnc,U1];rw[hlr]at hR;obtain⟨hk,ht⟩:=Y9 hlr;have hO:=Zj2 x.kind hk;simp only[Ji,if_false];obtain⟨kind,at',nm,ot,fac,fd,fo,ba⟩:=x;simp only at hk ht hO;clear hx hlr;by_cases h8:kind=8;subst h8;refine ZA func244 rfl ntmps244 results244 (Ws _) ?_;simp only[go_sem,lns];refine vc3 hR ?_;simp only[go_sem,lns];refine vDq ?_;simp only[go_sem];refine vc3 hO ?_;simp only[go_sem,lnc,lns,Fj];rfl;obtain⟨rfl,rfl⟩:=ht h8;rcases hk with rfl|rfl|rfl|rfl|rfl|rfl|rfl|rfl|rfl|rfl
 all_goals first
  |(exact absurd rfl h8)
  |(refine ZA func244 rfl ntmps244 results244 (Ws _) ?_
    simp only[go_sem,lns];refine vc3 hR ?_;simp only[go_sem,lns];refine vDq ?_;simp only[go_sem];refine vc3 hO ?_;simp only[go_sem,lnc,lns,Fj];rfl)
def Zag (m:List Eg) (x:Lg):Ln×Int:=match Xs m x.id with|none=>(Jd,6)|some e=>if x.down=true then(e.ln,0)else(Fj e.ln,0)
structure RightM (m:List Eg):Prop where
 r:∀e∈m,SF e=true
theorem ZbK {e:Eg} (h:SF e=true):ZE e.ln=true:=by
 simp only[SF,Jm]at h;exact h.2.2.2.2
theorem Zpo {m:List Eg} (h:RightM m) (e:Eg):RightM (ZdY m e).1:=by
 unfold ZdY;split;exact h;rename_i hb;split;split<;>exact h
 split;exact h;refine⟨λx hx=> ?_⟩;rcases Jo.1 hx with hx|hx;exact h.r x hx;rw[Jl.1 hx];simpa using hb
theorem Zco:∀(l:List Eg) {m:List Eg},RightM m->RightM (l.foldl (λm e=>(ZdY m e).1) m)
 | [],m,h=>h
 |e::l,m,h=>Zco l (Zpo h e)
theorem ZaH:RightM []:=⟨λe h=>by cases h⟩
theorem Zjn (m:List Eg) (x:Lg) (hm:OkM m) (hr:RightM m):Pp 232 [tr (Zd m),lg x] (lnc (Zag m x)):=by
 have hF:=Zbz m x.id hm;unfold ZeS at hF;unfold Zag;cases hf:Xs m x.id with
 |none=>
  rw[hf]at hF;simp only at hF ⊢;refine ZA func232 rfl ntmps232 results232 (Ws _) ?_;simp only[go_sem,tr,lg];refine vc5 hF ?_;simp only[go_sem,edc,ZbL,lnc,U1]
 |some e=>
  rw[hf]at hF;simp only at hF ⊢;have hem:=(XW hf).2;have hO:=Fx e.ln (hm.l e hem);have hI:=Zd5 e.ln (hm.l e hem);have hi:Zqa e.ln=(Fj e.ln,0):=by unfold Zqa;rw[ZbK (hr.r e hem)];rfl
  rw[hi]at hI;obtain⟨id,down⟩:=x;cases down
  ·refine ZA func232 rfl ntmps232 results232 (Ws _) ?_;simp only[go_sem,tr,lg];refine vc5 hF ?_;simp only[go_sem,edc,eg];refine vc3 hI ?_;simp only[go_sem,lnc,lns,if_false]
  ·refine ZA func232 rfl ntmps232 results232 (Ws _) ?_;simp only[go_sem,tr,lg];refine vc5 hF ?_;simp only[go_sem,edc,eg];refine vc3 hO ?_;simp only[go_sem,lnc,lns,if_true]
theorem Zjd (m:List Eg) (x:Lg) (hm:OkM m) (hr:RightM m):Pp 227 [egs m,lg x] (lnc (Zag m x)):=by
 have hA:=S7 m x.id (by rw[Zb];have:=hm.n;omega);unfold Zag;rcases Gu (m:=m) (id:=x.id)with ⟨h1,h2⟩|⟨i,hi,h1,h2⟩;rw[h1]at hA;rw[h2];refine ZA func227 rfl ntmps227 results227 (Ws _) ?_;simp only[go_sem,egs,lg];refine vc3 hA ?_;simp only[go_sem,lnc,U1];rw[h1]at hA;rw[h2];simp only;have hem:m.getD i Jd∈m:=Ze hi;have hI:=ZcR (m.getD i Jd).ln (hm.l _ hem);have hv:Zqa (m.getD i Jd).ln=(Fj (m.getD i Jd).ln,0):=by unfold Zqa;rw[ZbK (hr.r _ hem)];rfl
 rw[hv]at hI;have n1:¬(i:Int)<0:=by omega
 have i0:=Jf i
 have i1:(i:Int)<(m.length:Int):=by omega
 obtain⟨id,down⟩:=x;cases down;refine ZA func227 rfl ntmps227 results227 (Ws _) ?_;simp only[go_sem,egs,lg];refine vc3 hA ?_;simp only[go_sem,n1,i0,i1,XI hi,eg];refine vc3 hI ?_;simp only[go_sem,lnc,lns,if_false];refine ZA func227 rfl ntmps227 results227 (Ws _) ?_;simp only[go_sem,egs,lg];refine vc3 hA ?_;simp only[go_sem,n1,i0,i1,XI hi,eg,lnc,lns,if_true]
theorem Zvg {x:Ln} (h:OkLn x):OkLn (Fj x):=by
 unfold Fj;repeat' split
 all_goals first|exact⟨h.c,h.f,h.b⟩|exact⟨h.c,h.b,h.f⟩
theorem ZsT {m:List Eg} (hm:OkM m) (x:Lg):OkLn (Zag m x).1:=by
 unfold Zag;split;exact⟨by decide,by decide,by decide⟩;rename_i e he;have:=hm.l e (XW he).2;split;exact this;exact Zvg this
open Go.PL
structure ChT where
 l:List Fd
 n:Nat
 c:Int
def Zll:List Fd->List Ln->Nat->ChT
 |fs,[],i=>⟨fs,i,0⟩
 |fs,x::xs,i=>if(ZT fs x).2≠0 then⟨[],i,(ZT fs x).2⟩else Zll (ZT fs x).1 xs (i+1)
structure ChS (l:List Fd) (row:List Ln) where
 k:Nat
 fs:List Fd
 hk:k<=row.length
 ok:OkFs fs
 h:Zll fs (row.drop k) k=Zll l row 0
theorem Zlx {row:List Ln} {k:Nat} (hk:k<row.length):row.drop k=row.getD k Jd::row.drop (k+1):=by
 rw[getD_lt hk,List.drop_eq_getElem_cons hk]
open Go.PL
def ZaO (m:List Eg) (id:Tg):Int×List Fd:=
 if id≠Jd/\Xs m id=none then(0,[])else match Zd1 m id with
  |none=>(1,[])
  |some w=>match Xg w U5 with
   |none=>(3,[])
   |some fs=>(2,fs)
theorem ZmO (m:List Eg) (id:Tg):Ys (Zd m) id=if(ZaO m id).1=3 then([],16)else if(ZaO m id).1≠2 then([],13)else((ZaO m id).2,0):=by
 unfold ZaO Ys;by_cases hd:id=Jd;subst hd;have h1:Zd1 m Jd=some []:=XF.2 .root;simp[atN,ZfE,h1,Xg];rw[ZhU m id hd];cases hf:Xs m id with
 |none=>
  have hn:id≠Jd/\(none:Option Eg)=none:=⟨hd,rfl⟩;rw[if_pos hn];rfl
 |some e=>
  obtain⟨h1,h2⟩:=XW hf;have hn:¬(id≠Jd/\(some e:Option Eg)=none):=λh=>by cases h.2
  rw[if_neg hn];simp only[JB,JG,Yp,<-h1];have key:∀(w:Option (List Eg)),(if(Dq e w).st=2 then((Dq e w).sch,(0:Int))else if(Dq e w).st=3 then([],16)else([],13))=
    (λs:Int×List Fd=>if s.1=3 then(([]:List Fd),(16:Int))else if s.1≠2 then([],13)else(s.2,0)) (match w with|none=>(1,[])|some w=>match Xg w U5 with|none=>(3,[])|some fs=>(2,fs)):=by
   intro w;cases w with
   |none=>rfl
   |some w=>
    have k2:∀F:Option (List Fd),(λ(n:Nd) (s:Int×List Fd)=>(if n.st=2 then(n.sch,(0:Int))else if n.st=3 then([],16)else([],13))=(if s.1=3 then(([]:List Fd),(16:Int))else if s.1≠2 then([],13)else(s.2,0)))
      (match F with|none=>⟨e,3,[],0⟩|some fs=>⟨e,2,fs,w.length⟩) (match F with|none=>(3,[])|some fs=>(2,fs)):=by
     intro F;cases F<;>rfl
    exact k2 (Xg w U5)
  exact key (Zd1 m id)
theorem ZbY {e:Eg} {w:List Eg} (fs:List Fd):Xg (e::w) fs=if(ZT fs e.ln).2=0 then Xg w (ZT fs e.ln).1 else none:=by
 by_cases h:(ZT fs e.ln).2=0;simp[Xg,h];simp[Xg,h]
theorem ZqK {l:List Fd} {r:Rf} (h:idx (atF r) l= -1):ZJ l r=(Jd,6):=by unfold ZJ;rw[h];rfl
theorem ZqJ {l:List Fd} {r:Rf} {i:Nat} (h:idx (atF r) l=(i:Int)):ZJ l r=(l.getD i Jd,0):=by
 unfold ZJ;rw[h,if_neg (by omega)];simp
def Zz (l:List Fd) (r:Rf):Fd:=(ZJ l r).1
def D6:List Rf->List Fd->List Fd
 | [],l=>l
 |r::rs,l=>D6 rs (YE l r).1
theorem Zcm:∀(rs:List Rf) (r:Rf) (l:List Fd),D6 (rs++ [r]) l=(YE (D6 rs l) r).1
 | [],r,l=>rfl
 |x::rs,r,l=>by simp only[JZ,D6];exact Zcm rs r _
theorem Zqi:∀(rs:List Rf) {l:List Fd},OkFs l->OkFs (D6 rs l)
 | [],l,h=>h
 |r::rs,l,h=>Zqi rs (Zaq h r)
theorem Zb2:∀(rs:List Rf) {l:List Fd},Z2 l=true->rs.Nodup->(∀r∈rs,(ZJ l r).2=0)->Tj rs l=some (D6 rs l)
 | [],l,_,_,_=>rfl
 |r::rs,l,hr,hn,hf=>by
  obtain⟨h1,h2⟩:=W4 (hf r (by simp));have w0:=ZqA hr ⟨_,h1,h2⟩;obtain⟨_,_,w3,w4,_⟩:=ZnL w0;simp only[Tj,w0,ne_eq,not_true_eq_false,if_false,D6];rw[Jv]at hn;refine Zb2 rs w3 hn.2 λx hx=> ?_
  obtain⟨g1,g2⟩:=W4 (hf x (by simp[hx]));have hm:(ZJ l x).1∈(YE l r).1:=(w4 _).2 ⟨g1,λe=>hn.1 (by rw[<-e,g2];exact hx)⟩;have:=Xf (Ya.1 w3).2.1 hm;rw[g2]at this;rw[this]
theorem ZjO {rs:List Rf} {l:List Fd} (hr:Z2 l=true) {r:Rf} (h:r∈rs) (hf:(ZJ l r).2≠0):Tj rs l=none:=by
 cases hg:Tj rs l with
 |none=>rfl
 |some m=>
  obtain⟨f,hfm,e⟩:=(F7 hr hg).2.2.1 r h;have:=Xf (Ya.1 hr).2.1 hfm;rw[e]at this;rw[this]at hf;exact absurd rfl hf
def XC (l:List Fd) (f:Fd) (ok:Bool):List Fd×Bool:=((Vm l f).1,ok&&decide ((Vm l f).2=0))
theorem Zka {f:Fd} (h:ZY f=true) (hk:f.kind=3):f.worth=0:=by
 simp[ZY,hk]at h;exact h.2.1
theorem ZmJ {r:Rf} {w:Int} (h:¬w<1048577):ZY ⟨r,1,[],[],w⟩=false:=by
 simp[ZY,h]
def Zo (f:Fd) (r:Rf):Fd:=⟨r,f.kind,f.df,f.cases',f.worth⟩
def Vg (x:Ln) (was rest:List Fd):List Fd×Bool:=
 if x.kind=2 then XC rest x.fd true
 else if x.kind=3 then(rest,decide (was.getD 0 Jd=x.fd))
 else if x.kind=6 then
  XC (XC rest ⟨Zh x.at' x.nm,1,[],[],(was.getD 0 Jd).worth⟩ (decide ((was.getD 0 Jd).kind=1)&&decide (IntKind.i64.wrap ((was.getD 0 Jd).worth*x.fac)<1048577))).1
   ⟨Zh x.at' x.ot,1,[],[],IntKind.i64.wrap ((was.getD 0 Jd).worth*x.fac)⟩
   (XC rest ⟨Zh x.at' x.nm,1,[],[],(was.getD 0 Jd).worth⟩ (decide ((was.getD 0 Jd).kind=1)&&decide (IntKind.i64.wrap ((was.getD 0 Jd).worth*x.fac)<1048577))).2
 else if x.kind=7 then XC rest ⟨x.at',4,[],[],0⟩ (decide ((was.getD 0 Jd).kind=2)&&decide ((was.getD 0 Jd).df=x.ot))
 else if x.kind=8 then XC rest ⟨x.at',3,x.ot,Yn x.ba,0⟩ ((decide ((was.getD 0 Jd).kind=3)&&decide ((was.getD 0 Jd).df=x.nm))&&decide ((was.getD 0 Jd).cases'=Yn x.fo))
 else if x.kind=9 then XC rest ⟨x.at',1,[],[],(was.getD 0 Jd).worth⟩ ((decide ((was.getD 0 Jd).kind=1)&&decide ((was.getD 1 Jd).kind=1))&&decide ((was.getD 1 Jd).worth=IntKind.i64.wrap ((was.getD 0 Jd).worth*x.fac)))
 else if x.kind=10 then XC rest ⟨x.at',2,x.ot,[],0⟩ (decide ((was.getD 0 Jd).kind=4))
 else XC rest (Zo (was.getD 0 Jd) ((Zc x).getD 0 Jd)) true
def Tm (y:List Fd×Bool):List Fd×Int:=if y.2=false then([],16)else(y.1,0)
def Zhh (y:Option (List Fd)):List Fd×Int:=match y with|none=>([],16)|some m=>(m,0)
theorem Zqm (rest:List Fd) (f:Fd) (ok:Bool):Zhh (if ok=false then none else YD [f] rest)=Tm (XC rest f ok):=by
 unfold Zhh Tm XC;cases ok;simp;by_cases h:(Vm rest f).2=0;simp[YD,h];simp[YD,h]
theorem Zql (rest:List Fd) (f:Fd):Zhh (YD [f] rest)=Tm (XC rest f true):=Zqm rest f true
theorem ZjP {x:Ln} (h:ZE x=true):(Zy x).Nodup:=by
 unfold Zy;split;simp;split;simp;split;rename_i h9;simp only[Jv,Jl,JY,not_false_eq_true,List.nodup_nil,and_true];intro e;have e2:x.nm=x.ot:=by simpa[Zh]using congrArg (λr:Rf=>r.nm) e
 simp[ZE,h9,e2]at h;simp
theorem Zk3 {l:List Fd} {x:Ln} (hl:Z2 l=true) (hx:ZE x=true):
  ZT l x=if ∃r∈Zy x,(ZJ l r).2≠0 then([],16)else Tm (Vg x ((Zy x).map (Zz l)) (D6 (Zy x) l)):=by
 have hk:=(Y9 hx).1;unfold ZT;rw[if_neg (by simp[hl,hx])];show Zhh (Gg l x)=_;split;rename_i h;obtain⟨r,hr,hf⟩:=h;unfold Gg;rw[ZjO hl hr hf];split<;>rfl
 rename_i h;have hall:∀r∈Zy x,(ZJ l r).2=0:=λr hr=>by
  refine J6 λhn=>h ⟨r,hr,hn⟩
 have hg:=Zb2 (Zy x) hl (ZjP hx) hall;have hp:∀r∈Zy x,ZY (Zz l r)=true/\(Zz l r).at'=r:=λr hr=>by
  obtain⟨h1,h2⟩:=W4 (hall r hr);exact⟨(Ya.1 hl).2.2 _ h1,h2⟩
 have pk:∀r,(ZJ l r).1=Zz l r:=λ_=>rfl
 unfold Gg;rw[hg,JF];clear hg h;generalize D6 (Zy x) l=rest;have one:∀r∈Zy x,(ZJ l r).2=0/\ZY (Zz l r)=true/\(Zz l r).at'=r:=λr hr=>⟨hall r hr,hp r hr⟩
 clear hall hp;obtain⟨kind,at',nm,ot,fac,fd,fo,ba⟩:=x;simp only at hk;rcases hk with rfl|rfl|rfl|rfl|rfl|rfl|rfl|rfl|rfl|rfl;obtain⟨f0,-,-⟩:=one at' (by simp[Zy]);simp only[Vn,Zy,Zc,Vg,pk,f0,Jc,Jq,Jh,Zo,Jr,if_true,if_false,ne_eq,not_true_eq_false,not_false_eq_true,reduceCtorEq,decide_true,Jn];first|exact Zqm _ _ _|exact Zql _ _
 simp only[Vn,Zy,Zc,Vg,Jr,if_true,if_false,ne_eq,not_true_eq_false,not_false_eq_true,reduceCtorEq,decide_true,Jn];first|exact Zqm _ _ _|exact Zql _ _
 obtain⟨f0,-,-⟩:=one fd.at' (by simp[Zy]);simp only[Vn,Zy,Vg,pk,f0,Jc,Jq,Jh,Jr,if_true,if_false,ne_eq,not_true_eq_false,not_false_eq_true,reduceCtorEq,decide_true,Jn];by_cases e:Zz l fd.at'=fd;simp[e,Zhh,Tm,YD];simp[e,Zhh,Tm];obtain⟨f0,-,-⟩:=one at' (by simp[Zy]);simp only[Vn,Zy,Zc,Vg,pk,f0,Jc,Jq,Jh,Zo,Jr,if_true,if_false,ne_eq,not_true_eq_false,not_false_eq_true,reduceCtorEq,decide_true,Jn];first|exact Zqm _ _ _|exact Zql _ _
 obtain⟨f0,-,-⟩:=one at' (by simp[Zy]);simp only[Vn,Zy,Zc,Vg,pk,f0,Jc,Jq,Jh,Zo,Jr,if_true,if_false,ne_eq,not_true_eq_false,not_false_eq_true,reduceCtorEq,decide_true,Jn];first|exact Zqm _ _ _|exact Zql _ _
 obtain⟨f0,-,-⟩:=one at' (by simp[Zy]);simp only[Vn,Zy,Zc,Vg,pk,f0,Jc,Jq,Jh,Jr,if_true,if_false,ne_eq,not_true_eq_false,not_false_eq_true,reduceCtorEq,decide_true,Jn];generalize Zz l at'=f;by_cases hw:IntKind.i64.wrap (f.worth*fac)<1048577;by_cases h1:f.kind=1;by_cases w1:(Vm rest ⟨Zh at' nm,1,[],[],f.worth⟩).2=0;by_cases w2:(Vm (Vm rest ⟨Zh at' nm,1,[],[],f.worth⟩).1 ⟨Zh at' ot,1,[],[],IntKind.i64.wrap (f.worth*fac)⟩).2=0;simp[XC,Zhh,Tm,YD,hw,h1,w1,w2];simp[XC,Zhh,Tm,YD,hw,h1,w1,w2];simp[XC,Zhh,Tm,YD,hw,h1,w1];simp[XC,Zhh,Tm,YD,hw,h1];have w2:∀m,(Vm m ⟨Zh at' ot,1,[],[],IntKind.i64.wrap (f.worth*fac)⟩).2≠0:=λm=>by
  unfold Vm;rw[if_pos (.inr (ZmJ hw))];decide
 have e:Tm (XC (XC rest ⟨Zh at' nm,1,[],[],f.worth⟩ (decide (f.kind=1)&&decide (IntKind.i64.wrap (f.worth*fac)<1048577))).1 ⟨Zh at' ot,1,[],[],IntKind.i64.wrap (f.worth*fac)⟩ (XC rest ⟨Zh at' nm,1,[],[],f.worth⟩ (decide (f.kind=1)&&decide (IntKind.i64.wrap (f.worth*fac)<1048577))).2)=([],16):=by
  simp[XC,Tm,hw]
 rw[e];by_cases h1:f.kind=1;simp[Zhh,YD,h1,w2];simp[Zhh,h1];obtain⟨f0,-,-⟩:=one at' (by simp[Zy]);simp only[Vn,Zy,Zc,Vg,pk,f0,Jc,Jq,Jh,Zo,Jr,if_true,if_false,ne_eq,not_true_eq_false,not_false_eq_true,reduceCtorEq,decide_true,Jn];first|exact Zqm _ _ _|exact Zql _ _
 obtain⟨f0,f1,f2⟩:=one at' (by simp[Zy]);have e8:decide (Zz l at'=⟨at',3,nm,Yn fo,0⟩)=((decide ((Zz l at').kind=3)&&decide ((Zz l at').df=nm))&&decide ((Zz l at').cases'=Yn fo)):=by
  generalize Zz l at'=f at *;by_cases k3:f.kind=3;have w0:=Zka f1 k3;obtain⟨a,b,c,d,e⟩:=f;simp only at k3 w0 f2;subst k3 w0 f2;simp;have:¬f=⟨at',3,nm,Yn fo,0⟩:=λe=>k3 (by rw[e])
  simp[this,k3]
 simp only[Vn,Zy,Zc,Vg,pk,f0,Jc,Jq,Jh,Zo,e8,Jr,if_true,if_false,ne_eq,not_true_eq_false,not_false_eq_true,reduceCtorEq,decide_true,Jn];first|exact Zqm _ _ _|exact Zql _ _
 obtain⟨f0,-,-⟩:=one (Zh at' nm) (by simp[Zy]);obtain⟨g0,-,-⟩:=one (Zh at' ot) (by simp[Zy]);simp only[Vn,U2,Zy,Zc,Vg,pk,f0,g0,Jc,Jq,Jh,List.getD_cons_succ,Jr,if_true,if_false,ne_eq,not_true_eq_false,not_false_eq_true,reduceCtorEq,decide_true,Jn];generalize Zz l (Zh at' nm)=f;generalize Zz l (Zh at' ot)=g;by_cases h1:f.kind=1;by_cases h2:g.kind=1;by_cases h3:g.worth=IntKind.i64.wrap (f.worth*fac);simp[h1,h2,h3,Zql];simp[h1,h2,h3,Zhh,Tm,XC];simp[h1,h2,Zhh,Tm,XC];simp[h1,Zhh,Tm,XC];obtain⟨f0,-,-⟩:=one at' (by simp[Zy]);simp only[Vn,Zy,Zc,Vg,pk,f0,Jc,Jq,Jh,Zo,Jr,if_true,if_false,ne_eq,not_true_eq_false,not_false_eq_true,reduceCtorEq,decide_true,Jn];first|exact Zqm _ _ _|exact Zql _ _
open Go.PL
theorem Zjj (l:List Fd) (f:Fd) (hl:OkFs l) (hf:f.cases'.length<=1000000):Pp 222 [Zi l,fld f] (ZM (Vm l f)):=by
 have hn:=hl.n;have hm:l.length<=maxLen:=by rw[Zb];omega
 have hR:=To l hm (λg hg=>by have:=hl.c g hg;rw[Zb];omega);have hF:=UM f (by rw[Zb];omega);have hI:Pp 175 [Zi l,ref f.at'] (.int .i64 (idx (atF f.at') l)):=Fb l f.at' hm;unfold Vm;cases hr:Z2 l;rw[hr]at hR;simp only[true_or,if_true];refine ZA func222 rfl ntmps222 results222 (ZI _) ?_;simp only[go_sem,Zi,fld];refine vc2 hR ?_;simp only[go_sem,ZM,Zi];rw[hr]at hR;cases hrf:ZY f;rw[hrf]at hF;simp only[or_true,if_true];refine ZA func222 rfl ntmps222 results222 (ZI _) ?_;simp only[go_sem,Zi,fld];refine vc2 hR ?_;simp only[go_sem];refine vc2 hF ?_;simp only[go_sem,ZM,Zi];rw[hrf]at hF;simp only[Ji,or_self,if_false];by_cases h2:(0:Int)<=idx (atF f.at') l;rw[if_pos h2];refine ZA func222 rfl ntmps222 results222 (ZI _) ?_;simp only[go_sem,Zi,fld];refine vc2 hR ?_;simp only[go_sem];refine vc2 hF ?_;simp only[go_sem];refine vc2 hI ?_;simp only[go_sem,h2,ZM,Zi];rw[if_neg h2];by_cases h3:(16:Int)<=(l.length:Int);rw[if_pos h3];have h3':(15:Int)<(l.length:Int):=by omega
 refine ZA func222 rfl ntmps222 results222 (ZI _) ?_;simp only[go_sem,Zi,fld];refine vc2 hR ?_;simp only[go_sem];refine vc2 hF ?_;simp only[go_sem];refine vc2 hI ?_;simp only[go_sem,h2,h3',ZM,Zi];rw[if_neg h3];have h3':¬(15:Int)<(l.length:Int):=by omega
 refine ZA func222 rfl ntmps222 results222 (ZI _) ?_;simp only[go_sem,Zi,fld];refine vc2 hR ?_;simp only[go_sem];refine vc2 hF ?_;simp only[go_sem];refine vc2 hI ?_;simp only[go_sem,h2,h3',Zi];refine ZL 6 24 45 0 7 73 [] rfl rfl rfl ?_;refine Zt (ι:= { x:Nat×(List Fd) // x.1<=(l).length/\(x.2++Zbd (l.drop x.1) f=Zbd l f) }) 66 (λx=> [(0,Zi l),(3,.ptr 3 0),(6,.sl (.row 45) (x.1.2.map fld)),(7,.int .i64 (x.1.1:Int))]) (λx=> [(3,Tu f,false)]) (λx=> [(45,.live (x.1.2.length) (7) (73))]) (λx=>(l).length-x.1.1) ⟨(0,[]),Ja _,rfl⟩ ⟨rfl,(Fc4 rfl rfl rfl rfl),(fcs ⟨rfl,rfl⟩ fnl),(fcs rfl fnl)⟩ (λx=>⟨(Fc4 rfl rfl (by simp[J2,ZG]) rfl),(fcs rfl fnl)⟩) (λx=> ?_);obtain⟨⟨k,acc⟩,hk,hI⟩:=x;simp only at hk hI ⊢;have hacc:acc.length<=l.length+1:=by rw[<-SP l f,<-hI,Jz];omega
 have hrm:=Yb (show acc.length+1<=1000000 by omega) (show 96<=1000 by omega);have second:∀(acc:List Fd) (k:Nat) (hk:k<=l.length),(acc++ [f])++l.drop k=Zbd l f->True:=λ_ _ _ _=>trivial
 by_cases h:(k:Int)<(l.length:Int)
 (have hka:k<(l).length:=by omega);(have w1:=Xb hka (hm));(have i1:=Jf k)
 have hL:=Zbx (l.getD k Jd).at' f.at';rw[Y0 hka (d:=Jd)]at hI;cases hb:WQ (l.getD k Jd).at' f.at';rw[hb]at hL;rw[ZqT hb]at hI;simp only[go_sem,Zi,Tu];refine vDq ?_;simp only[go_sem,h,i1,Zx hka,fld];refine vc1 hL ?_;simp only[go_sem,fld,YJ,hrm];refine ZL 6 51 62 (acc.length+1) 7 73 ((acc++ [f]).map fld) (by simp[upd,fld]) rfl rfl ?_;refine Zt (ι:=WB l f) 66 (λx=> [(0,Zi l),(6,.sl (.row 62) (x.acc.map fld)),(7,.int .i64 (x.k:Int))]) (λx=> []) (λx=> [(62,.live x.acc.length 7 73)]) (λx=>l.length-x.k) ⟨k,acc++ [f],hk,by rw[Y0 hka (d:=Jd),<-hI];simp⟩
  ⟨rfl,Fc3 rfl rfl rfl,fnl,fcs (by simp[upd,Hp.setq,St.with]) fnl⟩ (λx=>⟨Fc3 rfl (by simp[J2,ZG]) rfl,fnl⟩) (λx=> ?_)
 obtain⟨k2,acc2,hk2,hx2⟩:=x;simp only;have hacc2:acc2.length<=l.length+1:=by rw[<-SP l f,<-hx2,Jz];omega
 have hrm2:=Yb (show acc2.length+1<=1000000 by omega) (show 96<=1000 by omega);by_cases h':(k2:Int)<(l.length:Int);have hka2:k2<l.length:=by omega
 have w2:=Xb hka2 hm;have i2:=Jf k2
 rw[Y0 hka2 (d:=Jd)]at hx2;simp only[go_sem,Zi,h',i2,Zx hka2,fld,YJ,hrm2,w2];exact⟨⟨k2+1,acc2++ [l.getD k2 Jd],by omega,by rw[<-hx2];simp⟩,nx9 (by omega),⟨rfl,Fc3 rfl (by simp[upd,fld]) rfl,fnl,fcs (by simp[upd]) fnl⟩⟩;obtain rfl:k2=l.length:=by omega
 rw[JE,Jb]at hx2;subst hx2;simp only[go_sem,Zi,h',ZM]
 ·rw[hb]at hL;rw[ZqU hb]at hI;simp only[go_sem,Zi,Tu];refine vDq ?_;simp only[go_sem,h,i1,Zx hka,fld];refine vc1 hL ?_;simp only[go_sem,h,i1,Zx hka,fld,YJ,hrm,w1];exact⟨⟨(k+1,acc++ [l.getD k Jd]),by(try simp only);omega,by rw[<-hI];simp⟩,by show(l).length-(k+1)<(l).length-k;omega,⟨rfl,(Fc4 rfl rfl (by simp[upd,fld]) rfl),(fcs ⟨rfl,rfl⟩ fnl),(fcs (by simp[upd]) fnl)⟩⟩
 obtain rfl:k=l.length:=by omega
 simp only[go_sem,Zi,Tu];refine vDq ?_;simp only[go_sem,h,fld,YJ,hrm];refine ZL 6 51 62 (acc.length+1) 7 73 ((acc++ [f]).map fld) (by simp[upd,fld]) rfl rfl ?_;refine Zt (ι:=WB l f) 66 (λx=> [(0,Zi l),(6,.sl (.row 62) (x.acc.map fld)),(7,.int .i64 (x.k:Int))]) (λx=> []) (λx=> [(62,.live x.acc.length 7 73)]) (λx=>l.length-x.k) ⟨l.length,acc++ [f],hk,by rw[<-hI];simp[Zbd]⟩
   ⟨rfl,Fc3 rfl rfl rfl,fnl,fcs (by simp[upd,Hp.setq,St.with]) fnl⟩ (λx=>⟨Fc3 rfl (by simp[J2,ZG]) rfl,fnl⟩) (λx=> ?_)
 obtain⟨k2,acc2,hk2,hx2⟩:=x;simp only;have hacc2:acc2.length<=l.length+1:=by rw[<-SP l f,<-hx2,Jz];omega
 have hrm2:=Yb (show acc2.length+1<=1000000 by omega) (show 96<=1000 by omega);by_cases h':(k2:Int)<(l.length:Int);have hka2:k2<l.length:=by omega
 have w2:=Xb hka2 hm;have i2:=Jf k2
 rw[Y0 hka2 (d:=Jd)]at hx2;simp only[go_sem,Zi,h',i2,Zx hka2,fld,YJ,hrm2,w2];exact⟨⟨k2+1,acc2++ [l.getD k2 Jd],by omega,by rw[<-hx2];simp⟩,nx9 (by omega),⟨rfl,Fc3 rfl (by simp[upd,fld]) rfl,fnl,fcs (by simp[upd]) fnl⟩⟩;obtain rfl:k2=l.length:=by omega
 rw[JE,Jb]at hx2;subst hx2;simp only[go_sem,Zi,h',ZM]
theorem ZcV (l:List Fd) (r:Rf) (hl:OkFs l):Pp 176 [Zi l,ref r] (ZM (YE l r)):=by
 have hn:=hl.n;have hm:l.length<=maxLen:=by rw[Zb];omega
 have hR:=To l hm (λg hg=>by have:=hl.c g hg;rw[Zb];omega);have hI:Pp 175 [Zi l,ref r] (.int .i64 (idx (atF r) l)):=Fb l r hm;unfold YE;cases hr:Z2 l;rw[hr]at hR;refine ZA func176 rfl ntmps176 results176 (ZI _) ?_;simp only[go_sem,Zi,ref];refine vc2 hR ?_;simp only[go_sem,ZM,Zi,if_true];rw[hr]at hR;rcases Xy (atF r) l with h2|⟨g,hg,h2⟩;rw[h2]at hI ⊢;refine ZA func176 rfl ntmps176 results176 (ZI _) ?_;simp only[go_sem,Zi,ref];refine vc2 hR ?_;simp only[go_sem,Zi];refine vc2 hI ?_;simp only[go_sem,ZM,Zi];have i3:¬(g:Int)<0:=by omega
 have hrise:=(Ya.1 hr).2.1;have hgl:(l.getD g Jd).at'=r:=by
  rcases SE l r with ⟨e,_⟩|⟨i,hi,e,hat⟩;rw[e]at h2;omega;have:i=g:=by rw[e]at h2;omega
  subst this;rw[getD_lt hi];exact hat
 rw[h2]at hI;rw[h2,if_neg i3];simp only[Ji,if_false,JC];refine ZA func176 rfl ntmps176 results176 (ZI _) ?_;simp only[go_sem,Zi,ref];refine vc2 hR ?_;simp only[go_sem,Zi];refine vc2 hI ?_;simp only[go_sem,Zi,i3];refine ZL 6 15 35 0 7 73 [] rfl rfl rfl ?_;refine Zt (ι:= { x:Nat×(List Fd) // x.1<=(l).length/\(x.2=(l.take x.1).eraseIdx g) }) 37 (λx=> [(0,Zi l),(3,.ptr 3 0),(6,.sl (.row 35) (x.1.2.map fld)),(7,.int .i64 (x.1.1:Int))]) (λx=> [(3,[.int .i64 r.sc,.str r.gr,.str r.nm],false)]) (λx=> [(35,.live (x.1.2.length) (7) (73))]) (λx=>(l).length-x.1.1) ⟨(0,[]),Ja _,rfl⟩ ⟨rfl,(Fc4 rfl rfl rfl rfl),(fcs ⟨rfl,rfl⟩ fnl),(fcs rfl fnl)⟩ (λx=>⟨(Fc4 rfl rfl (by simp[J2,ZG]) rfl),(fcs rfl fnl)⟩) (λx=> ?_);obtain⟨⟨k,acc⟩,hk,hI⟩:=x;simp only at hk hI ⊢;have hacc:acc.length<=l.length:=by
  rw[hI];exact J8 (JP _ _) (WV _ _)
 by_cases h:(k:Int)<(l.length:Int)
 (have hka:k<(l).length:=by omega);(have w1:=Xb hka (hm));(have i1:=Jf k)
 have hrm:=Yb (show acc.length+1<=1000000 by omega) (show 96<=1000 by omega);have hs:=ZbP (l:=l) (k:=k) (g:=g) (d:=Jd) hka;by_cases he:k=g
 ·have hd:decide ((l.getD k Jd).at'=r)=true:=by rw[he,hgl];simp
  rw[if_pos he,Jb]at hs;simp only[go_sem,Zi,h];refine vDq ?_;simp only[go_sem,Zx hka,fld,i1,h,Zr,hd,w1];exact⟨⟨(k+1,acc),by(try simp only);omega,by simp only;rw[hs,hI]⟩,by show(l).length-(k+1)<(l).length-k;omega,⟨rfl,(Fc4 rfl rfl (by simp[upd,fld]) rfl),(fcs ⟨rfl,rfl⟩ fnl),(fcs (by simp[upd]) fnl)⟩⟩
 ·have hd:decide ((l.getD k Jd).at'=r)=false:=by
   rw[decide_eq_false_iff_not];intro e;have hkm:=Ze (d:=Jd) hka;have hgm:=Ze (d:=Jd) hg;have hp:=hrise;rw[ZkS,Je]at hp;rcases Nat.lt_or_gt_of_ne he with h'|h';have:=hp k g hka hg h';rw[<-getD_lt (d:=Jd) hka,<-getD_lt (d:=Jd) hg,e,hgl,Wo]at this;cases this;have:=hp g k hg hka h';rw[<-getD_lt (d:=Jd) hka,<-getD_lt (d:=Jd) hg,e,hgl,Wo]at this;cases this
  rw[if_neg he]at hs;simp only[go_sem,Zi,h];refine vDq ?_;simp only[go_sem,Zx hka,fld,i1,h,Zr,hd,YJ,hrm,w1];exact⟨⟨(k+1,acc++ [l.getD k Jd]),by(try simp only);omega,by simp only;rw[hs,hI]⟩,by show(l).length-(k+1)<(l).length-k;omega,⟨rfl,(Fc4 rfl rfl (by simp[upd,fld]) rfl),(fcs ⟨rfl,rfl⟩ fnl),(fcs (by simp[upd]) fnl)⟩⟩
 obtain rfl:k=l.length:=by omega
 rw[JS]at hI;subst hI;simp only[go_sem,h,Zi,ZM]
theorem Yc (l:List Fd) (f:Fd) (ok:Bool) (hl:OkFs l) (hf:f.cases'.length<=1000000):Pp 178 [Zi l,fld f,.bool ok] (YS (XC l f ok)):=by
 have hW:=Zjj l f hl hf;unfold XC;generalize Vm l f=y at *;obtain⟨m,c⟩:=y;cases ok;refine ZA func178 rfl ntmps178 results178 (YH _) ?_;simp only[go_sem,Zi,fld];refine vc2 hW ?_;simp only[go_sem,ZM,Zi,YS,Bool.false_and];by_cases hc:c=0;subst hc;refine ZA func178 rfl ntmps178 results178 (YH _) ?_;simp only[go_sem,Zi,fld];refine vc2 hW ?_;simp only[go_sem,ZM,Zi,YS,Bool.and_self];have e:(c==0)=false:=by simpa using hc
 refine ZA func178 rfl ntmps178 results178 (YH _) ?_;simp only[go_sem,Zi,fld];refine vc2 hW ?_;simp only[go_sem,ZM,Zi,YS,e,hc,Bool.and_false]
theorem SD (f:Fd) (r:Rf):Pp 179 [fld f,ref r] (fld (Zo f r)):=by
 refine ZA func179 rfl ntmps179 results179 (Zdb _) ?_;simp only[go_sem,fld,ref,Zo]
theorem UN (r:Rf) (s:Str):Pp 221 [ref r,.str s] (ref (Zh r s)):=by
 refine ZA func221 rfl ntmps221 results221 (ZdA _) ?_;simp only[go_sem,ref,Zh]
theorem Zbv (x:Ln):Pp 174 [lns x] (refs (Zy x)):=by
 have h1:=UN x.at' x.nm;have h2:=UN x.at' x.ot;refine ZA func174 rfl ntmps174 results174 (GG _) ?_;simp only[go_sem,lns];repeat' ((first|(first|apply Zw|apply Zu|apply ZF)<;>intro h|refine vc3 h1 ?_|refine vc3 h2 ?_|refine vDq ?_)<;>first|simp only[go_sem,h,ref]|simp only[go_sem,ref]|skip)
 all_goals (clear h1 h2;simp_all[Zy,refs,Zh,ref])
theorem FA (x:Ln):Pp 177 [lns x] (refs (Zc x)):=by
 have h1:=UN x.at' x.nm;have h2:=UN x.at' x.ot;refine ZA func177 rfl ntmps177 results177 (GG _) ?_;simp only[go_sem,lns];repeat' ((first|(first|apply Zw|apply Zu|apply ZF)<;>intro h|refine vc3 h1 ?_|refine vc3 h2 ?_|refine vDq ?_)<;>first|simp only[go_sem,h,ref]|simp only[go_sem,ref]|skip)
 all_goals (clear h1 h2;simp_all[Zc,refs,Zh,ref])
open Go.PL
end Go.Proofs.YtadgngamdofhiaaGreat
