/- Contracts of functions and laws of this seat, each for every input that it names: lemmas of the proof. -/
import Derived.Test.YthingdchjkhfbaaGreatXEd
import Derived.Test.YthingdchjkhfbaaGreatXDp
namespace Go.Proofs.YthingdchjkhfbaaGreat
set_option maxHeartbeats 64000000
set_option maxRecDepth 20000
set_option linter.unusedVariables false
set_option linter.unusedSimpArgs false
open Go.PL
theorem ZrJ {y k w:Int} (hk:1≤k) (h:y*k=w) (h1: -1099511627776≤w) (h2:w≤1099511627776): -1099511627776≤y∧y≤1099511627776:=by
 constructor
 ·refine Decidable.byContradiction fun hn=> ?_
  have:=Int.mul_le_mul_of_nonneg_left hk (show 0≤ -y by omega);rw[Int.mul_one,Int.neg_mul,h]at this;omega
 ·refine Decidable.byContradiction fun hn=> ?_
  have:=Int.mul_le_mul_of_nonneg_left hk (show 0≤y by omega);rw[h]at this;omega
theorem ZnQ {P:Opn→Bool} {h:Opn→Opn} {su sv:Sp} {f:Int} (ne:su≠sv):∀ {S:List Opn},(∀o∈S,spO o=su→P o=true∧(h o).delta=o.delta)→(∀o∈S,spO o=sv→P o=true∧(h o).delta=f*o.delta)→(∀o∈S,spO o≠su→spO o≠sv→P o=false)→
  Zl6 ((S.filter P).map h)=Zl6 (Zo S su)+f*Zl6 (Zo S sv)
 | [],_,_,_=>by simp[Zl6,Zo]
 |o::S,hu,hv,hn=>by
  have ih:=ZnQ ne (S:=S) (fun o ho=>hu o (by simp[ho])) (fun o ho=>hv o (by simp[ho])) (fun o ho=>hn o (by simp[ho]));unfold Zo at ih ⊢
  by_cases h1:spO o=su
  ·obtain⟨p1,p2⟩:=hu o (by simp) h1;rw[List.filter_cons_of_pos p1,List.filter_cons_of_pos (by simpa using h1),List.filter_cons_of_neg (by simpa using fun e=>ne (h1.symm.trans e)),List.map_cons,Zec,Zec,p2,ih];omega
  ·by_cases h2:spO o=sv
   ·obtain⟨p1,p2⟩:=hv o (by simp) h2;rw[List.filter_cons_of_pos p1,List.filter_cons_of_neg (by simpa using h1),List.filter_cons_of_pos (by simpa using h2),List.map_cons,Zec,Zec,p2,ih,Int.mul_add];omega
   ·rw[List.filter_cons_of_neg (by rw[hn o (by simp) h1 h2];simp),List.filter_cons_of_neg (by simpa using h1),List.filter_cons_of_neg (by simpa using h2)];exact ih
def Agr (l:List Fd) (sc:Int) (it:Str) (es:List En) (S:List Opn) (R:Rf→Bool):Prop:=∀g∈Zr l sc,g.kind=1∨R g.at'=true→ZeY es g.at'=some (Zdx g (Zo S ⟨it,g.at'⟩))
theorem Zcs (S:List Opn) (s:Sp):(Zo S s).length≤S.length:=List.length_filter_le _ _
theorem Zv9 {c:Str→Str} {l:List Str} (h:l.length≠0):(l.map c).getD ((l.map c).length-1) []=c (l.getD (l.length-1) []):=by
 rw[List.length_map,List.getD_eq_getElem?_getD,List.getD_eq_getElem?_getD,List.getElem?_map,List.getElem?_eq_getElem (show l.length-1<l.length by omega)];rfl
theorem ZwT {l m cs:List Fd} {x:Ln} {es:List En} {sc:Int} {it:Str} {S:List Opn} {R:Rf→Bool} {g:Fd} {i:Nat} (ha:Zq l x=(m,0)) (hS:∀o∈S,FitW l o) (hn:S.length≤1000) (hA:Agr l sc it es S R)
  (harr:Zbc l x=(cs,true)) (hi:i<cs.length) (hce:cs.getD i default=g) (hm:g∈m) (hpi:ZE (Zc x) g.at'=(i:Int)) (hsc:g.at'.sc=sc) (hR:g.kind=1∨(ZdX x g.at'=true∧ ∀s∈Ze2 x g.at',R s=true)):
  ZeZ x g (i:Int) es=(Zdx g (Zo (S.filterMap (ovO x)) ⟨it,g.at'⟩),0):=by
 obtain⟨hl,hx,cs',l1,e1,e2,e3⟩:=Zaa ha;rw[harr]at e1;cases e1;obtain⟨a1,a2,a3,a4,a5⟩:=ZdG hl e2;obtain⟨b1,b2,b3,b4,b5⟩:=Zbh a1 e3;have hrl:=(ZP.1 hl).2;have hfr:=(ZP.1 b1).2.2 _ hm;have hgd:=ZdJ hfr;have hpl:=Zd6 (ZT hx).1 harr;have hS':∀o∈S.filterMap (ovO x),FitW m o:=fun o ho=>by
  obtain⟨q,q1,q2⟩:=List.mem_filterMap.1 ho;exact ZgJ ha (hS q q1) (ZeM.1 q2)
 have hlen:(Zo (S.filterMap (ovO x)) ⟨it,g.at'⟩).length≤1000:=Nat.le_trans (Zcs _ _) (Nat.le_trans (List.length_filterMap_le _ _) hn);have src:∀r,(Zy l r).2=0→r.sc=sc→((Zy l r).1.kind=1∨R r=true)→ZeY es r=some (Zdx (Zy l r).1 (Zo S ⟨it,r⟩)):=fun r h1 h2 h3=>by
  obtain⟨g1,g2⟩:=ZaA h1;have:=hA (Zy l r).1 (List.mem_filter.2 ⟨g1,by rw[g2];simp[h2]⟩) (by rw[g2];exact h3);rwa[g2]at this
 have hf:x.kind≠2→x.kind≠3→x.kind≠9→(Zy l x.at').2=0:=fun a b c=>by
  unfold Zbc at harr;simp only[if_neg a,if_neg b,if_neg c]at harr
  by_cases h:(Zy l x.at').2=0
  ·exact h
  ·rw[if_pos h]at harr;simp at harr
 have hci:(Zc x).getD i default=g.at':=by
  rw[←hpl,List.getD_eq_getElem?_getD,List.getElem?_map,List.getElem?_eq_getElem hi];rw[getD_lt hi]at hce;simp[hce]
 have hcn:Zc x≠ []:=fun h=>by rw[←hpl]at h;have:=congrArg List.length h;simp at this;subst this;simp at hi
 have hsrc:i=0→Ze2 x g.at'=Zl x:=fun h0=>by
  unfold Ze2;rw[if_neg (by rw[hx];simp),if_neg (by omega),if_neg (by rw[hpi,h0];rintro ⟨_,h⟩;simp at h)]
 have hco:=(ZT hx).1;have nil:Zo (S.filterMap (ovO x)) ⟨it,g.at'⟩= []→ZeZ x g (i:Int) es=(ZQ g,0)→ZeZ x g (i:Int) es=(Zdx g (Zo (S.filterMap (ovO x)) ⟨it,g.at'⟩),0):=fun h1 h2=>by rw[h1,h2,Zxc]
 have one:∀c:Fd,cs= [c]→i=0∧c=g:=fun c hc=>by
  subst hc;have:i=0:=by simpa using hi
  subst this;exact⟨rfl,hce⟩
 have mv:x.kind=1∨x.kind=4∨x.kind=5→i=0→g.at'.sc=x.at'.sc→g.kind=(Zy l x.at').1.kind→g.df=(Zy l x.at').1.df→ZeZ x g (i:Int) es=(Zdx g (Zo (S.filterMap (ovO x)) ⟨it,g.at'⟩),0):=fun hk h0 hs gk gdf=>by
  have hf0:=hf (by omega) (by omega) (by omega);have hg:Zl x= [x.at']:=by unfold Zl;rw[if_neg (by omega),if_neg (by omega),if_neg (by omega)]
  obtain⟨g1,g2⟩:=ZaA hf0;have h1:=src x.at' hf0 (by rw[←hs];exact hsc) (by
   rcases hR with h|⟨_,h⟩
   ·exact .inl (gk▸h)
   ·exact .inr (h _ (by rw[hsrc h0,hg];simp)))
  have hb:∀o,(Zh x o)=(o,true):=fun o=>by unfold Zh;rw[if_pos hk]
  have ht:=Zhc (it:=it) ha hS (c:=g.at') (by rw[←hci,h0]) hcn hgd hg (by rw[←g2];exact ZdJ (hrl.2 _ g1)) (fun o _ _ _=>by rw[hb o]);rw[ht];simp only[hb];unfold ZeZ;rw[if_neg (by omega),hg];simp only[List.getD_cons_zero,h1];rw[if_neg (by omega)];unfold ZdT;rw[if_neg (by omega),if_neg (by omega),if_neg (by omega),if_neg (by omega),if_neg (by omega)];generalize Zo S ⟨it,x.at'⟩=T;congr 1;unfold Zdx;rw[ZmO (g:=fun o=>Zj o g.at') (fun o _=>⟨rfl,rfl⟩),ZhX (g:=fun o=>Zj o g.at') (fun o _=>⟨rfl,rfl,rfl⟩)];simp only[ZQ,gk,gdf];split<;>rfl
 clear e2 e3 a5 b5;obtain⟨kind,at',nm,ot,fac,fd,fo,ba⟩:=x;simp only at hco mv hf;rcases hco with rfl|rfl|rfl|rfl|rfl|rfl|rfl|rfl|rfl|rfl
 ·have hf0:=hf (by decide) (by decide) (by decide);simp[Zbc,Zc,hf0]at harr;obtain⟨i0,hcg⟩:=one _ harr.symm;subst hcg;exact mv (by omega) i0 rfl rfl rfl
 ·simp[Zbc]at harr;obtain⟨i0,hcg⟩:=one _ harr.symm;refine nil ?_ (by unfold ZeZ;rw[if_pos (.inl rfl)]);rw[ZmL (it:=it) ha hS (c:=g.at') (by rw[←hci,i0]) hcn hgd,List.filter_eq_nil_iff.2,List.map_nil];intro o ho h;simp[Zl]at h
 ·simp[Zbc]at harr;have:=harr.1;subst this;simp at hi
 ·have hf0:=hf (by decide) (by decide) (by decide);simp[Zbc,Zc,hf0]at harr;obtain⟨i0,hcg⟩:=one _ harr.symm;subst hcg;exact mv (by omega) i0 rfl rfl rfl
 ·have hf0:=hf (by decide) (by decide) (by decide);simp[Zbc,Zc,hf0]at harr;obtain⟨i0,hcg⟩:=one _ harr.symm;subst hcg;exact mv (by omega) i0 rfl rfl rfl
 ·have hf0:=hf (by decide) (by decide) (by decide);simp[Zbc,hf0]at harr;obtain⟨hc,gk⟩:=harr;have hg:Zl ⟨6,at',nm,ot,fac,fd,fo,ba⟩= [at']:=by simp[Zl]
  have hcm:Zc ⟨6,at',nm,ot,fac,fd,fo,ba⟩= [Zv at' nm,Zv at' ot]:=by simp[Zc]
  by_cases h0:i=0
  ·subst h0;have hge:g.at'=Zv at' nm∧g.kind=1:=by rw[←hce,←hc];exact⟨rfl,rfl⟩
   obtain⟨g1,g2⟩:=ZaA hf0;have h1:=src at' hf0 (by rw[←hsc,hge.1];rfl) (.inl gk);have hsm:=ZiG (it:=it) hl hS g1 gk;rw[g2]at hsm;have ht:=Zhc (it:=it) ha hS (c:=g.at') (by rw[←hci]) hcn hgd hg (by rw[←g2];exact ZdJ (hrl.2 _ g1)) (fun o ho hp hat=>by
    obtain⟨f,f1,f2,_⟩:=(hS o ho).f hp;have:o.kind=3:=f2.2 (by rw[hat]at f1;have:=congrArg Prod.fst f1;simp only at this;rw[←this];exact gk);simp[Zh,this])
   have hb:∀o,(Zh ⟨6,at',nm,ot,fac,fd,fo,ba⟩ o).1=o:=fun o=>by simp[Zh]
   rw[ht];simp only[hb];unfold ZeZ;rw[if_neg (by simp),hg];simp only[List.getD_cons_zero,h1];rw[if_neg (by omega)];unfold ZdT;rw[if_pos rfl];generalize Zo S ⟨it,at'⟩=T;congr 1;unfold Zdx;rw[ZmO (g:=fun o=>Zj o g.at') (fun o _=>⟨rfl,rfl⟩)];simp only[gk,hge.2,if_true]
  ·refine nil ?_ (by unfold ZeZ;rw[if_pos (.inr ⟨rfl,by omega⟩)]);have hne:(Zc ⟨6,at',nm,ot,fac,fd,fo,ba⟩).getD 0 default≠g.at':=fun e=>by
    have hnd:=b4;rw[hpl,hcm]at hnd;have hi2:i=1:=by rw[←hc]at hi;simp at hi;omega
    rw[hi2]at hci;rw[hcm]at hci e;simp only[List.getD_cons_zero,List.getD_cons_succ]at hci e;rw[←hci]at e;simp[e]at hnd
   unfold Zo;rw[List.filter_eq_nil_iff];intro y hy hd;have hd:=of_decide_eq_true hd;have hya:y.at'=g.at':=congrArg Sp.at' hd;obtain⟨o,o1,o2⟩:=List.mem_filterMap.1 hy;rcases Zc5 (ZeM.1 o2)with ⟨rfl,hq⟩|⟨_,_,_,_,rfl⟩
   ·cases hpo:Zs y
    ·exact hgd (by rw[←hya];exact(hS _ o1).z hpo)
    ·refine ZqQ ha (Zma (hS _ o1) hpo) (hq hpo) ?_;rw[hya,←hci];exact Zg (by rw[←hpl,List.length_map];exact hi)
   ·exact hne hya
 ·have hf0:=hf (by decide) (by decide) (by decide);simp[Zbc,hf0]at harr;obtain⟨i0,hcg⟩:=one _ harr.1.symm;subst hcg;exfalso;rcases hR with h|⟨h,_⟩
  ·simp at h
  ·simp[ZdX,hx,Zc]at h
 ·have hf0:=hf (by decide) (by decide) (by decide);simp[Zbc,hf0]at harr;obtain⟨hc,gk⟩:=harr;obtain⟨i0,hcg⟩:=one _ hc.symm;have hg:Zl ⟨8,at',nm,ot,fac,fd,fo,ba⟩= [at']:=by simp[Zl]
  obtain⟨g1,g2⟩:=ZaA hf0;have hgv:g.at'=at'∧g.kind=3∧g.df=ot:=by rw[←hcg];exact⟨rfl,rfl,rfl⟩
  have h1:=src at' hf0 (by rw[←hsc,hgv.1]) (by
   rcases hR with h|⟨_,h⟩
   ·rw[hgv.2.1]at h;cases h
   ·exact .inr (h _ (by rw[hsrc i0,hg];simp)))
  have hfk:(Zy l at').1.kind=3∧(Zy l at').1.df=nm∧(Zy l at').1.cases'=Zbi fo:=by rw[gk];exact⟨rfl,rfl,rfl⟩
  have hwr:=ZiH (it:=it) hl hS g1 (by rw[hfk.1];decide);rw[g2]at hwr;have htab:=Zrf hx;have conv:∀o,o.kind=4→(o.has=true→Zbg (Zy l at').1 o.text=true)→(ZcP o fo).2=true∧(o.has=true→(ZcP o fo).1=(Zai fo o.text).1):=fun o k4 hh=>by
   unfold ZcP;rw[if_neg (by omega)];cases h:o.has
   ·rw[if_pos rfl];exact⟨rfl,fun h=>by cases h⟩
   ·rw[if_neg (by simp)];have hft:=hh h;have hfr:ZcZ fo o.text=true:=by
     rw[←Zfj];simp only[Zbg,Bool.and_eq_true]at hft;have:=hft.2;rw[hfk.1,hfk.2.2]at this;simpa using this
    exact⟨(ZjZ htab.1 hfr).2,fun _=>rfl⟩
  have ht:=Zhc (it:=it) ha hS (c:=g.at') (by rw[←hci,i0]) hcn hgd hg (by rw[←g2];exact ZdJ (hrl.2 _ g1)) (fun o ho hp hat=>by
   have ho':o∈Zo S ⟨o.item,at'⟩:=List.mem_filter.2 ⟨ho,by simp[spO,hat]⟩;have hwr:=ZiH (it:=o.item) hl hS g1 (by rw[hfk.1];decide);rw[g2]at hwr;obtain⟨_,q2,q3⟩:=hwr o ho';simp[Zh,(conv o q2 q3).1])
  have hb:∀o,(Zh ⟨8,at',nm,ot,fac,fd,fo,ba⟩ o).1=ZZ o (ZcP o fo).1:=fun o=>by simp[Zh]
  rw[ht];simp only[hb];unfold ZeZ;rw[if_neg (by simp),hg];simp only[List.getD_cons_zero,h1];rw[if_neg (by omega)];unfold ZdT;rw[if_neg (by simp),if_neg (by simp),if_neg (by simp),if_pos rfl];generalize Zo S ⟨it,at'⟩=T at *;congr 1;have htx:Zac (T.map fun o=>Zj (ZZ o (ZcP o fo).1) g.at')=(Zac T).map fun s=>(Zai fo s).1:=ZhW fun o ho=>⟨rfl,rfl,fun h=>by
   simp only[Bool.and_eq_true]at h;obtain⟨_,q2,q3⟩:=hwr o ho;exact(conv o q2 q3).2 h.2⟩
  unfold Zdx;rw[htx];simp only[hgv.2.1,hfk.1,List.length_map];simp only[show ¬(3:Int)=1 by decide,show ¬(3:Int)=4 by decide,if_false];have hvg:(ZQ g).l= [ot]:=by simp[ZQ,hgv.2.1,hgv.2.2]
  have hvf:(ZQ (Zy l at').1).l= [nm]:=by simp[ZQ,hfk.1,hfk.2.1]
  by_cases hz:(Zac T).length=0
  ·rw[if_pos hz,if_pos hz,hvg,hvf];simp[htab.2]
  ·rw[if_neg hz,if_neg hz];have:=Zv9 (c:=fun s=>(Zai fo s).1) hz;rw[List.length_map]at this;rw[this];simp
 ·simp only[Zbc,Int.reduceEq,if_false,if_true,Zco]at harr;split at harr
  ·simp at harr
  split at harr
  ·simp at harr
  rename_i u1 u2;simp only[not_or,Decidable.not_not]at u1 u2;simp only[Prod.mk.injEq,and_true]at harr;obtain⟨q1,q2⟩:=u1;obtain⟨q3,q4,q5⟩:=u2;obtain⟨i0,hcg⟩:=one _ harr.symm;have hg:Zl ⟨9,at',nm,ot,fac,fd,fo,ba⟩= [Zv at' nm,Zv at' ot]:=by simp[Zl]
  have hgv:g.at'=at'∧g.kind=1:=by rw[←hcg];exact⟨rfl,rfl⟩
  have h1:=src (Zv at' nm) q1 (by rw[←hsc,hgv.1];rfl) (.inl q2);have h2:=src (Zv at' ot) q3 (by rw[←hsc,hgv.1];rfl) (.inl q4);obtain⟨u1,u2⟩:=ZaA q1;obtain⟨v1,v2⟩:=ZaA q3;have smu:=ZiG (it:=it) hl hS u1 q2;have smv:=ZiG (it:=it) hl hS v1 q4;rw[u2]at smu;rw[v2]at smv;have smg:=ZiG (it:=it) b1 hS' hm hgv.2;have hne:Zv at' nm≠Zv at' ot:=fun e=>by
   have:=a4;rw[hg]at this;simp[e]at this
  have hfac:2≤fac∧fac≤1000:=by
   have hxx:=hx;unfold Zu at hxx;simp[-Bool.not_eq_eq_eq_not]at hxx;omega
  have huw:0<(Zy l (Zv at' nm)).1.worth∧(Zy l (Zv at' nm)).1.worth<1048577:=by
   have:=hrl.2 _ u1;simp only[ZO,q2,if_true,Bool.and_eq_true,decide_eq_true_eq]at this;exact this.2.2.2
  have hvw:(Zy l (Zv at' ot)).1.worth=(Zy l (Zv at' nm)).1.worth*fac:=by
   rw[q5];refine ZfG ?_;have p1:(Zy l (Zv at' nm)).1.worth*fac≤1048577*fac:=Int.mul_le_mul_of_nonneg_right (by omega) (by omega);have p2:0*fac≤(Zy l (Zv at' nm)).1.worth*fac:=Int.mul_le_mul_of_nonneg_right (by omega) (by omega);omega
  have atu:∀o∈S,spO o=⟨it,Zv at' nm⟩→Zs o=true∧o.kind=3∧o.at'=Zv at' nm:=fun o ho h=>by
   have hat:o.at'=Zv at' nm:=congrArg Sp.at' h;exact⟨by have:=(smu o (List.mem_filter.2 ⟨ho,by simpa using h⟩)).1;simp[Zs,this],(smu o (List.mem_filter.2 ⟨ho,by simpa using h⟩)).1,hat⟩
  have atv:∀o∈S,spO o=⟨it,Zv at' ot⟩→Zs o=true∧o.kind=3∧o.at'=Zv at' ot∧Zfo 0 o.delta fac=(fac*o.delta,0)∧ZaU o.delta=true:=fun o ho h=>by
   have hat:o.at'=Zv at' ot:=congrArg Sp.at' h;obtain⟨k3,d1,d2⟩:=smv o (List.mem_filter.2 ⟨ho,by simpa using h⟩);have hfd:ZaU o.delta=true:=Zab.2 (by unfold Lim;omega);obtain⟨w,hw⟩:=(hS o ho).w k3;obtain⟨_,⟨f,f1,f2,f3,f4,f5⟩,w1,w2⟩:=hw;have hfe:f=(Zy l (Zv at' ot)).1:=by rw[←hat,f1]
   rw[hfe,hvw,Int.mul_comm (Zy l (Zv at' nm)).1.worth,←Int.mul_assoc]at f5;obtain⟨y1,y2⟩:=ZrJ (y:=o.delta*fac) (by omega) f5 w1 w2;have hm:=(Zmo (u:=0) hfac (by unfold Lim;omega) (Zab.1 hfd)).2.2;rw[if_pos ⟨Zab.2 (by unfold Lim;omega),Zab.2 (by unfold Lim;omega)⟩]at hm;unfold Zin at hm;rw[if_pos ⟨by decide,hfd⟩]at hm;have hj:Zfo 0 o.delta fac=(fac*o.delta,0):=by
    split at hm
    ·rename_i hz;refine Prod.ext ?_ hz;have:=congrArg Prod.fst hm;simp only at this;rw[this,Int.mul_comm];omega
    ·simp at hm
   exact⟨by simp[Zs,k3],k3,hat,hj,hfd⟩
  have pu:ZE [Zv at' nm,Zv at' ot] (Zv at' nm)=0:=Zdt _ _;have pv:ZE [Zv at' nm,Zv at' ot] (Zv at' ot)=1:=Zsi (i:=1) (by simpa using hne) (by simp) rfl;have hbu:∀o∈S,spO o=⟨it,Zv at' nm⟩→Zh ⟨9,at',nm,ot,fac,fd,fo,ba⟩ o=(ZK o o.delta,true):=fun o ho h=>by
   obtain⟨_,k3,hat⟩:=atu o ho h;simp[Zh,hg,hat,pu,ZcD,k3]
  have hbv:∀o∈S,spO o=⟨it,Zv at' ot⟩→Zh ⟨9,at',nm,ot,fac,fd,fo,ba⟩ o=(ZK o (fac*o.delta),true):=fun o ho h=>by
   obtain⟨_,k3,hat,hj,hfd⟩:=atv o ho h;simp[Zh,hg,hat,pv,ZcD,k3,hfd,hj]
  have ht:=ZmL (it:=it) ha hS (c:=g.at') (by rw[←hci,i0]) hcn hgd;have hsum:=ZnQ (P:=fun o=>Zs o&&(decide (o.item=it)&&(decide (o.at'∈Zl ⟨9,at',nm,ot,fac,fd,fo,ba⟩)&&(Zh ⟨9,at',nm,ot,fac,fd,fo,ba⟩ o).2))) (h:=fun o=>Zj (Zh ⟨9,at',nm,ot,fac,fd,fo,ba⟩ o).1 g.at') (su:=⟨it,Zv at' nm⟩) (sv:=⟨it,Zv at' ot⟩) (f:=fac) (by simpa using hne) (S:=S)
   (fun o ho h=>by
    have hi:o.item=it:=congrArg Sp.item h;obtain⟨p1,p2,p3⟩:=atu o ho h;rw[hbu o ho h];exact⟨by simp[p1,hi,p3,hg],rfl⟩)
   (fun o ho h=>by
    have hi:o.item=it:=congrArg Sp.item h;obtain⟨p1,p2,p3,_⟩:=atv o ho h;rw[hbv o ho h];exact⟨by simp[p1,hi,p3,hg],rfl⟩)
   (fun o ho n1 n2=>by
    rw[Bool.eq_false_iff];intro h;simp only[Bool.and_eq_true,decide_eq_true_eq,hg,List.mem_cons,List.not_mem_nil,or_false]at h;obtain⟨_,h2,h3,_⟩:=h;rcases h3 with h3|h3
    ·exact n1 (by simp[spO,h2,h3])
    ·exact n2 (by simp[spO,h2,h3]))
  rw[←ht]at hsum;have tu:=Zp7 smu (Nat.le_trans (Zcs _ _) hn);have tv:=Zp7 smv (Nat.le_trans (Zcs _ _) hn);have tg:=Zp7 smg hlen;have lu:=Zqw smu (Nat.le_trans (Zcs _ _) hn);have lv:=Zqw smv (Nat.le_trans (Zcs _ _) hn);have bu:=Ziv smu;have bg:=Ziv smg;have nu:(Zo S ⟨it,Zv at' nm⟩).length≤1000:=Nat.le_trans (Zcs _ _) hn;unfold ZeZ;rw[if_neg (by simp),hg];simp only[List.getD_cons_zero,List.getD_cons_succ,h1,h2,if_true];have hvu:(Zdx (Zy l (Zv at' nm)).1 (Zo S ⟨it,Zv at' nm⟩)).n=Zl6 (Zo S ⟨it,Zv at' nm⟩):=by unfold Zdx;rw[if_pos q2];exact tu
  have hvv:(Zdx (Zy l (Zv at' ot)).1 (Zo S ⟨it,Zv at' ot⟩)).n=Zl6 (Zo S ⟨it,Zv at' ot⟩):=by unfold Zdx;rw[if_pos q4];exact tv
  have hvg:Zdx g (Zo (S.filterMap (ovO ⟨9,at',nm,ot,fac,fd,fo,ba⟩)) ⟨it,g.at'⟩)=⟨g.at',Zl6 (Zo (S.filterMap (ovO ⟨9,at',nm,ot,fac,fd,fo,ba⟩)) ⟨it,g.at'⟩),(ZQ g).l⟩:=by unfold Zdx;rw[if_pos hgv.2,tg]
  rw[hvu,hvv,hvg];generalize Zl6 (Zo S ⟨it,Zv at' nm⟩)=A at *;generalize Zl6 (Zo S ⟨it,Zv at' ot⟩)=B at *;generalize Zo (S.filterMap (ovO ⟨9,at',nm,ot,fac,fd,fo,ba⟩)) ⟨it,g.at'⟩=G at *;have hm:=(Zmo hfac lu lv).2.2;have c1:B*fac=fac*B:=Int.mul_comm _ _;rw[if_pos ⟨Zab.2 (by unfold Lim;omega),Zab.2 (by unfold Lim;omega)⟩]at hm;rw[hm];simp only[if_true];rw[hsum,c1]
 ·have hf0:=hf (by decide) (by decide) (by decide);simp[Zbc,hf0]at harr;obtain⟨hc,gk⟩:=harr;obtain⟨i0,hcg⟩:=one _ hc.symm;have hg:Zl ⟨10,at',nm,ot,fac,fd,fo,ba⟩= [at']:=by simp[Zl]
  obtain⟨g1,g2⟩:=ZaA hf0;have hgv:g.at'=at'∧g.kind=2∧g.df=ot:=by rw[←hcg];exact⟨rfl,rfl,rfl⟩
  have h1:=src at' hf0 (by rw[←hsc,hgv.1]) (by
   rcases hR with h|⟨_,h⟩
   ·rw[hgv.2.1]at h;cases h
   ·exact .inr (h _ (by rw[hsrc i0,hg];simp)))
  have ht:=Zhc (it:=it) ha hS (c:=g.at') (by rw[←hci,i0]) hcn hgd hg (by rw[←g2];exact ZdJ (hrl.2 _ g1)) (fun o ho hp hat=>by
   have ho':o∈Zo S ⟨o.item,at'⟩:=List.mem_filter.2 ⟨ho,by simp[spO,hat]⟩;have hwr:=ZiH (it:=o.item) hl hS g1 (by rw[gk];decide);rw[g2]at hwr;simp[Zh,(hwr o ho').2.1])
  have hb:∀o,(Zh ⟨10,at',nm,ot,fac,fd,fo,ba⟩ o).1=o:=fun o=>by simp[Zh]
  rw[ht];simp only[hb];unfold ZeZ;rw[if_neg (by simp),hg];simp only[List.getD_cons_zero,h1];rw[if_neg (by omega)];unfold ZdT;rw[if_neg (by simp),if_neg (by simp),if_pos rfl];generalize Zo S ⟨it,at'⟩=T at *;congr 1;unfold Zdx;rw[ZhX (g:=fun o=>Zj o g.at') (fun o _=>⟨rfl,rfl,rfl⟩)];simp only[hgv.2.1,gk];simp only[show ¬(2:Int)=1 by decide,show ¬(4:Int)=1 by decide,show ¬(2:Int)=4 by decide,if_false,if_true]
  by_cases hz:(Zac T).length=0
  ·rw[if_pos hz,if_neg (by omega)]
  ·rw[if_neg hz,if_pos (by omega)]
open Go.PL
theorem Zre {l m:List Fd} {x:Ln} {es:List En} {sc:Int} {it:Str} {S:List Opn} {R:Rf→Bool} {g:Fd} (ha:Zq l x=(m,0)) (hS:∀o∈S,FitW l o) (hn:S.length≤1000) (hA:Agr l sc it es S R)
  (hg:g∈Zr m sc) (hR:g.kind=1∨(ZdX x g.at'&&(Ze2 x g.at').all R)=true):Zhk x es g=(Zdx g (Zo (S.filterMap (ovO x)) ⟨it,g.at'⟩),0):=by
 obtain⟨hgm,hgs⟩:=Zms hg;have hR':g.kind=1∨(ZdX x g.at'=true∧ ∀s∈Ze2 x g.at',R s=true):=by
  rcases hR with h|h
  ·exact .inl h
  ·simp only[Bool.and_eq_true,List.all_eq_true]at h;exact .inr h
 have hx:=(Zaa ha).2.1;unfold Zhk;rcases ZBK ha hgm with ⟨h1,h2⟩|⟨i,h1,h2,cs,h3,h4,h5⟩
 ·rw[if_pos h1,(ZsE ha hS hgm h1).2];have:=hA g (Ziz h2 hgs) (by
   rcases hR' with h|⟨_,h⟩
   ·exact .inl h
   ·refine .inr (h _ ?_);unfold Ze2;rw[if_neg (by rw[hx];simp),if_pos h1];simp)
  rw[this]
 ·rw[if_neg (by omega),h1];exact ZwT ha hS hn hA h3 h4 h5 hgm h1 hgs hR'
theorem ZuQ {l m:List Fd} {x:Ln} {es:List En} {sc:Int} {it:Str} {S:List Opn} {R:Rf→Bool} (ha:Zq l x=(m,0)) (he:Z8 (Zr l sc) es=true) (hS:∀o∈S,FitW l o) (hn:S.length≤1000) (hA:Agr l sc it es S R) {g:Fd} (hg:g∈Zr m sc):(Zhk x es g).2=0:=by
 by_cases k1:g.kind=1
 ·rw[Zre ha hS hn hA hg (.inl k1)]
 ·have ok:=(Zuk ha he hg).1;unfold ZxQ at ok;unfold Zhk
  by_cases hp:ZE (Zc x) g.at'<0
  ·rw[if_pos hp]at ok ⊢;obtain⟨e,h⟩:=ok;rw[h]
  ·rw[if_neg hp]at ok ⊢;obtain⟨h3,hi,q1,q2,_,_⟩:=ok;unfold ZeZ
   by_cases h2:x.kind=2∨(x.kind=6∧0<ZE (Zc x) g.at')
   ·rw[if_pos h2]
   ·rw[if_neg h2];obtain⟨e,he,_⟩:=q1 (fun h=>h2 (.inl h));rw[he];simp only
    by_cases h9:x.kind=9
    ·exfalso;rcases ZBK ha (Zms hg).1 with ⟨h1,_⟩|⟨i,h1,_,cs,c3,c4,c5⟩
     ·exact hp h1
     ·simp only[Zbc,h9,Int.reduceEq,if_false,if_true,Zco]at c3;split at c3
      ·simp at c3
      split at c3
      ·simp at c3
      simp only[Prod.mk.injEq,and_true]at c3;subst c3;have:i=0:=by simpa using c4
      subst this;exact k1 (by rw[←c5];rfl)
    ·rw[if_neg h9]
theorem ZwV {l m:List Fd} {x:Ln} {es:List En} {sc:Int} {it:Str} {S:List Opn} {R:Rf→Bool} (ha:Zq l x=(m,0)) (he:Z8 (Zr l sc) es=true) (hS:∀o∈S,FitW l o) (hn:S.length≤1000) (hA:Agr l sc it es S R):
  (ZaH x (Zr m sc) es).2=0∧Agr m sc it (ZaH x (Zr m sc) es).1 (S.filterMap (ovO x)) (fun r=>ZdX x r&&(Ze2 x r).all R):=by
 have hz:(Zr m sc).find? (ZbV x es)=none:=by
  rw[List.find?_eq_none];intro g hg;unfold ZbV;rw[ZuQ ha he hS hn hA hg];simp
 have h0:(ZaH x (Zr m sc) es).2=0:=by unfold ZaH;rw[hz]
 refine⟨h0,fun g hg hR=> ?_⟩;rw[(ZzJ ha he h0 hg).1,Zre ha hS hn hA hg hR]
def ZxB (xs:List Ln) (S:List Opn):List Opn:=S.filterMap fun o=>if(ZB xs o).2=true then some (ZB xs o).1 else none
theorem ZwJ (S:List Opn):ZxB [] S=S:=by
 unfold ZxB;simp[ZB]
theorem Zuz (x:Ln) (xs:List Ln) (S:List Opn):ZxB (x::xs) S=ZxB xs (S.filterMap (ovO x)):=by
 unfold ZxB;rw[List.filterMap_filterMap];congr 1;funext o;rw[Zah];unfold ovO;cases h:(ZaE x o).2
 ·simp
 ·simp
def Zkm (R:Rf→Bool):List Ln→Rf→Bool
 | [],r=>R r
 |x::v,r=>ZdX x r&&(Ze2 x r).all (Zkm R v)
theorem ZcJ (R:Rf→Bool) (v:List Ln):∀(u:List Ln),Zkm R (u++v)=Zkm (Zkm R v) u
 | []=>rfl
 |x::u=>by
  funext r;show(ZdX x r&&(Ze2 x r).all (Zkm R (u++v)))=_;rw[ZcJ R v u];rfl
theorem Zda:∀(u:List Ln),Zkm (fun _=>true) u=Zf6 u
 | []=>rfl
 |x::u=>by
  funext r;show(ZdX x r&&(Ze2 x r).all (Zkm (fun _=>true) u))=_;rw[Zda u];rfl
theorem Zt6 (sc:Int) (it:Str):∀(xs:List Ln) {l m:List Fd} {es:List En} {S:List Opn} {R:Rf→Bool},Zce xs l=some m→Z8 (Zr l sc) es=true→(∀o∈S,FitW l o)→S.length≤1000→Agr l sc it es S R→
  (ZhR sc xs l es).2=0∧Agr m sc it (ZhR sc xs l es).1 (ZxB xs S) (Zkm R xs.reverse)
 | [],l,m,es,S,R,hf,he,hS,hn,hA=>by
  simp only[Zce,Option.some.injEq]at hf;subst hf;rw[ZwJ];exact⟨rfl,hA⟩
 |x::xs,l,m,es,S,R,hf,he,hS,hn,hA=>by
  unfold Zce at hf;split at hf
  ·cases hf
  ·rename_i ha;have ha':Zq l x=((Zq l x).1,0):=Prod.ext rfl (Classical.not_not.1 ha);obtain⟨h0,h1⟩:=ZwV ha' he hS hn hA;have hS':∀o∈S.filterMap (ovO x),FitW (Zq l x).1 o:=fun o ho=>by
    obtain⟨q,q1,q2⟩:=List.mem_filterMap.1 ho;exact ZgJ ha' (hS q q1) (ZeM.1 q2)
   rw[Zc6,if_neg (fun h=>h h0),Zuz,List.reverse_cons,ZcJ];exact Zt6 sc it xs hf (Zg0 ha' he h0) hS' (Nat.le_trans (List.length_filterMap_le _ _) hn) h1
theorem Zu8 (f:Fd) (T:List Opn):(Zdx f T).at'=f.at':=by unfold Zdx;split<;>rfl
theorem Zph {F:List Fd} {S:List Opn} {sc:Int} {it:Str} (hl:ZW F=true) {g:Fd} (hg:g∈Zr F sc):ZeY (Za6 F S sc it) g.at'=some (Zdx g (Zo S ⟨it,g.at'⟩)):=by
 have hu:=Zsp hl sc;unfold ZeY Za6;generalize Zr F sc=L at *;rw[List.find?_map];cases h:L.find? (ZtV g.at'∘fun f=>Zdx f (Zo S ⟨it,f.at'⟩))with
 |none=>
  rw[List.find?_eq_none]at h;exact absurd (by simp[ZtV,Zu8]) (h g hg)
 |some f=>
  have h1:=List.find?_some h;have h2:=List.mem_of_find?_eq_some h;simp only[Function.comp_apply,ZtV,Zu8,decide_eq_true_eq]at h1;rw[hu f h2 g hg h1];rfl
theorem Zv1 {F:List Fd} {S:List Opn} {sc:Int} {it:Str} (hl:ZW F=true):Agr F sc it (Za6 F S sc it) S (fun _=>true):=fun g hg _=>Zph hl hg
theorem ZsD {T:List Opn} {s:Str} (h:s∈Zac T):∃o∈T,o.kind=4∧o.has=true∧o.text=s:=by
 unfold Zac at h;obtain⟨o,h1,h2⟩:=List.mem_map.1 h;rw[List.mem_filter]at h1;simp only[Bool.and_eq_true,beq_iff_eq]at h1;exact⟨o,h1.1,h1.2.1,h1.2.2,h2⟩
theorem ZtH {f:Fd} (hr:ZO f=true) (k1:f.kind≠1) (k4:f.kind≠4):Zbg f f.df=true:=by
 have:=Zf2 hr;obtain⟨_,_,_,h⟩:=ZkZ this k1;exact h f.df (by simp[ZQ,k1,k4])
theorem Zu9 {F:List Fd} {S:List Opn} {it:Str} {f:Fd} (hl:ZW F=true) (hS:∀o∈S,FitW F o) (hn:S.length≤400) (hf:f∈F):Zbm f (Zdx f (Zo S ⟨it,f.at'⟩))=true:=by
 have hr:=(ZP.1 hl).2.2 f hf;unfold Zdx
 by_cases k1:f.kind=1
 ·rw[if_pos k1];have:=ZzI hr k1 (n:=Zp6 (Zo S ⟨it,f.at'⟩)) (ZiI _ Zzb);have e:(ZQ f).l= []:=by simp[ZQ,k1]
  rw[e];exact this
 ·rw[if_neg k1];have hw:=ZiH (it:=it) hl hS hf k1;have ht:∀s∈Zac (Zo S ⟨it,f.at'⟩),Zbg f s=true:=fun s hs=>by
   obtain⟨o,h1,_,h3,h4⟩:=ZsD hs;rw[←h4];exact(hw o h1).2.2 h3
  have hlen:=Zf1 (Zo S ⟨it,f.at'⟩);have hl2:=Zcs S ⟨it,f.at'⟩;refine Zya hr k1 ?_ ?_
  ·by_cases k4:f.kind=4
   ·rw[if_pos k4,if_pos k4];omega
   ·rw[if_neg k4,if_neg k4];split
    ·simp[ZQ,k1,k4]
    ·rfl
  ·by_cases k4:f.kind=4
   ·rw[if_pos k4];exact ht
   ·rw[if_neg k4];split
    ·intro s hs;simp[ZQ,k1,k4]at hs;subst hs;exact ZtH hr k1 k4
    ·intro s hs;rw[List.mem_singleton]at hs;subst hs;exact ht _ (Zg (by omega))
theorem ZhC {F:List Fd} {S:List Opn} {sc:Int} {it:Str} (hl:ZW F=true) (hS:∀o∈S,FitW F o) (hn:S.length≤400):Z8 (Zr F sc) (Za6 F S sc it)=true:=by
 unfold Z8 Za6;simp only[List.length_map,decide_true,Bool.true_and,List.all_eq_true,List.mem_range];intro i hi;have:((Zr F sc).map fun f=>Zdx f (Zo S ⟨it,f.at'⟩)).getD i default=Zdx ((Zr F sc).getD i default) (Zo S ⟨it,((Zr F sc).getD i default).at'⟩):=by
  rw[getD_lt (by simpa using hi),getD_lt hi,List.getElem_map]
 rw[this];exact Zu9 hl hS hn (Zms (Zg hi)).1
end Go.Proofs.YthingdchjkhfbaaGreat
