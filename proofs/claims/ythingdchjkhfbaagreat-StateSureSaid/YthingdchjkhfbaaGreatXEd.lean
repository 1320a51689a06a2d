/- Contracts of functions and laws of this seat, each for every input that it names: lemmas of the proof. -/
import Derived.Test.YthingdchjkhfbaaGreatXDa
import Derived.Test.YthingdchjkhfbaaGreatXCh
import Derived.Test.YthingdchjkhfbaaGreatXDp
import Derived.Test.YthingdchjkhfbaaGreatXDi
namespace Go.Proofs.YthingdchjkhfbaaGreat
set_option maxHeartbeats 64000000
set_option maxRecDepth 20000
set_option linter.unusedVariables false
set_option linter.unusedSimpArgs false
open Go.PL
theorem ZqQ {l m:List Fd} {x:Ln} {r:Rf} (ha:Zq l x=(m,0)) (hon:On l r) (hn:r∉Zl x):r∉Zc x:=fun hc=>by
 obtain⟨hl,hx,cs,l1,e1,e2,e3⟩:=Zaa ha;obtain⟨a1,a2,a3,a4,a5⟩:=ZdG hl e2;obtain⟨b1,b2,b3,b4,b5⟩:=Zbh a1 e3;obtain⟨f,hfm,hfr⟩:=hon;rw[←Zd6 (ZT hx).1 e1]at hc;obtain⟨c,hc1,hc2⟩:=List.mem_map.1 hc;exact(b3 c hc1).2 f ((a2 f).2 ⟨hfm,by rw[hfr];exact hn⟩) (by rw[hfr,hc2])
theorem Zov (y:Ln) (v:List Ln) (p:Rf):Zf6 (y::v) p=(ZdX y p&&(Ze2 y p).all (Zf6 v)):=rfl
structure FitW (l:List Fd) (o:Opn):Prop where
 f:Zs o=true→ ∃f,Zy l o.at'=(f,0)∧(o.kind=3↔f.kind=1)∧(o.kind=4→o.has=true→Zbg f o.text=true)
 z:Zs o=false→o.at'=default
 w:o.kind=3→ ∃w,Worth l o w
theorem Zjh {f g:Fd} {s:Str} (h:Zbg f s=true) (hk:g.kind=f.kind) (hc:g.cases'=f.cases') (hr:ZO g=true):Zbg g s=true:=by
 simp only[Zbg,Bool.and_eq_true]at h ⊢;rw[hk,hc,hr];exact⟨⟨rfl,h.1.2⟩,h.2⟩
theorem ZkY {f g:Fd} {s:Str} (h:Zbg f s=true) (f1:f.kind≠1) (f3:f.kind≠3) (g1:g.kind≠1) (g3:g.kind≠3) (hf:ZO f=true) (hr:ZO g=true):Zbg g s=true:=
 (Zcm hr g1 g3).2 ((Zcm hf f1 f3).1 h)
theorem Zrf {at' nm ot fac fd fo ba} (hx:Zu ⟨8,at',nm,ot,fac,fd,fo,ba⟩=true):Za9 fo ba=true∧Zai fo nm=(ot,true):=by
 unfold Zu at hx;simp only[show ¬((8:Int)=2∨(8:Int)=3)by omega,if_false,if_true,Bool.and_eq_true]at hx;exact⟨hx.2.2.1,Prod.ext (by simpa using hx.2.2.2.2.2.2.1) hx.2.2.2.2.1⟩
theorem ZgJ {l m:List Fd} {x:Ln} {o p:Opn} (ha:Zq l x=(m,0)) (hf:FitW l o) (ho:ZaE x o=(p,true)):FitW m p:=by
 obtain⟨hl,hx,cs,l1,e1,e2,e3⟩:=Zaa ha;obtain⟨a1,a2,a3,a4,a5⟩:=ZdG hl e2;obtain⟨b1,b2,b3,b4,b5⟩:=Zbh a1 e3;have hids:=ZiD ho;have hw:p.kind=3→ ∃w,Worth m p w:=fun k3=>by
  obtain⟨w,h⟩:=hf.w (by rw[←hids.2.2];exact k3);exact⟨w,h.over ha ho⟩
 cases hp:Zs o
 ·rw[ZhQ hx hp]at ho;cases ho;exact⟨(fun h=>by rw[hp]at h;cases h),hf.z,hw⟩
 ·obtain⟨f,hfe,h3,h4⟩:=hf.f hp;have pk:=ZdK hp;have hpp:Zs p=true:=by simp only[Zs,hids.2.2];exact hp
  refine⟨fun _=> ?_,(fun h=>by rw[hpp]at h;cases h),hw⟩;have hkd:=(ZT hx).1;have hm:=(ZP.1 b1).2;have hfl:=ZaA (l:=l) (r:=o.at') (by rw[hfe]);rw[hfe]at hfl;simp only at hfl;obtain⟨fm,fa⟩:=hfl;have hfr:=(ZP.1 hl).2.2 f fm;have coming:∀g∈cs,Zy m g.at'=(g,0):=fun g hg=>ZaD hm.1 ((b2 g).2 (.inr hg))
  rw[Za0 hx hp]at ho
  by_cases hg:ZE (Zl x) o.at'<0
  ·rw[if_pos hg]at ho;cases ho;have hf1:f∈l1:=(a2 f).2 ⟨fm,by rw[fa];exact ZaR hg⟩;have hfm:=ZaD hm.1 ((b2 f).2 (.inl hf1));rw[fa]at hfm;exact⟨f,hfm,h3,h4⟩
  ·rw[if_neg hg]at ho;have cm:∀(g:Fd) (q:Opn),g∈cs→q=p→q.at'=g.at'→(q.kind=3↔g.kind=1)→(q.kind=4→q.has=true→ZO g=true→Zbg g q.text=true)→ ∃f,Zy m p.at'=(f,0)∧(p.kind=3↔f.kind=1)∧(p.kind=4→p.has=true→Zbg f p.text=true):=fun g q hg e1 e2 e3 e4=>by
    subst e1;exact⟨g,by rw[e2];exact coming g hg,e3,fun a b=>e4 a b (b3 g hg).1⟩
   clear b4 b5 a3 a4 a5 coming;obtain⟨kind,at',nm,ot,fac,fd,fo,ba⟩:=x;simp only at hkd;rcases hkd with rfl|rfl|rfl|rfl|rfl|rfl|rfl|rfl|rfl|rfl
   ·have hat:at'=o.at':=Z2 (by simpa[Zl]using hg);subst hat;simp[Zbc,Zc,hfe]at e1;simp[Zh,Zc]at ho;exact cm ⟨Zv o.at' nm,f.kind,f.df,f.cases',f.worth⟩ _ (by rw[←e1];simp) ho rfl h3 (fun k4 hh hr=>Zjh (h4 k4 hh) rfl rfl hr)
   ·exact absurd (show ZE (Zl ⟨2,at',nm,ot,fac,fd,fo,ba⟩) o.at'<0 from(by decide:(-1:Int)<0)) hg
   ·simp[Zh]at ho
   ·have hat:at'=o.at':=Z2 (by simpa[Zl]using hg);subst hat;simp[Zbc,Zc,hfe]at e1;simp[Zh,Zc]at ho;exact cm ⟨⟨o.at'.sc,[],o.at'.nm⟩,f.kind,f.df,f.cases',f.worth⟩ _ (by rw[←e1];simp) ho rfl h3 (fun k4 hh hr=>Zjh (h4 k4 hh) rfl rfl hr)
   ·have hat:at'=o.at':=Z2 (by simpa[Zl]using hg);subst hat;simp[Zbc,Zc,hfe]at e1;simp[Zh,Zc]at ho;exact cm ⟨⟨o.at'.sc,nm,o.at'.nm⟩,f.kind,f.df,f.cases',f.worth⟩ _ (by rw[←e1];simp) ho rfl h3 (fun k4 hh hr=>Zjh (h4 k4 hh) rfl rfl hr)
   ·have hat:at'=o.at':=Z2 (by simpa[Zl]using hg);subst hat;simp[Zbc,hfe]at e1;have k3:=h3.2 e1.2;simp[Zh,Zc,k3]at ho;exact cm ⟨Zv o.at' nm,1,[],[],f.worth⟩ _ (by rw[←e1.1];simp) ho rfl (by simp[Zj,k3]) (fun h=>by simp[Zj,k3]at h)
   ·have hat:at'=o.at':=Z2 (by simpa[Zl]using hg);subst hat;simp[Zbc,hfe]at e1;have k4:o.kind=4:=by
     rcases pk with h|h
     ·have:=h3.1 h;omega
     ·exact h
    simp[Zh,Zc,k4]at ho;exact cm ⟨o.at',4,[],[],0⟩ _ (by rw[←e1.1];simp) ho rfl (by simp[Zj,k4]) (fun _ hh hr=>ZkY (h4 k4 hh) (by omega) (by omega) (by simp) (by simp) hfr hr)
   ·have hat:at'=o.at':=Z2 (by simpa[Zl]using hg);subst hat;simp[Zbc,hfe]at e1;have k4:o.kind=4:=by
     rcases pk with h|h
     ·have:=h3.1 h;rw[e1.2]at this;simp at this
     ·exact h
    have hg8:(⟨o.at',3,ot,Zbi ba,0⟩:Fd)∈cs:=by rw[←e1.1];simp
    cases hh:o.has
    ·have hcv:ZcP o fo=(o.text,true):=by unfold ZcP;rw[if_neg (by omega),if_pos hh]
     simp[Zh,Zc,hcv]at ho;exact cm _ _ hg8 ho rfl (by simp[Zj,ZZ,k4]) (fun _ h=>by simp[Zj,ZZ,hh]at h)
    ·have hcv:ZcP o fo=Zai fo o.text:=by unfold ZcP;rw[if_neg (by omega),if_neg (by rw[hh];simp)]
     have hft:=h4 k4 hh;have hfr:ZcZ fo o.text=true:=by
      rw[←Zfj];simp only[Zbg,Bool.and_eq_true]at hft;have:=hft.2;rw[e1.2]at this;simpa using this
     obtain⟨t1,t2⟩:=ZjZ (Zrf hx).1 hfr;simp[Zh,Zc,hcv,t2]at ho;refine cm _ _ hg8 ho rfl (by simp[Zj,ZZ,k4]) (fun _ _ hr=> ?_);rw[←Zfj]at t1;simp only[Zbg,hr,Zj,ZZ];simpa using t1
   ·simp[Zbc,Zco]at e1;have hgo:Zl ⟨9,at',nm,ot,fac,fd,fo,ba⟩= [Zv at' nm,Zv at' ot]:=by simp[Zl]
    split at e1
    ·simp at e1
    split at e1
    ·simp at e1
    ·rename_i u1 u2;simp only[not_or,Decidable.not_not]at u1 u2;simp only[Prod.mk.injEq,and_true]at e1;split at ho
     ·simp at ho
     ·rename_i hb;have k3:o.kind=3:=by
       rcases pk with h|h
       ·exact h
       ·simp[Zh,ZcD,h]at hb
      simp only[Prod.mk.injEq,and_true]at ho;exact cm ⟨at',1,[],[],(Zy l (Zv at' nm)).1.worth⟩ _ (by rw[←e1];simp) ho (by simp[Zc,Zj]) (by simp[Zj,Zh,ZK,k3]) (fun h=>by simp[Zj,Zh,ZK,k3]at h)
   ·have hat:at'=o.at':=Z2 (by simpa[Zl]using hg);subst hat;simp[Zbc,hfe]at e1;have k4:o.kind=4:=by
     rcases pk with h|h
     ·have:=h3.1 h;omega
     ·exact h
    simp[Zh,Zc,k4]at ho;exact cm ⟨o.at',2,ot,[],0⟩ _ (by rw[←e1.1];simp) ho rfl (by simp[Zj,k4]) (fun _ hh hr=>ZkY (h4 k4 hh) (by omega) (by omega) (by simp) (by simp) hfr hr)
theorem Zwv {o:Opn} (h:ZcV o=true) (hp:Zs o=false):o.at'=default:=by
 simp only[ZcV,Bool.and_eq_true,Bool.not_eq_true',Bool.or_eq_false_iff,Bool.not_eq_false']at h;have h1:=h.1.1;have h2:=of_decide_eq_true h.1.2;rw[h2];simp only[Zs,Bool.or_eq_false_iff,beq_eq_false_iff_ne]at hp;unfold ZeL;split
 ·rfl
 split
 ·rfl
 split
 ·rename_i h;exact absurd h hp.1
 split
 ·rename_i h;exact absurd h hp.2
 split
 ·rfl
 ·rfl
theorem ZtG {l:List Fd} {o:Opn} (hl:ZW l=true) (h:ZgK l o=true):FitW l o:=by
 refine⟨fun hp=> ?_,fun hp=>Zwv (Zjg h) hp,fun k3=>Worth.start h hl k3⟩;obtain⟨f0,f1,f2,f3⟩:=Zgg h hp;have hfe:Zy l o.at'=((Zy l o.at').1,0):=Prod.ext rfl f0;exact⟨_,hfe,⟨f1,fun hk=>ZnA h hp hfe hk⟩,fun k4 hh=>f2 (by omega) hh⟩
theorem ZbD:∀(xs:List Ln) {l m:List Fd} {o p:Opn},Zce xs l=some m→FitW l o→ZB xs o=(p,true)→FitW m p
 | [],l,m,o,p,hf,h,ho=>by
  simp only[Zce,Option.some.injEq]at hf;simp only[ZB,Prod.mk.injEq,and_true]at ho;subst hf ho;exact h
 |x::xs,l,m,o,p,hf,h,ho=>by
  unfold Zce at hf;split at hf
  ·cases hf
  ·rename_i ha;rw[Zah]at ho;split at ho
   ·simp at ho
   ·rename_i hq;exact ZbD xs hf (ZgJ (m:=(Zq l x).1) (Prod.ext rfl (Classical.not_not.1 ha)) h (Prod.ext rfl (by simpa using hq))) ho
theorem Zxm {l:List Fd} {o:Opn} (h:FitW l o) (hp:Zs o=true):Zzq l o:=by
 obtain⟨f,h1,h2,h3⟩:=h.f hp;refine⟨f,h1,hp,h2,fun hh hk=> ?_⟩;have k4:o.kind=4:=by
  rcases ZdK hp with h|h
  ·have:=h2.1 h;omega
  ·exact h
 have:=h3 k4 hh;simp only[Zbg,hk,if_true,Bool.and_eq_true]at this;exact this.2
open Go.PL
def Zl6 (l:List Opn):Int:=(l.map Opn.delta).sum
def Sm (l:List Opn):Prop:=∀o∈l,o.kind=3∧ -1099511627776≤o.delta∧o.delta≤1099511627776
theorem Zec (o:Opn) (l:List Opn):Zl6 (o::l)=o.delta+Zl6 l:=by simp[Zl6]
theorem ZxE:∀(l:List Opn) (s:Int) (n:Nat),Sm l→n+l.length≤1000→ -1099511627776*(n:Int)≤s→s≤1099511627776*(n:Int)→l.foldl ZdW s=s+Zl6 l
 | [],s,n,_,_,_,_=>by simp[Zl6]
 |o::l,s,n,h,hn,h1,h2=>by
  obtain⟨k,d1,d2⟩:=h o (by simp);have hn':n+1+l.length≤1000:=by simp at hn;omega
  have e:ZdW s o=s+o.delta:=by
   unfold ZdW;rw[if_pos ⟨k,Zab.2 (by unfold Lim;omega),Zab.2 (by unfold Lim;omega)⟩]
  rw[List.foldl_cons,e,ZxE l (s+o.delta) (n+1) (fun x hx=>h x (by simp[hx])) hn' (by omega) (by omega),Zec];omega
theorem Zp7 {l:List Opn} (h:Sm l) (hn:l.length≤1000):Zp6 l=Zl6 l:=by
 unfold Zp6;rw[ZxE l 0 0 h (by omega) (by omega) (by omega)];omega
theorem Ziv:∀ {l:List Opn},Sm l→ -1099511627776*(l.length:Int)≤Zl6 l∧Zl6 l≤1099511627776*(l.length:Int)
 | [],_=>by simp[Zl6]
 |o::l,h=>by
  obtain⟨_,d1,d2⟩:=h o (by simp);have:=Ziv (l:=l) (fun x hx=>h x (by simp[hx]));rw[Zec,List.length_cons];omega
theorem Zqw {l:List Opn} (h:Sm l) (hn:l.length≤1000):Lim (Zl6 l):=by
 have:=Ziv h;unfold Lim;omega
theorem ZnE {g:Opn→Opn}:∀(l:List Opn) (s:Int),(∀o∈l,(g o).kind=o.kind∧(g o).delta=o.delta)→(l.map g).foldl ZdW s=l.foldl ZdW s
 | [],_,_=>rfl
 |o::l,s,h=>by
  have ho:=h o (by simp);rw[List.map_cons,List.foldl_cons,List.foldl_cons,show ZdW s (g o)=ZdW s o by unfold ZdW;rw[ho.1,ho.2]];exact ZnE l _ fun x hx=>h x (by simp[hx])
theorem ZmO {g:Opn→Opn} {l:List Opn} (h:∀o∈l,(g o).kind=o.kind∧(g o).delta=o.delta):Zp6 (l.map g)=Zp6 l:=ZnE l 0 h
theorem ZhW {g:Opn→Opn} {c:Str→Str}:∀ {l:List Opn},(∀o∈l,(g o).kind=o.kind∧(g o).has=o.has∧((o.kind==4&&o.has)=true→(g o).text=c o.text))→Zac (l.map g)=(Zac l).map c
 | [],_=>rfl
 |o::l,h=>by
  have ih:=ZhW (l:=l) fun x hx=>h x (by simp[hx])
  obtain⟨h1,h2,h3⟩:=h o (by simp);unfold Zac at ih ⊢;rw[List.map_cons];cases hk:(o.kind==4&&o.has)
  ·rw[List.filter_cons_of_neg (p:=fun o:Opn=>o.kind==4&&o.has) (by rw[h1,h2,hk];simp),List.filter_cons_of_neg (p:=fun o:Opn=>o.kind==4&&o.has) (by rw[hk];simp)];exact ih
  ·rw[List.filter_cons_of_pos (p:=fun o:Opn=>o.kind==4&&o.has) (by rw[h1,h2];exact hk),List.filter_cons_of_pos (p:=fun o:Opn=>o.kind==4&&o.has) hk,List.map_cons,List.map_cons,List.map_cons,h3 hk,ih]
theorem ZhX {g:Opn→Opn} {l:List Opn} (h:∀o∈l,(g o).kind=o.kind∧(g o).has=o.has∧(g o).text=o.text):Zac (l.map g)=Zac l:=by
 rw[ZhW (c:=id) fun o ho=>⟨(h o ho).1,(h o ho).2.1,fun _=>(h o ho).2.2⟩,List.map_id]
theorem Zxc (f:Fd):Zdx f []=ZQ f:=by
 unfold Zdx
 by_cases k1:f.kind=1
 ·rw[if_pos k1];simp[ZQ,k1,Zp6]
 ·rw[if_neg k1]
  by_cases k4:f.kind=4
  ·simp[k4,ZQ,Zac]
  ·simp[k4,ZQ,Zac]
theorem Zi0 (x:Ln) (o:Opn):(Zh x o).1.item=o.item:=by
 unfold Zh;repeat' split
 all_goals rfl
theorem Zc5 {x:Ln} {o p:Opn} (ho:ZaE x o=(p,true)):
  (p=o∧(Zs o=true→o.at'∉Zl x))∨(Zs o=true∧o.at'∈Zl x∧Zc x≠ []∧(Zh x o).2=true∧p=Zj (Zh x o).1 ((Zc x).getD 0 default)):=by
 cases hx:Zu x
 ·unfold ZaE at ho;rw[if_pos hx]at ho;simp at ho
 cases hp:Zs o
 ·rw[ZhQ hx hp]at ho;cases ho;exact .inl ⟨rfl,fun h=>by cases h⟩
 ·rw[Za0 hx hp]at ho;split at ho
  ·rename_i h;cases ho;exact .inl ⟨rfl,fun _=>ZaR h⟩
  ·rename_i h;split at ho
   ·simp at ho
   ·rename_i hb;simp only[Prod.mk.injEq,and_true]at ho;obtain⟨g,_,g2,g3⟩:=ZbY h;have hb':(Zh x o).2=true:=by simpa using hb
    refine .inr ⟨rfl,by rw[←g3];exact Zg g2,fun hc=> ?_,hb',ho.symm⟩;have hk:=(ZT hx).1;obtain⟨kind,at',nm,ot,fac,fd,fo,ba⟩:=x;simp only at hk;rcases hk with rfl|rfl|rfl|rfl|rfl|rfl|rfl|rfl|rfl|rfl
    all_goals simp[Zc]at hc
    all_goals simp[Zh]at hb'
def ovO (x:Ln) (o:Opn):Option Opn:=if(ZaE x o).2=true then some (ZaE x o).1 else none
theorem ZeM {x:Ln} {o p:Opn}:ovO x o=some p↔ZaE x o=(p,true):=by
 unfold ovO;constructor
 ·intro h;split at h
  ·rename_i h2;simp only[Option.some.injEq]at h;exact Prod.ext h h2
  ·cases h
 ·intro h;rw[h];rfl
theorem ZlJ {S:List Opn} {F:Opn→Option Opn} {s:Sp} (p:Opn→Bool) (g:Opn→Opn)
  (h1:∀o∈S,p o=true→F o=some (g o)∧spO (g o)=s) (h2:∀o∈S,p o=false→ ∀y,F o=some y→spO y≠s):
  Zo (S.filterMap F) s=(S.filter p).map g:=by
 unfold Zo
 induction S with
 |nil=>rfl
 |cons o S ih=>
  have ih:=ih (fun o h=>h1 o (by simp[h])) (fun o h=>h2 o (by simp[h]));cases hp:p o
  ·rw[List.filter_cons_of_neg (by rw[hp];simp)];cases hF:F o with
   |none=>rw[List.filterMap_cons_none hF];exact ih
   |some y=>
    rw[List.filterMap_cons_some hF,List.filter_cons_of_neg (by simpa using h2 o (by simp) hp y hF)];exact ih
  ·obtain⟨q1,q2⟩:=h1 o (by simp) hp;rw[List.filter_cons_of_pos (by exact hp),List.filterMap_cons_some q1,List.filter_cons_of_pos (by simpa using q2),List.map_cons,ih]
theorem ZdJ {f:Fd} (h:ZO f=true):f.at'≠default:=fun e=>by
 simp only[ZO,Bool.and_eq_true]at h;have:=h.1;rw[e]at this;exact absurd this (by decide)
theorem Zma {l:List Fd} {o:Opn} (h:FitW l o) (hp:Zs o=true):On l o.at':=by
 obtain⟨f,h1,_⟩:=h.f hp;have:=ZaA (l:=l) (r:=o.at') (by rw[h1]);exact⟨_,this.1,this.2⟩
theorem ZsE {l m:List Fd} {x:Ln} {S:List Opn} {it:Str} (ha:Zq l x=(m,0)) (hS:∀o∈S,FitW l o) {g:Fd} (hg:g∈m) (hp:ZE (Zc x) g.at'<0):g∈l∧Zo (S.filterMap (ovO x)) ⟨it,g.at'⟩=Zo S ⟨it,g.at'⟩:=by
 obtain⟨hl,hx,cs,l1,e1,e2,e3⟩:=Zaa ha;obtain⟨a1,a2,a3,a4,a5⟩:=ZdG hl e2;obtain⟨b1,b2,b3,b4,b5⟩:=Zbh a1 e3;have hpl:=Zd6 (ZT hx).1 e1;have hg1:g∈l1:=by
  rcases(b2 g).1 hg with h|h
  ·exact h
  ·exact absurd (by rw[←hpl];exact List.mem_map.2 ⟨g,h,rfl⟩) (ZaR hp)
 obtain⟨hgl,hgo⟩:=(a2 g).1 hg1;refine⟨hgl,?_⟩;rw[ZlJ (fun o=>decide (spO o=⟨it,g.at'⟩)) id,List.map_id]
 ·rfl
 ·intro o ho hd;have hd:=of_decide_eq_true hd;have hat:o.at'=g.at':=congrArg Sp.at' hd;refine⟨?_,hd⟩;rw[ZeM];cases hpo:Zs o
  ·exact ZhQ hx hpo
  ·rw[Za0 hx hpo,if_pos (by rw[Zei (by rw[hat];exact hgo)];omega)];rfl
 ·intro o ho hd y hy hs;have hd:=of_decide_eq_false hd;rcases Zc5 (ZeM.1 hy)with ⟨rfl,_⟩|⟨_,_,hc,_,rfl⟩
  ·exact hd hs
  ·have:(Zc x).getD 0 default=g.at':=congrArg Sp.at' hs;refine ZaR hp ?_;rw[←this];exact Zg (by cases h:Zc x with|nil=>exact absurd h hc|cons a t=>simp)
theorem ZmL {l m:List Fd} {x:Ln} {S:List Opn} {it:Str} (ha:Zq l x=(m,0)) (hS:∀o∈S,FitW l o) {c:Rf} (hc:(Zc x).getD 0 default=c) (hc0:Zc x≠ []) (hcd:c≠default):
  Zo (S.filterMap (ovO x)) ⟨it,c⟩=(S.filter fun o=>Zs o&&(decide (o.item=it)&&(decide (o.at'∈Zl x)&&(Zh x o).2))).map fun o=>Zj (Zh x o).1 c:=by
 have hx:=(Zaa ha).2.1;refine ZlJ _ _ ?_ ?_
 ·intro o ho hp;simp only[Bool.and_eq_true,decide_eq_true_eq]at hp;obtain⟨h1,h2,h3,h4⟩:=hp;refine⟨?_,by simp only[spO,Zj,Zi0,h2]⟩;rw[ZeM,Za0 hx h1,if_neg,if_neg (by rw[h4];simp),hc];intro h;exact ZaR h h3
 ·intro o ho hp y hy hs;have hsi:y.item=it:=congrArg Sp.item hs;have hsa:y.at'=c:=congrArg Sp.at' hs;rcases Zc5 (ZeM.1 hy)with ⟨rfl,hn⟩|⟨q1,q2,q3,q4,rfl⟩
  ·cases hpo:Zs y
   ·exact hcd (by rw[←hsa];exact(hS _ ho).z hpo)
   ·refine ZqQ ha (Zma (hS _ ho) hpo) (hn hpo) ?_;rw[hsa,←hc];exact Zg (by cases h:Zc x with|nil=>exact absurd h hc0|cons a t=>simp)
  ·have:o.item=it:=by rw[←hsi];simp only[Zj,Zi0]
   rw[q1,q4,decide_eq_true q2,decide_eq_true this]at hp;cases hp
theorem Zhc {l m:List Fd} {x:Ln} {S:List Opn} {it:Str} (ha:Zq l x=(m,0)) (hS:∀o∈S,FitW l o) {c a:Rf} (hc:(Zc x).getD 0 default=c) (hc0:Zc x≠ []) (hcd:c≠default) (hg:Zl x= [a]) (had:a≠default)
  (hb:∀o∈S,Zs o=true→o.at'=a→(Zh x o).2=true):Zo (S.filterMap (ovO x)) ⟨it,c⟩=(Zo S ⟨it,a⟩).map fun o=>Zj (Zh x o).1 c:=by
 rw[ZmL ha hS hc hc0 hcd];congr 1;unfold Zo;apply List.filter_congr;intro o ho;rw[Bool.eq_iff_iff];simp only[Bool.and_eq_true,decide_eq_true_eq,hg,List.mem_singleton,spO,Sp.mk.injEq];constructor
 ·rintro ⟨_,h2,h3,_⟩;exact⟨h2,h3⟩
 ·rintro ⟨h2,h3⟩
  have hp:Zs o=true:=by
   cases h:Zs o
   ·exact absurd (h3▸(hS o ho).z h) had
   ·rfl
  exact⟨hp,h2,h3,hb o ho hp h3⟩
theorem ZoA {S:List Opn} {s:Sp} {o:Opn} (h:o∈Zo S s):o∈S∧spO o=s:=by
 unfold Zo at h;rw[List.mem_filter]at h;exact⟨h.1,of_decide_eq_true h.2⟩
theorem ZiG {l:List Fd} {S:List Opn} {it:Str} (hl:ZW l=true) (hS:∀o∈S,FitW l o) {f:Fd} (hf:f∈l) (k1:f.kind=1):Sm (Zo S ⟨it,f.at'⟩):=fun o ho=>by
 obtain⟨h1,h2⟩:=ZoA ho;have hat:o.at'=f.at':=congrArg Sp.at' h2;have hr:=(ZP.1 hl).2;have hp:Zs o=true:=by
  cases h:Zs o
  ·exact absurd (hat▸(hS o h1).z h) (ZdJ (hr.2 f hf))
  ·rfl
 obtain⟨g,g1,g2,_⟩:=(hS o h1).f hp;rw[hat,ZaD hr.1 hf]at g1;cases g1;have k3:=g2.2 k1;obtain⟨w,hw⟩:=(hS o h1).w k3;exact⟨k3,hw.delta⟩
theorem ZiH {l:List Fd} {S:List Opn} {it:Str} (hl:ZW l=true) (hS:∀o∈S,FitW l o) {f:Fd} (hf:f∈l) (k1:f.kind≠1):∀o∈Zo S ⟨it,f.at'⟩,Zs o=true∧o.kind=4∧(o.has=true→Zbg f o.text=true):=fun o ho=>by
 obtain⟨h1,h2⟩:=ZoA ho;have hat:o.at'=f.at':=congrArg Sp.at' h2;have hr:=(ZP.1 hl).2;have hp:Zs o=true:=by
  cases h:Zs o
  ·exact absurd (hat▸(hS o h1).z h) (ZdJ (hr.2 f hf))
  ·rfl
 obtain⟨g,g1,g2,g3⟩:=(hS o h1).f hp;rw[hat,ZaD hr.1 hf]at g1;cases g1;have k4:o.kind=4:=by
  rcases ZdK hp with h|h
  ·exact absurd (g2.1 h) k1
  ·exact h
 exact⟨hp,k4,g3 k4⟩
end Go.Proofs.YthingdchjkhfbaaGreat
