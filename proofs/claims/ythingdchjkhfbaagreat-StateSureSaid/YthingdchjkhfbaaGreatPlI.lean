/- A logic of values for functions that only read and build, over the model (part 9): no statement of the seat is proved here. -/
import Derived.Test.YthingdchjkhfbaaGreatPlH
import Derived.Test.YthingdchjkhfbaaGreatPlA
namespace Go.PL
set_option maxHeartbeats 64000000
set_option maxRecDepth 20000
set_option linter.unusedVariables false
set_option linter.unusedSimpArgs false
open Go.RowKit
section
variable {P:Program} {s:St} {Q:Exit→St→Prop}
def mkStO (n:Nat) (L:List (Nat×PV)) (H:List (Nat×List PV×Bool)) (R:List (Nat×Row)) (O:List (Nat×MapC)) (I:List (Nat×IterC)):St:=
 { fr:=ZaN L fun _=> .any,m:= { h:=ZaN (H.map fun x=>(x.1,some x.2.1)) fun _=>none,z:=ZaN (H.map fun x=>(x.1,x.2.2)) fun _=>false,q:=ZaN (R.map fun x=>(x.1,some x.2)) fun _=>none,o:=ZaN (O.map fun x=>(x.1,some x.2)) fun _=>none,it:=ZaN (I.map fun x=>(x.1,some x.2)) fun _=>none,om:=fun _=>none,v:=fun _=>none,ph:=fun _=>none,pq:=fun _=>none,vm:=fun _=>false },n:=n }
structure HasO (n:Nat) (L:List (Nat×PV)) (H:List (Nat×List PV×Bool)) (R:List (Nat×Row)) (O:List (Nat×MapC)) (I:List (Nat×IterC)) (s:St):Prop where
 b:Has n L H R s
 o:∀x∈O,s.m.o x.1=some x.2
 it:∀x∈I,s.m.it x.1=some x.2
theorem ZfF {α:Type} (O:List (Nat×α)) (f:Nat→Option α) (h:∀x∈O,f x.1=some x.2) (i:Nat):ZaN (O.map fun x=>(x.1,some x.2)) (fun _=>none) i=none∨ZaN (O.map fun x=>(x.1,some x.2)) (fun _=>none) i=f i:=by
 have m1:(O.map fun x=>(x.1,some x.2)).map (·.1)=O.map (·.1):=by simp
 by_cases hi:(O.map (·.1)).contains i=true
 ·right;refine Z9 (R:=fun i v=>v=f i) (fun x hx=> ?_) (by rw[m1];exact hi);obtain⟨y,hy,rfl⟩:=List.mem_map.1 hx;exact(h y hy).symm
 ·exact .inl (ZbT (by rw[m1];simpa using hi))
theorem HasO.weak {n:Nat} {L:List (Nat×PV)} {H:List (Nat×List PV×Bool)} {R:List (Nat×Row)} {O:List (Nat×MapC)} {I:List (Nat×IterC)} (h:HasO n L H R O I s):Weak (mkStO n L H R O I) s:=
 ⟨h.b.weak.n,h.b.weak.fr,h.b.weak.h,h.b.weak.q,ZfF O s.m.o h.o,ZfF I s.m.it h.it,fun _=> .inl rfl,fun _=> .inl rfl,fun _=> .inl rfl,fun _=> .inl rfl⟩
theorem Refs.mkStO {n:Nat} {L:List (Nat×PV)} {H:List (Nat×List PV×Bool)} {R:List (Nat×Row)} {O:List (Nat×MapC)} {I:List (Nat×IterC)} (h:Zko L H R):Refs (mkStO n L H R O I):=by
 have k:=Refs.mkSt (n:=n) h;have lv:∀r,ZS (PL.mkSt n L H R).m r→ZS (PL.mkStO n L H R O I).m r:=fun r hr=>by cases r<;>exact hr
 exact⟨fun i r hr=>lv r (k.fr i r hr),fun i cs hi c hc r hr=>lv r (k.h i cs hi c hc r hr),fun i es hi=>(by cases hi),fun b c hc=>(by cases hc)⟩
def ZxP {ι:Type} (n:Nat) (L:ι→List (Nat×PV)) (H:ι→List (Nat×List PV×Bool)) (R:ι→List (Nat×Row)) (O:ι→List (Nat×MapC)) (I:ι→List (Nat×IterC)) (μ:ι→Nat) (i:ι) (s':St):Prop:=∃j,μ j<μ i∧HasO n (L j) (H j) (R j) (O j) (I j) s'
def Zzt {ι:Type} (n:Nat) (L:ι→List (Nat×PV)) (H:ι→List (Nat×List PV×Bool)) (R:ι→List (Nat×Row)) (O:ι→List (Nat×MapC)) (I:ι→List (Nat×IterC)) (s':St):Prop:=∃j,HasO n (L j) (H j) (R j) (O j) (I j) s'
theorem ZxG {c:Code} {ι:Type} (n:Nat) (L:ι→List (Nat×PV)) (H:ι→List (Nat×List PV×Bool)) (R:ι→List (Nat×Row)) (O:ι→List (Nat×MapC)) (I:ι→List (Nat×IterC)) (μ:ι→Nat) (i0:ι)
  (h0:HasO n (L i0) (H i0) (R i0) (O i0) (I i0) s) (hr:∀i,Zko (L i) (H i) (R i))
  (round:∀i,@vC P ⟨c⟩ ⟨ZcU (ZxP n L H R O I μ i) Q⟩ (mkStO n (L i) (H i) (R i) (O i) (I i))):awp P (.loop c) Q s:=
 Ze9 (fun i=>mkStO n (L i) (H i) (R i) (O i) (I i)) μ i0 h0.weak (fun _ i=>Refs.mkStO (hr i)) fun i=>ZaO (fun e s' h=>by
  cases e with
  |normal=>obtain⟨j,hj,hm⟩:=h;exact⟨j,hj,hm.weak⟩
  |_=>exact h) (Z1 _ _ _ (round i))
theorem ZyS {c:Code} {ι:Type} (n:Nat) (L:ι→List (Nat×PV)) (H:ι→List (Nat×List PV×Bool)) (R:ι→List (Nat×Row)) (O:ι→List (Nat×MapC)) (I:ι→List (Nat×IterC)) (μ:ι→Nat) (l:Nat) (z:Code) (hf:findLabel c l=some (.seq .skip z)) (hr:∀i,Zko (L i) (H i) (R i))
  (pass:∀i,@vC P ⟨z⟩ ⟨Zcf (Zim l (ZxP n L H R O I μ i)) Q⟩ (mkStO n (L i) (H i) (R i) (O i) (I i)))
  (first:(∀j s',HasO n (L j) (H j) (R j) (O j) (I j) s'→awp P z (Zcf (Zim l (Zzt n L H R O I)) Q) s')→ @vC P ⟨c⟩ ⟨Zcf (Zim l (Zzt n L H R O I)) Q⟩ s):awp P (.scope c) Q s:=by
 have sk:∀ {Q:Exit→St→Prop} {s:St},awp P z Q s→awp P (.seq .skip z) Q s:=fun h=>ZiZ (Zis h)
 have passA:∀i,awp P (.seq .skip z) (Zcf (fun l' s'=>∃j,l=l'∧μ j<μ i∧Weak (mkStO n (L j) (H j) (R j) (O j) (I j)) s') Q) (mkStO n (L i) (H i) (R i) (O i) (I i)):=fun i=>
  sk (ZaO (fun e s' h=>by
   cases e with
   |goto l'=>obtain⟨rfl,j,hj,hm⟩:=h;exact⟨j,rfl,hj,hm.weak⟩
   |_=>exact h) (Z1 _ _ _ (pass i)))
 refine ZgE (fun _:ι=>l) (fun _=> .seq .skip z) (fun i=>mkStO n (L i) (H i) (R i) (O i) (I i)) μ (fun _=>hf) (fun _ i=>Refs.mkStO (hr i)) (fun i _=>passA i) fun cut=> ?_
 have key:=first fun j s' hs' B S M a w hsim=>by
  have hp:=Z1 _ _ _ (pass j) B S M a w (hsim.weak hs'.weak (Refs.mkStO (hr j)));refine wp_mono hp fun e a' w' ⟨s1,S1,M1,h1,h2,h3⟩=>⟨s1,S1,M1,?_,h2,h3⟩
  cases e with
  |goto l'=>obtain⟨e,j,_,hm⟩:=h1;exact⟨e,j,hm⟩
  |_=>exact h1
 refine ZaO (fun e s' h=> ?_) (Z1 _ _ _ key);cases e with
 |goto l'=>obtain⟨rfl,j,hm⟩:=h;exact⟨j,rfl,hm.weak⟩
 |_=>exact h
theorem Ztk {c:Code} (i d:Nat) (es:List PV) (hi:s.fr i= .sl (.row d) es) (h:awp P c Q { s with fr:=upd s.fr i (.sl .no es) }):awp P c Q s:=fun B S M a w hs=>by
 have hrow:=hs.fr i;rw[hi]at hrow;have key:Rep S (a.tmps.getD i undef) (.sl .no es):=hrow.sl_inv;refine h B S M a w ⟨hs.defers,hs.hn,hs.hB,hs.stable,fun k=> ?_,fun k r hr=> ?_,hs.blk,hs.row,hs.inj,hs.injq,hs.injx,hs.rm,hs.vc,hs.pn⟩
 ·show RepS _ _ _ _ (upd s.fr i (.sl .no es) k)
  by_cases e:i=k
  ·subst e;rw[Zb];exact .clean key
  ·rw[Zm _ _ e];exact hs.fr k
 ·have hr':r∈(upd s.fr i (.sl .no es) k).ids:=hr
  by_cases e:i=k
  ·subst e;rw[Zb]at hr';simp[PV.ids]at hr'
  ·rw[Zm _ _ e]at hr';exact hs.ids k r hr'
def St.initO (args:List PV) (n b:Nat) (c:MapC):St:=⟨Zdo 0 args,⟨fun _=>none,fun _=>false,fun _=>none,upd (fun _=>none) b (some c),fun _=>none,fun _=>none,fun _=>none,fun _=>none,fun _=>none,fun _=>false⟩,n⟩
def Zy2 (P:Program) (rs:List ResultVar) (r:PV) (b:Nat) (c':MapC):Exit→St→Prop
 | .normal,s=>Zkw P r s [] rs∧s.m.o b=some c'
 | .ret,s=>Zkw P r s [] rs∧s.m.o b=some c'
 |_,_=>False
def Zyp (P:Program) (rs:List ResultVar) (r:PV):Exit→St→Prop
 | .normal,s=>∃r',Zkw P r' s [] rs∧r=r'.shut s.m.o
 | .ret,s=>∃r',Zkw P r' s [] rs∧r=r'.shut s.m.o
 |_,_=>False
def ZzH (t:Nat) (r:Nat→PV) (c:MapC):Exit→St→Prop
 | .ret,s=>∃b id cs,s.fr t= .ptr id 0∧s.m.h id=some cs∧PV.idsL cs= []∧s.m.o b=some c∧r b= .rptr cs
 |_,_=>False
theorem Zqk (rs:List ResultVar) (r:PV) (b:Nat) (c':MapC) (s:St):@vQ ⟨Zy2 P rs r b c'⟩ .ret s=(Zkw P r s [] rs∧s.m.o b=some c'):=rfl
theorem Zkv (rs:List ResultVar) (r:PV) (b:Nat) (c':MapC) (s:St):@vQ ⟨Zy2 P rs r b c'⟩ .normal s=(Zkw P r s [] rs∧s.m.o b=some c'):=rfl
theorem Zqh (rs:List ResultVar) (r:PV) (s:St):@vQ ⟨Zyp P rs r⟩ .ret s= ∃r',Zkw P r' s [] rs∧r=r'.shut s.m.o:=rfl
theorem Zks (rs:List ResultVar) (r:PV) (s:St):@vQ ⟨Zyp P rs r⟩ .normal s= ∃r',Zkw P r' s [] rs∧r=r'.shut s.m.o:=rfl
theorem Zqf (t:Nat) (r:Nat→PV) (c:MapC) (s:St):@vQ ⟨ZzH t r c⟩ .ret s= ∃b id cs,s.fr t= .ptr id 0∧s.m.h id=some cs∧PV.idsL cs= []∧s.m.o b=some c∧r b= .rptr cs:=rfl
theorem ZqH {S:Stable} {vs:List Value} {args:List PV} {n:Nat} (hl:vs.length=args.length) (hr:∀i,i<args.length→Rep S (vs.getD i undef) (args.getD i .any)) (i:Nat):
  Rep S (((⟨vs⟩:Array Value)++Array.replicate (n-vs.length) undef).getD i undef) (Zdo 0 args i):=by
 rw[Zdp args 0 i (Nat.zero_le _),Nat.sub_zero]
 by_cases hi:i<args.length
 ·have:=hr i hi;rw[getD_lt hi]at this ⊢;rw[getD_lt (by omega)]at this;have e:((⟨vs⟩:Array Value)++Array.replicate (n-vs.length) undef).getD i undef=vs[i]'(by omega):=by
   rw[Array.getD_eq_getD_getElem?,Array.getElem?_append_left (by simp;omega)];simp[show i<vs.length by omega]
  rw[e];exact this
 ·rw[Zdk (by omega)];have e:((⟨vs⟩:Array Value)++Array.replicate (n-vs.length) undef).getD i undef=undef:=by
   rw[Array.getD_eq_getD_getElem?,Array.getElem?_append_right (by simp;omega)];simp only[Array.getElem?_replicate];split<;>rfl
  rw[e];exact .tup [] [] rfl (fun i hi=>by simp at hi)
theorem Zg6 {B:Frm} {S:Stable} {w:World} {vs:List Value} {args:List PV} {n:Nat} {o:Nat→Option MapC} (hn:args.length≤n) (hl:vs.length=args.length) (hr:∀i,i<args.length→Rep S (vs.getD i undef) (args.getD i .any))
  (hB:∀k,B k→k<w.heap.size) (hst:Stab B S w o (fun _=>none)):
  Sim B S ⟨id,id,id⟩ ⟨Zdo 0 args,⟨fun _=>none,fun _=>false,fun _=>none,o,fun _=>none,fun _=>none,fun _=>none,fun _=>none,fun _=>none,fun _=>false⟩,n⟩ { tmps:=⟨vs⟩++Array.replicate (n-vs.length) undef,defers:= [] } w:=by
 refine⟨rfl,?_,hB,hst,fun i=> .clean (ZqH hl hr i),fun i id hid=>absurd hid ((ZqH (n:=n) hl hr i).clean_ids id),fun id cs hid=> ?_,fun id r hid=> ?_,fun id id' cs cs' hid=> ?_,fun id id' r r' hid=> ?_,fun id id' cs r hid=> ?_,fun b c hid=> ?_,fun i es hid=> ?_,⟨fun _ _ h=>by simp at h,fun _ _ _ _ h=>by simp at h⟩⟩
 ·simp;omega
 ·simp at hid
 ·simp at hid
 ·simp at hid
 ·simp at hid
 ·simp at hid
 ·simp at hid
 ·simp at hid
theorem Zrq {B:Frm} {S:Stable} {M:Maps} {s:St} {a:Act} {w:World} {fn:Func} {r:PV} {rs:List ResultVar} (hs:Sim B S M s a w) (hrs:fn.results=rs.toArray) (h:Zkw P r s [] rs):∃v,(results fn a.tmps).run P w= .ok v w∧Rep S v r:=by
 obtain⟨g1,g2,g3⟩:=Zhg (fn:=fn) rs [] h;have hl:fn.results.toList=rs:=by rw[hrs]
 have g1':Zkd (fn.results.toList.map (Zif P s)):=by rw[hl];exact g1
 obtain⟨v,hv,hrv⟩:=ZeQ hs g1';rw[hl]at hrv;refine⟨v,hv,?_⟩;rw[g3];simp only[List.reverse_nil,List.nil_append]at g2 ⊢;exact hrv.give hs g2
theorem Wr.of_v {f:FuncId} {fn:Func} {c:Code} {args:Nat→List PV} {r:PV} {n:Nat} {rs:List ResultVar} {mc mc':MapC} (hf:P.funcs[f]? = some fn) (hname:fn.name≠ "runtime.NumGoroutine") (hb:fn.body=some c) (hn:fn.ntmps=n) (hrs:fn.results=rs.toArray) (hl:∀b,(args b).length≤n) (hi:r.dids= [])
  (h:∀b,@vC P ⟨c⟩ ⟨Zy2 P rs r b mc'⟩ (St.initO (args b) n b mc)):Wr P f args mc r mc':=by
 subst hn;refine⟨⟨fn,hf,hname,by rw[hb];rfl⟩,hi,fun b w S vs hst hSb hmap hlen hr=> ?_⟩;refine calls_of_wp hf hb ?_;have hs:=Zg6 (B:=fun k=>k<w.heap.size∧k≠b) (w:=w) (n:=fn.ntmps) (o:=upd (fun _=>none) b (some mc)) (hl b) hlen hr (fun k hk=>hk.1)
  ⟨hst,fun k d hd=>(by
   by_cases e:b=k
   ·subst e;rw[Zb]at hd;cases hd;exact⟨fun hh=>hh.2 rfl,hSb,hmap⟩
   ·rw[Zm _ _ e]at hd;cases hd),fun k x hx=>(by cases hx)⟩
 have hsz:(⟨vs⟩:Array Value).size=vs.length:=by simp
 rw[hsz];refine wp_mono (Z1 _ _ _ (h b) _ S _ _ w hs) fun e a' w' hq=> ?_
 obtain⟨s',S',M',h1,h2,h3⟩:=hq;have fin:Zkw P r s' [] rs∧s'.m.o b=some mc'→a'.defers= []∧ ∃v,(results fn a'.tmps).run P w'= .ok v w'∧ ∃v' S',Ending.returned v= .returned v'∧Rep S' v' r∧StabS S' w'∧SLe S S'∧(∀k,k<w.heap.size→k≠b→(∀o,S' k o=S k o)∧S'.m k=S.m k)∧S'.m b=none∧MapAt S' w' b mc'∧BelowF (fun k=>k<w.heap.size∧k≠b) w w':=by
  rintro ⟨g1,g2⟩
  obtain⟨v,hv,hrv⟩:=Zrq h2 hrs g1;obtain⟨_,k2,k3⟩:=h2.stable.o b mc' g2;exact⟨h2.defers,v,hv,v,S',rfl,hrv,h2.stable.s,h3.1,fun k hk hkb=>h3.2.1 k ⟨hk,hkb⟩,k2,k3,h3.2.2⟩
 cases e with
 |normal=>exact fin h1
 |ret=>exact fin h1
 |_=>exact h1.elim
theorem Pure.of_vs {f:FuncId} {fn:Func} {c:Code} {args:List PV} {r:PV} {n:Nat} {rs:List ResultVar} (hf:P.funcs[f]? = some fn) (hname:fn.name≠ "runtime.NumGoroutine") (hb:fn.body=some c) (hn:fn.ntmps=n) (hrs:fn.results=rs.toArray) (hl:args.length≤n) (hi:r.dids= [])
  (h:@vC P ⟨c⟩ ⟨Zyp P rs r⟩ (St.init args n)):Pure P f args r:=by
 subst hn;refine⟨⟨fn,hf,hname,by rw[hb];rfl⟩,hi,fun w S vs hst hlen hr=> ?_⟩;refine calls_of_wp hf hb ?_;have hs:=Zg6 (B:=fun k=>k<w.heap.size) (w:=w) (n:=fn.ntmps) (o:=fun _=>none) hl hlen hr (fun k hk=>hk) ⟨hst,fun k d hd=>(by cases hd),fun k x hx=>(by cases hx)⟩;have hsz:(⟨vs⟩:Array Value).size=vs.length:=by simp
 rw[hsz];refine wp_mono (Z1 _ _ _ h _ S _ _ w hs) fun e a' w' hq=> ?_
 obtain⟨s',S',M',h1,h2,h3⟩:=hq;have fin:(∃r',Zkw P r' s' [] rs∧r=r'.shut s'.m.o)→a'.defers= []∧ ∃v,(results fn a'.tmps).run P w'= .ok v w'∧ ∃v' S',Ending.returned v= .returned v'∧Rep S' v' r∧StabS S' w'∧SLe S S'∧(∀b,b<w.heap.size→(∀o,S' b o=S b o)∧S'.m b=S.m b)∧Below w.heap.size w w':=by
  rintro ⟨r',g1,rfl⟩
  obtain⟨v,hv,hrv⟩:=Zrq h2 hrs g1;refine⟨h2.defers,v,hv,v,Zip S' w' s'.m.o,rfl,hrv.shut h2.stable,Zlw h2.stable,h3.1.trans (Zq7 h2.stable),fun k hk=>⟨(h3.2.1 k hk).1,?_⟩,h3.2.2.to⟩;rw[←(h3.2.1 k hk).2];cases ho:s'.m.o k with
  |none=>simp[Zip,ho]
  |some d=>exact absurd hk (h2.stable.o k d ho).1
 cases e with
 |normal=>exact fin h1
 |ret=>exact fin h1
 |_=>exact h1.elim
theorem Mk.of_v {f:FuncId} {fn:Func} {c:Code} {args:List PV} {r:Nat→PV} {n t:Nat} {mc:MapC} (hf:P.funcs[f]? = some fn) (hname:fn.name≠ "runtime.NumGoroutine") (hb:fn.body=some c) (hn:fn.ntmps=n) (hrs:fn.results= #[.tmp t]) (hl:args.length≤n) (hi:∀b,(r b).dids= [])
  (h:@vC P ⟨c⟩ ⟨ZzH t r mc⟩ (St.init args n)):Mk P f args r mc:=by
 subst hn;refine⟨⟨fn,hf,hname,by rw[hb];rfl⟩,hi,fun w S vs hst hlen hr=> ?_⟩;refine calls_of_wp hf hb ?_;have hs:=Zg6 (B:=fun k=>k<w.heap.size) (w:=w) (n:=fn.ntmps) (o:=fun _=>none) hl hlen hr (fun k hk=>hk) ⟨hst,fun k d hd=>(by cases hd),fun k x hx=>(by cases hx)⟩;have hsz:(⟨vs⟩:Array Value).size=vs.length:=by simp
 rw[hsz];refine wp_mono (Z1 _ _ _ h _ S _ _ w hs) fun e a' w' hq=> ?_
 obtain⟨s',S',M',h1,h2,h3⟩:=hq;cases e with
 |ret=>
  obtain⟨b,id,cs,g1,g2,g3,g4,g5⟩:=h1;obtain⟨S2,k1,k2⟩:=h2.freeze g2 g3;have hgiv:(PV.ptr id 0).givable (s'.m.freeze id):=⟨Zb _ _ _,by show s'.m.h id≠none;rw[g2];simp⟩;have hfr:=k1.fr t;have hfr':RepS S2 M' (s'.with (s'.m.freeze id)).m.q (a'.tmps.getD t undef) (.ptr id 0):=by
   have:(s'.with (s'.m.freeze id)).fr t= .ptr id 0:=g1;rw[this]at hfr;exact hfr
  have hrep:=hfr'.give k1 hgiv;have hgive:(PV.ptr id 0).give (s'.m.freeze id)= .rptr cs:=by
   have e1:(s'.m.freeze id).z id=true:=Zb _ _ _;have e2:(s'.m.freeze id).h id=some cs:=g2;simp[PV.give,e1,e2]
  have hrep':Rep S2 (a'.tmps.getD t undef) (r b):=by rw[g5,←hgive];exact hrep
  obtain⟨q1,q2,q3⟩:=k1.stable.o b mc g4;refine⟨h2.defers,a'.tmps.getD t undef,?_,a'.tmps.getD t undef,S2,b,rfl,Nat.not_lt.1 q1,hrep',k1.stable.s,h3.1.trans k2.1,fun k hk=>⟨fun o=>((k2.2.1 k hk).1 o).trans ((h3.2.1 k hk).1 o),(k2.2.1 k hk).2.trans (h3.2.1 k hk).2⟩,q2,q3,h3.2.2.to⟩;simp[results,hrs]
 |_=>exact h1.elim
def Zz2 (t u:Nat) (es:List PV) (c:PV) (sz:Nat) (e:TypeId):Exit→St→Prop
 | .ret,s=>∃k,s.fr t= .sl (.row k) es∧s.m.q k=some (.live es.length sz e)∧s.fr u=c
 |_,_=>False
theorem ZoI (t u:Nat) (es:List PV) (c:PV) (sz:Nat) (e:TypeId) (s:St):@vQ ⟨Zz2 t u es c sz e⟩ .ret s= ∃k,s.fr t= .sl (.row k) es∧s.m.q k=some (.live es.length sz e)∧s.fr u=c:=rfl
end
attribute [go_sem] ZoI
attribute [go_sem] Zqk Zkv Zqh Zks Zqf mkStO St.initO
open Go.RowKit
def Plain (p q:PV):Prop:=q=p∨ ∃d es,p= .sl (.row d) es∧q= .sl .no es
theorem Plain.same {p q:PV} (h:p=q):Plain p q:= .inl h.symm
theorem Plain.row (d:Nat) (es:List PV):Plain (.sl (.row d) es) (.sl .no es):= .inr ⟨d,es,rfl,rfl⟩
structure WeakP (s' s:St):Prop where
 n:s'.n=s.n
 fr:∀i,s'.fr i= .any∨Plain (s.fr i) (s'.fr i)
 h:∀i,s'.m.h i=none∨(s'.m.h i=s.m.h i∧s'.m.z i=s.m.z i)
 q:∀i,s'.m.q i=none∨s'.m.q i=s.m.q i
 o:∀i,s'.m.o i=none∨s'.m.o i=s.m.o i
 it:∀i,s'.m.it i=none∨s'.m.it i=s.m.it i
 om:∀i,s'.m.om i=none∨s'.m.om i=s.m.om i
 v:∀i,s'.m.v i=none∨(s'.m.v i=s.m.v i∧s'.m.q i=s.m.q i)
 ph:∀i,s'.m.ph i=none∨(s'.m.ph i=s.m.ph i∧s'.m.h i=s.m.h i)
 pq:∀i,s'.m.pq i=none∨(s'.m.pq i=s.m.pq i∧s'.m.q i=s.m.q i)
section
variable {P:Program} {B:Frm} {S:Stable} {M:Maps} {s s':St} {a:Act} {w:World} {Q Q':Exit→St→Prop}
theorem Sim.weakP (hs:Sim B S M s a w) (hw:WeakP s' s) (hr:Refs s'):Sim B S M s' a w:=by
 classical
 let s1:St:= { s with fr:=fun i=>if s'.fr i= .any then s.fr i else s'.fr i }
 have e1:∀i,s1.fr i=if s'.fr i= .any then s.fr i else s'.fr i:=fun _=>rfl
 have hs1:Sim B S M s1 a w:=by
  refine⟨hs.defers,hs.hn,hs.hB,hs.stable,fun i=> ?_,fun i r h=> ?_,hs.blk,hs.row,hs.inj,hs.injq,hs.injx,hs.rm,hs.vc,hs.pn⟩
  ·rw[e1];split
   ·exact hs.fr i
   ·rcases hw.fr i with h|h|⟨d,es,h1,h2⟩
    ·contradiction
    ·rw[h];exact hs.fr i
    ·rw[h2];have:=hs.fr i;rw[h1]at this;exact .clean this.sl_inv
  ·rw[e1]at h;split at h
   ·exact hs.ids i r h
   ·rcases hw.fr i with h0|h0|⟨d,es,h1,h2⟩
    ·contradiction
    ·rw[h0]at h;exact hs.ids i r h
    ·rw[h2]at h;simp[PV.ids]at h
 refine hs1.weak ⟨hw.n,fun i=> ?_,hw.h,hw.q,hw.o,hw.it,hw.om,hw.v,hw.ph,hw.pq⟩ hr;rw[e1];split
 ·rename_i h;exact .inl h
 ·exact .inr rfl
structure HasP (n:Nat) (L:List (Nat×PV)) (H:List (Nat×List PV×Bool)) (R:List (Nat×Row)) (s:St):Prop where
 n:s.n=n
 fr:∀x∈L,Plain (s.fr x.1) x.2
 h:∀x∈H,s.m.h x.1=some x.2.1∧s.m.z x.1=x.2.2
 q:∀x∈R,s.m.q x.1=some x.2
theorem HasP.weak {n:Nat} {L:List (Nat×PV)} {H:List (Nat×List PV×Bool)} {R:List (Nat×Row)} (h:HasP n L H R s):WeakP (mkSt n L H R) s:=by
 have hk:Has n [] H R s:=⟨h.n,fun x hx=>(by cases hx),h.h,h.q⟩;refine⟨h.n.symm,fun i=> ?_,hk.weak.h,hk.weak.q,fun _=> .inl rfl,fun _=> .inl rfl,fun _=> .inl rfl,fun _=> .inl rfl,fun _=> .inl rfl,fun _=> .inl rfl⟩
 by_cases hi:(L.map (·.1)).contains i=true
 ·exact .inr (Z9 (R:=fun i v=>Plain (s.fr i) v) (fun x hx=>h.fr x hx) hi)
 ·exact .inl (ZbT (by simpa using hi))
end
def Zcc (n:Int):Nat:=FloatKind.f64.nearest n
theorem ZvS (way:Ieee.Toward) (neg:Bool) (n:Nat):way.cut neg n 0=n:=by
 unfold Ieee.Toward.cut;simp only[Nat.zero_min,Nat.shiftLeft_zero,Nat.div_one,Nat.mod_one];cases way<;>simp
theorem ZnR (neg:Bool) (m:Nat) (h0:m≠0) (h:m.log2≤52):Ieee.double.nearest neg m 0=Ieee.double.word neg ((m.log2+1022)*2 ^ 52+m <<< (52-m.log2)):=by
 unfold Ieee.Format.nearest;rw[if_neg h0];have e1:Ieee.double.leastPlace= -1074:=by decide
 have e2:(Ieee.double.fractionBits:Int)=52:=rfl;have e3:Ieee.double.binade=2 ^ 52:=rfl;have e4:Ieee.double.infRung=2047*2 ^ 52:=by decide
 have e5:max (0+(m.log2:Int)-(Ieee.double.fractionBits:Int)) Ieee.double.leastPlace=(m.log2:Int)-52:=by rw[e1,e2];omega
 rw[e1]at e5;simp only[e1,e3,e4,e5];have t1:(0-((m.log2:Int)-52)).toNat=52-m.log2:=by omega
 have t2:((m.log2:Int)-52-0).toNat=0:=by omega
 have t3:((m.log2:Int)-52 - -1074).toNat=m.log2+1022:=by omega
 rw[t1,t2,t3,ZvS];have hlt:m<2 ^ (m.log2+1):=Nat.lt_log2_self;have hs:m <<< (52-m.log2)<2 ^ 53:=by
  rw[Nat.shiftLeft_eq]
  calc m*2 ^ (52-m.log2)<2 ^ (m.log2+1)*2 ^ (52-m.log2):=Nat.mul_lt_mul_of_pos_right hlt (Nat.two_pow_pos _)
   _=2 ^ 53:=by rw[←Nat.pow_add];congr 1;omega
 congr 1;rw[Nat.min_eq_left];omega
theorem Zur (neg:Bool) (rung:Nat) (h1:2 ^ 52≤rung) (h2:rung<2047*2 ^ 52):Ieee.double.read (Ieee.double.word neg rung)= .number neg (2 ^ 52+rung % 2 ^ 52) (-1074+(rung / 2 ^ 52-1:Nat)):=by
 have e1:Ieee.double.leastPlace= -1074:=by decide
 have e3:Ieee.double.binade=2 ^ 52:=rfl;have e4:Ieee.double.infRung=2047*2 ^ 52:=by decide
 have e5:Ieee.double.signWeight=2 ^ 63:=rfl;unfold Ieee.Format.read Ieee.Format.word;cases neg
 ·simp only[Bool.false_eq_true,if_false,e1,e3,e4,e5];have d1:rung / 2 ^ 63=0:=by omega
  have d2:rung % 2 ^ 63=rung:=by omega
  rw[d1,d2,if_neg (by omega),if_pos h2];rfl
 ·simp only[if_true,e1,e3,e4,e5];have d1:(2 ^ 63+rung) / 2 ^ 63=1:=by omega
  have d2:(2 ^ 63+rung) % 2 ^ 63=rung:=by omega
  rw[d1,d2,if_neg (by omega),if_pos h2];rfl
theorem Zmy (n:Int) (h:n.natAbs<2 ^ 53):∃p:Int,p≤0∧FloatKind.f64.decode (Zcc n)= .number (decide (n<0)) (n.natAbs <<< (-p).toNat) p:=by
 show ∃p:Int,p≤0∧Ieee.double.read (Ieee.double.nearest (decide (n<0)) n.natAbs 0)=_
 by_cases h0:n=0
 ·subst h0;exact⟨-1074,by omega,by decide+kernel⟩
 ·have hm:n.natAbs≠0:=by omega
  have hl:n.natAbs.log2≤52:=by
   have:n.natAbs.log2<53:=(Nat.log2_lt hm).2 h;omega
  rw[ZnR _ _ hm hl];generalize n.natAbs=m at *;have hlt:m<2 ^ (m.log2+1):=Nat.lt_log2_self;have hge:2 ^ m.log2≤m:=Nat.log2_self_le hm;have hs:m <<< (52-m.log2)<2 ^ 53:=by
   rw[Nat.shiftLeft_eq]
   calc m*2 ^ (52-m.log2)<2 ^ (m.log2+1)*2 ^ (52-m.log2):=Nat.mul_lt_mul_of_pos_right hlt (Nat.two_pow_pos _)
    _=2 ^ 53:=by rw[←Nat.pow_add];congr 1;omega
  have hs2:2 ^ 52≤m <<< (52-m.log2):=by
   rw[Nat.shiftLeft_eq]
   calc 2 ^ 52=2 ^ m.log2*2 ^ (52-m.log2):=by rw[←Nat.pow_add];congr 1;omega
    _≤m*2 ^ (52-m.log2):=Nat.mul_le_mul_right _ hge
  generalize hsg:m <<< (52-m.log2)=sg at *;rw[Zur _ _ (by omega) (by omega)];refine⟨(m.log2:Int)-52,by omega,?_⟩;have t1:(-((m.log2:Int)-52)).toNat=52-m.log2:=by omega
  have t2:2 ^ 52+((m.log2+1022)*2 ^ 52+sg) % 2 ^ 52=sg:=by omega
  have t3:(-1074:Int)+(((m.log2+1022)*2 ^ 52+sg) / 2 ^ 52-1:Nat)=(m.log2:Int)-52:=by omega
  rw[t1,hsg,t2,t3]
theorem ZjT (n:Int) (k:Nat):Ieee.signed (decide (n<0)) (n.natAbs <<< k) 0=n*2 ^ k:=by
 unfold Ieee.signed;rw[Nat.shiftLeft_zero,Nat.shiftLeft_eq]
 by_cases h:n<0
 ·simp only[h,decide_true,if_true];have:(n.natAbs:Int)= -n:=by omega
  push_cast
  rw[this,Int.neg_mul,Int.neg_neg]
 ·simp only[h,decide_false,Bool.false_eq_true,if_false];have:(n.natAbs:Int)=n:=by omega
  push_cast
  rw[this]
theorem Zoi (neg:Bool) (m k:Nat):Ieee.signed neg m k=Ieee.signed neg (m <<< k) 0:=rfl
theorem Zl2 (a b:Int) (k:Nat):compare (a*2 ^ k) (b*2 ^ k)=compare a b:=by
 have hp:(0:Int)<2 ^ k:=Int.pow_pos (by omega);rcases Int.lt_trichotomy a b with h|h|h
 ·rw[Int.compare_eq_lt.2 h,Int.compare_eq_lt.2 (Int.mul_lt_mul_of_pos_right h hp)]
 ·subst h;simp
 ·rw[Int.compare_eq_gt.2 h,Int.compare_eq_gt.2 (Int.mul_lt_mul_of_pos_right h hp)]
theorem ZfX (a b:Int) (ha:a.natAbs<2 ^ 53) (hb:b.natAbs<2 ^ 53):FloatKind.f64.format.order (Zcc a) (Zcc b)=some (compare a b):=by
 obtain⟨p,p0,hp⟩:=Zmy a ha;obtain⟨q,q0,hq⟩:=Zmy b hb;unfold FloatKind.decode at hp hq;unfold Ieee.Format.order;rw[hp,hq];simp only[Ieee.Datum.order];congr 1;rw[Zoi _ _ (p-min p q).toNat,Zoi _ _ (q-min p q).toNat,←Nat.shiftLeft_add,←Nat.shiftLeft_add];have e1:(-p).toNat+(p-min p q).toNat=(-(min p q)).toNat:=by omega
 have e2:(-q).toNat+(q-min p q).toNat=(-(min p q)).toNat:=by omega
 rw[e1,e2,ZjT,ZjT,Zl2]
theorem Ztu (neg:Bool) (m k:Nat):Ieee.Toward.zero.cut neg (m <<< k) k=m:=by
 unfold Ieee.Toward.cut
 by_cases hm:m=0
 ·subst hm;simp
 ·have h:k≤(m <<< k).log2:=by
   have hne:m <<< k≠0:=by rw[Nat.shiftLeft_eq];exact Nat.mul_ne_zero hm (by have:=Nat.two_pow_pos k;omega)
   rw[Nat.le_log2 hne,Nat.shiftLeft_eq];exact Nat.le_mul_of_pos_left _ (by omega)
  rw[Nat.min_eq_left (by omega),Nat.shiftLeft_eq m,Nat.shiftLeft_eq 1,Nat.one_mul];simp only[Nat.mul_div_cancel _ (Nat.two_pow_pos k)];simp
theorem Zjs (n:Int) (h:n.natAbs<2 ^ 53):(FloatKind.f64.decode (Zcc n)).integral .zero= .number (decide (n<0)) n.natAbs 0:=by
 obtain⟨p,p0,hp⟩:=Zmy n h;rw[hp];simp only[Ieee.Datum.integral];have e:p.toNat=0:=by omega
 rw[e,Nat.shiftLeft_zero,Ztu]
theorem Zri (n:Int) (h:n.natAbs<2 ^ 53):(FloatKind.f64.decode (Zcc n)).toInt .zero=some n:=by
 unfold Ieee.Datum.toInt;rw[Zjs n h];simp only;have:=ZjT n 0;rw[Nat.shiftLeft_zero]at this;rw[this];simp
theorem Zw2 (n:Int) (h:n.natAbs<2 ^ 53):FloatKind.f64.encode ((FloatKind.f64.decode (Zcc n)).integral .zero)=Zcc n:=by
 rw[Zjs n h];rfl
theorem Zug (n:Int) (h:n.natAbs<2 ^ 53):∃s m p,FloatKind.f64.decode (Zcc n)= .number s m p:=by
 obtain⟨p,_,hp⟩:=Zmy n h;exact⟨_,_,_,hp⟩
open Go.RowKit
def ZxV:Nat→Code→Code
 |0,c=>c
 |k+1,.seq _ b=>ZxV k b
 |_+1,c=>c
def Zzd (P:Program) (Q1:St→Prop):Nat→Code→St→Prop
 |0,_,s=>Q1 s
 |k+1,.seq a b,s=>awp P a (ZcU (Zzd P Q1 k b) fun _ _=>False) s
 |_+1,_,_=>False
theorem ZmK {P:Program} {Q1:St→Prop} {k:Nat} {a b:Code} {s:St} (h:@vC P ⟨a⟩ ⟨ZcU (Zzd P Q1 k b) fun _ _=>False⟩ s):Zzd P Q1 (k+1) (.seq a b) s:=Z1 _ _ _ h
theorem ZlH {P:Program} {Q1:St→Prop} {Φ:Exit→Act→World→Prop} {B:Frm} {S0:Stable} {w0:World}:∀(k:Nat) (c:Code) (s:St) (S:Stable) (M:Maps) (a:Act) (w:World),Zzd P Q1 k c s→Sim B S M s a w→Ext B S0 S w0 w→
  (∀s' S' M' a' w',Q1 s'→Sim B S' M' s' a' w'→Ext B S0 S' w0 w'→(ZxV k c).wp P Φ a' w')→c.wp P Φ a w
 |0,c,s,S,M,a,w,h,hs,hx,hk=>hk s S M a w h hs hx
 |k+1,.seq x y,s,S,M,a,w,h,hs,hx,hk=>by
  refine wp_seq (wp_mono (h B S M a w hs) fun e a' w' hq=> ?_);obtain⟨s',S',M',h1,h2,h3⟩:=hq;cases e with
  |normal=>exact ZlH k y s' S' M' a' w' h1 h2 (hx.trans h3) hk
  |_=>exact absurd h1 id
 |k+1,.skip,s,S,M,a,w,h,_,_,_=>absurd h id
 |k+1,.label _,s,S,M,a,w,h,_,_,_=>absurd h id
 |k+1,.ret,s,S,M,a,w,h,_,_,_=>absurd h id
 |k+1,.exit _,s,S,M,a,w,h,_,_,_=>absurd h id
 |k+1,.goto _,s,S,M,a,w,h,_,_,_=>absurd h id
 |k+1,.block _ _,s,S,M,a,w,h,_,_,_=>absurd h id
 |k+1,.loop _,s,S,M,a,w,h,_,_,_=>absurd h id
 |k+1,.scope _,s,S,M,a,w,h,_,_,_=>absurd h id
 |k+1,.cond _ _ _,s,S,M,a,w,h,_,_,_=>absurd h id
 |k+1,.region _ _ _,s,S,M,a,w,h,_,_,_=>absurd h id
structure Flat (α:Type) [Inhabited α] where
 p:α→PV
 v:α→List Value
 sz:Nat
 pos:0<sz
 hp:∀x,(p x).cells.length=sz
 hv:∀x,(v x).length=sz
 to:∀(S:Stable) x j u,j<sz→Rep S u ((p x).cells.getD j .any)→u=(v x).getD j undef
 of:∀(S:Stable) x j,j<sz→Rep S ((v x).getD j undef) ((p x).cells.getD j .any)
def Zh4 {α:Type} [Inhabited α] (F:Flat α) (w:World) (lo:Nat) (xs:List α) (v:Value):Prop:=
 (xs.length=0∧v= .slice none 0 0)∨ ∃b c e vs,lo≤b∧v= .slice (some ⟨b,0,none⟩) xs.length c∧xs.length≤c∧w.heap[b]? = some (.cells ⟨vs⟩ e (0,0))∧xs.length*F.sz≤vs.length∧
  ∀i j,i<xs.length→j<F.sz→vs.getD (i*F.sz+j) undef=(F.v (xs.getD i default)).getD j undef
section
variable {P:Program} {B:Frm} {S:Stable} {M:Maps} {s:St} {a:Act} {w:World} {α:Type} [Inhabited α]
theorem Zyo (F:Flat α) {i d n:Nat} {e:TypeId} {xs:List α} {lo:Nat} (hs:Sim B S M s a w) (hlo:∀k,k<lo→B k) (hi:s.fr i= .sl (.row d) (xs.map F.p)) (hq:s.m.q d=some (.live n F.sz e)) (hn:xs.length=n):Zh4 F w lo xs (a.tmps.getD i undef):=by
 have hf:=hs.fr i;rw[hi]at hf;have ho:=hs.row d _ hq;obtain⟨o1,o2⟩:=ho;generalize a.tmps.getD i undef=v at hf;cases hf with
 |clean r=>cases r
 |row _ _ _ r t=>
  obtain⟨_,t2⟩:=t n F.sz e hq;obtain⟨t3,t4⟩:=t2 (by rw[List.length_map];exact hn);cases hk:M.κ d with
  |zero=>exact .inl ⟨by rw[hn];exact o1 hk,t3 hk⟩
  |succ c=>
   obtain⟨p1,p2,p3,⟨vs,p4,p5⟩,p6⟩:=o2 c hk;have hv:=t4 c hk;refine .inr ⟨M.ψ d,c,e,vs,?_,by rw[hn];exact hv,by omega,p4,?_,fun i j hi hj=> ?_⟩
   ·exact Nat.le_of_not_lt fun h=>p3 (hlo _ h)
   ·rw[p5,hn];exact Nat.mul_le_mul_right _ p1
   ·rw[hv]at r;generalize hes:xs.map F.p=es at r;cases r with
    |sl0=>
     have:xs.length=0:=by
      have:=congrArg List.length hes;simpa using this
     omega
    |sl b o cap sz es vals hsz hcap hS hR=>
     have hlen:es.length=xs.length:=by rw[←hes];simp
     have hi':i<es.length:=by omega
     have hcell:es.getD i .any=F.p (xs.getD i default):=by
      rw[←hes,getD_lt (l:=xs.map F.p) (by simpa using hi),getD_lt hi];simp
     have hsz':sz=F.sz:=by have:=hsz i hi';rw[hcell,F.hp]at this;exact this.symm
     subst hsz';have hst:=hs.stable.s.c _ _ _ (hS i j hi' hj);have hr:=hR i j hi' hj;rw[hcell]at hr;have hval:=F.to S _ j _ hj hr;rw[←hval];have hidx:i*F.sz+j<vs.length:=by
      have q1:(i+1)*F.sz≤c*F.sz:=Nat.mul_le_mul_right _ (by omega);rw[Nat.succ_mul]at q1;omega
     rw[Zbx p4]at hst;rw[Nat.zero_add]at hst;rw[List.getElem?_eq_getElem hidx]at hst;rw[getD_lt hidx];exact Option.some.inj hst
theorem Pure.tail (F:Flat α) {f:FuncId} {fn:Func} {c:Code} {args:List PV} {r:PV} (k i d N:Nat) {Q1:St→Prop} (G:List α→Prop) (g:List α→List α) (hf:P.funcs[f]? = some fn) (hname:fn.name≠ "runtime.NumGoroutine") (hb:fn.body=some c) (hl:args.length≤fn.ntmps) (hi:r.dids= [])
  (h1:Zzd P Q1 k c (St.init args fn.ntmps))
  (hQ:∀s,Q1 s→ ∃xs e,G xs∧s.n=N∧s.fr i= .sl (.row d) (xs.map F.p)∧s.m.q d=some (.live xs.length F.sz e))
  (h2:∀xs lo (a:Act) (w:World),G xs→a.defers= []→a.tmps.size=N→Zh4 F w lo xs (a.tmps.getD i undef)→lo≤w.heap.size→
   (ZxV k c).wp P (fun ex a' w'=>(ex= .normal∨ex= .ret)∧a'.defers= []∧ ∃v',(results fn a'.tmps).run P w'= .ok v' w'∧Zh4 F w' lo (g xs) v'∧BelowF (fun k=>k<lo) w w') a w)
  (hr:∀xs,G xs→r= .sl .no ((g xs).map F.p)):Pure P f args r:=by
 refine⟨⟨fn,hf,hname,by rw[hb];rfl⟩,hi,fun w S vs hst hlen hrep=> ?_⟩;refine calls_of_wp hf hb ?_;have hs:=Zg6 (B:=fun k=>k<w.heap.size) (w:=w) (n:=fn.ntmps) (o:=fun _=>none) hl hlen hrep (fun k hk=>hk) ⟨hst,fun b c hc=>by simp at hc,fun b x hx=>by simp at hx⟩;have hsz:(⟨vs⟩:Array Value).size=vs.length:=by simp
 rw[hsz];refine ZlH (B:=fun k=>k<w.heap.size) (S0:=S) (w0:=w) k c _ S _ _ w h1 hs (Ext.refl _ _ _) fun s' S' M' a' w' hq hs' hx=> ?_
 obtain⟨xs,e,hg,hsn,hfr,hrow⟩:=hQ s' hq;have hsize:w.heap.size≤w'.heap.size:=hx.2.2.size;have hraw:=Zyo F (lo:=w.heap.size) hs' (fun k hk=>hk) hfr hrow rfl;have hn:a'.tmps.size=N:=by rw[hs'.hn,hsn]
 refine wp_mono (h2 xs w.heap.size a' w' hg hs'.defers hn hraw hsize) fun ex a2 w2 ⟨hex,hdf,v',hv',hrr,hbl⟩=> ?_
 have hr':=hr xs hg;have hbel:BelowF (fun k=>k<w.heap.size) w w2:=hx.2.2.trans hbl;have fin:∃v S',Ending.returned v'= .returned v∧Rep S' v r∧StabS S' w2∧SLe S S'∧(∀b,b<w.heap.size→(∀o,S' b o=S b o)∧S'.m b=S.m b)∧Below w.heap.size w w2:=by
  rw[hr'];have hold:StabS S w2:=⟨fun b o u h=>by
   have h1:=hst.c b o u h;have hbl:=Zi5 h1;rw[World.cell?_of_block (w:=w) (hbel.block b hbl)];exact h1,fun b es h=>by
   have h1:=hst.m b es h;have hbl:=(Array.getElem?_eq_some_iff.1 h1).1;rw[hbel.block b hbl];exact h1⟩
  rcases hrr with ⟨h0,hv0⟩|⟨b,c',e',us,hb1,hb2,hb3,hb4,hb5,hb6⟩
  ·refine⟨v',S,rfl,?_,hold,SLe.refl S,fun b _=>⟨fun _=>rfl,rfl⟩,hbel.to⟩;have:g xs= []:=List.length_eq_zero_iff.1 h0;rw[this,hv0];exact .sl0 none 0
  ·let S2:Stable:=⟨fun b' o=>if b'=b∧o<(g xs).length*F.sz then some (us.getD o undef)else S b' o,S.m⟩
   have fresh:∀o,S b o=none:=fun o=>by
    cases hc:S b o with
    |none=>rfl
    |some u=>have:=Zi5 (hst.c b o u hc);omega
   refine⟨v',S2,rfl,?_,⟨fun b' o u h=> ?_,fun b' es h=>hold.m b' es h⟩,⟨fun b' o u h=> ?_,fun b' es h=>h⟩,fun b' hb'=>⟨fun o=> ?_,rfl⟩,hbel.to⟩
   ·rw[hb2];have hmap:((g xs).map F.p).length=(g xs).length:=by simp
    rw[←hmap];refine .sl b 0 c' F.sz _ (fun i j=>us.getD (i*F.sz+j) undef) (fun i hi=> ?_) (by rw[hmap];exact hb3) (fun i j hi hj=> ?_) (fun i j hi hj=> ?_)
    ·rw[hmap]at hi;rw[getD_lt (l:=(g xs).map F.p) (by simpa using hi),List.getElem_map,F.hp]
    ·rw[hmap]at hi;show(if b=b∧0+i*F.sz+j<(g xs).length*F.sz then some (us.getD (0+i*F.sz+j) undef)else S b (0+i*F.sz+j))=_;have q1:(i+1)*F.sz≤(g xs).length*F.sz:=Nat.mul_le_mul_right _ (by omega);rw[Nat.succ_mul]at q1;rw[if_pos ⟨rfl,by omega⟩,Nat.zero_add]
    ·rw[hmap]at hi;have e1:((g xs).map F.p).getD i .any=F.p ((g xs).getD i default):=by
      rw[getD_lt (l:=(g xs).map F.p) (by simpa using hi),getD_lt hi];simp
     rw[e1];show Rep _ (us.getD (i*F.sz+j) undef) _;rw[hb6 i j hi hj];exact F.of _ _ _ hj
   ·have h9:(if b'=b∧o<(g xs).length*F.sz then some (us.getD o undef)else S b' o)=some u:=h;clear h
    by_cases hc:b'=b∧o<(g xs).length*F.sz
    ·rw[if_pos hc]at h9;rw[hc.1,Zbx hb4,List.getElem?_eq_getElem (by omega),←h9,getD_lt (by omega)]
    ·rw[if_neg hc]at h9;exact hold.c b' o u h9
   ·show(if b'=b∧o<(g xs).length*F.sz then some (us.getD o undef)else S b' o)=some u;have:b'≠b:=fun e=>by subst e;rw[fresh o]at h;cases h
    rw[if_neg (fun hc=>this hc.1)];exact h
   ·show(if b'=b∧o<(g xs).length*F.sz then some (us.getD o undef)else S b' o)=S b' o;rw[if_neg (fun hc=>by have:=hc.1;omega)]
 rcases hex with rfl|rfl
 ·exact⟨hdf,v',hv',fin⟩
 ·exact⟨hdf,v',hv',fin⟩
end
open Go.RowKit
section
variable {P:Program} {a:Act} {w:World} {Q:Exit→Act→World→Prop}
theorem Zhj {o:Oper} {ops:Array Oper} {i:Nat} {rest:List Nat} (ho:ops[i]? = some o) (hg:o.guard=none) (h:o.wp P a w (wpOps P ops Q rest) Q):wpOps P ops Q (i::rest) a w:=by
 unfold wpOps;rw[ho];have hw:Region.wanted o (yielded ops a.tmps)=true:=by simp[Region.wanted,hg]
 simp only[hw,if_true];exact .inl h
theorem Zvl {dst:Option Tmp} {x:Operand} {ty:TypeId} {pos:String} {after:Array Edge} {next:Act→World→Prop} (h:next (a.put dst (a.eval x)) w):(Oper.mk dst (.move x) ty pos after none).wp P a w next Q:=by
 have hr:(execOp a.eval (Oper.mk dst (.move x) ty pos after none)).run P w= .ok (.value (a.eval x)) w:=by simp[execOp,Sem.run]
 unfold Oper.wp;rw[hr];exact h
theorem Zvk {dst:Option Tmp} {x:Operand} {ty:TypeId} {pos:String} {after:Array Edge} {next:Act→World→Prop} (h:next (a.put dst (a.eval x)) w):(Oper.mk dst (.assign x) ty pos after none).wp P a w next Q:=by
 have hr:(execOp a.eval (Oper.mk dst (.assign x) ty pos after none)).run P w= .ok (.value (a.eval x)) w:=by simp[execOp,Sem.run]
 unfold Oper.wp;rw[hr];exact h
theorem Zrv {f:FuncId} {fn:Func} {dst:Option Tmp} {xs:List Operand} {ts:Array TypeId} {ty:TypeId} {pos:String} {after:Array Edge} {next:Act→World→Prop} (hf:P.funcs[f]? = some fn) (hn:fn.name≠ "runtime.NumGoroutine") (hb:fn.body≠none)
  (h:Calls P f ⟨xs.map a.eval⟩ w fun e w'=>∃v,e= .returned v∧next (a.put dst v) w'):(Oper.mk dst (.call ⟨.value (.func f),⟨xs⟩,ts⟩) ty pos after none).wp P a w next Q:=by
 have hr:(execOp a.eval (Oper.mk dst (.call ⟨.value (.func f),⟨xs⟩,ts⟩) ty pos after none)).run P w= .ok (.enter f ⟨xs.map a.eval⟩) w:=by
  simp[execOp,resolve,Deferred.ofValue,Act.eval,invoke,callFunc,program,Sem.run,hf,hb,hn]
 unfold Oper.wp;rw[hr];show Calls P f ⟨xs.map a.eval⟩ w _;refine h.mono fun e w' h=> ?_
 obtain⟨v,rfl,h2⟩:=h;exact h2
end
open Go.RowKit
section
variable {P:Program} {a:Act} {w:World} {Q:Exit→Act→World→Prop}
theorem ZoP {i1 i2:Nat} {s t1 t2 t3 t4 r N sf cf:Nat} {fn fn':Func} {y1 y2 y3 y4 y5:TypeId} {ts ts':Array TypeId} {p1 p2 p3 p4 p5:String} {q1 q2 q3 q4 q5:Array Edge} {Φ:Exit→Act→World→Prop}
  (hN:a.tmps.size=N) (b1:t1<N) (b2:t2<N) (b3:t3<N) (b4:t4<N) (b5:r<N) (n1:t1≠s) (n2:t2≠s) (hf:P.funcs[sf]? = some fn) (hn:fn.name≠ "runtime.NumGoroutine") (hb:fn.body≠none) (hf':P.funcs[cf]? = some fn') (hn':fn'.name≠ "runtime.NumGoroutine") (hb':fn'.body≠none)
  (h:Calls P sf #[a.tmps.getD s undef] w fun e w'=>∃v,e= .returned v∧Calls P cf #[a.tmps.getD s undef] w' fun e w''=>∃u,e= .returned u∧ ∀a',a'.defers=a.defers→a'.tmps.getD r undef=u→Φ .ret a' w''):
  (Code.seq (.region i1 #[Oper.mk (some t1) (.move (.tmp s)) y1 p1 q1 none,Oper.mk (some t2) (.call ⟨.value (.func sf),#[.tmp t1],ts⟩) y2 p2 q2 none] false)
   (.seq (.region i2 #[Oper.mk (some t3) (.move (.tmp s)) y3 p3 q3 none,Oper.mk (some t4) (.call ⟨.value (.func cf),#[.tmp t3],ts'⟩) y4 p4 q4 none,Oper.mk (some r) (.assign (.tmp t4)) y5 p5 q5 none] false) .ret)).wp P Φ a w:=by
 refine wp_seq (wp_region ?_);refine Zhj rfl rfl (Zvl ?_);refine Zhj rfl rfl (Zrv (xs:= [.tmp t1]) hf hn hb ?_);have e1:(a.put (some t1) (a.eval (.tmp s))).eval (.tmp t1)=a.tmps.getD s undef:=by
  simp[Act.put,Act.eval,hN,b1]
 have e2:(⟨List.map (a.put (some t1) (a.eval (.tmp s))).eval [.tmp t1]⟩:Array Value)= #[a.tmps.getD s undef]:=by
  simp only[List.map_cons,List.map_nil,e1]
 rw[e2];refine h.mono fun e w' ⟨v,he,hk⟩=>⟨v,he,?_⟩
 show(Exit.then _ Φ) .normal _ _;refine wp_seq (wp_region ?_);refine Zhj rfl rfl (Zvl ?_);refine Zhj rfl rfl (Zrv (xs:= [.tmp t3]) hf' hn' hb' ?_);have e3:(⟨List.map (((((a.put (some t1) (a.eval (.tmp s))).put (some t2) v).put (some t3) (((a.put (some t1) (a.eval (.tmp s))).put (some t2) v).eval (.tmp s))))).eval [.tmp t3]⟩:Array Value)= #[a.tmps.getD s undef]:=by
  simp[Act.put,Act.eval,hN,b1,b2,b3,Array.getD_eq_getD_getElem?,Array.getElem?_setIfInBounds,n1,n2]
 rw[e3];refine hk.mono fun e w'' ⟨u,he,hk⟩=>⟨u,he,?_⟩
 refine Zhj rfl rfl (Zvk ?_);show(Exit.then _ Φ) .normal _ _;refine wp_ret (hk _ rfl ?_);simp[Act.put,Act.eval,hN,b1,b2,b3,b4,b5,Array.getD_eq_getD_getElem?,Array.getElem?_setIfInBounds]
end
open Go.RowKit
inductive Pub (K:Ref→Prop) (m:Hp):PV→PV→Prop
 |keep (p:PV) (h:∀i∈p.ids,K i):Pub K m p p
 |row (id:Nat) (es:List PV):Pub K m (.sl (.row id) es) (.sl .no es)
 |vec (id n sz:Nat) (es es':List PV) (hk:¬K (.r id)) (hv:m.v id=some es) (hn:es.length=n) (hl:es'.length=es.length) (hc:∀p∈es',p.ids= []) (h:∀i,i<es.length→Pub K m (es.getD i .any) (es'.getD i .any)):Pub K m (.vsl id n sz) (.sl .no es')
 |blk (id off:Nat) (cs cs':List PV) (hk:¬K (.b id)) (hh:m.h id=some cs) (hz:m.z id=false) (hl:cs'.length=cs.length) (hc:∀p∈cs',p.ids= []) (h:∀i,i<cs.length→Pub K m (cs.getD i .any) (cs'.getD i .any)):Pub K m (.ptr id off) (.rptr (cs'.drop off))
 |frozen (id off:Nat) (cs:List PV) (hh:m.h id=some cs) (hz:m.z id=true):Pub K m (.ptr id off) (.rptr (cs.drop off))
 |agg (cs cs':List PV) (hl:cs'.length=cs.length) (h:∀i,i<cs.length→Pub K m (cs.getD i .any) (cs'.getD i .any)):Pub K m (.agg cs) (.agg cs')
 |tup (cs cs':List PV) (hl:cs'.length=cs.length) (h:∀i,i<cs.length→Pub K m (cs.getD i .any) (cs'.getD i .any)):Pub K m (.tup cs) (.tup cs')
 |fn (f:FuncId) (cs cs':List PV) (hl:cs'.length=cs.length) (h:∀i,i<cs.length→Pub K m (cs.getD i .any) (cs'.getD i .any)):Pub K m (.fn f cs) (.fn f cs')
theorem Pub.clean {K:Ref→Prop} {m:Hp} {p:PV} (h:p.ids= []):Pub K m p p:= .keep p (by rw[h];simp)
theorem Pub.agg_of {K:Ref→Prop} {m:Hp} {cs:List PV} {p:PV} (h:Pub K m (.agg cs) p):∃cs',p= .agg cs'∧cs'.length=cs.length:=by
 cases h with
 |keep _ h=>exact⟨cs,rfl,rfl⟩
 |agg _ cs' hl h=>exact⟨cs',rfl,hl⟩
theorem Pub.not_agg {K:Ref→Prop} {m:Hp} {p p':PV} (h:Pub K m p p') (hp:∀cs,p≠ .agg cs):p.cells= [p]∧p'.cells= [p']:=by
 cases h with
 |keep _ h=>cases p<;>first|exact⟨rfl,rfl⟩|exact absurd rfl (hp _)
 |agg cs=>exact absurd rfl (hp _)
 |_=>exact⟨rfl,rfl⟩
section
variable {P:Program} {B:Frm} {S:Stable} {M:Maps} {s:St} {a:Act} {w:World}
def Zwx (K:Ref→Prop) (M:Maps) (m:Hp) (b:Nat):Prop:=
 (∃id es,m.v id=some es∧ ¬K (.r id)∧0<M.κ id∧M.ψ id=b)∨ ∃id cs,m.h id=some cs∧m.z id=false∧ ¬K (.b id)∧M.φ id=b
open Classical in
noncomputable def pubS (K:Ref→Prop) (S:Stable) (M:Maps) (m:Hp) (w:World):Stable:=⟨fun b o=>if Zwx K M m b then w.cell? ⟨b,o,none⟩else S b o,S.m⟩
theorem ZpJ {K:Ref→Prop} {m:Hp} {b o:Nat} (h:Zwx K M m b):(pubS K S M m w).c b o=w.cell? ⟨b,o,none⟩:=by simp[pubS,h]
theorem ZfY {K:Ref→Prop} {m:Hp} {b o:Nat} (h:¬Zwx K M m b):(pubS K S M m w).c b o=S b o:=by simp[pubS,h]
theorem Zn7 {K:Ref→Prop} (hs:Sim B S M s a w) {b:Nat} (h:Zwx K M s.m b):¬B b∧(∀o,S b o=none):=by
 rcases h with ⟨id,es,h1,_,h3,rfl⟩|⟨id,cs,h1,h2,_,rfl⟩
 ·obtain⟨sz,e,q⟩:=hs.vec_q h1;obtain⟨_,g⟩:=hs.row id _ q;obtain⟨_,_,g3,_,g5⟩:=g (M.κ id-1) (by omega);exact⟨g3,g5⟩
 ·obtain⟨g1,g2,_⟩:=hs.own h1 h2;exact⟨g1,g2⟩
theorem ZjJ {K:Ref→Prop} (hs:Sim B S M s a w):SLe S (pubS K S M s.m w):= .cells rfl fun b o v hv=>by
 rw[ZfY]
 ·exact hv
 ·intro h;rw[(Zn7 hs h).2 o]at hv;cases hv
theorem Zn8 {K:Ref→Prop} (hs:Sim B S M s a w):StabS (pubS K S M s.m w) w:=⟨fun b o v hv=>by
 by_cases h:Zwx K M s.m b
 ·rw[ZpJ h]at hv;exact hv
 ·rw[ZfY h]at hv;exact hs.stable b o v hv,hs.stable.s.m⟩
theorem Zxz {K:Ref→Prop} (hs:Sim B S M s a w) {b:Nat} (h:B b):(∀o,(pubS K S M s.m w).c b o=S b o)∧(pubS K S M s.m w).m b=S.m b:=
 ⟨fun o=>ZfY fun hp=>(Zn7 hs hp).1 h,rfl⟩
theorem Pub.rep {K:Ref→Prop} (hs:Sim B S M s a w) {p p':PV} (hp:Pub K s.m p p'):∀v,RepS S M s.m.q v p→RepS (pubS K S M s.m w) M s.m.q v p':=by
 have mono:∀ {v p},RepS S M s.m.q v p→RepS (pubS K S M s.m w) M s.m.q v p:=fun r=>r.heap (ZjJ hs) (fun _ _=>rfl) (fun _ _=> .refl _ _ _)
 -- a row of cells,element by element
 have cells:∀ {e e':PV} {us:List Value},Pub K s.m e e'→(∀v,RepS S M s.m.q v e→RepS (pubS K S M s.m w) M s.m.q v e')→us.length=e.cells.length→(∀j,j<e.cells.length→RepS S M s.m.q (us.getD j undef) (e.cells.getD j .any))→
   e'.cells.length=e.cells.length∧ ∀j,j<e.cells.length→RepS (pubS K S M s.m w) M s.m.q (us.getD j undef) (e'.cells.getD j .any):=by
  intro e e' us hp ih hl hr
  by_cases he:∃cs,e= .agg cs
  ·obtain⟨cs,rfl⟩:=he;obtain⟨cs',rfl,hl'⟩:=hp.agg_of;obtain⟨us',e1,e2,e3⟩:=(ih (.agg ⟨us⟩) (.agg us cs hl hr)).agg_inv;simp only[Value.agg.injEq,Array.mk.injEq]at e1;subst e1;exact⟨hl',fun j hj=>e3 j (by simp only[PV.cells]at hj;omega)⟩
  ·obtain⟨c1,c2⟩:=hp.not_agg (fun cs e=>he ⟨cs,e⟩);rw[c1]at hl hr ⊢;rw[c2];refine⟨rfl,fun j hj=> ?_⟩;have hj0:j=0:=by simpa using hj
   subst hj0;exact ih _ (hr 0 hj)
 induction hp with
 |keep p h=>exact fun v r=>mono r
 |row id es=>exact fun v r=> .clean ((r.sl_inv).mono (ZjJ hs))
 |vec id n sz es es' hk hv hn hl hc h ih=>
  intro v r;subst hn;obtain⟨sz',e,q1,r1,r2,r4⟩:=hs.vc id es hv;obtain⟨_,t⟩:=r.vsl_inv;obtain⟨_,t2⟩:=t _ _ _ q1;obtain⟨rfl,t3,t4⟩:=t2 rfl;obtain⟨o1,o2⟩:=hs.row id _ q1;cases hκ:M.κ id with
  |zero=>
   have h0:=o1 hκ;rw[t3 hκ,List.eq_nil_of_length_eq_zero (hl.trans h0)];exact .clean (.sl0 none 0)
  |succ c=>
   obtain⟨k1,k2,k3,⟨vs,k5,k6⟩,k4⟩:=o2 c hκ;have k7:=r4 c hκ vs e (0,0) k5;have hb:Zwx K M s.m (M.ψ id):= .inl ⟨id,es,hv,hk,by omega,rfl⟩;have ix:∀ {i j},i<es.length→j<sz'→i*sz'+j<vs.length:=fun {i j} hi hj=>by
    rw[k6]
    calc i*sz'+j<i*sz'+sz':=by omega
     _=(i+1)*sz':=by rw[Nat.add_mul,Nat.one_mul]
     _≤c*sz':=Nat.mul_le_mul_right _ (by omega)
   have el:∀i,i<es.length→(es'.getD i .any).cells.length=sz'∧ ∀j,j<sz'→RepS (pubS K S M s.m w) M s.m.q (vs.getD (i*sz'+j) undef) ((es'.getD i .any).cells.getD j .any):=fun i hi=>by
    have hlen:=(r1 _ (Zg (d:= .any) hi)).1;have:=cells (us:=(vs.drop (i*sz')).take sz') (h i hi) (ih i hi) (by
     rw[hlen,List.length_take,List.length_drop];have:i*sz'+sz'≤vs.length:=by
      rw[k6]
      calc i*sz'+sz'=(i+1)*sz':=by rw[Nat.add_mul,Nat.one_mul]
       _≤c*sz':=Nat.mul_le_mul_right _ (by omega)
     omega) (fun j hj=>by
     rw[Zbp (by omega),ZbE];exact k7 i j hi (by omega))
    obtain⟨a1,a2⟩:=this;refine⟨a1.trans hlen,fun j hj=> ?_⟩;have:=a2 j (by omega);rw[Zbp hj,ZbE]at this;exact this
   rw[t4 c hκ];have hsl:Rep (pubS K S M s.m w) (.slice (some ⟨M.ψ id,0,none⟩) es'.length c) (.sl .no es'):=
    .sl (M.ψ id) 0 c sz' es' (fun i j=>vs.getD (i*sz'+j) undef) (fun i hi=>(el i (by omega)).1) (by omega) (fun i j hi hj=>by
     rw[ZpJ hb,Zbx k5,Nat.zero_add,List.getElem?_eq_getElem (ix (by omega) hj),getD_lt (ix (by omega) hj)]) (fun i j hi hj=>by
     refine((el i (by omega)).2 j hj).alone ?_;have hid:=hc _ (Zg (d:= .any) hi);cases hids:((es'.getD i .any).cells.getD j .any).ids with
     |nil=>rfl
     |cons x xs=>
      have:=Zav (p:=es'.getD i .any) (Zg (d:= .any) (by rw[(el i (by omega)).1];exact hj)) (k:=x) (by rw[hids];simp);rw[hid]at this;cases this)
   rw[hl]at hsl;exact .clean hsl
 |blk id off cs cs' hk hh hz hl hc h ih=>
  intro v r;rw[r.ptr_inv];obtain⟨g1,g2,⟨vs,t,g3,g4,g5⟩,g6⟩:=hs.own hh hz;have hb:Zwx K M s.m (M.φ id):= .inr ⟨id,cs,hh,hz,hk,rfl⟩;refine .clean (.rptr (M.φ id) off _ (fun j=>vs.getD (off+j) undef) (fun j hj=> ?_) (fun j hj=> ?_))
  ·simp only[List.length_drop]at hj;rw[ZpJ hb,Zbx g3,List.getElem?_eq_getElem (by omega),getD_lt (by omega)]
  ·simp only[List.length_drop]at hj;rw[ZbE];exact(ih (off+j) (by omega) _ (g5 (off+j) (by omega))).alone (hc _ (Zg (by omega)))
 |frozen id off cs hh hz=>
  intro v r;have:=(r.give hs ⟨hz,by rw[hh];simp⟩);simp only[PV.give,hz,hh]at this;exact .clean (this.mono (ZjJ hs))
 |agg cs cs' hl h ih=>
  intro v r;obtain⟨vs,rfl,hl',hr⟩:=r.agg_inv;exact .agg vs cs' (by omega) fun i hi=>ih i (by omega) _ (hr i (by omega))
 |tup cs cs' hl h ih=>
  intro v r;obtain⟨vs,rfl,hl',hr⟩:=r.tup_inv;exact .tup vs cs' (by omega) fun i hi=>ih i (by omega) _ (hr i (by omega))
 |fn f cs cs' hl h ih=>
  intro v r;obtain⟨vs,rfl,hl',hr⟩:=r.fn_inv;exact .fn f vs cs' (by omega) fun i hi=>ih i (by omega) _ (hr i (by omega))
theorem Pub.cells_shape {K:Ref→Prop} {m:Hp} {p p':PV} (h:Pub K m p p'):p'.cells.length=p.cells.length∧(p.cells.all PV.atom=true→p'.cells.all PV.atom=true):=by
 have at1:∀ {x y:PV},Pub K m x y→x.atom=true→y.atom=true:=fun h hx=>by
  cases h<;>first|exact hx|rfl|(simp[PV.atom]at hx)
 by_cases he:∃cs,p= .agg cs
 ·obtain⟨cs,rfl⟩:=he;cases h with
  |keep _ h=>exact⟨rfl,fun h=>h⟩
  |agg _ cs' hl h=>
   refine⟨hl,fun hall=> ?_⟩;simp only[PV.cells,List.all_eq_true]at hall ⊢;intro y hy;obtain⟨i,hi,rfl⟩:=List.getElem_of_mem hy;have:=h i (by omega);rw[getD_lt (by omega),getD_lt hi]at this;exact at1 this (hall _ (List.getElem_mem _))
 ·obtain⟨c1,c2⟩:=h.not_agg (fun cs e=>he ⟨cs,e⟩);rw[c1,c2];exact⟨rfl,fun hx=>by simpa using at1 h (by simpa using hx)⟩
theorem Pub.cells_rep {K:Ref→Prop} (hs:Sim B S M s a w) {e e':PV} {us:List Value} (hp:Pub K s.m e e') (hl:us.length=e.cells.length) (hr:∀j,j<e.cells.length→RepS S M s.m.q (us.getD j undef) (e.cells.getD j .any)):
  ∀j,j<e.cells.length→RepS (pubS K S M s.m w) M s.m.q (us.getD j undef) (e'.cells.getD j .any):=by
 by_cases he:∃cs,e= .agg cs
 ·obtain⟨cs,rfl⟩:=he;obtain⟨cs',rfl,hl'⟩:=hp.agg_of;obtain⟨us',e1,e2,e3⟩:=(hp.rep hs (.agg ⟨us⟩) (.agg us cs hl hr)).agg_inv;simp only[Value.agg.injEq,Array.mk.injEq]at e1;subst e1;exact fun j hj=>e3 j (by simp only[PV.cells]at hj;omega)
 ·obtain⟨c1,c2⟩:=hp.not_agg (fun cs e=>he ⟨cs,e⟩);rw[c1]at hl hr ⊢;rw[c2];intro j hj;have hj0:j=0:=by simpa using hj
  subst hj0;exact hp.rep hs _ (hr 0 hj)
def Zhf (P:Program) (r:PV) (s:St):List PV→List ResultVar→Prop
 |acc,[]=>r=Zvp acc.reverse
 |acc,.tmp t::rs=>Zhf P r s (s.fr t::acc) rs
 |acc,.cell t ty::rs=>tkn P ty=true∧(Zd4 P ty (s.fr t) s.m).ok∧Zhf P r s ((Zd4 P ty (s.fr t) s.m).v::acc) rs
theorem Zh1 {r:PV} {s:St}:∀(rs:List ResultVar) (acc:List PV),Zhf P r s acc rs→
  Zkd (rs.map (Zif P s))∧r=Zvp (acc.reverse++rs.map fun x=>(Zif P s x).v)
 | [],acc,h=>by simpa[Zhf,Zkd]using h
 | .tmp t::rs,acc,h=>by
  obtain⟨h1,h2⟩:=Zh1 rs _ h;exact⟨⟨trivial,h1⟩,by simpa[Zif]using h2⟩
 | .cell t ty::rs,acc,h=>by
  obtain⟨h0,h0',h⟩:=h;obtain⟨h1,h2⟩:=Zh1 rs _ h;refine⟨⟨?_,h1⟩,?_⟩
  ·simpa[Zif,h0]using h0'
  ·simpa[Zif,h0]using h2
theorem ZoL {fn:Func} {r:PV} {rs:List ResultVar} (hs:Sim B S M s a w) (hrs:fn.results=rs.toArray) (h:Zhf P r s [] rs):∃v,(results fn a.tmps).run P w= .ok v w∧RepS S M s.m.q v r:=by
 obtain⟨g1,g2⟩:=Zh1 rs [] h;have hl:fn.results.toList=rs:=by rw[hrs]
 have g1':Zkd (fn.results.toList.map (Zif P s)):=by rw[hl];exact g1
 obtain⟨v,hv,hrv⟩:=ZeQ hs g1';rw[hl]at hrv;refine⟨v,hv,?_⟩;rw[g2];simpa using hrv
def Zyg (P:Program) (rs:List ResultVar) (r:PV):Exit→St→Prop
 | .normal,s=>∃r0,Zhf P r0 s [] rs∧Pub (fun _=>False) s.m r0 r
 | .ret,s=>∃r0,Zhf P r0 s [] rs∧Pub (fun _=>False) s.m r0 r
 |_,_=>False
theorem Zqg (rs:List ResultVar) (r:PV) (s:St):@vQ ⟨Zyg P rs r⟩ .ret s= ∃r0,Zhf P r0 s [] rs∧Pub (fun _=>False) s.m r0 r:=rfl
theorem Zkr (rs:List ResultVar) (r:PV) (s:St):@vQ ⟨Zyg P rs r⟩ .normal s= ∃r0,Zhf P r0 s [] rs∧Pub (fun _=>False) s.m r0 r:=rfl
def St.vms (s:St) (l:List Nat):St:=s.with { s.m with vm:=ZaN (l.map fun i=>(i,true)) fun _=>false }
theorem Zxj {c:Code} {Q:Exit→St→Prop} (f:Nat→Bool) (h:awp P c Q (s.with { s.m with vm:=f })):awp P c Q s:=fun B S M a w hs=>by
 have live:∀i,ZS s.m i→ZS { s.m with vm:=f } i:=fun i h=>by cases i<;>exact h
 refine h B S M a w ⟨hs.defers,hs.hn,hs.hB,hs.stable,hs.fr,fun i k hk=>live k (hs.ids i k hk),fun i b hb=> ?_,hs.row,hs.inj,hs.injq,hs.injx,fun b c hc=> ?_,fun i es he=> ?_,⟨hs.pn.h,hs.pn.q⟩⟩
 ·have hb':=hs.blk i b hb;show Zhm _ _ _ _ _ _ _ (s.m.z i);cases hz:s.m.z i with
  |false=>
   rw[hz]at hb';obtain⟨h1,h2,⟨us,t',h3,h4,h5⟩,h6⟩:=hb';exact⟨h1,h2,⟨us,t',h3,h4,h5⟩,fun c hc k hk=>live k (h6 c hc k hk)⟩
  |true=>rw[hz]at hb';exact hb'
 ·obtain⟨g1,g2,g3,g4⟩:=hs.rm b c hc;exact⟨g1,g2,g3,g4.move (SLe.refl _) rfl (fun v p r _=>r) live⟩
 ·exact(hs.vc i es he).move (fun _ _ _ h=>h) rfl rfl (fun _=>rfl) (fun v p r _=>r) live
theorem Pure.of_p (vm:List Nat) {f:FuncId} {fn:Func} {c:Code} {args:List PV} {r:PV} {n:Nat} {rs:List ResultVar} (hf:P.funcs[f]? = some fn) (hname:fn.name≠ "runtime.NumGoroutine") (hb:fn.body=some c) (hn:fn.ntmps=n) (hrs:fn.results=rs.toArray) (hl:args.length≤n) (hi:r.dids= [])
  (h:@vC P ⟨c⟩ ⟨Zyg P rs r⟩ ((St.init args n).vms vm)):Pure P f args r:=by
 subst hn;refine⟨⟨fn,hf,hname,by rw[hb];rfl⟩,hi,fun w S vs hst hlen hr=> ?_⟩;refine calls_of_wp hf hb ?_;have hs:=Zg6 (B:=fun k=>k<w.heap.size) (w:=w) (n:=fn.ntmps) (o:=fun _=>none) hl hlen hr (fun k hk=>hk) ⟨hst,fun k d hd=>(by cases hd),fun k x hx=>(by cases hx)⟩;have hsz:(⟨vs⟩:Array Value).size=vs.length:=by simp
 rw[hsz];refine wp_mono (Zxj _ (Z1 _ _ _ h) _ S _ _ w hs) fun e a' w' hq=> ?_
 obtain⟨s',S',M',h1,h2,h3⟩:=hq;have fin:(∃r0,Zhf P r0 s' [] rs∧Pub (fun _=>False) s'.m r0 r)→a'.defers= []∧ ∃v,(results fn a'.tmps).run P w'= .ok v w'∧ ∃v' S',Ending.returned v= .returned v'∧Rep S' v' r∧StabS S' w'∧SLe S S'∧(∀b,b<w.heap.size→(∀o,S' b o=S b o)∧S'.m b=S.m b)∧Below w.heap.size w w':=by
  rintro ⟨r0,g1,g2⟩
  obtain⟨v,hv,hrv⟩:=ZoL h2 hrs g1;have hp:=(g2.rep h2 v hrv).alone (List.eq_nil_iff_forall_not_mem.2 fun k hk=>by have:=ZeJ _ hk;rw[hi]at this;cases this);refine⟨h2.defers,v,hv,v,_,rfl,hp,Zn8 h2,h3.1.trans (ZjJ h2),fun b hb=> ?_,h3.2.2.to⟩;obtain⟨q1,q2⟩:=Zxz (K:=fun _=>False) h2 (b:=b) hb;obtain⟨q3,q4⟩:=h3.2.1 b hb;exact⟨fun o=>(q1 o).trans (q3 o),q2.trans q4⟩
 cases e with
 |normal=>exact fin h1
 |ret=>exact fin h1
 |_=>exact h1.elim
def MemL.hpP (m:MemL) (p:Nat→Nat) (q:Nat→Option (Nat×Nat×Nat)):Hp:= { m.hp with ph:=ZaN (m.H.map fun x=>(x.1,some (p x.1))) fun _=>none,pq:=ZaN (m.R.map fun x=>(x.1,q x.1)) fun _=>none }
theorem Zu0 {α β:Type} {L:List (Nat×α)} {F:Nat→Option β} {i:Nat} {y:β} (h:ZaN (L.map fun x=>(x.1,F x.1)) (fun _=>none) i=some y):F i=some y∧ ∃x∈L,x.1=i:=by
 induction L with
 |nil=>cases h
 |cons x L ih=>
  have h':upd (ZaN (L.map fun x=>(x.1,F x.1)) fun _=>none) x.1 (F x.1) i=some y:=h
  by_cases e:x.1=i
  ·rw[e,Zb]at h';exact⟨h',x,by simp,e⟩
  ·rw[Zm _ _ e]at h';obtain⟨h1,z,hz,hzi⟩:=ih h';exact⟨h1,z,by simp[hz],hzi⟩
structure ERet (P:Program) (rs:List ResultVar) (r:PV) (m0 m1:MemL) (ph:Nat→Nat) (pq:Nat→Option (Nat×Nat×Nat)) (s:St):Prop where
 r:∃r0,Zhf P r0 s [] rs∧Pub m1.has s.m r0 r
 h:∀x∈m1.H,∃cs,s.m.h x.1=some cs∧s.m.z x.1=false∧x.2.length=cs.length∧ ∀i,i<cs.length→Pub m1.has s.m (cs.getD i .any) (x.2.getD i .any)
 q:∀x∈m1.R,s.m.q x.1=some x.2
 v:∀x∈m1.V,∃es,s.m.v x.1=some es∧x.2.length=es.length∧ ∀i,i<es.length→Pub m1.has s.m (es.getD i .any) (x.2.getD i .any)
 ph:∀x∈m0.H,s.m.ph x.1=some (ph x.1)
 pq:∀x∈m0.R,s.m.pq x.1=pq x.1
def Zl7 (P:Program) (rs:List ResultVar) (r:PV) (m0 m1:MemL) (ph:Nat→Nat) (pq:Nat→Option (Nat×Nat×Nat)):Exit→St→Prop
 | .normal,s=>ERet P rs r m0 m1 ph pq s
 | .ret,s=>ERet P rs r m0 m1 ph pq s
 |_,_=>False
theorem Zqe (rs:List ResultVar) (r:PV) (m0 m1:MemL) (ph:Nat→Nat) (pq:Nat→Option (Nat×Nat×Nat)) (s:St):@vQ ⟨Zl7 P rs r m0 m1 ph pq⟩ .ret s=ERet P rs r m0 m1 ph pq s:=rfl
theorem Zkq (rs:List ResultVar) (r:PV) (m0 m1:MemL) (ph:Nat→Nat) (pq:Nat→Option (Nat×Nat×Nat)) (s:St):@vQ ⟨Zl7 P rs r m0 m1 ph pq⟩ .normal s=ERet P rs r m0 m1 ph pq s:=rfl
def Row.compat:Row→Row→Prop
 | .live _ sz e,.live _ sz' e'=>sz=sz'∧e=e'
 | .vec _ sz e,.vec _ sz' e'=>sz=sz'∧e=e'
 |_,.dead=>True
 |_,_=>False
theorem ZtT {q:Rows} {vs:List Value} {args:List PV} {n:Nat} (hl:vs.length=args.length) (hr:∀i,i<args.length→RepS S M q (vs.getD i undef) (args.getD i .any)) (i:Nat):
  RepS S M q (((⟨vs⟩:Array Value)++Array.replicate (n-vs.length) undef).getD i undef) (Zdo 0 args i):=by
 rw[Zdp args 0 i (Nat.zero_le _),Nat.sub_zero]
 by_cases hi:i<args.length
 ·have:=hr i hi;rw[getD_lt hi]at this ⊢;rw[getD_lt (by omega)]at this;have e:((⟨vs⟩:Array Value)++Array.replicate (n-vs.length) undef).getD i undef=vs[i]'(by omega):=by
   rw[Array.getD_eq_getD_getElem?,Array.getElem?_append_left (by simp;omega)];simp[show i<vs.length by omega]
  rw[e];exact this
 ·rw[Zdk (by omega)];have e:((⟨vs⟩:Array Value)++Array.replicate (n-vs.length) undef).getD i undef=undef:=by
   rw[Array.getD_eq_getD_getElem?,Array.getElem?_append_right (by simp;omega)];simp only[Array.getElem?_replicate];split<;>rfl
  rw[e];exact .clean (.tup [] [] rfl (fun i hi=>by simp at hi))
theorem ZtS {args:List PV} {m:MemL} (ca:∀p∈args,∀i∈p.ids,m.has i) (i:Nat) (k:Ref) (hk:k∈(Zdo 0 args i).ids):m.has k:=by
 rw[Zdp args 0 i (Nat.zero_le _),Nat.sub_zero]at hk
 by_cases hi:i<args.length
 ·rw[getD_lt hi]at hk;exact ca _ (List.getElem_mem hi) k hk
 ·rw[Zdk (by omega)]at hk;simp[PV.ids,PV.idsL]at hk
open Classical in
theorem Eff.of_v (vm:List Nat) {f:FuncId} {fn:Func} {c:Code} {args:List PV} {m0 m1:MemL} {r:PV} {n:Nat} {rs:List ResultVar} (hf:P.funcs[f]? = some fn) (hname:fn.name≠ "runtime.NumGoroutine") (hb:fn.body=some c) (hn:fn.ntmps=n) (hrs:fn.results=rs.toArray) (hl:args.length≤n)
  (ok0:m0.Ok) (ok1:m1.Ok) (ca:∀p∈args,∀i∈p.ids,m0.has i) (cr:∀i∈r.ids,m1.has i) (kh:∀x∈m0.H,∃y∈m1.H,y.1=x.1) (kr:∀x∈m0.R,∃y∈m1.R,y.1=x.1∧Row.compat x.2 y.2)
  (h:∀ph pq,@vC P ⟨c⟩ ⟨Zl7 P rs r m0 m1 ph pq⟩ (St.vms ⟨Zdo 0 args,m0.hpP ph pq,n⟩ vm)):Eff P f args m0 r m1:=by
 subst hn;refine⟨⟨fn,hf,hname,by rw[hb];rfl⟩,ok0,ok1,ca,cr,fun i hi=> ?_,fun B S M w vs hs0 hlen hr=> ?_⟩
 ·cases i with
  |b i=>obtain⟨y,hy,rfl⟩:=hi;exact kh y hy
  |r i=>obtain⟨y,hy,rfl⟩:=hi;obtain⟨z,hz,e,_⟩:=kr y hy;exact⟨z,hz,e⟩
 refine calls_of_wp hf hb ?_
 let ph:Nat→Nat:=M.φ
 let pq:Nat→Option (Nat×Nat×Nat):=fun i=>match m0.hp.q i with|some r=>(match r.len with|some n=>some (n,M.κ i,M.ψ i)|none=>none)|none=>none
 have hs:Sim B S M ⟨Zdo 0 args,m0.hpP ph pq,fn.ntmps⟩ { tmps:=⟨vs⟩++Array.replicate (fn.ntmps-vs.length) undef,defers:= [] } w:=by
  refine⟨rfl,by simp;omega,hs0.hB,hs0.stable,fun i=>ZtT hlen hr i,fun i k hk=> ?_,hs0.blk,hs0.row,hs0.inj,hs0.injq,hs0.injx,hs0.rm,hs0.vc,⟨fun i b hb=> ?_,fun i n k b hb=> ?_⟩⟩
  ·have:=ok0.live (ZtS ca i k hk);cases k<;>exact this
  ·have hb:ZaN (m0.H.map fun x=>(x.1,some (ph x.1))) (fun _=>none) i=some b:=hb;obtain⟨h1,x,hx,rfl⟩:=Zu0 (F:=fun i=>some (ph i)) hb;cases h1;exact⟨ok0.live (i:= .b x.1) ⟨x,hx,rfl⟩,rfl⟩
  ·have hb:ZaN (m0.R.map fun x=>(x.1,pq x.1)) (fun _=>none) i=some (n,k,b):=hb;have hb:=(Zu0 (F:=pq) hb).1;simp only[pq]at hb;cases hq0:m0.hp.q i with
   |none=>rw[hq0]at hb;cases hb
   |some r0=>
    rw[hq0]at hb;cases hl0:r0.len with
    |none=>simp only[hl0]at hb;cases hb
    |some n0=>
     simp only[hl0,Option.some.injEq,Prod.mk.injEq]at hb;obtain⟨rfl,rfl,rfl⟩:=hb;refine⟨fun e=>(by have e:m0.hp.q i=none:=e;rw[hq0]at e;cases e),fun r1 n1 h1 h2=> ?_⟩;have h1:m0.hp.q i=some r1:=h1;rw[hq0]at h1;cases h1;rw[hl0]at h2;cases h2;exact⟨Nat.le_refl _,fun _=>⟨rfl,rfl⟩⟩
 have hsz:(⟨vs⟩:Array Value).size=vs.length:=by simp
 rw[hsz];refine wp_mono (Zxj _ (Z1 _ _ _ (h ph pq)) _ S _ _ w hs) fun e a' w' hq=> ?_
 obtain⟨s',S',M',h1,h2,h3⟩:=hq;have fin:ERet P rs r m0 m1 ph pq s'→a'.defers= []∧ ∃v,(results fn a'.tmps).run P w'= .ok v w'∧ ∃v' S1 M1,Ending.returned v= .returned v'∧RepS S1 M1 m1.hp.q v' r∧Sim B S1 M1 (ZsA m1.hp) ZvC w'∧Ext B S S1 w w'∧(∀x∈m0.H,M1.φ x.1=M.φ x.1)∧ ∀x∈m0.R,RowLe M M1 x.1 (m0.hp.q x.1) (m1.hp.q x.1):=by
  rintro ⟨⟨r0,g1,g2⟩,gh,gq,gv,gph,gpq⟩
  obtain⟨v,hv,hrv⟩:=ZoL h2 hrs g1
  -- what is kept,told by the smaller memory
  have down:∀ {v p},RepS (pubS m1.has S' M' s'.m w') M' s'.m.q v p→(∀i∈p.ids,m1.has i)→RepS (pubS m1.has S' M' s'.m w') M' m1.hp.q v p:=fun rr hids=>
   rr.heap (SLe.refl _) (fun _ _=>rfl) fun i hi=>by
    obtain⟨y,hy,rfl⟩:=hids _ hi;rw[ok1.q_at hy,gq y hy];exact .refl _ _ _
  have hP:∀ {i},m1.has (.b i)→ ∀ {cs},s'.m.h i=some cs→s'.m.z i=false→ ¬Zwx m1.has M' s'.m (M'.φ i):=fun {i} hi {cs} hc hz hp=>by
   rcases hp with ⟨id,es,e1,e2,e3,e4⟩|⟨id,cs',e1,e2,e3,e4⟩
   ·obtain⟨sz,e,q⟩:=h2.vec_q e1;exact h2.injx i id _ _ hc hz q rfl e3 e4.symm
   ·exact h2.inj id i _ _ e1 hc e2 hz (fun e=>e3 (e▸hi)) e4
  have hPr:∀ {i},m1.has (.r i)→ ∀ {r0},s'.m.q i=some r0→r0.own=true→0<M'.κ i→ ¬Zwx m1.has M' s'.m (M'.ψ i):=fun {i} hi {r0} hq ho hk hp=>by
   rcases hp with ⟨id,es,e1,e2,e3,e4⟩|⟨id,cs',e1,e2,e3,e4⟩
   ·obtain⟨sz,e,q⟩:=h2.vec_q e1;exact h2.injq id i _ _ q hq rfl ho e3 hk (fun e=>e2 (e▸hi)) e4
   ·exact h2.injx id i _ _ e1 e2 hq ho hk e4
  refine⟨h2.defers,v,hv,v,pubS m1.has S' M' s'.m w',M',rfl,down (g2.rep h2 v hrv) cr,⟨rfl,rfl,h2.hB,⟨Zn8 h2,fun b c hc=>(by cases hc),fun b x hx=>(by cases hx)⟩,fun i=> .clean (.any _),fun i id h=>(by simp[ZsA,PV.ids]at h),fun id cs hc=> ?_,fun id r1 hc=> ?_,fun id id' cs cs' hc hc' _ _ hne=> ?_,fun id id' r1 r2 hc hc' o o' k k' hne=> ?_,fun id id' cs r1 hc _ hc' o k=> ?_,fun b c hc=>(by cases hc),fun id es hc=> ?_,⟨fun _ _ h=>(by cases h),fun _ _ _ _ h=>(by cases h)⟩⟩,
   ⟨h3.1.trans (ZjJ h2),fun b hb=> ?_,h3.2.2⟩,fun x hx=> ?_,fun x hx=> ?_⟩
  ·have hx:=MemL.h_mem hc;obtain⟨cs0,e1,e2,e3,e4⟩:=gh _ hx;obtain⟨k1,k2,⟨us,t,k3,k4,k5⟩,k6⟩:=h2.own e1 e2;have hcl:∀c∈cs,∀i∈c.ids,m1.has i:=ok1.ch _ hx;have e3:cs.length=cs0.length:=e3;refine⟨k1,fun o=>by rw[ZfY (hP ⟨_,hx,rfl⟩ e1 e2)];exact k2 o,⟨us,t,k3,by omega,fun j hj=> ?_⟩,fun c hc' i hi=>ok1.live (hcl c hc' i hi)⟩;exact down ((e4 j (by omega)).rep h2 _ (k5 j (by omega))) (hcl _ (Zg hj))
  ·have hx:=MemL.q_mem hc;have hq:=gq _ hx;have hrow:=h2.row _ _ hq;cases r1 with
   |dead=>trivial
   |live n sz e=>
    obtain⟨o1,o2⟩:=hrow;refine⟨o1,fun c hc'=> ?_⟩;obtain⟨k1,k2,k3,k4,k5⟩:=o2 c hc';exact⟨k1,k2,k3,k4,fun o ho=>by rw[ZfY (hPr ⟨_,hx,rfl⟩ hq rfl (by simp only at hc' ⊢;omega))];exact k5 o ho⟩
   |vec n sz e=>
    obtain⟨o1,o2⟩:=hrow;refine⟨o1,fun c hc'=> ?_⟩;obtain⟨k1,k2,k3,k4,k5⟩:=o2 c hc';exact⟨k1,k2,k3,k4,fun o=>by rw[ZfY (hPr ⟨_,hx,rfl⟩ hq rfl (by simp only at hc' ⊢;omega))];exact k5 o⟩
  ·obtain⟨_,e1,e2,_⟩:=gh _ (MemL.h_mem hc);obtain⟨_,e3,e4,_⟩:=gh _ (MemL.h_mem hc');exact h2.inj _ _ _ _ e1 e3 e2 e4 hne
  ·exact h2.injq _ _ _ _ (gq _ (MemL.q_mem hc)) (gq _ (MemL.q_mem hc')) o o' k k' hne
  ·obtain⟨_,e1,e2,_⟩:=gh _ (MemL.h_mem hc);exact h2.injx _ _ _ _ e1 e2 (gq _ (MemL.q_mem hc')) o k
  ·have hx:=MemL.v_mem hc;obtain⟨es0,e1,e3,e4⟩:=gv _ hx;obtain⟨sz,e,q1,r1,r2,r4⟩:=h2.vc _ _ e1;have e3:es.length=es0.length:=e3;obtain⟨y,hy,hyx⟩:=ok1.vr _ hx;have hyx:y.1=id:=hyx;have hq:=gq y hy;rw[hyx]at hq;have hcl:∀c∈es,∀i∈c.ids,m1.has i:=ok1.cv _ hx;have hq2:m1.hp.q id=some (.vec es.length sz e):=by
    have h1:=ok1.q_at hy;rw[hyx]at h1;rw[h1,←hq,q1,e3]
   -- element by element
   have shape:∀i,i<es0.length→(es.getD i .any).cells.length=(es0.getD i .any).cells.length∧((es0.getD i .any).cells.all PV.atom=true→(es.getD i .any).cells.all PV.atom=true):=fun i hi=>by
    have hp:=e4 i hi;have hp:Pub m1.has s'.m (es0.getD i .any) (es.getD i .any):=hp;generalize es0.getD i .any=x at hp;generalize es.getD i .any=y at hp;exact hp.cells_shape
   refine⟨sz,e,hq2,fun p hp=> ?_,fun p hp i hi=>ok1.live (hcl p hp i hi),fun c hc' us t fz hus i j hi hj=> ?_⟩
   ·obtain⟨i,hi,rfl⟩:=List.getElem_of_mem hp;obtain⟨a1,a2⟩:=shape i (by omega);have hx0:=r1 _ (Zg (d:= .any) (by omega:i<es0.length));rw[getD_lt hi]at a1 a2;exact⟨a1.trans hx0.1,a2 hx0.2⟩
   ·have hi:i<es.length:=hi;have hx0:=r1 _ (Zg (d:= .any) (by omega:i<es0.length));have hp:Pub m1.has s'.m (es0.getD i .any) (es.getD i .any):=e4 i (by omega);have:=hp.cells_rep h2 (us:=(us.drop (i*sz)).take sz) (by
     obtain⟨o1,o2⟩:=h2.row _ _ q1;obtain⟨k1,k2,k3,⟨us',k4,k5⟩,_⟩:=o2 c hc';have hus:w'.heap[M'.ψ id]? = some (.cells ⟨us⟩ t fz):=hus;rw[k4]at hus;cases hus;rw[hx0.1,List.length_take,List.length_drop];have:i*sz+sz≤us.length:=by
      rw[k5]
      calc i*sz+sz=(i+1)*sz:=by rw[Nat.add_mul,Nat.one_mul]
       _≤c*sz:=Nat.mul_le_mul_right _ (by omega)
     omega) (fun l hl=>by
     rw[Zbp (by omega),ZbE];exact r4 c hc' us t fz hus i l (by omega) (by omega)) j (by omega)
    rw[Zbp hj,ZbE]at this;have hl2:=(shape i (by omega)).1;exact down this fun k hk=>hcl (es.getD i .any) (Zg hi) k (Zav (Zg (by omega)) hk)
  ·obtain⟨q1,q2⟩:=Zxz (K:=m1.has) h2 (b:=b) hb;obtain⟨q3,q4⟩:=h3.2.1 b hb;exact⟨fun o=>(q1 o).trans (q3 o),q2.trans q4⟩
  ·exact(h2.pn.h x.1 _ (gph x hx)).2
  ·obtain⟨y,hy,hyx,hk⟩:=kr x hx;have hq0:=ok0.q_at hx;have hq1:=ok1.q_at hy;have hs1:=gq y hy;rw[hyx]at hq1 hs1;rw[hq0,hq1];have pin:∀n0 n1,x.2.len=some n0→y.2.len=some n1→n0≤n1∧(n0=n1→M'.κ x.1=M.κ x.1∧M'.ψ x.1=M.ψ x.1):=fun n0 n1 l0 l1=>by
    have hb:pq x.1=some (n0,M.κ x.1,M.ψ x.1):=by simp only[pq,hq0,l0]
    exact(h2.pn.q x.1 _ _ _ ((gpq x hx).trans hb)).2 y.2 n1 hs1 l1
   obtain⟨xi,xr⟩:=x;obtain⟨yi,yr⟩:=y;simp only at hk pin ⊢;refine⟨fun n sz e h=> ?_,fun n sz e h=> ?_⟩
   ·cases h;cases xr with
    |live n0 sz0 e0=>
     obtain⟨rfl,rfl⟩:=hk;obtain⟨p1,p2⟩:=pin n0 n rfl rfl
     by_cases e:n0=n
     ·subst e;exact .inl ⟨rfl,p2 rfl⟩
     ·exact .inr ⟨n0,_,_,rfl,by omega⟩
    |vec=>exact hk.elim
    |dead=>exact hk.elim
   ·cases h;cases xr with
    |vec n0 sz0 e0=>
     obtain⟨rfl,rfl⟩:=hk;obtain⟨p1,p2⟩:=pin n0 n rfl rfl
     by_cases e:n0=n
     ·subst e;exact .inl ⟨_,rfl,p2 rfl⟩
     ·exact .inr ⟨n0,_,_,rfl,by omega⟩
    |live=>exact hk.elim
    |dead=>exact hk.elim
 cases e with
 |normal=>exact fin h1
 |ret=>exact fin h1
 |_=>exact h1.elim
def mkStX (n:Nat) (L:List (Nat×PV)) (H:List (Nat×List PV×Bool)) (R:List (Nat×Row)) (O:List (Nat×MapC)) (I:List (Nat×IterC)) (V:List (Nat×List PV)) (OM:List (Nat×MapC)) (p:List (Nat×Nat)) (q:List (Nat×Option (Nat×Nat×Nat))) (vm:List Nat):St:=
 { fr:=ZaN L fun _=> .any,m:= { h:=ZaN (H.map fun x=>(x.1,some x.2.1)) fun _=>none,z:=ZaN (H.map fun x=>(x.1,x.2.2)) fun _=>false,q:=ZaN (R.map fun x=>(x.1,some x.2)) fun _=>none,o:=ZaN (O.map fun x=>(x.1,some x.2)) fun _=>none,it:=ZaN (I.map fun x=>(x.1,some x.2)) fun _=>none,om:=ZaN (OM.map fun x=>(x.1,some x.2)) fun _=>none,v:=ZaN (V.map fun x=>(x.1,some x.2)) fun _=>none,ph:=ZaN (p.map fun x=>(x.1,some x.2)) fun _=>none,pq:=ZaN q fun _=>none,vm:=ZaN (vm.map fun i=>(i,true)) fun _=>false },n:=n }
structure HasX (n:Nat) (L:List (Nat×PV)) (H:List (Nat×List PV×Bool)) (R:List (Nat×Row)) (O:List (Nat×MapC)) (I:List (Nat×IterC)) (V:List (Nat×List PV)) (OM:List (Nat×MapC)) (p:List (Nat×Nat)) (q:List (Nat×Option (Nat×Nat×Nat))) (s:St):Prop where
 b:Has n L H R s
 o:∀x∈O,s.m.o x.1=some x.2
 it:∀x∈I,s.m.it x.1=some x.2
 v:∀x∈V,s.m.v x.1=some x.2
 om:∀x∈OM,s.m.om x.1=some x.2
 ph:∀x∈p,s.m.ph x.1=some x.2
 pq:∀x∈q,s.m.pq x.1=x.2
structure WholeX (L:List (Nat×PV)) (H:List (Nat×List PV×Bool)) (R:List (Nat×Row)) (V:List (Nat×List PV)) (OM:List (Nat×MapC)) (p:List (Nat×Nat)) (q:List (Nat×Option (Nat×Nat×Nat))):Prop where
 t:Zko L H R
 v:∀x∈V,(PV.idsL x.2).all (ZV H R)=true
 om:∀x∈OM,(PV.idsL x.2.vs).all (ZV H R)=true
 vr:∀x∈V,(R.map (·.1)).contains x.1=true
 pr:∀x∈p,(H.map (·.1)).contains x.1=true
 qr:∀x∈q,(R.map (·.1)).contains x.1=true
theorem Zh0 {α:Type} (O:List (Nat×Option α)) (f:Nat→Option α) (h:∀x∈O,f x.1=x.2) (i:Nat):ZaN O (fun _=>none) i=none∨(ZaN O (fun _=>none) i=f i∧ ∃x∈O,x.1=i):=by
 by_cases hi:(O.map (·.1)).contains i=true
 ·right;refine⟨Z9 (R:=fun i v=>v=f i) (fun x hx=>(h x hx).symm) hi,?_⟩;simp only[List.contains_iff_mem,List.mem_map]at hi;exact hi
 ·exact .inl (ZbT (by simpa using hi))
theorem HasX.weak {n:Nat} {L:List (Nat×PV)} {H:List (Nat×List PV×Bool)} {R:List (Nat×Row)} {O:List (Nat×MapC)} {I:List (Nat×IterC)} {V:List (Nat×List PV)} {OM:List (Nat×MapC)} {p:List (Nat×Nat)} {q:List (Nat×Option (Nat×Nat×Nat))} {vm:List Nat} (hw:WholeX L H R V OM p q) (h:HasX n L H R O I V OM p q s):Weak (mkStX n L H R O I V OM p q vm) s:=by
 have hin:∀ {i:Nat},(R.map (·.1)).contains i=true→(mkStX n L H R O I V OM p q vm).m.q i=s.m.q i:=fun {i} hi=>by
  refine Z9 (R:=fun i v=>v=s.m.q i) (fun x hx=> ?_) (by rw[Zvo R some];exact hi);obtain⟨y,hy,rfl⟩:=List.mem_map.1 hx;exact(h.b.q y hy).symm
 have hih:∀ {i:Nat},(H.map (·.1)).contains i=true→(mkStX n L H R O I V OM p q vm).m.h i=s.m.h i:=fun {i} hi=>by
  refine Z9 (R:=fun i v=>v=s.m.h i) (fun x hx=> ?_) (by rw[Zvo H (fun x=>some x.1)];exact hi);obtain⟨y,hy,rfl⟩:=List.mem_map.1 hx;exact(h.b.h y hy).1.symm
 refine⟨h.b.weak.n,h.b.weak.fr,h.b.weak.h,h.b.weak.q,ZfF O s.m.o h.o,ZfF I s.m.it h.it,ZfF OM s.m.om h.om,fun i=> ?_,fun i=> ?_,fun i=> ?_⟩
 ·rcases Zh0 (V.map fun x=>(x.1,some x.2)) s.m.v (fun x hx=>by obtain⟨y,hy,rfl⟩:=List.mem_map.1 hx;exact h.v y hy) i with h1|⟨h1,x,hx,rfl⟩
  ·exact .inl h1
  ·obtain⟨y,hy,rfl⟩:=List.mem_map.1 hx;exact .inr ⟨h1,hin (hw.vr y hy)⟩
 ·rcases Zh0 (p.map fun x=>(x.1,some x.2)) s.m.ph (fun x hx=>by obtain⟨y,hy,rfl⟩:=List.mem_map.1 hx;exact h.ph y hy) i with h1|⟨h1,x,hx,rfl⟩
  ·exact .inl h1
  ·obtain⟨y,hy,rfl⟩:=List.mem_map.1 hx;exact .inr ⟨h1,hih (hw.pr y hy)⟩
 ·rcases Zh0 q s.m.pq h.pq i with h1|⟨h1,x,hx,rfl⟩
  ·exact .inl h1
  ·exact .inr ⟨h1,hin (hw.qr x hx)⟩
theorem Refs.mkStX {n:Nat} {L:List (Nat×PV)} {H:List (Nat×List PV×Bool)} {R:List (Nat×Row)} {O:List (Nat×MapC)} {I:List (Nat×IterC)} {V:List (Nat×List PV)} {OM:List (Nat×MapC)} {p:List (Nat×Nat)} {q:List (Nat×Option (Nat×Nat×Nat))} {vm:List Nat} (hw:WholeX L H R V OM p q):Refs (mkStX n L H R O I V OM p q vm):=by
 have k:=Refs.mkSt (n:=n) hw.t;have lv:∀r,ZS (PL.mkSt n L H R).m r→ZS (PL.mkStX n L H R O I V OM p q vm).m r:=fun r hr=>by cases r<;>exact hr
 have live:∀r,ZV H R r=true→ZS (PL.mkStX n L H R O I V OM p q vm).m r:=fun r hr=>by
  cases r with
  |b i=>
   show ZaN (H.map fun x=>(x.1,some x.2.1)) (fun _=>none) i≠none;exact Z9 (R:=fun i v=>v≠none) (fun x hx=>by obtain⟨y,hy,rfl⟩:=List.mem_map.1 hx;simp) (by rw[Zvo H (fun x=>some x.1)];exact hr)
  |r i=>
   show ZaN (R.map fun x=>(x.1,some x.2)) (fun _=>none) i≠none;exact Z9 (R:=fun i v=>v≠none) (fun x hx=>by obtain⟨y,hy,rfl⟩:=List.mem_map.1 hx;simp) (by rw[Zvo R some];exact hr)
 refine⟨fun i r hr=>lv r (k.fr i r hr),fun i cs hi c hc r hr=>lv r (k.h i cs hi c hc r hr),fun i es hi pv hp r hr=> ?_,fun b c hc pv hp r hr=> ?_⟩
 ·have hm:=(Zev hi).resolve_right (by simp);exact live r (List.all_eq_true.1 (hw.v _ hm) r (PV.mem_idsL.2 ⟨pv,hp,hr⟩))
 ·have hm:=(Zev hc).resolve_right (by simp);exact live r (List.all_eq_true.1 (hw.om _ hm) r (PV.mem_idsL.2 ⟨pv,hp,hr⟩))
def ZBH {ι:Type} (n:Nat) (L:ι→List (Nat×PV)) (H:ι→List (Nat×List PV×Bool)) (R:ι→List (Nat×Row)) (O:ι→List (Nat×MapC)) (I:ι→List (Nat×IterC)) (V:ι→List (Nat×List PV)) (OM:ι→List (Nat×MapC)) (p:List (Nat×Nat)) (q:List (Nat×Option (Nat×Nat×Nat))) (μ:ι→Nat) (i:ι) (s':St):Prop:=
 ∃j,μ j<μ i∧HasX n (L j) (H j) (R j) (O j) (I j) (V j) (OM j) p q s'
theorem ZcM {c:Code} {Q:Exit→St→Prop} {ι:Type} (n:Nat) (L:ι→List (Nat×PV)) (H:ι→List (Nat×List PV×Bool)) (R:ι→List (Nat×Row)) (O:ι→List (Nat×MapC)) (I:ι→List (Nat×IterC)) (V:ι→List (Nat×List PV)) (OM:ι→List (Nat×MapC)) (p:List (Nat×Nat)) (q:List (Nat×Option (Nat×Nat×Nat))) (vm:List Nat) (μ:ι→Nat) (i0:ι)
  (h0:HasX n (L i0) (H i0) (R i0) (O i0) (I i0) (V i0) (OM i0) p q s) (hr:∀i,WholeX (L i) (H i) (R i) (V i) (OM i) p q)
  (round:∀i,@vC P ⟨c⟩ ⟨ZcU (ZBH n L H R O I V OM p q μ i) Q⟩ (mkStX n (L i) (H i) (R i) (O i) (I i) (V i) (OM i) p q vm)):awp P (.loop c) Q s:=
 Ze9 (fun i=>mkStX n (L i) (H i) (R i) (O i) (I i) (V i) (OM i) p q vm) μ i0 (h0.weak (hr i0)) (fun _ i=>Refs.mkStX (hr i)) fun i=>ZaO (fun e s' h=>by
  cases e with
  |normal=>obtain⟨j,hj,hm⟩:=h;exact⟨j,hj,hm.weak (hr j)⟩
  |_=>exact h) (Z1 _ _ _ (round i))
theorem ZrN {c:Code} {Q:Exit→St→Prop} (i d sz:Nat) (e:TypeId) (hi:s.fr i= .sl .nil []) (hd:s.m.q d=none) (h:awp P c Q ({ s with fr:=upd s.fr i (.vsl d 0 sz) }.with { s.m.setq d (.vec 0 sz e)with v:=upd s.m.v d (some []) })):awp P c Q s:=fun B S M a w hs=>by
 have hs1:=hs.nilVec (sz:=sz) (e:=e) hd;have hv:a.tmps.getD i undef= .slice none 0 0:=by
  have:=hs.fr i;rw[hi]at this;exact this.slnil_inv
 refine h B S _ a w ⟨hs1.defers,hs1.hn,hs1.hB,hs1.stable,fun k=> ?_,fun k r hr=> ?_,hs1.blk,hs1.row,hs1.inj,hs1.injq,hs1.injx,hs1.rm,hs1.vc,hs1.pn⟩
 ·show RepS _ _ _ _ (upd s.fr i (.vsl d 0 sz) k)
  by_cases e:i=k
  ·subst e;rw[Zb,hv];refine .vsl d 0 sz _ ⟨none,0,rfl,Nat.le_refl _,fun h=>absurd h (Nat.lt_irrefl _)⟩ fun n' sz' e' hq=> ?_
   simp only[St.with,Hp.setq,Zb]at hq;cases hq;exact⟨Nat.le_refl _,fun _=>⟨rfl,fun _=>rfl,fun c hc=>by simp[Zb]at hc⟩⟩
  ·rw[Zm _ _ e];exact hs1.fr k
 ·have hr':r∈(upd s.fr i (.vsl d 0 sz) k).ids:=hr
  by_cases e:i=k
  ·subst e;rw[Zb]at hr';simp only[PV.ids,List.mem_singleton]at hr';subst hr';simp[ZS,St.with,Hp.setq,Zb]
  ·rw[Zm _ _ e]at hr';exact hs1.ids k r hr'
end
attribute [go_sem] mkStX St.vms MemL.hpP MemL.hp
attribute [go_sem] Zqg Zkr Zqe Zkq Zhf
open Go.RowKit
section
variable {P:Program}
theorem ZjA {f g:Nat→Nat} {es:List PV} (h:∀p∈es,p.ids= []):es.map (PV.ren f g)=es:=by
 rw[←PV.renL_map];exact Zek es (List.eq_nil_iff_forall_not_mem.2 fun i hi=>by obtain⟨c,hc,hic⟩:=PV.mem_idsL.1 hi;rw[h c hc]at hic;cases hic)
theorem ZAU {α:Type} {f:Nat→α} {d:Nat} {v:α} (h:f d=v):upd f d v=f:=by rw[←h,ZbO]
abbrev Zcw (n sz:Nat) (e:TypeId) (es:List PV):MemL:=⟨[],[(1000,.vec n sz e)],[(1000,es)]⟩
abbrev noV:MemL:=⟨[],[],[]⟩
abbrev deadV:MemL:=⟨[],[(1000,.dead)],[]⟩
theorem ZpI {n sz:Nat} {e:TypeId} {es:List PV} (h:∀p∈es,p.ids= []):(Zcw n sz e es).Ok:=
 ⟨by simp,by simp,by simp,by simp,by simp,fun x hx c hc i hi=>by simp only[List.mem_singleton]at hx;subst hx;rw[h c hc]at hi;cases hi⟩
theorem ZzK:noV.Ok:=⟨by simp,by simp,by simp,by simp,by simp,by simp⟩
theorem ZvT:deadV.Ok:=⟨by simp,by simp,by simp,by simp,by simp,by simp⟩
theorem Zxx {n sz:Nat} {e:TypeId} {es:List PV}:(Zcw n sz e es).hp.v 1000=some es:=by simp[MemL.hp,ZcL,ZdR,upd]
theorem Zwa {n sz:Nat} {e:TypeId} {es':List PV} {m:Hp} {d:Nat} (hc:∀p∈es',p.ids= []):ZsX (Zcw n sz e es') (fun _=>d) id m= { m.setq d (.vec n sz e)with v:=upd m.v d (some es') }:=by
 unfold ZsX;simp only[List.map_nil,ZdR,List.map_cons,ZcL,Zxx,Option.map_some,ZjA hc];rfl
theorem Zt2 {m:Hp} {d:Nat}:ZsX deadV (fun _=>d) id m= { m.setq d .dead with v:=upd m.v d none }:=by
 unfold ZsX;simp only[List.map_nil,ZdR,List.map_cons,ZcL,MemL.hp,Option.map_none];rfl
theorem Za4 {M:KH} {g:FuncId} {args args0:List PV} {K:KR} {n sz:Nat} {e:TypeId} {es es':List PV} {r:PV} (d:Nat) (h1:Eff P g args0 (Zcw n sz e es) r (Zcw n sz e es')) (hr:r.ids= []) (hes:∀p∈es,p.ids= []) (hes':∀p∈es',p.ids= [])
  (hq:M.m.q d=some (.vec n sz e)) (hv:M.m.v d=some es) (he:PV.giveL M.m args=args0.map (PV.ren (fun _=>d) id)) (h2:K.k r { M.m with v:=upd M.m.v d (some es') }):@Zkp P true M (some (g,args)) K:=by
 refine Zj3 (fun _=>d) id h1 ⟨by simp,fun x hx=> ?_,fun x hx=> ?_,by simp,fun x hx=> ?_,by simp,fun x hx y hy _=> ?_⟩ he ?_
 ·simp only[List.mem_singleton]at hx;subst hx;exact hq
 ·simp only[List.mem_singleton]at hx;subst hx;simp only[ZjA hes];exact hv
 ·exact .inl ⟨x,hx,rfl⟩
 ·simp only[List.mem_singleton]at hx hy;subst hx hy;rfl
 ·rw[Zfx _ hr,Zwa hes'];have:({ M.m.setq d (.vec n sz e)with v:=upd M.m.v d (some es') }:Hp)= { M.m with v:=upd M.m.v d (some es') }:=by simp only[Hp.setq,ZAU hq]
  rw[this];exact h2
theorem Zw9 {M:KH} {g:FuncId} {args args0:List PV} {K:KR} {n sz:Nat} {e:TypeId} {es:List PV} {r:PV} (d:Nat) (h1:Eff P g args0 (Zcw n sz e es) r deadV) (hr:r.ids= []) (hes:∀p∈es,p.ids= [])
  (hq:M.m.q d=some (.vec n sz e)) (hv:M.m.v d=some es) (he:PV.giveL M.m args=args0.map (PV.ren (fun _=>d) id)) (h2:K.k r { M.m.setq d .dead with v:=upd M.m.v d none }):@Zkp P true M (some (g,args)) K:=by
 refine Zj3 (fun _=>d) id h1 ⟨by simp,fun x hx=> ?_,fun x hx=> ?_,by simp,fun x hx=> ?_,by simp,fun x hx y hy _=> ?_⟩ he ?_
 ·simp only[List.mem_singleton]at hx;subst hx;exact hq
 ·simp only[List.mem_singleton]at hx;subst hx;simp only[ZjA hes];exact hv
 ·simp only[List.mem_singleton]at hx;subst hx;exact .inl ⟨_,List.mem_singleton.2 rfl,rfl⟩
 ·simp only[List.mem_singleton]at hx hy;subst hx hy;rfl
 ·rw[Zfx _ hr,Zt2];exact h2
theorem Eff.vw (vm:List Nat) {f:FuncId} {fn:Func} {c:Code} {args:List PV} {r:PV} {n k sz:Nat} {e:TypeId} {es es':List PV} {rs:List ResultVar} (hf:P.funcs[f]? = some fn) (hname:fn.name≠ "runtime.NumGoroutine") (hb:fn.body=some c) (hn:fn.ntmps=n) (hrs:fn.results=rs.toArray) (hl:args.length≤n)
  (hes:∀p∈es,p.ids= []) (hes':∀p∈es',p.ids= []) (ha:∀p∈args,∀i∈p.ids,i= .r 1000) (hr:r.ids= [])
  (h:∀q,@vC P ⟨c⟩ ⟨Zl7 P rs r (Zcw k sz e es) (Zcw k sz e es') (fun _=>0) (fun _=>q)⟩ (St.vms ⟨Zdo 0 args,(Zcw k sz e es).hpP (fun _=>0) (fun _=>q),n⟩ vm)):Eff P f args (Zcw k sz e es) r (Zcw k sz e es'):=
 Eff.of_v vm hf hname hb hn hrs hl (ZpI hes) (ZpI hes') (fun p hp i hi=>by rw[ha p hp i hi];exact⟨_,List.mem_singleton.2 rfl,rfl⟩) (by rw[hr];simp) (by simp) (fun x hx=>⟨x,hx,rfl,by simp only[List.mem_singleton]at hx;subst hx;exact⟨rfl,rfl⟩⟩) fun ph pq=>by
  have h1:(Zcw k sz e es).hpP ph pq=(Zcw k sz e es).hpP (fun _=>0) (fun _=>pq 1000):=rfl;have h2:∀s,ERet P rs r (Zcw k sz e es) (Zcw k sz e es') (fun _=>0) (fun _=>pq 1000) s→ERet P rs r (Zcw k sz e es) (Zcw k sz e es') ph pq s:=fun s h=>⟨h.r,h.h,h.q,h.v,by simp,fun x hx=>by simp only[List.mem_singleton]at hx;subst hx;exact h.pq _ (List.mem_singleton.2 rfl)⟩
  have h3:Zl7 P rs r (Zcw k sz e es) (Zcw k sz e es') ph pq=Zl7 P rs r (Zcw k sz e es) (Zcw k sz e es') (fun _=>0) (fun _=>pq 1000):=by
   have h4:∀s,ERet P rs r (Zcw k sz e es) (Zcw k sz e es') ph pq s=ERet P rs r (Zcw k sz e es) (Zcw k sz e es') (fun _=>0) (fun _=>pq 1000) s:=fun s=>propext ⟨fun h=>⟨h.r,h.h,h.q,h.v,by simp,fun x hx=>by simp only[List.mem_singleton]at hx;subst hx;exact h.pq _ (List.mem_singleton.2 rfl)⟩,h2 s⟩
   funext e s;cases e<;>first|exact h4 s|rfl
  rw[h1,h3];exact h _
theorem ZeF {s:St} {rs:List ResultVar} {r r0:PV} {k sz:Nat} {e:TypeId} {es es':List PV} {q:Option (Nat×Nat×Nat)} (hc:∀p∈es',p.ids= []) (hr:Zhf P r0 s [] rs) (hp:Pub (Zcw k sz e es').has s.m r0 r) (hq:s.m.q 1000=some (.vec k sz e)) (hv:s.m.v 1000=some es') (hpq:s.m.pq 1000=q):
  ERet P rs r (Zcw k sz e es) (Zcw k sz e es') (fun _=>0) (fun _=>q) s:=
 ⟨⟨r0,hr,hp⟩,by simp,fun x hx=>by simp only[List.mem_singleton]at hx;subst hx;exact hq,fun x hx=>by
  simp only[List.mem_singleton]at hx;subst hx;exact⟨es',hv,rfl,fun i hi=> .clean (hc _ (Zg hi))⟩,by simp,fun x hx=>by simp only[List.mem_singleton]at hx;subst hx;exact hpq⟩
theorem Z5 {α:Type} [Inhabited α] {pv:α→PV} {l:List α} {k:Nat} (h:k<l.length):(l.map pv).getD k .any=pv (l.getD k default):=by
 rw[getD_lt (by simpa using h),getD_lt h,List.getElem_map]
theorem Zg5 {α:Type} {pv:α→PV} {l:List α} {k:Nat} {x:α}:(l.map pv).set k (pv x)=(l.set k x).map pv:=by rw[List.map_set]
theorem ZbM {α:Type} {pv:α→PV} (h:∀a,(pv a).ids= []) (l:List α):∀p∈l.map pv,p.ids= []:=fun p hp=>by
 obtain⟨a,_,rfl⟩:=List.mem_map.1 hp;exact h a
theorem ZaC {α:Type} {pv:α→PV} (h:∀a,(pv a).ids= []) (l:List α):PV.idsL (l.map pv)= []:=
 List.eq_nil_iff_forall_not_mem.2 fun i hi=>by obtain⟨c,hc,hic⟩:=PV.mem_idsL.1 hi;rw[ZbM h l c hc]at hic;cases hic
theorem Zbw {L:List (Nat×PV)} {n sz:Nat} {e:TypeId} {es:List PV} {q:Option (Nat×Nat×Nat)} (hL:∀x∈L,x.2.ids.all (ZV [] [(1000,.vec n sz e)])=true) (he:PV.idsL es= []):WholeX L [] [(1000,.vec n sz e)] [(1000,es)] [] [] [(1000,q)]:=
 ⟨⟨hL,by simp⟩,by simp[he],by simp,by simp,by simp,by simp⟩
theorem Zaw {s:St} {n k sz:Nat} {e:TypeId} {L:List (Nat×PV)} {es:List PV} {q:Option (Nat×Nat×Nat)} (h0:s.n=n) (hL:∀x∈L,s.fr x.1=x.2) (hq:s.m.q 1000=some (.vec k sz e)) (hv:s.m.v 1000=some es) (hpq:s.m.pq 1000=q):
  HasX n L [] [(1000,.vec k sz e)] [] [] [(1000,es)] [] [] [(1000,q)] s:=
 ⟨⟨h0,hL,by simp,by simp[hq]⟩,by simp,by simp,by simp[hv],by simp,by simp,by simp[hpq]⟩
end
end Go.PL
