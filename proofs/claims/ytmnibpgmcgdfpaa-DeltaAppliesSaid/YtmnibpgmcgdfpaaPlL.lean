/- A logic of values for functions that only read and build, over the model (part 12): no statement of the seat is proved here. -/
import Derived.Test.YtmnibpgmcgdfpaaPlK
import Derived.Test.YtmnibpgmcgdfpaaPlJ
import Derived.Laws.AppendOwn
namespace Go.PL
set_option maxHeartbeats 64000000
set_option maxRecDepth 20000
set_option linter.unusedVariables false
set_option linter.unusedSimpArgs false
open Go.RowKit
section
variable {P:Program}
end
mutual
def PV.dull:PV→PV
 | .sl _ es=> .sl .no (PV.dullL es)
 | .rptr cs=> .rptr (PV.dullL cs)
 | .agg cs=> .agg (PV.dullL cs)
 | .tup cs=> .tup (PV.dullL cs)
 | .fn f cs=> .fn f (PV.dullL cs)
 |p=>p
def PV.dullL:List PV→List PV
 | []=> []
 |c::cs=>PV.dull c::PV.dullL cs
end
theorem PV.dullL_map:∀(cs:List PV),PV.dullL cs=cs.map PV.dull
 | []=>rfl
 |c::cs=>by simp[PV.dullL,PV.dullL_map cs]
theorem PV.dullL_length (cs:List PV):(PV.dullL cs).length=cs.length:=by rw[PV.dullL_map];simp
theorem PV.dullL_getD (cs:List PV) (i:Nat):(PV.dullL cs).getD i .any=(cs.getD i .any).dull:=by
 rw[PV.dullL_map]
 by_cases h:i<cs.length
 ·rw[Zb (by simpa using h),Zb h,List.getElem_map]
 ·rw[Xq (by simpa using h),Xq (by omega)];rfl
theorem D9 (p:PV):p.dull.cells=PV.dullL p.cells:=by cases p<;>simp[PV.dull,PV.cells,PV.dullL]
theorem Rep.dull {S:Stable} {v:Value} {p:PV} (r:Rep S v p):Rep S v p.dull:=by
 induction r with
 |any v=>exact .any v
 |int k n=>exact .int k n
 |bool b=>exact .bool b
 |str l=>exact .str l
 |flt k b=>exact .flt k b
 |cpx k a b=>exact .cpx k a b
 |agg vs cs hl _ ih=>exact .agg vs _ (by rw[PV.dullL_length];exact hl) (fun i hi=>by rw[PV.dullL_length]at hi;rw[PV.dullL_getD];exact ih i hi)
 |tup vs cs hl _ ih=>exact .tup vs _ (by rw[PV.dullL_length];exact hl) (fun i hi=>by rw[PV.dullL_length]at hi;rw[PV.dullL_getD];exact ih i hi)
 |sl0 a cap=>exact .sl0 a cap
 |slnil=>exact .sl0 none 0
 |sl b o cap sz es vals hsz hcap hS _ ih=>
  have e:(PV.dullL es).length=es.length:=PV.dullL_length es;have:=Rep.sl (S:=S) b o cap sz (PV.dullL es) vals (fun i hi=>by rw[PV.dullL_getD,D9,PV.dullL_length];exact hsz i (by omega)) (by omega) (fun i j hi hj=>hS i j (by omega) hj) (fun i j hi hj=>by rw[PV.dullL_getD,D9,PV.dullL_getD];exact ih i j (by omega) hj);rw[e]at this;exact this
 |slf v es _ _ ih=>exact ih
 |rptr b o cs vals hS _ ih=>exact .rptr b o _ vals (fun j hj=>by rw[PV.dullL_length]at hj;exact hS j hj) (fun j hj=>by rw[PV.dullL_length]at hj;rw[PV.dullL_getD];exact ih j hj)
 |nilp=>exact .nilp
 |nilfn=>exact .nilfn
 |nilmap=>exact .nilmap
 |mref b=>exact .mref b
 |iptr b=>exact .iptr b
 |rmap b es ks vs h1 h2 h3 h4 h5 h6 _ _=>exact .rmap b es ks vs h1 h2 h3 h4 h5 h6
 |fn f vs cs hl _ ih=>exact .fn f vs _ (by rw[PV.dullL_length];exact hl) (fun i hi=>by rw[PV.dullL_length]at hi;rw[PV.dullL_getD];exact ih i hi)
open Srt
section
variable {s:St}
theorem Gh.nilVecB {b j d sz:Nat} {e:TypeId} {cs:List PV} (hb:s.m.h b=some cs) (hz:s.m.z b=false) (hj:j<cs.length) (hjd:cs.getD j .any= .sl .nil []) (hd:s.m.q d=none):
  Gh s (s.with { s.m.setq d (.vec 0 sz e)with h:=upd s.m.h b (some (cs.set j (.vsl d 0 sz))),v:=upd s.m.v d (some []) }):=fun B S M a w hs=>by
 have hB:=hs.blk b cs hb;rw[hz]at hB;obtain⟨_,_,_,h6⟩:=hB;have hs1:=hs.nilVec (sz:=sz) (e:=e) hd;refine⟨S,{ M with κ:=upd M.κ d 0 },hs1.tellBlk (i:=b) hb hz List.length_set (fun k v hk hr=> ?_) (fun c hc i hi=> ?_),Ext.refl _ _ _⟩
 ·by_cases ek:j=k
  ·subst ek;rw[Zf0 hj];rw[hjd]at hr;have hv:v= .slice none 0 0:=hr.slnil_inv;subst hv;refine .vsl d 0 sz _ ⟨none,0,rfl,Nat.le_refl _,fun h=>absurd h (Nat.lt_irrefl _)⟩ fun n' sz' e' hq=> ?_
   simp only[St.with,Hp.setq,Za]at hq;cases hq;exact⟨Nat.le_refl _,fun _=>⟨rfl,fun _=>rfl,fun c hc=>by simp[Za]at hc⟩⟩
  ·rw[Zf1 ek];exact hr
 ·rcases List.mem_or_eq_of_mem_set hc with hc|rfl
  ·have:=h6 c hc i hi;cases i with
   |b k=>exact this
   |r k=>
    show Live _ _;simp only[Live,St.with,Hp.setq]at this ⊢
    by_cases ek:d=k
    ·subst ek;simp[Za]
    ·rw[Zc _ _ ek];exact this
  ·simp only[PV.ids,List.mem_singleton]at hi;subst hi;simp[Live,St.with,Hp.setq,Za]
theorem Gh.moveRowS (i id d n sz:Nat) (e:TypeId) (es:List PV) (hi:s.fr i= .sl (.row id) es) (hid:s.m.q id=some (.live n sz e)) (hd:s.m.q d=none):
  Gh s ({ s with fr:=upd s.fr i (.sl (.row d) es) }.with ((s.m.setq id .dead).setq d (.live n sz e))):=fun B S M a w hs=>by
 have hs1:=hs.moveRow hid hd;have hrow:=hs.fr i;rw[hi]at hrow;have key:∃r:Rep S (a.tmps.getD i undef) (.sl .no es),(es.length≤n∧(es.length=n→(M.κ id=0→a.tmps.getD i undef= .slice none 0 0)∧(∀c,M.κ id=c+1→a.tmps.getD i undef= .slice (some ⟨M.ψ id,0,none⟩) n c))):=by
  generalize a.tmps.getD i undef=v at hrow;cases hrow with
  |clean r=>cases r
  |row _ _ _ r t=>exact⟨r,t n sz e hid⟩
 obtain⟨r,t⟩:=key;refine⟨S,_,⟨hs1.defers,hs1.hn,hs1.hB,hs1.stable,fun k=> ?_,fun k r hr=> ?_,hs1.blk,hs1.row,hs1.inj,hs1.injq,hs1.injx,hs1.rm,hs1.vc,⟨hs1.pn.h,hs1.pn.q⟩,hs1.hz⟩,Ext.refl _ _ _⟩
 ·show RepS _ _ _ _ (upd s.fr i (.sl (.row d) es) k)
  by_cases ek:i=k
  ·subst ek;rw[Za];refine .row d _ es r fun n' sz' e' hq=> ?_
   have hq':upd (upd s.m.q id (some .dead)) d (some (.live n sz e)) d=some (.live n' sz' e'):=hq;rw[Za]at hq';cases hq';refine⟨t.1,fun el=> ?_⟩;have:=t.2 el;simpa only[Za]using this
  ·rw[Zc _ _ ek];exact hs1.fr k
 ·have hr':r∈(upd s.fr i (.sl (.row d) es) k).ids:=hr
  by_cases ek:i=k
  ·subst ek;rw[Za]at hr';simp only[PV.ids,List.mem_singleton]at hr';subst hr';show upd _ _ _ _≠none;simp[Za]
  ·rw[Zc _ _ ek]at hr';exact hs1.ids k r hr'
end
open Go.RowKit
section
variable {P:Program} {B:Frm} {S:Stable} {M:Maps} {s:St} {a:Act} {w:World}
theorem Sim.vec_owns (hs:Sim B S M s a w) {d n sz:Nat} {e:TypeId} {es:List PV} {v:Value} (hq:s.m.q d=some (.vec n sz e)) (hv:s.m.v d=some es) (hr:RepS S M s.m.q v (.vsl d n sz)) (hc:∀p∈es,p.ids= []):
  ∃xs:List Value,w.ownsRow 0 e sz v n xs∧es.length=n∧(∀p∈es,p.cells.length=sz∧p.cells.all PV.atom=true)∧(∀i j,i<n→j<sz→Rep S (xs.getD (i*sz+j) undef) ((es.getD i .any).cells.getD j .any))∧
   ∀k,v.ownBlock=some k→ ¬B k∧(∀o,S k o=none)∧0<M.κ d∧M.ψ d=k:=by
 obtain⟨sz',e',q1,r1,r2,r4⟩:=hs.vc d es hv;rw[hq]at q1;simp only[Option.some.injEq,Row.vec.injEq]at q1;obtain⟨hn,rfl,rfl⟩:=q1;subst hn;obtain⟨_,t⟩:=hr.vsl_inv;obtain⟨_,t2⟩:=t _ _ _ hq;obtain⟨_,t3,t4⟩:=t2 rfl;obtain⟨o1,o2⟩:=hs.row d _ hq;cases hκ:M.κ d with
 |zero=>
  have h0:=o1 hκ;have hv0:=t3 hκ;refine⟨[],⟨by simp[h0],.inl ⟨hv0,h0⟩⟩,rfl,r1,fun i j hi=>by omega,fun k hk=> ?_⟩;rw[hv0]at hk;cases hk
 |succ c=>
  obtain⟨k1,k2,k3,⟨vs,k5,k6⟩,k4⟩:=o2 c hκ;have hv0:=t4 c hκ;have k7:=r4 c hκ vs e (0,0) k5;refine⟨vs.take (es.length*sz),⟨?_,.inr ⟨M.ψ d,c,⟨vs⟩,hv0,Nat.zero_le _,k5,k1,k2,k6,rfl⟩⟩,rfl,r1,fun i j hi hj=> ?_,fun k hk=> ?_⟩
  ·rw[List.length_take,k6];exact Nat.min_eq_left (Nat.mul_le_mul_right _ k1)
  ·have hlt:i*sz+j<es.length*sz:=by
    calc i*sz+j<i*sz+sz:=by omega
     _=(i+1)*sz:=by rw[Nat.add_mul,Nat.one_mul]
     _≤es.length*sz:=Nat.mul_le_mul_right _ hi
   have h8:=k7 i j hi hj;have he:(vs.take (es.length*sz)).getD (i*sz+j) undef=vs.getD (i*sz+j) undef:=by
    rw[List.getD_eq_getElem?_getD,List.getD_eq_getElem?_getD,List.getElem?_take_of_lt hlt]
   rw[he];refine h8.alone (List.eq_nil_iff_forall_not_mem.2 fun r hr=> ?_);have hm:es.getD i .any∈es:=Ze hi;have hj':j<(es.getD i .any).cells.length:=by rw[(r1 _ hm).1];exact hj
   have:=Z4 (Ze (d:= .any) hj') hr;rw[hc _ hm]at this;cases this
  ·rw[hv0]at hk;cases hk;exact⟨k3,k4,by omega,rfl⟩
theorem Zkh (R:List (Nat×Row)) {d n sz:Nat} {e:TypeId} {es:List PV} {v:Value} {xs:List Value} (ok:(⟨[],(d,.vec n sz e)::R,[(d,es)]⟩:MemL).Ok) (hR:∀x∈R,x.2= .dead) (hB:∀k,B k→k<w.heap.size) (hst:StabS S w) (hz:∀b,¬B b→S.z b)
  (hown:w.ownsRow 0 e sz v n xs) (hk:∀k,v.ownBlock=some k→ ¬B k∧ ∀o,S k o=none) (hn:es.length=n) (hc:∀p∈es,p.ids= []) (hcell:∀p∈es,p.cells.length=sz∧p.cells.all PV.atom=true)
  (hrep:∀i j,i<n→j<sz→Rep S (xs.getD (i*sz+j) undef) ((es.getD i .any).cells.getD j .any)):
  ∃M,Sim B S M (ZiP (⟨[],(d,.vec n sz e)::R,[(d,es)]⟩:MemL).hp) Zef w∧RepS S M (⟨[],(d,.vec n sz e)::R,[(d,es)]⟩:MemL).hp.q v (.vsl d n sz):=by
 have qd:(⟨[],(d,.vec n sz e)::R,[(d,es)]⟩:MemL).hp.q d=some (.vec n sz e):=ok.q_at (x:=(d,.vec n sz e)) (by simp);have qo:∀ {i r},(⟨[],(d,.vec n sz e)::R,[(d,es)]⟩:MemL).hp.q i=some r→r.own=true→i=d∧r= .vec n sz e:=fun {i r} h ho=>by
  have hm:=MemL.q_mem h;rcases List.mem_cons.1 hm with hm|hm
  ·simp only[Prod.mk.injEq]at hm;exact hm
  ·have:=hR _ hm;simp only at this;subst this;cases ho
 obtain⟨M,hM⟩:∃M:Maps,(M.κ d=0∧v= .slice none 0 0∧n=0∧ ∀i,M.κ i=0)∨ ∃g c cur,M=⟨id,fun _=>g,fun _=>c+1⟩∧v= .slice (some ⟨g,0,none⟩) n c∧w.heap[g]? = some (.cells cur e (0,0))∧n≤c∧c≤maxLen∧cur.size=c*sz∧cur.toList.take (n*sz)=xs:=by
  rcases hown.2 with ⟨h1,h2⟩|⟨g,c,cur,h1,_,h3,h4,h5,h6,h7⟩
  ·exact⟨⟨id,id,fun _=>0⟩,.inl ⟨rfl,h1,h2,fun _=>rfl⟩⟩
  ·exact⟨⟨id,fun _=>g,fun _=>c+1⟩,.inr ⟨g,c,cur,rfl,h1,h3,h4,h5,h6,h7⟩⟩
 have rep':∀i j,i<n→j<sz→ ∀M' q,RepS S M' q (xs.getD (i*sz+j) undef) ((es.getD i .any).cells.getD j .any):=fun i j hi hj M' q=> .clean (hrep i j hi hj)
 refine⟨M,⟨rfl,rfl,hB,⟨hst,fun b c hc=>(by cases hc),fun b x hx=>(by cases hx)⟩,fun i=> .clean (.any _),fun i id h=>(by simp[ZiP,PV.ids]at h),fun id cs h=>(by cases h),fun id r h=> ?_,fun id id' cs cs' h=>(by cases h),fun id id' r r' h h' o o' k k' hne=>absurd ((qo h o).1.trans (qo h' o').1.symm) hne,fun id id' cs r h=>(by cases h),fun b c hc=>(by cases hc),fun id es1 h=> ?_,⟨fun _ _ h=>(by cases h),fun _ _ _ _ h=>(by cases h)⟩,hz⟩,?_⟩
 ·by_cases ho:r.own=true
  ·obtain⟨rfl,rfl⟩:=qo h ho;rcases hM with ⟨m1,m2,m3,m4⟩|⟨g,c,cur,rfl,m2,m3,m4,m5,m6,m7⟩
   ·exact⟨fun _=>m3,fun c hc=>by rw[m1]at hc;cases hc⟩
   ·refine⟨fun h=>(by cases h),fun c' hc'=> ?_⟩;have:c'=c:=by simp only[Nat.add_right_cancel_iff]at hc';exact hc'.symm
    subst this;obtain⟨k1,k2⟩:=hk g (by rw[m2];rfl);exact⟨m4,m5,k1,⟨cur.toList,m3,m6⟩,k2⟩
  ·cases r with
   |dead=>trivial
   |_=>exact absurd rfl ho
 ·have hm:=MemL.v_mem h;simp only[List.mem_singleton,Prod.mk.injEq]at hm;obtain⟨rfl,rfl⟩:=hm;refine⟨sz,e,by rw[hn];exact qd,hcell,fun p hp i hi=>(by rw[hc p hp]at hi;cases hi),fun c hc' vs t f hvs i j hi hj=> ?_⟩;rcases hM with ⟨m1,m2,m3,m4⟩|⟨g,c1,cur,rfl,m2,m3,m4,m5,m6,m7⟩
  ·rw[m1]at hc';cases hc'
  ·have hvs':w.heap[g]? = some (.cells ⟨vs⟩ t f):=hvs;rw[m3]at hvs';simp only[Option.some.injEq,Obj.cells.injEq]at hvs';obtain⟨rfl,_,_⟩:=hvs';rw[hn]at hi;have hlt:i*sz+j<n*sz:=by
    calc i*sz+j<i*sz+sz:=by omega
     _=(i+1)*sz:=by rw[Nat.add_mul,Nat.one_mul]
     _≤n*sz:=Nat.mul_le_mul_right _ hi
   have:=rep' i j hi hj ⟨_root_.id,fun _=>g,fun _=>c1+1⟩ (⟨[],(id,.vec n sz e)::R,[(id,es1)]⟩:MemL).hp.q;rw[←m7,List.getD_eq_getElem?_getD,List.getElem?_take_of_lt hlt,←List.getD_eq_getElem?_getD]at this;exact this
 ·refine .vsl d n sz v ?_ fun n' sz' e' hq'=> ?_
  ·rcases hM with ⟨m1,m2,m3,m4⟩|⟨g,c,cur,rfl,m2,m3,m4,m5,m6,m7⟩
   ·exact⟨none,0,by rw[m2,m3],by omega,fun h=>by omega⟩
   ·exact⟨_,c,m2,m4,fun _=>⟨g,0,rfl⟩⟩
  ·rw[qd]at hq';simp only[Option.some.injEq,Row.vec.injEq]at hq';obtain⟨rfl,rfl,rfl⟩:=hq';refine⟨Nat.le_refl _,fun _=>⟨rfl,fun h=> ?_,fun c' hc'=> ?_⟩⟩
   ·rcases hM with ⟨m1,m2,m3,m4⟩|⟨g,c,cur,rfl,m2,m3,m4,m5,m6,m7⟩
    ·exact m2
    ·cases h
   ·rcases hM with ⟨m1,m2,m3,m4⟩|⟨g,c,cur,rfl,m2,m3,m4,m5,m6,m7⟩
    ·rw[m1]at hc';cases hc'
    ·have:c'=c:=by simp only[Nat.add_right_cancel_iff]at hc';exact hc'.symm
     subst this;exact m2
theorem BelowF.of_grown {B:Frm} {w w':World} {row:Option Nat} (h:w.grownBy w' row) (hB:∀k,B k→k<w.heap.size) (hr:∀k,row=some k→ ¬B k):BelowF B w w':=
 ⟨h.os,h.tape,h.output,h.size,fun k hk=>h.block k (hB k hk) fun e=>hr k e.symm hk⟩
theorem StabS.grown {S:Stable} {w w':World} {row:Option Nat} (hst:StabS S w) (h:w.grownBy w' row) (hr:∀k,row=some k→(∀o,S k o=none)∧ ∃vs e,w'.heap[k]? = some (.cells vs e (0,0))∧ ∃vs' e',w.heap[k]? = some (.cells vs' e' (0,0))):StabS S w':=
 ⟨fun b o u hu=>by
  have h1:=hst.c b o u hu;have hb:some b≠row:=fun e=>by rw[(hr b e.symm).1 o]at hu;cases hu
  rw[World.cell?_of_block (w:=w) (h.block b (Vg h1) hb)];exact h1,fun b es hm=>by
  have h1:=hst.m b es hm;have hb:some b≠row:=fun e=>by
   obtain⟨_,_,_,_,vs',e',h2⟩:=hr b e.symm;rw[h2]at h1;cases h1
  rw[h.block b (Array.getElem?_eq_some_iff.1 h1).1 hb];exact h1,fun b hb=>by
  obtain⟨vs1,t1,h1⟩:=hst.y b hb
  by_cases e:row=some b
  ·obtain⟨_,vs,e',h2,_⟩:=hr b e;exact⟨vs,e',h2⟩
  ·exact⟨vs1,t1,by rw[h.block b (Array.getElem?_eq_some_iff.1 h1).1 (fun e'=>e e'.symm)];exact h1⟩⟩
end
open Go.RowKit
section
variable {P:Program} {ops:Array Oper}
def ZhM (P:Program) (md:Region.Mode) (ops:Array Oper) (E:Array Bool→St→Prop):Nat→Array Bool→St→Prop
 |0,listed,s=>E listed s
 |fuel+1,listed,s=>Region.ready md ops listed≠ []∧ ∀i∈Region.ready md ops listed,∃o s',ops[i]? = some o∧XI P ops o s s'∧ZhM P md ops E fuel (listed.setIfInBounds i true) s'
def Tf (md:Region.Mode) (ops:Array Oper) (k:Nat):Bool:=
 F6 md ops k&&(List.range ops.size).all fun j=>decide (j≤k)||((ops[j]?).map fun o=>o.after.any fun e=>Region.binds md e&&e.on==k).getD false
theorem ZbO {md:Region.Mode} {k:Nat} {listed:Array Bool} (hc:Tf md ops k=true) (hcl:Closed md ops listed) (hsz:listed.size=ops.size) {i:Nat} (hi:i<k) (hun:listed.getD i true=false):∀j∈Region.ready md ops listed,j<k:=by
 intro j hj;simp only[Tf,Bool.and_eq_true,List.all_eq_true,List.mem_range,Bool.or_eq_true,decide_eq_true_eq]at hc;obtain⟨h1,h2⟩:=hc;refine Nat.lt_of_not_le fun hge=> ?_
 have all:∀ {l:Nat},(∀i,i<l→listed.getD i true=true)→l=k→False:=fun h e=>by
  subst e;rw[h i hi]at hun;cases hun
 by_cases hjk:j=k
 ·subst hjk;exact all (fun i hi=>ZeF h1 hcl hj hsz (j-i) i hi (Nat.le_refl _)) rfl
 ·obtain⟨_,oj,hoj,hall⟩:=mem_ready.1 hj;have hjs:=(Array.getElem?_eq_some_iff.1 hoj).1;have h3:=(h2 j hjs).resolve_left (by omega);rw[hoj]at h3;simp only[Option.map_some,Option.getD_some]at h3;obtain⟨e,he,hb⟩:=Array.any_eq_true'.1 h3;simp only[Bool.and_eq_true,beq_iff_eq]at hb;have hk:listed.getD k false=true:=by rw[←hb.2];exact hall e he hb.1
  have key:∀(n i:Nat),i≤k→k-i≤n→listed.getD i false=true:=by
   intro n
   induction n with
   |zero=>
    intro i hi hn;have e:i=k:=by omega
    rw[e];exact hk
   |succ n ih=>
    intro i hi hn
    by_cases hik:i=k
    ·subst hik;exact hk
    ·simp only[F6,List.all_eq_true,List.mem_range,List.any_eq_true,Bool.and_eq_true,decide_eq_true_eq]at h1;obtain⟨x,hx,hix,hd⟩:=h1 i (by omega);cases ho:ops[x]? with
     |none=>rw[ho]at hd;cases hd
     |some o=>
      rw[ho]at hd;simp only[Option.map_some,Option.getD_some]at hd;obtain⟨e,he,hb⟩:=Array.any_eq_true'.1 hd;simp only[Bool.and_eq_true,beq_iff_eq]at hb;rw[←hb.2];have hxl:=ih x (by omega) (by omega);have hxs:x<ops.size:=(Array.getElem?_eq_some_iff.1 ho).1;have h2:listed.getD x true=true:=by
       have hj2:x<listed.size:=by omega
       simp[hj2]at hxl ⊢;exact hxl
      exact hcl x o ho h2 e he hb.1
  refine all (fun i hi=> ?_) rfl;have:=key (k-i) i (by omega) (Nat.le_refl _)
  by_cases hs:i<listed.size
  ·simp[hs]at this ⊢;exact this
  ·simp[Array.getElem?_eq_none (Nat.le_of_not_lt hs)]at this
theorem Vq {md:Region.Mode} {k:Nat} {E:Array Bool→St→Prop} (hE:∀listed s,E listed s→ ∀i,i<k→listed.getD i true=true) (hc:Tf md ops k=true) {i:Nat} {oi:Oper} (hi:ops[i]? = some oi) (hik:i<k):
  ∀(fuel:Nat) (listed:Array Bool) (s s1:St),RefsD s→Closed md ops listed→listed.size=ops.size→
   (∀j oj,ops[j]? = some oj→j<k→j≠i→listed.getD j true=false→(∀e∈oj.after,Region.binds md e=true→e.on≠i)→oi.apart ops oj=true∧compat oi.op oj.op=true)→
   i∈Region.ready md ops listed→XI P ops oi s s1→
   ZhM P md ops E fuel (listed.setIfInBounds i true) s1→ZhM P md ops E (fuel+1) listed s:=by
 intro fuel
 induction fuel with
 |zero=>
  intro listed s s1 hR hcl hsz _ hr hy H;refine⟨fun h=>(by rw[h]at hr;cases hr),fun j hj=> ?_⟩
  by_cases hji:j=i
  ·subst hji;exact⟨oi,s1,hi,hy,H⟩
  ·exfalso;have hjk:=ZbO hc hcl hsz hik (mem_ready.1 hr).1 j hj;have h1:=hE _ _ H j hjk;rw[getD_set_ne true (Ne.symm hji),(mem_ready.1 hj).1]at h1;cases h1
 |succ fuel ih=>
  intro listed s s1 hR hcl hsz hfree hr hy H;refine⟨fun h=>(by rw[h]at hr;cases hr),fun j hj=> ?_⟩
  by_cases hji:j=i
  ·subst hji;exact⟨oi,s1,hi,hy,H⟩
  ·have hjk:=ZbO hc hcl hsz hik (mem_ready.1 hr).1 j hj;obtain⟨oj,s2,hoj,hy2,h1⟩:=H.2 j (ready_mono hj hji);obtain⟨hjun,oj',hoj',hall⟩:=mem_ready.1 hj;rw[hoj]at hoj';cases hoj';have hnot:∀e∈oj.after,Region.binds md e=true→e.on≠i:=fun e he hb heq=>by
    have h1:=hall e he hb;have h0:=(mem_ready.1 hr).1;rw[heq]at h1;rcases Nat.lt_or_ge i listed.size with h'|h'
    ·simp[h']at h0 h1;rw[h0]at h1;cases h1
    ·simp[Array.getElem?_eq_none h']at h1
   obtain⟨hap,hcp⟩:=hfree j oj hoj hjk hji hjun hnot;obtain⟨s1',hya,hyb⟩:=U2 hR.refs hap hcp hy hy2;have hfree':∀k' ok,ops[k']? = some ok→k'<k→k'≠i→(listed.setIfInBounds j true).getD k' true=false→
     (∀e∈ok.after,Region.binds md e=true→e.on≠i)→oi.apart ops ok=true∧compat oi.op ok.op=true:=fun k' ok hk hkk hki hun hno=>by
    refine hfree k' ok hk hkk hki ?_ hno
    by_cases hjk:j=k'
    ·subst hjk;exact hjun
    ·rw[getD_set_ne true hjk]at hun;exact hun
   refine⟨oj,s1',hoj,hya,ih (listed.setIfInBounds j true) s1' s2 (ZM hR hya) (hcl.step hj) (by simpa using hsz) hfree' (ready_mono hr (Ne.symm hji)) hyb ?_⟩;rw[Array.setIfInBounds_comm _ _ hji];exact h1
def Zim (md:Region.Mode) (ops:Array Oper) (k:Nat) (listed:Array Bool) (i:Nat):Bool:=
 match ops[i]? with
 |none=>false
 |some oi=>(List.range k).all fun j=>j==i||listed.getD j true||match ops[j]? with
   |some oj=>oj.after.any (fun e=>Region.binds md e&&e.on==i)||(oi.apart ops oj&&compat oi.op oj.op)
   |none=>true
theorem UK {md:Region.Mode} {k i:Nat} {oi:Oper} {listed:Array Bool} (hi:ops[i]? = some oi) (h:Zim md ops k listed i=true) (j:Nat) (oj:Oper)
  (hj:ops[j]? = some oj) (hjk:j<k) (hne:j≠i) (hun:listed.getD j true=false) (hno:∀e∈oj.after,Region.binds md e=true→e.on≠i):
  oi.apart ops oj=true∧compat oi.op oj.op=true:=by
 simp only[Zim,hi,List.all_eq_true,List.mem_range]at h;have h1:=h j hjk;simp only[hj,Bool.or_eq_true,beq_iff_eq,hne,false_or,hun,Bool.false_eq_true]at h1;rcases h1 with h1|h1
 ·obtain⟨e,he,hb⟩:=Array.any_eq_true'.1 h1;simp only[Bool.and_eq_true,beq_iff_eq]at hb;exact absurd hb.2 (hno e he hb.1)
 ·simpa using h1
def Gm (md:Region.Mode) (ops:Array Oper) (n:Nat):Nat→Nat→Array Bool→Bool
 |0,_,_=>true
 |fuel+1,k,listed=>(Region.ready md ops listed).contains k&&Zim md ops n listed k&&Gm md ops n fuel (k+1) (listed.setIfInBounds k true)
def Zjo (k:Nat) (ops:Array Oper):Bool:=decide (k≤ops.size)&&Tf .any ops k&&Gm .any ops k k 0 (Array.replicate ops.size false)
theorem FU {md:Region.Mode} {n:Nat} {E:Array Bool→St→Prop} (hE:∀listed s,E listed s→ ∀i,i<n→listed.getD i true=true) (hc:Tf md ops n=true):∀(l:List Oper) (k:Nat) (listed:Array Bool) (s:St),RefsD s→Closed md ops listed→listed.size=ops.size→k+l.length=n→(∀j,j<l.length→l[j]? = ops[k+j]?)→
  Gm md ops n l.length k listed=true→Zbg P ops (E ((List.range' k l.length).foldl (fun a i=>a.setIfInBounds i true) listed)) l s→ZhM P md ops E l.length listed s
 | [],_,_,_,_,_,_,_,_,_,h=>h
 |o::l,k,listed,s,hR,hcl,hsz,hk,hl,hB,h=>by
  have h0:ops[k]? = some o:=by simpa using(hl 0 (by simp)).symm
  simp only[List.length_cons]at hk;simp only[List.length_cons,Gm,Bool.and_eq_true]at hB;obtain⟨⟨hr,hf⟩,hB'⟩:=hB;have hr':k∈Region.ready md ops listed:=by simpa using hr
  obtain⟨hd,h⟩:=h;have hl':∀j,j<l.length→l[j]? = ops[(k+1)+j]? :=fun j hj=>by have:=hl (j+1) (by simpa using hj);simpa[Nat.add_assoc,Nat.add_comm 1 j]using this
  simp only[List.length_cons,List.range'_succ,List.foldl_cons]at h;rcases h with ⟨hg,v,m',hst,hrest⟩|⟨hg,hrest⟩
  ·have hy:XI P ops o s ((s.with m').put o.dst v):=⟨hd,.inl ⟨hg,v,m',hst,rfl⟩⟩;exact Vq hE hc h0 (by omega) l.length listed s _ hR hcl hsz (UK h0 hf) hr' hy (FU hE hc l (k+1) _ _ (ZM hR hy) (hcl.step hr') (by simpa using hsz) (by omega) hl' hB' hrest)
  ·have hy:XI P ops o s (s.put o.dst (.tup [])):=⟨hd,.inr ⟨hg,rfl⟩⟩;exact Vq hE hc h0 (by omega) l.length listed s _ hR hcl hsz (UK h0 hf) hr' hy (FU hE hc l (k+1) _ _ (ZM hR hy) (hcl.step hr') (by simpa using hsz) (by omega) hl' hB' hrest)
theorem UI {K:St→Prop} {E:Array Bool→St→Prop} {m:Nat} (hE:∀listed s,E listed s→Zb3 P ops K m listed s):∀(fuel:Nat) (listed:Array Bool) (s:St),ZhM P .any ops E fuel listed s→Zb3 P ops K (m+fuel) listed s
 |0,listed,s,h=>hE _ _ h
 |fuel+1,listed,s,h=>fun B Qc S0 w0 hQ S M a w hs he=>⟨fun h0=>absurd h0 h.1,fun i hi=>by
   obtain⟨o,s',ho,hy,hn⟩:=h.2 i hi;unfold wpOp;simp only[ho];obtain⟨hd,hy⟩:=hy;rcases hy with ⟨hg,v,m',hst,rfl⟩|⟨hg,rfl⟩
   ·rw[Vi hs hg,if_pos rfl];exact .inl (YY hs (Z1 hd) hst _ _ fun u w' S' M' hs' he'=>UI hE fuel _ _ hn B Qc S0 w0 hQ S' M' _ w' hs' (he.trans he'))
   ·rw[Vi hs hg,if_neg (by simp)];exact UI hE fuel _ _ hn B Qc S0 w0 hQ S M _ w (Vc hs hd) he⟩
theorem UR {n i:Nat}:∀(L:List Nat) (listed:Array Bool),(listed.getD i true=true∨i∈L)→(YV listed L).getD i true=true
 | [],listed,h=>h.resolve_right (by simp)
 |j::L,listed,h=>UR (n:=n) L _ (by
  by_cases e:j=i
  ·subst e;left;simp only[Array.getD_eq_getD_getElem?,Array.getElem?_setIfInBounds];split
   ·split<;>simp
   ·rename_i h;exact absurd trivial h
  ·rcases h with h|h
   ·left;rw[getD_set_ne true e];exact h
   ·right;rcases List.mem_cons.1 h with rfl|h
    ·exact absurd rfl e
    ·exact h)
theorem TT {K K':St→Prop} (hK:∀s,K s→K' s):∀(l:List Oper) (s:St),Zbg P ops K l s→Zbg P ops K' l s
 | [],s,h=>hK s h
 |o::rest,s,⟨hd,h⟩=>⟨hd,by
  rcases h with ⟨hg,v,m',hst,hrest⟩|⟨hg,hrest⟩
  ·exact .inl ⟨hg,v,m',hst,TT hK rest _ hrest⟩
  ·exact .inr ⟨hg,TT hK rest _ hrest⟩⟩
theorem FJ {id:Nat} {l:List Oper} {Q:Exit→St→Prop} {s:St} (k:Nat) (hm:P.follows .mixedOrders=true) (hB:Zjo k l.toArray=true)
  (h:∀l1,l1=l.take k→ @vA P false ⟨@ZiV P (List.range k) ⟨@vQ ⟨Q⟩ .normal⟩ ⟨l⟩⟩ ⟨l⟩ ⟨l1⟩ s):awp P (.region id l.toArray true) Q s:=fun B S M a w hs=>by
 have h:=h _ rfl;simp only[Zjo,Bool.and_eq_true,decide_eq_true_eq,List.size_toArray]at hB;obtain⟨⟨hk,hc⟩,hB⟩:=hB;have hlen:(l.take k).length=k:=by simp;omega
 refine ZfB (P:=P) (ops:=l.toArray) (Q:=Q) hm ?_ B S M a w hs;intro B' Qc S0 w0 hQ S' M' a' w' hs' he';have hL:List.range' 0 (l.take k).length=List.range k:=by rw[hlen,List.range_eq_range']
 have hA:=Vj _ s h
 let E:Array Bool→St→Prop:=fun listed s=>listed=YV (Array.replicate l.length false) (List.range k)∧ @ZiV P (List.range k) ⟨@vQ ⟨Q⟩ .normal⟩ ⟨l⟩ s
 have hE:∀listed s,E listed s→ ∀i,i<k→listed.getD i true=true:=fun listed s h i hi=>by
  rw[h.1];exact UR (n:=0) _ _ (.inr (List.mem_range.2 hi))
 have h1:=FU (P:=P) (md:= .any) (n:=k) (E:=E) hE hc (l.take k) 0 (Array.replicate l.length false) s hs'.refsD (fun x ox hx hl=>by
  have hx':=(Array.getElem?_eq_some_iff.1 hx).1;simp at hx';simp[hx']at hl) (by simp) (by rw[hlen];omega) (fun j hj=>by
   rw[hlen]at hj;simp[hj]) (by rw[hlen];exact hB) (by
   rw[hL];exact TT (fun s h=>⟨rfl,h⟩) _ _ hA)
 have h2:=UI (P:=P) (K:=@vQ ⟨Q⟩ .normal) (E:=E) (m:=l.length-k) (fun listed s h=>by
  obtain⟨rfl,h⟩:=h;have h:Zb3 P l.toArray _ (l.length-(List.range k).length) _ s:=h;simpa using h) _ _ s h1
 rw[hlen]at h2;have e:l.length-k+k=l.toArray.size:=by simp;omega
 rw[e]at h2;have h2:=h2 B' Qc S0 w0 hQ S' M' a' w' hs' he';simpa using h2
theorem TW {K K':St→Prop} (hK:∀s,K s→K' s):∀(l:List Oper) (s:St),ZaB P ops K l s→ZaB P ops K' l s
 | [],s,h=>hK s h
 |o::rest,s,⟨hd,h⟩=>⟨hd,by
  rcases h with ⟨hg,⟨v,m',hst,hrest⟩|hsp⟩|⟨hg,hrest⟩
  ·exact .inl ⟨hg,.inl ⟨v,m',hst,TW hK rest _ hrest⟩⟩
  ·exact .inl ⟨hg,.inr (ZbJ (fun s h=>TW hK rest s h) hsp)⟩
  ·exact .inr ⟨hg,TW hK rest _ hrest⟩⟩
def Zkn (k:Nat) (l:List Oper):Bool:=decide (k≤l.length)&&Zdv l.toArray (List.range' k (l.length-k)) (YV (Array.replicate l.length false) (List.range k))&&(Region.ready .any l.toArray (YV (YV (Array.replicate l.length false) (List.range k)) (List.range' k (l.length-k)))).isEmpty
theorem Zdc {l:List Oper} {K:KS} {s:St} (k:Nat) (hf:Zkn k l=true) (h:∀l2,l2=l.drop k→ @vA P true K ⟨l⟩ ⟨l2⟩ s):@ZiV P (List.range k) K ⟨l⟩ s:=by
 have h:=h _ rfl;simp only[Zkn,Bool.and_eq_true,List.isEmpty_iff,decide_eq_true_eq]at hf;obtain⟨⟨hk,h2⟩,h3⟩:=hf;have h4:=Wo _ s h;have h5:ZaB P l.toArray (Zb3 P l.toArray K.k 0 (YV (YV (Array.replicate l.length false) (List.range k)) (List.range' k (l.length-k)))) (l.drop k) s:=TW (fun s h=>Zi5 h3 h) _ _ h4;have h6:=ZdV (List.range' k (l.length-k)) (l.drop k) _ s h2 (by
  refine List.ext_getElem (by simp) fun i h1 h2=> ?_
  simp at h1 ⊢) h5
 unfold ZiV;simp only[List.length_range']at h6;simpa using h6
end
open Go.RowKit
section
variable {P:Program} {ops:Array Oper}
def S8:Op→Bool
 | .move _| .fieldAddr .. | .load .. | .nilCheck _| .indexAddr .. =>true
 |_=>false
def SX:Op→Bool
 | .alloc _=>true
 |o=>S8 o
def ZkT (P:Program) (ops:Array Oper) (L:List Nat) (F:Array Bool→St→Prop):Nat→Array Bool→St→Prop
 |0,listed,s=>F listed s
 |fuel+1,listed,s=>(∃i∈Region.ready .any ops listed,i∈L)∧ ∀i∈Region.ready .any ops listed,i∈L→ ∃o s',ops[i]? = some o∧XI P ops o s s'∧ZkT P ops L F fuel (listed.setIfInBounds i true) s'
def Zjx (o:Oper) (i:Nat):Bool:=o.after.any fun e=>Region.binds .any e&&e.on==i
def Zbt (ops:Array Oper) (L:List Nat) (n:Nat):Bool:=L.all fun i=>(List.range n).all fun j=>j==i||match ops[i]?,ops[j]? with
 |some oi,some oj=>Zjx oj i||Zjx oi j||(oi.apart ops oj&&compat oi.op oj.op)
 |_,_=>false
theorem SG {L:List Nat} {n i j:Nat} {oi oj:Oper} (h:Zbt ops L n=true) (hi:i∈L) (hj:j<n) (hne:j≠i) (ei:ops[i]? = some oi) (ej:ops[j]? = some oj) (w1:∀e∈oj.after,Region.binds .any e=true→e.on≠i) (w2:∀e∈oi.after,Region.binds .any e=true→e.on≠j):
  oi.apart ops oj=true∧compat oi.op oj.op=true:=by
 simp only[Zbt,List.all_eq_true,List.mem_range]at h;have h1:=h i hi j hj;simp only[ei,ej,Bool.or_eq_true,beq_iff_eq,hne,false_or]at h1;rcases h1 with (h1|h1)|h1
 ·obtain⟨e,he,hb⟩:=Array.any_eq_true'.1 h1;simp only[Bool.and_eq_true,beq_iff_eq]at hb;exact absurd hb.2 (w1 e he hb.1)
 ·obtain⟨e,he,hb⟩:=Array.any_eq_true'.1 h1;simp only[Bool.and_eq_true,beq_iff_eq]at hb;exact absurd hb.2 (w2 e he hb.1)
 ·simpa using h1
theorem VH {listed:Array Bool} {i j:Nat} {oi:Oper} (hr:i∈Region.ready .any ops listed) (hi:ops[i]? = some oi) (hj:listed.getD j true=false):∀e∈oi.after,Region.binds .any e=true→e.on≠j:=fun e he hb heq=>by
 obtain⟨_,oi',hi',hall⟩:=mem_ready.1 hr;rw[hi]at hi';cases hi';have h1:=hall e he hb;rw[heq]at h1;rcases Nat.lt_or_ge j listed.size with h'|h'
 ·simp[h']at hj h1;rw[hj]at h1;cases h1
 ·simp[Array.getElem?_eq_none h']at h1
theorem Sl {L:List Nat} {n:Nat} {F:Array Bool→St→Prop} (hF:∀listed s,F listed s→ ∀i∈L,listed.getD i true=true) (hp:Zbt ops L n=true) (hLn:∀i∈L,i<n) {i:Nat} {oi:Oper} (hi:ops[i]? = some oi) (hik:i∈L):
  ∀(fuel:Nat) (listed:Array Bool) (s s1:St),RefsD s→i∈Region.ready .any ops listed→XI P ops oi s s1→
   ZkT P ops L F fuel (listed.setIfInBounds i true) s1→ZkT P ops L F (fuel+1) listed s:=by
 intro fuel
 induction fuel with
 |zero=>
  intro listed s s1 hR hr hy H;refine⟨⟨i,hr,hik⟩,fun j hj hjk=> ?_⟩
  by_cases hji:j=i
  ·subst hji;exact⟨oi,s1,hi,hy,H⟩
  ·exfalso;have h1:=hF _ _ H j hjk;rw[getD_set_ne true (Ne.symm hji),(mem_ready.1 hj).1]at h1;cases h1
 |succ fuel ih=>
  intro listed s s1 hR hr hy H;refine⟨⟨i,hr,hik⟩,fun j hj hjk=> ?_⟩
  by_cases hji:j=i
  ·subst hji;exact⟨oi,s1,hi,hy,H⟩
  ·obtain⟨oj,s2,hoj,hy2,h1⟩:=H.2 j (ready_mono hj hji) hjk;obtain⟨hap,hcp⟩:=SG hp hik (hLn j hjk) hji hi hoj (VH hj hoj (mem_ready.1 hr).1) (VH hr hi (mem_ready.1 hj).1);obtain⟨s1',hya,hyb⟩:=U2 hR.refs hap hcp hy hy2;refine⟨oj,s1',hoj,hya,ih (listed.setIfInBounds j true) s1' s2 (ZM hR hya) (ready_mono hr (Ne.symm hji)) hyb ?_⟩;rw[Array.setIfInBounds_comm _ _ hji];exact h1
def Zmy (ops:Array Oper):List Nat→Array Bool→Bool
 | [],_=>true
 |i::is,listed=>(Region.ready .any ops listed).contains i&&Zmy ops is (listed.setIfInBounds i true)
theorem FV {L:List Nat} {n:Nat} {F:Array Bool→St→Prop} (hF:∀listed s,F listed s→ ∀i∈L,listed.getD i true=true) (hp:Zbt ops L n=true) (hLn:∀i∈L,i<n):∀(is:List Nat) (l:List Oper) (listed:Array Bool) (s:St),RefsD s→(∀i∈is,i∈L)→is.map (fun i=>ops[i]?)=l.map some→
  Zmy ops is listed=true→Zbg P ops (F (YV listed is)) l s→ZkT P ops L F is.length listed s
 | [],[],_,_,_,_,_,_,h=>h
 | [],_::_,_,_,_,_,h,_,_=>by simp at h
 |_::_,[],_,_,_,_,h,_,_=>by simp at h
 |i::is,o::l,listed,s,hR,hi,hl,hB,h=>by
  simp only[List.map_cons,List.cons.injEq]at hl;obtain⟨h0,hl'⟩:=hl;simp only[Zmy,Bool.and_eq_true]at hB;obtain⟨hr,hB'⟩:=hB;have hr':i∈Region.ready .any ops listed:=by simpa using hr
  have hiL:=hi i (by simp);obtain⟨hd,h⟩:=h;rcases h with ⟨hg,v,m',hst,hrest⟩|⟨hg,hrest⟩
  ·have hy:XI P ops o s ((s.with m').put o.dst v):=⟨hd,.inl ⟨hg,v,m',hst,rfl⟩⟩;exact Sl hF hp hLn h0 hiL is.length listed s _ hR hr' hy (FV hF hp hLn is l _ _ (ZM hR hy) (fun j hj=>hi j (by simp[hj])) hl' hB' hrest)
  ·have hy:XI P ops o s (s.put o.dst (.tup [])):=⟨hd,.inr ⟨hg,rfl⟩⟩;exact Sl hF hp hLn h0 hiL is.length listed s _ hR hr' hy (FV hF hp hLn is l _ _ (ZM hR hy) (fun j hj=>hi j (by simp[hj])) hl' hB' hrest)
def Zit (ops:Array Oper) (n:Nat):List Nat→Array Bool→Bool
 | [],_=>true
 |i::is,listed=>(Region.ready .any ops listed).contains i&&Zim .any ops n listed i&&Zit ops n is (listed.setIfInBounds i true)
theorem GB {n:Nat} {E:Array Bool→St→Prop} (hE:∀listed s,E listed s→ ∀i,i<n→listed.getD i true=true) (hc:Tf .any ops n=true):∀(is:List Nat) (l:List Oper) (listed:Array Bool) (s:St),RefsD s→Closed .any ops listed→listed.size=ops.size→(∀i∈is,i<n)→is.map (fun i=>ops[i]?)=l.map some→
  Zit ops n is listed=true→Zbg P ops (E (YV listed is)) l s→ZhM P .any ops E is.length listed s
 | [],[],_,_,_,_,_,_,_,_,h=>h
 | [],_::_,_,_,_,_,_,_,h,_,_=>by simp at h
 |_::_,[],_,_,_,_,_,_,h,_,_=>by simp at h
 |i::is,o::l,listed,s,hR,hcl,hsz,hi,hl,hB,h=>by
  simp only[List.map_cons,List.cons.injEq]at hl;obtain⟨h0,hl'⟩:=hl;simp only[Zit,Bool.and_eq_true]at hB;obtain⟨⟨hr,hf⟩,hB'⟩:=hB;have hr':i∈Region.ready .any ops listed:=by simpa using hr
  have hin:=hi i (by simp);obtain⟨hd,h⟩:=h;rcases h with ⟨hg,v,m',hst,hrest⟩|⟨hg,hrest⟩
  ·have hy:XI P ops o s ((s.with m').put o.dst v):=⟨hd,.inl ⟨hg,v,m',hst,rfl⟩⟩;exact Vq hE hc h0 hin is.length listed s _ hR hcl hsz (UK h0 hf) hr' hy (GB hE hc is l _ _ (ZM hR hy) (hcl.step hr') (by simpa using hsz) (fun j hj=>hi j (by simp[hj])) hl' hB' hrest)
  ·have hy:XI P ops o s (s.put o.dst (.tup [])):=⟨hd,.inr ⟨hg,rfl⟩⟩;exact Vq hE hc h0 hin is.length listed s _ hR hcl hsz (UK h0 hf) hr' hy (GB hE hc is l _ _ (ZM hR hy) (hcl.step hr') (by simpa using hsz) (fun j hj=>hi j (by simp[hj])) hl' hB' hrest)
def Zfq (m:Hp) (d n sz:Nat) (e:TypeId) (es:List PV):Hp:= { m.setq d (.vec n sz e)with v:=upd m.v d (some es) }
theorem Zgf {m:Hp} {d n sz:Nat} {e:TypeId} {es:List PV} {r:Ref} (h:Live m r):Live (Zfq m d n sz e es) r:=by
 cases r with
 |b i=>exact h
 |r i=>
  show upd m.q d _ i≠none
  by_cases e:d=i
  ·subst e;rw[Za];simp
  ·rw[Zc _ _ e];exact h
variable {o oe:Oper} {s s':St} {v:PV} {f:Hp→Hp} {x:Bool}
theorem Vf {ρ ρ':Operand→PV} {o:Oper} {c:Call} (ho:o.op= .call c) (h:∀x∈o.op.operands,ρ x=ρ' x):Zx ρ c=Zx ρ' c:=by
 rw[ho]at h;unfold Zx;cases hcal:c.callee with
 |value f=>
  have e1:ρ f=ρ' f:=h f (by simp[Op.operands,Call.operands,hcal]);have e2:c.args.toList.map ρ'=c.args.toList.map ρ:=List.map_congr_left fun x hx=>(h x (by simp[Op.operands,Call.operands];right;simpa using hx)).symm
  simp only[e1,e2]
 |_=>rfl
theorem Ge (hl:S8 o.op=true) {ρ:Operand→PV} {m:Hp} (ho:(aop P o ρ m).ok):(aop P o ρ m).m=m:=by
 obtain⟨dst,op,ty,pos,af,guard⟩:=o;cases op<;>first|(simp[S8]at hl;done)|skip
 ·rfl
 ·simp only[aop]at ho ⊢;split at ho
  ·rename_i h;rw[if_pos h];unfold Ve at ho ⊢;split at ho<;>first|rfl|skip
   ·split at ho<;>first|rfl|exact ho.elim
   ·split at ho<;>first|rfl|exact ho.elim
   ·exact ho.elim
  ·exact ho.elim
 ·simp only[aop]at ho ⊢;unfold Y1 at ho ⊢;split at ho<;>first|rfl|exact ho.elim
 ·simp only[aop]at ho ⊢;unfold Yi at ho ⊢;split at ho<;>first|rfl|exact ho.elim
 ·simp only[aop]at ho ⊢;unfold Yj at ho ⊢;split at ho<;>first|rfl|exact ho.elim
theorem ZhO {ρ:Operand→PV} {m m':Hp} (hl:S8 o.op=true) (ho:(aop P o ρ m).ok) (hh:m'.h=m.h) (hv:∀x∈o.op.operands,∀i,.r i∈(ρ x).ids→m'.v i=m.v i):
  (aop P o ρ m').ok∧(aop P o ρ m').v=(aop P o ρ m).v:=by
 obtain⟨dst,op,ty,pos,af,guard⟩:=o;cases op<;>first|(simp[S8]at hl;done)|skip
 ·exact⟨trivial,rfl⟩
 ·rename_i t x;have hx:=hv x (by simp[Op.operands]);simp only[aop]at ho ⊢;split at ho
  ·rename_i h;rw[if_pos h,if_pos h];cases hv:ρ x with
   |vptr id n' sz' i off=>
    rw[hv]at hx ho;have e1:=hx id (by simp[PV.ids]);simp only[Ve,e1]at ho ⊢;split at ho
    ·exact⟨ho,rfl⟩
    ·exact ho.elim
   |ptr id off=>
    rw[hv]at ho;simp only[Ve,hh]at ho ⊢;split at ho
    ·exact⟨ho,rfl⟩
    ·exact ho.elim
   |rptr cs=>rw[hv]at ho;exact⟨ho,rfl⟩
   |_=>rw[hv]at ho;exact ho.elim
  ·exact ho.elim
 ·simp only[aop]at ho ⊢;unfold Y1 at ho ⊢;split at ho<;>first|exact⟨ho,rfl⟩|exact ho.elim
 ·simp only[aop]at ho ⊢;unfold Yi at ho ⊢;split at ho<;>first|exact⟨ho,rfl⟩|exact ho.elim
 ·simp only[aop]at ho ⊢;unfold Yj at ho ⊢;split at ho<;>first|exact⟨ho,rfl⟩|exact ho.elim
structure Near (n:Nat) (m m':Hp):Prop where
 q:m'.q=m.q
 v:m'.v=m.v
 h:∀i,n≤i→m'.h i=m.h i∧m'.z i=m.z i
theorem Near.refl (n:Nat) (m:Hp):Near n m m:=⟨rfl,rfl,fun _ _=>⟨rfl,rfl⟩⟩
theorem Near.trans {n:Nat} {a b c:Hp} (h:Near n a b) (h':Near n b c):Near n a c:=⟨h'.q.trans h.q,h'.v.trans h.v,fun i hi=>⟨(h'.h i hi).1.trans (h.h i hi).1,(h'.h i hi).2.trans (h.h i hi).2⟩⟩
theorem Near.symm {n:Nat} {a b:Hp} (h:Near n a b):Near n b a:=⟨h.q.symm,h.v.symm,fun i hi=>⟨(h.h i hi).1.symm,(h.h i hi).2.symm⟩⟩
theorem ZaK {dst:Option Tmp} {t:TypeId} {ty:TypeId} {pos:String} {af:Array Edge} {guard:Option (Nat×Bool)} {ρ:Operand→PV} {m:Hp} (h:(aop P ⟨dst,.alloc t,ty,pos,af,guard⟩ ρ m).ok):
  ∃d z,dst=some d∧m.h d=none∧ ∀m2 ρ2,aop P ⟨dst,.alloc t,ty,pos,af,guard⟩ ρ2 m2=⟨m2.h d=none,.ptr d 0,m2.new d z⟩:=by
 cases dst with
 |none=>exact h.elim
 |some d=>
  have e:∀ρ2 m2,aop P ⟨some d,.alloc t,ty,pos,af,guard⟩ ρ2 m2=(match U7 P t with|some z=>⟨m2.h d=none,.ptr d 0,m2.new d z⟩|none=> .fail):=fun ρ2 m2=>by
   simp only[aop];cases U7 P t<;>rfl
  rw[e]at h;cases hz:U7 P t with
  |none=>rw[hz]at h;exact h.elim
  |some z=>
   rw[hz]at h;exact⟨d,z,rfl,h,fun m2 ρ2=>by rw[e,hz]⟩
theorem Tv (hl:SX o.op=true) (hg:o.guard=none) (h:XI P ops o s s'):Tn s.n o.dst∧(aop P o s.eval s.m).ok∧s'=(s.with (aop P o s.eval s.m).m).put o.dst (aop P o s.eval s.m).v∧Near s.n s.m (aop P o s.eval s.m).m:=by
 obtain⟨h1,⟨_,v,m',h2,rfl⟩|⟨h2,_⟩⟩:=h
 ·rcases h2 with ⟨h2,rfl,rfl⟩|⟨c,_,_,h2,_⟩
  ·refine⟨h1,h2,rfl,?_⟩
   by_cases hk:S8 o.op=true
   ·rw[Ge hk h2];exact .refl _ _
   ·obtain⟨dst,op,ty,pos,af,guard⟩:=o;cases op<;>first|(simp[SX,S8]at hl hk;done)|skip
    obtain⟨d,z,rfl,h3,h4⟩:=ZaK h2;rw[h4];have hd:d<s.n:=h1;exact⟨rfl,rfl,fun i hi=>⟨Zc s.m.h (some z) (Nat.ne_of_lt (Nat.lt_of_lt_of_le hd hi)),Zc s.m.z false (Nat.ne_of_lt (Nat.lt_of_lt_of_le hd hi))⟩⟩
  ·rw[h2]at hl;simp[SX,S8]at hl
 ·simp[gd,hg]at h2
theorem Zbc {es:List PV} (h:PV.didsL es= []):∀p∈es,p.ids= []:=fun p hp=>by
 cases hi:p.ids with
 |nil=>rfl
 |cons x l=>
  have:x∈PV.didsL es:=PV.mem_didsL.2 ⟨p,hp,Xu _ (by rw[hi];simp)⟩;rw[h]at this;cases this
def Db (ops:Array Oper) (L:List Nat):Bool:=L.all fun i=>((ops[i]?).map fun o=>SX o.op&&o.guard.isNone).getD false
theorem Zbi {L:List Nat} {i:Nat} (h:Db ops L=true) (hi:i∈L) (ei:ops[i]? = some o):SX o.op=true∧o.guard=none:=by
 simp only[Db,List.all_eq_true]at h;have:=h i hi;simp only[ei,Option.map_some,Option.getD_some,Bool.and_eq_true,Option.isNone_iff_eq_none]at this;exact this
def De:Op→Bool
 | .load .. =>false
 |_=>true
def ZjJ (ops:Array Oper):Nat→Nat→Nat→Bool
 |0,_,_=>false
 |fuel+1,i,j=>((ops[j]?).map fun o=>o.after.any fun e=>Region.binds .any e&&(e.on==i||ZjJ ops fuel i e.on)).getD false
def Zas (ops:Array Oper) (j:Nat):Bool:=(List.range ops.size).all fun i=>((ops[i]?).map fun o=>De o.op).getD true||ZjJ ops ops.size i j
theorem D5 {listed:Array Bool} (hcl:Closed .any ops listed) {i:Nat}:∀(fuel j:Nat) (oj:Oper),ops[j]? = some oj→(∀e∈oj.after,Region.binds .any e=true→listed.getD e.on false=true)→ZjJ ops fuel i j=true→listed.getD i false=true
 |0,_,_,_,_,h=>by simp[ZjJ]at h
 |fuel+1,j,oj,hj,hall,h=>by
  unfold ZjJ at h;rw[hj]at h;simp only[Option.map_some,Option.getD_some]at h;obtain⟨e,he,hb⟩:=Array.any_eq_true'.1 h;simp only[Bool.and_eq_true,Bool.or_eq_true,beq_iff_eq]at hb;have h1:=hall e he hb.1;rcases hb.2 with h2|h2
  ·rw[←h2];exact h1
  ·cases ho:ops[e.on]? with
   |none=>
    cases fuel with
    |zero=>simp[ZjJ]at h2
    |succ fuel=>simp[ZjJ,ho]at h2
   |some ox=>
    refine D5 hcl fuel e.on ox ho (fun e' he' hb'=>hcl e.on ox ho ?_ e' he' hb') h2;rw[Array.getD_eq_getD_getElem?]at h1 ⊢;cases hx:listed[e.on]? with
    |none=>rw[hx]at h1;simp at h1
    |some b=>rw[hx]at h1;simpa using h1
theorem ZbM {listed:Array Bool} {i j:Nat} {oi:Oper} (h:Zas ops j=true) (hcl:Closed .any ops listed) (hj:j∈Region.ready .any ops listed) (hi:i∈Region.ready .any ops listed) (ei:ops[i]? = some oi):De oi.op=true:=by
 simp only[Zas,List.all_eq_true,List.mem_range]at h;have h1:=h i (Array.getElem?_eq_some_iff.1 ei).1;rw[ei]at h1;simp only[Option.map_some,Option.getD_some,Bool.or_eq_true]at h1;refine h1.resolve_right fun h2=> ?_
 obtain⟨_,oj',hoj,hall⟩:=mem_ready.1 hj;have h3:=D5 hcl _ j oj' hoj (fun e he hb=>by have:=hall e he hb;simpa using this) h2;have h4:=(mem_ready.1 hi).1;rw[Array.getD_eq_getD_getElem?]at h3;cases hx:listed[i]? with
 |none=>rw[hx]at h3;simp at h3
 |some b=>
  rw[hx]at h3;simp[hx]at h3 h4;rw[h3]at h4;cases h4
def Zex:Op→Bool
 | .build .. | .move _| .fieldAddr .. | .nilCheck _| .indexAddr .. =>true
 |_=>false
theorem FX (hl:Zex o.op=true) {ρ:Operand→PV} {m:Hp} (ho:(aop P o ρ m).ok) (m2:Hp):(aop P o ρ m2).ok∧(aop P o ρ m2).v=(aop P o ρ m).v∧(aop P o ρ m2).m=m2:=by
 obtain⟨dst,op,ty,pos,af,guard⟩:=o;cases op with
 |build t ps=>
  simp only[aop]at ho ⊢;unfold U9 at ho ⊢;split at ho<;>first|exact ho.elim|(split at ho<;>first|exact⟨ho,rfl,rfl⟩|exact ho.elim)
 |move x=>exact⟨trivial,rfl,rfl⟩
 |nilCheck x=>
  simp only[aop]at ho ⊢;unfold Y1 at ho ⊢;split at ho<;>first|exact⟨ho,rfl,rfl⟩|exact ho.elim
 |fieldAddr t x f=>
  simp only[aop]at ho ⊢;unfold Yi at ho ⊢;split at ho<;>first|exact⟨ho,rfl,rfl⟩|exact ho.elim
 |indexAddr t x i=>
  simp only[aop]at ho ⊢;unfold Yj at ho ⊢;split at ho<;>first|exact⟨ho,rfl,rfl⟩|exact ho.elim
 |_=>simp[Zex]at hl
def reM (m:Hp) (d d2 n sz:Nat) (e:TypeId) (es:List PV):Hp:= { m with q:=upd (upd m.q d (some .dead)) d2 (some (.vec n sz e)),v:=upd (upd m.v d none) d2 (some es) }
theorem Ziu {m:Hp} {d d2 n sz:Nat} {e:TypeId} {es:List PV} {r:Ref} (h:Live m r):Live (reM m d d2 n sz e es) r:=by
 cases r with
 |b i=>exact h
 |r i=>
  show upd (upd m.q d _) d2 _ i≠none
  by_cases e2:d2=i
  ·subst e2;rw[Za];simp
  ·rw[Zc _ _ e2]
   by_cases e1:d=i
   ·subst e1;rw[Za];simp
   ·rw[Zc _ _ e1];exact h
theorem ZiF (hR:RefsD s) {d d2 n sz:Nat} {e:TypeId} {es:List PV} (hes:∀r∈PV.didsL es,Live s.m r):RefsD ((s.with (reM s.m d d2 n sz e es)).put oe.dst (.vsl d2 n sz)):=by
 have hl:∀r,Live s.m r→Live (reM s.m d d2 n sz e es) r:=fun r h=>Ziu h
 have hm:((s.with (reM s.m d d2 n sz e es)).put oe.dst (.vsl d2 n sz)).m=reM s.m d d2 n sz e es:=U6 _ _ _;have hd:Live (reM s.m d d2 n sz e es) (.r d2):=by show upd _ d2 _ d2≠none;rw[Za];simp
 refine⟨fun i k hk=> ?_,fun i cs hi c hc k hk=> ?_,fun b c hc k hk=> ?_,fun b x c hx hc k hk=> ?_,fun i es' hi k hk=> ?_,fun b c hc k hk=> ?_⟩
 ·rw[hm]
  by_cases ed:oe.dst=some i
  ·have:((s.with (reM s.m d d2 n sz e es)).put oe.dst (.vsl d2 n sz)).fr i= .vsl d2 n sz:=by rw[ed];exact Za _ _ _
   rw[this]at hk;simp only[PV.dids,List.mem_singleton]at hk;subst hk;exact hd
  ·have:((s.with (reM s.m d d2 n sz e es)).put oe.dst (.vsl d2 n sz)).fr i=s.fr i:=Fx ed;rw[this]at hk;exact hl _ (hR.fr i k hk)
 ·rw[hm]at hi ⊢;exact hl _ (hR.h i cs hi c hc k hk)
 ·rw[hm]at hc ⊢;exact hl _ (hR.o b c hc k hk)
 ·rw[hm]at hx;exact hR.it b x c hx hc k hk
 ·rw[hm]at hi ⊢
  by_cases e2:d2=i
  ·subst e2;have:es'=es:=by
    have h0:upd _ d2 (some es) d2=some es':=hi;rw[Za]at h0;exact(Option.some.inj h0).symm
   subst this;exact hl _ (hes k hk)
  ·have h0:upd (upd s.m.v d none) d2 (some es) i=some es':=hi;rw[Zc _ _ e2]at h0
   by_cases e1:d=i
   ·subst e1;rw[Za]at h0;cases h0
   ·rw[Zc _ _ e1]at h0;exact hl _ (hR.v i es' h0 k hk)
 ·rw[hm]at hc ⊢;exact hl _ (hR.om b c hc k hk)
inductive CK (P:Program) (o:Oper) (s:St):Bool→PV→(Hp→Hp)→Prop
 |call (c:Call) (g:FuncId) (args args0:List PV) (r0:PV) (i d n sz:Nat) (e:TypeId) (es:List PV) (hop:o.op= .call c) (hcl:Zx s.eval c=some (g,args)) (hg:∀m,PV.giveL m args=args0) (ha:∀p∈args0,p.ids= []) (h1:Eff P g args0 noV r0 (D0 i n sz e es)) (hq:s.m.q d=none) (hes:PV.didsL es= []) (hr:∀j∈(r0.ren (fun _=>d) id).dids,j= .r d):
   CK P o s false (r0.ren (fun _=>d) id) (fun m=>Zfq m d n sz e es)
 |lit (t:TypeId) (len:Nat) (parts:Array (Nat×Operand)) (d:Nat) (ei:EInfo) (hop:o.op= .buildSlice t len parts) (hd:o.dst=some d) (ht:Wm P t=some ei) (hq:s.m.q d=none) (hl:len=(parts.toList.map fun x=>(x.1,s.eval x.2)).length) (hs:len*ei.size≤16777216) (hp:Td ei.size d 0 (parts.toList.map fun x=>(x.1,s.eval x.2))):
   CK P o s false (.vsl d len ei.size) (fun m=>Zfq m d len ei.size ei.e ((parts.toList.map fun x=>(x.1,s.eval x.2)).map (·.2)))
 |lend (c:Call) (g:FuncId) (args:List PV) (r:PV) (hop:o.op= .call c) (hcl:Zx s.eval c=some (g,args)) (h:∀m,Near s.n s.m m→CallS P g args m r m) (hr:r.dids= []):CK P o s false r id
 |look (v:PV) (h:∀m,(aop P o s.eval m).ok∧(aop P o s.eval m).v=v∧(aop P o s.eval m).m=m):CK P o s false v id
 |re (c:Call) (g:FuncId) (args:List PV) (d d2 n sz:Nat) (e:TypeId) (es:List PV) (hop:o.op= .call c) (hcl:Zx s.eval c=some (g,args)) (h:∀m,Near s.n s.m m→CallS P g args m (.vsl d2 n sz) (reM m d d2 n sz e es)) (hes:∀r∈PV.didsL es,∃i,r= .r i∧s.m.q i≠none):CK P o s true (.vsl d2 n sz) (fun m=>reM m d d2 n sz e es)
theorem CK.back (hl:SX o.op=true) (hg:o.guard=none) (hap:o.apart ops oe=true) (hy:XI P ops o s s') (h:CK P oe s' x v f):CK P oe s x v f:=by
 obtain⟨a1,a2,a3⟩:=Oper.apart_spec hap;obtain⟨h1,h2,rfl,hnr⟩:=Tv hl hg hy;have hev:∀x∈oe.op.operands,((s.with (aop P o s.eval s.m).m).put o.dst (aop P o s.eval s.m).v).eval x=s.eval x:=fun x hx=>by rw[UU (VE a1 x hx),Sd]
 have hm:((s.with (aop P o s.eval s.m).m).put o.dst (aop P o s.eval s.m).v).m=(aop P o s.eval s.m).m:=U6 _ _ _;have hn:((s.with (aop P o s.eval s.m).m).put o.dst (aop P o s.eval s.m).v).n=s.n:=Zal _ _ _;generalize (aop P o s.eval s.m).m=m1 at *;generalize (s.with m1).put o.dst (aop P o s.eval s.m).v=s1 at *;cases h with
 |call c g args args0 r0 i d n sz e es hop hcl hg ha h1 hq hes hr=>exact .call c g args args0 r0 i d n sz e es hop (by rw[←hcl];exact(Vf hop hev).symm) hg ha h1 (by rw[hm,hnr.q]at hq;exact hq) hes hr
 |lit t len parts d ei hop hd ht hq hl hs hp=>
  have hpp:(parts.toList.map fun x=>(x.1,s1.eval x.2))=(parts.toList.map fun x=>(x.1,s.eval x.2)):=List.map_congr_left fun p hm=>by
   rw[hev p.2 (by rw[hop];simp only[Op.operands];simp only[List.mem_toArray,List.mem_map];exact⟨p,hm,rfl⟩)]
  rw[hpp]at hl hp ⊢;exact .lit t len parts d ei hop hd ht (by rw[hm,hnr.q]at hq;exact hq) hl hs hp
 |lend c g args r hop hcl h hr=>exact .lend c g args v hop (by rw[←hcl];exact(Vf hop hev).symm) (fun m h'=>h m (by rw[hm,hn];exact hnr.symm.trans h')) hr
 |look v h=>exact .look v fun m=>by rw[←GE oe m hev];exact h m
 |re c g args d d2 n sz e es hop hcl h hes=>exact .re c g args d d2 n sz e es hop (by rw[←hcl];exact(Vf hop hev).symm) (fun m h'=>h m (by rw[hm,hn];exact hnr.symm.trans h')) (fun r hr=>by
  obtain⟨i,e1,e2⟩:=hes r hr;rw[hm,hnr.q]at e2;exact⟨i,e1,e2⟩)
theorem CK.run {K:St→Prop} (h:CK P oe s x v f) (hK:K ((s.with (f s.m)).put oe.dst v)):(∃v m',TE P oe s.eval s.m v m'∧K ((s.with m').put oe.dst v))∨spec P oe s K:=by
 cases h with
 |call c g args args0 r0 i d n sz e es hop hcl hg ha h1 hq hes hr=>
  refine .inr ?_;unfold Go.PL.spec;simp only[hop,hcl];refine .inr (.inl ⟨args0,noV,r0,D0 i n sz e es,fun _=>d,id,h1,⟨by simp,by simp,by simp,by simp,fun x hx=> ?_,by simp,fun x hx y hy _=> ?_⟩,.inl (by rw[Tu ha];exact hg _),?_⟩)
  ·simp only[List.mem_singleton]at hx;subst hx;exact .inr hq
  ·simp only[List.mem_singleton]at hx hy;subst hx hy;rfl
  ·rw[ZdF (Zbc hes)];exact hK
 |lit t len parts d ei hop hd ht hq hl hs hp=>
  refine .inr ?_;unfold Go.PL.spec;simp only[hop,hd,Zk4,ht];rw[hd]at hK;exact⟨hq,hl,hs,hp,hK⟩
 |lend c g args r hop hcl h hr=>
  refine .inr ?_;unfold Go.PL.spec;simp only[hop,hcl];exact .inr (.inr ⟨v,s.m,h s.m (.refl _ _),hK⟩)
 |look v h=>
  obtain⟨h1,h2,h3⟩:=h s.m;exact .inl ⟨v,s.m,.inl ⟨h1,h2.symm,h3.symm⟩,hK⟩
 |re c g args d d2 n sz e es hop hcl h hes=>
  refine .inr ?_;unfold Go.PL.spec;simp only[hop,hcl];exact .inr (.inr ⟨_,_,h s.m (.refl _ _),hK⟩)
theorem Zbx (hR:RefsD s) {d n sz:Nat} {e:TypeId} {es:List PV} (hes:∀r∈PV.didsL es,Live s.m r) (hv:∀j∈v.dids,j= .r d):RefsD ((s.with (Zfq s.m d n sz e es)).put oe.dst v):=by
 have hl:∀r,Live s.m r→Live (Zfq s.m d n sz e es) r:=fun r h=>Zgf h
 have hm:((s.with (Zfq s.m d n sz e es)).put oe.dst v).m=Zfq s.m d n sz e es:=U6 _ _ _;have hd:Live (Zfq s.m d n sz e es) (.r d):=by show upd s.m.q d _ d≠none;rw[Za];simp
 refine⟨fun i k hk=> ?_,fun i cs hi c hc k hk=> ?_,fun b c hc k hk=> ?_,fun b x c hx hc k hk=> ?_,fun i es' hi k hk=> ?_,fun b c hc k hk=> ?_⟩
 ·rw[hm]
  by_cases ed:oe.dst=some i
  ·have:((s.with (Zfq s.m d n sz e es)).put oe.dst v).fr i=v:=by rw[ed];exact Za _ _ _
   rw[this]at hk;rw[hv k hk];exact hd
  ·have:((s.with (Zfq s.m d n sz e es)).put oe.dst v).fr i=s.fr i:=Fx ed;rw[this]at hk;exact hl _ (hR.fr i k hk)
 ·rw[hm]at hi ⊢;exact hl _ (hR.h i cs hi c hc k hk)
 ·rw[hm]at hc ⊢;exact hl _ (hR.o b c hc k hk)
 ·rw[hm]at hx;exact hR.it b x c hx hc k hk
 ·rw[hm]at hi ⊢
  by_cases ed:d=i
  ·subst ed;have:es'=es:=by
    have h0:upd s.m.v d (some es) d=some es':=hi;rw[Za]at h0;exact(Option.some.inj h0).symm
   subst this;exact hl _ (hes k hk)
  ·have h0:upd s.m.v d (some es) i=some es':=hi;rw[Zc _ _ ed]at h0;exact hl _ (hR.v i es' h0 k hk)
 ·rw[hm]at hc ⊢;exact hl _ (hR.om b c hc k hk)
theorem Za6 (hR:RefsD s) (x:Operand):∀r∈(s.eval x).dids,Live s.m r:=fun r h=>by
 cases x with
 |tmp t=>exact hR.fr t r h
 |const v=>simp[St.eval,Wu]at h
 |_=>simp[St.eval,PV.dids,PV.didsL]at h
theorem ZiE (hR:RefsD s) (hv:∀r∈v.dids,Live s.m r) (d:Option Nat):RefsD (s.put d v):=by
 have hm:(s.put d v).m=s.m:=U6 _ _ _;refine⟨fun i k hk=> ?_,fun i cs hi c hc k hk=> ?_,fun b c hc k hk=> ?_,fun b x c hx hc k hk=> ?_,fun i es hi k hk=> ?_,fun b c hc k hk=> ?_⟩
 ·rw[hm]
  by_cases ed:d=some i
  ·have:(s.put d v).fr i=v:=by rw[ed];exact Za _ _ _
   rw[this]at hk;exact hv k hk
  ·have:(s.put d v).fr i=s.fr i:=Fx ed;rw[this]at hk;exact hR.fr i k hk
 ·rw[hm]at hi ⊢;exact hR.h i cs hi c hc k hk
 ·rw[hm]at hc ⊢;exact hR.o b c hc k hk
 ·rw[hm]at hx;exact hR.it b x c hx hc k hk
 ·rw[hm]at hi ⊢;exact hR.v i es hi k hk
 ·rw[hm]at hc ⊢;exact hR.om b c hc k hk
theorem CK.refs (h:CK P oe s x v f) (hd:Tn s.n oe.dst) (hg:gd ops s oe=some true) (hR:RefsD s):RefsD ((s.with (f s.m)).put oe.dst v):=by
 cases h with
 |call c g args args0 r0 i d n sz e es hop hcl hg ha h1 hq hes hr=>exact Zbx hR (by rw[hes];simp) hr
 |lit t len parts d ei hop hd ht hq hl hs hp=>
  refine Zbx hR (fun r hr=> ?_) (fun j hj=>by simpa[PV.dids]using hj);obtain⟨p,hp,hr⟩:=PV.mem_didsL.1 hr;simp only[List.map_map,List.mem_map]at hp;obtain⟨x,_,rfl⟩:=hp;exact Za6 hR x.2 r hr
 |lend c g args r hop hcl h hr=>exact ZiE hR (by rw[hr];simp) _
 |look v h=>
  obtain⟨h1,h2,h3⟩:=h s.m;exact ZM (P:=P) (ops:=ops) (o:=oe) hR ⟨hd,.inl ⟨hg,v,s.m,.inl ⟨h1,h2.symm,h3.symm⟩,rfl⟩⟩
 |re c g args d d2 n sz e es hop hcl h hes=>
  refine ZiF hR fun r hr=> ?_
  obtain⟨i,rfl,e2⟩:=hes r hr;exact e2
theorem CK.keep (h:CK P oe s x v f):(∀m,(f m).h=m.h)∧(x=false→ ∀i,s.m.q i≠none→(f s.m).v i=s.m.v i)∧ ∀m d z,f (m.new d z)=(f m).new d z:=by
 have add:∀ {d n sz:Nat} {e:TypeId} {es:List PV},s.m.q d=none→ ∀i,s.m.q i≠none→(Zfq s.m d n sz e es).v i=s.m.v i:=fun hq i hi=>Zc _ _ fun e=>by subst e;exact hi hq
 cases h with
 |call c g args args0 r0 i d n sz e es hop hcl hg ha h1 hq hes hr=>exact⟨fun _=>rfl,fun _=>add hq,fun _ _ _=>rfl⟩
 |lit t len parts d ei hop hd ht hq hl hs hp=>exact⟨fun _=>rfl,fun _=>add hq,fun _ _ _=>rfl⟩
 |lend c g args r hop hcl h hr=>exact⟨fun _=>rfl,fun _ _ _=>rfl,fun _ _ _=>rfl⟩
 |look v h=>exact⟨fun _=>rfl,fun _ _ _=>rfl,fun _ _ _=>rfl⟩
 |re c g args d d2 n sz e es hop hcl h hes=>exact⟨fun _=>rfl,nofun,fun _ _ _=>rfl⟩
theorem Zgg {op:Op} (h:S8 op=true) (hn:De op=true):Zex op=true:=by cases op<;>simp[S8,De,Zex]at h hn ⊢
theorem CK.ext (h:CK P oe s x v f) (hx:x=true→De o.op=true) (hl:SX o.op=true) (hg:o.guard=none) (hap:o.apart ops oe=true) (hR:RefsD s) (hy:XI P ops o s s'):XI P ops o ((s.with (f s.m)).put oe.dst v) ((s'.with (f s'.m)).put oe.dst v):=by
 obtain⟨a1,a2,a3⟩:=Oper.apart_spec hap;obtain⟨h1,h2,rfl,hnr⟩:=Tv hl hg hy;obtain⟨k1,k2,k3⟩:=h.keep;have hev:∀x∈o.op.operands,((s.with (f s.m)).put oe.dst v).eval x=s.eval x:=fun x hx=>by
  rw[UU (VE a3 x hx),Sd]
 have hm:((s.with (f s.m)).put oe.dst v).m=f s.m:=U6 _ _ _;have key:(aop P o s.eval (f s.m)).ok∧(aop P o s.eval (f s.m)).v=(aop P o s.eval s.m).v∧(aop P o s.eval (f s.m)).m=f (aop P o s.eval s.m).m:=by
  by_cases hk:S8 o.op=true
  ·cases x with
   |false=>
    obtain⟨g1,g2⟩:=ZhO (m':=f s.m) hk h2 (k1 _) fun x _ i hi=>k2 rfl i (Za6 hR x (.r i) (Xu _ hi))
    exact⟨g1,g2,by rw[Ge hk g1,Ge hk h2]⟩
   |true=>
    obtain⟨g1,g2,g3⟩:=FX (Zgg hk (hx rfl)) h2 (f s.m);exact⟨g1,g2,by rw[g3,Ge hk h2]⟩
  ·obtain⟨dst,op,ty,pos,af,guard⟩:=o;cases op<;>first|(simp[SX,S8]at hl hk;done)|skip
   obtain⟨d,z,rfl,h3,h4⟩:=ZaK h2;rw[h4,h4];exact⟨by show(f s.m).h d=none;rw[k1];exact h3,rfl,(k3 _ _ _).symm⟩
 obtain⟨g1,g2,g3⟩:=key;refine⟨?_,.inl ⟨by simp[gd,hg],(aop P o s.eval s.m).v,f (aop P o s.eval s.m).m,.inl ?_,?_⟩⟩
 ·rw[Zal];exact h1
 ·rw[hm,GE o _ hev];exact⟨g1,g2.symm,g3.symm⟩
 ·rw[U6,UV,UV,T2 _ _ _ a2];rfl
def GoC (P:Program) (ops:Array Oper) (j:Nat) (R:St→Prop) (s:St):Prop:=∃o v f x,ops[j]? = some o∧Tn s.n o.dst∧gd ops s o=some true∧(CK P o s x v f∧(x=true→Zas ops j=true))∧R ((s.with (f s.m)).put o.dst v)
def GC (P:Program) (ops:Array Oper) (L:List Nat) (nd:Nat) (E:Array Bool→St→Prop):Nat→Nat→Nat→Array Bool→St→Prop
 |0,_,fl,listed,s=>ZhM P .any ops E (fl+nd) listed s
 |m+1,j,fl,listed,s=>ZkT P ops L (fun listed s=>(∀i∈L,listed.getD i true=true)∧GoC P ops j (GC P ops L nd E m (j+1) 0 (listed.setIfInBounds j true)) s) fl listed s
theorem Zhp {L:List Nat} {N nd:Nat} {E:Array Bool→St→Prop} (hE:∀listed s,E listed s→ ∀i,i<N→listed.getD i true=true) (hc:Tf .any ops N=true) (hp:Zbt ops L N=true) (hLN:∀i∈L,i<N) (m j:Nat) {i:Nat} {oi:Oper} (hi:ops[i]? = some oi) (hik:i∈L) (fl:Nat) (listed:Array Bool) (s s1:St)
  (hR:RefsD s) (hcl:Closed .any ops listed) (hsz:listed.size=ops.size) (hr:i∈Region.ready .any ops listed) (hy:XI P ops oi s s1) (h:GC P ops L nd E m j fl (listed.setIfInBounds i true) s1):GC P ops L nd E m j (fl+1) listed s:=by
 cases m with
 |zero=>
  show ZhM P .any ops E (fl+1+nd) listed s;rw[show fl+1+nd=(fl+nd)+1 by omega];exact Vq hE hc hi (hLN i hik) (fl+nd) listed s s1 hR hcl hsz (fun x ox hx hxN hxi hun hno=>SG hp hik hxN hxi hi hx hno (VH hr hi hun)) hr hy h
 |succ m=>exact Sl (fun _ _ h=>h.1) hp hLN hi hik fl listed s s1 hR hr hy h
theorem Zfh {L:List Nat} {N nd m j:Nat} {E:Array Bool→St→Prop} (hE:∀listed s,E listed s→ ∀i,i<N→listed.getD i true=true) (hc:Tf .any ops N=true) (hp:Zbt ops L N=true) (hLN:∀i∈L,i<N) (hlk:Db ops L=true) (hjL:j∉L) (hjN:j<N):
  ∀(fl:Nat) (listed:Array Bool) (s:St),RefsD s→Closed .any ops listed→listed.size=ops.size→j∈Region.ready .any ops listed→GC P ops L nd E (m+1) j fl listed s→GoC P ops j (GC P ops L nd E m (j+1) fl (listed.setIfInBounds j true)) s
 |0,listed,s,hR,hcl,hsz,hj,h=>h.2
 |fl+1,listed,s,hR,hcl,hsz,hj,h=>by
  obtain⟨⟨i,hi,hik⟩,h⟩:=h;obtain⟨oi,s1,hoi,hy,hn⟩:=h i hi hik;obtain⟨l1,l2⟩:=Zbi hlk hik hoi;have hne:j≠i:=fun e=>hjL (e▸hik)
  obtain⟨o,v,f,x,ho,g1,g2,⟨g3,g3x⟩,g4⟩:=Zfh (m:=m) hE hc hp hLN hlk hjL hjN fl (listed.setIfInBounds i true) s1 (ZM hR hy) (hcl.step hi) (by simpa using hsz) (ready_mono hj hne) hn;have hap:=(SG hp hik hjN hne hoi ho (VH hj ho (mem_ready.1 hi).1) (VH hi hoi (mem_ready.1 hj).1)).1;have hv:=g3.back l1 l2 hap hy;obtain⟨a1,_,_⟩:=Oper.apart_spec hap;obtain⟨y1,y2,y3,_⟩:=Tv l1 l2 hy;have g1':Tn s.n o.dst:=by rw[y3,Zal]at g1;exact g1
  have g2':gd ops s o=some true:=by rw[y3,Dp a1]at g2;exact g2
  refine⟨o,v,f,x,ho,g1',g2',⟨hv,g3x⟩,?_⟩;refine Zhp hE hc hp hLN m (j+1) hoi hik fl _ _ _ (hv.refs g1' g2' hR) (hcl.step hj) (by simpa using hsz) (ready_mono hi (Ne.symm hne)) (hv.ext (fun e=>ZbM (g3x e) hcl hj hi hoi) l1 l2 hap hR hy) ?_;rw[Array.setIfInBounds_comm _ _ hne];exact g4
def Ziq (ops:Array Oper) (L:List Nat) (c0 c1:Nat):Bool:=(List.range' c0 (c1-c0)).all fun j=>((ops[j]?).map fun o=>o.after.all fun e=> !Region.binds .any e||L.contains e.on||(decide (c0≤e.on)&&decide (e.on<j))).getD false&&
 (List.range ops.size).all fun x=>L.contains x||(decide (c0≤x)&&decide (x≤j))||((ops[x]?).map fun o=>o.after.any fun e=>Region.binds .any e&& !L.contains e.on&& !(decide (c0≤e.on)&&decide (e.on<j))).getD false
theorem Fk {L:List Nat} {c0 c1 j:Nat} (h:Ziq ops L c0 c1=true) (hk:c0≤j) (hN:j<c1):(∀o,ops[j]? = some o→ ∀e∈o.after,Region.binds .any e=true→e.on∈L∨(c0≤e.on∧e.on<j))∧ ∀ {listed:Array Bool},(∀x,x∉L→ ¬(c0≤x∧x<j)→listed.getD x false=false)→ ∀i∈Region.ready .any ops listed,i∈L∨(c0≤i∧i≤j):=by
 simp only[Ziq,List.all_eq_true,List.mem_range',Bool.and_eq_true]at h;obtain⟨h1,h2⟩:=h j ⟨j-c0,by omega,by omega⟩;refine⟨fun o ho e he hb=> ?_,fun hl i hi=> ?_⟩
 ·rw[ho]at h1;simp only[Option.map_some,Option.getD_some]at h1;have:=Array.all_eq_true'.1 h1 e he;simpa[hb]using this
 ·obtain⟨_,oj,hoj,hall⟩:=mem_ready.1 hi;have h3:=h2 i (List.mem_range.2 (Array.getElem?_eq_some_iff.1 hoj).1);simp only[Bool.or_eq_true,Bool.and_eq_true,decide_eq_true_eq,List.contains_iff_mem]at h3;refine h3.resolve_right fun h4=> ?_
  rw[hoj]at h4;simp only[Option.map_some,Option.getD_some]at h4;obtain⟨e,he,hb⟩:=Array.any_eq_true'.1 h4;simp only[Bool.and_eq_true,Bool.not_eq_true',Bool.and_eq_false_imp,decide_eq_true_eq,decide_eq_false_iff_not]at hb;have:=hall e he hb.1.1;rw[hl _ (fun h=>by have:=hb.1.2;rw[List.contains_iff_mem.2 h]at this;cases this) (fun h=>hb.2 h.1 h.2)]at this;cases this
theorem DO {listed:Array Bool} {i:Nat}:(listed.setIfInBounds i true).getD i true=true:=by
 simp only[Array.getD_eq_getD_getElem?,Array.getElem?_setIfInBounds];split
 ·split<;>simp
 ·rename_i h;exact absurd trivial h
theorem Zhq {L:List Nat} {c0 c1 N nd M0:Nat} {K:St→Prop} {E:Array Bool→St→Prop} (hE:∀listed s,E listed s→ ∀i,i<N→listed.getD i true=true) (hc:Tf .any ops N=true) (hp:Zbt ops L N=true) (hLN:∀i∈L,i<N) (hlk:Db ops L=true) (hcL:∀j,c0≤j→j<c1→j∉L) (hlt:Ziq ops L c0 c1=true) (hcN:c1≤N) (hNs:N≤ops.size) (hEK:∀listed s,E listed s→Zb3 P ops K M0 listed s):
  ∀(m j fl:Nat) (listed:Array Bool) (s:St),j+m=c1→c0≤j→Closed .any ops listed→listed.size=ops.size→(∀x,c0≤x→x<j→listed.getD x true=true)→(∀x,x∉L→ ¬(c0≤x∧x<j)→listed.getD x false=false)→GC P ops L nd E m j fl listed s→Zb3 P ops K (M0+nd+fl+m) listed s:=by
 intro m
 induction m with
 |zero=>
  intro j fl listed s _ _ _ _ _ _ h;have:=UI (P:=P) hEK (fl+nd) listed s h;rw[show M0+nd+fl+0=M0+(fl+nd)by omega];exact this
 |succ m ihm=>
  have behind:∀ {j:Nat} {listed:Array Bool},(∀x,c0≤x→x<j→listed.getD x true=true)→(∀x,x∉L→ ¬(c0≤x∧x<j)→listed.getD x false=false)→c0≤j→(∀x,c0≤x→x<j+1→(listed.setIfInBounds j true).getD x true=true)∧ ∀x,x∉L→ ¬(c0≤x∧x<j+1)→(listed.setIfInBounds j true).getD x false=false:=fun {j listed} h1 h2 hj=>⟨fun x hx1 hx2=>by
   by_cases e:j=x
   ·subst e;exact DO
   ·rw[getD_set_ne true e];exact h1 x hx1 (by omega),fun x hx hn=>by
   have e:j≠x:=fun e=>hn ⟨by omega,by omega⟩
   rw[getD_set_ne false e];exact h2 x hx fun h=>hn ⟨h.1,by omega⟩⟩
  have step:∀ {j fl:Nat} {listed:Array Bool} {s:St},j+(m+1)=c1→c0≤j→Closed .any ops listed→listed.size=ops.size→(∀x,c0≤x→x<j→listed.getD x true=true)→(∀x,x∉L→ ¬(c0≤x∧x<j)→listed.getD x false=false)→j∈Region.ready .any ops listed→GoC P ops j (GC P ops L nd E m (j+1) fl (listed.setIfInBounds j true)) s→
    ∀(B:Frm) (Qc:Exit→Act→World→Prop) (S0:Stable) (w0:World),(∀s' S' M' a' w',K s'→Sim B S' M' s' a' w'→Ext B S0 S' w0 w'→Qc .normal a' w')→ ∀S M a w,Sim B S M s a w→Ext B S0 S w0 w→wpOp P ops Qc j (wpAny P .any ops Qc (M0+nd+fl+m) (listed.setIfInBounds j true)) a w:=fun {j fl listed s} hjm hkj hcl hsz hlo hhi hr hg B Qc S0 w0 hQ S M a w hs he=>by
   obtain⟨o,v,f,x,ho,g1,g2,⟨g3,_⟩,g4⟩:=hg;unfold wpOp;simp only[ho];rw[Vi hs g2,if_pos rfl];obtain⟨b1,b2⟩:=behind hlo hhi hkj;have hn:=ihm (j+1) fl (listed.setIfInBounds j true) _ (by omega) (by omega) (hcl.step hr) (by simpa using hsz) b1 b2 g4;rcases g3.run (K:=Zb3 P ops K (M0+nd+fl+m) (listed.setIfInBounds j true)) hn with ⟨v',m',hst,hk⟩|hsp
   ·exact .inl (YY hs (Z1 g1) hst _ _ fun u w' S' M' hs' he'=>hk B Qc S0 w0 hQ S' M' _ w' hs' (he.trans he'))
   ·exact .inl (VK hs (Z1 g1) hsp _ _ fun s' u w' S' M' hk hs' he'=>hk B Qc S0 w0 hQ S' M' _ w' hs' (he.trans he'))
  intro j fl
  induction fl with
  |zero=>
   intro listed s hjm hkj hcl hsz hlo hhi h B Qc S0 w0 hQ S M a w hs he;obtain⟨oj,hoj⟩:∃oj,ops[j]? = some oj:=⟨_,Array.getElem?_eq_getElem (show j<ops.size by omega)⟩;obtain⟨w1,w2⟩:=Fk hlt hkj (by omega);have hjL:=hcL j hkj (by omega);have hj:j∈Region.ready .any ops listed:=by
    refine mem_ready.2 ⟨?_,oj,hoj,fun e he hb=> ?_⟩
    ·have:=hhi j hjL (by omega);have hk':j<listed.size:=by omega
     simp[hk']at this ⊢;exact this
    ·have h1:=w1 oj hoj e he hb;have h2:listed.getD e.on true=true:=by
      rcases h1 with h'|h'
      ·exact h.1 _ h'
      ·exact hlo _ h'.1 h'.2
     have hk':e.on<listed.size:=by
      rcases h1 with h'|h'
      ·have:=hLN _ h';omega
      ·omega
     simp[hk']at h2 ⊢;exact h2
   refine⟨fun h0=>(by rw[h0]at hj;cases hj),fun i hi=> ?_⟩;have ei:i=j:=by
    rcases w2 hhi i hi with h'|h'
    ·have:=h.1 _ h';rw[(mem_ready.1 hi).1]at this;cases this
    ·rcases Nat.lt_or_ge i j with h''|h''
     ·have:=hlo i h'.1 h'';rw[(mem_ready.1 hi).1]at this;cases this
     ·omega
   subst ei;exact step hjm hkj hcl hsz hlo hhi hi h.2 B Qc S0 w0 hQ S M a w hs he
  |succ fl ihf=>
   intro listed s hjm hkj hcl hsz hlo hhi h B Qc S0 w0 hQ S M a w hs he;obtain⟨w1,w2⟩:=Fk hlt hkj (by omega);have hjL:=hcL j hkj (by omega);obtain⟨⟨i0,hi0,_⟩,h'⟩:=id h;refine⟨fun h0=>(by rw[h0]at hi0;cases hi0),fun i hi=> ?_⟩
   by_cases ei:i=j
   ·subst ei;exact step hjm hkj hcl hsz hlo hhi hi (Zfh hE hc hp hLN hlk hjL (by omega) (fl+1) listed s hs.refsD hcl hsz hi h) B Qc S0 w0 hQ S M a w hs he
   ·have hik:i∈L:=by
     rcases w2 hhi i hi with h'|h'
     ·exact h'
     ·exfalso;have:=hlo i h'.1 (by omega);rw[(mem_ready.1 hi).1]at this;cases this
    obtain⟨oi,s1,hoi,hy,hn⟩:=h' i hi hik;have hn:=ihf _ s1 hjm hkj (hcl.step hi) (by simpa using hsz) (fun x h1 h2=>by rw[getD_set_ne true (fun e=>by subst e;exact hcL _ h1 (by omega) hik)];exact hlo x h1 h2) (fun x hx hn=>by rw[getD_set_ne false (fun e=>by subst e;exact hx hik)];exact hhi x hx hn) hn;rw[show M0+nd+fl+(m+1)=M0+nd+(fl+1)+m by omega]at hn;unfold wpOp;simp only[hoi];obtain⟨hd,hy⟩:=hy;rcases hy with ⟨hg,v,m',hst,rfl⟩|⟨hg,rfl⟩
    ·rw[Vi hs hg,if_pos rfl];exact .inl (YY hs (Z1 hd) hst _ _ fun u w' S' M' hs' he'=>hn B Qc S0 w0 hQ S' M' _ w' hs' (he.trans he'))
    ·rw[Vi hs hg,if_neg (by simp)];exact hn B Qc S0 w0 hQ S M _ w (Vc hs hd) he
def vCh (P:Program) (D Dr:List Nat) (K:KS) (l:List Oper):Nat→Nat→St→Prop
 |0,_,s=>∃l2,l2=Dr.filterMap (fun i=>l[i]?)∧ @vA P false ⟨@ZiV P D K ⟨l⟩⟩ ⟨l⟩ ⟨l2⟩ s
 |m+1,j,s=>GoC P l.toArray j (vCh P D Dr K l m (j+1)) s
theorem VT {l:List Oper}:∀ {is:List Nat},(∀i∈is,i<l.length)→is.map (fun i=>l.toArray[i]?)=(is.filterMap fun i=>l[i]?).map some∧(is.filterMap fun i=>l[i]?).length=is.length
 | [],_=>⟨rfl,rfl⟩
 |i::is,h=>by
  obtain⟨h1,h2⟩:=VT (l:=l) (is:=is) fun j hj=>h j (by simp[hj])
  have hi:=h i (by simp);have e:l[i]? = some l[i]:=List.getElem?_eq_getElem hi;rw[List.filterMap_cons,e];refine⟨?_,by simp[h2]⟩;simp only[List.map_cons];rw[h1];congr 1;simp
theorem Zgh (listed:Array Bool) (a b:List Nat):YV (YV listed a) b=YV listed (a++b):=by
 unfold YV;rw[List.foldl_append]
theorem Zgi (listed:Array Bool) (j:Nat) (a:List Nat):(YV listed a).setIfInBounds j true=YV listed (a++ [j]):=by
 unfold YV;rw[List.foldl_append];rfl
theorem SC {K K':St→Prop} (hK:∀s,RefsD s→K s→K' s):∀(l:List Oper) (s:St),RefsD s→Zbg P ops K l s→Zbg P ops K' l s
 | [],s,hR,h=>hK s hR h
 |o::rest,s,hR,⟨hd,h⟩=>⟨hd,by
  rcases h with ⟨hg,v,m',hst,hrest⟩|⟨hg,hrest⟩
  ·exact .inl ⟨hg,v,m',hst,SC hK rest _ (ZM (P:=P) (ops:=ops) (o:=o) hR ⟨hd,.inl ⟨hg,v,m',hst,rfl⟩⟩) hrest⟩
  ·exact .inr ⟨hg,SC hK rest _ (ZM (P:=P) (ops:=ops) (o:=o) hR ⟨hd,.inr ⟨hg,rfl⟩⟩) hrest⟩⟩
def Zcm (ops:Array Oper) (listed:Array Bool):Bool:=(List.range ops.size).all fun x=> !listed.getD x true||((ops[x]?).map fun o=>o.after.all fun e=> !Region.binds .any e||listed.getD e.on false).getD true
theorem ZaW {listed:Array Bool} (h:Zcm ops listed=true):Closed .any ops listed:=fun x ox hx hl e he hb=>by
 simp only[Zcm,List.all_eq_true,List.mem_range]at h;have h1:=h x (Array.getElem?_eq_some_iff.1 hx).1;rw[hx,hl]at h1;simp only[Bool.not_true,Bool.false_or,Option.map_some,Option.getD_some]at h1;have:=Array.all_eq_true'.1 h1 e he;have h2:listed.getD e.on false=true:=by
  rw[hb]at this;simpa only[Bool.not_true,Bool.false_or]using this
 exact h2
def ZgS (L:List Nat) (c0 c1:Nat) (Dr:List Nat) (N:Nat) (ops:Array Oper):Bool:=
 decide (c0<c1)&&decide (c1≤N)&&decide (N≤ops.size)&&Tf .any ops N&&Zbt ops L N&&Db ops L&&Ziq ops L c0 c1&&Zmy ops L (Array.replicate ops.size false)&&L.all (fun i=>decide (i<N)&& !(decide (c0≤i)&&decide (i<c1)))&&Dr.all (fun i=>decide (i<N))&&
  Zit ops N Dr (YV (Array.replicate ops.size false) (L++List.range' c0 (c1-c0)))&&(List.range N).all (fun i=>L.contains i||(decide (c0≤i)&&decide (i<c1))||Dr.contains i)&&decide (L.length+(c1-c0)+Dr.length=N)&&Zcm ops (YV (Array.replicate ops.size false) (L++List.range' c0 (c1-c0)))
theorem W0 {id:Nat} {l:List Oper} {Q:Exit→St→Prop} {s:St} (L:List Nat) (c0 c1:Nat) (Dr:List Nat) (N:Nat) (hm:P.follows .mixedOrders=true) (hB:ZgS L c0 c1 Dr N l.toArray=true)
  (h:∀l1,l1=L.filterMap (fun i=>l[i]?)→ @vA P false ⟨vCh P (L++List.range' c0 (c1-c0)++Dr) Dr ⟨@vQ ⟨Q⟩ .normal⟩ l (c1-c0) c0⟩ ⟨l⟩ ⟨l1⟩ s):awp P (.region id l.toArray true) Q s:=fun B S M a w hs=>by
 have h:=h _ rfl;simp only[ZgS,Bool.and_eq_true,decide_eq_true_eq,List.size_toArray]at hB;obtain⟨⟨⟨⟨⟨⟨⟨⟨⟨⟨⟨⟨⟨hcc,hcN⟩,hN⟩,hc⟩,hp⟩,hlk⟩,hlt⟩,hx⟩,hL⟩,hDr⟩,hy⟩,hall⟩,hlen⟩,hclB⟩:=hB;simp only[List.all_eq_true,Bool.and_eq_true,decide_eq_true_eq,Bool.not_eq_true',Bool.and_eq_false_imp,decide_eq_false_iff_not]at hL;simp only[List.all_eq_true,decide_eq_true_eq]at hDr;have hLN:∀i∈L,i<N:=fun i hi=>(hL i hi).1
 have hcL:∀j,c0≤j→j<c1→j∉L:=fun j h1 h2 hj=>(hL j hj).2 h1 h2
 refine ZfB (P:=P) (ops:=l.toArray) (Q:=Q) hm ?_ B S M a w hs;intro B' Qc S0 w0 hQ S' M' a' w' hs' he';have hA:=Vj _ s h
 let K:St→Prop:=@vQ ⟨Q⟩ .normal
 let D:=L++List.range' c0 (c1-c0)++Dr
 have hDlen:D.length=N:=by simp only[D,List.length_append,List.length_range'];omega
 let E:Array Bool→St→Prop:=fun listed s=>listed=YV (Array.replicate l.length false) D∧ @ZiV P D ⟨K⟩ ⟨l⟩ s
 have hE:∀listed s,E listed s→ ∀i,i<N→listed.getD i true=true:=fun listed s h i hi=>by
  rw[h.1];refine UR (n:=0) _ _ (.inr ?_);have:=List.all_eq_true.1 hall i (List.mem_range.2 hi);simp only[Bool.or_eq_true,Bool.and_eq_true,decide_eq_true_eq,List.contains_iff_mem]at this;simp only[D,List.mem_append,List.mem_range'];rcases this with (h|h)|h
  ·exact .inl (.inl h)
  ·exact .inl (.inr ⟨i-c0,by omega,by omega⟩)
  ·exact .inr h
 have hEK:∀listed s,E listed s→Zb3 P l.toArray K (l.length-N) listed s:=fun listed s h=>by
  obtain⟨rfl,h⟩:=h;have h:Zb3 P l.toArray _ (l.length-D.length) _ s:=h;rw[hDlen]at h;exact h
 have hcl0:Closed .any l.toArray (Array.replicate l.length false):=fun x ox hx hl=>by
  have hx':=(Array.getElem?_eq_some_iff.1 hx).1;simp at hx';simp[hx']at hl
 obtain⟨f1,f2⟩:=VT (l:=l) (is:=L) fun i hi=>Nat.lt_of_lt_of_le (hLN i hi) hN
 obtain⟨f3,f4⟩:=VT (l:=l) (is:=Dr) fun i hi=>Nat.lt_of_lt_of_le (hDr i hi) hN
 have hclC:Closed .any l.toArray (YV (Array.replicate l.length false) (L++List.range' c0 (c1-c0))):=ZaW (by simpa using hclB);have hszM:∀A:List Nat,(YV (Array.replicate l.length false) A).size=l.toArray.size:=fun A=>by
  have:∀(A:List Nat) (listed:Array Bool),(YV listed A).size=listed.size:=by
   intro A
   induction A with
   |nil=>intro listed;rfl
   |cons i A ih=>intro listed;show(YV (listed.setIfInBounds i true) A).size=_;rw[ih];simp
  rw[this];simp
 have hch:∀m j s,j+m=c1→c0≤j→RefsD s→vCh P D Dr ⟨K⟩ l m j s→GC P l.toArray L Dr.length E m j 0 (YV (Array.replicate l.length false) (L++List.range' c0 (j-c0))) s:=by
  intro m
  induction m with
  |zero=>
   intro j s hj _ hR h;have e:j=c1:=by omega
   subst e;obtain⟨l2,rfl,h⟩:=h;have h1:=GB (P:=P) (E:=E) hE hc Dr (Dr.filterMap fun i=>l[i]?) (YV (Array.replicate l.length false) (L++List.range' c0 (j-c0))) s hR hclC (hszM _) hDr f3 (by simpa using hy) (by
    rw[Zgh];exact TT (fun s h=>⟨rfl,h⟩) _ _ (Vj _ s h))
   show ZhM P .any l.toArray E (0+Dr.length) _ s;rw[Nat.zero_add];exact h1
  |succ m ih=>
   intro j s hj hkj hR h;refine⟨fun i hi=>UR (n:=0) _ _ (.inr (List.mem_append_left _ hi)),?_⟩;obtain⟨o,v,f,x,h1,h2,h3,⟨h4,h4x⟩,h5⟩:=h;refine⟨o,v,f,x,h1,h2,h3,⟨h4,h4x⟩,?_⟩;have e:(YV (Array.replicate l.length false) (L++List.range' c0 (j-c0))).setIfInBounds j true=YV (Array.replicate l.length false) (L++List.range' c0 (j+1-c0)):=by
    rw[Zgi,List.append_assoc];congr 2;rw[show j+1-c0=(j-c0)+1 by omega,List.range'_concat,show c0+1*(j-c0)=j by omega]
   rw[e];exact ih (j+1) _ (by omega) (by omega) (h4.refs h2 h3 hR) h5
 have hG:GC P l.toArray L Dr.length E (c1-c0) c0 L.length (Array.replicate l.length false) s:=by
  have hlex:Zbg P l.toArray (fun s=>GC P l.toArray L Dr.length E (c1-c0) c0 0 (YV (Array.replicate l.length false) L) s) (L.filterMap fun i=>l[i]?) s:=SC (fun s hR h=>by
   have:=hch (c1-c0) c0 s (by omega) (Nat.le_refl _) hR h;rw[Nat.sub_self]at this;simpa using this) _ _ hs'.refsD hA
  have go:∀(F:Array Bool→St→Prop),(∀listed s,F listed s→ ∀i∈L,listed.getD i true=true)→Zbg P l.toArray (F (YV (Array.replicate l.length false) L)) (L.filterMap fun i=>l[i]?) s→ZkT P l.toArray L F L.length (Array.replicate l.length false) s:=fun F hF hl=>
   FV (P:=P) (F:=F) hF hp hLN L (L.filterMap fun i=>l[i]?) (Array.replicate l.length false) s hs'.refsD (fun _ h=>h) f1 (by simpa using hx) hl
  obtain⟨m,hm⟩:∃m,c1-c0=m+1:=⟨c1-c0-1,by omega⟩;rw[hm]at hlex ⊢;exact go _ (fun _ _ h=>h.1) hlex
 have h2:=Zhq (P:=P) (K:=K) (M0:=l.length-N) hE hc hp hLN hlk hcL hlt hcN (by simpa using hN) hEK (c1-c0) c0 L.length (Array.replicate l.length false) s (by omega) (Nat.le_refl _) hcl0 (by simp) (fun x h1 h2=>by omega) (fun x _ _=>by
  simp only[Array.getD_eq_getD_getElem?]
  by_cases h:x<l.length<;>simp[h]) hG
 have e:l.length-N+Dr.length+L.length+(c1-c0)=l.toArray.size:=by simp;omega
 rw[e]at h2;have h2:=h2 B' Qc S0 w0 hQ S' M' a' w' hs' he';simpa using h2
theorem UD {l:List Oper} {K:KS} {s:St} (D:List Nat) (N:Nat) (hf:(Zkn N l&&decide (D.length=N)&&(YV (Array.replicate l.length false) D==YV (Array.replicate l.length false) (List.range N)))=true) (h:∀l2,l2=l.drop N→ @vA P true K ⟨l⟩ ⟨l2⟩ s):@ZiV P D K ⟨l⟩ s:=by
 simp only[Bool.and_eq_true,decide_eq_true_eq,beq_iff_eq]at hf;have:=Zdc (P:=P) N hf.1.1 h;unfold ZiV at this ⊢;simp only[List.length_range]at this;show Zb3 P l.toArray K.k (l.length-D.length) (YV (Array.replicate l.length false) D) s;rw[hf.2,hf.1.2];exact this
section
variable {D Dr:List Nat} {m j:Nat} {l:List Oper} {K:KS} {s:St} {o:Oper}
theorem Zjt {c:Call} {g:FuncId} {args args0:List PV} {i n sz t:Nat} {e:TypeId} {es:List PV} {r0:PV} (d:Nat) (h1:Eff P g args0 noV r0 (D0 i n sz e es)) (hes:PV.didsL es= []) (ha:∀p∈args0,p.ids= [])
  (ho:l[j]? = some o) (hc:o.op= .call c) (hg:o.guard=none) (ht:o.dst=some t) (htn:t<s.n) (hcl:Zx s.eval c=some (g,args)) (hd:s.m.q d=none) (he:∀m,PV.giveL m args=args0) (hr:∀j∈(r0.ren (fun _=>d) id).dids,j= .r d)
  (h2:vCh P D Dr K l m (j+1) ((s.with { s.m.setq d (.vec n sz e)with v:=upd s.m.v d (some es) }).put (some t) (r0.ren (fun _=>d) id))):vCh P D Dr K l (m+1) j s:=
 ⟨o,_,_,_,by simpa using ho,by rw[ht];exact htn,by simp[gd,hg],⟨.call c g args args0 r0 i d n sz e es hc hcl he ha h1 hd hes hr,nofun⟩,by rw[ht];exact h2⟩
theorem Wn {c:Call} {g:FuncId} {args:List PV} {r:PV} {t:Nat} (ho:l[j]? = some o) (hc:o.op= .call c) (hg:o.guard=none) (ht:o.dst=some t) (htn:t<s.n) (hcl:Zx s.eval c=some (g,args)) (h1:∀m,Near s.n s.m m→CallS P g args m r m) (hr:r.dids= [])
  (h2:vCh P D Dr K l m (j+1) (s.put (some t) r)):vCh P D Dr K l (m+1) j s:=
 ⟨o,_,_,_,by simpa using ho,by rw[ht];exact htn,by simp[gd,hg],⟨.lend c g args r hc hcl h1 hr,nofun⟩,by rw[ht];exact h2⟩
theorem Zjs {c:Call} {g:FuncId} {args:List PV} {d d2 n sz t:Nat} {e:TypeId} {es:List PV} (ho:l[j]? = some o) (hc:o.op= .call c) (hg:o.guard=none) (hst:Zas l.toArray j=true) (ht:o.dst=some t) (htn:t<s.n) (hcl:Zx s.eval c=some (g,args)) (h1:∀m,Near s.n s.m m→CallS P g args m (.vsl d2 n sz) (reM m d d2 n sz e es)) (hes:∀r∈PV.didsL es,∃i,r= .r i∧s.m.q i≠none)
  (h2:vCh P D Dr K l m (j+1) ((s.with (reM s.m d d2 n sz e es)).put (some t) (.vsl d2 n sz))):vCh P D Dr K l (m+1) j s:=
 ⟨o,_,_,_,by simpa using ho,by rw[ht];exact htn,by simp[gd,hg],⟨.re c g args d d2 n sz e es hc hcl h1 hes,fun _=>hst⟩,by rw[ht];exact h2⟩
theorem Zav (ho:l[j]? = some o) (hg:o.guard=none) (hq:Zex o.op=true) (h:∀l1,l1= [o]→ @vA P false ⟨vCh P D Dr K l m (j+1)⟩ ⟨l⟩ ⟨l1⟩ s):vCh P D Dr K l (m+1) j s:=by
 obtain⟨hd,h⟩:=Vj _ s (h _ rfl);rcases h with ⟨hg',v,m',hst,hrest⟩|⟨hg',_⟩
 ·rcases hst with ⟨h1,rfl,rfl⟩|⟨c,_,_,h1,_⟩
  ·have e:=(FX hq h1 s.m).2.2;rw[e]at hrest;exact⟨o,_,_,_,by simpa using ho,hd,by simp[gd,hg],⟨.look _ (FX hq h1),nofun⟩,hrest⟩
  ·rw[h1]at hq;simp[Zex]at hq
 ·simp[gd,hg]at hg'
theorem Zc4 {t:TypeId} {len:Nat} {parts:Array (Nat×Operand)} {d:Nat} {ei:EInfo} (ho:l[j]? = some o) (hop:o.op= .buildSlice t len parts) (hg:o.guard=none) (hd:o.dst=some d) (hdn:d<s.n) (ht:Wm P t=some ei) (hq:s.m.q d=none)
  (hl:len=(parts.toList.map fun x=>(x.1,s.eval x.2)).length) (hs:len*ei.size≤16777216) (hp:Td ei.size d 0 (parts.toList.map fun x=>(x.1,s.eval x.2)))
  (h:vCh P D Dr K l m (j+1) ((s.with { s.m.setq d (.vec len ei.size ei.e)with v:=upd s.m.v d (some ((parts.toList.map fun x=>(x.1,s.eval x.2)).map (·.2))) }).put (some d) (.vsl d len ei.size))):vCh P D Dr K l (m+1) j s:=
 ⟨o,_,_,_,by simpa using ho,by rw[hd];exact hdn,by simp[gd,hg],⟨.lit t len parts d ei hop hd ht hq hl hs hp,nofun⟩,by rw[hd];exact h⟩
theorem WZ (h:∀l2,l2=Dr.filterMap (fun i=>l[i]?)→ @vA P false ⟨@ZiV P D K ⟨l⟩⟩ ⟨l⟩ ⟨l2⟩ s):vCh P D Dr K l 0 j s:=⟨_,rfl,h _ rfl⟩
end
end
end Go.PL
