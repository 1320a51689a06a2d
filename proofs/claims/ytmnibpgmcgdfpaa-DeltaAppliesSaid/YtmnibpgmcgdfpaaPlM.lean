/- A logic of values for functions that only read and build, over the model (part 13): no statement of the seat is proved here. -/
import Derived.Test.YtmnibpgmcgdfpaaPlL
import Derived.Test.YtmnibpgmcgdfpaaPlK
namespace Go.PL
set_option maxHeartbeats 64000000
set_option maxRecDepth 20000
set_option linter.unusedVariables false
set_option linter.unusedSimpArgs false
open Go.RowKit
mutual
def PV.young:PV→Bool
 | .int _ _=>true
 | .bool _=>true
 | .str _=>true
 | .sl .fr es=>PV.youngL es
 | .sl _ []=>true
 | .agg cs=>PV.youngL cs
 | .tup cs=>PV.youngL cs
 |_=>false
def PV.youngL:List PV→Bool
 | []=>true
 |c::cs=>PV.young c&&PV.youngL cs
end
theorem W4:∀ {cs:List PV} {i:Nat},PV.youngL cs=true→i<cs.length→(cs.getD i .any).young=true
 | [],_,_,h=>by simp at h
 |c::cs,0,h,_=>by simp[PV.youngL]at h ⊢;exact h.1
 |c::cs,i+1,h,hi=>by simp[PV.youngL]at h;simpa using W4 h.2 (by simpa using hi)
theorem Zfb {e:PV} (h:e.young=true) {j:Nat} (hj:j<e.cells.length):(e.cells.getD j .any).young=true:=by
 have:e.cells= [e]∨ ∃cs,e= .agg cs:=by
  cases e<;>first|exact .inl rfl|exact .inr ⟨_,rfl⟩
 rcases this with h1|⟨cs,rfl⟩
 ·rw[h1]at hj ⊢;obtain rfl:j=0:=by simpa using hj
  exact h
 ·have h':PV.youngL cs=true:=by simpa[PV.young]using h
  exact W4 (cs:=cs) h' hj
theorem Rep.young {S S':Stable} {v:Value} {p:PV} (n0:Nat) (r:Rep S v p) (h1:∀b o x,n0≤b→S b o=some x→S' b o=some x) (hz:∀b,S.z b→n0≤b) (hz':∀b,n0≤b→S'.z b) (hy:∀b,S.y b→S'.y b):
  (p.young=true→Rep S' v p)∧ ∀es,p= .sl .no es→PV.youngL es=true→(∀b o n c,v= .slice (some ⟨b,o,none⟩) n c→0<n→n0≤b)→Rep S' v (.sl .no es):=by
 induction r with
 |int k n=>exact⟨fun _=> .int k n,fun es h=>by cases h⟩
 |bool b=>exact⟨fun _=> .bool b,fun es h=>by cases h⟩
 |str l=>exact⟨fun _=> .str l,fun es h=>by cases h⟩
 |agg vs cs hl _ ih=>exact⟨fun hp=> .agg vs cs hl fun i hi=>(ih i hi).1 (W4 (by simpa[PV.young]using hp) hi),fun es h=>by cases h⟩
 |tup vs cs hl _ ih=>exact⟨fun hp=> .tup vs cs hl fun i hi=>(ih i hi).1 (W4 (by simpa[PV.young]using hp) hi),fun es h=>by cases h⟩
 |sl0 a cap=>exact⟨fun _=> .sl0 a cap,fun es h _ _=>by cases h;exact .sl0 a cap⟩
 |slnil=>exact⟨fun _=> .slnil,fun es h=>by cases h⟩
 |sl b o cap sz es vals hsz hcap hS hR ih=>
  have key:PV.youngL es=true→(0<es.length→n0≤b)→Rep S' (.slice (some ⟨b,o,none⟩) es.length cap) (.sl .no es):=fun hp hb=>
   .sl b o cap sz es vals hsz hcap (fun i j hi hj=>h1 _ _ _ (hb (by omega)) (hS i j hi hj)) fun i j hi hj=>(ih i j hi hj).1 (Zfb (W4 hp hi) (by rw[hsz i hi];exact hj))
  refine⟨fun hp=> ?_,fun es' h hp hb=>by cases h;exact key hp fun hn=>hb b o _ _ rfl hn⟩;cases es with
  |nil=>exact key rfl fun h=>by simp at h
  |cons x l=>simp[PV.young]at hp
 |slf v es r hzz ih=>
  refine⟨fun hp=> .slf v es (ih.2 es rfl (by simpa[PV.young]using hp) fun b o n c e hn=>hz b (hzz b o n c e hn).1) fun b o n c e hn=>⟨hz' b (hz b (hzz b o n c e hn).1),hy b (hzz b o n c e hn).2⟩,fun es h=>by cases h⟩
 |_=>exact⟨fun hp=>by simp[PV.young]at hp,fun es h=>by cases h⟩
section
variable {P:Program} {B:Frm} {S:Stable} {M:Maps} {s:St} {a:Act} {w:World}
theorem CallS.lend {g:FuncId} {m:Hp} {args args0:List PV} {r:PV} (h1:Pure P g args0 r) (hl:args.length=args0.length) (hp:∀i,i<args.length→Pub (fun _=>False) m (args.getD i .any) (args0.getD i .any)) (h0:∀p∈args0,p.ids= []) (hn:∀p∈args0,p.nofr=true) (hf:r.young=true):CallS P g args m r m:=by
 obtain⟨hcal,hd,hrun⟩:=h1;refine⟨hcal,fun B S M s a w vs hm hs hlen hrep _=> ?_⟩;subst hm
 let S0:=pubS (fun _=>False) S M s.m w
 let S1:Stable:=⟨S0.c,S0.m,fun b=>w.heap.size≤b,S0.y⟩
 have hst0:StabS S0 w:=Dn hs;have hst1:StabS S1 w:=⟨hst0.c,hst0.m,hst0.y⟩;have hle0:SLe S S0:=Tx hs;refine(hrun w S1 vs hst1 (fun b hb=>hb) (hlen.trans hl) fun i hi=> ?_).mono fun en w' ⟨v,S2,e1,h2,h3,h4,h5,h6⟩=> ?_
 ·have hi':i<args.length:=by omega
  have:=((hp i hi').rep hs _ (hrep i hi')).alone (h0 _ (Ze (d:= .any) hi));exact this.rez (S:=S0) (S':=S1) rfl rfl (hn _ (Ze (d:= .any) hi))
 ·let S3:Stable:=⟨fun b o=>if b<w.heap.size then S b o else S2 b o,S2.m,S.z,S2.y⟩
  have s3:∀b o,b<w.heap.size→S3 b o=S b o:=fun b o h=>if_pos h
  have s3n:∀b o,w.heap.size≤b→S3 b o=S2 b o:=fun b o h=>if_neg (by omega)
  have hSlt:∀ {b o u},S b o=some u→b<w.heap.size:=fun h=>Vg (hs.stable.s.c _ _ _ h)
  have hle3:SLe S S3:=⟨fun b o u hu=>by rw[s3 b o (hSlt hu)];exact hu,fun b es h=>h4.m b es (hle0.m b es h),rfl,fun b hb=>h4.y b (hle0.y b hb)⟩;have hag:∀b,b<w.heap.size→(∀o,S3 b o=S b o)∧S3.m b=S.m b:=fun b hb=>⟨fun o=>s3 b o hb,(h5 b hb).2⟩
  have hst3:StabS S3 w':=⟨fun b o u hu=>by
   by_cases hb:b<w.heap.size
   ·rw[s3 b o hb]at hu;exact h3.c b o u (h4 b o u (hle0 b o u hu))
   ·rw[s3n b o (by omega)]at hu;exact h3.c b o u hu,h3.m,h3.y⟩
  have hz2:S2.z=S1.z:=h4.z;refine⟨v,S3,M,e1,hs.grow hle3 hag hst3 h6.block h6.size,.clean ((h2.young w.heap.size (S':=S3) (fun b o x hb hx=>by rw[s3n b o hb];exact hx) (fun b hb=>by rw[hz2]at hb;exact hb) (fun b hb=>hs.hz b fun h=>by have:=hs.hB b h;omega) (fun b hb=>hb)).1 hf),fun i hi=>absurd hi ?_,⟨hle3,fun b hb=>hag b (hs.hB b hb),(BelowF.of h6).mono hs.hB⟩⟩;have:=Xu (p:=r) (r:=i);intro hi;have:=Xu _ hi;rw[hd]at this;cases this
theorem Sim.moveX (hs:Sim B S M s a w) {w':World} (x:Option Nat) (hw:∀k,k<w.heap.size→x≠some k→w'.heap[k]? = w.heap[k]?) (hsz:w.heap.size≤w'.heap.size) (hst:StabS S w')
  (hx:∀k,x=some k→ ¬B k∧(∃c t f,w.heap[k]? = some (.cells c t f))∧(∀id cs,s.m.h id=some cs→s.m.z id=false→M.φ id≠k)∧ ∀id r,s.m.q id=some r→r.own=true→0<M.κ id→M.ψ id≠k):Sim B S M s a w':=by
 have map:∀ {k:Nat} {ob:Obj},w.heap[k]? = some ob→(∀c t f,ob≠ .cells c t f)→w'.heap[k]? = w.heap[k]? :=fun {k ob} h hc=>hw k (Array.getElem?_eq_some_iff.1 h).1 fun e=>by
  obtain⟨_,⟨c,t,f,h1⟩,_⟩:=hx k e;rw[h]at h1;exact hc c t f (Option.some.inj h1)
 have ho:∀b c,s.m.o b=some c→w'.heap[b]? = w.heap[b]? :=fun b c hc=>by
  obtain⟨_,_,es,h1,_⟩:=hs.stable.o b c hc;exact map h1 (fun _ _ _ h=>by cases h)
 have hi:∀b y,s.m.it b=some y→w'.heap[b]? = w.heap[b]? :=fun b y hy=>map (hs.stable.i b y hy).2.1 (fun _ _ _ h=>by cases h)
 have hrow:∀ {id r},s.m.q id=some r→r.own=true→0<M.κ id→w'.heap[M.ψ id]? = w.heap[M.ψ id]? :=fun {id r} h1 h2 h3=>hw _ (hs.row_lt h1 h2 h3) fun e=>(hx _ e).2.2.2 id r h1 h2 h3 rfl
 refine⟨hs.defers,hs.hn,fun k hk=>Nat.lt_of_lt_of_le (hs.hB k hk) hsz,hs.stable.move (SLe.refl S) (fun b c hc=>(hs.stable.o b c hc).2.1) hst ho hi,hs.fr,hs.ids,fun id cs hb=> ?_,fun id r hr=> ?_,hs.inj,hs.injq,hs.injx,fun b c hc=> ?_,fun id es he=> ?_,hs.pn,hs.hz⟩
 ·have hb':=hs.blk id cs hb;cases hz:s.m.z id with
  |false=>
   rw[hz]at hb';have hlt:=hs.blk_lt hb hz;obtain⟨g1,g2,⟨vs,t,g3,g4,g5⟩,g6⟩:=hb';exact⟨g1,g2,⟨vs,t,by rw[hw _ hlt fun e=>(hx _ e).2.2.1 id cs hb hz rfl];exact g3,g4,g5⟩,g6⟩
  |true=>rw[hz]at hb';exact hb'
 ·have hr':=hs.row id r hr;cases r with
  |dead=>trivial
  |live n sz e=>
   obtain⟨g1,g2⟩:=hr';refine⟨g1,fun c hc=> ?_⟩;obtain⟨p1,p2,p3,⟨us,p4,p5⟩,p6⟩:=g2 c hc;exact⟨p1,p2,p3,⟨us,by rw[hrow hr rfl (by omega)];exact p4,p5⟩,p6⟩
  |vec n sz e=>
   obtain⟨g1,g2⟩:=hr';refine⟨g1,fun c hc=> ?_⟩;obtain⟨p1,p2,p3,⟨us,p4,p5⟩,p6⟩:=g2 c hc;exact⟨p1,p2,p3,⟨us,by rw[hrow hr rfl (by omega)];exact p4,p5⟩,p6⟩
 ·obtain⟨g1,g2,g3,g4⟩:=hs.rm b c hc;refine⟨g1,g2,g3,g4.move (SLe.refl S) ?_ (fun v p r _=>r) (fun _ h=>h)⟩;obtain⟨⟨es,h1,_⟩,_⟩:=g4;exact map h1 (fun _ _ _ h=>by cases h)
 ·obtain⟨sz,e,q1⟩:=hs.vec_q he;exact(hs.vc id es he).move (fun _ _ _ h=>h) rfl rfl (fun hk=>hrow q1 rfl hk) (fun v p r _=>r) (fun _ h=>h)
theorem Sim.vec_ownsR (hs:Sim B S M s a w) {d n sz:Nat} {e:TypeId} {es:List PV} {v:Value} (hq:s.m.q d=some (.vec n sz e)) (hv:s.m.v d=some es) (hr:RepS S M s.m.q v (.vsl d n sz)):
  ∃xs:List Value,w.ownsRow 0 e sz v n xs∧es.length=n∧(∀p∈es,p.cells.length=sz∧p.cells.all PV.atom=true)∧(∀p∈es,∀i∈p.ids,Live s.m i)∧(∀i j,i<n→j<sz→RepS S M s.m.q (xs.getD (i*sz+j) undef) ((es.getD i .any).cells.getD j .any))∧
   ∀k,v.ownBlock=some k→ ¬B k∧(∀o,S k o=none)∧0<M.κ d∧M.ψ d=k:=by
 obtain⟨sz',e',q1,r1,r2,r4⟩:=hs.vc d es hv;rw[hq]at q1;simp only[Option.some.injEq,Row.vec.injEq]at q1;obtain⟨hn,rfl,rfl⟩:=q1;subst hn;obtain⟨_,t⟩:=hr.vsl_inv;obtain⟨_,t2⟩:=t _ _ _ hq;obtain⟨_,t3,t4⟩:=t2 rfl;obtain⟨o1,o2⟩:=hs.row d _ hq;cases hκ:M.κ d with
 |zero=>
  have h0:=o1 hκ;have hv0:=t3 hκ;refine⟨[],⟨by simp[h0],.inl ⟨hv0,h0⟩⟩,rfl,r1,r2,fun i j hi=>by omega,fun k hk=> ?_⟩;rw[hv0]at hk;cases hk
 |succ c=>
  obtain⟨k1,k2,k3,⟨vs,k5,k6⟩,k4⟩:=o2 c hκ;have hv0:=t4 c hκ;have k7:=r4 c hκ vs e (0,0) k5;refine⟨vs.take (es.length*sz),⟨?_,.inr ⟨M.ψ d,c,⟨vs⟩,hv0,Nat.zero_le _,k5,k1,k2,k6,rfl⟩⟩,rfl,r1,r2,fun i j hi hj=> ?_,fun k hk=> ?_⟩
  ·rw[List.length_take,k6];exact Nat.min_eq_left (Nat.mul_le_mul_right _ k1)
  ·have hlt:i*sz+j<es.length*sz:=by
    calc i*sz+j<i*sz+sz:=by omega
     _=(i+1)*sz:=by rw[Nat.add_mul,Nat.one_mul]
     _≤es.length*sz:=Nat.mul_le_mul_right _ hi
   rw[List.getD_eq_getElem?_getD,List.getElem?_take_of_lt hlt,←List.getD_eq_getElem?_getD];exact k7 i j hi hj
  ·rw[hv0]at hk;cases hk;exact⟨k3,k4,by omega,rfl⟩
theorem Sim.rerow (hs:Sim B S M s a w) {w':World} {d d2 n n' sz:Nat} {e:TypeId} {es':List PV} {v v':Value} {xs':List Value} (hq:s.m.q d=some (.vec n sz e)) (hr:RepS S M s.m.q v (.vsl d n sz)) (hd2:s.m.q d2=none)
  (hown:w'.ownsRow 0 e sz v' n' xs') (hgr:(w.grownBy w' none∧ ∀k,v'.ownBlock=some k→w.heap.size≤k)∨ ∃k,v.ownBlock=some k∧v'.ownBlock=some k∧w.grownBy w' (some k))
  (hes:es'.length=n') (hcell:∀p∈es',p.cells.length=sz∧p.cells.all PV.atom=true) (hids:∀p∈es',∀i∈p.ids,Live s.m i∧i≠ .r d)
  (hrep:∀i j,i<n'→j<sz→RepS S M s.m.q (xs'.getD (i*sz+j) undef) ((es'.getD i .any).cells.getD j .any)):
  ∃M',Sim B S M' (s.with { s.m with q:=upd (upd s.m.q d (some .dead)) d2 (some (.vec n' sz e)),v:=upd (upd s.m.v d none) d2 (some es') }) a w'∧RepS S M' (upd (upd s.m.q d (some .dead)) d2 (some (.vec n' sz e))) v' (.vsl d2 n' sz)∧Ext B S S w w':=by
 have hdd:d≠d2:=fun e=>by subst e;rw[hq]at hd2;cases hd2
 -- what is known of the old block
 obtain⟨_,t⟩:=hr.vsl_inv;obtain⟨_,t2⟩:=t _ _ _ hq;obtain⟨_,t3,t4⟩:=t2 rfl;obtain⟨o1,o2⟩:=hs.row d _ hq;have old:∀k,v.ownBlock=some k→ ¬B k∧(∀o,S k o=none)∧0<M.κ d∧M.ψ d=k∧ ∃c t,w.heap[k]? = some (.cells c t (0,0)):=fun k hk=>by
  cases hκ:M.κ d with
  |zero=>rw[t3 hκ]at hk;cases hk
  |succ c=>
   obtain⟨k1,k2,k3,⟨vs,k5,k6⟩,k4⟩:=o2 c hκ;rw[t4 c hκ]at hk;cases hk;exact⟨k3,k4,by omega,rfl,_,_,k5⟩
 obtain⟨row,hg,hrow⟩:∃row,w.grownBy w' row∧ ∀k,row=some k→v.ownBlock=some k:=by
  rcases hgr with ⟨hg,_⟩|⟨k,h1,_,hg⟩
  ·exact⟨none,hg,fun k h=>by cases h⟩
  ·exact⟨some k,hg,fun k' h=>by cases h;exact h1⟩
 have hSlt:∀ {b o u},S b o=some u→b<w.heap.size:=fun h=>Vg (hs.stable.s.c _ _ _ h)
 have newOk:∀k,v'.ownBlock=some k→ ¬B k∧(∀o,S k o=none)∧(∀i r,i≠d→s.m.q i=some r→r.own=true→0<M.κ i→M.ψ i≠k)∧ ∀i cs,s.m.h i=some cs→s.m.z i=false→M.φ i≠k:=fun k hk=>by
  rcases hgr with ⟨_,hnew⟩|⟨k',h1,h2,_⟩
  ·have hge:=hnew k hk;refine⟨fun h=>by have:=hs.hB k h;omega,fun o=> ?_,fun i r _ hi ho hκ e=> ?_,fun i cs hi hz e=> ?_⟩
   ·cases h:S k o with
    |none=>rfl
    |some u=>have:=hSlt h;omega
   ·have:=hs.row_lt hi ho hκ;omega
   ·have:=hs.blk_lt hi hz;omega
  ·rw[h2]at hk;cases hk;obtain⟨b1,b2,b3,b4,_⟩:=old _ h1;exact⟨b1,b2,fun i r hne hi ho hκ e=>hs.injq i d r _ hi hq ho rfl hκ b3 hne (e.trans b4.symm),fun i cs hi hz e=>hs.injx i d cs _ hi hz hq rfl b3 (e.trans b4.symm)⟩
 have cell':∀k,row=some k→ ∃vs e,w'.heap[k]? = some (.cells vs e (0,0)):=fun k hk=>by
  rcases hgr with ⟨hg',_⟩|⟨k',h1,h2,_⟩
  ·have:=hrow k hk;obtain⟨_,_,_,_,c,t,h⟩:=old k this
   by_cases hr:row=none
   ·rw[hr]at hk;cases hk
   ·exact⟨c,t,by rw[hg'.block k (Array.getElem?_eq_some_iff.1 h).1 (by simp)];exact h⟩
  ·have hk':=hrow k hk;rw[h1]at hk';cases hk';rcases hown.2 with ⟨rfl,_⟩|⟨g,cap,cur,rfl,_,h3,_⟩
   ·cases h2
   ·cases h2;exact⟨cur,e,h3⟩
 have hst':StabS S w':=hs.stable.s.grown hg fun k hk=>by
  obtain⟨_,b2,_,_,c,t,h⟩:=old k (hrow k hk);obtain⟨vs,e1,h'⟩:=cell' k hk;exact⟨b2,vs,e1,h',c,t,h⟩
 have hs1:=hs.deadRow d;have qd:∀ {i r},i≠d→upd s.m.q d (some Row.dead) i=some r→s.m.q i=some r:=fun {i r} hne h=>by rwa[Zc _ _ (Ne.symm hne)]at h
 have qo:∀ {i r},upd s.m.q d (some Row.dead) i=some r→r.own=true→i≠d:=fun {i r} h ho e=>by subst e;rw[Za]at h;cases h;cases ho
 have hs2:=hs1.moveX (w':=w') row (fun k hk hne=>hg.block k hk fun e=>hne e.symm) hg.size hst' fun k hk=>by
  obtain⟨b1,b2,b3,b4,c,t,h⟩:=old k (hrow k hk);exact⟨b1,⟨c,t,_,h⟩,fun id cs hi hz e=>hs.injx id d cs _ hi hz hq rfl b3 (e.trans b4.symm),fun id r hi ho hκ e=>hs.injq id d r _ (qd (qo hi ho) hi) hq ho rfl hκ b3 (qo hi ho) (e.trans b4.symm)⟩
 obtain⟨κ,ψ,hM⟩:∃κ ψ,(κ=0∧n'=0∧v'= .slice none 0 0)∨ ∃c cur,κ=c+1∧v'= .slice (some ⟨ψ,0,none⟩) n' c∧w'.heap[ψ]? = some (.cells ⟨cur⟩ e (0,0))∧n'≤c∧c≤maxLen∧cur.length=c*sz∧cur.take (n'*sz)=xs':=by
  rcases hown.2 with ⟨h1,h2⟩|⟨g,cap,cur,h1,_,h3,h4,h5,h6,h7⟩
  ·exact⟨0,0,.inl ⟨rfl,h2,h1⟩⟩
  ·exact⟨cap+1,g,.inr ⟨cap,cur.toList,rfl,h1,h3,h4,h5,h6,h7⟩⟩
 have q2:upd s.m.q d (some Row.dead) d2=none:=by rw[Zc _ _ hdd];exact hd2
 have v2:upd s.m.v d none d2=none:=by
  rw[Zc _ _ hdd];cases h:s.m.v d2 with
  |none=>rfl
  |some es=>obtain⟨sz1,e1,h1⟩:=hs.vec_q h;rw[hd2]at h1;cases h1
 have hs3:=hs2.layRow (d:=d2) (ψ:=ψ) (κ:=κ) (r:= .vec n' sz e) (.inl q2) (by
  refine⟨fun h0=> ?_,fun c hc=> ?_⟩
  ·simp only[Za]at h0;rcases hM with ⟨_,h2,_⟩|⟨c,cur,h1,_⟩
   ·exact h2
   ·omega
  ·simp only[Za]at hc ⊢;rcases hM with ⟨h1,_,_⟩|⟨c',cur,h1,h2,h3,h4,h5,h6,_⟩
   ·omega
   ·obtain rfl:c'=c:=by omega
    obtain⟨b1,b2,_,_⟩:=newOk ψ (by rw[h2];rfl);exact⟨h4,h5,b1,⟨cur,h3,h6⟩,b2⟩) v2 (fun i r' _ hi ho hκ _ hk=>by
   rcases hM with ⟨h1,_,_⟩|⟨c',cur,h1,h2,_⟩
   ·omega
   ·exact(newOk ψ (by rw[h2];rfl)).2.2.1 i r' (qo hi ho) (qd (qo hi ho) hi) ho hκ) (fun i cs hi hz _ hk=>by
   rcases hM with ⟨h1,_,_⟩|⟨c',cur,h1,h2,_⟩
   ·omega
   ·exact(newOk ψ (by rw[h2];rfl)).2.2.2 i cs hi hz)
 have move:∀ {u p},RepS S M s.m.q u p→(∀i∈p.ids,Live s.m i∧i≠ .r d)→RepS S { M with ψ:=upd M.ψ d2 ψ,κ:=upd M.κ d2 κ } (upd (upd s.m.q d (some .dead)) d2 (some (.vec n' sz e))) u p:=fun {u p} r hi=>
  r.heap (SLe.refl S) (fun _ _=>rfl) fun i hi'=>by
   obtain⟨h1,h2⟩:=hi _ hi';have e1:d≠i:=fun e=>h2 (by rw[e])
   have e2:d2≠i:=fun e=>h1 (by rw[←e];exact hd2)
   rw[Zc _ _ e2,Zc _ _ e1];exact .same (Zc _ _ e2) (Zc _ _ e2)
 have live3:∀i,Live s.m i→Live (({ s.m with v:=upd s.m.v d none }.setq d .dead).setq d2 (.vec n' sz e)) i:=fun i h=>by
  cases i with
  |b i=>exact h
  |r i=>
   show upd (upd s.m.q d (some .dead)) d2 (some (.vec n' sz e)) i≠none
   by_cases e2:d2=i
   ·subst e2;rw[Za];simp
   ·rw[Zc _ _ e2]
    by_cases e1:d=i
    ·subst e1;rw[Za];simp
    ·rw[Zc _ _ e1];exact h
 have hs4:=hs3.layVec (d:=d2) (es:=es') ⟨sz,e,by subst hes;exact Za _ _ _,hcell,fun p hp i hi=>live3 i (hids p hp i hi).1,fun c hc us t f hus i j hi hj=>by
  simp only[Za]at hc hus;subst hes;rcases hM with ⟨h1,_,_⟩|⟨c',cur,h1,h2,h3,h4,h5,h6,h7⟩
  ·omega
  ·rw[h3]at hus;cases hus;have hlt:i*sz+j<es'.length*sz:=by
    calc i*sz+j<i*sz+sz:=by omega
     _=(i+1)*sz:=by rw[Nat.add_mul,Nat.one_mul]
     _≤es'.length*sz:=Nat.mul_le_mul_right _ hi
   have h8:=hrep i j hi hj;rw[←h7,List.getD_eq_getElem?_getD,List.getElem?_take_of_lt hlt,←List.getD_eq_getElem?_getD]at h8;have hm:es'.getD i .any∈es':=Ze hi;have hj':j<(es'.getD i .any).cells.length:=by rw[(hcell _ hm).1];exact hj
   exact move h8 fun k hk=>hids _ hm k (Z4 (Ze (d:= .any) hj') hk)⟩
 refine⟨_,hs4,?_,⟨SLe.refl S,fun _ _=>⟨fun _=>rfl,rfl⟩,BelowF.of_grown hg hs.hB fun k hk=>(old k (hrow k hk)).1⟩⟩;refine .vsl d2 n' sz v' ?_ fun n1 sz1 e1 hq1=> ?_
 ·rcases hM with ⟨_,h2,h3⟩|⟨c,cur,_,h2,_,h4,_⟩
  ·exact⟨none,0,by rw[h3,h2],by omega,fun h=>by omega⟩
  ·exact⟨_,c,h2,h4,fun _=>⟨ψ,0,rfl⟩⟩
 ·rw[Za]at hq1;simp only[Option.some.injEq,Row.vec.injEq]at hq1;obtain⟨rfl,rfl,rfl⟩:=hq1;refine⟨Nat.le_refl _,fun _=>⟨rfl,fun h=> ?_,fun c hc=> ?_⟩⟩
  ·simp only[Za]at h;rcases hM with ⟨_,_,h3⟩|⟨c,cur,h1,_⟩
   ·exact h3
   ·omega
  ·simp only[Za]at hc ⊢;rcases hM with ⟨h1,_,_⟩|⟨c',cur,h1,h2,_⟩
   ·omega
   ·obtain rfl:c'=c:=by omega
    exact h2
end
end Go.PL
