/- A logic of values for functions that only read and build, over the model (part 5): no statement of the seat is proved here. -/
import Derived.Test.YthingdchjkhfbaaGreatPlD
import Derived.Maps.RangeRun
namespace Go.PL
set_option maxHeartbeats 64000000
set_option maxRecDepth 20000
set_option linter.unusedVariables false
set_option linter.unusedSimpArgs false
open Go.RowKit
structure MemL where
 H:List (Nat×List PV)
 R:List (Nat×Row)
 V:List (Nat×List PV)
def MemL.hp (m:MemL):Hp:=
 { h:=ZaN (m.H.map fun x=>(x.1,some x.2)) fun _=>none,z:=fun _=>false,q:=ZaN (m.R.map fun x=>(x.1,some x.2)) fun _=>none,o:=fun _=>none,it:=fun _=>none,om:=fun _=>none,v:=ZaN (m.V.map fun x=>(x.1,some x.2)) fun _=>none,ph:=fun _=>none,pq:=fun _=>none,vm:=fun _=>false }
def MemL.has (m:MemL):Ref→Prop
 | .b i=>∃y∈m.H,y.1=i
 | .r i=>∃y∈m.R,y.1=i
structure MemL.Ok (m:MemL):Prop where
 nh:(m.H.map (·.1)).Nodup
 nr:(m.R.map (·.1)).Nodup
 nv:(m.V.map (·.1)).Nodup
 vr:∀x∈m.V,∃y∈m.R,y.1=x.1
 ch:∀x∈m.H,∀c∈x.2,∀i∈c.ids,m.has i
 cv:∀x∈m.V,∀c∈x.2,∀i∈c.ids,m.has i
def ZvC:Act:= { tmps:= #[],defers:= [] }
def ZsA (m:Hp):St:=⟨fun _=> .any,m,0⟩
structure Eff (P:Program) (f:FuncId) (args:List PV) (m0:MemL) (r:PV) (m1:MemL):Prop where
 cal:Zew P f
 ok0:m0.Ok
 ok1:m1.Ok
 ca:∀p∈args,∀i∈p.ids,m0.has i
 cr:∀i∈r.ids,m1.has i
 kh:∀i,m0.has i→m1.has i
 run:∀(B:Frm) (S:Stable) (M:Maps) (w:World) (vs:List Value),Sim B S M (ZsA m0.hp) ZvC w→vs.length=args.length→(∀i,i<args.length→RepS S M m0.hp.q (vs.getD i undef) (args.getD i .any))→
  Calls P f ⟨vs⟩ w fun en w'=>∃v S' M',en= .returned v∧RepS S' M' m1.hp.q v r∧Sim B S' M' (ZsA m1.hp) ZvC w'∧Ext B S S' w w'∧(∀x∈m0.H,M'.φ x.1=M.φ x.1)∧ ∀x∈m0.R,RowLe M M' x.1 (m0.hp.q x.1) (m1.hp.q x.1)
theorem Zev {α:Type} {L:List (Nat×α)} {f:Nat→Option α} {i:Nat} {y:α} (h:ZaN (L.map fun x=>(x.1,some x.2)) f i=some y):(i,y)∈L∨f i=some y:=by
 induction L with
 |nil=>exact .inr h
 |cons x L ih=>
  have h':upd (ZaN (L.map fun x=>(x.1,some x.2)) f) x.1 (some x.2) i=some y:=h
  by_cases e:x.1=i
  ·rw[e,Zb]at h';cases h';exact .inl (by subst e;simp)
  ·rw[Zm _ _ e]at h';exact(ih h').imp (fun h=>List.mem_cons_of_mem _ h) id
theorem ZhZ {α β:Type} {L:List (Nat×α)} {k:Nat→Nat} {F:Nat×α→β} {f:Nat→β} {x:Nat×α} (hx:x∈L) (hn:(L.map (·.1)).Nodup) (hk:∀y∈L,∀z∈L,k y.1=k z.1→y.1=z.1):ZaN (L.map fun x=>(k x.1,F x)) f (k x.1)=F x:=by
 induction L with
 |nil=>cases hx
 |cons y L ih=>
  show upd (ZaN (L.map fun x=>(k x.1,F x)) f) (k y.1) (F y) (k x.1)=F x;simp only[List.map_cons,List.nodup_cons]at hn;rcases List.mem_cons.1 hx with rfl|hx'
  ·rw[Zb]
  ·have hne:y.1≠x.1:=fun e=>hn.1 (List.mem_map.2 ⟨x,hx',e.symm⟩)
   rw[Zm _ _ fun e=>hne (hk y (by simp) x (by simp[hx']) e)];exact ih hx' hn.2 (fun a ha b hb=>hk a (by simp[ha]) b (by simp[hb]))
theorem ZiJ {α β:Type} {L:List (Nat×α)} {k:Nat→Nat} {F:Nat×α→β} {f:Nat→β} {i:Nat} (h:∀x∈L,k x.1≠i):ZaN (L.map fun x=>(k x.1,F x)) f i=f i:=by
 induction L with
 |nil=>rfl
 |cons y L ih=>
  show upd (ZaN (L.map fun x=>(k x.1,F x)) f) (k y.1) (F y) i=f i;rw[Zm _ _ (h y (by simp))];exact ih fun x hx=>h x (by simp[hx])
section
variable {m:MemL}
theorem MemL.h_mem {i:Nat} {cs:List PV} (h:m.hp.h i=some cs):(i,cs)∈m.H:=(Zev h).resolve_right (by simp)
theorem MemL.q_mem {i:Nat} {r:Row} (h:m.hp.q i=some r):(i,r)∈m.R:=(Zev h).resolve_right (by simp)
theorem MemL.v_mem {i:Nat} {es:List PV} (h:m.hp.v i=some es):(i,es)∈m.V:=(Zev h).resolve_right (by simp)
theorem MemL.Ok.h_at (ok:m.Ok) {x:Nat×List PV} (hx:x∈m.H):m.hp.h x.1=some x.2:=ZhZ (k:=fun i=>i) (F:=fun x=>some x.2) hx ok.nh (fun _ _ _ _ h=>h)
theorem MemL.Ok.q_at (ok:m.Ok) {x:Nat×Row} (hx:x∈m.R):m.hp.q x.1=some x.2:=ZhZ (k:=fun i=>i) (F:=fun x=>some x.2) hx ok.nr (fun _ _ _ _ h=>h)
theorem MemL.Ok.live (ok:m.Ok) {i:Ref} (h:m.has i):ZS m.hp i:=by
 cases i with
 |b i=>obtain⟨y,hy,rfl⟩:=h;show m.hp.h y.1≠none;rw[ok.h_at hy];simp
 |r i=>obtain⟨y,hy,rfl⟩:=h;show m.hp.q y.1≠none;rw[ok.q_at hy];simp
theorem MemL.has_of {i:Ref} (h:ZS m.hp i):m.has i:=by
 cases i with
 |b i=>cases e:m.hp.h i with
  |none=>exact absurd e h
  |some cs=>exact⟨_,MemL.h_mem e,rfl⟩
 |r i=>cases e:m.hp.q i with
  |none=>exact absurd e h
  |some cs=>exact⟨_,MemL.q_mem e,rfl⟩
end
def ZsX (m1:MemL) (f g:Nat→Nat) (m:Hp):Hp:=
 { m with h:=ZaN (m1.H.map fun x=>(g x.1,some (x.2.map (PV.ren f g)))) m.h,z:=ZaN (m1.H.map fun x=>(g x.1,false)) m.z,q:=ZaN (m1.R.map fun x=>(f x.1,some x.2)) m.q,v:=ZaN (m1.R.map fun x=>(f x.1,(m1.hp.v x.1).map (List.map (PV.ren f g)))) m.v }
structure FitsM (m0 m1:MemL) (f g:Nat→Nat) (m:Hp):Prop where
 h:∀x∈m0.H,m.h (g x.1)=some (x.2.map (PV.ren f g))∧m.z (g x.1)=false
 q:∀x∈m0.R,m.q (f x.1)=some x.2
 v:∀x∈m0.V,m.v (f x.1)=some (x.2.map (PV.ren f g))
 nh:∀x∈m1.H,(∃y∈m0.H,y.1=x.1)∨m.h (g x.1)=none
 nr:∀x∈m1.R,(∃y∈m0.R,y.1=x.1)∨m.q (f x.1)=none
 ig:∀x∈m1.H,∀y∈m1.H,g x.1=g y.1→x.1=y.1
 jf:∀x∈m1.R,∀y∈m1.R,f x.1=f y.1→x.1=y.1
section
variable {P:Program} {B:Frm} {S:Stable} {M:Maps} {s:St} {a:Act} {w:World} {fn:FuncId} {args:List PV} {m0 m1:MemL} {r:PV} {f g:Nat→Nat}
def ZvX (B:Frm) (M:Maps) (m:Hp) (m0:MemL) (f g:Nat→Nat):Frm:=fun k=>
 B k∨(∃id cs,m.h id=some cs∧m.z id=false∧(∀x∈m0.H,g x.1≠id)∧M.φ id=k)∨(∃id r,m.q id=some r∧r.own=true∧0<M.κ id∧(∀x∈m0.R,f x.1≠id)∧M.ψ id=k)∨(∃c,m.o k=some c)∨(∃x,m.it k=some x)∨ ∃c,m.om k=some c
theorem Sim.small (hs:Sim B S M s a w) (ok:m0.Ok) (hf:FitsM m0 m1 f g s.m) (ig:∀x∈m0.H,∀y∈m0.H,g x.1=g y.1→x.1=y.1) (jf:∀x∈m0.R,∀y∈m0.R,f x.1=f y.1→x.1=y.1):
  Sim (ZvX B M s.m m0 f g) S ⟨fun i=>M.φ (g i),fun i=>M.ψ (f i),fun i=>M.κ (f i)⟩ (ZsA m0.hp) ZvC w:=by
 have hq:∀ {i r},m0.hp.q i=some r→s.m.q (f i)=some r:=fun h=>hf.q _ (MemL.q_mem h)
 have un:∀ {v p},RepS S M s.m.q v (p.ren f g)→(∀i∈p.ids,m0.has i)→RepS S ⟨fun i=>M.φ (g i),fun i=>M.ψ (f i),fun i=>M.κ (f i)⟩ m0.hp.q v p:=fun rr hids=>
  rr.unren _ rfl (fun i _=>rfl) fun i hi=>⟨by obtain⟨y,hy,rfl⟩:=hids _ hi;rw[hf.q y hy,ok.q_at hy],rfl,rfl⟩
 have cell_nomap:∀ {k vs t fz},w.heap[k]? = some (.cells vs t fz)→ ¬((∃c,s.m.o k=some c)∨(∃x,s.m.it k=some x)∨ ∃c,s.m.om k=some c):=fun {k vs t fz} h0 h=>by
  rcases h with ⟨c,hc⟩|⟨x,hx⟩|⟨c,hc⟩
  ·obtain⟨_,_,es,h1,_⟩:=hs.stable.o k c hc;rw[h0]at h1;cases h1
  ·have h1:=(hs.stable.i k x hx).2.1;unfold IterAt at h1;rw[h0]at h1;cases h1
  ·obtain⟨_,_,_,⟨es,h1,_⟩,_⟩:=hs.rm k c hc;rw[h0]at h1;cases h1
 have nb:∀ {id cs},m0.hp.h id=some cs→ ¬ZvX B M s.m m0 f g (M.φ (g id)):=fun {id cs} h hB=>by
  have hx:=MemL.h_mem h;obtain⟨k1,k2⟩:=hf.h _ hx;obtain⟨g1,g2,⟨vs,t,g3,_⟩,_⟩:=hs.own k1 k2;rcases hB with hB|⟨id',cs',e1,e2,e3,e4⟩|⟨id',r',e1,e2,e3,e4,e5⟩|hB
  ·exact g1 hB
  ·exact hs.inj id' (g id) _ _ e1 k1 e2 k2 (fun e=>e3 _ hx e.symm) e4
  ·exact hs.injx (g id) id' _ _ k1 k2 e1 e2 e3 e5.symm
  ·exact cell_nomap g3 hB
 have nr:∀ {id r},m0.hp.q id=some r→r.own=true→0<M.κ (f id)→ ¬ZvX B M s.m m0 f g (M.ψ (f id)):=fun {id r} h ho hk hB=>by
  have hx:=MemL.q_mem h;have k1:=hq h;have hrow:=hs.row _ _ k1;obtain⟨c,hc⟩:∃c,M.κ (f id)=c+1:=⟨M.κ (f id)-1,by omega⟩;have hcell:∃vs e,w.heap[M.ψ (f id)]? = some (.cells ⟨vs⟩ e (0,0))∧ ¬B (M.ψ (f id)):=by
   cases r with
   |dead=>cases ho
   |live n sz e=>obtain⟨_,h2⟩:=hrow;obtain⟨_,_,g1,⟨vs,g2,_⟩,_⟩:=h2 c hc;exact⟨vs,e,g2,g1⟩
   |vec n sz e=>obtain⟨_,h2⟩:=hrow;obtain⟨_,_,g1,⟨vs,g2,_⟩,_⟩:=h2 c hc;exact⟨vs,e,g2,g1⟩
  obtain⟨vs,e,g3,g1⟩:=hcell;rcases hB with hB|⟨id',cs',e1,e2,e3,e4⟩|⟨id',r',e1,e2,e3,e4,e5⟩|hB
  ·exact g1 hB
  ·exact hs.injx id' (f id) _ _ e1 e2 k1 ho hk e4
  ·exact hs.injq id' (f id) _ _ e1 k1 e2 ho e3 hk (fun e=>e4 _ hx e.symm) e5
  ·exact cell_nomap g3 hB
 refine⟨rfl,rfl,fun k hB=> ?_,⟨hs.stable.s,fun b c hc=>(by cases hc),fun b x hx=>(by cases hx)⟩,fun i=> .clean (.any _),fun i id h=>(by simp[ZsA,PV.ids]at h),fun id cs h=> ?_,fun id r h=> ?_,fun id id' cs cs' h h' _ _ hne=> ?_,fun id id' r r' h h' o o' k k' hne=> ?_,fun id id' cs r h _ h' o k=> ?_,fun b c hc=>(by cases hc),fun id es h=> ?_,⟨fun _ _ h=>(by cases h),fun _ _ _ _ h=>(by cases h)⟩⟩
 ·rcases hB with hB|⟨id',cs',e1,e2,e3,e4⟩|⟨id',r',e1,e2,e3,e4,e5⟩|⟨c,hc⟩|⟨x,hx⟩|⟨c,hc⟩
  ·exact hs.hB k hB
  ·rw[←e4];exact hs.blk_lt e1 e2
  ·rw[←e5];exact hs.row_lt e1 e2 e3
  ·exact(hs.stable.o k c hc).2.2.lt
  ·exact(hs.stable.i k x hx).2.1.lt
  ·exact(hs.rm k c hc).2.2.2.lt
 ·have hx:=MemL.h_mem h;obtain⟨k1,k2⟩:=hf.h _ hx;obtain⟨g1,g2,⟨vs,t,g3,g4,g5⟩,g6⟩:=hs.own k1 k2;have hcl:∀c∈cs,∀i∈c.ids,m0.has i:=ok.ch _ hx;refine⟨nb h,g2,⟨vs,t,g3,by simpa using g4,fun j hj=>un ?_ (hcl _ (Zg hj))⟩,fun c hc i hi=>ok.live (hcl c hc i hi)⟩;have:=g5 j (by simpa using hj);rw[getD_lt (l:=cs.map _) (by simpa using hj),List.getElem_map]at this;rw[getD_lt hj];exact this
 ·have k1:=hq h;have hrow:=hs.row _ _ k1;cases r with
  |dead=>trivial
  |live n sz e=>
   obtain⟨h1,h2⟩:=hrow;refine⟨h1,fun c hc=> ?_⟩;obtain⟨g1,g2,g3,g4,g5⟩:=h2 c hc;exact⟨g1,g2,nr h rfl (by show 0<M.κ (f id);have:M.κ (f id)=c+1:=hc;omega),g4,g5⟩
  |vec n sz e=>
   obtain⟨h1,h2⟩:=hrow;refine⟨h1,fun c hc=> ?_⟩;obtain⟨g1,g2,g3,g4,g5⟩:=h2 c hc;exact⟨g1,g2,nr h rfl (by show 0<M.κ (f id);have:M.κ (f id)=c+1:=hc;omega),g4,g5⟩
 ·have hx:=MemL.h_mem h;have hx':=MemL.h_mem h';obtain⟨k1,k2⟩:=hf.h _ hx;obtain⟨k3,k4⟩:=hf.h _ hx';exact hs.inj _ _ _ _ k1 k3 k2 k4 fun e=>hne (ig _ hx _ hx' e)
 ·have hx:=MemL.q_mem h;have hx':=MemL.q_mem h';exact hs.injq _ _ _ _ (hq h) (hq h') o o' k k' fun e=>hne (jf _ hx _ hx' e)
 ·obtain⟨k1,k2⟩:=hf.h _ (MemL.h_mem h);exact hs.injx _ _ _ _ k1 k2 (hq h') o k
 ·have hx:=MemL.v_mem h;obtain⟨sz,e,q1,r1,r2,r4⟩:=hs.vc _ _ (hf.v _ hx);obtain⟨y,hy,hyx⟩:=ok.vr _ hx;have hyx':y.1=id:=hyx;have hqy:=hf.q y hy;rw[hyx']at hqy;rw[hqy,List.length_map]at q1;have hy2:y.2= .vec es.length sz e:=by simpa using q1
  have hcl:∀c∈es,∀i∈c.ids,m0.has i:=ok.cv _ hx;refine⟨sz,e,?_,fun p hp=> ?_,fun p hp i hi=>ok.live (hcl p hp i hi),fun c hc vs t fz hvs i j hi hj=> ?_⟩
  ·have:=ok.q_at hy;rw[hyx',hy2]at this;exact this
  ·have:=r1 (p.ren f g) (List.mem_map.2 ⟨p,hp,rfl⟩);rw[Zfw]at this;refine⟨by simpa using this.1,?_⟩;have h2:=this.2;rw[List.all_map]at h2;rw[List.all_eq_true]at h2 ⊢;intro x hx;have:=h2 x hx;simpa[Zq2]using this
  ·have hg:=r4 c hc vs t fz hvs i j (by simpa using hi) hj;rw[getD_lt (l:=es.map _) (by simpa using hi),List.getElem_map,Zfw]at hg;have hlen:=(r1 ((es.getD i .any).ren f g) (List.mem_map.2 ⟨_,Zg hi,rfl⟩)).1;rw[Zfw,List.length_map]at hlen;rw[getD_lt hi]at hlen ⊢;have hjl:j<es[i].cells.length:=by omega
   rw[getD_lt (l:=es[i].cells.map _) (by simpa using hjl),List.getElem_map]at hg;rw[getD_lt (l:=es[i].cells) hjl];exact un hg fun k hk=>hcl _ (List.getElem_mem hi) k (Zav (List.getElem_mem _) hk)
open Classical in
noncomputable def effM (M M1:Maps) (m1:MemL) (f g:Nat→Nat):Maps where
 φ:=fun id=>if h:∃x∈m1.H,g x.1=id then M1.φ h.choose.1 else M.φ id
 ψ:=fun id=>if h:∃x∈m1.R,f x.1=id then M1.ψ h.choose.1 else M.ψ id
 κ:=fun id=>if h:∃x∈m1.R,f x.1=id then M1.κ h.choose.1 else M.κ id
theorem effM_φ {M M1:Maps} {x:Nat×List PV} (hx:x∈m1.H) (ig:∀x∈m1.H,∀y∈m1.H,g x.1=g y.1→x.1=y.1):(effM M M1 m1 f g).φ (g x.1)=M1.φ x.1:=by
 have h:∃y∈m1.H,g y.1=g x.1:=⟨x,hx,rfl⟩;show(if h:∃y∈m1.H,g y.1=g x.1 then M1.φ h.choose.1 else M.φ (g x.1))=_;rw[dif_pos h,ig _ h.choose_spec.1 _ hx h.choose_spec.2]
theorem effM_φn {M M1:Maps} {id:Nat} (h:¬ ∃x∈m1.H,g x.1=id):(effM M M1 m1 f g).φ id=M.φ id:=dif_neg h
theorem effM_ψ {M M1:Maps} {x:Nat×Row} (hx:x∈m1.R) (jf:∀x∈m1.R,∀y∈m1.R,f x.1=f y.1→x.1=y.1):(effM M M1 m1 f g).ψ (f x.1)=M1.ψ x.1∧(effM M M1 m1 f g).κ (f x.1)=M1.κ x.1:=by
 have h:∃y∈m1.R,f y.1=f x.1:=⟨x,hx,rfl⟩;constructor
 ·show(if h:∃y∈m1.R,f y.1=f x.1 then M1.ψ h.choose.1 else M.ψ (f x.1))=_;rw[dif_pos h,jf _ h.choose_spec.1 _ hx h.choose_spec.2]
 ·show(if h:∃y∈m1.R,f y.1=f x.1 then M1.κ h.choose.1 else M.κ (f x.1))=_;rw[dif_pos h,jf _ h.choose_spec.1 _ hx h.choose_spec.2]
theorem effM_ψn {M M1:Maps} {id:Nat} (h:¬ ∃x∈m1.R,f x.1=id):(effM M M1 m1 f g).ψ id=M.ψ id∧(effM M M1 m1 f g).κ id=M.κ id:=⟨dif_neg h,dif_neg h⟩
theorem Eff.call (hs:Sim B S M s a w) (he:Eff P fn args m0 r m1) (hf:FitsM m0 m1 f g s.m) {vs:List Value} (hl:vs.length=args.length) (hr:∀i,i<args.length→RepS S M s.m.q (vs.getD i undef) ((args.getD i .any).ren f g)):
  Calls P fn ⟨vs⟩ w fun en w'=>∃v S' M',en= .returned v∧Sim B S' M' (s.with (ZsX m1 f g s.m)) a w'∧RepS S' M' (ZsX m1 f g s.m).q v (r.ren f g)∧(∀i∈(r.ren f g).ids,ZS (ZsX m1 f g s.m) i)∧Ext B S S' w w':=by
 have h01:∀x∈m0.H,∃y∈m1.H,y.1=x.1:=fun x hx=>he.kh (.b x.1) ⟨x,hx,rfl⟩
 have r01:∀x∈m0.R,∃y∈m1.R,y.1=x.1:=fun x hx=>he.kh (.r x.1) ⟨x,hx,rfl⟩
 have ig0:∀x∈m0.H,∀y∈m0.H,g x.1=g y.1→x.1=y.1:=fun x hx y hy e=>by
  obtain⟨x',hx',ex⟩:=h01 x hx;obtain⟨y',hy',ey⟩:=h01 y hy;rw[←ex,←ey]at e ⊢;exact hf.ig _ hx' _ hy' e
 have jf0:∀x∈m0.R,∀y∈m0.R,f x.1=f y.1→x.1=y.1:=fun x hx y hy e=>by
  obtain⟨x',hx',ex⟩:=r01 x hx;obtain⟨y',hy',ey⟩:=r01 y hy;rw[←ex,←ey]at e ⊢;exact hf.jf _ hx' _ hy' e
 have hs0:=hs.small he.ok0 hf ig0 jf0;refine(he.run _ S _ w vs hs0 hl fun i hi=> ?_).mono fun en w' ⟨v,S',M1,e1,e2,hs1,hext,e5,e6⟩=> ?_
 ·refine(hr i hi).unren _ rfl (fun k _=>rfl) fun k hk=>⟨?_,rfl,rfl⟩
  obtain⟨y,hy,rfl⟩:=he.ca _ (Zg hi) _ hk;rw[hf.q y hy,he.ok0.q_at hy]
 obtain⟨hle,hag,hbel⟩:=hext
 let M':=effM M M1 m1 f g
 let m':=ZsX m1 f g s.m
 have lh:∀x∈m1.H,m'.h (g x.1)=some (x.2.map (PV.ren f g))∧m'.z (g x.1)=false:=fun x hx=>
  ⟨ZhZ (α:=List PV) (β:=Option (List PV)) (k:=g) (F:=fun x=>some (x.2.map (PV.ren f g))) hx he.ok1.nh hf.ig,ZhZ (α:=List PV) (β:=Bool) (k:=g) (F:=fun _=>false) hx he.ok1.nh hf.ig⟩
 have lhn:∀ {id},(¬ ∃x∈m1.H,g x.1=id)→m'.h id=s.m.h id∧m'.z id=s.m.z id:=fun {id} h=>
  ⟨ZiJ (α:=List PV) (β:=Option (List PV)) (k:=g) (F:=fun x=>some (x.2.map (PV.ren f g))) fun x hx e=>h ⟨x,hx,e⟩,ZiJ (α:=List PV) (β:=Bool) (k:=g) (F:=fun _=>false) fun x hx e=>h ⟨x,hx,e⟩⟩
 have lq:∀x∈m1.R,m'.q (f x.1)=some x.2∧m'.v (f x.1)=(m1.hp.v x.1).map (List.map (PV.ren f g)):=fun x hx=>
  ⟨ZhZ (α:=Row) (β:=Option Row) (k:=f) (F:=fun x=>some x.2) hx he.ok1.nr hf.jf,ZhZ (α:=Row) (β:=Option (List PV)) (k:=f) (F:=fun x=>(m1.hp.v x.1).map (List.map (PV.ren f g))) hx he.ok1.nr hf.jf⟩
 have lqn:∀ {id},(¬ ∃x∈m1.R,f x.1=id)→m'.q id=s.m.q id∧m'.v id=s.m.v id:=fun {id} h=>
  ⟨ZiJ (α:=Row) (β:=Option Row) (k:=f) (F:=fun x=>some x.2) fun x hx e=>h ⟨x,hx,e⟩,ZiJ (α:=Row) (β:=Option (List PV)) (k:=f) (F:=fun x=>(m1.hp.v x.1).map (List.map (PV.ren f g))) fun x hx e=>h ⟨x,hx,e⟩⟩
 have live_old:∀i,ZS s.m i→ZS m' i:=fun i hi=>by
  cases i with
  |b i=>
   show m'.h i≠none
   by_cases h:∃x∈m1.H,g x.1=i
   ·obtain⟨x,hx,rfl⟩:=h;rw[(lh x hx).1];simp
   ·rw[(lhn h).1];exact hi
  |r i=>
   show m'.q i≠none
   by_cases h:∃x∈m1.R,f x.1=i
   ·obtain⟨x,hx,rfl⟩:=h;rw[(lq x hx).1];simp
   ·rw[(lqn h).1];exact hi
 have ZgU:∀i,m1.has i→ZS m' (i.ren f g):=fun i hi=>by
  cases i with
  |b i=>obtain⟨y,hy,rfl⟩:=hi;show m'.h (g y.1)≠none;rw[(lh y hy).1];simp
  |r i=>obtain⟨y,hy,rfl⟩:=hi;show m'.q (f y.1)≠none;rw[(lq y hy).1];simp
 have φ_old:∀id,s.m.h id≠none→M'.φ id=M.φ id:=fun id hid=>by
  by_cases h:∃x∈m1.H,g x.1=id
  ·obtain⟨x,hx,rfl⟩:=h;refine(effM_φ hx hf.ig).trans ?_;rcases hf.nh x hx with ⟨y,hy,e⟩|h0
   ·have:=e5 y hy;rw[e]at this;exact this
   ·exact absurd h0 hid
  ·exact effM_φn h
 have row_old:∀id,s.m.q id≠none→RowLe M M' id (s.m.q id) (m'.q id):=fun id hid=>by
   by_cases h:∃x∈m1.R,f x.1=id
   ·obtain⟨x,hx,rfl⟩:=h;rcases hf.nr x hx with ⟨y,hy,e⟩|h0
    ·have h6:=e6 y hy;rw[e]at h6;have hqy:=hf.q y hy;have h0q:=he.ok0.q_at hy;rw[e]at hqy h0q;rw[(lq x hx).1,hqy];rw[he.ok1.q_at hx,h0q]at h6;obtain⟨k1,k2⟩:=effM_ψ (M:=M) (M1:=M1) hx hf.jf;exact⟨fun n sz e' h=>(h6.l n sz e' h).imp (fun⟨a1,a2,a3⟩=>⟨a1,k2.trans a2,k1.trans a3⟩) id,fun n sz e' h=>(h6.v n sz e' h).imp (fun⟨e0,a1,a2,a3⟩=>⟨e0,a1,k2.trans a2,k1.trans a3⟩) id⟩
    ·exact absurd h0 hid
   ·obtain⟨k1,k2⟩:=effM_ψn (M:=M) (M1:=M1) h;exact .of_eq (lqn h).1 k2 k1
 have rep_old:∀v p,RepS S M s.m.q v p→(∀i∈p.ids,ZS s.m i)→RepS S' M' m'.q v p:=fun v p rr hids=>
  rr.heap hle (fun id hid=>φ_old id (hids _ hid)) (fun id hid=>row_old id (hids _ hid))
 have rep_new:∀v p,RepS S' M1 m1.hp.q v p→(∀i∈p.ids,m1.has i)→RepS S' M' m'.q v (p.ren f g):=fun v p rr hids=>
  rr.ren (fun i hi=>by obtain⟨y,hy,rfl⟩:=hids _ hi;exact effM_φ hy hf.ig) (fun i hi=>by
   obtain⟨y,hy,rfl⟩:=hids _ hi;obtain⟨k1,k2⟩:=effM_ψ (M:=M) (M1:=M1) hy hf.jf;exact⟨by rw[(lq y hy).1,he.ok1.q_at hy],k2,k1⟩)
 have inB:∀ {id cs},s.m.h id=some cs→s.m.z id=false→(¬ ∃x∈m1.H,g x.1=id)→ZvX B M s.m m0 f g (M.φ id):=fun {id cs} h1 h2 h=> .inr (.inl ⟨id,cs,h1,h2,fun x hx e=>by
  obtain⟨y,hy,ey⟩:=h01 x hx;exact h ⟨y,hy,by rw[ey];exact e⟩,rfl⟩)
 have inR:∀ {id r},s.m.q id=some r→r.own=true→0<M.κ id→(¬ ∃x∈m1.R,f x.1=id)→ZvX B M s.m m0 f g (M.ψ id):=fun {id r} h1 h2 h3 h=> .inr (.inr (.inl ⟨id,r,h1,h2,h3,fun x hx e=>by
  obtain⟨y,hy,ey⟩:=r01 x hx;exact h ⟨y,hy,by rw[ey];exact e⟩,rfl⟩))
 have toB:∀ {k},B k→ZvX B M s.m m0 f g k:=fun h=> .inl h
 have nbk:∀ {x},x∈m1.H→ ¬ZvX B M s.m m0 f g (M1.φ x.1):=fun {x} hx=>by
  have:=hs1.blk x.1 x.2 (he.ok1.h_at hx);exact this.1
 have nrw:∀ {x:Nat×Row},x∈m1.R→x.2.own=true→0<M1.κ x.1→ ¬ZvX B M s.m m0 f g (M1.ψ x.1):=fun {x} hx ho hk=>by
  have hrow:=hs1.row x.1 x.2 (he.ok1.q_at hx);obtain⟨i,r⟩:=x;cases r with
  |dead=>cases ho
  |live n sz e=>obtain⟨_,h2⟩:=hrow;exact(h2 (M1.κ i-1) (by show M1.κ i=_;simp only at hk;omega)).2.2.1
  |vec n sz e=>obtain⟨_,h2⟩:=hrow;exact(h2 (M1.κ i-1) (by show M1.κ i=_;simp only at hk;omega)).2.2.1
 have hm':∀ {b c},s.m.o b=some c→S'.m b=none:=fun {b c} h=>by rw[(hag b (.inr (.inr (.inr (.inl ⟨c,h⟩))))).2];exact(hs.stable.o b c h).2.1
 refine⟨v,S',M',e1,⟨hs.defers,hs.hn,fun k hk=>Nat.lt_of_lt_of_le (hs.hB k hk) hbel.size,?_,fun i=>rep_old _ _ (hs.fr i) (hs.ids i),fun i k hk=>live_old k (hs.ids i k hk),fun id cs h=> ?_,fun id r h=> ?_,fun id id' cs cs' h h' z z' hne=> ?_,fun id id' q1 q2 h h' o o' k k' hne=> ?_,fun id id' cs q1 h z h' o k=> ?_,fun b c hc=> ?_,fun id es h=> ?_,hs.pn.move rfl rfl live_old φ_old row_old⟩,rep_new _ _ e2 he.cr,fun i hi=> ?_,hle,fun b hb=>hag b (toB hb),hbel.mono fun k hk=>toB hk⟩
 ·exact hs.stable.move hle (fun b c hc=>hm' hc) hs1.stable.s (fun b c hc=>hbel.block b (.inr (.inr (.inr (.inl ⟨c,hc⟩))))) (fun b x hx=>hbel.block b (.inr (.inr (.inr (.inr (.inl ⟨x,hx⟩))))))
 ·have h:m'.h id=some cs:=h;show Zhm B S' M' m' w' id cs (m'.z id)
  by_cases hg:∃x∈m1.H,g x.1=id
  ·obtain⟨x,hx,rfl⟩:=hg;rw[(lh x hx).1]at h;cases h;rw[(lh x hx).2];have hb1:=hs1.blk x.1 x.2 (he.ok1.h_at hx);obtain⟨g1,g2,⟨us,t,g3,g4,g5⟩,g6⟩:=hb1;have hφ:M'.φ (g x.1)=M1.φ x.1:=effM_φ hx hf.ig;refine⟨by rw[hφ];exact fun hB=>g1 (toB hB),fun o=>by rw[hφ];exact g2 o,⟨us,t,by rw[hφ];exact g3,by simpa using g4,fun j hj=> ?_⟩,fun c hc i hi=> ?_⟩
   ·simp only[List.length_map]at hj;rw[getD_lt (l:=x.2.map _) (by simpa using hj),List.getElem_map];have:=g5 j hj;rw[getD_lt (l:=x.2) hj]at this;exact rep_new _ _ this (he.ok1.ch x hx _ (List.getElem_mem hj))
   ·obtain⟨c0,hc0,rfl⟩:=List.mem_map.1 hc;rw[ZjN]at hi;obtain⟨i0,hi0,rfl⟩:=List.mem_map.1 hi;exact ZgU i0 (he.ok1.ch x hx c0 hc0 i0 hi0)
  ·rw[(lhn hg).1]at h;rw[(lhn hg).2];have hb:=hs.blk id cs h;have hφ:M'.φ id=M.φ id:=effM_φn hg;cases hz:s.m.z id with
   |true=>
    rw[hz]at hb;obtain⟨vals,hv⟩:=hb;exact⟨vals,fun j hj=>⟨by rw[hφ];exact hle _ _ _ (hv j hj).1,(hv j hj).2.mono hle⟩⟩
   |false=>
    rw[hz]at hb;obtain⟨g1,g2,⟨us,t,g3,g4,g5⟩,g6⟩:=hb;have hin:=inB h hz hg;exact⟨by rw[hφ];exact g1,fun o=>by rw[hφ,(hag _ hin).1];exact g2 o,⟨us,t,by rw[hφ,hbel.block _ hin];exact g3,g4,fun j hj=>rep_old _ _ (g5 j hj) (fun k hk=>g6 _ (Zg hj) k hk)⟩,fun c hc k hk=>live_old k (g6 c hc k hk)⟩
 ·have h:m'.q id=some r:=h
  by_cases hg:∃x∈m1.R,f x.1=id
  ·obtain⟨x,hx,rfl⟩:=hg;rw[(lq x hx).1]at h;cases h;obtain⟨k1,k2⟩:=effM_ψ (M:=M) (M1:=M1) hx hf.jf;have hrow:=hs1.row x.1 x.2 (he.ok1.q_at hx);obtain⟨i,rw0⟩:=x;cases rw0 with
   |dead=>trivial
   |live n sz e=>
    obtain⟨h1,h2⟩:=hrow;refine⟨fun h0=>h1 (by rw[←k2];exact h0),fun c hc=> ?_⟩;obtain⟨g1,g2,g3,g4,g5⟩:=h2 c (by rw[←k2];exact hc);simp only[M',k1];exact⟨g1,g2,fun hB=>g3 (toB hB),g4,g5⟩
   |vec n sz e=>
    obtain⟨h1,h2⟩:=hrow;refine⟨fun h0=>h1 (by rw[←k2];exact h0),fun c hc=> ?_⟩;obtain⟨g1,g2,g3,g4,g5⟩:=h2 c (by rw[←k2];exact hc);simp only[M',k1];exact⟨g1,g2,fun hB=>g3 (toB hB),g4,g5⟩
  ·rw[(lqn hg).1]at h;obtain⟨k1,k2⟩:=effM_ψn (M:=M) (M1:=M1) hg;have hrow:=hs.row id r h;cases r with
   |dead=>trivial
   |live n sz e=>
    obtain⟨h1,h2⟩:=hrow;refine⟨fun h0=>h1 (by rw[←k2];exact h0),fun c hc=> ?_⟩;have hc':M.κ id=c+1:=by rw[←k2];exact hc
    obtain⟨g1,g2,g3,g4,g5⟩:=h2 c hc';have hin:=inR h rfl (by omega) hg;simp only[M',k1,hbel.block _ hin];exact⟨g1,g2,g3,g4,fun o ho=>by rw[(hag _ hin).1];exact g5 o ho⟩
   |vec n sz e=>
    obtain⟨h1,h2⟩:=hrow;refine⟨fun h0=>h1 (by rw[←k2];exact h0),fun c hc=> ?_⟩;have hc':M.κ id=c+1:=by rw[←k2];exact hc
    obtain⟨g1,g2,g3,g4,g5⟩:=h2 c hc';have hin:=inR h rfl (by omega) hg;simp only[M',k1,hbel.block _ hin];exact⟨g1,g2,g3,g4,fun o=>by rw[(hag _ hin).1];exact g5 o⟩
 ·have h:m'.h id=some cs:=h;have h':m'.h id'=some cs':=h';have z:m'.z id=false:=z;have z':m'.z id'=false:=z'
  by_cases hg:∃x∈m1.H,g x.1=id
  ·obtain⟨x,hx,rfl⟩:=hg;have hφ:M'.φ (g x.1)=M1.φ x.1:=effM_φ hx hf.ig
   by_cases hg':∃x∈m1.H,g x.1=id'
   ·obtain⟨y,hy,rfl⟩:=hg';have hφ':M'.φ (g y.1)=M1.φ y.1:=effM_φ hy hf.ig;rw[hφ,hφ'];exact hs1.inj _ _ _ _ (he.ok1.h_at hx) (he.ok1.h_at hy) rfl rfl fun e=>hne (by rw[e])
   ·rw[(lhn hg').1]at h';rw[(lhn hg').2]at z';have hφ':M'.φ id'=M.φ id':=effM_φn hg';rw[hφ,hφ'];exact fun e=>nbk hx (by rw[e];exact inB h' z' hg')
  ·rw[(lhn hg).1]at h;rw[(lhn hg).2]at z;have hφ:M'.φ id=M.φ id:=effM_φn hg
   by_cases hg':∃x∈m1.H,g x.1=id'
   ·obtain⟨y,hy,rfl⟩:=hg';have hφ':M'.φ (g y.1)=M1.φ y.1:=effM_φ hy hf.ig;rw[hφ,hφ'];exact fun e=>nbk hy (by rw[←e];exact inB h z hg)
   ·rw[(lhn hg').1]at h';rw[(lhn hg').2]at z';have hφ':M'.φ id'=M.φ id':=effM_φn hg';rw[hφ,hφ'];exact hs.inj _ _ _ _ h h' z z' hne
 ·have h:m'.q id=some q1:=h;have h':m'.q id'=some q2:=h'
  by_cases hg:∃x∈m1.R,f x.1=id
  ·obtain⟨x,hx,rfl⟩:=hg;rw[(lq x hx).1]at h;cases h;obtain⟨k1,k2⟩:=effM_ψ (M:=M) (M1:=M1) hx hf.jf;have k:0<M1.κ x.1:=by rw[←k2];exact k
   by_cases hg':∃x∈m1.R,f x.1=id'
   ·obtain⟨y,hy,rfl⟩:=hg';rw[(lq y hy).1]at h';cases h';obtain⟨k3,k4⟩:=effM_ψ (M:=M) (M1:=M1) hy hf.jf;have k':0<M1.κ y.1:=by rw[←k4];exact k'
    simp only[M',k1,k3];exact hs1.injq _ _ _ _ (he.ok1.q_at hx) (he.ok1.q_at hy) o o' k k' fun e=>hne (by rw[e])
   ·rw[(lqn hg').1]at h';obtain⟨k3,k4⟩:=effM_ψn (M:=M) (M1:=M1) hg';have k':0<M.κ id':=by rw[←k4];exact k'
    simp only[M',k1,k3];exact fun e=>nrw hx o k (by rw[e];exact inR h' o' k' hg')
  ·rw[(lqn hg).1]at h;obtain⟨k1,k2⟩:=effM_ψn (M:=M) (M1:=M1) hg;have k:0<M.κ id:=by rw[←k2];exact k
   by_cases hg':∃x∈m1.R,f x.1=id'
   ·obtain⟨y,hy,rfl⟩:=hg';rw[(lq y hy).1]at h';cases h';obtain⟨k3,k4⟩:=effM_ψ (M:=M) (M1:=M1) hy hf.jf;have k':0<M1.κ y.1:=by rw[←k4];exact k'
    simp only[M',k1,k3];exact fun e=>nrw hy o' k' (by rw[←e];exact inR h o k hg)
   ·rw[(lqn hg').1]at h';obtain⟨k3,k4⟩:=effM_ψn (M:=M) (M1:=M1) hg';have k':0<M.κ id':=by rw[←k4];exact k'
    simp only[M',k1,k3];exact hs.injq _ _ _ _ h h' o o' k k' hne
 ·have h:m'.h id=some cs:=h;have z:m'.z id=false:=z;have h':m'.q id'=some q1:=h'
  by_cases hg':∃x∈m1.R,f x.1=id'
  ·obtain⟨y,hy,rfl⟩:=hg';rw[(lq y hy).1]at h';cases h';obtain⟨k3,k4⟩:=effM_ψ (M:=M) (M1:=M1) hy hf.jf;have k:0<M1.κ y.1:=by rw[←k4];exact k
   by_cases hg:∃x∈m1.H,g x.1=id
   ·obtain⟨x,hx,rfl⟩:=hg;have hφ:M'.φ (g x.1)=M1.φ x.1:=effM_φ hx hf.ig;rw[hφ];simp only[M',k3];exact hs1.injx _ _ _ _ (he.ok1.h_at hx) rfl (he.ok1.q_at hy) o k
   ·rw[(lhn hg).1]at h;rw[(lhn hg).2]at z;have hφ:M'.φ id=M.φ id:=effM_φn hg;rw[hφ];simp only[M',k3];exact fun e=>nrw hy o k (by rw[←e];exact inB h z hg)
  ·rw[(lqn hg').1]at h';obtain⟨k3,k4⟩:=effM_ψn (M:=M) (M1:=M1) hg';have k:0<M.κ id':=by rw[←k4];exact k
   by_cases hg:∃x∈m1.H,g x.1=id
   ·obtain⟨x,hx,rfl⟩:=hg;have hφ:M'.φ (g x.1)=M1.φ x.1:=effM_φ hx hf.ig;rw[hφ];simp only[M',k3];exact fun e=>nbk hx (by rw[e];exact inR h' o k hg')
   ·rw[(lhn hg).1]at h;rw[(lhn hg).2]at z;have hφ:M'.φ id=M.φ id:=effM_φn hg;rw[hφ];simp only[M',k3];exact hs.injx _ _ _ _ h z h' o k
 ·have hc:s.m.om b=some c:=hc;obtain⟨g1,g2,g3,g4⟩:=hs.rm b c hc;have hin:ZvX B M s.m m0 f g b:= .inr (.inr (.inr (.inr (.inr ⟨c,hc⟩))));exact⟨g1,by rw[(hag b hin).2];exact g2,g3,g4.move hle (hbel.block b hin) rep_old live_old⟩
 ·have h:m'.v id=some es:=h
  by_cases hg:∃x∈m1.R,f x.1=id
  ·obtain⟨x,hx,rfl⟩:=hg;rw[(lq x hx).2]at h;cases hv:m1.hp.v x.1 with
   |none=>rw[hv]at h;cases h
   |some es0=>
    rw[hv]at h;simp only[Option.map_some,Option.some.injEq]at h;subst h;have hxv:=MemL.v_mem hv;obtain⟨k1,k2⟩:=effM_ψ (M:=M) (M1:=M1) hx hf.jf;obtain⟨sz,e,q1,r1,r2,r4⟩:=hs1.vc x.1 es0 hv;refine⟨sz,e,?_,fun p hp=> ?_,fun p hp i hi=> ?_,fun c hc us t fz hus i j hi hj=> ?_⟩
    ·have:m1.hp.q x.1=some x.2:=he.ok1.q_at hx;have q1':m1.hp.q x.1=some (.vec es0.length sz e):=q1;rw[this]at q1';have hq2:m'.q (f x.1)=some x.2:=(lq x hx).1;rw[List.length_map];exact hq2.trans q1'
    ·obtain⟨p0,hp0,rfl⟩:=List.mem_map.1 hp;obtain⟨c1,c2⟩:=r1 p0 hp0;rw[Zfw];refine⟨by simpa using c1,?_⟩;rw[List.all_map,List.all_eq_true];rw[List.all_eq_true]at c2;intro y hy;simpa[Zq2]using c2 y hy
    ·obtain⟨p0,hp0,rfl⟩:=List.mem_map.1 hp;rw[ZjN]at hi;obtain⟨i0,hi0,rfl⟩:=List.mem_map.1 hi;exact ZgU i0 (MemL.has_of (r2 p0 hp0 i0 hi0))
    ·have hc':M1.κ x.1=c+1:=by rw[←k2];exact hc
     have hus':w'.heap[M1.ψ x.1]? = some (.cells ⟨us⟩ t fz):=by rw[←k1];exact hus
     simp only[List.length_map]at hi;have hlen:=(r1 _ (Zg (d:= .any) hi)).1;have:=r4 c hc' us t fz hus' i j hi hj;rw[getD_lt (l:=es0.map _) (by simpa using hi),List.getElem_map,Zfw];rw[getD_lt hi]at hlen;rw[getD_lt (l:=es0) hi]at this;have hjl:j<es0[i].cells.length:=by omega
     rw[getD_lt (l:=es0[i].cells.map _) (by simpa using hjl),List.getElem_map];rw[getD_lt (l:=es0[i].cells) hjl]at this;exact rep_new _ _ this fun k hk=>MemL.has_of (r2 _ (List.getElem_mem hi) k (Zav (List.getElem_mem hjl) hk))
  ·rw[(lqn hg).2]at h;obtain⟨k1,k2⟩:=effM_ψn (M:=M) (M1:=M1) hg;obtain⟨sz1,e1',q1⟩:=hs.vec_q h;refine(hs.vc id es h).move (fun n sz e hq=> ?_) k2 k1 (fun hk=>hbel.block _ (inR q1 rfl hk hg)) rep_old live_old;show m'.q id=_;rw[(lqn hg).1];exact hq
 ·rw[ZjN]at hi;obtain⟨i0,hi0,rfl⟩:=List.mem_map.1 hi;exact ZgU i0 (he.cr i0 hi0)
end
open Go.RowKit
section
variable {P:Program} {B:Frm} {S:Stable} {M:Maps} {s:St} {a:Act} {w:World}
theorem Sim.reOm (hs:Sim B S M s a w) {om':Nat→Option MapC} (h:∀b c,om' b=some c→ ¬B b∧S.m b=none∧s.m.o b=none∧MapAtR S M s.m w b c):Sim B S M (s.with { s.m with om:=om' }) a w:=by
 have live:∀i,ZS s.m i→ZS { s.m with om:=om' } i:=fun i h=>by cases i<;>exact h
 refine⟨hs.defers,hs.hn,hs.hB,hs.stable,hs.fr,fun i k hk=>live k (hs.ids i k hk),fun i cs hi=> ?_,hs.row,hs.inj,hs.injq,hs.injx,fun b c hc=> ?_,fun i es he=> ?_,⟨hs.pn.h,hs.pn.q⟩⟩
 ·have h':=hs.blk i cs hi;show Zhm _ _ _ _ _ _ _ (s.m.z i);cases hz:s.m.z i with
  |false=>
   rw[hz]at h';obtain⟨g1,g2,g3,g6⟩:=h';exact⟨g1,g2,g3,fun c hc k hk=>live k (g6 c hc k hk)⟩
  |true=>rw[hz]at h';exact h'
 ·obtain⟨g1,g2,g3,g4⟩:=h b c hc;exact⟨g1,g2,g3,g4.move (SLe.refl _) rfl (fun v p r _=>r) live⟩
 ·exact(hs.vc i es he).move (fun _ _ _ h=>h) rfl rfl (fun _=>rfl) (fun v p r _=>r) live
theorem Sim.setOm (hs:Sim B S M s a w) {b:Nat} {c c':MapC} {es':List MapEntry} (hb:s.m.om b=some c) (g1:es'.length=c'.ks.length) (g2:c'.vs.length=c'.ks.length) (g3:∀i,i<c'.ks.length→(es'.getD i default).born=i)
  (g4:∀i,i<c'.ks.length→Rep S (es'.getD i default).key (c'.ks.getD i .any)) (g5:∀i,i<c'.ks.length→RepS S M s.m.q (es'.getD i default).val (c'.vs.getD i .any)) (lv:∀p∈c'.vs,∀i∈p.ids,ZS s.m i):
  Sim B S M (s.with { s.m with om:=upd s.m.om b (some c') }) a { w with heap:=w.heap.setIfInBounds b (.map ⟨es'⟩ es'.length) }∧Ext B S S w { w with heap:=w.heap.setIfInBounds b (.map ⟨es'⟩ es'.length) }:=by
 obtain⟨o1,o2,o3,⟨es,e1,_⟩,_⟩:=hs.rm b c hb;have hnc:∀vs t f,w.heap[b]? ≠ some (.cells vs t f):=fun vs t f h=>by rw[e1]at h;cases h
 obtain⟨w1,w2⟩:=Zoh (o':= .map ⟨es'⟩ es'.length) e1;have h1:=hs.reOm (om':=upd s.m.om b none) (fun k d hd=>by
  by_cases e:b=k
  ·subst e;rw[Zb]at hd;cases hd
  ·rw[Zm _ _ e]at hd;exact hs.rm k d hd)
 have h2:=h1.special (w':= { w with heap:=w.heap.setIfInBounds b (.map ⟨es'⟩ es'.length) }) (o':=s.m.o) (it':=s.m.it) hnc w2 (by simp) ⟨ZeS hs.stable.s hnc o2 w2,fun k d hd=>by
   obtain⟨q1,q2,q3⟩:=hs.stable.o k d hd;exact⟨q1,q2,q3.move (SLe.refl _) (w2 k (fun e=>by subst e;rw[o3]at hd;cases hd))⟩,fun k x hx=>by
   obtain⟨q1,q2⟩:=hs.stable.i k x hx;refine⟨q1,?_⟩;unfold IterAt at q2 ⊢;rw[w2 k (fun e=>by subst e;have q3:=q2.1;rw[e1]at q3;cases q3)];exact q2⟩ (fun k d hd=>by
   have hd:upd s.m.om b none k=some d:=hd
   by_cases e:b=k
   ·subst e;rw[Zb]at hd;cases hd
   ·rw[Zm _ _ e]at hd;exact⟨Ne.symm e,(hs.rm k d hd).2.2.1⟩)
 have h3:=h2.reOm (om':=upd s.m.om b (some c')) (fun k d hd=>by
  by_cases e:b=k
  ·subst e;rw[Zb]at hd;cases hd;exact⟨o1,o2,o3,⟨es',w1,g1,g2,g3,g4,g5⟩,lv⟩
  ·rw[Zm _ _ e]at hd;exact h2.rm k d (by show upd s.m.om b none k=_;rw[Zm _ _ e];exact hd))
 exact⟨h3,SLe.refl _,fun _ _=>⟨fun _=>rfl,rfl⟩,⟨rfl,rfl,rfl,by simp,fun k hk=>w2 k (fun e=>o1 (e▸hk))⟩⟩
theorem Sim.oToOm (hs:Sim B S M s a w) {b:Nat} {c:MapC} (hb:s.m.o b=some c):Sim B S M (s.with { s.m with o:=upd s.m.o b none,om:=upd s.m.om b (some c) }) a w:=by
 obtain⟨o1,o2,es,e1,e2,e3,e4,e5,e6⟩:=hs.stable.o b c hb;have hnc:∀vs t f,w.heap[b]? ≠ some (.cells vs t f):=fun vs t f h=>by rw[e1]at h;cases h
 have h1:=hs.special (w':=w) (o':=upd s.m.o b none) (it':=s.m.it) hnc (fun _ _=>rfl) rfl ⟨hs.stable.s,fun k d hd=>by
   by_cases e:b=k
   ·subst e;rw[Zb]at hd;cases hd
   ·rw[Zm _ _ e]at hd;exact hs.stable.o k d hd,hs.stable.i⟩ (fun k d hk=>hs.om_ne hk hb)
 exact h1.reOm (om':=upd s.m.om b (some c)) (fun k d hd=>by
  by_cases e:b=k
  ·subst e;rw[Zb]at hd;cases hd;refine⟨o1,o2,Zb _ _ _,⟨es,e1,e2,e3,e4,e5,fun i hi=> .clean (e6 i hi)⟩,fun p hp i hi=> ?_⟩;obtain⟨j,hj,rfl⟩:=List.getElem_of_mem hp;have:=e6 j (by omega);rw[getD_lt hj]at this;exact absurd hi (this.clean_ids i)
  ·rw[Zm _ _ e]at hd;exact h1.rm k d hd)
theorem Sim.omToO (hs:Sim B S M s a w) {b:Nat} {c:MapC} (hb:s.m.om b=some c) (hc:∀p∈c.vs,p.clean=true):Sim B S M (s.with { s.m with o:=upd s.m.o b (some ⟨c.ks,c.vs.map PV.share⟩),om:=upd s.m.om b none }) a w:=by
 obtain⟨o1,o2,o3,⟨es,e1,e2,e3,e4,e5,e6⟩,lv⟩:=hs.rm b c hb;have hnc:∀vs t f,w.heap[b]? ≠ some (.cells vs t f):=fun vs t f h=>by rw[e1]at h;cases h
 have h1:=hs.reOm (om':=upd s.m.om b none) (fun k d hd=>by
  by_cases e:b=k
  ·subst e;rw[Zb]at hd;cases hd
  ·rw[Zm _ _ e]at hd;exact hs.rm k d hd)
 exact h1.special (w':=w) (o':=upd s.m.o b (some ⟨c.ks,c.vs.map PV.share⟩)) (it':=s.m.it) hnc (fun _ _=>rfl) rfl ⟨hs.stable.s,fun k d hd=>by
   by_cases e:b=k
   ·subst e;rw[Zb]at hd;cases hd;refine⟨o1,o2,es,e1,e2,by simpa using e3,e4,e5,fun i hi=> ?_⟩;have hi':i<c.vs.length:=by rw[e3];exact hi
    have:=(e6 i hi).share (hc _ (Zg hi'));rw[getD_lt (l:=c.vs.map PV.share) (by simpa using hi'),List.getElem_map];rwa[getD_lt hi']at this
   ·rw[Zm _ _ e]at hd;exact hs.stable.o k d hd,hs.stable.i⟩ (fun k d hd=>by
   have hd:upd s.m.om b none k=some d:=hd
   by_cases e:b=k
   ·subst e;rw[Zb]at hd;cases hd
   ·rw[Zm _ _ e]at hd;exact⟨Ne.symm e,by rw[Zm _ _ e];exact(hs.rm k d hd).2.2.1⟩)
def Zy7 (z:PV) (c:MapC):Option Nat→PV
 |some j=> .tup [c.vs.getD j .any,.int .i64 (j:Int)]
 |none=> .tup [z,.int .i64 (c.ks.length:Int)]
def ZA9 (z:PV) (cs:List PV) (c:MapC):Option Nat→MapC
 |some _=>c
 |none=>⟨c.ks++ [.agg (PV.shareL cs)],c.vs++ [z]⟩
theorem Zwm (hs:Sim B S M s a w) {t:TypeId} {b:Nat} {c:MapC} {ls:List Leaf} {z:PV} {v:Value} {cs:List PV} {r:Option Nat} (hb:s.m.om b=some c) (h1:Zw0 P t=some (ls,z)) (hv:RepS S M s.m.q v (.agg cs)) (hf:ZeG ls cs c.ks 0=some r) (hlen:cs.length=ls.length) (hc1:PV.cleanL cs=true):
  ∃u w',(Instr.mapEntry t (.map (some b)) v).run P w= .ok u w'∧Sim B S M (s.with { s.m with om:=upd s.m.om b (some (ZA9 z cs c r)) }) a w'∧RepS S M s.m.q u (Zy7 z c r)∧Ext B S S w w'∧ ∀i∈(Zy7 z c r).ids,ZS s.m i:=by
 obtain⟨kt,et,fs,i,zv,t1,t2,t3,t4,t5,rfl,t6⟩:=Zhd h1;obtain⟨o1,o2,o3,⟨es,e1,e2,e3,e4,e5,e6⟩,lv⟩:=hs.rm b c hb;obtain⟨vs,rfl,hl,hrv⟩:=hv.agg_inv;have ht:Zan P kt=true:=by simp[Zan,t2]
 have hg:=MapKept.run_getObj_map (P:=P) e1;have hck:(Instr.checkKey false 10000 kt (.agg ⟨vs⟩)).run P w= .ok () w:=ZcR (vs:=vs) t2 (fun f hf=>by rw[hl,hlen];exact t6 f hf) false 9997 w;obtain⟨f1,f2⟩:=Zjf (S:=S) (M:=M) (q:=s.m.q) t3 ht ⟨hl,hrv⟩ w es c.ks 0 _ e2 e5 hf;cases r with
 |some j=>
  obtain⟨_,g2,ds,g3,g4⟩:=f2 j rfl;have hj:j<c.ks.length:=by omega
  rw[Nat.sub_zero]at g3;have hkj:=e5 j hj;rw[g3]at hkj;obtain⟨us,hus,hul,hru⟩:=(RepS.clean (S:=S) (M:=M) (q:=s.m.q) hkj).agg_inv;obtain⟨hsame,hbits⟩:=ZeE g4 ⟨hl,hrv⟩ ⟨hul,hru⟩;subst hsame;have hjl:j<es.length:=by omega
  have hkey:(es.getD j default).key= .agg ⟨vs⟩:=hus;have hsb:Instr.sameBits 10000 (.agg ⟨vs⟩) (.agg ⟨vs⟩)=true:=by
   simp only[Instr.sameBits,BEq.rfl,Bool.true_and];rw[List.all_eq_true]
   rintro ⟨p,q⟩ hpq
   rw[List.zip_eq_zipWith]at hpq;simp only at hpq ⊢;obtain⟨n,hn,hpn⟩:=List.getElem_of_mem hpq;simp only[List.getElem_zipWith]at hpn;cases hpn;exact hbits _ (List.getElem_mem _) _
  have hfk:(Instr.findKey kt (.agg ⟨vs⟩) es).run P w= .ok (some (j,(es.getD j default).val)) w:=by
   rw[run_findKey_eq w (by rw[t2]) (.agg ⟨vs⟩) es];simpa using f1
  have hej:(⟨es⟩:Array MapEntry)[j]? = some (es.getD j default):=by
   rw[getD_lt hjl];simp[hjl]
  have hmod:(⟨es⟩:Array MapEntry).modify j (fun e=> { e with key:= .agg ⟨vs⟩ })=⟨es⟩:=by
   apply Array.ext';apply List.ext_getElem?;intro n;rw[Array.getElem?_toList,Array.getElem?_modify]
   by_cases e:j=n
   ·subst e;have hk2:(es[j]).key= .agg ⟨vs⟩:=by rw[getD_lt hjl]at hkey;exact hkey
    simp[hjl,←hk2]
   ·simp[e]
  have hborn:=e4 j hj;have hrun:(Instr.mapEntry t (.map (some b)) (.agg ⟨vs⟩)).run P w= .ok (.tuple #[(es.getD j default).val,.int .i64 (j:Int)]) { w with heap:=w.heap.setIfInBounds b (.map ⟨es⟩ es.length) }:=by
   have hks:(Instr.keyThatStays (.agg ⟨vs⟩) (.agg ⟨vs⟩)).run P w= .ok (.agg ⟨vs⟩) w:=by simp[Instr.keyThatStays,hsb]
   simp only[Instr.mapEntry,Sem.run_bind,run_underlying t1,Result.andThen_ok,hg,hck,hfk,hej,Option.map_some,Option.getD_some,hkey,hks,hmod,hborn,MapKept.run_setObj_map _ e1];simp[goInt]
  obtain⟨k1,k2⟩:=hs.setOm (c':=c) hb e2 e3 e4 e5 e6 lv;have hjv:j<c.vs.length:=by omega
  refine⟨_,_,hrun,k1,.tup [_,_] [_,_] rfl (fun i hi=> ?_),k2,fun i hi=> ?_⟩
  ·match i,hi with
   |0,_=>exact e6 j hj
   |1,_=>exact .clean (.int _ _)
  ·simp only[Zy7,PV.ids,PV.idsL,List.append_nil]at hi;exact lv _ (Zg hjv) i hi
 |none=>
  have hfk:(Instr.findKey kt (.agg ⟨vs⟩) es).run P w= .ok none w:=by
   rw[run_findKey_eq w (by rw[t2]) (.agg ⟨vs⟩) es];simpa using f1
  have hz:(zeroValue et).run P w= .ok zv w:=by simp[zeroValue,Zgq t4,t5]
  have hrun:(Instr.mapEntry t (.map (some b)) (.agg ⟨vs⟩)).run P w= .ok (.tuple #[zv,.int .i64 (es.length:Int)]) { w with heap:=w.heap.setIfInBounds b (.map ⟨es++ [{ key:= .agg ⟨vs⟩,val:=zv,born:=es.length }]⟩ (es.length+1)) }:=by
   simp only[Instr.mapEntry,Sem.run_bind,run_underlying t1,Result.andThen_ok,hg,hck,hfk,hz,List.push_toArray,MapKept.run_setObj_map _ e1];simp[goInt]
  have hget:∀i,i<c.ks.length+1→(es++ [({ key:= .agg ⟨vs⟩,val:=zv,born:=es.length }:MapEntry)]).getD i default=if i<c.ks.length then es.getD i default else { key:= .agg ⟨vs⟩,val:=zv,born:=es.length }:=fun i hi=>by
   by_cases e:i<c.ks.length
   ·rw[if_pos e,Zi (by omega)]
   ·rw[if_neg e,Zk (by omega)];have:i-es.length=0:=by omega
    simp[this]
  have hkc:Rep S (.agg ⟨vs⟩) (.agg (PV.shareL cs)):=(RepS.agg (S:=S) (M:=M) (q:=s.m.q) vs cs hl hrv).share hc1;obtain⟨k1,k2⟩:=hs.setOm (b:=b) (c:=c) (c':=⟨c.ks++ [.agg (PV.shareL cs)],c.vs++ [ZbI zv]⟩) (es':=es++ [{ key:= .agg ⟨vs⟩,val:=zv,born:=es.length }]) hb (by simp[e2]) (by simp[e3]) (fun i hi=>by
    simp only[List.length_append,List.length_cons,List.length_nil]at hi;rw[hget i (by omega)];split
    ·rename_i e;exact e4 i e
    ·show es.length=i;omega) (fun i hi=>by
    simp only[List.length_append,List.length_cons,List.length_nil]at hi;rw[hget i (by omega)];show Rep S _ ((c.ks++ [PV.agg (PV.shareL cs)]).getD i .any);split
    ·rename_i e;rw[Zi e];exact e5 i e
    ·rename_i e;rw[Zk (by omega)];have:i-c.ks.length=0:=by omega
     simpa[this]using hkc) (fun i hi=>by
    simp only[List.length_append,List.length_cons,List.length_nil]at hi;rw[hget i (by omega)];show RepS S M s.m.q _ ((c.vs++ [ZbI zv]).getD i .any);split
    ·rename_i e;rw[Zi (by omega)];exact e6 i e
    ·rename_i e;rw[Zk (by omega)];have:i-c.vs.length=0:=by omega
     simpa[this]using RepS.clean (ZcH S zv)) (fun p hp i hi=>by
    rcases List.mem_append.1 hp with hp|hp
    ·exact lv p hp i hi
    ·simp only[List.mem_singleton]at hp;subst hp;rw[Zdn]at hi;cases hi)
  refine⟨_,_,hrun,by simpa[ZA9]using k1,.tup [_,_] [_,_] rfl (fun i hi=> ?_),by simpa using k2,fun i hi=> ?_⟩
  ·match i,hi with
   |0,_=>exact .clean (ZcH S zv)
   |1,_=>rw[←e2];exact .clean (.int _ _)
  ·simp only[Zy7,PV.ids,PV.idsL,List.append_nil,Zdn]at hi;cases hi
theorem Zwn (hs:Sim B S M s a w) {t:TypeId} {b:Nat} {c:MapC} {v:Value} {p:PV} {k:Nat} (hb:s.m.om b=some c) (hv:RepS S M s.m.q v p) (hid:∀i∈p.ids,ZS s.m i) (hk:k<c.ks.length):
  ∃w',(Instr.entryStore t (.map (some b)) (.int .i64 (k:Int)) v).run P w= .ok () w'∧Sim B S M (s.with { s.m with om:=upd s.m.om b (some ⟨c.ks,c.vs.set k p⟩) }) a w'∧Ext B S S w w':=by
 obtain⟨o1,o2,o3,⟨es,e1,e2,e3,e4,e5,e6⟩,lv⟩:=hs.rm b c hb;have hg:=MapKept.run_getObj_map (P:=P) e1;have hkl:k<es.length:=by omega
 have hfind:(⟨es⟩:Array MapEntry).findIdx? (fun e=>(e.born:Int)==(k:Int))=some k:=by
  rw[List.findIdx?_toArray,List.findIdx?_eq_some_iff_getElem];refine⟨hkl,?_,fun j hj=> ?_⟩
  ·have:=e4 k hk;rw[getD_lt hkl]at this;simp[this]
  ·have:=e4 j (by omega);rw[getD_lt (by omega)]at this;simp only[this,beq_iff_eq];omega
 have hmod:(⟨es⟩:Array MapEntry).modify k (fun e=> { e with val:=v })=⟨es.set k { es.getD k default with val:=v }⟩:=by
  apply Array.ext';apply List.ext_getElem?;intro n;rw[Array.getElem?_toList,Array.getElem?_modify];simp only[List.getElem?_set]
  by_cases e:k=n
  ·subst e;simp[hkl,getD_lt hkl]
  ·simp[e]
 have hrun:(Instr.entryStore t (.map (some b)) (.int .i64 (k:Int)) v).run P w= .ok () { w with heap:=w.heap.setIfInBounds b (.map ⟨es.set k { es.getD k default with val:=v }⟩ es.length) }:=by
  simp only[Instr.entryStore,Sem.run_bind,Result.andThen_ok,hg];have ha:(asInt (.int .i64 (k:Int))).run P w= .ok (k:Int) w:=by simp[asInt,asIntOf]
  simp only[ha,Result.andThen_ok,hfind,hmod];exact MapKept.run_setObj_map _ e1
 have hget:∀i,i<c.ks.length→(es.set k { es.getD k default with val:=v }).getD i default=if i=k then { es.getD k default with val:=v } else es.getD i default:=fun i hi=>by
  rw[getD_lt (by simp;omega),List.getElem_set]
  by_cases e:k=i
  ·subst e;simp
  ·rw[if_neg e,if_neg (Ne.symm e)];exact(getD_lt (by omega)).symm
 obtain⟨k1,k2⟩:=hs.setOm (b:=b) (c:=c) (c':=⟨c.ks,c.vs.set k p⟩) (es':=es.set k { es.getD k default with val:=v }) hb (by simpa using e2) (by simp[e3]) (fun i hi=>by
   rw[hget i hi];split
   ·rename_i e;subst e;exact e4 i hi
   ·exact e4 i hi) (fun i hi=>by
   rw[hget i hi];split
   ·rename_i e;subst e;exact e5 i hi
   ·exact e5 i hi) (fun i hi=>by
   rw[hget i hi];have hi:i<c.ks.length:=hi;have hgv:(c.vs.set k p).getD i .any=if i=k then p else c.vs.getD i .any:=by
    rw[getD_lt (by simp;omega),List.getElem_set]
    by_cases e:k=i
    ·subst e;simp
    ·rw[if_neg e,if_neg (Ne.symm e)];exact(getD_lt (by omega)).symm
   show RepS S M s.m.q _ ((c.vs.set k p).getD i .any);rw[hgv];split
   ·exact hv
   ·exact e6 i hi) (fun x hx i hi=>by
   rcases List.mem_or_eq_of_mem_set hx with hx|rfl
   ·exact lv x hx i hi
   ·exact hid i hi)
 rw[List.length_set]at k1 k2;exact⟨_,hrun,k1,k2⟩
end
open Go.RowKit
mutual
def PV.nomap:PV→Bool
 | .rmap _ _=>false
 | .sl _ es=>PV.nomapL es
 | .rptr cs=>PV.nomapL cs
 | .agg cs=>PV.nomapL cs
 | .tup cs=>PV.nomapL cs
 | .fn _ cs=>PV.nomapL cs
 |_=>true
def PV.nomapL:List PV→Bool
 | []=>true
 |c::cs=>PV.nomap c&&PV.nomapL cs
end
mutual
def PV.shut (o:Nat→Option MapC):PV→PV
 | .mref b=>match o b with
  |some c=> .rmap c.ks c.vs
  |none=> .mref b
 | .rptr cs=> .rptr (PV.sealL o cs)
 | .agg cs=> .agg (PV.sealL o cs)
 | .tup cs=> .tup (PV.sealL o cs)
 | .fn f cs=> .fn f (PV.sealL o cs)
 |p=>p
def PV.sealL (o:Nat→Option MapC):List PV→List PV
 | []=> []
 |c::cs=>PV.shut o c::PV.sealL o cs
end
theorem ZhM:∀ {cs:List PV},PV.nomapL cs=true↔ ∀c∈cs,c.nomap=true
 | []=>by simp[PV.nomapL]
 |c::cs=>by simp[PV.nomapL,ZhM (cs:=cs)]
theorem Zcp {cs:List PV} (h:PV.nomapL cs=true) (i:Nat):(cs.getD i .any).nomap=true:=by
 by_cases hi:i<cs.length
 ·exact ZhM.1 h _ (Zg hi)
 ·rw[Zdk (by omega)];rfl
theorem ZpE {p:PV} (h:p.nomap=true) (j:Nat):(p.cells.getD j .any).nomap=true:=by
 cases p with
 |agg cs=>exact Zcp (cs:=cs) (by simpa[PV.nomap]using h) j
 |_=>
  simp only[PV.cells];cases j with
  |zero=>simpa using h
  |succ j=>simp[PV.nomap]
theorem Zaq (o:Nat→Option MapC):∀(cs:List PV),(PV.sealL o cs).length=cs.length
 | []=>rfl
 |c::cs=>by simp[PV.sealL,Zaq o cs]
theorem Zc8 (o:Nat→Option MapC):∀(cs:List PV) (i:Nat),i<cs.length→(PV.sealL o cs).getD i .any=(cs.getD i .any).shut o
 | [],i,h=>by simp at h
 |c::cs,0,_=>by simp[PV.sealL]
 |c::cs,i+1,h=>by simpa[PV.sealL]using Zc8 o cs i (by simpa using h)
theorem Rep.cells_only {S S':Stable} (h:S'.c=S.c) {v:Value} {p:PV} (r:Rep S v p) (hn:p.nomap=true):Rep S' v p:=by
 induction r with
 |any v=>exact .any v
 |int k n=>exact .int k n
 |bool b=>exact .bool b
 |str l=>exact .str l
 |flt k b=>exact .flt k b
 |cpx k a b=>exact .cpx k a b
 |agg vs cs hl _ ih=>exact .agg vs cs hl (fun i hi=>ih i hi (Zcp hn i))
 |tup vs cs hl _ ih=>exact .tup vs cs hl (fun i hi=>ih i hi (Zcp hn i))
 |sl0 a cap=>exact .sl0 a cap
 |slnil=>exact .slnil
 |sl b o cap sz es vals hsz hcap hS _ ih=>exact .sl b o cap sz es vals hsz hcap (fun i j hi hj=>by rw[h];exact hS i j hi hj) (fun i j hi hj=>ih i j hi hj (ZpE (Zcp hn i) j))
 |rptr b o cs vals hS _ ih=>exact .rptr b o cs vals (fun j hj=>by rw[h];exact hS j hj) (fun j hj=>ih j hj (Zcp hn j))
 |nilp=>exact .nilp
 |nilfn=>exact .nilfn
 |nilmap=>exact .nilmap
 |mref b=>exact .mref b
 |iptr b=>exact .iptr b
 |rmap b es ks vs hS hk hv hb _ _ ihK ihV=>simp[PV.nomap]at hn
 |fn f vs cs hl _ ih=>exact .fn f vs cs hl (fun i hi=>ih i hi (Zcp hn i))
def Zip (S:Stable) (w:World) (o:Nat→Option MapC):Stable:=
 ⟨S.c,fun b=>match o b with
  |some _=>(match w.heap[b]? with|some (.map es _)=>some es.toList|_=>none)
  |none=>S.m b⟩
section
variable {P:Program} {B:Frm} {S:Stable} {M:Maps} {s:St} {a:Act} {w:World} {o:Nat→Option MapC} {it:Nat→Option IterC}
theorem Zq6 (hs:Stab B S w o it) {b:Nat} {c:MapC} (h:o b=some c):∃es,(Zip S w o).m b=some es∧w.heap[b]? = some (.map ⟨es⟩ es.length)∧es.length=c.ks.length∧c.vs.length=c.ks.length∧(∀i,i<c.ks.length→(es.getD i default).born=i)∧
  (∀i,i<c.ks.length→Rep S (es.getD i default).key (c.ks.getD i .any))∧(∀i,i<c.ks.length→Rep S (es.getD i default).val (c.vs.getD i .any)):=by
 obtain⟨_,_,es,h1,h2⟩:=hs.o b c h;exact⟨es,by simp[Zip,h,h1],h1,h2⟩
theorem Zq7 (hs:Stab B S w o it):SLe S (Zip S w o):=by
 refine⟨fun _ _ _ h=>h,fun b es h=> ?_⟩;cases ho:o b with
 |some c=>rw[(hs.o b c ho).2.1]at h;cases h
 |none=>simpa[Zip,ho]using h
theorem Zlw (hs:Stab B S w o it):StabS (Zip S w o) w:=by
 refine⟨hs.s.c,fun b es h=> ?_⟩;cases ho:o b with
 |some c=>
  obtain⟨es',h1,h2,_⟩:=Zq6 hs ho;rw[h1]at h;cases h;exact h2
 |none=>simp[Zip,ho]at h;exact hs.s.m b es h
theorem Rep.shut (hs:Stab B S w o it) {v:Value} {p:PV} (r:Rep S v p):Rep (Zip S w o) v (p.shut o):=by
 have hle:=Zq7 hs
 induction r with
 |agg vs cs hl _ ih=>exact .agg vs _ (by rw[Zaq];exact hl) (fun i hi=>by rw[Zaq]at hi;rw[Zc8 o cs i hi];exact ih i hi)
 |tup vs cs hl _ ih=>exact .tup vs _ (by rw[Zaq];exact hl) (fun i hi=>by rw[Zaq]at hi;rw[Zc8 o cs i hi];exact ih i hi)
 |fn f vs cs hl _ ih=>exact .fn f vs _ (by rw[Zaq];exact hl) (fun i hi=>by rw[Zaq]at hi;rw[Zc8 o cs i hi];exact ih i hi)
 |any v=>exact .any v
 |int k n=>exact .int k n
 |bool b=>exact .bool b
 |str l=>exact .str l
 |flt k b=>exact .flt k b
 |cpx k a b=>exact .cpx k a b
 |sl0 a cap=>exact .sl0 a cap
 |slnil=>exact .slnil
 |sl b o' cap sz es vals h1 h2 h3 h4 _=>exact(Rep.sl b o' cap sz es vals h1 h2 h3 h4).mono hle
 |rptr b o' cs vals h1 h2 ih=>
  refine .rptr b o' _ vals (fun j hj=> ?_) (fun j hj=> ?_)
  ·rw[Zaq]at hj;exact h1 j hj
  ·rw[Zaq]at hj;rw[Zc8 o cs j hj];exact ih j hj
 |nilp=>exact .nilp
 |nilfn=>exact .nilfn
 |nilmap=>exact .nilmap
 |iptr b=>exact .iptr b
 |mref b=>
  unfold PV.shut;cases ho:o b with
  |none=>exact .mref b
  |some c=>
   obtain⟨es,h1,h2,h3,h4,h5,h6,h7⟩:=Zq6 hs ho;exact .rmap b es c.ks c.vs h1 h3 h4 h5 (fun i hi=>(h6 i hi).mono hle) (fun i hi=>(h7 i hi).mono hle)
 |rmap b es ks vs h1 h2 h3 h4 h5 h6 _ _=>exact(Rep.rmap b es ks vs h1 h2 h3 h4 h5 h6).mono hle
end
def Wr (P:Program) (f:FuncId) (args:Nat→List PV) (c:MapC) (r:PV) (c':MapC):Prop:=
 Zew P f∧r.dids= []∧ ∀(b:Nat) (w:World) (S:Stable) (vs:List Value),StabS S w→S.m b=none→MapAt S w b c→vs.length=(args b).length→(∀i,i<(args b).length→Rep S (vs.getD i undef) ((args b).getD i .any))→
  Calls P f ⟨vs⟩ w fun e w'=>∃v S',e= .returned v∧Rep S' v r∧StabS S' w'∧SLe S S'∧(∀k,k<w.heap.size→k≠b→(∀o,S' k o=S k o)∧S'.m k=S.m k)∧S'.m b=none∧MapAt S' w' b c'∧BelowF (fun k=>k<w.heap.size∧k≠b) w w'
def Mk (P:Program) (f:FuncId) (args:List PV) (r:Nat→PV) (c:MapC):Prop:=
 Zew P f∧(∀b,(r b).dids= [])∧ ∀(w:World) (S:Stable) (vs:List Value),StabS S w→vs.length=args.length→(∀i,i<args.length→Rep S (vs.getD i undef) (args.getD i .any))→
  Calls P f ⟨vs⟩ w fun e w'=>∃v S' b,e= .returned v∧w.heap.size≤b∧Rep S' v (r b)∧StabS S' w'∧SLe S S'∧(∀k,k<w.heap.size→(∀o,S' k o=S k o)∧S'.m k=S.m k)∧S'.m b=none∧MapAt S' w' b c∧Below w.heap.size w w'
def Xt (P:Program) (f:FuncId) (args:List PV) (r:PV):Prop:=
 ∀(w:World) (S:Stable) (vs:List Value),vs.length=args.length→(∀i,i<args.length→Rep S (vs.getD i undef) (args.getD i .any))→ ∃v,Rep S v r∧(callFunc f ⟨vs⟩).run P w= .ok (.value v) w
def Rw (P:Program) (f:FuncId) (args:List PV) (r:Nat→PV) (n sz:Nat) (e:TypeId):Prop:=
 Zew P f∧(∀d,∀i∈(r d).ids,i= .r d)∧ ∀(w:World) (S:Stable) (vs:List Value),StabS S w→vs.length=args.length→(∀i,i<args.length→Rep S (vs.getD i undef) (args.getD i .any))→
  Calls P f ⟨vs⟩ w fun en w'=>∃v S' κ ψ,en= .returned v∧(∀(d:Nat) (M:Maps) (q:Rows),M.κ d=κ→M.ψ d=ψ→q d=some (.live n sz e)→RepS S' M q v (r d))∧
   ZlS (fun k=>k<w.heap.size) S' ⟨id,fun _=>ψ,fun _=>κ⟩ w' 0 (.live n sz e)∧StabS S' w'∧SLe S S'∧(∀k,k<w.heap.size→(∀o,S' k o=S k o)∧S'.m k=S.m k)∧Below w.heap.size w w'
def Zzy (P:Program) (g:FuncId) (args:List PV) (m:Hp) (K:PV→Hp→Prop):Prop:=
 (∃r,Pure P g (PV.sealL m.o args) r∧r.nomap=true∧K r m)∨
 (∃b c A r c',m.o b=some c∧args=A b∧Wr P g A c r c'∧K r { m with o:=upd m.o b (some c') })∨
 (∃r c,Mk P g args r c∧ ∀b,m.o b=none→K (r b) { m with o:=upd m.o b (some c) })∨
 (∃r,Xt P g args r∧K r m)∨
 (∃r n sz e d,Rw P g args r n sz e∧m.q d=none∧K (r d) (m.setq d (.live n sz e)))
def Zzx (P:Program) (g:FuncId) (args:List PV) (m:Hp) (K:PV→Hp→Prop):Prop:=
 ∃args0 m0 r m1 f' g',Eff P g args0 m0 r m1∧FitsM m0 m1 f' g' m∧args=args0.map (PV.ren f' g')∧K (r.ren f' g') (ZsX m1 f' g' m)
def Zxq:List PV→Bool
 | .vsl _ _ _::_=>true
 |_=>false
def vmB (dst:Option Nat) (m:Hp):Bool:=
 match dst with
 |some d=>m.vm d
 |none=>false
def Zw5 (x y:PV) (d:Nat) (ei:EInfo) (ys:List PV) (m:Hp) (K:PV→Hp→Prop):Prop:=
 match x with
 | .vsl id n sz=>match m.v id with
  |some es=>es.length=n∧sz=ei.size∧m.q id=some (.vec n sz ei.e)∧(d=id∨m.q d=none)∧ZlL y m ys ei.size [id,d]∧(∀p∈es++ys,.r id∉p.ids)∧ZrF (n+ys.length) ei.bytes∧
    K (.vsl d (n+ys.length) sz) (ZvH m id d (n+ys.length) sz ei.e (es++ys))
  |none=>False
 | .sl .nil []=>m.q d=none∧ZlL y m ys ei.size [d]∧(∀p∈ys,.r d∉p.ids)∧ZrF ys.length ei.bytes∧K (.vsl d ys.length ei.size) { m.setq d (.vec ys.length ei.size ei.e)with v:=upd m.v d (some ys) }
 |_=>False
def ZAW (P:Program) (dst:Option Nat) (ts:List TypeId) (xs:List PV) (m:Hp) (K:PV→Hp→Prop):Prop:=
 match dst,ts,xs with
 |some d,[t,tx],[x,y]=>match Zcg P t,Zdg P tx y m with
  |some ei,some ys=>(∀p∈ys,p.cells.length=ei.size∧p.cells.all PV.atom=true)∧Zw5 x y d ei ys m K
  |_,_=>False
 |_,_,_=>False
def ZAX (P:Program) (dst:Option Nat) (t:TypeId) (len:Nat) (parts:List (Nat×PV)) (m:Hp) (K:PV→Hp→Prop):Prop:=
 match dst,Zcg P t with
 |some d,some ei=>m.q d=none∧len=parts.length∧len*ei.size≤16777216∧Zn3 ei.size d 0 parts∧K (.vsl d len ei.size) { m.setq d (.vec len ei.size ei.e)with v:=upd m.v d (some (parts.map (·.2))) }
 |_,_=>False
def Zob (x:PV) (m:Hp) (K:PV→Hp→Prop):Prop:=
 match x with
 | .mref b=>match m.o b with
  |some c=>∀ib,m.it ib=none→K (.iptr ib) { m with it:=upd m.it ib (some ⟨b,c.ks.length,[],none⟩) }
  |none=>False
 | .rmap ks vs=>∀ib b,m.it ib=none→K (.iptr ib) { m with it:=upd m.it ib (some ⟨b,ks.length,[],some ⟨ks,vs⟩⟩) }
 |_=>False
def Zt8 (x:PV) (m:Hp) (K:PV→Hp→Prop):Prop:=
 match x with
 | .iptr ib=>match m.it ib with
  |some it=>match mapIt m it with
   |some c=>c.ks.length=it.n∧((∀i,i<it.n→i∈it.seen)→K (.tup [.bool false]) m)∧
     ∀i,i<it.n→i∉it.seen→K (.tup [.bool true,c.ks.getD i .any,c.vs.getD i .any]) { m with it:=upd m.it ib (some ⟨it.b,it.n,it.seen++ [i],it.c⟩) }
   |none=>False
  |none=>False
 |_=>False
def Zx7 (m:Hp) (K:PV→Hp→Prop):Prop:=∀b,m.o b=none→K (.mref b) { m with o:=upd m.o b (some ⟨[],[]⟩) }
def Znr (P:Program) (t:TypeId) (x k:PV) (m:Hp) (K:PV→Hp→Prop):Prop:=
 match x,Zw0 P t,k with
 | .mref b,some (ls,z),.agg cs=>match m.om b with
  |some c=>match ZeG ls cs c.ks 0 with
   |some r=>cs.length=ls.length∧PV.cleanL cs=true∧K (Zy7 z c r) { m with om:=upd m.om b (some (ZA9 z cs c r)) }
   |none=>False
  |none=>False
 |_,_,_=>False
def Zos (x st v:PV) (m:Hp) (K:PV→Hp→Prop):Prop:=
 match x,st with
 | .mref b,.int .i64 k=>match m.om b with
  |some c=>0≤k∧k.toNat<c.ks.length∧K (.tup []) { m with om:=upd m.om b (some ⟨c.ks,c.vs.set k.toNat v⟩) }
  |none=>False
 |_,_=>False
def Zqp:PV→Bool
 | .sl .no es=>es.isEmpty
 |_=>false
def ZmX (P:Program) (o:Oper) (s:St) (K:St→Prop):Prop:=
 match o.op with
 | .call c=>match Zao s.eval c with
  |some (g,args)=>(PV.givableL s.m args∧Zzy P g (PV.giveL s.m args) s.m fun r m=>K ((s.with m).put o.dst r))∨Zzx P g (PV.giveL s.m args) s.m fun r m=>K ((s.with m).put o.dst r)
  |none=>match c.callee with
   | .builtin .append=>ZAW P o.dst c.argTypes.toList (c.args.toList.map s.eval) s.m fun r m=>K ((s.with m).put o.dst r)
   |_=>False
 | .buildSlice t len parts=>ZAX P o.dst t len (parts.toList.map fun x=>(x.1,s.eval x.2)) s.m fun r m=>K ((s.with m).put o.dst r)
 | .makeMap _ none=>Zx7 s.m fun r m=>K ((s.with m).put o.dst r)
 | .mapEntry t x k=>Znr P t (s.eval x) (s.eval k) s.m fun r m=>K ((s.with m).put o.dst r)
 | .entryStore t x st v=>o.dst=none∧Zos (s.eval x) (s.eval st) (s.eval v) s.m fun r m=>K ((s.with m).put o.dst r)
 | .range t x=>Zp5 P t=true∧Zob (s.eval x) s.m fun r m=>K ((s.with m).put o.dst r)
 | .next x false=>Zt8 (s.eval x) s.m fun r m=>K ((s.with m).put o.dst r)
 | .binOp .eql t x (.const (.slice none 0 0)) _=>(Zp2 P t= .slc∧Zqp (s.eval x)=true)∧ ∀b,K ((s.with s.m).put o.dst (.bool b))
 |_=>False
end Go.PL
