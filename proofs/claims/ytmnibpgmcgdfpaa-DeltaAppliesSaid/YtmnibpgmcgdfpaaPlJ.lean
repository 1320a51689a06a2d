/- A logic of values for functions that only read and build, over the model (part 10): no statement of the seat is proved here. -/
import Derived.Test.YtmnibpgmcgdfpaaPlI
import Derived.Test.YtmnibpgmcgdfpaaPlH
set_option maxHeartbeats 64000000
set_option maxRecDepth 20000
set_option linter.unusedVariables false
set_option linter.unusedSimpArgs false
namespace Go.PL
open Go.RowKit
section
variable {P:Program}
theorem Tu {f g:Nat→Nat} {es:List PV} (h:∀p∈es,p.ids= []):es.map (PV.ren f g)=es:=by
 rw[←PV.renL_map];exact VI es (List.eq_nil_iff_forall_not_mem.2 fun i hi=>by obtain⟨c,hc,hic⟩:=PV.mem_idsL.1 hi;rw[h c hc]at hic;cases hic)
abbrev noV:MemL:=⟨[],[],[]⟩
theorem Zgp:noV.Ok:=⟨by simp,by simp,by simp,by simp,by simp,by simp⟩
theorem VZ {α:Type} {pv:α→PV} {l:List α} {k:Nat} {x:α}:(l.map pv).set k (pv x)=(l.set k x).map pv:=by rw[List.map_set]
theorem Yf {α:Type} {pv:α→PV} (h:∀a,(pv a).ids= []) (l:List α):∀p∈l.map pv,p.ids= []:=fun p hp=>by
 obtain⟨a,_,rfl⟩:=List.mem_map.1 hp;exact h a
theorem WO {α:Type} {pv:α→PV} (h:∀a,(pv a).ids= []) (l:List α):PV.idsL (l.map pv)= []:=
 List.eq_nil_iff_forall_not_mem.2 fun i hi=>by obtain⟨c,hc,hic⟩:=PV.mem_idsL.1 hi;rw[Yf h l c hc]at hic;cases hic
end
end Go.PL
namespace Go.PL.Srt
variable {α:Type}
structure Good (lt:α→α→Bool):Prop where
 asym:∀a b,lt a b=true→lt b a=false
 trans:∀a b c,lt a b=true→lt b c=true→lt a c=true
def Inc (lt:α→α→Bool) (l:List α):Prop:=l.Pairwise fun a b=>lt a b=true
variable {lt:α→α→Bool}
theorem Inc.take {l:List α} (h:Inc lt l) (k:Nat):Inc lt (l.take k):=List.Pairwise.sublist (List.take_sublist _ _) h
theorem Zf1 {l:List α} {i j:Nat} {x d:α} (h:i≠j):(l.set i x).getD j d=l.getD j d:=by
 simp[List.getD_eq_getElem?_getD,List.getElem?_set_ne h]
theorem Zf0 {l:List α} {i:Nat} {x d:α} (h:i<l.length):(l.set i x).getD i d=x:=by
 simp[List.getD_eq_getElem?_getD,List.getElem?_set_self h]
end Go.PL.Srt
namespace Go.PL
open Go.RowKit
section
variable {P:Program} {B:Frm} {S:Stable} {M:Maps} {s s' s'':St} {a:Act} {w:World} {Q:Exit→St→Prop}
def Gh (s s'':St):Prop:=∀B S M a w,Sim B S M s a w→ ∃S' M',Sim B S' M' s'' a w∧Ext B S S' w w
theorem Gh.refl (s:St):Gh s s:=fun B S M a w hs=>⟨S,M,hs,Ext.refl _ _ _⟩
theorem Gh.trans (h:Gh s s') (h':Gh s' s''):Gh s s'':=fun B S M a w hs=>by
 obtain⟨S1,M1,h1,h2⟩:=h B S M a w hs;obtain⟨S2,M2,h3,h4⟩:=h' B S1 M1 a w h1;exact⟨S2,M2,h3,h2.trans h4⟩
theorem Gh.weak (hw:Weak s' s) (hr:Refs s'):Gh s s':=fun B S M a w hs=>⟨S,M,hs.weak hw hr,Ext.refl _ _ _⟩
theorem ZfD {c:Code} (g:Gh s s'') (h:awp P c Q s''):awp P c Q s:=fun B S M a w hs=>by
 obtain⟨S',M',h1,h2⟩:=g B S M a w hs;exact wp_mono (h B S' M' a w h1) fun e a' w' ⟨s',S2,M2,k1,k2,k3⟩=>⟨s',S2,M2,k1,k2,h2.trans k3⟩
theorem Zcg {c:Code} {ι:Type} (I:ι→St) (μ:ι→Nat) (i0:ι) (h0:Gh s (I i0))
  (round:∀i,awp P c (Y0 (fun s'=>∃j,μ j<μ i∧Gh s' (I j)) Q) (I i)):awp P (.loop c) Q s:=ZfD h0 fun B S M a w hs=>by
 have key:∀(k:Nat) (i:ι),μ i<k→ ∀S1 M1 a1 w1,Sim B S1 M1 (I i) a1 w1→Ext B S S1 w w1→
   Code.rounds P c (fun e a' w'=>∃s' S' M',Q e s'∧Sim B S' M' s' a' w'∧Ext B S S' w w') k a1 w1:=by
  intro k
  induction k with
  |zero=>intro i hi;omega
  |succ k ih=>
   intro i hi S1 M1 a1 w1 hs1 he1;rw[rounds_succ];refine wp_mono (round i B S1 M1 a1 w1 hs1) fun e a' w' hq=> ?_
   obtain⟨s',S',M',h1,h2,h3⟩:=hq;cases e with
   |normal=>
    obtain⟨j,hj,hg⟩:=h1;obtain⟨S2,M2,k1,k2⟩:=hg B S' M' a' w' h2;exact ih j (by omega) S2 M2 a' w' k1 ((he1.trans h3).trans k2)
   |_=>exact⟨s',S',M',h1,h2,he1.trans h3⟩
 exact wp_loop_rounds (μ i0+1) (key _ i0 (Nat.lt_succ_self _) S M a w hs (Ext.refl _ _ _))
def Zk9 {ι:Type} (I:ι→St) (μ:ι→Nat) (i:ι) (s':St):Prop:=∃j,μ j<μ i∧Gh s' (I j)
theorem Zju {c:Code} {ι:Type} (I:ι→St) (μ:ι→Nat) (i0:ι) (h0:Gh s (I i0)) (round:∀i,@vC P ⟨c⟩ ⟨Y0 (Zk9 I μ i) Q⟩ (I i)):awp P (.loop c) Q s:=
 Zcg I μ i0 h0 fun i=>Ys _ _ _ (round i)
end
attribute [go_sem] Zk9
open Go.RowKit
section
variable {P:Program}
abbrev D0 (i n sz:Nat) (e:TypeId) (es:List PV):MemL:=⟨[],[(i,.vec n sz e)],[(i,es)]⟩
theorem ZkP {i n sz:Nat} {e:TypeId} {es:List PV} (h:∀p∈es,p.ids= []):(D0 i n sz e es).Ok:=
 ⟨by simp,by simp,by simp,by simp,by simp,fun x hx c hc i hi=>by simp only[List.mem_singleton]at hx;subst hx;rw[h c hc]at hi;cases hi⟩
theorem Zmo {i n sz:Nat} {e:TypeId} {es:List PV}:(D0 i n sz e es).hp.v i=some es:=by simp[MemL.hp,WX,V2,upd]
theorem ZdF {i n sz:Nat} {e:TypeId} {es':List PV} {m:Hp} {d:Nat} (hc:∀p∈es',p.ids= []):DI (D0 i n sz e es') (fun _=>d) id m= { m.setq d (.vec n sz e)with v:=upd m.v d (some es') }:=by
 unfold DI;simp only[List.map_nil,V2,List.map_cons,WX,Zmo,Option.map_some,Tu hc];rfl
theorem U1 {M:KH} {g:FuncId} {args args0:List PV} {K:KR} {i n sz:Nat} {e:TypeId} {es:List PV} {r:PV} (d:Nat) (h1:Eff P g args0 noV r (D0 i n sz e es)) (hes:∀p∈es,p.ids= []) (ha:∀p∈args0,p.ids= [])
  (hd:M.m.q d=none) (he:PV.giveL M.m args=args0) (h2:K.k (r.ren (fun _=>d) id) { M.m.setq d (.vec n sz e)with v:=upd M.m.v d (some es) }):@T9 P true M (some (g,args)) K:=by
 refine ZbT (fun _=>d) id h1 ⟨by simp,by simp,by simp,by simp,fun x hx=> ?_,by simp,fun x hx y hy _=> ?_⟩ (by rw[Tu ha];exact he) ?_
 ·simp only[List.mem_singleton]at hx;subst hx;exact .inr hd
 ·simp only[List.mem_singleton]at hx hy;subst hx hy;rfl
 ·rw[ZdF hes];exact h2
theorem Eff.vn (vm:List Nat) {f:FuncId} {fn:Func} {c:Code} {args:List PV} {r:PV} {i n k sz:Nat} {e:TypeId} {es':List PV} {rs:List ResultVar} (hf:P.funcs[f]? = some fn) (hname:fn.name≠ "runtime.NumGoroutine") (hb:fn.body=some c) (hn:fn.ntmps=n) (hrs:fn.results=rs.toArray) (hl:args.length≤n)
  (hes':∀p∈es',p.ids= []) (ha:∀p∈args,p.ids= []) (hr:∀j∈r.ids,j= .r i)
  (h:@vC P ⟨c⟩ ⟨F8 P rs r noV (D0 i k sz e es') (fun _=>0) (fun _=>none)⟩ ((St.init args n).vms vm)):Eff P f args noV r (D0 i k sz e es'):=
 Eff.of_v vm hf hname hb hn hrs hl Zgp (ZkP hes') (fun p hp i hi=>by rw[ha p hp]at hi;cases hi) (fun j hj=>by rw[hr j hj];exact⟨_,List.mem_singleton.2 rfl,rfl⟩) (by simp) (by simp) fun ph pq=>by
  have h3:F8 P rs r noV (D0 i k sz e es') ph pq=F8 P rs r noV (D0 i k sz e es') (fun _=>0) (fun _=>none):=by
   have h4:∀s,ERet P rs r noV (D0 i k sz e es') ph pq s=ERet P rs r noV (D0 i k sz e es') (fun _=>0) (fun _=>none) s:=fun s=>propext ⟨fun h=>⟨h.r,h.h,h.q,h.v,by simp,by simp⟩,fun h=>⟨h.r,h.h,h.q,h.v,by simp,by simp⟩⟩
   funext e s;cases e<;>first|exact h4 s|rfl
  rw[h3];exact h
theorem Sx {s:St} {rs:List ResultVar} {r r0:PV} {i k sz:Nat} {e:TypeId} {es':List PV} (hc:∀p∈es',p.ids= []) (hr:YS P r0 s [] rs) (hp:Pub (D0 i k sz e es').has s.m r0 r) (hq:s.m.q i=some (.vec k sz e)) (hv:s.m.v i=some es'):
  ERet P rs r noV (D0 i k sz e es') (fun _=>0) (fun _=>none) s:=
 ⟨⟨r0,hr,hp⟩,by simp,fun x hx=>by simp only[List.mem_singleton]at hx;subst hx;exact hq,fun x hx=>by
  simp only[List.mem_singleton]at hx;subst hx;exact⟨es',hv,rfl,fun i hi=> .clean (hc _ (Ze hi))⟩,by simp,by simp⟩
theorem SA {s:St} {n d k sz:Nat} {e:TypeId} {L:List (Nat×PV)} {es:List PV} (h0:s.n=n) (hL:∀x∈L,s.fr x.1=x.2) (hq:s.m.q d=some (.vec k sz e)) (hv:s.m.v d=some es):HasX n L [] [(d,.vec k sz e)] [] [] [(d,es)] [] [] [] s:=
 ⟨⟨h0,hL,by simp,by simp[hq]⟩,by simp,by simp,by simp[hv],by simp,by simp,by simp⟩
theorem DF {L:List (Nat×PV)} {d n sz:Nat} {e:TypeId} {es:List PV} (hL:∀x∈L,x.2.ids.all (ZV [] [(d,.vec n sz e)])=true) (he:PV.idsL es= []):WholeX L [] [(d,.vec n sz e)] [(d,es)] [] [] []:=
 ⟨⟨hL,by simp⟩,by simp[he],by simp,by simp,by simp,by simp⟩
end
open Go.RowKit
section
variable {P:Program}
abbrev rowN (i n sz:Nat) (e:TypeId):MemL:=⟨[],[(i,.live n sz e)],[]⟩
theorem Zkf {i n sz:Nat} {e:TypeId}:(rowN i n sz e).Ok:=
 ⟨by simp,by simp,by simp,by simp,by simp,fun x hx=>by simp at hx⟩
theorem Zir {i n sz:Nat} {e:TypeId} {m:Hp} {d:Nat}:DI (rowN i n sz e) (fun _=>d) id m= { m.setq d (.live n sz e)with v:=upd m.v d none }:=by
 unfold DI;simp only[List.map_nil,V2,List.map_cons,WX];rfl
theorem Zi1 {M:KH} {g:FuncId} {args args0:List PV} {K:KR} {i n sz:Nat} {e:TypeId} {r:PV} (d:Nat) (h1:Eff P g args0 noV r (rowN i n sz e)) (ha:∀p∈args0,p.ids= [])
  (hd:M.m.q d=none) (he:PV.giveL M.m args=args0) (h2:K.k (r.ren (fun _=>d) id) { M.m.setq d (.live n sz e)with v:=upd M.m.v d none }):@T9 P true M (some (g,args)) K:=by
 refine ZbT (fun _=>d) id h1 ⟨by simp,by simp,by simp,by simp,fun x hx=> ?_,by simp,fun x hx y hy _=> ?_⟩ (by rw[Tu ha];exact he) ?_
 ·simp only[List.mem_singleton]at hx;subst hx;exact .inr hd
 ·simp only[List.mem_singleton]at hx hy;subst hx hy;rfl
 ·rw[Zir];exact h2
theorem Eff.rn (vm:List Nat) {f:FuncId} {fn:Func} {c:Code} {args:List PV} {r:PV} {i n k sz:Nat} {e:TypeId} {rs:List ResultVar} (hf:P.funcs[f]? = some fn) (hname:fn.name≠ "runtime.NumGoroutine") (hb:fn.body=some c) (hn:fn.ntmps=n) (hrs:fn.results=rs.toArray) (hl:args.length≤n)
  (ha:∀p∈args,p.ids= []) (hr:∀j∈r.ids,j= .r i)
  (h:@vC P ⟨c⟩ ⟨F8 P rs r noV (rowN i k sz e) (fun _=>0) (fun _=>none)⟩ ((St.init args n).vms vm)):Eff P f args noV r (rowN i k sz e):=
 Eff.of_v vm hf hname hb hn hrs hl Zgp Zkf (fun p hp i hi=>by rw[ha p hp]at hi;cases hi) (fun j hj=>by rw[hr j hj];exact⟨_,List.mem_singleton.2 rfl,rfl⟩) (by simp) (by simp) fun ph pq=>by
  have h3:F8 P rs r noV (rowN i k sz e) ph pq=F8 P rs r noV (rowN i k sz e) (fun _=>0) (fun _=>none):=by
   have h4:∀s,ERet P rs r noV (rowN i k sz e) ph pq s=ERet P rs r noV (rowN i k sz e) (fun _=>0) (fun _=>none) s:=fun s=>propext ⟨fun h=>⟨h.r,h.h,h.q,h.v,by simp,by simp⟩,fun h=>⟨h.r,h.h,h.q,h.v,by simp,by simp⟩⟩
   funext e s;cases e<;>first|exact h4 s|rfl
  rw[h3];exact h
theorem ZjR {s:St} {rs:List ResultVar} {r r0:PV} {i k sz:Nat} {e:TypeId} (hr:YS P r0 s [] rs) (hp:Pub (rowN i k sz e).has s.m r0 r) (hq:s.m.q i=some (.live k sz e)):
  ERet P rs r noV (rowN i k sz e) (fun _=>0) (fun _=>none) s:=
 ⟨⟨r0,hr,hp⟩,by simp,fun x hx=>by simp only[List.mem_singleton]at hx;subst hx;exact hq,by simp,by simp,by simp⟩
end
open Go.RowKit
section
variable {P:Program}
end
open Go.RowKit
open Go.RowKit
section
variable {P:Program} {B:Frm} {S:Stable} {M:Maps} {s s' s'':St} {a:Act} {w:World} {Q:Exit→St→Prop}
theorem Sim.tellBlkU (hs:Sim B S M s a w) {i:Nat} {cs cs':List PV} (hi:s.m.h i=some cs) (hz:s.m.z i=false) (hl:cs'.length=cs.length)
  (hr:∀us t,w.heap[M.φ i]? = some (.cells ⟨us⟩ t (0,0))→ ∀j,j<cs.length→RepS S M s.m.q (us.getD j undef) (cs'.getD j .any)) (hc:∀c∈cs',∀k∈c.ids,Live s.m k):Sim B S M (s.with { s.m with h:=upd s.m.h i (some cs') }) a w:=by
 have hne:∀k,(upd s.m.h i (some cs') k=none)↔s.m.h k=none:=fun k=>by
  by_cases e:i=k
  ·subst e;rw[Za,hi];simp
  ·rw[Zc _ _ e]
 have live:∀k,Live s.m k→Live { s.m with h:=upd s.m.h i (some cs') } k:=fun k h=>by
  cases k with
  |b k=>exact fun e=>h ((hne k).1 e)
  |r k=>exact h
 have old:∀k cs2,upd s.m.h i (some cs') k=some cs2→ ∃cs3,s.m.h k=some cs3:=fun k cs2 h=>by
  cases e:s.m.h k with
  |none=>rw[(hne k).2 e]at h;cases h
  |some x=>exact⟨x,rfl⟩
 refine⟨hs.defers,hs.hn,hs.hB,hs.stable,hs.fr,fun j k hk=>live k (hs.ids j k hk),fun id cs2 hb=> ?_,hs.row,fun id id' c1 c2 h1 h2=> ?_,hs.injq,fun id id' c1 r h1=> ?_,fun b c hc=> ?_,fun id es he=> ?_,⟨fun id b hb=> ?_,hs.pn.q⟩,hs.hz⟩
 ·have hb:upd s.m.h i (some cs') id=some cs2:=hb;show Sg _ _ _ _ _ _ _ (s.m.z id)
  by_cases e:i=id
  ·subst e;rw[Za]at hb;cases hb;have hb':=hs.blk i cs hi;rw[hz]at hb' ⊢;obtain⟨g1,g2,⟨us,t,g3,g4,g5⟩,g6⟩:=hb';exact⟨g1,g2,⟨us,t,g3,by rw[g4,hl],fun j hj=>hr us t g3 j (by omega)⟩,fun c hc' k hk=>live k (hc c hc' k hk)⟩
  ·rw[Zc _ _ e]at hb;have hb':=hs.blk id cs2 hb;cases hz':s.m.z id with
   |false=>
    rw[hz']at hb';obtain⟨g1,g2,g3,g6⟩:=hb';exact⟨g1,g2,g3,fun c hc k hk=>live k (g6 c hc k hk)⟩
   |true=>rw[hz']at hb';exact hb'
 ·obtain⟨c3,e3⟩:=old _ _ h1;obtain⟨c4,e4⟩:=old _ _ h2;exact hs.inj _ _ _ _ e3 e4
 ·obtain⟨c3,e3⟩:=old _ _ h1;exact hs.injx _ _ _ _ e3
 ·obtain⟨g1,g2,g3,g4⟩:=hs.rm b c hc;exact⟨g1,g2,g3,g4.move (SLe.refl _) rfl (fun v p r _=>r) live⟩
 ·exact(hs.vc id es he).move (fun _ _ _ h=>h) rfl rfl (fun _=>rfl) (fun v p r _=>r) live
 ·obtain⟨g1,g2⟩:=hs.pn.h id b hb;exact⟨fun e=>g1 ((hne id).1 e),g2⟩
theorem Sim.tellBlk (hs:Sim B S M s a w) {i:Nat} {cs cs':List PV} (hi:s.m.h i=some cs) (hz:s.m.z i=false) (hl:cs'.length=cs.length)
  (hr:∀j v,j<cs.length→RepS S M s.m.q v (cs.getD j .any)→RepS S M s.m.q v (cs'.getD j .any)) (hc:∀c∈cs',∀k∈c.ids,Live s.m k):Sim B S M (s.with { s.m with h:=upd s.m.h i (some cs') }) a w:=
 hs.tellBlkU hi hz hl (fun us t g j hj=>by
  obtain⟨_,_,⟨us',t',g3,_,g5⟩,_⟩:=hs.own hi hz;rw[g]at g3;cases g3;exact hr j _ hj (g5 j hj)) hc
end
open Go.RowKit Srt
section
variable {P:Program} {sz:Nat} {e:TypeId} {L:List (List PV)} {i k:Nat} {es:List PV}
end
open Srt
section
variable {s:St}
end
open Go.RowKit
section
variable {P:Program}
end
open Go.RowKit
open Go.RowKit
section
variable {P:Program}
end
open Go.RowKit
open Go.RowKit
section
variable {P:Program}
end
open Go.RowKit
section
variable {P:Program} {ops:Array Oper}
def Zb3 (P:Program) (ops:Array Oper) (K:St→Prop) (fuel:Nat) (listed:Array Bool) (s:St):Prop:=
 ∀(B:Frm) (Qc:Exit→Act→World→Prop) (S0:Stable) (w0:World),(∀s' S' M' a' w',K s'→Sim B S' M' s' a' w'→Ext B S0 S' w0 w'→Qc .normal a' w')→ ∀S M a w,Sim B S M s a w→Ext B S0 S w0 w→wpAny P .any ops Qc fuel listed a w
theorem Zi5 {K:St→Prop} {listed:Array Bool} {s:St}:∀ {fuel:Nat},Region.ready .any ops listed= []→K s→Zb3 P ops K fuel listed s
 |0,hr,h=>fun B Qc S0 w0 hQ S M a w hs he=>⟨hr,hQ s S M a w h hs he⟩
 |fuel+1,hr,h=>fun B Qc S0 w0 hQ S M a w hs he=>⟨fun _=>hQ s S M a w h hs he,fun i hi=>by rw[hr]at hi;cases hi⟩
theorem Zhc {K K':St→Prop} {fuel:Nat} {listed:Array Bool} {s:St} (is:List Nat) (hr:Region.ready .any ops listed=is) (hne:is≠ [])
  (h:∀i∈is,∃o l K',ops[i]? = some o∧ZaB P ops K' (o::l) s∧ ∀s',ZaB P ops K' l s'→Zb3 P ops K fuel (listed.setIfInBounds i true) s'):Zb3 P ops K (fuel+1) listed s:=
 fun B Qc S0 w0 hQ S M a w hs he=>⟨fun h0=>absurd (hr.symm.trans h0) hne,fun i hi=>by
  rw[hr]at hi;obtain⟨o,l,K',ho,⟨hd,h⟩,hK⟩:=h i hi;unfold wpOp;simp only[ho];rcases h with ⟨hg,⟨v,m',hst,hrest⟩|hsp⟩|⟨hg,hrest⟩
  ·rw[Vi hs hg,if_pos rfl];exact .inl (YY hs (Z1 hd) hst _ _ fun u w' S' M' hs' he'=>hK _ hrest B Qc S0 w0 hQ S' M' _ w' hs' (he.trans he'))
  ·rw[Vi hs hg,if_pos rfl];exact .inl (VK hs (Z1 hd) hsp _ _ fun s' u w' S' M' hk hs' he'=>hK _ hk B Qc S0 w0 hQ S' M' _ w' hs' (he.trans he'))
  ·rw[Vi hs hg,if_neg (by simp)];exact hK _ hrest B Qc S0 w0 hQ S M _ w (Vc hs hd) he⟩
def Zdv (ops:Array Oper):List Nat→Array Bool→Bool
 | [],_=>true
 |i::L,listed=>(Region.ready .any ops listed== [i])&&Zdv ops L (listed.setIfInBounds i true)
def YV (listed:Array Bool) (L:List Nat):Array Bool:=L.foldl (fun a i=>a.setIfInBounds i true) listed
theorem ZdV {K:St→Prop} {fuel:Nat}:∀(L:List Nat) (l:List Oper) (listed:Array Bool) (s:St),Zdv ops L listed=true→L.map (fun i=>ops[i]?)=l.map some→ZaB P ops (Zb3 P ops K fuel (YV listed L)) l s→Zb3 P ops K (fuel+L.length) listed s
 | [],[],listed,s,_,_,h=>h
 | [],_::_,_,_,_,h,_=>by simp at h
 |_::_,[],_,_,_,h,_=>by simp at h
 |i::L,o::l,listed,s,hf,hm,h=>by
  simp only[Zdv,Bool.and_eq_true,beq_iff_eq]at hf;simp only[List.map_cons,List.cons.injEq]at hm;refine Zhc (K':=K) [i] hf.1 (by simp) fun j hj=> ?_
  rw[List.mem_singleton.1 hj];exact⟨o,l,_,hm.1,h,fun s' h'=>ZdV L l _ s' hf.2 hm.2 h'⟩
theorem ZfB {id:Nat} {Q:Exit→St→Prop} {s:St} (hm:P.follows .mixedOrders=true) (h:Zb3 P ops (Q .normal) ops.size (Array.replicate ops.size false) s):awp P (.region id ops true) Q s:=fun B S M a w hs=>by
 refine wp_region_any hm ?_;have he:Ext B S S w { w with drawn:=w.drawn+1 }:=⟨SLe.refl _,fun _ _=>⟨fun _=>rfl,rfl⟩,(BelowF.refl B w).drew⟩;have hs':Sim B S M s a { w with drawn:=w.drawn+1 }:=hs.world rfl;have:=h B (fun e a' w'=>∃s' S' M',Q e s'∧Sim B S' M' s' a' w'∧Ext B S S' w w') S w (fun s' S' M' a' w' h1 h2 h3=>⟨s',S',M',h1,h2,h3⟩) S M a _ hs' he;simpa using this
def ZiV (P:Program) (D:List Nat) [K:KS] [G:LST] (s:St):Prop:=Zb3 P G.l.toArray K.k (G.l.length-D.length) (YV (Array.replicate G.l.length false) D) s
end
end Go.PL
