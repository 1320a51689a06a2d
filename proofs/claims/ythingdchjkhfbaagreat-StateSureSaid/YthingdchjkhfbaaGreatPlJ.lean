/- A logic of values for functions that only read and build, over the model (part 10): no statement of the seat is proved here. -/
import Derived.Test.YthingdchjkhfbaaGreatPlI
set_option maxHeartbeats 64000000
set_option maxRecDepth 20000
set_option linter.unusedVariables false
set_option linter.unusedSimpArgs false
namespace Go.PL.Srt
variable {α:Type}
structure Good (lt:α→α→Bool):Prop where
 asym:∀a b,lt a b=true→lt b a=false
 trans:∀a b c,lt a b=true→lt b c=true→lt a c=true
def Inc (lt:α→α→Bool) (l:List α):Prop:=l.Pairwise fun a b=>lt a b=true
def Unl (lt:α→α→Bool) (l:List α):Prop:=l.Pairwise fun a b=>lt a b=true∨lt b a=true
def ins (lt:α→α→Bool) (x:α):List α→List α
 | []=> [x]
 |y::l=>if lt x y then x::y::l else y::ins lt x l
def srt (lt:α→α→Bool):List α→List α
 | []=> []
 |x::l=>ins lt x (srt lt l)
variable {lt:α→α→Bool}
theorem Zmf (x:α):∀l:List α,(ins lt x l).Perm (x::l)
 | []=> .refl _
 |y::l=>by
  unfold ins;split
  ·exact .refl _
  ·exact((Zmf x l).cons y).trans (.swap x y l)
theorem Za2:∀l:List α,(srt lt l).Perm l
 | []=> .refl _
 |x::l=>(Zmf x _).trans ((Za2 l).cons x)
theorem ZM (l:List α):(srt lt l).length=l.length:=(Za2 l).length_eq
theorem ZmE {l:List α} {x:α}:x∈srt lt l↔x∈l:=(Za2 l).mem_iff
theorem Unl.perm {l l':List α} (h:Unl lt l) (p:l.Perm l'):Unl lt l':=(p.pairwise_iff (fun h=>h.symm)).1 h
theorem ZtU (g:Good lt) (x:α):∀ {l:List α},Inc lt l→(∀y∈l,lt x y=true∨lt y x=true)→Inc lt (ins lt x l)
 | [],_,_=>List.pairwise_singleton _ _
 |y::l,h,hx=>by
  unfold ins;have hp:=List.pairwise_cons.1 h;split
  ·rename_i hxy;refine List.pairwise_cons.2 ⟨fun z hz=> ?_,h⟩;rcases List.mem_cons.1 hz with rfl|hz
   ·exact hxy
   ·exact g.trans _ _ _ hxy (hp.1 z hz)
  ·rename_i hxy;refine List.pairwise_cons.2 ⟨fun z hz=> ?_,ZtU g x hp.2 (fun z hz=>hx z (by simp[hz]))⟩;rcases List.mem_cons.1 ((Zmf x l).mem_iff.1 hz)with rfl|hz
   ·exact(hx y (by simp)).resolve_left hxy
   ·exact hp.1 z hz
theorem ZdV (g:Good lt):∀ {l:List α},Unl lt l→Inc lt (srt lt l)
 | [],_=>List.Pairwise.nil
 |x::l,h=>by
  have hp:=List.pairwise_cons.1 h;exact ZtU g x (ZdV g hp.2) fun y hy=>hp.1 y (ZmE.1 hy)
theorem Inc.uniq (g:Good lt):∀ {l l':List α},Inc lt l→Inc lt l'→l.Perm l'→l=l'
 | [],l',_,_,p=>(List.Perm.nil_eq p)
 |x::l,[],_,_,p=>by have:=p.length_eq;simp at this
 |x::l,y::l',h,h',p=>by
  have h1:=List.pairwise_cons.1 h;have h2:=List.pairwise_cons.1 h';have e:x=y:=by
   have hx:x∈y::l':=p.mem_iff.1 (by simp);have hy:y∈x::l:=p.mem_iff.2 (by simp);rcases List.mem_cons.1 hx with e|hx
   ·exact e
   ·rcases List.mem_cons.1 hy with e|hy
    ·exact e.symm
    ·have a:=h1.1 y hy;have b:=h2.1 x hx;rw[g.asym _ _ a]at b;cases b
  subst e;rw[Inc.uniq g h1.2 h2.2 p.cons_inv]
theorem Zrd (g:Good lt) {l r:List α} (h:Inc lt r) (p:r.Perm l):srt lt l=r:=
 (ZdV g (l:=l) (Unl.perm (h.imp fun h=> .inl h) p)).uniq g h ((Za2 l).trans p.symm)
theorem ZbZ (g:Good lt) {l:List α} (h:Inc lt l):srt lt l=l:=Zrd g h (.refl _)
theorem Zoq (g:Good lt) {l l':List α} (h:Unl lt l) (p:l.Perm l'):srt lt l=srt lt l':=Zrd g (ZdV g (h.perm p)) ((Za2 l').trans p.symm)
theorem Unl.append {l l':List α}:Unl lt (l++l')↔Unl lt l∧Unl lt l'∧ ∀a∈l,∀b∈l',lt a b=true∨lt b a=true:=List.pairwise_append
theorem Inc.append {l l':List α}:Inc lt (l++l')↔Inc lt l∧Inc lt l'∧ ∀a∈l,∀b∈l',lt a b=true:=List.pairwise_append
theorem Inc.take {l:List α} (h:Inc lt l) (k:Nat):Inc lt (l.take k):=List.Pairwise.sublist (List.take_sublist _ _) h
theorem Inc.drop {l:List α} (h:Inc lt l) (k:Nat):Inc lt (l.drop k):=List.Pairwise.sublist (List.drop_sublist _ _) h
theorem Zsz (g:Good lt) {l l':List α} (h:Unl lt (l++l')) (hlt:∀a∈l,∀b∈l',lt a b=true):srt lt (l++l')=srt lt l++srt lt l':=by
 obtain⟨h1,h2,_⟩:=Unl.append.1 h;exact Zrd g (Inc.append.2 ⟨ZdV g h1,ZdV g h2,fun a ha b hb=>hlt a (ZmE.1 ha) b (ZmE.1 hb)⟩) ((Za2 l).append (Za2 l'))
theorem Inc.lt_get (g:Good lt) {l:List α} (h:Inc lt l) {i j:Nat} (hi:i<j) (hj:j<l.length):lt (l[i]'(by omega)) l[j]=true:=List.pairwise_iff_getElem.1 h i j (by omega) hj hi
theorem ZwP (g:Good lt) {A B:List α} (hA:Inc lt A) (hB:Inc lt B) (hU:Unl lt (A++B)) (u v:Nat) (hu:u≤A.length) (hv:v≤B.length)
  (h1:∀(h0:0<u) (h1:v<B.length),lt (A[u-1]'(by omega)) B[v]=true) (h2:∀(h0:0<v) (h1:u<A.length),lt (B[v-1]'(by omega)) A[u]=true):
  srt lt (A++B)=srt lt (A.take u++B.take v)++srt lt (A.drop u++B.drop v):=by
 have p:(A++B).Perm ((A.take u++B.take v)++(A.drop u++B.drop v)):=by
  have e:A++B=A.take u++(A.drop u++(B.take v++B.drop v)):=by simp[←List.append_assoc]
  rw[e,List.append_assoc];refine List.Perm.append_left _ ?_;rw[←List.append_assoc,←List.append_assoc];exact(List.perm_append_comm).append_right _
 rw[Zoq g hU p];refine Zsz g (hU.perm p) fun a ha b hb=> ?_
 rcases List.mem_append.1 ha with ha|ha<;>rcases List.mem_append.1 hb with hb|hb<;>obtain⟨i,hi,rfl⟩:=List.getElem_of_mem ha<;>obtain⟨j,hj,rfl⟩:=List.getElem_of_mem hb
 ·simp only[List.length_take,List.length_drop]at hi hj;simp only[List.getElem_take,List.getElem_drop];exact hA.lt_get g (by omega) (by omega)
 ·simp only[List.length_take,List.length_drop]at hi hj;simp only[List.getElem_take,List.getElem_drop];have e1:=h1 (by omega) (by omega);have e2:lt A[i] B[v]=true:=by
   by_cases h:i=u-1
   ·subst h;exact e1
   ·exact g.trans _ _ _ (hA.lt_get g (by omega) (by omega)) e1
  by_cases h:j=0
  ·subst h;exact e2
  ·exact g.trans _ _ _ e2 (hB.lt_get g (by omega) (by omega))
 ·simp only[List.length_take,List.length_drop]at hi hj;simp only[List.getElem_take,List.getElem_drop];have e1:=h2 (by omega) (by omega);have e2:lt B[i] A[u]=true:=by
   by_cases h:i=v-1
   ·subst h;exact e1
   ·exact g.trans _ _ _ (hB.lt_get g (by omega) (by omega)) e1
  by_cases h:j=0
  ·subst h;exact e2
  ·exact g.trans _ _ _ e2 (hA.lt_get g (by omega) (by omega))
 ·simp only[List.length_take,List.length_drop]at hi hj;simp only[List.getElem_take,List.getElem_drop];exact hB.lt_get g (by omega) (by omega)
theorem ZpY (g:Good lt) {P Q:List α} {x:α} (h:Inc lt (P++Q)) (h1:∀p∈P,lt p x=true) (h2:∀q∈Q,lt x q=true) {L:List α} (hp:(P++x::Q).Perm L):srt lt L=P++x::Q:=by
 obtain⟨i1,i2,i3⟩:=Inc.append.1 h;refine Zrd g (Inc.append.2 ⟨i1,List.pairwise_cons.2 ⟨h2,i2⟩,fun a ha b hb=> ?_⟩) hp;rcases List.mem_cons.1 hb with rfl|hb
 ·exact h1 a ha
 ·exact i3 a ha b hb
theorem ZgL {l:List α} {i j:Nat} {x d:α} (h:i≠j):(l.set i x).getD j d=l.getD j d:=by
 simp[List.getD_eq_getElem?_getD,List.getElem?_set_ne h]
def swap [Inhabited α] (l:List α) (i j:Nat):List α:=(l.set i (l.getD j default)).set j (l.getD i default)
theorem ZaQ [Inhabited α] (X Y:List α) (a:α) {k:Nat} (h:k=X.length):(X++a::Y).getD k default=a:=by subst h;simp
theorem ZxC (X Y:List α) (a b:α) {k:Nat} (h:k=X.length):(X++a::Y).set k b=X++b::Y:=by subst h;simp
theorem ZmG [Inhabited α] (X M Y:List α) (a b:α) {i j:Nat} (hi:i=X.length) (hj:j=X.length+1+M.length):swap (X++a::(M++b::Y)) i j=X++b::(M++a::Y):=by
 unfold swap
 rw[ZaQ X _ a hi];have e:X++a::(M++b::Y)=(X++a::M)++b::Y:=by simp
 have e1:(X++a::(M++b::Y)).getD j default=b:=by rw[e];exact ZaQ _ _ _ (by simp;omega)
 rw[e1,ZxC X _ a b hi];have e2:X++b::(M++b::Y)=(X++b::M)++b::Y:=by simp
 rw[e2,ZxC _ _ b a (by simp;omega)];simp
theorem Zox [Inhabited α] (l:List α) (i j:Nat) (hi:i<l.length) (hj:j<l.length):swap l i j=swap l j i:=by
 unfold swap
 by_cases h:i=j
 ·subst h;rfl
 ·rw[List.set_comm _ _ h]
end Go.PL.Srt
namespace Go.PL
open Go.RowKit
section
variable {P:Program} {B:Frm} {S:Stable} {M:Maps} {s s' s'':St} {a:Act} {w:World} {Q:Exit→St→Prop}
def Gh (s s'':St):Prop:=∀B S M a w,Sim B S M s a w→ ∃S' M',Sim B S' M' s'' a w∧Ext B S S' w w
theorem Gh.refl (s:St):Gh s s:=fun B S M a w hs=>⟨S,M,hs,Ext.refl _ _ _⟩
theorem Gh.trans (h:Gh s s') (h':Gh s' s''):Gh s s'':=fun B S M a w hs=>by
 obtain⟨S1,M1,h1,h2⟩:=h B S M a w hs;obtain⟨S2,M2,h3,h4⟩:=h' B S1 M1 a w h1;exact⟨S2,M2,h3,h2.trans h4⟩
theorem Gh.weak (hw:Weak s' s) (hr:Refs s'):Gh s s':=fun B S M a w hs=>⟨S,M,hs.weak hw hr,Ext.refl _ _ _⟩
theorem Zxi {c:Code} (g:Gh s s'') (h:awp P c Q s''):awp P c Q s:=fun B S M a w hs=>by
 obtain⟨S',M',h1,h2⟩:=g B S M a w hs;exact wp_mono (h B S' M' a w h1) fun e a' w' ⟨s',S2,M2,k1,k2,k3⟩=>⟨s',S2,M2,k1,k2,h2.trans k3⟩
theorem Zo6 {c:Code} {ι:Type} (I:ι→St) (μ:ι→Nat) (i0:ι) (h0:Gh s (I i0))
  (round:∀i,awp P c (ZcU (fun s'=>∃j,μ j<μ i∧Gh s' (I j)) Q) (I i)):awp P (.loop c) Q s:=Zxi h0 fun B S M a w hs=>by
 have key:∀(k:Nat) (i:ι),μ i<k→ ∀S1 M1 a1 w1,Sim B S1 M1 (I i) a1 w1→Ext B S S1 w w1→
   Code.rounds P c (fun e a' w'=>∃s' S' M',Q e s'∧Sim B S' M' s' a' w'∧Ext B S S' w w') k a1 w1:=by
  intro k
  induction k with
  |zero=>intro i hi;omega
  |succ k ih=>
   intro i hi S1 M1 a1 w1 hs1 he1;rw[rounds_succ];refine wp_mono (round i B S1 M1 a1 w1 hs1) fun e a' w' hq=> ?_
   obtain⟨s',S',M',h1,h2,h3⟩:=hq;cases e with
   |normal=>
    obtain⟨j,hj,hg⟩:=h1;obtain⟨S2,M2,k1,k2⟩:=hg B S' M' a' w' h2;exact ih j (by omega) S2 M2 a' w' k1 ((he1.trans h3).trans k2)
   |_=>exact⟨s',S',M',h1,h2,he1.trans h3⟩
 exact wp_loop_rounds (μ i0+1) (key _ i0 (Nat.lt_succ_self _) S M a w hs (Ext.refl _ _ _))
def Zzr {ι:Type} (I:ι→St) (μ:ι→Nat) (i:ι) (s':St):Prop:=∃j,μ j<μ i∧Gh s' (I j)
theorem Gh.oToOm {b:Nat} {c:MapC} (hb:s.m.o b=some c):Gh s (s.with { s.m with o:=upd s.m.o b none,om:=upd s.m.om b (some c) }):=fun B S M a w hs=>⟨S,M,hs.oToOm hb,Ext.refl _ _ _⟩
theorem Gh.omToO {b:Nat} {c:MapC} (hb:s.m.om b=some c) (hc:∀p∈c.vs,p.clean=true):Gh s (s.with { s.m with o:=upd s.m.o b (some ⟨c.ks,c.vs.map PV.share⟩),om:=upd s.m.om b none }):=fun B S M a w hs=>⟨S,M,hs.omToO hb hc,Ext.refl _ _ _⟩
theorem Gh.moveRow {b j k d n sz:Nat} {e:TypeId} {c:MapC} {es:List PV} (hb:s.m.om b=some c) (hk:s.m.q k=some (.live n sz e)) (hd:s.m.q d=none) (hj:j<c.vs.length) (hv:c.vs.getD j .any= .sl (.row k) es):
  Gh s (s.with { (s.m.setq k .dead).setq d (.live n sz e)with om:=upd s.m.om b (some ⟨c.ks,c.vs.set j (.sl (.row d) es)⟩) }):=fun B S M a w hs=>by
 have h1:=hs.moveRow hk hd;obtain⟨o1,o2,o3,⟨es',e1,e2,e3,e4,e5,e6⟩,lv⟩:=hs.rm b c hb;have h6:=e6 j (by omega);rw[hv]at h6;obtain⟨p1,p2,p3,⟨es2,f1,f2,f3,f4,f5,f6⟩,lv2⟩:=h1.rm b c hb;have hes:es2=es':=by rw[e1]at f1;cases f1;rfl
 subst hes;have hlive:∀i,ZS s.m i→ZS ((s.m.setq k .dead).setq d (.live n sz e)) i:=fun i h=>by
  cases i with
  |b i=>exact h
  |r i=>
   show upd (upd s.m.q k _) d _ i≠none
   by_cases e1:d=i
   ·subst e1;rw[Zb];simp
   ·rw[Zm _ _ e1]
    by_cases e2:k=i
    ·subst e2;rw[Zb];simp
    ·rw[Zm _ _ e2];exact h
 have h2:=h1.reOm (om':=upd s.m.om b (some ⟨c.ks,c.vs.set j (.sl (.row d) es)⟩)) (fun b2 c2 hc2=>by
  by_cases eb:b=b2
  ·subst eb;rw[Zb]at hc2;cases hc2;refine⟨o1,o2,o3,⟨es2,e1,e2,by simpa using e3,e4,e5,fun i hi=> ?_⟩,fun p hp i hi=> ?_⟩
   ·have hi:i<c.ks.length:=hi
    by_cases ej:j=i
    ·subst ej;rw[getD_lt (l:=c.vs.set j (PV.sl (.row d) es)) (by rw[List.length_set];omega),List.getElem_set_self];have hx:∀v:Value,RepS S M s.m.q v (.sl (.row k) es)→RepS S { M with ψ:=upd M.ψ d (M.ψ k),κ:=upd M.κ d (M.κ k) } ((s.m.setq k .dead).setq d (.live n sz e)).q v (.sl (.row d) es):=fun v hr=>by
      have hc:Rep S v (.sl .no es):=hr.share (by simp[PV.clean]);refine .row d v es hc fun n' sz' e' hq=> ?_
      have hq':upd (upd s.m.q k (some .dead)) d (some (.live n sz e)) d=some (.live n' sz' e'):=hq;rw[Zb]at hq';cases hq';simp only[Zb];cases hr with
      |clean r=>cases r
      |row _ _ _ _ t=>exact t n sz e hk
     exact hx _ h6
    ·have:=f6 i hi;rw[getD_lt (l:=c.vs.set j (PV.sl (.row d) es)) (by rw[List.length_set];omega),List.getElem_set_ne ej];rwa[getD_lt (l:=c.vs) (by omega)]at this
   ·rcases List.mem_or_eq_of_mem_set hp with hp|rfl
    ·exact hlive i (lv p hp i hi)
    ·simp only[PV.ids,List.mem_singleton]at hi;subst hi;show upd (upd s.m.q k _) d _ d≠none;rw[Zb];simp
  ·rw[Zm _ _ eb]at hc2;exact h1.rm b2 c2 hc2)
 exact⟨S,_,h2,Ext.refl _ _ _⟩
end
attribute [go_sem] Zzr
open Go.RowKit
section
variable {P:Program}
abbrev ZsR (i n sz:Nat) (e:TypeId) (es:List PV):MemL:=⟨[],[(i,.vec n sz e)],[(i,es)]⟩
theorem ZyY {i n sz:Nat} {e:TypeId} {es:List PV} (h:∀p∈es,p.ids= []):(ZsR i n sz e es).Ok:=
 ⟨by simp,by simp,by simp,by simp,by simp,fun x hx c hc i hi=>by simp only[List.mem_singleton]at hx;subst hx;rw[h c hc]at hi;cases hi⟩
theorem ZA4 {i n sz:Nat} {e:TypeId} {es:List PV}:(ZsR i n sz e es).hp.v i=some es:=by simp[MemL.hp,ZcL,ZdR,upd]
theorem Zwb {i n sz:Nat} {e:TypeId} {es':List PV} {m:Hp} {d:Nat} (hc:∀p∈es',p.ids= []):ZsX (ZsR i n sz e es') (fun _=>d) id m= { m.setq d (.vec n sz e)with v:=upd m.v d (some es') }:=by
 unfold ZsX;simp only[List.map_nil,ZdR,List.map_cons,ZcL,ZA4,Option.map_some,ZjA hc];rfl
theorem Zro {M:KH} {g:FuncId} {args args0:List PV} {K:KR} {i n sz:Nat} {e:TypeId} {es:List PV} {r:PV} (d:Nat) (h1:Eff P g args0 noV r (ZsR i n sz e es)) (hes:∀p∈es,p.ids= []) (ha:∀p∈args0,p.ids= [])
  (hd:M.m.q d=none) (he:PV.giveL M.m args=args0) (h2:K.k (r.ren (fun _=>d) id) { M.m.setq d (.vec n sz e)with v:=upd M.m.v d (some es) }):@Zkp P true M (some (g,args)) K:=by
 refine Zj3 (fun _=>d) id h1 ⟨by simp,by simp,by simp,by simp,fun x hx=> ?_,by simp,fun x hx y hy _=> ?_⟩ (by rw[ZjA ha];exact he) ?_
 ·simp only[List.mem_singleton]at hx;subst hx;exact .inr hd
 ·simp only[List.mem_singleton]at hx hy;subst hx hy;rfl
 ·rw[Zwb hes];exact h2
theorem Eff.vn (vm:List Nat) {f:FuncId} {fn:Func} {c:Code} {args:List PV} {r:PV} {i n k sz:Nat} {e:TypeId} {es':List PV} {rs:List ResultVar} (hf:P.funcs[f]? = some fn) (hname:fn.name≠ "runtime.NumGoroutine") (hb:fn.body=some c) (hn:fn.ntmps=n) (hrs:fn.results=rs.toArray) (hl:args.length≤n)
  (hes':∀p∈es',p.ids= []) (ha:∀p∈args,p.ids= []) (hr:∀j∈r.ids,j= .r i)
  (h:@vC P ⟨c⟩ ⟨Zl7 P rs r noV (ZsR i k sz e es') (fun _=>0) (fun _=>none)⟩ ((St.init args n).vms vm)):Eff P f args noV r (ZsR i k sz e es'):=
 Eff.of_v vm hf hname hb hn hrs hl ZzK (ZyY hes') (fun p hp i hi=>by rw[ha p hp]at hi;cases hi) (fun j hj=>by rw[hr j hj];exact⟨_,List.mem_singleton.2 rfl,rfl⟩) (by simp) (by simp) fun ph pq=>by
  have h3:Zl7 P rs r noV (ZsR i k sz e es') ph pq=Zl7 P rs r noV (ZsR i k sz e es') (fun _=>0) (fun _=>none):=by
   have h4:∀s,ERet P rs r noV (ZsR i k sz e es') ph pq s=ERet P rs r noV (ZsR i k sz e es') (fun _=>0) (fun _=>none) s:=fun s=>propext ⟨fun h=>⟨h.r,h.h,h.q,h.v,by simp,by simp⟩,fun h=>⟨h.r,h.h,h.q,h.v,by simp,by simp⟩⟩
   funext e s;cases e<;>first|exact h4 s|rfl
  rw[h3];exact h
theorem ZxX {s:St} {rs:List ResultVar} {r r0:PV} {i k sz:Nat} {e:TypeId} {es':List PV} (hc:∀p∈es',p.ids= []) (hr:Zhf P r0 s [] rs) (hp:Pub (ZsR i k sz e es').has s.m r0 r) (hq:s.m.q i=some (.vec k sz e)) (hv:s.m.v i=some es'):
  ERet P rs r noV (ZsR i k sz e es') (fun _=>0) (fun _=>none) s:=
 ⟨⟨r0,hr,hp⟩,by simp,fun x hx=>by simp only[List.mem_singleton]at hx;subst hx;exact hq,fun x hx=>by
  simp only[List.mem_singleton]at hx;subst hx;exact⟨es',hv,rfl,fun i hi=> .clean (hc _ (Zg hi))⟩,by simp,by simp⟩
theorem Zk8 {s:St} {n r b:Nat} {L:List (Nat×PV)} {row:Row} {c:MapC} (h0:s.n=n) (hL:∀x∈L,s.fr x.1=x.2) (hq:s.m.q r=some row) (ho:s.m.o b=some c):HasX n L [] [(r,row)] [(b,c)] [] [] [] [] [] s:=
 ⟨⟨h0,hL,by simp,by simp[hq]⟩,by simp[ho],by simp,by simp,by simp,by simp,by simp⟩
theorem Zru {L:List (Nat×PV)} {r:Nat} {row:Row} (hL:∀x∈L,x.2.ids.all (ZV [] [(r,row)])=true):WholeX L [] [(r,row)] [] [] [] []:=
 ⟨⟨hL,by simp⟩,by simp,by simp,by simp,by simp,by simp⟩
theorem Zmc {s:St} {n d r b k sz:Nat} {e:TypeId} {L:List (Nat×PV)} {row:Row} {es:List PV} {c:MapC} (h0:s.n=n) (hL:∀x∈L,s.fr x.1=x.2) (hq:s.m.q d=some (.vec k sz e)) (hr:s.m.q r=some row) (hv:s.m.v d=some es) (ho:s.m.o b=some c):HasX n L [] [(d,.vec k sz e),(r,row)] [(b,c)] [] [(d,es)] [] [] [] s:=
 ⟨⟨h0,hL,by simp,by simp[hq,hr]⟩,by simp[ho],by simp,by simp[hv],by simp,by simp,by simp⟩
theorem Zvj {L:List (Nat×PV)} {d r n sz:Nat} {e:TypeId} {row:Row} {es:List PV} (hL:∀x∈L,x.2.ids.all (ZV [] [(d,.vec n sz e),(r,row)])=true) (he:PV.idsL es= []):WholeX L [] [(d,.vec n sz e),(r,row)] [(d,es)] [] [] []:=
 ⟨⟨hL,by simp⟩,by simp[he],by simp,by simp,by simp,by simp⟩
end
open Go.RowKit
section
variable {P:Program}
end
open Go.RowKit
section
variable {P:Program} {B:Frm} {S:Stable} {M:Maps} {s s' s'':St} {a:Act} {w:World} {Q:Exit→St→Prop}
theorem Sim.tellBlk (hs:Sim B S M s a w) {i:Nat} {cs cs':List PV} (hi:s.m.h i=some cs) (hz:s.m.z i=false) (hl:cs'.length=cs.length)
  (hr:∀j v,j<cs.length→RepS S M s.m.q v (cs.getD j .any)→RepS S M s.m.q v (cs'.getD j .any)) (hc:∀c∈cs',∀k∈c.ids,ZS s.m k):Sim B S M (s.with { s.m with h:=upd s.m.h i (some cs') }) a w:=by
 have hne:∀k,(upd s.m.h i (some cs') k=none)↔s.m.h k=none:=fun k=>by
  by_cases e:i=k
  ·subst e;rw[Zb,hi];simp
  ·rw[Zm _ _ e]
 have live:∀k,ZS s.m k→ZS { s.m with h:=upd s.m.h i (some cs') } k:=fun k h=>by
  cases k with
  |b k=>exact fun e=>h ((hne k).1 e)
  |r k=>exact h
 have old:∀k cs2,upd s.m.h i (some cs') k=some cs2→ ∃cs3,s.m.h k=some cs3:=fun k cs2 h=>by
  cases e:s.m.h k with
  |none=>rw[(hne k).2 e]at h;cases h
  |some x=>exact⟨x,rfl⟩
 refine⟨hs.defers,hs.hn,hs.hB,hs.stable,hs.fr,fun j k hk=>live k (hs.ids j k hk),fun id cs2 hb=> ?_,hs.row,fun id id' c1 c2 h1 h2=> ?_,hs.injq,fun id id' c1 r h1=> ?_,fun b c hc=> ?_,fun id es he=> ?_,⟨fun id b hb=> ?_,hs.pn.q⟩⟩
 ·have hb:upd s.m.h i (some cs') id=some cs2:=hb;show Zhm _ _ _ _ _ _ _ (s.m.z id)
  by_cases e:i=id
  ·subst e;rw[Zb]at hb;cases hb;have hb':=hs.blk i cs hi;rw[hz]at hb' ⊢;obtain⟨g1,g2,⟨us,t,g3,g4,g5⟩,g6⟩:=hb';exact⟨g1,g2,⟨us,t,g3,by rw[g4,hl],fun j hj=>hr j _ (by omega) (g5 j (by omega))⟩,fun c hc' k hk=>live k (hc c hc' k hk)⟩
  ·rw[Zm _ _ e]at hb;have hb':=hs.blk id cs2 hb;cases hz':s.m.z id with
   |false=>
    rw[hz']at hb';obtain⟨g1,g2,g3,g6⟩:=hb';exact⟨g1,g2,g3,fun c hc k hk=>live k (g6 c hc k hk)⟩
   |true=>rw[hz']at hb';exact hb'
 ·obtain⟨c3,e3⟩:=old _ _ h1;obtain⟨c4,e4⟩:=old _ _ h2;exact hs.inj _ _ _ _ e3 e4
 ·obtain⟨c3,e3⟩:=old _ _ h1;exact hs.injx _ _ _ _ e3
 ·obtain⟨g1,g2,g3,g4⟩:=hs.rm b c hc;exact⟨g1,g2,g3,g4.move (SLe.refl _) rfl (fun v p r _=>r) live⟩
 ·exact(hs.vc id es he).move (fun _ _ _ h=>h) rfl rfl (fun _=>rfl) (fun v p r _=>r) live
 ·obtain⟨g1,g2⟩:=hs.pn.h id b hb;exact⟨fun e=>g1 ((hne id).1 e),g2⟩
theorem Gh.pubMap {b i:Nat} {c:MapC} (hb:s.m.o b=some c) (hi:s.m.h i=some [.mref b]) (hz:s.m.z i=false):Gh s (s.with { s.m with o:=upd s.m.o b none,h:=upd s.m.h i (some [.rmap c.ks c.vs]) }):=fun B S M a w hs=>by
 obtain⟨o1,o2,es,e1,e2,e3,e4,e5,e6⟩:=hs.stable.o b c hb;have hnc:∀vs t f,w.heap[b]? ≠ some (.cells vs t f):=fun vs t f h=>by rw[e1]at h;cases h
 let S':Stable:=⟨S.c,upd S.m b (some es)⟩
 have hle:SLe S S':=⟨fun _ _ _ h=>h,fun k es' h=>by
  show upd S.m b (some es) k=some es'
  by_cases e:b=k
  ·subst e;rw[o2]at h;cases h
  ·rw[Zm _ _ e];exact h⟩
 have hst:StabS S' w:=⟨hs.stable.s.c,fun k es' h=>by
  have h:upd S.m b (some es) k=some es':=h
  by_cases e:b=k
  ·subst e;rw[Zb]at h;cases h;exact e1
  ·rw[Zm _ _ e]at h;exact hs.stable.s.m k es' h⟩
 have h1:=hs.growX (b:=b) hnc (S':=S') (w':=w) hle (fun _ _ _ _=>rfl) (fun _ _ _=>rfl) (Nat.le_refl _) (o':=upd s.m.o b none) (it':=s.m.it) ⟨hst,fun k d hk=>by
   by_cases e:b=k
   ·subst e;rw[Zb]at hk;cases hk
   ·rw[Zm _ _ e]at hk;obtain⟨q1,q2,q3⟩:=hs.stable.o k d hk;exact⟨q1,by show upd S.m b (some es) k=none;rw[Zm _ _ e];exact q2,q3.move hle rfl⟩,fun k x hx=>by
   obtain⟨q1,q2,q3⟩:=hs.stable.i k x hx;exact⟨q1,q2,q3.mono hle⟩⟩ (fun k d hk=>by
   obtain⟨q1,q2,q3,q4⟩:=hs.rm k d hk;have hne:b≠k:=fun e=>by subst e;rw[hb]at q3;cases q3
   exact⟨Ne.symm hne,by rw[Zm _ _ hne];exact q3,by show upd S.m b (some es) k=none;rw[Zm _ _ hne];exact q2⟩)
 have h2:=h1.tellBlk (i:=i) (cs:= [.mref b]) (cs':= [.rmap c.ks c.vs]) hi hz rfl (fun j v hj hr=>by
   have:j=0:=by simp at hj;exact hj
   subst this;simp only[List.getD_cons_zero]at hr ⊢;have hv:v= .map (some b):=by cases hr with|clean r=>cases r;rfl
   subst hv;exact .clean (.rmap b es c.ks c.vs (by show upd S.m b (some es) b=_;rw[Zb]) e2 e3 e4 (fun i hi=>(e5 i hi).mono hle) (fun i hi=>(e6 i hi).mono hle))) (by simp[PV.ids])
 exact⟨S',M,h2,hle,fun k hk=>⟨fun _=>rfl,by show upd S.m b (some es) k=S.m k;rw[Zm _ _ (fun e=>by subst e;exact o1 hk)]⟩,BelowF.refl _ _⟩
def vst (n:Nat) (L:List (Nat×PV)) (H:List (Nat×List PV)) (q:Rows) (om:Nat→Option MapC):St:=
 { fr:=ZaN L fun _=> .any,m:= { h:=ZaN (H.map fun x=>(x.1,some x.2)) fun _=>none,z:=fun _=>false,q:=q,o:=fun _=>none,it:=fun _=>none,om:=om,v:=fun _=>none,ph:=fun _=>none,pq:=fun _=>none,vm:=fun _=>false },n:=n }
theorem Zu1 {α:Type} (L:List (Nat×α)) (f g:Nat→α) (h:∀x∈L,g x.1=x.2) (i:Nat):ZaN L f i=f i∨ZaN L f i=g i:=by
 by_cases hi:(L.map (·.1)).contains i=true
 ·exact .inr (Z9 (R:=fun i v=>v=g i) (fun x hx=>(h x hx).symm) hi)
 ·exact .inl (ZbT (by simpa using hi))
theorem Zxf {n:Nat} {L:List (Nat×PV)} {H:List (Nat×List PV)} {q:Rows} {om:Nat→Option MapC} (h0:s.n=n) (hL:∀x∈L,s.fr x.1=x.2) (hH:∀x∈H,s.m.h x.1=some x.2∧s.m.z x.1=false) (hq:∀i,q i=none∨q i=s.m.q i) (hom:∀i,om i=none∨om i=s.m.om i):Weak (vst n L H q om) s:=by
 refine⟨h0.symm,fun i=>Zu1 L _ s.fr hL i,fun i=> ?_,hq,fun _=> .inl rfl,fun _=> .inl rfl,hom,fun _=> .inl rfl,fun _=> .inl rfl,fun _=> .inl rfl⟩
 by_cases hi:(H.map (·.1)).contains i=true
 ·right;have hk:((H.map fun x=>(x.1,some x.2)).map (·.1)).contains i=true:=by simpa using hi
  refine⟨Z9 (R:=fun i v=>v=s.m.h i) (fun x hx=> ?_) hk,?_⟩
  ·obtain⟨y,hy,rfl⟩:=List.mem_map.1 hx;exact(hH y hy).1.symm
  ·simp only[List.contains_iff_mem,List.mem_map]at hi;obtain⟨y,hy,rfl⟩:=hi;exact(hH y hy).2.symm
 ·left;exact ZbT (by simpa using hi)
def ZqG (H:List (Nat×List PV)) (q:Rows):Ref→Prop
 | .b i=>∃x∈H,x.1=i
 | .r i=>q i≠none
theorem ZwB {n:Nat} {L:List (Nat×PV)} {H:List (Nat×List PV)} {q:Rows} {om:Nat→Option MapC} (hL:∀x∈L,∀r∈x.2.ids,ZqG H q r) (hH:∀x∈H,∀c∈x.2,∀r∈c.ids,ZqG H q r) (hom:∀b c,om b=some c→ ∀p∈c.vs,∀r∈p.ids,ZqG H q r):Refs (vst n L H q om):=by
 have live:∀r,ZqG H q r→ZS (vst n L H q om).m r:=fun r hr=>by
  cases r with
  |b i=>
   obtain⟨x,hx,rfl⟩:=hr;show ZaN (H.map fun x=>(x.1,some x.2)) (fun _=>none) x.1≠none;refine Z9 (R:=fun i v=>v≠none) (fun y hy=> ?_) ?_
   ·obtain⟨z,hz,rfl⟩:=List.mem_map.1 hy;simp
   ·simp only[List.map_map,List.contains_iff_mem,List.mem_map];exact⟨x,hx,rfl⟩
  |r i=>exact hr
 refine⟨fun i r hr=> ?_,fun i cs hi c hc r hr=> ?_,fun i es he=>(by cases he),fun b c hb p hp r hr=>live r (hom b c hb p hp r hr)⟩
 ·have hr:r∈(ZaN L (fun _=>PV.any) i).ids:=hr
  by_cases hi:(L.map (·.1)).contains i=true
  ·exact live r (Z9 (R:=fun i v=>∀r∈v.ids,ZqG H q r) (fun x hx=>hL x hx) hi r hr)
  ·rw[ZbT (by simpa using hi)]at hr;simp[PV.ids]at hr
 ·have hm:=(Zev (L:=H) hi).resolve_right (by simp);exact live r (hH _ hm c hc r hr)
theorem ZqC {n:Nat} {L:List (Nat×PV)} {H:List (Nat×List PV)} {q:Rows} {om:Nat→Option MapC} (h0:s.n=n) (hL:∀x∈L,s.fr x.1=x.2) (hH:∀x∈H,s.m.h x.1=some x.2∧s.m.z x.1=false) (hq:∀i,q i=none∨q i=s.m.q i) (hom:∀i,om i=none∨om i=s.m.om i)
  (rL:∀x∈L,∀r∈x.2.ids,ZqG H q r) (rH:∀x∈H,∀c∈x.2,∀r∈c.ids,ZqG H q r) (rom:∀b c,om b=some c→ ∀p∈c.vs,∀r∈p.ids,ZqG H q r):Gh s (vst n L H q om):=
 .weak (Zxf h0 hL hH hq hom) (ZwB rL rH rom)
def Ze6 (b:Nat) (c:MapC):Nat→Option MapC:=upd (fun _=>none) b (some c)
theorem Zmu {b b':Nat} {c d:MapC} (h:Ze6 b c b'=some d):b=b'∧d=c:=by
 unfold Ze6 at h
 by_cases e:b=b'
 ·subst e;rw[Zb]at h;cases h;exact⟨rfl,rfl⟩
 ·rw[Zm _ _ e]at h;cases h
theorem ZnG {n b j kk d sz k:Nat} {e:TypeId} {c:MapC} {es:List PV} {L:List (Nat×PV)} {H:List (Nat×List PV)} {q:Rows} (h0:s.n=n) (hL:∀x∈L,s.fr x.1=x.2) (hH:∀x∈H,s.m.h x.1=some x.2∧s.m.z x.1=false)
  (hb:s.m.om b=some c) (hj:j<c.vs.length) (hv:c.vs.getD j .any= .sl (.row kk) es) (hk:s.m.q kk=some (.live k sz e)) (hkd:kk≠d) (hqd:q d=some (.live k sz e)) (hqk:q kk=none) (hq:∀i,i≠d→i≠kk→q i=none∨q i=s.m.q i)
  (rL:∀x∈L,∀r∈x.2.ids,ZqG H q r∧r≠ .r d) (rH:∀x∈H,∀c∈x.2,∀r∈c.ids,ZqG H q r∧r≠ .r d) (rom:∀i,i<c.vs.length→i≠j→ ∀r∈(c.vs.getD i .any).ids,ZqG H q r∧r≠ .r d):
  Gh s (vst n L H q (Ze6 b ⟨c.ks,c.vs.set j (.sl (.row d) es)⟩)):=by
 let q1:Rows:=fun i=>if i=d then none else if i=kk then some (.live k sz e)else q i
 have in1:∀r,ZqG H q r→r≠ .r d→ZqG H q1 r:=fun r hr hne=>by
  cases r with
  |b i=>exact hr
  |r i=>
   show q1 i≠none;have hid:i≠d:=fun e=>hne (by rw[e])
   simp only[q1,if_neg hid];split
   ·simp
   ·exact hr
 have g1:Gh s (vst n L H q1 (Ze6 b c)):=ZqC h0 hL hH (fun i=>by
   by_cases e1:i=d
   ·left;simp[q1,e1]
   ·by_cases e2:i=kk
    ·right;subst e2;simp only[q1,if_neg e1,if_true];exact hk.symm
    ·simp only[q1,if_neg e1,if_neg e2];exact hq i e1 e2) (fun i=>by
   unfold Ze6
   by_cases e:b=i
   ·right;subst e;rw[Zb];exact hb.symm
   ·left;exact Zm _ _ e) (fun x hx r hr=>in1 r (rL x hx r hr).1 (rL x hx r hr).2) (fun x hx c hc r hr=>in1 r (rH x hx c hc r hr).1 (rH x hx c hc r hr).2) (fun b' c' hbc p hp r hr=>by
   obtain⟨rfl,rfl⟩:=Zmu hbc;obtain⟨i,hi,rfl⟩:=List.getElem_of_mem hp
   by_cases e:i=j
   ·subst e;rw[getD_lt hi]at hv;rw[hv]at hr;simp only[PV.ids,List.mem_singleton]at hr;subst hr;show q1 kk≠none;simp[q1,hkd]
   ·have:=rom i hi e r (by rw[getD_lt hi];exact hr);exact in1 r this.1 this.2)
 have g2:=Gh.moveRow (s:=vst n L H q1 (Ze6 b c)) (b:=b) (j:=j) (k:=kk) (d:=d) (n:=k) (sz:=sz) (e:=e) (c:=c) (es:=es) (by show Ze6 b c b=_;unfold Ze6;rw[Zb]) (by show q1 kk=_;simp[q1,hkd]) (by show q1 d=_;simp[q1]) hj hv;refine(g1.trans g2).trans (ZqC rfl (fun x hx=> ?_) (fun x hx=> ?_) (fun i=> ?_) (fun i=> ?_) (fun x hx r hr=>(rL x hx r hr).1) (fun x hx c hc r hr=>(rH x hx c hc r hr).1) (fun b' c' hbc p hp r hr=> ?_))
 ·have hc:(L.map (·.1)).contains x.1=true:=by simp only[List.contains_iff_mem,List.mem_map];exact⟨x,hx,rfl⟩
  have:=Z9 (f:=fun _=>PV.any) (R:=fun i v=>v=s.fr i) (fun y hy=>(hL y hy).symm) hc;show ZaN L (fun _=>PV.any) x.1=x.2;rw[this,hL x hx]
 ·refine⟨?_,rfl⟩;have hc:((H.map fun x=>(x.1,some x.2)).map (·.1)).contains x.1=true:=by simp only[List.map_map,List.contains_iff_mem,List.mem_map];exact⟨x,hx,rfl⟩
  have:=Z9 (f:=fun _=>none) (R:=fun i v=>v=s.m.h i) (fun y hy=>by obtain⟨z,hz,rfl⟩:=List.mem_map.1 hy;exact(hH z hz).1.symm) hc;show ZaN (H.map fun x=>(x.1,some x.2)) (fun _=>none) x.1=some x.2;rw[this,(hH x hx).1]
 ·by_cases e2:kk=i
  ·left;rw[←e2];exact hqk
  ·right;show q i=upd (upd q1 kk (some .dead)) d (some (.live k sz e)) i
   by_cases e1:d=i
   ·subst e1;rw[Zb];exact hqd
   ·rw[Zm _ _ e1,Zm _ _ e2];simp only[q1,if_neg (Ne.symm e1),if_neg (Ne.symm e2)]
 ·right;show Ze6 b _ i=upd (Ze6 b c) b _ i;unfold Ze6
  by_cases e:b=i
  ·subst e;rw[Zb,Zb]
  ·rw[Zm _ _ e,Zm _ _ e,Zm _ _ e]
 ·obtain⟨rfl,rfl⟩:=Zmu hbc;obtain⟨i,hi,rfl⟩:=List.getElem_of_mem hp;simp only[List.length_set]at hi;simp only[List.getElem_set]at hr
  by_cases e:j=i
  ·rw[if_pos e]at hr;simp only[PV.ids,List.mem_singleton]at hr;subst hr;show q d≠none;rw[hqd];simp
  ·rw[if_neg e]at hr;exact(rom i hi (Ne.symm e) r (by rw[getD_lt hi];exact hr)).1
theorem ZyM {c:Code} {ι:Type} (I:ι→St) (μ:ι→Nat) (i0:ι) (h0:Gh s (I i0)) (round:∀i,∃s2,Gh (I i) s2∧ @vC P ⟨c⟩ ⟨ZcU (Zzr I μ i) Q⟩ s2):awp P (.loop c) Q s:=
 Zo6 I μ i0 h0 fun i=>by
  obtain⟨s2,g,h⟩:=round i;exact Zxi g (Z1 _ _ _ h)
theorem ZfW (b:Nat) (c:MapC):Ze6 b c b=some c:=Zb _ _ _
end
open Go.RowKit
section
variable {P:Program}
theorem Pure.vk {g:FuncId} {n sz:Nat} {e:TypeId} {es rest:List PV} {r:PV} (h:Pure P g (.sl .no es::rest) r) (hn:es.length=n) (hes:∀p∈es,p.ids= []) (hrest:∀p∈rest,p.ids= [])
  (hg:PV.givableL (Zcw n sz e es).hp rest) (hv:PV.giveL (Zcw n sz e es).hp rest=rest):Eff P g (.vsl 1000 n sz::rest) (Zcw n sz e es) r deadV where
 cal:=h.1
 ok0:=ZpI hes
 ok1:=ZvT
 ca:=fun p hp i hi=>by
  rcases List.mem_cons.1 hp with rfl|hp
  ·simp only[PV.ids,List.mem_singleton]at hi;subst hi;exact⟨_,List.mem_singleton.2 rfl,rfl⟩
  ·rw[hrest p hp]at hi;cases hi
 cr:=fun i hi=>by have:=ZeJ r hi;rw[h.2.1]at this;cases this
 kh:=fun i hi=>by
  cases i with
  |b i=>obtain⟨y,hy,_⟩:=hi;cases hy
  |r i=>
   obtain⟨y,hy,e⟩:=hi;simp only[List.mem_singleton]at hy;subst hy;exact⟨_,List.mem_singleton.2 rfl,e⟩
 run:=fun B S M w vs hs hl hr=>by
  subst hn;have hq:(ZsA (Zcw es.length sz e es).hp).m.q 1000=some (.vec es.length sz e):=by simp[ZsA,MemL.hp,ZcL,ZdR,upd]
  obtain⟨S1,hs1,hext,hrep⟩:=hs.publish (id:=1000) Zxx hq hes;refine(h.2.2 w S1 vs hs1.stable.s (by simpa using hl) fun i hi=> ?_).mono fun en w' ⟨v,S',e1,e2,e3,e4,e5,e6⟩=> ?_
  ·cases i with
   |zero=>exact hrep _ (hr 0 (by simp))
   |succ i=>
    have hi':i<rest.length:=by simpa using hi
    have h1:=hr (i+1) (by simpa using hi);have h2:=h1.give hs (by show((rest.getD i .any)).givable _;exact PV.givableL_getD hg i hi');have h3:((.vsl 1000 es.length sz::rest:List PV).getD (i+1) .any).give (Zcw es.length sz e es).hp=rest.getD i .any:=by
     show(rest.getD i .any).give _=_;rw[←PV.giveL_getD _ _ i hi',hv]
    have h4:Rep S (vs.getD (i+1) undef) (rest.getD i .any):=by rw[←h3];exact h2
    exact h4.mono hext.1
  ·have hm:(ZsA (Zcw es.length sz e es).hp).with ({ (ZsA (Zcw es.length sz e es).hp).m with v:=upd (ZsA (Zcw es.length sz e es).hp).m.v 1000 none }.setq 1000 .dead)=ZsA deadV.hp:=by
    simp only[ZsA,St.with,MemL.hp,Hp.setq,List.map_nil,List.map_cons,ZcL,ZdR];congr 2
    ·funext i;unfold upd;split<;>rfl
    ·funext i;unfold upd;split<;>rfl
   rw[hm]at hs1;have hb:∀b,B b→b<w.heap.size:=hs.hB;refine⟨v,S',M,e1,.clean e2,hs1.grow e4 e5 e3 e6.block e6.size,hext.trans ⟨e4,fun b hb=>e5 b (hs.hB b hb),(BelowF.of e6).mono hs.hB⟩,by simp,fun x hx=> ?_⟩;simp only[List.mem_singleton]at hx;subst hx;have:deadV.hp.q 1000=some .dead:=by simp[MemL.hp,ZcL,ZdR,upd]
   rw[this];exact .dead
end
end Go.PL
