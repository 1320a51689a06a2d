/- A logic of values for functions that only read and build, over the model (part 11): no statement of the seat is proved here. -/
import Derived.Test.YtmnibpgmcgdfpaaPlJ
import Derived.Test.YtmnibpgmcgdfpaaPlH
import Derived.OrdersIn
import Derived.RangeFuncCalls
import Derived.RangeFuncKeeps
import Derived.LoopNIn
import Derived.Test.YtmnibpgmcgdfpaaPlI
import Derived.RangeFuncLeaves
import Derived.Test.YtmnibpgmcgdfpaaPlF
import Derived.OrdersHeld
import Derived.Still
namespace Go.PL
set_option maxHeartbeats 64000000
set_option maxRecDepth 20000
set_option linter.unusedVariables false
set_option linter.unusedSimpArgs false
open Go.RowKit
section
variable {P:Program}
end
open Go.RowKit
section
variable {P:Program} {l n:Nat}
theorem ZcE {o:Oper} {a:Act} {w:World} {next:Act→World→Prop} {Q:Exit→Act→World→Prop} (hd:∀c,o.op≠ .defer c) (h:o.wp P a w next Q):o.wpIn (Fence.wide.inRound l) n P a w next Q:=by
 refine⟨fun f _=>trivial,?_⟩;rw[show(Fence.wide.inRound l).round=some l from rfl,Oper.semAt_some l _ _ hd];unfold Oper.wp at h;generalize (execOp a.eval o).run P w=r at h ⊢;cases r with
 |ok x w'=>
  cases x with
  |enter f args=>exact⟨fun hh=>absurd (show false=true from hh) (by decide),CallsIn.inRound l (callsIn_wide.2 h)⟩
  |row row args=>
   refine⟨fun hh=>absurd (show false=true from hh) (by decide),fun c cs _=> ?_⟩;obtain⟨v,w'',r,s⟩:=h c cs;exact⟨v,w'',r,stepsIn_wide.2 s⟩
  |_=>first|exact h|exact False.elim h
 |halt x w'=>cases x<;>exact h
def S4 (l n:Nat) (P:Program) (c:Code) (Q:Exit→St→Prop) (s:St):Prop:=
 ∀B S M a w,Sim B S M s a w→c.wpIn (Fence.wide.inRound l) n P (fun e a' w'=>∃s' S' M',Q e s'∧Sim B S' M' s' a' w'∧Ext B S S' w w') a w
theorem ZeV {o:Oper} {ρ:Operand→PV} {m m':Hp} {v:PV} (h:TE P o ρ m v m'):∀c,o.op≠ .defer c:=fun c e=>by
 rcases h with ⟨h,_,_⟩|⟨c',g,args,hc,_⟩
 ·unfold aop at h;rw[e]at h;exact h
 ·rw[e]at hc;cases hc
theorem VW {B:Frm} {ops:Array Oper} {K:St→Prop} {Qc:Exit→Act→World→Prop} {S0:Stable} {w0:World} (hQ:∀s' S' M' a' w',K s'→Sim B S' M' s' a' w'→Ext B S0 S' w0 w'→Qc .normal a' w') (hdf:∀(i:Nat) (o:Oper),ops[i]? = some o→ ∀c,o.op≠ .defer c):
  ∀(li:List Oper) (k:Nat) (s:St),(∀j,li[j]? = ops[k+j]?)→ZaB P ops K li s→ ∀S M a w,Sim B S M s a w→Ext B S0 S w0 w→wpOpsIn (Fence.wide.inRound l) n P ops Qc (List.range' k li.length) a w
 | [],k,s,_,h,S,M,a,w,hs,he=>hQ s S M a w h hs he
 |o::rest,k,s,hl,h,S,M,a,w,hs,he=>by
  have h0:ops[k]? = some o:=by simpa using(hl 0).symm
  have hl':∀j,rest[j]? = ops[(k+1)+j]? :=fun j=>by have:=hl (j+1);simpa[Nat.add_assoc,Nat.add_comm 1 j]using this
  obtain⟨hd,h⟩:=h;simp only[List.length_cons,List.range'_succ,wpOpsIn,h0];rcases h with ⟨hg,⟨v,m',hst,hrest⟩|hsp⟩|⟨hg,hrest⟩
  ·rw[Vi hs hg,if_pos rfl];exact ZcE (hdf _ _ h0) (YY hs (Z1 hd) hst _ _ fun u w' S' M' hs' he'=>VW hQ hdf rest (k+1) _ hl' hrest S' M' _ w' hs' (he.trans he'))
  ·rw[Vi hs hg,if_pos rfl];exact ZcE (hdf _ _ h0) (VK hs (Z1 hd) hsp _ _ fun s' u w' S' M' hk hs' he'=>VW hQ hdf rest (k+1) s' hl' hk S' M' _ w' hs' (he.trans he'))
  ·rw[Vi hs hg,if_neg (by simp)];exact⟨fun _ _=>trivial,VW hQ hdf rest (k+1) _ hl' hrest S M _ w (Vc hs hd) he⟩
theorem Tk {B:Frm} {md:Region.Mode} {ops:Array Oper} {K:St→Prop} {Qc:Exit→Act→World→Prop} {S0:Stable} {w0:World} (hQ:∀s' S' M' a' w',K s'→Sim B S' M' s' a' w'→Ext B S0 S' w0 w'→Qc .normal a' w'):
  ∀(fuel:Nat) (listed:Array Bool) (s:St),ZhL P md ops K fuel listed s→ ∀S M a w,Sim B S M s a w→Ext B S0 S w0 w→wpAnyIn (Fence.wide.inRound l) n P md ops Qc fuel listed a w
 |0,_,s,h,S,M,a,w,hs,he=>⟨h.1,hQ s S M a w h.2 hs he⟩
 |fuel+1,listed,s,h,S,M,a,w,hs,he=>⟨fun h0=>hQ s S M a w (h.1 h0) hs he,fun i hi=>by
   obtain⟨o,s',ho,hy,hn⟩:=h.2 i hi;unfold wpOpIn;simp only[ho];obtain⟨hd,hy⟩:=hy;rcases hy with ⟨hg,v,m',hst,rfl⟩|⟨hg,rfl⟩
   ·rw[Vi hs hg,if_pos rfl];exact ZcE (ZeV hst) (YY hs (Z1 hd) hst _ _ fun u w' S' M' hs' he'=>Tk hQ fuel _ _ hn S' M' _ w' hs' (he.trans he'))
   ·rw[Vi hs hg,if_neg (by simp)];exact⟨fun _ _=>trivial,Tk hQ fuel _ _ hn S M _ w (Vc hs hd) he⟩⟩
def SF (ops:Array Oper):Bool:=ops.toList.all fun o=>match o.op with| .defer _=>false|_=>true
theorem Zbj {ops:Array Oper} (h:SF ops=true):∀(i:Nat) (o:Oper),ops[i]? = some o→ ∀c,o.op≠ .defer c:=fun i o hi c e=>by
 unfold SF at h;rw[List.all_eq_true]at h;have:=h o (Array.mem_toList_iff.2 (Array.mem_of_getElem? hi));rw[e]at this;cases this
variable {s:St} {Q Q':Exit→St→Prop}
theorem Zfz {c:Code} (h:∀e s,Q e s→Q' e s) (hh:S4 l n P c Q s):S4 l n P c Q' s:=fun B S M a w hs=>
 wpIn_mono (hh B S M a w hs) fun e a' w' ⟨s',S',M',h1,h2,h3⟩=>⟨s',S',M',h _ _ h1,h2,h3⟩
theorem Zcf {id:Nat} {ops:Array Oper} (hd:SF ops=true) (h:ZaB P ops (Q .normal) ops.toList s):S4 l n P (.region id ops false) Q s:=fun B S M a w hs=>by
 refine wpIn_region ?_;have:=VW (l:=l) (n:=n) (B:=B) (S0:=S) (w0:=w) (Qc:=fun e a' w'=>∃s' S' M',Q e s'∧Sim B S' M' s' a' w'∧Ext B S S' w w') (fun s' S' M' a' w' h1 h2 h3=>⟨s',S',M',h1,h2,h3⟩) (Zbj hd) ops.toList 0 s (by simp) h S M a w hs (Ext.refl _ _ _);rw[←List.range_eq_range']at this;simpa using this
theorem ZfA (h:Q .normal s):S4 l n P .skip Q s:=fun B S M a w hs=>wpIn_skip ⟨s,S,M,h,hs,Ext.refl _ _ _⟩
theorem Zfx {id:Nat} (h:Q (.exit id) s):S4 l n P (.exit id) Q s:=fun B S M a w hs=>wpIn_exit ⟨s,S,M,h,hs,Ext.refl _ _ _⟩
theorem Zfy {t:Nat} (h:Q (.goto t) s):S4 l n P (.goto t) Q s:=fun B S M a w hs=>wpIn_goto ⟨s,S,M,h,hs,Ext.refl _ _ _⟩
theorem ZhU (h:Q .ret s):S4 l n P .ret Q s:=fun B S M a w hs=>wpIn_ret ⟨s,S,M,h,hs,Ext.refl _ _ _⟩
theorem ZhV {x y:Code} (h:S4 l n P x (Y0 (S4 l n P y Q) Q) s):S4 l n P (.seq x y) Q s:=fun B S M a w hs=>by
 refine wpIn_seq (wpIn_mono (h B S M a w hs) fun e a' w' hq=> ?_);obtain⟨s',S',M',h1,h2,h3⟩:=hq;cases e with
 |normal=>
  refine wpIn_mono (h1 B S' M' a' w' h2) fun e a'' w'' hq'=> ?_
  obtain⟨s'',S'',M'',g1,g2,g3⟩:=hq';exact⟨s'',S'',M'',g1,g2,h3.trans g3⟩
 |_=>exact⟨s',S',M',h1,h2,h3⟩
theorem Zfw {c:Operand} {x y:Code} {b:Bool} (hc:s.eval c= .bool b) (h:S4 l n P (if b then x else y) Q s):S4 l n P (.cond c x y) Q s:=fun B S M a w hs=>by
 have he:=hs.eval c;rw[hc]at he;exact wpIn_cond he.bool_inv (h B S M a w hs)
theorem Zej {id:Nat} {c:Code} (h:S4 l n P c (V5 id Q) s):S4 l n P (.block id c) Q s:=fun B S M a w hs=>by
 refine wpIn_block (wpIn_mono (h B S M a w hs) fun e a' w' hq=> ?_);obtain⟨s',S',M',h1,h2,h3⟩:=hq;cases e with
 |exit j=>
  simp only[Exit.inBlock,V5]at h1 ⊢;split at h1
  ·rename_i hj;simp only[hj,if_true];exact⟨s',S',M',h1,h2,h3⟩
  ·rename_i hj;simp only[hj,if_false];exact⟨s',S',M',h1,h2,h3⟩
 |_=>exact⟨s',S',M',h1,h2,h3⟩
def vcR (l n:Nat) (P:Program):Code→(Exit→St→Prop)→St→Prop
 | .skip,Q,s=>Q .normal s
 | .ret,Q,s=>Q .ret s
 | .exit id,Q,s=>Q (.exit id) s
 | .goto t,Q,s=>Q (.goto t) s
 | .seq x y,Q,s=>vcR l n P x (Y0 (vcR l n P y Q) Q) s
 | .cond c x y,Q,s=>Sb (s.eval c) (vcR l n P x Q s) (vcR l n P y Q s)
 | .block id c,Q,s=>vcR l n P c (V5 id Q) s
 | .region _ ops false,Q,s=>SF ops=true∧vcA P true ops (Q .normal) ops.toList s
 |c,Q,s=>S4 l n P c Q s
theorem VM:∀(c:Code) (Q:Exit→St→Prop) (s:St),vcR l n P c Q s→S4 l n P c Q s
 | .skip,Q,s,h=>ZfA h
 | .label _,Q,s,h=>h
 | .ret,Q,s,h=>ZhU h
 | .exit id,Q,s,h=>Zfx h
 | .goto l,Q,s,h=>Zfy h
 | .seq x y,Q,s,h=>ZhV (Zfz (fun e s' h'=>by
   cases e with
   |normal=>exact VM y Q s' h'
   |_=>exact h') (VM x _ s h))
 | .cond c x y,Q,s,h=>by
  unfold vcR Sb at h;split at h
  ·rename_i b hb;refine Zfw hb ?_;cases b
   ·exact VM y Q s (h.2 rfl)
   ·exact VM x Q s (h.1 rfl)
  ·exact h.elim
 | .block id c,Q,s,h=>Zej (VM c _ s h)
 | .region _ ops false,Q,s,h=>Zcf h.1 (Wo _ _ h.2)
 | .region _ ops true,Q,s,h=>h
 | .loop c,Q,s,h=>h
 | .rangeFunc ..,Q,s,h=>h
 | .scope c,Q,s,h=>h
 | .refuse _,Q,s,h=>h
end
def vR (l n:Nat) (P:Program) [C:COD] [Q:QS] (s:St):Prop:=vcR l n P C.c Q.q s
section
variable {P:Program} {l n:Nat}
theorem GH {c:Code} {Q:Exit→St→Prop} {s:St} (h:@vR l n P ⟨c⟩ ⟨Q⟩ s):S4 l n P c Q s:=VM c Q s h
theorem ZkI (Q:QS) (s:St):@vR l n P ⟨.skip⟩ Q s= @vQ Q .normal s:=rfl
theorem Zmh (Q:QS) (s:St):@vR l n P ⟨.ret⟩ Q s= @vQ Q .ret s:=rfl
theorem ZkF (id:Nat) (Q:QS) (s:St):@vR l n P ⟨.exit id⟩ Q s= @vQ Q (.exit id) s:=rfl
theorem ZkG (t:Nat) (Q:QS) (s:St):@vR l n P ⟨.goto t⟩ Q s= @vQ Q (.goto t) s:=rfl
theorem Zmi (x y:Code) (Q:QS) (s:St):@vR l n P ⟨.seq x y⟩ Q s= @vR l n P ⟨x⟩ ⟨Y0 (@vR l n P ⟨y⟩ Q) Q.q⟩ s:=rfl
theorem ZkD (c:Operand) (x y:Code) (Q:QS) (s:St):@vR l n P ⟨.cond c x y⟩ Q s= @ZbV (s.eval c) ⟨@vR l n P ⟨x⟩ Q s⟩ ⟨@vR l n P ⟨y⟩ Q s⟩:=rfl
theorem Zi3 (id:Nat) (c:Code) (Q:QS) (s:St):@vR l n P ⟨.block id c⟩ Q s= @vR l n P ⟨c⟩ ⟨V5 id Q.q⟩ s:=rfl
theorem Zg6 (id:Nat) (li:List Oper) (Q:QS) (s:St):@vR l n P ⟨.region id li.toArray false⟩ Q s=(SF li.toArray=true∧ @vA P true ⟨@vQ Q .normal⟩ ⟨li⟩ ⟨li⟩ s):=rfl
theorem ZkE (id:Nat) (li:Array Oper) (Q:QS) (s:St):@vR l n P ⟨.region id li true⟩ Q s=S4 l n P (.region id li true) Q.q s:=rfl
end
attribute [go_sem] ZkI Zmh ZkF ZkG Zmi ZkD Zi3 Zg6 ZkE SF
open Go.RowKit
section
variable {P:Program} {B:Frm} {S:Stable} {M:Maps} {s:St} {a:Act} {w:World}
theorem Zh1 {l k:Nat} {o:Obj} (hl:w.heap[l]? = some o) (hc:o.isCells=false):w.cell? ⟨l,k,none⟩=none:=by
 unfold World.cell?;cases o<;>simp_all[Obj.isCells]
theorem Sim.turn (hs:Sim B S M s a w) {l:Nat} {o o':Obj} (hl:w.heap[l]? = some o) (hc:o.isCells=false) (h1:S.m l=none) (h2:s.m.o l=none) (h3:s.m.it l=none) (h4:s.m.om l=none):Sim B S M s a (w.putObj l o'):=by
 have ne:∀k,k≠l→(w.putObj l o').heap[k]? = w.heap[k]? :=fun k hk=>World.putObj_heap_other hk
 have hst:Stab B S (w.putObj l o') s.m.o s.m.it:=hs.stable.move (SLe.refl S) (fun b c hb=>(hs.stable.o b c hb).2.1) ⟨fun b k v hv=>by
   have h:=hs.stable b k v hv;have hb:b≠l:=fun e=>by subst e;rw[Zh1 hl hc]at h;cases h
   rw[←h];exact World.cell?_of_block (ne b hb),fun b es hb=>by
   rw[ne b (fun e=>by subst e;rw[h1]at hb;cases hb)];exact hs.stable.s.m b es hb,fun b hb=>by
   obtain⟨vs,t,e⟩:=hs.stable.s.y b hb;exact⟨vs,t,by rw[ne b (fun e'=>by subst e';rw[hl]at e;cases e;cases hc)];exact e⟩⟩ (fun b c hb=>ne b (fun e=>by subst e;rw[h2]at hb;cases hb)) (fun b x hb=>ne b (fun e=>by subst e;rw[h3]at hb;cases hb))
 exact hs.growX (b:=l) (fun vs t f e=>by rw[hl]at e;cases e;cases hc) (SLe.refl S) (fun k hk hkl o=>rfl) (fun k hk hkl=>ne k hkl) (by simp) hst (fun k d hk=>⟨(fun e=>by subst e;rw[h4]at hk;cases hk),(hs.rm k d hk).2.2.1,(hs.rm k d hk).2.1⟩)
theorem Sim.lay (hs:Sim B S M s a w) (o:Obj):Sim B S M s a (w.alloc o):=
 hs.grow (SLe.refl S) (fun _ _=>⟨fun _=>rfl,rfl⟩) (hs.stable.s.old fun k hk=>ZD w o hk) (fun k hk=>ZD w o hk) (by simp)
end
open Go.RowKit
def ZmK {β:Type} (J:β→World→Prop):Prop:=∀s W,J s W→(∀o,J s (W.alloc o))∧J s { W with drawn:=W.drawn+1 }
def Zn1 {α:Type} (n:Nat) (P:Program) (g:Nat) (lb:Array Value) (encs:α→Array Value) (Kp:World→World→Prop) (S Sp:List α→Prop) (N:Nat) (w:World):Prop:=
 ∀(l:Nat) (J Jx:List α→World→Prop) (W:World),Below w.heap.size w W→ZmK J→ZmK Jx→
  (∀pre x W1,J pre W1→pre.length<N→YieldAt Fence.wide (n-1) P l (encs x) W1 fun e W'=>
   (e= .returned (.bool true)∧J (pre++ [x]) W'∧Kp W1 W')∨(e= .returned (.bool false)∧Jx (pre++ [x]) W'))→
  J [] W→
  CallsIn Fence.wide n P g (#[.func (.yield l) #[] #[]]++lb) W fun e W'=>(∃v,e= .returned v)∧((∃xs,S xs∧J xs W')∨(∃pre,Sp pre∧Jx pre W'))
section
variable {P:Program}
def Zfi (P:Program) (gf:FuncId) (caps:List PV) {A:Type} (xs:List A) (enc:A→List PV) (wd:Nat):Prop:=
 XQ P gf∧ ∀(m:Nat) (S:Stable) (w:World) (lb:Array Value),StabS S w→lb.size=caps.length→(∀i,i<caps.length→Rep S (lb.getD i undef) (caps.getD i .any))→
  ∃encs:Fin xs.length→Array Value,(∀k,(encs k).size=wd∧(enc xs[k]).length=wd∧ ∀i,i<wd→Rep S ((encs k).getD i undef) ((enc xs[k]).getD i .any))∧
   Zn1 (m+1) P gf lb encs (fun W W'=>StabS S W→StabS S W') (fun ks=>ks=List.finRange xs.length) (fun pre=>pre <+:List.finRange xs.length) xs.length w
def Book (w:World) (k:Nat):Prop:=(∃r,w.heap[k]? = some (.loop r))∨ ∃d,w.heap[k]? = some (.deferred d)
theorem Book.obj {w:World} {k:Nat} (h:Book w k):∃o,w.heap[k]? = some o∧o.isCells=false∧(∀es n,o≠ .map es n)∧ ∀b n s m,o≠ .mapIter b n s m:=by
 rcases h with ⟨r,h⟩|⟨d,h⟩
 ·exact⟨_,h,rfl,(fun _ _ e=>by cases e),(fun _ _ _ _ e=>by cases e)⟩
 ·exact⟨_,h,rfl,(fun _ _ e=>by cases e),(fun _ _ _ _ e=>by cases e)⟩
theorem Book.no_cells {w:World} {k:Nat} (h:Book w k) {vs:Array Value} {t:TypeId} {f:Nat×Nat}:w.heap[k]? ≠ some (.cells vs t f):=fun e=>by
 obtain⟨o,h1,h2,_⟩:=h.obj;rw[h1]at e;cases e;cases h2
theorem Book.no_map {w:World} {k:Nat} (h:Book w k) {es:Array MapEntry} {n:Nat}:w.heap[k]? ≠ some (.map es n):=fun e=>by
 obtain⟨o,h1,_,h2,_⟩:=h.obj;rw[h1]at e;cases e;exact h2 _ _ rfl
theorem Book.lt {w:World} {k:Nat} (h:Book w k):k<w.heap.size:=by
 obtain⟨o,h1,_⟩:=h.obj;exact(Array.getElem?_eq_some_iff.1 h1).1
variable {B:Frm} {S:Stable} {M:Maps} {s s':St} {a:Act} {w:World}
theorem Sim.widen (hs:Sim B S M s a w) {B':Frm} (h1:∀k,B' k→B k∨Book w k) (hzz:∀k,¬B' k→S.z k):Sim B' S M s a w:=by
 have no:∀ {k},¬B k→ ¬Book w k→ ¬B' k:=fun h h' hb=>(h1 _ hb).elim h h'
 refine⟨hs.defers,hs.hn,fun k hk=>(h1 k hk).elim (hs.hB k) Book.lt,⟨hs.stable.s,fun b c hc=> ?_,fun b x hx=> ?_⟩,hs.fr,hs.ids,fun id cs hc=> ?_,fun id r hr=> ?_,hs.inj,hs.injq,hs.injx,fun b c hc=> ?_,hs.vc,hs.pn,hzz⟩
 ·obtain⟨g1,g2,g3⟩:=hs.stable.o b c hc;refine⟨no g1 fun hb=> ?_,g2,g3⟩;obtain⟨es,h,_⟩:=g3;exact hb.no_map h
 ·obtain⟨g1,g2,g3⟩:=hs.stable.i b x hx;refine⟨no g1 fun hb=> ?_,g2,g3⟩;obtain⟨o,e1,_,_,e2⟩:=hb.obj;unfold IterAt at g2;rw[e1]at g2;cases g2;exact e2 _ _ _ _ rfl
 ·have h:=hs.blk id cs hc;cases hz:s.m.z id with
  |true=>rw[hz]at h;exact h
  |false=>
   rw[hz]at h;obtain⟨g1,g2,⟨vs,t,g3,g4⟩,g5⟩:=h;exact⟨no g1 fun hb=>hb.no_cells g3,g2,⟨vs,t,g3,g4⟩,g5⟩
 ·have h:=hs.row id r hr;cases r with
  |dead=>trivial
  |live n sz e=>
   obtain⟨g1,g2⟩:=h;refine⟨g1,fun c hc=> ?_⟩;obtain⟨p1,p2,p3,⟨vs,p4,p5⟩,p6⟩:=g2 c hc;exact⟨p1,p2,no p3 fun hb=>hb.no_cells p4,⟨vs,p4,p5⟩,p6⟩
  |vec n sz e=>
   obtain⟨g1,g2⟩:=h;refine⟨g1,fun c hc=> ?_⟩;obtain⟨p1,p2,p3,⟨vs,p4,p5⟩,p6⟩:=g2 c hc;exact⟨p1,p2,no p3 fun hb=>hb.no_cells p4,⟨vs,p4,p5⟩,p6⟩
 ·obtain⟨g1,g2,g3,g4⟩:=hs.rm b c hc;refine⟨no g1 fun hb=> ?_,g2,g3,g4⟩;obtain⟨⟨es,h,_⟩,_⟩:=g4;exact hb.no_map h
theorem Sim.book (hs:Sim B S M s a w) {l:Nat} (hl:Book w l) (o':Obj):Sim B S M s a (w.putObj l o'):=by
 obtain⟨o,h1,h2,h3,h4⟩:=hl.obj;refine hs.turn h1 h2 ?_ ?_ ?_ ?_
 ·cases e:S.m l with
  |none=>rfl
  |some es=>exact absurd (hs.stable.s.m l es e) hl.no_map
 ·cases e:s.m.o l with
  |none=>rfl
  |some c=>obtain⟨_,_,es,h,_⟩:=hs.stable.o l c e;exact absurd h hl.no_map
 ·cases e:s.m.it l with
  |none=>rfl
  |some x=>
   obtain⟨_,h,_⟩:=hs.stable.i l x e;unfold IterAt at h;rw[h1]at h;cases h;exact absurd rfl (h4 _ _ _ _)
 ·cases e:s.m.om l with
  |none=>rfl
  |some c=>obtain⟨_,_,_,⟨es,h,_⟩,_⟩:=hs.rm l c e;exact absurd h hl.no_map
theorem StabS.below {S S':Stable} {w:World} (h:StabS S' w) (hle:SLe S S'):StabS S w:=⟨fun b o v hv=>h.c b o v (hle _ _ _ hv),fun b es he=>h.m b es (hle.m _ _ he),fun b hb=>h.y b (hle.y b hb)⟩
theorem Sim.reslot (hs:Sim B S M s a w) {a':Act} {f:Nat→PV} {n:Nat} (hd:a'.defers= []) (hn:a'.tmps.size=n) (fr:∀i,RepS S M s.m.q (a'.tmps.getD i undef) (f i)) (ids:∀i r,r∈(f i).ids→Live s.m r):Sim B S M ⟨f,s.m,n⟩ a' w:=
 ⟨hd,hn,hs.hB,hs.stable,fr,ids,hs.blk,hs.row,hs.inj,hs.injq,hs.injx,hs.rm,hs.vc,hs.pn,hs.hz⟩
def putL (s:St):List (Nat×PV)→St
 | []=>s
 |x::l=>putL (s.put (some x.1) x.2) l
theorem Sim.putL:∀(l:List (Nat×PV)) (vs:List Value) {s:St} {a:Act},Sim B S M s a w→vs.length=l.length→(∀x∈l,x.1<s.n)→(∀x∈l,x.2.ids= [])→(∀i,i<l.length→Rep S (vs.getD i undef) (l.getD i (0,.any)).2)→
  Sim B S M (putL s l) { tmps:=((l.map (·.1)).zip vs).foldl (fun t x=>t.setIfInBounds x.1 x.2) a.tmps,defers:= [] } w
 | [],vs,s,a,hs,_,_,_,_=>by
  have:a= { tmps:=a.tmps,defers:= [] }:=by rw[←hs.defers]
  simp only[PL.putL,List.map_nil,List.zip_nil_left,List.foldl_nil];rw[←this];exact hs
 |x::l,[],s,a,hs,h,_,_,_=>by simp at h
 |x::l,v::vs,s,a,hs,hl,hn,hi,hr=>by
  have h1:=hs.put (d:=some x.1) (v:=v) (p:=x.2) (fun y e=>by cases e;exact hn x (by simp)) (.clean (hr 0 (by simp))) (fun r hr'=>by rw[hi x (by simp)]at hr';cases hr');have h2:=Sim.putL l vs h1 (by simpa using hl) (fun y hy=>hn y (by simp[hy])) (fun y hy=>hi y (by simp[hy])) (fun i hi=>hr (i+1) (by simpa using hi));exact h2
structure MemT where
 H:List (Nat×List PV×Bool)
 R:List (Nat×Row)
 V:List (Nat×List PV)
abbrev mkT (n:Nat) (L:List (Nat×PV)) (m:MemT) (p:List (Nat×Nat)):St:=mkStX n L m.H m.R [] [] m.V [] p [] []
abbrev HasT (n:Nat) (L:List (Nat×PV)) (m:MemT) (p:List (Nat×Nat)) (s:St):Prop:=HasX n L m.H m.R [] [] m.V [] p [] s
abbrev WholeT (L:List (Nat×PV)) (m:MemT) (p:List (Nat×Nat)):Prop:=WholeX L m.H m.R m.V [] p []
def Zjm (n:Nat) (m mx:MemT) (Y X:Prop) (p:List (Nat×Nat)):Exit→St→Prop
 | .normal,s=>Y∧HasT n [] m p s
 | .ret,s=>X∧HasT n [] mx p s
 |_,_=>False
def US (pin:List Nat) (φ:Nat→Nat):List (Nat×Nat):=pin.map fun i=>(i,φ i)
theorem Ext.mono {B B':Frm} {S S':Stable} {w w':World} (h:Ext B' S S' w w') (hb:∀k,B k→B' k):Ext B S S' w w':=⟨h.1,fun b hb'=>h.2.1 b (hb b hb'),h.2.2.mono hb⟩
theorem Zae {cs:List PV} (h:PV.idsL cs= []) {i:Nat} (hi:i<cs.length):(cs.getD i .any).ids= []:=by
 refine List.eq_nil_iff_forall_not_mem.2 fun r hr=> ?_
 have:r∈PV.idsL cs:=PV.mem_idsL.2 ⟨_,Ze hi,hr⟩;rw[h]at this;cases this
theorem RepS.rep0 {S:Stable} {M:Maps} {q:Rows} {v:Value} {p:PV} (r:RepS S M q v p) (h:p.ids= []):Rep S v p:=by
 induction r with
 |clean r=>exact r
 |ptr id off=>simp[PV.ids]at h
 |osl id off len cap sz hc=>simp[PV.ids]at h
 |row id v es r t=>simp[PV.ids]at h
 |vsl id len sz v hv t=>simp[PV.ids]at h
 |vptr id n sz i off v hv hi t=>simp[PV.ids]at h
 |agg vs cs hl _ ih=>exact .agg vs cs hl fun i hi=>ih i hi (Zae (by simpa[PV.ids]using h) hi)
 |tup vs cs hl _ ih=>exact .tup vs cs hl fun i hi=>ih i hi (Zae (by simpa[PV.ids]using h) hi)
 |fn f vs cs hl _ ih=>exact .fn f vs cs hl fun i hi=>ih i hi (Zae (by simpa[PV.ids]using h) hi)
theorem Zhg {ps:Array Nat} {vs:Array Value} (t:Array Value):(ps.zip vs).foldl (fun t (p,v)=>t.setIfInBounds p v) t=(ps.toList.zip vs.toList).foldl (fun t x=>t.setIfInBounds x.1 x.2) t:=by
 rw[←Array.foldl_toList,Array.toList_zip]
theorem ZdL {pin:List Nat} {φ:Nat→Nat} {i:Nat} (h:i∈pin) (f:Nat→Option Nat):Yc ((US pin φ).map fun x=>(x.1,some x.2)) f i=some (φ i):=by
 induction pin with
 |nil=>cases h
 |cons j pin ih=>
  show upd (Yc ((US pin φ).map fun x=>(x.1,some x.2)) f) j (some (φ j)) i=some (φ i)
  by_cases e:j=i
  ·subst e;rw[Za]
  ·rw[Zc _ _ e];exact ih ((List.mem_cons.1 h).resolve_left fun e'=>e e'.symm)
theorem Sim.pin (hs:Sim B S M s a w) {pin:List Nat} (hp:∀i∈pin,s.m.h i≠none):Sim B S M { s with m:= { s.m with ph:=Yc ((US pin M.φ).map fun x=>(x.1,some x.2)) fun _=>none } } a w:=by
 refine⟨hs.defers,hs.hn,hs.hB,hs.stable,hs.fr,(fun i r hr=>by have:=hs.ids i r hr;cases r<;>exact this),(fun id cs hc=> ?_),hs.row,hs.inj,hs.injq,hs.injx,(fun b c hc=> ?_),(fun id es he=> ?_),⟨(fun id b hb=> ?_),hs.pn.q⟩,hs.hz⟩
 ·have:=hs.blk id cs hc;cases hz:s.m.z id with
  |true=>rw[hz]at this;exact this
  |false=>
   rw[hz]at this;obtain⟨g1,g2,g3,g4⟩:=this;exact⟨g1,g2,g3,fun c hc i hi=>by have:=g4 c hc i hi;cases i<;>exact this⟩
 ·obtain⟨g1,g2,g3,g4,g5⟩:=hs.rm b c hc;exact⟨g1,g2,g3,g4,fun p hp i hi=>by have:=g5 p hp i hi;cases i<;>exact this⟩
 ·obtain⟨sz,e,q1,q2,q3,q4⟩:=hs.vc id es he;exact⟨sz,e,q1,q2,(fun p hp i hi=>by have:=q3 p hp i hi;cases i<;>exact this),q4⟩
 ·rcases VL hb with h|h
  ·obtain⟨i,hi,e⟩:=List.mem_map.1 h;cases e;exact⟨hp _ hi,rfl⟩
  ·cases h
theorem HasT.pin {n:Nat} {L:List (Nat×PV)} {m:MemT} {pin:List Nat} {φ:Nat→Nat} (h:HasT n L m [] s):HasT n L m (US pin φ) { s with m:= { s.m with ph:=Yc ((US pin φ).map fun x=>(x.1,some x.2)) fun _=>none } }:=
 ⟨⟨h.b.n,h.b.fr,h.b.h,h.b.q⟩,h.o,h.it,h.v,h.om,(fun x hx=>by
  obtain⟨i,hi,rfl⟩:=List.mem_map.1 hx;exact ZdL hi _),h.pq⟩
theorem Sim.back {S2:Stable} {M2:Maps} {s2:St} {a2:Act} {w2:World} {n:Nat} {L:List (Nat×PV)} {m m2:MemT} {pin:List Nat} {φ:Nat→Nat} (hs:Sim B S M (mkT n L m (US pin φ)) a w) (hle:SLe S S2) (hs2:Sim B S2 M2 s2 a2 w2) (h2:HasT n [] m2 (US pin φ) s2)
  (hL:∀x∈L,∀r∈x.2.ids,∃i∈pin,r= .b i) (hw0:WholeT [] m2 (US pin φ)):Sim B S2 M2 (mkT n L m2 (US pin φ)) a w2:=by
 have h3:Sim B S2 M2 (mkT n [] m2 (US pin φ)) a2 w2:=hs2.weak (h2.weak hw0) (Refs.mkStX hw0);have hin:∀i,∀r∈((mkT n L m (US pin φ)).fr i).ids,∃j∈pin,r= .b j:=fun i r hr=>by
  have h0:∀(L:List (Nat×PV)),(∀x∈L,∀r∈x.2.ids,∃i∈pin,r= .b i)→ ∀r∈(Yc L (fun _=>PV.any) i).ids,∃j∈pin,r= .b j:=fun L=>by
   induction L with
   |nil=>intro _ r hr;cases hr
   |cons x L ih=>
    intro hL r hr;have hr:r∈(upd (Yc L fun _=> .any) x.1 x.2 i).ids:=hr
    by_cases e:x.1=i
    ·rw[e,Za]at hr;exact hL x (by simp) r hr
    ·rw[Zc _ _ e]at hr;exact ih (fun y hy=>hL y (by simp[hy])) r hr
  exact h0 L hL r hr
 have p1:∀i∈pin,M.φ i=φ i:=fun i hi=>(hs.pn.h i (φ i) (ZdL hi _)).2
 have p2:∀i∈pin,M2.φ i=φ i∧(mkT n [] m2 (US pin φ)).m.h i≠none:=fun i hi=>⟨(h3.pn.h i (φ i) (ZdL hi _)).2,(h3.pn.h i (φ i) (ZdL hi _)).1⟩
 refine h3.reslot (n:=n) (f:=(mkT n L m (US pin φ)).fr) hs.defers hs.hn (fun i=>(hs.fr i).heap hle (fun id hid=> ?_) (fun id hid=> ?_)) (fun i r hr=> ?_)
 ·obtain⟨j,hj,e⟩:=hin i _ hid;cases e;rw[(p2 _ hj).1,p1 _ hj]
 ·obtain⟨j,hj,e⟩:=hin i _ hid;cases e
 ·obtain⟨j,hj,rfl⟩:=hin i r hr;exact(p2 j hj).2
theorem WholeT.noL {L:List (Nat×PV)} {m:MemT} {p:List (Nat×Nat)} (h:WholeT L m p):WholeT [] m p:=⟨⟨fnl,h.t.2⟩,h.v,h.om,h.vr,h.pr,h.qr⟩
theorem BelowF.putB {B:Frm} {w w':World} {l:Nat} {o:Obj} (h:BelowF B w w') (hb:¬B l):BelowF B w (w'.putObj l o):=
 ⟨h.os,h.tape,h.output,by have:=h.size;simp;omega,fun k hk=>(World.putObj_heap_other (fun e=>by subst e;exact hb hk)).trans (h.block k hk)⟩
theorem Zfa {A:Type} {gf:Nat} {caps:List PV} {xs:List A} {enc:A→List PV} {N n:Nat} {g:Operand} {ps:Array Tmp} {assign body:Code} {Q:Exit→Act→World→Prop} {L:List (Nat×PV)} {pin:List Nat} {mt mx:List A→MemT} {Y X:List A→Prop}
  (hs:Sim B S M s a w) (hg:s.eval g= .fn gf caps) (hcaps:∀p∈caps,p.ids= []) (hseq:Zfi P gf caps xs enc ps.size) (henc:∀x∈xs,∀p∈enc x,p.ids= []) (hps:∀t∈ps,t<n)
  (h0:HasT n L (mt []) [] s) (hL:∀x∈L,∀r∈x.2.ids,∃i∈pin,r= .b i) (hp:∀i∈pin,s.m.h i≠none) (hY:Y [])
  (hw:∀pre φ,WholeT L (mt pre) (US pin φ)) (hwx:∀pre φ,WholeT L (mx pre) (US pin φ))
  (round:∀(l:Nat) (φ:Nat→Nat) (pre:List A) (x:A),x∈xs→pre.length<xs.length→Y pre→
   S4 l N P assign (Y0 (S4 l N P body (Zjm n (mt (pre++ [x])) (mx (pre++ [x])) (Y (pre++ [x])) (X (pre++ [x])) (US pin φ))) (fun _ _=>False)) (putL (mkT n L (mt pre) (US pin φ)) (ps.toList.zip (enc x))))
  (done:∀D φ S' M' W,Y xs→Sim B S' M' (mkT n L (mt xs) (US pin φ)) a W→Ext B S S' w W→W.heap[D]? = some (.deferred (some []))→w.heap.size≤D→Q .normal { a with defers:= { target:= .collected D,args:= #[] }::a.defers } W)
  (stop:∀D φ pre S' M' W,pre <+:xs→X pre→Sim B S' M' (mkT n L (mx pre) (US pin φ)) a W→Ext B S S' w W→W.heap[D]? = some (.deferred (some []))→w.heap.size≤D→Q .ret { a with defers:= { target:= .collected D,args:= #[] }::a.defers } W):
  (Code.rangeFunc g ps assign body).wpIn Fence.wide (N+2) P Q a w:=by
 refine wpIn_rangeFunc ?_;intro fn hfn;have hro:Fence.wide.round=none:=rfl;rw[hro];obtain⟨rec,hrec⟩:∃rec:LoopState→Option Code→Loop,rec=fun st pe=> { state:=st,pending:=pe,fn,tmps:=a.tmps,params:=ps,assign,body,defers:=w.heap.size }:=⟨_,rfl⟩
 obtain⟨W1,hW1⟩:∃W1,(w.alloc (.deferred (some []))).alloc (.loop (rec .ready none))=W1:=⟨_,rfl⟩;have hL1:W1.heap[w.heap.size+1]? = some (.loop (rec .ready none)):=by
  rw[←hW1];have:=World.alloc_heap_new (w.alloc (.deferred (some []))) (.loop (rec .ready none));rwa[World.size_alloc]at this
 have hK1:W1.heap[w.heap.size]? = some (.deferred (some [])):=by
  rw[←hW1];exact(Below.heap_alloc _ _ _ (by simp)).trans (World.alloc_heap_new w _)
 have eg:=hs.eval g;rw[hg]at eg;obtain⟨lb,hlb,hll,hlr⟩:=eg.fn_inv;obtain⟨hcal,hgive⟩:=hseq;obtain⟨gfn,c1,c2,c3⟩:=hcal;have hlbr:∀i,i<caps.length→Rep S (lb.getD i undef) (caps.getD i .any):=fun i hi=>by
  exact(hlr i hi).rep0 (hcaps _ (Ze hi))
 have hst1:StabS S W1:=by
  have:=((hs.lay (.deferred (some []))).lay (.loop (rec .ready none))).stable.s;rw[hW1]at this;exact this
 obtain⟨encs,henc1,hseq⟩:=hgive N S W1 ⟨lb⟩ hst1 (by simpa using hll) (fun i hi=>by simpa[Array.getD_eq_getD_getElem?,List.getD_eq_getElem?_getD]using hlbr i hi);have hWb:Below w.heap.size w W1:=by
  rw[←hW1];exact(((Below.refl _ w).alloc (Nat.le_refl _) _).alloc (by simp) _)
 have hWs:W1.heap.size=w.heap.size+2:=by rw[←hW1];simp
 -- the frame of the rounds:the book is left alone too
 obtain⟨B',hB'⟩:∃B':Frm,B'=fun k=>B k∨k=w.heap.size∨k=w.heap.size+1:=⟨_,rfl⟩
 have hBB:∀k,B k→B' k:=fun k hk=>by rw[hB'];exact .inl hk
 have hBD:B' w.heap.size:=by rw[hB'];exact .inr (.inl rfl)
 have hBl:B' (w.heap.size+1):=by rw[hB'];exact .inr (.inr rfl)
 let φ:Nat→Nat:=M.φ
 let J:List (Fin xs.length)→World→Prop:=fun pre W=>∃S' M',Y (pre.map fun k=>xs[k])∧Sim B' S' M' (mkT n L (mt (pre.map fun k=>xs[k])) (US pin φ)) a W∧Ext B S S' w W∧
  W.heap[w.heap.size+1]? = some (.loop (rec .ready none))∧W.heap[w.heap.size]? = some (.deferred (some []))
 let Jx:List (Fin xs.length)→World→Prop:=fun pre W=>∃S' M',X (pre.map fun k=>xs[k])∧Sim B' S' M' (mkT n L (mx (pre.map fun k=>xs[k])) (US pin φ)) a W∧Ext B S S' w W∧
  W.heap[w.heap.size+1]? = some (.loop (rec .done (some .ret)))∧W.heap[w.heap.size]? = some (.deferred (some []))
 have calm:∀(Z:List (Fin xs.length)→Prop) (st:List (Fin xs.length)→St) (o:Obj),ZmK fun pre W=>∃S' M',Z pre∧Sim B' S' M' (st pre) a W∧Ext B S S' w W∧W.heap[w.heap.size+1]? = some o∧W.heap[w.heap.size]? = some (.deferred (some [])):=by
  rintro Z st o pre W ⟨S',M',g0,g1,g2,g3,g4⟩
  have l1:=(Array.getElem?_eq_some_iff.1 g3).1;have l2:=(Array.getElem?_eq_some_iff.1 g4).1;refine⟨fun o=>⟨S',M',g0,g1.lay o,g2.trans ⟨SLe.refl _,fun _ _=>⟨fun _=>rfl,rfl⟩,(BelowF.refl B W).alloc (fun k hk=>g1.hB k (hBB k hk)) o⟩,(Below.heap_alloc W o _ l1).trans g3,(Below.heap_alloc W o _ l2).trans g4⟩,⟨S',M',g0,g1.world rfl,g2.trans ⟨SLe.refl _,fun _ _=>⟨fun _=>rfl,rfl⟩,(BelowF.refl B W).drew⟩,g3,g4⟩⟩
 have hc2:gfn.body≠none:=by intro h;simp[h]at c3
 refine⟨w.heap.size+1,[{ target:= .collected w.heap.size,args:= #[] }],W1,{ target:= .fn (.func gf) ⟨lb⟩,args:= #[.func (.yield (w.heap.size+1)) #[] #[]] },W1,gf,
  #[.func (.yield (w.heap.size+1)) #[] #[]]++⟨lb⟩,W1,?_,?_,?_,?_,(fun h=>by cases h),?_⟩
 ·rw[←hW1,hrec];exact run_enterLoop_outer _ _ _ _ _
 ·simp only[resolve,hlb];simp[go_sem]
 ·intro f' hf';trivial
 ·have hb:¬gfn.body=none:=hc2;simp[invoke,callFunc,program,Sem.run,c1,hb,c2]
 ·have hJ0:J [] W1:=by
   have h1:Sim B S M s a W1:=by rw[←hW1];exact(hs.lay _).lay _
   have h2:Sim B' S M s a W1:=h1.widen (hzz:=fun k hk=>hs.hz k fun h=>hk (hBB k h)) fun k hk=>by
    rw[hB']at hk;rcases hk with hk|rfl|rfl
    ·exact .inl hk
    ·exact .inr (.inr ⟨_,hK1⟩)
    ·exact .inr (.inl ⟨_,hL1⟩)
   exact⟨S,M,hY,(h2.pin hp).weak (h0.pin.weak (hw [] φ)) (Refs.mkStX (hw [] φ)),⟨SLe.refl _,(fun _ _=>⟨fun _=>rfl,rfl⟩),(BelowF.of hWb).mono hs.hB⟩,hL1,hK1⟩
  have hw0:∀pre φ,WholeT [] (mt pre) (US pin φ):=fun pre φ=>(hw pre φ).noL
  have hwx0:∀pre φ,WholeT [] (mx pre) (US pin φ):=fun pre φ=>(hwx pre φ).noL
  refine(hseq (w.heap.size+1) J Jx W1 (Below.refl _ _) (calm _ _ _) (calm _ _ _) ?_ hJ0).mono ?_
  · -- one round
   rintro pre k W ⟨S',M',g0,g1,g2,g3,g4⟩ hlen
   obtain⟨e1,e2,e3⟩:=henc1 k;have hy:=run_yield (P:=P) (args:=encs k) g3 (by rw[hrec];exact e1);rw[hrec]at hy;simp only[Zhg]at hy;refine⟨fn,_,assign,body,hy,roundIn_of_wpIn hfn ?_⟩;have hlt:w.heap.size+1<W.heap.size:=(Array.getElem?_eq_some_iff.1 g3).1;have hx:xs[k]∈xs:=List.getElem_mem _;have hpl:(pre.map fun k=>xs[k]).length<xs.length:=by rw[List.length_map];exact hlen
   have hzl:ps.toList.length=(enc xs[k]).length:=by rw[e2];simp
   have st:=Sim.putL (ps.toList.zip (enc xs[k])) (encs k).toList g1 (by simp only[List.length_zip,Array.length_toList];omega) (fun x hx=>hps _ (by have:=(List.of_mem_zip hx).1;simpa using this)) (fun x hx'=>henc _ hx _ (List.of_mem_zip hx').2) (fun i hi=>by
    have hi':i<ps.size:=by simp at hi;omega
    have h1:=(e3 i hi').mono g2.1;have h2:i<(enc xs[k]).length:=by omega
    rw[Zb hi,List.getElem_zip];rw[Zb h2]at h1;have e:(encs k).toList.getD i undef=(encs k).getD i undef:=by simp[Array.getD_eq_getD_getElem?,List.getD_eq_getElem?_getD]
    rw[e];exact h1)
   rw[List.map_fst_zip (by omega)]at st;have hround:=round (w.heap.size+1) φ (pre.map fun k=>xs[k]) xs[k] hx hpl g0;have hcat:(pre++ [k]).map (fun k=>xs[k])=(pre.map fun k=>xs[k])++ [xs[k]]:=by simp
   refine wpIn_mono (hround B' S' M' _ W st) ?_
   rintro e a1 w1 ⟨s1,S1,M1,q1,q2,q3⟩
   cases e with
   |normal=>
    have hl1:w1.heap[w.heap.size+1]? = some (.loop (rec .ready none)):=(q3.2.2.block _ hBl).trans g3;have hk1:w1.heap[w.heap.size]? = some (.deferred (some [])):=(q3.2.2.block _ hBD).trans g4;refine⟨_,run_beginRound hl1 (by rw[hrec]),?_⟩;have hl2:(w1.putObj (w.heap.size+1) (.loop { rec .ready none with state:= .busy })).heap[w.heap.size+1]? = some (.loop { rec .ready none with state:= .busy }):=World.putObj_heap_same (Array.getElem?_eq_some_iff.1 hl1).1;have hk2:(w1.putObj (w.heap.size+1) (.loop { rec .ready none with state:= .busy })).heap[w.heap.size]? = some (.deferred (some [])):=(World.putObj_heap_other (by omega)).trans hk1;have q2':=q2.book (.inl ⟨_,hl1⟩) (.loop { rec .ready none with state:= .busy });have x2:Ext B S' S1 W (w1.putObj (w.heap.size+1) (.loop { rec .ready none with state:= .busy })):=⟨q3.1,fun b hb=>q3.2.1 b (hBB b hb),(q3.2.2.mono hBB).putB (fun hb=>by have:=hs.hB _ hb;omega)⟩;refine wpIn_mono (q1 B' S1 M1 a1 _ q2') ?_
    rintro e2 a2 w2 ⟨s2,S2,M2,r1,r2,r3⟩
    have hl3:w2.heap[w.heap.size+1]? = some (.loop { rec .ready none with state:= .busy }):=(r3.2.2.block _ hBl).trans hl2;have hk3:w2.heap[w.heap.size]? = some (.deferred (some [])):=(r3.2.2.block _ hBD).trans hk2;have hle:SLe S' S2:=q3.1.trans r3.1;have fin:∀(jump:Option Code) (m2:MemT),HasT n [] m2 (US pin φ) s2→WholeT [] m2 (US pin φ)→
      (Instr.endRound (w.heap.size+1) jump).run P w2= .ok (.bool jump.isNone) (w2.putObj (w.heap.size+1) (.loop (rec (if jump.isNone then .ready else .done) jump)))∧
      Sim B' S2 M2 (mkT n L m2 (US pin φ)) a (w2.putObj (w.heap.size+1) (.loop (rec (if jump.isNone then .ready else .done) jump)))∧
      Ext B S S2 w (w2.putObj (w.heap.size+1) (.loop (rec (if jump.isNone then .ready else .done) jump)))∧
      (w2.putObj (w.heap.size+1) (.loop (rec (if jump.isNone then .ready else .done) jump))).heap[w.heap.size+1]? = some (.loop (rec (if jump.isNone then .ready else .done) jump))∧
      (w2.putObj (w.heap.size+1) (.loop (rec (if jump.isNone then .ready else .done) jump))).heap[w.heap.size]? = some (.deferred (some [])):=fun jump m2 hh hwh=>by
     have:=run_endRound (P:=P) jump hl3;rw[hrec]at this ⊢;refine⟨this,(g1.back hle r2 hh hL hwh).book (.inl ⟨_,hl3⟩) _,(g2.trans x2).trans ⟨r3.1,fun b hb=>r3.2.1 b (hBB b hb),(r3.2.2.mono hBB).putB (fun hb=>by have:=hs.hB _ hb;omega)⟩,World.putObj_heap_same (Array.getElem?_eq_some_iff.1 hl3).1,(World.putObj_heap_other (by omega)).trans hk3⟩
    cases e2 with
    |normal=>
     obtain⟨f1,f2,f3,f4,f5⟩:=fin none _ r1.2 (hw0 _ φ);exact⟨_,_,f1,.inl ⟨rfl,⟨S2,M2,by rw[hcat];exact r1.1,by rw[hcat];exact f2,f3,f4,f5⟩,fun _=>f2.stable.s.below (g2.1.trans hle)⟩⟩
    |ret=>
     obtain⟨f1,f2,f3,f4,f5⟩:=fin (some .ret) _ r1.2 (hwx0 _ φ);exact⟨_,_,f1,.inr ⟨rfl,S2,M2,by rw[hcat];exact r1.1,by rw[hcat];exact f2,f3,f4,f5⟩⟩
    |exit id=>exact r1.elim
    |goto t=>exact r1.elim
    |panic c=>exact r1.elim
    |outgrown=>exact r1.elim
   |ret=>exact q1.elim
   |exit id=>exact q1.elim
   |goto t=>exact q1.elim
   |panic c=>exact q1.elim
   |outgrown=>exact q1.elim
  · -- behind the iterator
   rintro e W2 ⟨⟨v,rfl⟩,(⟨ys,rfl,S',M',g0,g1,g2,g3,g4⟩|⟨pre,hpre,S',M',g0,g1,g2,g3,g4⟩)⟩
   ·subst hrec;have hr:=run_endLoop (P:=P) g3 (by simp);refine⟨none,_,hr,?_⟩;have he:(List.finRange xs.length).map (fun k=>xs[k])=xs:=by
     apply List.ext_getElem
     ·simp
     ·intro i h1 h2;simp
    have g1':=fun o=>(g1.widen (B':=B) (hzz:=hs.zle g2.1) fun k hk=> .inl (hBB k hk)).book (.inl ⟨_,g3⟩) o
    rw[he]at g1' g0;exact done w.heap.size φ S' M' _ g0 (g1' _) (g2.trans ⟨SLe.refl _,(fun _ _=>⟨fun _=>rfl,rfl⟩),(BelowF.refl _ _).putB (fun hb=>by have:=hs.hB _ hb;omega)⟩) ((World.putObj_heap_other (by omega)).trans g4) (Nat.le_refl _)
   ·subst hrec;have hr:=run_endLoop (P:=P) g3 (by simp);refine⟨some .ret,_,hr,?_⟩;have hpx:(pre.map fun k=>xs[k]) <+:xs:=by
     have he:(List.finRange xs.length).map (fun k=>xs[k])=xs:=by
      apply List.ext_getElem
      ·simp
      ·intro i h1 h2;simp
     have:=hpre.map (fun k=>xs[k]);rwa[he]at this
    have g1':=fun o=>(g1.widen (B':=B) (hzz:=hs.zle g2.1) fun k hk=> .inl (hBB k hk)).book (.inl ⟨_,g3⟩) o
    exact wpIn_ret (stop w.heap.size φ _ S' M' _ hpx g0 (g1' _) (g2.trans ⟨SLe.refl _,(fun _ _=>⟨fun _=>rfl,rfl⟩),(BelowF.refl _ _).putB (fun hb=>by have:=hs.hB _ hb;omega)⟩) ((World.putObj_heap_other (by omega)).trans g4) (Nat.le_refl _))
end
open Go.RowKit
section
variable {P:Program} {ops:Array Oper} {md:Region.Mode}
theorem GA {K:St→Prop} {i:Nat} {oi:Oper} {D:List Nat} (hi:ops[i]? = some oi) (hD:∀j∈D,∃oj,ops[j]? = some oj∧ ∃e∈oj.after,Region.binds md e=true∧(e.on=i∨e.on∈D)):
  ∀(fuel:Nat) (listed:Array Bool) (s s1:St),RefsD s→(∀j∈D,listed[j]? = some false)→
   (∀j oj,ops[j]? = some oj→j≠i→listed.getD j true=false→j∉D→oi.apart ops oj=true∧compat oi.op oj.op=true)→
   i∈Region.ready md ops listed→XI P ops oi s s1→
   ZhL P md ops K fuel (listed.setIfInBounds i true) s1→ZhL P md ops K (fuel+1) listed s:=by
 intro fuel
 induction fuel with
 |zero=>
  intro listed s s1 hR _ _ hr hy H;refine⟨fun h=>(by rw[h]at hr;cases hr),fun j hj=> ?_⟩
  by_cases hji:j=i
  ·subst hji;exact⟨oi,s1,hi,hy,H⟩
  ·have:=ready_mono hj hji;rw[H.1]at this;cases this
 |succ fuel ih=>
  intro listed s s1 hR hDu hfree hr hy H;refine⟨fun h=>(by rw[h]at hr;cases hr),fun j hj=> ?_⟩
  by_cases hji:j=i
  ·subst hji;exact⟨oi,s1,hi,hy,H⟩
  ·obtain⟨oj,s2,hoj,hy2,h1⟩:=H.2 j (ready_mono hj hji);obtain⟨hjun,oj',hoj',hall⟩:=mem_ready.1 hj;rw[hoj]at hoj';cases hoj';have hnot:j∉D:=fun hjd=>by
    obtain⟨oj',ho',e,he,hb,hon⟩:=hD j hjd;rw[hoj]at ho';cases ho';have h1:=hall e he hb;rcases hon with heq|hd
    ·have h0:=(mem_ready.1 hr).1;rw[heq]at h1;rcases Nat.lt_or_ge i listed.size with h'|h'
     ·simp[h']at h0 h1;rw[h0]at h1;cases h1
     ·simp[Array.getElem?_eq_none h']at h1
    ·have h2:=hDu _ hd;rw[Array.getD_eq_getD_getElem?,h2]at h1;cases h1
   obtain⟨hap,hcp⟩:=hfree j oj hoj hji hjun hnot;obtain⟨s1',hya,hyb⟩:=U2 hR.refs hap hcp hy hy2;have hfree':∀k ok,ops[k]? = some ok→k≠i→(listed.setIfInBounds j true).getD k true=false→k∉D→oi.apart ops ok=true∧compat oi.op ok.op=true:=fun k ok hk hki hun hno=>by
    refine hfree k ok hk hki ?_ hno
    by_cases hjk:j=k
    ·subst hjk;exact hjun
    ·rw[getD_set_ne true hjk]at hun;exact hun
   have hDu':∀k∈D,(listed.setIfInBounds j true)[k]? = some false:=fun k hk=>by
    have hjk:j≠k:=fun e=>hnot (by subst e;exact hk)
    rw[Array.getElem?_setIfInBounds_ne hjk];exact hDu k hk
   refine⟨oj,s1',hoj,hya,ih (listed.setIfInBounds j true) s1' s2 (ZM hR hya) hDu' hfree' (ready_mono hr (Ne.symm hji)) hyb ?_⟩;rw[Array.setIfInBounds_comm _ _ hji];exact h1
def SV (md:Region.Mode) (ops:Array Oper) (i:Nat):List Nat:=
 (List.range ops.size).foldl (fun D j=>match ops[j]? with
  |some oj=>if oj.after.any (fun e=>Region.binds md e&&(e.on==i||D.contains e.on))then j::D else D
  |none=>D) []
def ZjV (md:Region.Mode) (ops:Array Oper) (listed:Array Bool) (i:Nat):Bool:=
 match ops[i]? with
 |none=>false
 |some oi=>
  (SV md ops i).all (fun j=>listed[j]? == some false&&match ops[j]? with
   |some oj=>oj.after.any (fun e=>Region.binds md e&&(e.on==i||(SV md ops i).contains e.on))
   |none=>false)&&
  (List.range ops.size).all fun j=>j==i||listed.getD j true||match ops[j]? with
   |some oj=>(SV md ops i).contains j||(oi.apart ops oj&&compat oi.op oj.op)
   |none=>true
theorem Zey {i:Nat} {oi:Oper} {listed:Array Bool} (hi:ops[i]? = some oi) (h:ZjV md ops listed i=true):
  (∀j∈SV md ops i,∃oj,ops[j]? = some oj∧ ∃e∈oj.after,Region.binds md e=true∧(e.on=i∨e.on∈SV md ops i))∧(∀j∈SV md ops i,listed[j]? = some false)∧
  ∀j oj,ops[j]? = some oj→j≠i→listed.getD j true=false→j∉SV md ops i→oi.apart ops oj=true∧compat oi.op oj.op=true:=by
 generalize hDD:SV md ops i=D;unfold ZjV at h;simp only[hi,hDD,Bool.and_eq_true,List.all_eq_true,List.mem_range]at h;obtain⟨h1,h2⟩:=h;refine⟨fun j hj=> ?_,fun j hj=>by simpa using(h1 j hj).1,fun j oj hj hne hun hnd=> ?_⟩
 ·have h3:=(h1 j hj).2;cases ho:ops[j]? with
  |none=>rw[ho]at h3;cases h3
  |some oj=>
   rw[ho]at h3;obtain⟨e,he,hb⟩:=Array.any_eq_true'.1 h3;simp only[Bool.and_eq_true,Bool.or_eq_true,beq_iff_eq,List.contains_iff_mem]at hb;exact⟨oj,rfl,e,he,hb⟩
 ·have h3:=h2 j (Array.getElem?_eq_some_iff.1 hj).1;simp only[hj,Bool.or_eq_true,beq_iff_eq,hne,false_or,hun,Bool.false_eq_true,List.contains_iff_mem,hnd,Bool.and_eq_true]at h3;exact h3
def TV (md:Region.Mode) (ops:Array Oper):Nat→Nat→Array Bool→Bool
 |0,_,listed=>(Region.ready md ops listed).isEmpty
 |fuel+1,k,listed=>(Region.ready md ops listed).contains k&&ZjV md ops listed k&&TV md ops fuel (k+1) (listed.setIfInBounds k true)
def ZjQ (ops:Array Oper):Bool:=TV .any ops ops.size 0 (Array.replicate ops.size false)
theorem FW {K:St→Prop}:∀(l:List Oper) (k:Nat) (listed:Array Bool) (s:St),RefsD s→(∀j,l[j]? = ops[k+j]?)→
  TV md ops l.length k listed=true→Zbg P ops K l s→ZhL P md ops K l.length listed s
 | [],_,_,_,_,_,hB,h=>⟨by simpa[TV]using hB,h⟩
 |o::l,k,listed,s,hR,hl,hB,h=>by
  have h0:ops[k]? = some o:=by simpa using(hl 0).symm
  simp only[List.length_cons,TV,Bool.and_eq_true]at hB;obtain⟨⟨hr,hf⟩,hB'⟩:=hB;obtain⟨hd,h⟩:=h;obtain⟨f1,f2,f3⟩:=Zey h0 hf;have hl':∀j,l[j]? = ops[(k+1)+j]? :=fun j=>by have:=hl (j+1);simpa[Nat.add_assoc,Nat.add_comm 1 j]using this
  rcases h with ⟨hg,v,m',hst,hrest⟩|⟨hg,hrest⟩
  ·have hy:XI P ops o s ((s.with m').put o.dst v):=⟨hd,.inl ⟨hg,v,m',hst,rfl⟩⟩;exact GA h0 f1 l.length listed s _ hR f2 f3 (by simpa using hr) hy (FW l (k+1) _ _ (ZM hR hy) hl' hB' hrest)
  ·have hy:XI P ops o s (s.put o.dst (.tup [])):=⟨hd,.inr ⟨hg,rfl⟩⟩;exact GA h0 f1 l.length listed s _ hR f2 f3 (by simpa using hr) hy (FW l (k+1) _ _ (ZM hR hy) hl' hB' hrest)
variable {l n:Nat}
theorem Zek {id:Nat} {Q:Exit→St→Prop} {s:St} (hm:P.follows .mixedOrders=true) (hB:ZjQ ops=true) (h:Zbg P ops (Q .normal) ops.toList s):S4 l n P (.region id ops true) Q s:=fun B S M a w hs=>by
 refine wpIn_region_any hm ?_;have he:Ext B S S w { w with drawn:=w.drawn+1 }:=⟨SLe.refl _,fun _ _=>⟨fun _=>rfl,rfl⟩,(BelowF.refl B w).drew⟩;have hs':Sim B S M s a { w with drawn:=w.drawn+1 }:=hs.world rfl;have:=FW (P:=P) (K:=Q .normal) (md:= .any) ops.toList 0 (Array.replicate ops.size false) s hs.refsD (by simp) (by simpa[ZjQ]using hB) h;have:=Tk (l:=l) (n:=n) (B:=B) (S0:=S) (w0:=w) (Qc:=fun e a' w'=>∃s' S' M',Q e s'∧Sim B S' M' s' a' w'∧Ext B S S' w w') (fun s' S' M' a' w' h1 h2 h3=>⟨s',S',M',h1,h2,h3⟩) _ _ s this S M a _ hs' he;simpa using this
theorem Zg1 {id:Nat} {li:List Oper} {Q:Exit→St→Prop} {s:St} (hm:P.follows .mixedOrders=true) (hB:ZjQ li.toArray=true) (h:@vA P false ⟨@vQ ⟨Q⟩ .normal⟩ ⟨li⟩ ⟨li⟩ s):S4 l n P (.region id li.toArray true) Q s:=
 Zek hm hB (by rw[List.toList_toArray];exact Vj li s h)
end
open Go.RowKit
section
variable {P:Program} {l n:Nat} {s s':St} {Q Q':Exit→St→Prop}
theorem ZkH (c:Code) (Q:QS) (s:St):@vR l n P ⟨.loop c⟩ Q s=S4 l n P (.loop c) Q.q s:=rfl
end
attribute [go_sem] ZkH
open Go.RowKit
def md (a:Act) (D:List Deferred):Act:= { tmps:=a.tmps,defers:=a.defers++D }
theorem Zj3 (a:Act) (D:List Deferred):(md a D).eval=a.eval:=rfl
theorem Fo (a:Act) (D:List Deferred) (d:Option Tmp) (v:Value):(md a D).put d v=md (a.put d v) D:=by cases d<;>rfl
section
variable {P:Program} {n:Nat} {D:List Deferred}
theorem Zgs {o:Oper} {a:Act} {w:World} {next:Act→World→Prop} {Q:Exit→Act→World→Prop} (h:o.wp P a w (fun a w=>next (md a D) w) (fun e a w=>Q e (md a D) w)):o.wpIn Fence.wide n P (md a D) w next Q:=by
 refine⟨fun f _=>trivial,?_⟩;rw[show Fence.wide.round=none from rfl,Oper.semAt_none,Zj3];unfold Oper.wp at h;generalize (execOp a.eval o).run P w=r at h ⊢;cases r with
 |ok x w'=>
  cases x with
  |value v=>rw[Oper.uponIn_value,Fo];exact h
  |skip=>rw[Oper.uponIn_skip,Fo];exact h
  |defer d=>
   rw[Oper.uponIn_defer];have e:({ md a D with defers:=d::(md a D).defers }:Act)=md { a with defers:=d::a.defers } D:=rfl;rw[e,Fo];exact h
  |enter f args=>
   refine⟨fun hh=>absurd (show false=true from hh) (by decide),((callsIn_wide (n:=n-1)).2 h).mono ?_⟩;intro e w'' he;cases e with
   |returned v=>show next ((md a D).put o.dst v) w'';rw[Fo];exact he
   |panicked c=>exact he
   |outgrown=>obtain⟨a1,w1,h1⟩:LetsOut (fun e a w=>Q e (md a D) w):=he;exact⟨_,w1,h1⟩
  |row row args=>
   refine⟨fun hh=>absurd (show false=true from hh) (by decide),fun c cs _=> ?_⟩;obtain⟨v,w'',r,s⟩:=h c cs;exact⟨v,w'',by show next ((md a D).put o.dst v) w'';rw[Fo];exact r,stepsIn_wide.2 s⟩
  |_=>first|exact h|exact False.elim h
 |halt x w'=>cases x<;>exact h
def Zft (D:List Deferred) (n:Nat) (P:Program) (c:Code) (Q:Exit→St→Prop) (s:St):Prop:=
 ∀B S M a w,Sim B S M s a w→c.wpIn Fence.wide n P (fun e a' w'=>∃s' S' M' a0,Q e s'∧a'=md a0 D∧Sim B S' M' s' a0 w'∧Ext B S S' w w') (md a D) w
theorem UO {B:Frm} {ops:Array Oper} {K:St→Prop} {Qc:Exit→Act→World→Prop} {S0:Stable} {w0:World} (hQ:∀s' S' M' a' w',K s'→Sim B S' M' s' a' w'→Ext B S0 S' w0 w'→Qc .normal (md a' D) w'):
  ∀(li:List Oper) (k:Nat) (s:St),(∀j,li[j]? = ops[k+j]?)→ZaB P ops K li s→ ∀S M a w,Sim B S M s a w→Ext B S0 S w0 w→wpOpsIn Fence.wide n P ops Qc (List.range' k li.length) (md a D) w
 | [],k,s,_,h,S,M,a,w,hs,he=>hQ s S M a w h hs he
 |o::rest,k,s,hl,h,S,M,a,w,hs,he=>by
  have h0:ops[k]? = some o:=by simpa using(hl 0).symm
  have hl':∀j,rest[j]? = ops[(k+1)+j]? :=fun j=>by have:=hl (j+1);simpa[Nat.add_assoc,Nat.add_comm 1 j]using this
  obtain⟨hd,h⟩:=h;simp only[List.length_cons,List.range'_succ,wpOpsIn,h0];rcases h with ⟨hg,⟨v,m',hst,hrest⟩|hsp⟩|⟨hg,hrest⟩
  ·rw[show yielded ops (md a D).tmps=yielded ops a.tmps from rfl,Vi hs hg,if_pos rfl];exact Zgs (YY hs (Z1 hd) hst _ _ fun u w' S' M' hs' he'=>UO hQ rest (k+1) _ hl' hrest S' M' _ w' hs' (he.trans he'))
  ·rw[show yielded ops (md a D).tmps=yielded ops a.tmps from rfl,Vi hs hg,if_pos rfl];exact Zgs (VK hs (Z1 hd) hsp _ _ fun s' u w' S' M' hk hs' he'=>UO hQ rest (k+1) s' hl' hk S' M' _ w' hs' (he.trans he'))
  ·rw[show yielded ops (md a D).tmps=yielded ops a.tmps from rfl,Vi hs hg,if_neg (by simp)];rw[Fo];exact⟨fun _ _=>trivial,UO hQ rest (k+1) _ hl' hrest S M _ w (Vc hs hd) he⟩
variable {s:St} {Q Q':Exit→St→Prop}
theorem ZaP {c:Code} (h:∀e s,Q e s→Q' e s) (hh:Zft D n P c Q s):Zft D n P c Q' s:=fun B S M a w hs=>
 wpIn_mono (hh B S M a w hs) fun e a' w' ⟨s',S',M',a0,h1,h2,h3,h4⟩=>⟨s',S',M',a0,h _ _ h1,h2,h3,h4⟩
theorem Zce {id:Nat} {ops:Array Oper} (h:ZaB P ops (Q .normal) ops.toList s):Zft D n P (.region id ops false) Q s:=fun B S M a w hs=>by
 refine wpIn_region ?_;have:=UO (n:=n) (D:=D) (B:=B) (S0:=S) (w0:=w) (Qc:=fun e a' w'=>∃s' S' M' a0,Q e s'∧a'=md a0 D∧Sim B S' M' s' a0 w'∧Ext B S S' w w') (fun s' S' M' a' w' h1 h2 h3=>⟨s',S',M',a',h1,rfl,h2,h3⟩) ops.toList 0 s (by simp) h S M a w hs (Ext.refl _ _ _);rw[←List.range_eq_range']at this;simpa using this
theorem Zfv (h:Q .normal s):Zft D n P .skip Q s:=fun B S M a w hs=>wpIn_skip ⟨s,S,M,a,h,rfl,hs,Ext.refl _ _ _⟩
theorem ZhS (h:Q .ret s):Zft D n P .ret Q s:=fun B S M a w hs=>wpIn_ret ⟨s,S,M,a,h,rfl,hs,Ext.refl _ _ _⟩
theorem ZhT {x y:Code} (h:Zft D n P x (Y0 (Zft D n P y Q) Q) s):Zft D n P (.seq x y) Q s:=fun B S M a w hs=>by
 refine wpIn_seq (wpIn_mono (h B S M a w hs) fun e a' w' hq=> ?_);obtain⟨s',S',M',a0,h1,rfl,h2,h3⟩:=hq;cases e with
 |normal=>
  refine wpIn_mono (h1 B S' M' a0 w' h2) fun e a'' w'' hq'=> ?_
  obtain⟨s'',S'',M'',a1,g1,g2,g3,g4⟩:=hq';exact⟨s'',S'',M'',a1,g1,g2,g3,h3.trans g4⟩
 |_=>exact⟨s',S',M',a0,h1,rfl,h2,h3⟩
theorem Zfu {c:Operand} {x y:Code} {b:Bool} (hc:s.eval c= .bool b) (h:Zft D n P (if b then x else y) Q s):Zft D n P (.cond c x y) Q s:=fun B S M a w hs=>by
 have he:=hs.eval c;rw[hc]at he;exact wpIn_cond (a:=md a D) he.bool_inv (h B S M a w hs)
def vcD (P:Program):Code→(Exit→St→Prop)→St→Prop
 | .skip,Q,s=>Q .normal s
 | .ret,Q,s=>Q .ret s
 | .seq x y,Q,s=>vcD P x (Y0 (vcD P y Q) Q) s
 | .cond c x y,Q,s=>Sb (s.eval c) (vcD P x Q s) (vcD P y Q s)
 | .region _ ops false,Q,s=>vcA P true ops (Q .normal) ops.toList s
 |_,_,_=>False
theorem UE:∀(c:Code) (Q:Exit→St→Prop) (s:St),vcD P c Q s→Zft D n P c Q s
 | .skip,Q,s,h=>Zfv h
 | .ret,Q,s,h=>ZhS h
 | .seq x y,Q,s,h=>ZhT (ZaP (fun e s' h'=>by
   cases e with
   |normal=>exact UE y Q s' h'
   |_=>exact h') (UE x _ s h))
 | .cond c x y,Q,s,h=>by
  unfold vcD Sb at h;split at h
  ·rename_i b hb;refine Zfu hb ?_;cases b
   ·exact UE y Q s (h.2 rfl)
   ·exact UE x Q s (h.1 rfl)
  ·exact h.elim
 | .region _ ops false,Q,s,h=>Zce (Wo _ _ h)
 | .region _ ops true,Q,s,h=>False.elim h
 | .label _,Q,s,h=>False.elim h
 | .exit _,Q,s,h=>False.elim h
 | .goto _,Q,s,h=>False.elim h
 | .block _ _,Q,s,h=>False.elim h
 | .loop _,Q,s,h=>False.elim h
 | .rangeFunc ..,Q,s,h=>False.elim h
 | .scope _,Q,s,h=>False.elim h
 | .refuse _,Q,s,h=>False.elim h
end
def vD (P:Program) [C:COD] [Q:QS] (s:St):Prop:=vcD P C.c Q.q s
section
variable {P:Program}
theorem Zi4 {c:Code} {Q:Exit→St→Prop} {s:St} (h:@vD P ⟨c⟩ ⟨Q⟩ s):vcD P c Q s:=h
theorem ZkB (Q:QS) (s:St):@vD P ⟨.skip⟩ Q s= @vQ Q .normal s:=rfl
theorem Zme (Q:QS) (s:St):@vD P ⟨.ret⟩ Q s= @vQ Q .ret s:=rfl
theorem Zmf (x y:Code) (Q:QS) (s:St):@vD P ⟨.seq x y⟩ Q s= @vD P ⟨x⟩ ⟨Y0 (@vD P ⟨y⟩ Q) Q.q⟩ s:=rfl
theorem ZkA (c:Operand) (x y:Code) (Q:QS) (s:St):@vD P ⟨.cond c x y⟩ Q s= @ZbV (s.eval c) ⟨@vD P ⟨x⟩ Q s⟩ ⟨@vD P ⟨y⟩ Q s⟩:=rfl
theorem Zg0 (id:Nat) (li:List Oper) (Q:QS) (s:St):@vD P ⟨.region id li.toArray false⟩ Q s= @vA P true ⟨@vQ Q .normal⟩ ⟨li⟩ ⟨li⟩ s:=rfl
end
attribute [go_sem] ZkB Zme Zmf ZkA Zg0
section
variable {P:Program}
theorem Pure.range {A:Type} {n:Nat} {rs:List ResultVar} {f:FuncId} {fn:Func} {c:Code} {args:List PV} {r:PV} (k:Nat) {Q1:St→Prop}
  {gf:Nat} {caps:List PV} {xs:List A} {enc:A→List PV} {g:Operand} {ps:Array Tmp} {e1 assign body tail:Code} {id:Nat} {L:List (Nat×PV)} {pin:List Nat} {mt mx:List A→MemT} {Y X:List A→Prop}
  (hf:P.funcs[f]? = some fn) (hname:fn.name≠ "runtime.NumGoroutine") (hb:fn.body=some c) (hn:fn.ntmps=n) (hrs:fn.results=rs.toArray) (hl:args.length≤n) (hi:r.dids= [])
  (h1:Zko P (awp P e1 (Y0 Q1 fun _ _=>False)) k c (St.init args n)) (hd:Zh5 k c= .seq (.seq e1 (.block id (.rangeFunc g ps assign body))) tail)
  (hQ:∀s,Q1 s→s.eval g= .fn gf caps∧HasT n L (mt []) [] s∧ ∀i∈pin,s.m.h i≠none)
  (hcaps:∀p∈caps,p.ids= []) (hseq:Zfi P gf caps xs enc ps.size) (henc:∀x∈xs,∀p∈enc x,p.ids= []) (hps:∀t∈ps,t<n)
  (hL:∀x∈L,∀r∈x.2.ids,∃i∈pin,r= .b i) (hY:Y [])
  (hw:∀pre φ,WholeT L (mt pre) (US pin φ)) (hwx:∀pre φ,WholeT L (mx pre) (US pin φ))
  (round:∀(l:Nat) (φ:Nat→Nat) (pre:List A) (x:A),x∈xs→pre.length<xs.length→Y pre→
   S4 l 0 P assign (Y0 (S4 l 0 P body (Zjm n (mt (pre++ [x])) (mx (pre++ [x])) (Y (pre++ [x])) (X (pre++ [x])) (US pin φ))) (fun _ _=>False)) (putL (mkT n L (mt pre) (US pin φ)) (ps.toList.zip (enc x))))
  (done:Y xs→ ∀φ,vcD P tail (Zb1 P rs r) (mkT n L (mt xs) (US pin φ)))
  (stop:∀pre,pre <+:xs→X pre→ ∀φ,Zb1 P rs r .ret (mkT n L (mx pre) (US pin φ))):Pure P f args r:=by
 subst hn;have key:∀s,Zay P r s [] rs→Zjn P fn r s:=fun s hv=>by
  unfold Zjn;rw[hrs];simpa using Sa (fn:=fn) rs [] hv
 have keyQ:∀e s,Zb1 P rs r e s→Znm P fn r e s:=fun e s hv=>by
  cases e with
  |normal=>exact key s hv
  |ret=>exact key s hv
  |_=>exact hv
 refine⟨⟨fn,hf,hname,by rw[hb];rfl⟩,hi,fun w S vs hst hyo hlen hrep=> ?_⟩;refine(callsIn_wide (n:=2)).1 (callsIn_of_wp_marks hf hb trivial ?_);have hs:=Zao (B:=fun k=>k<w.heap.size) (w:=w) (n:=fn.ntmps) (o:=fun _=>none) hl hlen hrep (fun k hk=>hk) ⟨hst,fun b c hc=>by simp at hc,fun b x hx=>by simp at hx⟩ (fun k hk=>hyo k (Nat.le_of_not_lt hk));have hsz:(⟨vs⟩:Array Value).size=vs.length:=by simp
 rw[hsz];refine wpIn_wide.2 (SK (B:=fun k=>k<w.heap.size) (S0:=S) (w0:=w) k c _ S _ _ w h1 hs (Ext.refl _ _ _) fun s0 S0 M0 a0 w0 hq0 hs0 hx0=>(wpIn_wide (n:=2)).1 ?_);rw[hd];refine wpIn_seq (wpIn_seq (wpIn_mono (wpIn_wide.2 (hq0 _ S0 M0 a0 w0 hs0)) ?_))
 rintro e a' w' ⟨s',S',M',hq,hs',hx1⟩
 have hx:=hx0.trans hx1;obtain⟨rfl,hq⟩:e= .normal∧Q1 s':=by cases e<;>first|exact⟨rfl,hq⟩|exact hq.elim
 obtain⟨q1,q2,q3⟩:=hQ s' hq;have fin:∀(Dd:Nat) (s2:St) (S2:Stable) (M2:Maps) (a2:Act) (w2:World),Sim (fun k=>k<w.heap.size) S2 M2 s2 a2 w2→Ext (fun k=>k<w.heap.size) S S2 w w2→w2.heap[Dd]? = some (.deferred (some []))→w.heap.size≤Dd→Zjn P fn r s2→
   LeavesInM Fence.wide 2 P fn a2.tmps (fun en w''=>∃v S3,en= .returned v∧Rep S3 v r∧StabS S3 w''∧SLe S S3∧(∀b,b<w.heap.size→(∀o,S3 b o=S b o)∧S3.m b=S.m b)∧Below w.heap.size w w'') [{ target:= .collected Dd,args:= #[] }] .returning w2:=by
  rintro Dd s2 S2 M2 a2 w2 g1 g2 g3 g4 ⟨p1,p2,p3⟩
  have g5:=g1.book (.inr ⟨_,g3⟩) (.deferred none);have g6:Ext (fun k=>k<w.heap.size) S S2 w (w2.putObj Dd (.deferred none)):=⟨g2.1,g2.2.1,g2.2.2.putB (by omega)⟩;obtain⟨v,hv,hrv⟩:=VY g5 p1;refine⟨by simp,.inl ⟨Dd,_,rfl,run_takeDeferred g3,v,hv,v,S2,rfl,?_,g5.stable.s,g6.1,g6.2.1,g6.2.2.to⟩⟩;rw[p3];exact hrv.give g5 p2
 have hsize:w.heap.size≤w'.heap.size:=hx.2.2.size;have hmd:∀Dd,({ a' with defers:= { target:= .collected Dd,args:= #[] }::a'.defers }:Act)=md a' [{ target:= .collected Dd,args:= #[] }]:=fun Dd=>by
  unfold md;rw[hs'.defers];rfl
 refine wpIn_block (Zfa hs' q1 hcaps hseq henc hps q2 hL q3 hY hw hwx round ?_ ?_)
 ·intro Dd φ S2 M2 W hYx g1 g2 g3 g4;rw[hmd];have hB2:∀k,(k<w.heap.size∨k=Dd)→k<w.heap.size∨Book W k:=fun k hk=>hk.imp (fun h=>h) fun e=>by subst e;exact .inr ⟨_,g3⟩
  have g1':=g1.widen (B':=fun k=>k<w.heap.size∨k=Dd) hB2 (fun k hk=>hs'.zle g2.1 k fun h=>hk (.inl h));refine wpIn_mono (ZaP keyQ (UE (D:= [{ target:= .collected Dd,args:= #[] }]) (n:=2) tail _ _ (done hYx φ)) _ S2 M2 a' W g1') ?_
  rintro e a3 w3 ⟨s3,S3,M3,a0,k1,rfl,k3,k4⟩
  have k5:Ext (fun k=>k<w.heap.size) S S3 w w3:=(hx.trans g2).trans (k4.mono fun k hk=> .inl hk);have k6:Sim (fun k=>k<w.heap.size) S3 M3 s3 a0 w3:=k3.widen (hzz:=hs'.zle (g2.1.trans k4.1)) fun k hk=> .inl (.inl hk)
  have k7:w3.heap[Dd]? = some (.deferred (some [])):=(k4.2.2.block Dd (.inr rfl)).trans g3;have hdd:(md a0 [{ target:= .collected Dd,args:= #[] }]).defers= [{ target:= .collected Dd,args:= #[] }]:=by
   unfold md;rw[k6.defers];rfl
  cases e with
  |normal=>
   show LeavesInM Fence.wide 2 P fn a0.tmps _ (md a0 _).defers .returning w3;rw[hdd];exact fin Dd s3 S3 M3 a0 w3 k6 k5 k7 (by omega) k1
  |ret=>
   show LeavesInM Fence.wide 2 P fn a0.tmps _ (md a0 _).defers .returning w3;rw[hdd];exact fin Dd s3 S3 M3 a0 w3 k6 k5 k7 (by omega) k1
  |_=>exact k1.elim
 ·intro Dd φ pre S2 M2 W hpre hX g1 g2 g3 g4;rw[hmd];have hdd:(md a' [{ target:= .collected Dd,args:= #[] }]).defers= [{ target:= .collected Dd,args:= #[] }]:=by
   unfold md;rw[hs'.defers];rfl
  show LeavesInM Fence.wide 2 P fn a'.tmps _ (md a' _).defers .returning W;rw[hdd];exact fin Dd _ S2 M2 a' W g1 (hx.trans g2) g3 (by omega) (key _ (stop pre hpre hX φ))
end
open Go.RowKit
def Zl9:List PV→Tok
 | []=> .no
 |_::_=> .fr
def PV.frl (es:List PV):PV:= .sl (Zl9 es) es
section
variable {es:List PV}
theorem ZfZ:(PV.frl es).ids= []:=by cases es<;>rfl
theorem Zdw:(PV.frl es).dids=PV.didsL es:=by cases es<;>rfl
theorem Zkp:(Zl9 es).sh=Zl9 es:=by cases es<;>rfl
theorem ZiT:(PV.sl (Zl9 es) es).ids= []:=ZfZ
theorem ZgW:(PV.sl (Zl9 es) es).dids=PV.didsL es:=Zdw
attribute [go_sem] PV.frl
attribute [go_sem ↓ high] Zkp ZiT ZgW
theorem Pub.frl {K:Ref→Prop} {m:Hp} {id n sz:Nat} {e:TypeId} (hq:m.q id=some (.live n sz e)) (hn:es.length=n):Pub K m (.sl (.row id) es) (PV.frl es):=by
 cases es with
 |nil=>exact .row id []
 |cons x l=>exact .rowf id n sz e _ hq hn
theorem Pub.tup2 {K:Ref→Prop} {m:Hp} {a a' b b':PV} (h1:Pub K m a a') (h2:Pub K m b b'):Pub K m (.tup [a,b]) (.tup [a',b']):= .tup [a,b] [a',b'] rfl fun i hi=>by
 match i,hi with
 |0,_=>exact h1
 |1,_=>exact h2
end
mutual
def PV.nofr:PV→Bool
 | .sl t es=>(t != .fr)&&PV.nofrL es
 | .rptr cs=>PV.nofrL cs
 | .rmap ks vs=>PV.nofrL ks&&PV.nofrL vs
 | .agg cs=>PV.nofrL cs
 | .tup cs=>PV.nofrL cs
 | .fn _ cs=>PV.nofrL cs
 |_=>true
def PV.nofrL:List PV→Bool
 | []=>true
 |c::cs=>PV.nofr c&&PV.nofrL cs
end
theorem YW:∀ {cs:List PV} (h:PV.nofrL cs=true) (i:Nat),(cs.getD i .any).nofr=true
 | [],_,i=>by simp[PV.nofr]
 |c::cs,h,0=>by simp[PV.nofrL]at h;simpa using h.1
 |c::cs,h,i+1=>by simp[PV.nofrL]at h;simpa using YW h.2 i
theorem Gn:∀ {cs:List PV} (h:∀c∈cs,c.nofr=true),PV.nofrL cs=true
 | [],_=>rfl
 |c::cs,h=>by simp only[PV.nofrL,Bool.and_eq_true];exact⟨h c (by simp),Gn fun x hx=>h x (by simp[hx])⟩
theorem ZeI {p:PV} (h:p.nofr=true) (j:Nat):(p.cells.getD j .any).nofr=true:=by
 have one:∀q:PV,q.nofr=true→(([q]:List PV).getD j .any).nofr=true:=fun q hq=>by
  cases j with
  |zero=>exact hq
  |succ j=>rfl
 cases p with
 |agg cs=>exact YW (cs:=cs) h j
 |_=>exact one _ h
theorem Rep.rez {S S':Stable} (hc:S'.c=S.c) (hm:S'.m=S.m) {v:Value} {p:PV} (r:Rep S v p) (h:p.nofr=true):Rep S' v p:=by
 induction r with
 |any v=>exact .any v
 |int k n=>exact .int k n
 |bool b=>exact .bool b
 |str l=>exact .str l
 |flt k b=>exact .flt k b
 |cpx k a b=>exact .cpx k a b
 |agg vs cs hl _ ih=>exact .agg vs cs hl (fun i hi=>ih i hi (YW h i))
 |tup vs cs hl _ ih=>exact .tup vs cs hl (fun i hi=>ih i hi (YW h i))
 |sl0 a cap=>exact .sl0 a cap
 |slnil=>exact .slnil
 |sl b o cap sz es vals hsz hcap hS _ ih=>
  simp only[PV.nofr,Bool.and_eq_true]at h;exact .sl b o cap sz es vals hsz hcap (fun i j hi hj=>by rw[hc];exact hS i j hi hj) (fun i j hi hj=>ih i j hi hj (ZeI (YW h.2 i) j))
 |slf v es _ hz ih=>simp[PV.nofr]at h
 |rptr b o cs vals hS _ ih=>exact .rptr b o cs vals (fun j hj=>by rw[hc];exact hS j hj) (fun j hj=>ih j hj (YW h j))
 |nilp=>exact .nilp
 |nilfn=>exact .nilfn
 |nilmap=>exact .nilmap
 |mref b=>exact .mref b
 |iptr b=>exact .iptr b
 |rmap b es ks vs hS hk hv hb _ _ ihK ihV=>
  simp only[PV.nofr,Bool.and_eq_true]at h;exact .rmap b es ks vs (by rw[hm];exact hS) hk hv hb (fun i hi=>ihK i hi (YW h.1 i)) (fun i hi=>ihV i hi (YW h.2 i))
 |fn f vs cs hl _ ih=>exact .fn f vs cs hl (fun i hi=>ih i hi (YW h i))
section
variable {P:Program}
end
open Go.RowKit
section
variable {P:Program} {ops:Array Oper} {Q:Exit→Act→World→Prop} {md:Region.Mode} {S:World→Prop}
def Closed (md:Region.Mode) (ops:Array Oper) (listed:Array Bool):Prop:=
 ∀x ox,ops[x]? = some ox→listed.getD x true=true→ ∀e∈ox.after,Region.binds md e=true→listed.getD e.on false=true
theorem Closed.step {listed:Array Bool} {j:Nat} (h:Closed md ops listed) (hj:j∈Region.ready md ops listed):Closed md ops (listed.setIfInBounds j true):=by
 intro x ox hx hl e he hb;refine getD_set_true ?_
 by_cases e':j=x
 ·subst e';obtain⟨_,o,ho,hall⟩:=mem_ready.1 hj;rw[ho]at hx;cases hx;exact hall e he hb
 ·rw[getD_set_ne true e']at hl;exact h x ox hx hl e he hb
def F6 (md:Region.Mode) (ops:Array Oper) (last:Nat):Bool:=
 (List.range last).all fun i=>(List.range (last+1)).any fun j=>decide (i<j)&&((ops[j]?).map fun o=>o.after.any fun e=>Region.binds md e&&e.on==i).getD false
theorem ZeF {listed:Array Bool} {last:Nat} (hc:F6 md ops last=true) (hcl:Closed md ops listed) (hl:last∈Region.ready md ops listed) (hsz:listed.size=ops.size):
  ∀(n i:Nat),i<last→last-i≤n→listed.getD i true=true:=by
 have key:∀(n i:Nat),i<last→last-i≤n→listed.getD i false=true:=by
  intro n
  induction n with
  |zero=>intro i hi hn;omega
  |succ n ih=>
   intro i hi hn;simp only[F6,List.all_eq_true,List.mem_range,List.any_eq_true,Bool.and_eq_true,decide_eq_true_eq]at hc;obtain⟨j,hj,hij,hd⟩:=hc i hi;cases ho:ops[j]? with
   |none=>rw[ho]at hd;cases hd
   |some o=>
    rw[ho]at hd;simp only[Option.map_some,Option.getD_some]at hd;obtain⟨e,he,hb⟩:=Array.any_eq_true'.1 hd;simp only[Bool.and_eq_true,beq_iff_eq]at hb;rw[←hb.2]
    by_cases hjl:j=last
    ·subst hjl;obtain⟨_,o',ho',hall⟩:=mem_ready.1 hl;rw[ho]at ho';cases ho';exact hall e he hb.1
    ·have hjs:j<ops.size:=(Array.getElem?_eq_some_iff.1 ho).1;have h1:=ih j (by omega) (by omega);have h2:listed.getD j true=true:=by
      have hj2:j<listed.size:=by omega
      simp[hj2]at h1 ⊢;exact h1
     exact hcl j o ho h2 e he hb.1
 intro n i hi hn;have h1:=key n i hi hn
 by_cases hs:i<listed.size
 ·simp[hs]at h1 ⊢;exact h1
 ·simp[Array.getElem?_eq_none (Nat.le_of_not_lt hs)]at h1
def Zlp (P:Program) (ops:Array Oper) (S:World→Prop) (K:Act→Prop):List Oper→Act→Prop
 | [],a=>K a
 |o::rest,a=>∃v,YieldsIf P ops S o v a∧Zlp P ops S K rest (a.put o.dst v)
end
open Go.RowKit
section
variable {P:Program} {ev:Operand→Value} {w:World} {dst:Option Nat} {ty:TypeId} {pos:String} {af:Array Edge} {g:Option (Nat×Bool)}
end
structure RS (N:Nat) (a:Act) (f:Nat→Value):Prop where
 d:a.defers= []
 n:a.tmps.size=N
 f:∀i,a.tmps.getD i undef=f i
theorem RS.tmp {N:Nat} {a:Act} {f:Nat→Value} (h:RS N a f) (i:Nat):a.eval (.tmp i)=f i:=by rw[←h.f i];rfl
theorem RS.put {N d:Nat} {a:Act} {f:Nat→Value} (h:RS N a f) (hd:d<N) (v:Value):RS N (a.put (some d) v) (upd f d v):=
 ⟨h.d,by simp[Act.put,h.n],fun i=>by
  have:=h.f i;have hn:=h.n;simp only[Act.put,upd,Array.getD_eq_getD_getElem?,Array.getElem?_setIfInBounds]at this ⊢
  by_cases e:d=i
  ·subst e;simp[hn,hd]
  ·simp[e];exact this⟩
theorem RS.skip {N:Nat} {a:Act} {f:Nat→Value} (h:RS N a f) (v:Value):RS N (a.put none v) f:=h
section
variable {P:Program} {N:Nat} {a:Act} {w:World} {f:Nat→Value} {Q:Exit→Act→World→Prop}
end
def LikeV (v v':Value):Prop:=v'=v∨(∃m n,v= .int .i64 m∧v'= .int .i64 n)∨ ∃m n,v= .string m∧v'= .string n
theorem LikeV.refl (v:Value):LikeV v v:= .inl rfl
theorem LikeV.trans {u v x:Value} (h1:LikeV u v) (h2:LikeV v x):LikeV u x:=by
 rcases h1 with rfl|⟨m,n,rfl,rfl⟩|⟨m,n,rfl,rfl⟩
 ·exact h2
 ·rcases h2 with rfl|⟨m',n',e,rfl⟩|⟨m',n',e,rfl⟩
  ·exact .inr (.inl ⟨_,_,rfl,rfl⟩)
  ·exact .inr (.inl ⟨_,_,rfl,rfl⟩)
  ·cases e
 ·rcases h2 with rfl|⟨m',n',e,rfl⟩|⟨m',n',e,rfl⟩
  ·exact .inr (.inr ⟨_,_,rfl,rfl⟩)
  ·cases e
  ·exact .inr (.inr ⟨_,_,rfl,rfl⟩)
theorem LikeV.slice {A:Option Addr} {n c:Nat} {v:Value} (h:LikeV (.slice A n c) v):v= .slice A n c:=by
 rcases h with h|⟨m,n,e,_⟩|⟨m,n,e,_⟩
 ·exact h
 ·cases e
 ·cases e
theorem LikeV.int {k:Int} {v:Value} (h:LikeV (.int .i64 k) v):∃n,v= .int .i64 n:=by
 rcases h with h|⟨m,n,e,h⟩|⟨m,n,e,_⟩
 ·exact⟨_,h⟩
 ·exact⟨_,h⟩
 ·cases e
theorem LikeV.str {k:ByteArray} {v:Value} (h:LikeV (.string k) v):∃n,v= .string n:=by
 rcases h with h|⟨m,n,e,_⟩|⟨m,n,e,h⟩
 ·exact⟨_,h⟩
 ·cases e
 ·exact⟨_,h⟩
structure KeepW (lo:Nat) (w w':World):Prop where
 b:BelowF (fun k=>k<lo) w w'
 k:∀(b:Nat) (vs:List Value) (t:TypeId),w.heap[b]? = some (Obj.cells ⟨vs⟩ t (0,0))→ ∃vs':List Value,w'.heap[b]? = some (Obj.cells ⟨vs'⟩ t (0,0))∧vs'.length=vs.length∧ ∀o,LikeV (vs.getD o undef) (vs'.getD o undef)
theorem KeepW.refl (lo:Nat) (w:World):KeepW lo w w:=⟨BelowF.refl _ w,fun b vs t h=>⟨vs,h,rfl,fun _=> .refl _⟩⟩
theorem KeepW.trans {lo:Nat} {a b c:World} (h1:KeepW lo a b) (h2:KeepW lo b c):KeepW lo a c:=
 ⟨h1.b.trans h2.b,fun k vs t h=>by
  obtain⟨vs',e1,e2,e3⟩:=h1.k k vs t h;obtain⟨vs2,e4,e5,e6⟩:=h2.k k vs' t e1;exact⟨vs2,e4,e5.trans e2,fun o=>(e3 o).trans (e6 o)⟩⟩
end Go.PL
