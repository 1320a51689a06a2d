/- A logic of values for functions that only read and build, over the model (part 6): no statement of the seat is proved here. -/
import Derived.Test.YthingdchjkhfbaaGreatPlE
import Derived.ScopeJumps
namespace Go.PL
set_option maxHeartbeats 64000000
set_option maxRecDepth 20000
set_option linter.unusedVariables false
set_option linter.unusedSimpArgs false
open Go.RowKit
section
variable {P:Program} {B:Frm} {S:Stable} {M:Maps} {s:St} {a:Act} {w:World}
theorem RepS.iptr_inv {v:Value} {qq:Rows} {b:Nat} (r:RepS S M qq v (.iptr b)):v= .pointer (some ⟨b,0,none⟩):=by
 cases r with|clean r=>cases r;rfl
theorem Sim.growX (hs:Sim B S M s a w) {b:Nat} (hb:∀vs t f,w.heap[b]? ≠ some (.cells vs t f)) {S':Stable} {w':World} (hle:SLe S S') (hag:∀k,k<w.heap.size→k≠b→ ∀o,S' k o=S k o)
  (hw:∀k,k<w.heap.size→k≠b→w'.heap[k]? = w.heap[k]?) (hsz:w.heap.size≤w'.heap.size) {o':Nat→Option MapC} {it':Nat→Option IterC} (hst:Stab B S' w' o' it') (hom:∀k d,s.m.om k=some d→k≠b∧o' k=none∧S'.m k=none):Sim B S' M (s.with { s.m with o:=o',it:=it' }) a w':=by
 have rep:∀ {v p},RepS S M s.m.q v p→RepS S' M s.m.q v p:=fun r=>r.heap hle (fun _ _=>rfl) (fun _ _=> .refl _ _ _)
 have live:∀i,ZS s.m i→ZS { s.m with o:=o',it:=it' } i:=fun i h=>by cases i<;>exact h
 refine⟨hs.defers,hs.hn,fun k hk=>Nat.lt_of_lt_of_le (hs.hB k hk) hsz,hst,fun i=>rep (hs.fr i),fun i k hk=>live k (hs.ids i k hk),fun id cs hc=> ?_,fun id r hr=> ?_,hs.inj,hs.injq,hs.injx,fun k d hk=> ?_,fun i es he=> ?_,⟨hs.pn.h,hs.pn.q⟩⟩
 ·have hb':=hs.blk id cs hc;show Zhm _ _ _ _ _ _ _ (s.m.z id);cases hz:s.m.z id with
  |false=>
   rw[hz]at hb';have hlt:=hs.blk_lt hc hz;obtain⟨h1,h2,⟨vs,t,h3,h4,h5⟩,h6⟩:=hb';have hne:M.φ id≠b:=fun e=>hb _ _ _ (e▸h3)
   exact⟨h1,fun o=>by rw[hag _ hlt hne];exact h2 o,⟨vs,t,by rw[hw _ hlt hne];exact h3,h4,fun j hj=>rep (h5 j hj)⟩,fun c hc k hk=>live k (h6 c hc k hk)⟩
  |true=>
   rw[hz]at hb';obtain⟨vals,hv⟩:=hb';exact⟨vals,fun j hj=>⟨hle _ _ _ (hv j hj).1,(hv j hj).2.mono hle⟩⟩
 ·have hr':=hs.row id r hr;cases r with
  |live n sz e=>
   obtain⟨h1,h2⟩:=hr';refine⟨h1,fun c hk=> ?_⟩;have hlt:=hs.row_lt hr rfl (by omega);obtain⟨g0,g0',g1,⟨vs,g2,g3⟩,g4⟩:=h2 c hk;have hne:M.ψ id≠b:=fun e=>hb _ _ _ (e▸g2)
   exact⟨g0,g0',g1,⟨vs,by rw[hw _ hlt hne];exact g2,g3⟩,fun o ho=>by rw[hag _ hlt hne];exact g4 o ho⟩
  |vec n sz e=>
   obtain⟨h1,h2⟩:=hr';refine⟨h1,fun c hk=> ?_⟩;have hlt:=hs.row_lt hr rfl (by omega);obtain⟨g0,g0',g1,⟨vs,g2,g3⟩,g4⟩:=h2 c hk;have hne:M.ψ id≠b:=fun e=>hb _ _ _ (e▸g2)
   exact⟨g0,g0',g1,⟨vs,by rw[hw _ hlt hne];exact g2,g3⟩,fun o=>by rw[hag _ hlt hne];exact g4 o⟩
  |dead=>trivial
 ·obtain⟨g1,g2,g3,g4⟩:=hs.rm k d hk;obtain⟨e1,e2,e3⟩:=hom k d hk;exact⟨g1,e3,e2,g4.move hle (hw k g4.lt e1) (fun v p r _=>rep r) live⟩
 ·refine(hs.vc i es he).move (fun _ _ _ h=>h) rfl rfl (fun hk=>hw _ (hs.vec_lt he hk) fun ee=> ?_) (fun v p r _=>rep r) live;obtain⟨sz,e,q1⟩:=hs.vec_q he;obtain⟨_,h2⟩:=hs.row i _ q1;obtain⟨_,_,_,⟨vs,k5,_⟩,_⟩:=h2 (M.κ i-1) (by omega);exact hb _ _ _ (ee▸k5)
theorem ZfL (hs:Sim B S M s a w) {f:Operand} {cargs:List Operand} {ts:Array TypeId} {g:FuncId} {args:List PV} (hc:Zao s.eval ⟨.value f,⟨cargs⟩,ts⟩=some (g,args)) (hg:PV.givableL s.m args) (hcal:Zew P g)
  {dst:Option Tmp} {ty:TypeId} {pos:String} {after:Array Edge} {guard:Option (Nat×Bool)}:
  ∃vs:List Value,vs.length=args.length∧(∀i,i<args.length→Rep S (vs.getD i undef) ((PV.giveL s.m args).getD i .any))∧(execOp a.eval ⟨dst,.call ⟨.value f,⟨cargs⟩,ts⟩,ty,pos,after,guard⟩).run P w= .ok (.enter g ⟨vs⟩) w:=by
 unfold Zao at hc;simp only at hc;split at hc
 ·rename_i g' caps hf;simp only[Option.some.injEq,Prod.mk.injEq]at hc;obtain⟨rfl,rfl⟩:=hc;have ef:=hs.eval f;rw[hf]at ef;obtain⟨vs,hv,hl,hr⟩:=ef.fn_inv;obtain⟨fn,c1,c2,c3⟩:=hcal;have hargs:∀i,i<(cargs.map s.eval++caps).length→RepS S M s.m.q ((cargs.map a.eval++vs).getD i undef) ((cargs.map s.eval++caps).getD i .any):=by
   intro i hi
   by_cases h1:i<cargs.length
   ·rw[Zi (by simpa using h1),Zi (by simpa using h1)];exact ZgY (s:=s) hs.eval i (by simpa using h1)
   ·rw[Zk (by simp;omega),Zk (by simp;omega)];simp only[List.length_map];exact hr _ (by simp at hi;omega)
  refine⟨cargs.map a.eval++vs,by simp[hl],fun i hi=> ?_,?_⟩
  ·rw[PV.giveL_getD _ _ i hi];exact(hargs i hi).give hs (PV.givableL_getD hg i hi)
  ·have hb:¬fn.body=none:=by intro h;simp[h]at c3
   simp[execOp,resolve,Deferred.ofValue,hv,invoke,callFunc,program,Sem.run,c1,hb,c2]
 ·cases hc
theorem RepS.giveE (hs:Sim B S M s a w) {v:Value} {p:PV} (r:RepS S M s.m.q v p):RepS S M s.m.q v (p.give s.m):=by
 induction r with
 |clean r=>exact .clean (r.give s.m)
 |ptr id off=>
  cases hz:s.m.z id with
  |false=>simp only[PV.give,hz];exact .ptr id off
  |true=>
   cases hh:s.m.h id with
   |none=>simp only[PV.give,hz,hh];exact .ptr id off
   |some cs=>exact .clean ((RepS.ptr (S:=S) (M:=M) (q:=s.m.q) id off).give hs ⟨hz,by rw[hh];simp⟩)
 |osl id off len cap sz hc=>exact .osl id off len cap sz hc
 |row id v es r _=>exact .clean r
 |vsl id len sz v hv t=>exact .vsl id len sz v hv t
 |vptr id n sz i off v hv hi t=>exact .vptr id n sz i off v hv hi t
 |agg vs cs hl _ ih=>exact .agg vs _ (by rw[PV.giveL_length];exact hl) (fun i hi=>by rw[PV.giveL_length]at hi;rw[PV.giveL_getD s.m cs i hi];exact ih i hi)
 |tup vs cs hl _ ih=>exact .tup vs _ (by rw[PV.giveL_length];exact hl) (fun i hi=>by rw[PV.giveL_length]at hi;rw[PV.giveL_getD s.m cs i hi];exact ih i hi)
 |fn f vs cs hl _ ih=>exact .fn f vs _ (by rw[PV.giveL_length];exact hl) (fun i hi=>by rw[PV.giveL_length]at hi;rw[PV.giveL_getD s.m cs i hi];exact ih i hi)
theorem Zpa (hs:Sim B S M s a w) {f:Operand} {cargs:List Operand} {ts:Array TypeId} {g:FuncId} {args:List PV} (hc:Zao s.eval ⟨.value f,⟨cargs⟩,ts⟩=some (g,args)) (hcal:Zew P g)
  {dst:Option Tmp} {ty:TypeId} {pos:String} {after:Array Edge} {guard:Option (Nat×Bool)}:
  ∃vs:List Value,vs.length=args.length∧(∀i,i<args.length→RepS S M s.m.q (vs.getD i undef) ((PV.giveL s.m args).getD i .any))∧(execOp a.eval ⟨dst,.call ⟨.value f,⟨cargs⟩,ts⟩,ty,pos,after,guard⟩).run P w= .ok (.enter g ⟨vs⟩) w:=by
 unfold Zao at hc;simp only at hc;split at hc
 ·rename_i g' caps hf;simp only[Option.some.injEq,Prod.mk.injEq]at hc;obtain⟨rfl,rfl⟩:=hc;have ef:=hs.eval f;rw[hf]at ef;obtain⟨vs,hv,hl,hr⟩:=ef.fn_inv;obtain⟨fn,c1,c2,c3⟩:=hcal;have hargs:∀i,i<(cargs.map s.eval++caps).length→RepS S M s.m.q ((cargs.map a.eval++vs).getD i undef) ((cargs.map s.eval++caps).getD i .any):=by
   intro i hi
   by_cases h1:i<cargs.length
   ·rw[Zi (by simpa using h1),Zi (by simpa using h1)];exact ZgY (s:=s) hs.eval i (by simpa using h1)
   ·rw[Zk (by simp;omega),Zk (by simp;omega)];simp only[List.length_map];exact hr _ (by simp at hi;omega)
  refine⟨cargs.map a.eval++vs,by simp[hl],fun i hi=> ?_,?_⟩
  ·rw[PV.giveL_getD _ _ i hi];exact(hargs i hi).giveE hs
  ·have hb:¬fn.body=none:=by intro h;simp[h]at c3
   simp[execOp,resolve,Deferred.ofValue,hv,invoke,callFunc,program,Sem.run,c1,hb,c2]
 ·cases hc
theorem Stab.turn {S':Stable} {w':World} {o:Nat→Option MapC} {it:Nat→Option IterC} (hs:Stab B S w o it) {b:Nat} {c:MapC} (hle:SLe S S') (hst:StabS S' w') (hm:∀k,k<w.heap.size→k≠b→S'.m k=S.m k)
  (hw:∀k,k<w.heap.size→k≠b→w'.heap[k]? = w.heap[k]?) (hB:¬B b) (hb:S'.m b=none) (hc:MapAt S' w' b c) (hit:∀x,it b≠some x):Stab B S' w' (upd o b (some c)) it:=by
 refine⟨hst,fun k d hd=> ?_,fun k x hx=> ?_⟩
 ·by_cases e:b=k
  ·subst e;rw[Zb]at hd;cases hd;exact⟨hB,hb,hc⟩
  ·rw[Zm _ _ e]at hd;obtain⟨q1,q2,q3⟩:=hs.o k d hd;exact⟨q1,by rw[hm k q3.lt (Ne.symm e)];exact q2,q3.move hle (hw k q3.lt (Ne.symm e))⟩
 ·obtain⟨q1,q2,q3⟩:=hs.i k x hx;refine⟨q1,?_,q3.mono hle⟩;have hlt:=q2.lt;unfold IterAt at q2 ⊢;rw[hw k hlt (fun e=>by subst e;exact hit x hx)];exact q2
theorem Zv0 (hs:Sim B S M s a w) {f:Operand} {cargs:List Operand} {ts:Array TypeId} {g:FuncId} {args:List PV} (hc:Zao s.eval ⟨.value f,⟨cargs⟩,ts⟩=some (g,args)) (hg:PV.givableL s.m args)
  {dst:Option Tmp} {ty:TypeId} {pos:String} {after:Array Edge} {guard:Option (Nat×Bool)}:
  ∃vs:List Value,vs.length=args.length∧(∀i,i<args.length→Rep S (vs.getD i undef) ((PV.giveL s.m args).getD i .any))∧(execOp a.eval ⟨dst,.call ⟨.value f,⟨cargs⟩,ts⟩,ty,pos,after,guard⟩).run P w=(callFunc g ⟨vs⟩).run P w:=by
 unfold Zao at hc;simp only at hc;split at hc
 ·rename_i g' caps hf;simp only[Option.some.injEq,Prod.mk.injEq]at hc;obtain⟨rfl,rfl⟩:=hc;have ef:=hs.eval f;rw[hf]at ef;obtain⟨vs,hv,hl,hr⟩:=ef.fn_inv;have hargs:∀i,i<(cargs.map s.eval++caps).length→RepS S M s.m.q ((cargs.map a.eval++vs).getD i undef) ((cargs.map s.eval++caps).getD i .any):=by
   intro i hi
   by_cases h1:i<cargs.length
   ·rw[Zi (by simpa using h1),Zi (by simpa using h1)];exact ZgY (s:=s) hs.eval i (by simpa using h1)
   ·rw[Zk (by simp;omega),Zk (by simp;omega)];simp only[List.length_map];exact hr _ (by simp at hi;omega)
  refine⟨cargs.map a.eval++vs,by simp[hl],fun i hi=> ?_,?_⟩
  ·rw[PV.giveL_getD _ _ i hi];exact(hargs i hi).give hs (PV.givableL_getD hg i hi)
  ·simp[execOp,resolve,Deferred.ofValue,hv,invoke]
 ·cases hc
theorem Sim.addRow (hs:Sim B S M s a w) {d κ ψ n sz:Nat} {e:TypeId} (hd:s.m.q d=none) (hrow:ZlS B S ⟨id,fun _=>ψ,fun _=>κ⟩ w 0 (.live n sz e))
  (hnq:∀i r,s.m.q i=some r→r.own=true→0<M.κ i→0<κ→M.ψ i≠ψ) (hnh:∀i cs,s.m.h i=some cs→s.m.z i=false→0<κ→M.φ i≠ψ):
  Sim B S { M with ψ:=upd M.ψ d ψ,κ:=upd M.κ d κ } (s.with (s.m.setq d (.live n sz e))) a w:=
 hs.layRow (.inl hd) (by simpa only[ZlS,Zb]using hrow) (hs.v_none fun _ _ _ h=>by rw[hd]at h;cases h) (fun i r _ hi oi ki _ k=>hnq i r hi oi ki k) (fun i cs hi zi _ k=>hnh i cs hi zi k)
theorem Sim.om_new (hs:Sim B S M s a w) {b:Nat} (hb:w.heap.size≤b) {S':Stable} (hS:∀k,k<w.heap.size→S'.m k=S.m k) {o':Nat→Option MapC} (ho:∀k,k≠b→o' k=s.m.o k) (k:Nat) (d:MapC) (h:s.m.om k=some d):k≠b∧o' k=none∧S'.m k=none:=by
 obtain⟨g1,g2,g3,g4⟩:=hs.rm k d h;have hlt:=g4.lt;have hne:k≠b:=by omega
 exact⟨hne,by rw[ho k hne];exact g3,by rw[hS k hlt];exact g2⟩
theorem Zsy (hs:Sim B S M s a w) {o:Oper} {K:St→Prop} (hd:∀x,o.dst=some x→x<s.n) (h:ZmX P o s K) (next:Act→World→Prop) (Q:Exit→Act→World→Prop)
  (hn:∀s' v w' S' M',K s'→Sim B S' M' s' (a.put o.dst v) w'→Ext B S S' w w'→next (a.put o.dst v) w'):o.wp P a w next Q:=by
 obtain⟨dst,op,ty,pos,after,guard⟩:=o;unfold ZmX at h;simp only at h hd hn ⊢;cases op with
 |call c=>
  obtain⟨callee,cargs,ts⟩:=c;obtain⟨cargs⟩:=cargs;cases callee with
  |value f=>
   simp only at h;cases hc:Zao s.eval ⟨.value f,⟨cargs⟩,ts⟩with
   |none=>rw[hc]at h;exact h.elim
   |some ga=>
    obtain⟨g,args⟩:=ga;rw[hc]at h;unfold Oper.wp;rcases h with ⟨hg,hx⟩|⟨args0,m0,r,m1,f',g',heff,hfit,hargs,hk⟩
    rotate_left
    ·obtain⟨vs,hl,hrep,hrun⟩:=Zpa (dst:=dst) (ty:=ty) (pos:=pos) (after:=after) (guard:=guard) hs hc heff.cal;rw[hrun];show Calls P g ⟨vs⟩ w _;have hlen:args.length=args0.length:=by rw[←PV.giveL_length s.m args,hargs];simp
     refine(heff.call hs hfit (vs:=vs) (by omega) (fun i hi=> ?_)).mono fun en w' hq=> ?_
     ·have:=hrep i (by omega);rw[hargs,getD_lt (l:=args0.map _) (by simpa using hi),List.getElem_map]at this;rw[getD_lt hi];exact this
     ·obtain⟨v,S',M',rfl,h2,h3,h4,h5⟩:=hq;exact hn _ v w' S' M' hk (h2.put hd h3 h4) h5
    rcases hx with ⟨r,⟨hcal,_,hcalls⟩,hno,hk⟩|⟨b,c,A,r,c',hob,hA,⟨hcal,_,hcalls⟩,hk⟩|⟨r,c,⟨hcal,_,hcalls⟩,hk⟩|⟨r,hxt,hk⟩|⟨r,n,sz,e,d,⟨hcal,hri,hcalls⟩,hqd,hk⟩
    ·obtain⟨vs,hl,hrep,hrun⟩:=ZfL (dst:=dst) (ty:=ty) (pos:=pos) (after:=after) (guard:=guard) hs hc hg hcal;rw[hrun];show Calls P g ⟨vs⟩ w _;refine(hcalls w (Zip S w s.m.o) vs (Zlw hs.stable) (by rw[Zaq,PV.giveL_length];exact hl) (fun i hi=> ?_)).mono fun e w' hq=> ?_
     ·rw[Zaq,PV.giveL_length]at hi;rw[Zc8 _ _ i (by rw[PV.giveL_length];exact hi)];exact(hrep i hi).shut hs.stable
     ·obtain⟨v,S1,rfl,h2,h3,h4,h5,h6⟩:=hq
      let S':Stable:=⟨S1.c,fun k=>match s.m.o k with|some _=>none|none=>S1.m k⟩
      have m1:∀k c,s.m.o k=some c→S'.m k=none:=fun k c hc=>by simp[S',hc]
      have m2:∀k,s.m.o k=none→S'.m k=S1.m k:=fun k hc=>by simp[S',hc]
      have m3:∀k,s.m.o k=none→(Zip S w s.m.o).m k=S.m k:=fun k hc=>by simp[Zip,hc]
      have l1:SLe S S':=⟨fun k o v hv=>h4.c k o v hv,fun k es he=>by
       cases ho:s.m.o k with
       |some c=>rw[(hs.stable.o k c ho).2.1]at he;cases he
       |none=>rw[m2 k ho];exact h4.m k es (by rw[m3 k ho];exact he)⟩
      have l2:∀k,k<w.heap.size→(∀o,S' k o=S k o)∧S'.m k=S.m k:=fun k hk=>by
       obtain⟨a1,a2⟩:=h5 k hk;refine⟨a1,?_⟩;cases ho:s.m.o k with
       |some c=>rw[m1 k c ho,(hs.stable.o k c ho).2.1]
       |none=>rw[m2 k ho,a2,m3 k ho]
      have l3:StabS S' w':=⟨h3.c,fun k es he=>by
       cases ho:s.m.o k with
       |some c=>rw[m1 k c ho]at he;cases he
       |none=>rw[m2 k ho]at he;exact h3.m k es he⟩
      have hs':=hs.grow l1 l2 l3 h6.block h6.size;have hr':Rep S' v r:=Rep.cells_only (S:=S1) (S':=S') rfl h2 hno;exact hn _ v w' S' M hk (hs'.put hd (.clean hr') (fun i hi=>absurd hi (hr'.clean_ids i))) ⟨l1,fun k hk=>l2 k (hs.hB k hk),(BelowF.of h6).mono hs.hB⟩
    ·obtain⟨vs,hl,hrep,hrun⟩:=ZfL (dst:=dst) (ty:=ty) (pos:=pos) (after:=after) (guard:=guard) hs hc hg hcal;rw[hrun];show Calls P g ⟨vs⟩ w _;obtain⟨q1,q2,q3⟩:=hs.stable.o b c hob;rw[hA]at hrep;refine(hcalls b w S vs hs.stable.s q2 q3 (by rw[←hA,PV.giveL_length];exact hl) (fun i hi=>hrep i (by rw[←hA,PV.giveL_length]at hi;exact hi))).mono fun e w' hq=> ?_
     obtain⟨v,S',rfl,h2,h3,h4,h5,h5',h6,h7⟩:=hq;have hnc:∀vs t f,w.heap[b]? ≠ some (.cells vs t f):=fun vs t f hh=>by obtain⟨es,e1,_⟩:=q3;rw[e1]at hh;cases hh
     have hit:∀x,s.m.it b≠some x:=fun x hx=>by
      have h1:=(hs.stable.i b x hx).2.1;obtain⟨es,e1,_⟩:=q3;unfold IterAt at h1;rw[e1]at h1;cases h1
     have hst:Stab B S' w' (upd s.m.o b (some c')) s.m.it:=hs.stable.turn h4 h3 (fun k hk hkb=>(h5 k hk hkb).2) (fun k hk hkb=>h7.block k ⟨hk,hkb⟩) q1 h5' h6 hit;have hs':=hs.growX hnc h4 (fun k hk hkb=>(h5 k hk hkb).1) (fun k hk hkb=>h7.block k ⟨hk,hkb⟩) h7.size hst (fun k d hk=>⟨(hs.om_ne hk hob (x:=none)).1,(hs.om_ne hk hob).2,by rw[(h5 k (hs.rm k d hk).2.2.2.lt (hs.om_ne hk hob (x:=none)).1).2];exact(hs.rm k d hk).2.1⟩);exact hn _ v w' S' M hk (hs'.put hd (.clean h2) (fun i hi=>absurd hi (h2.clean_ids i))) ⟨h4,fun k hk=>h5 k (hs.hB k hk) (fun e=>q1 (e▸hk)),h7.mono (fun k hk=>⟨hs.hB k hk,fun e=>q1 (e▸hk)⟩)⟩
    ·obtain⟨vs,hl,hrep,hrun⟩:=ZfL (dst:=dst) (ty:=ty) (pos:=pos) (after:=after) (guard:=guard) hs hc hg hcal;rw[hrun];show Calls P g ⟨vs⟩ w _;refine(hcalls w S vs hs.stable.s (by rw[PV.giveL_length];exact hl) (fun i hi=>hrep i (by rw[PV.giveL_length]at hi;exact hi))).mono fun e w' hq=> ?_
     obtain⟨v,S',b,rfl,hbl,h2,h3,h4,h5,h5',h6,h7⟩:=hq;have hnb:s.m.o b=none:=by
      cases ho:s.m.o b with
      |none=>rfl
      |some d=>have:=(hs.stable.o b d ho).2.2.lt;omega
     have hBb:¬B b:=fun hh=>by have:=hs.hB b hh;omega
     have hnc:∀vs t f,w.heap[b]? ≠ some (.cells vs t f):=fun vs t f hh=>by have:=(Array.getElem?_eq_some_iff.1 hh).1;omega
     have hit:∀x,s.m.it b≠some x:=fun x hx=>by have:=(hs.stable.i b x hx).2.1.lt;omega
     have hst:Stab B S' w' (upd s.m.o b (some c)) s.m.it:=hs.stable.turn h4 h3 (fun k hk _=>(h5 k hk).2) (fun k hk _=>h7.block k hk) hBb h5' h6 hit;have hs':=hs.growX hnc h4 (fun k hk _=>(h5 k hk).1) (fun k hk _=>h7.block k hk) h7.size hst (hs.om_new hbl (fun k hk=>(h5 k hk).2) fun k hk=>Zm _ _ (Ne.symm hk));exact hn _ v w' S' M (hk b hnb) (hs'.put hd (.clean h2) (fun i hi=>absurd hi (h2.clean_ids i))) ⟨h4,fun k hk=>h5 k (hs.hB k hk),(BelowF.of h7).mono hs.hB⟩
    ·obtain⟨vs,hl,hrep,hrun⟩:=Zv0 (dst:=dst) (ty:=ty) (pos:=pos) (after:=after) (guard:=guard) hs hc hg;obtain⟨v,hv,hrun2⟩:=hxt w S vs (by rw[PV.giveL_length];exact hl) (fun i hi=>hrep i (by rw[PV.giveL_length]at hi;exact hi));rw[hrun,hrun2];exact hn _ v w S M hk (hs.put hd (.clean hv) (fun i hi=>absurd hi (hv.clean_ids i))) (Ext.refl _ _ _)
    ·obtain⟨vs,hl,hrep,hrun⟩:=ZfL (dst:=dst) (ty:=ty) (pos:=pos) (after:=after) (guard:=guard) hs hc hg hcal;rw[hrun];show Calls P g ⟨vs⟩ w _;refine(hcalls w S vs hs.stable.s (by rw[PV.giveL_length];exact hl) (fun i hi=>hrep i (by rw[PV.giveL_length]at hi;exact hi))).mono fun en w' hq=> ?_
     obtain⟨v,S',κ,ψ,rfl,h1,h2,h3,h4,h5,h6⟩:=hq;have hs1:=hs.grow h4 h5 h3 h6.block h6.size;have hψ:0<κ→w.heap.size≤ψ:=fun h0=>by
      obtain⟨_,g2⟩:=h2;obtain⟨_,_,g3,_⟩:=g2 (κ-1) (by show κ=_;omega);exact Nat.not_lt.1 g3
     have hs2:=hs1.addRow (d:=d) (κ:=κ) (ψ:=ψ) (n:=n) (sz:=sz) (e:=e) hqd
      (by
       obtain⟨g1,g2⟩:=h2;refine⟨g1,fun c hc=> ?_⟩;obtain⟨k1,k2,k3,k4,k5⟩:=g2 c hc;exact⟨k1,k2,fun hB=>k3 (hs.hB _ hB),k4,k5⟩)
      (fun i r1 hi oi ki k0=>by have:=hs.row_lt hi oi ki;have:=hψ k0;omega)
      (fun i cs hi zi k0=>by have:=hs.blk_lt hi zi;have:=hψ k0;omega)
     have hrv:=h1 d { M with ψ:=upd M.ψ d ψ,κ:=upd M.κ d κ } (s.m.setq d (.live n sz e)).q (Zb _ _ _) (Zb _ _ _) (Zb _ _ _);exact hn _ v w' S' _ hk (hs2.put hd hrv (fun i hi=>by
      rw[hri d i hi];show upd s.m.q d _ d≠none;rw[Zb];simp)) ⟨h4,fun k hk=>h5 k (hs.hB k hk),(BelowF.of h6).mono hs.hB⟩
  |builtin b=>
   cases b with
   |append=>
    simp only[Zao]at h;unfold ZAW at h;split at h
    ·rename_i d t tx x y hts hxs;split at h
     ·rename_i ei ys h1 h2;obtain⟨g4,h⟩:=h;obtain⟨x1,x2,rfl,e1,e2⟩:∃x1 x2,cargs= [x1,x2]∧s.eval x1=x∧s.eval x2=y:=by
       have hxs:cargs.map s.eval= [x,y]:=hxs;clear hts;rcases cargs with _|⟨x1,_|⟨x2,_|⟨x3,l⟩⟩⟩
       ·simp at hxs
       ·simp at hxs
       ·simp at hxs;exact⟨x1,x2,rfl,hxs.1,hxs.2⟩
       ·simp at hxs
      obtain⟨tys⟩:=ts;have hts':tys= [t,tx]:=hts;subst hts';unfold Oper.wp;have hrun:∀ {rr w'},(Builtin.append_ #[t,tx] ty #[a.eval x1,a.eval x2]).run P w= .ok rr w'→(execOp a.eval ⟨some d,.call ⟨.builtin .append,⟨[x1,x2]⟩,⟨[t,tx]⟩⟩,ty,pos,after,guard⟩).run P w= .ok (.value rr) w':=fun k1=>by
       simp[execOp,resolve,invoke,builtin,k1]
      unfold Zw5 at h;split at h
      ·rename_i id n sz;split at h
       ·rename_i es h3;obtain⟨g0,g1,g2,g3,g5,g6,g7,hk⟩:=h;subst g0;subst g1;have r1:=hs.eval x1;rw[e1]at r1;have r2:=hs.eval x2;rw[e2]at r2;obtain⟨rr,w',S',M',k1,k2,k3,k4⟩:=Zij hs (d:=d) (ty:=ty) h1 r1 h3 g2 r2 h2 g5 g3 g4 g6 g7;rw[hrun k1];refine hn _ rr w' S' M' hk (k2.put hd k3 fun i hi=> ?_) k4;simp only[PV.ids,List.mem_singleton]at hi;subst hi;show(ZvH _ _ _ _ _ _ _).q d≠none;unfold ZvH;split<;>simp[Hp.setq,Zb]
       ·exact h.elim
      ·obtain⟨g0,g5,g6,g7,hk⟩:=h;have hs1:=hs.nilVec (sz:=ei.size) (e:=ei.e) g0;have r1:=hs.eval x1;rw[e1]at r1;have hu:a.eval x1= .slice none 0 0:=r1.slnil_inv;have r1':RepS S { M with κ:=upd M.κ d 0 } (upd s.m.q d (some (.vec 0 ei.size ei.e))) (a.eval x1) (.vsl d ([]:List PV).length ei.size):=by
        rw[hu];refine .vsl d 0 ei.size _ ⟨none,0,rfl,Nat.le_refl _,fun h=>absurd h (Nat.lt_irrefl _)⟩ fun n' sz' e' hq=> ?_
        rw[Zb]at hq;cases hq;exact⟨Nat.le_refl _,fun _=>⟨rfl,fun _=>rfl,fun c hc=>by simp[Zb]at hc⟩⟩
       have r2:=hs1.eval x2;have r2':RepS S { M with κ:=upd M.κ d 0 } (upd s.m.q d (some (.vec 0 ei.size ei.e))) (a.eval x2) y:=by rw[←e2];exact r2
       have hav:Zdg P tx y { s.m.setq d (.vec 0 ei.size ei.e)with v:=upd s.m.v d (some []) }=some ys:=by
        cases y<;>first|exact h2|skip
        rename_i id n sz;have hne:d≠id:=fun e=>g5.2.2.2 (by simp[e])
        simp only[Zdg]at h2 ⊢;split at h2
        ·rw[Zm _ _ hne];exact h2
        ·cases h2
       have hso:ZlL y { s.m.setq d (.vec 0 ei.size ei.e)with v:=upd s.m.v d (some []) } ys ei.size [d,d]:=by
        cases y<;>first|exact g5|skip
        rename_i id n sz;obtain⟨q1,q2,⟨e,q3⟩,q4⟩:=g5;have hne:d≠id:=fun e=>q4 (by simp[e])
        refine⟨q1,q2,⟨e,?_⟩,by simpa using q4⟩;show upd s.m.q d _ id=_;rw[Zm _ _ hne];exact q3
       obtain⟨rr,w',S',M',k1,k2,k3,k4⟩:=Zij hs1 (id:=d) (d:=d) (ty:=ty) (es:= []) h1 r1' (Zb _ _ _) (Zb _ _ _) r2' hav hso (.inl rfl) g4 (by simpa using g6) (by simpa using g7);rw[hrun k1];simp only[ZvH,if_true,St.with,Hp.setq,Zj2,List.length_nil,Nat.zero_add,List.nil_append]at k2 k3;refine hn _ rr w' S' M' hk (k2.put hd k3 fun i hi=> ?_) k4;simp only[PV.ids,List.mem_singleton]at hi;subst hi;simp[ZS,Zb]
      ·exact h.elim
     ·exact h.elim
    ·exact h.elim
   |_=>simp[Zao]at h
  |_=>simp[Zao]at h
 |buildSlice t len parts=>
  obtain⟨parts⟩:=parts;simp only at h;unfold ZAX at h;split at h
  ·rename_i d ei hx;obtain⟨g1,g2,g3,g4,hk⟩:=h;obtain⟨p1,p2,p3⟩:=Zmv hs parts;subst g2;obtain⟨v,w',M',k1,k2,k3,k4⟩:=Zvb hs (d:=d) hx p1 p2 p3 g1 g3 g4;unfold Oper.wp;have hrun:(execOp a.eval ⟨some d,.buildSlice t (parts.map fun x=>(x.1,s.eval x.2)).length ⟨parts⟩,ty,pos,after,guard⟩).run P w= .ok (.value v) w':=by
    simp only[List.length_map]at k1;simp only[execOp,List.length_map];have e:(Array.map (fun x:Nat×Operand=>(x.fst,a.eval x.snd)) ⟨parts⟩)=⟨parts.map fun x=>(x.fst,a.eval x.snd)⟩:=by simp
    first|rw[e]|skip
    simp[k1]
   rw[hrun];refine hn _ v w' S M' hk (k2.put hd k3 fun i hi=> ?_) k4;simp only[PV.ids,List.mem_singleton]at hi;subst hi;show upd s.m.q d _ d≠none;rw[Zb];simp
  ·exact h.elim
 |makeMap t r=>
  cases r with
  |some _=>exact h.elim
  |none=>
   simp only at h;unfold Oper.wp;have hrun:(execOp a.eval ⟨dst,.makeMap t none,ty,pos,after,guard⟩).run P w= .ok (.value (.map (some w.heap.size))) (w.alloc (.map #[] 0)):=by
    simp[execOp,Instr.makeMap,newObj,Sem.run]
   rw[hrun];have hnb:s.m.o w.heap.size=none:=by
    cases ho:s.m.o w.heap.size with
    |none=>rfl
    |some d=>have:=(hs.stable.o _ d ho).2.2.lt;omega
   have hold:∀k,k<w.heap.size→(w.alloc (.map #[] 0)).heap[k]? = w.heap[k]? :=fun k hk=>Z3 w _ hk
   have hnew:(w.alloc (.map #[] 0)).heap[w.heap.size]? = some (.map #[] 0):=Zae w _;have hst:Stab B S (w.alloc (.map #[] 0)) (upd s.m.o w.heap.size (some ⟨[],[]⟩)) s.m.it:=
    hs.stable.turn (SLe.refl _) (hs.stable.s.old hold) (fun _ _ _=>rfl) (fun k hk _=>hold k hk) hs.new_ok (hs.S_m (Nat.le_refl _)) ⟨[],hnew,rfl,rfl,fun i hi=>by simp at hi,fun i hi=>by simp at hi,fun i hi=>by simp at hi⟩
     (fun x hx=>by have:=(hs.stable.i _ x hx).2.1.lt;omega)
   have hs':=hs.growX (b:=w.heap.size) (fun vs t f hh=>by have:=(Array.getElem?_eq_some_iff.1 hh).1;omega) (SLe.refl _) (fun _ _ _ _=>rfl) (fun k hk _=>hold k hk) (by rw[ZfK];omega) hst (hs.om_new (Nat.le_refl _) (fun _ _=>rfl) fun k hk=>by first|rfl|exact Zm _ _ (Ne.symm hk));exact hn _ _ _ S M (h w.heap.size hnb) (hs'.put hd (.clean (.mref _)) (by simp[PV.ids])) (hs.ext_alloc _)
 |mapEntry t x k=>
  simp only at h;unfold Znr at h;split at h
  ·rename_i b ls z cs hxb htm hkc;split at h
   ·rename_i c hob;split at h
    ·rename_i r hf;obtain⟨g1,g2,hk⟩:=h;have ex:=hs.eval x;rw[hxb]at ex;have ek:=hs.eval k;rw[hkc]at ek;obtain⟨u,w',k1,k2,k3,k4,k5⟩:=Zwm hs hob htm ek hf g1 g2;unfold Oper.wp;have hrun:(execOp a.eval ⟨dst,.mapEntry t x k,ty,pos,after,guard⟩).run P w= .ok (.value u) w':=by
      simp[execOp,ex.mref_inv,k1]
     rw[hrun];exact hn _ _ _ S M hk (k2.put hd k3 fun i hi=>by have:=k5 i hi;cases i<;>exact this) k4
    ·exact h.elim
   ·exact h.elim
  ·exact h.elim
 |entryStore t x st v=>
  simp only at h;obtain⟨hdn,h⟩:=h;subst hdn;unfold Zos at h;split at h
  ·rename_i b k hxb hst;split at h
   ·rename_i c hob;obtain⟨g1,g2,hk⟩:=h;have ex:=hs.eval x;rw[hxb]at ex;have es:=hs.eval st;rw[hst]at es;obtain⟨w',k1,k2,k3⟩:=Zwn (P:=P) (t:=t) hs hob (hs.eval v) (hs.eval_ids v) g2;unfold Oper.wp;have hrun:(execOp a.eval ⟨none,.entryStore t x st v,ty,pos,after,guard⟩).run P w= .ok .skip w':=by
     rw[Int.toNat_of_nonneg g1]at k1;simp[execOp,ex.mref_inv,es.int_inv,k1]
    rw[hrun];exact hn _ (.tuple #[]) w' S M hk (k2.put hd (.clean (.tup [] [] rfl fun i hi=>by cases hi)) (by simp[PV.ids,PV.idsL])) k3
   ·exact h.elim
  ·exact h.elim
 |range t x=>
  simp only at h;obtain⟨htm,h⟩:=h;have ex:=hs.eval x;unfold Zob at h;split at h
  ·rename_i b hxb;split at h
   ·rename_i c hob;rw[hxb]at ex;obtain⟨q1,q2,es,e1,e2,e3,e4,e5,e6⟩:=hs.stable.o b c hob;unfold Zp5 at htm;split at htm
    ·rename_i kt et hu;unfold Oper.wp;have hg:=MapKept.run_getObj_map (P:=P) e1;have hrun:(execOp a.eval ⟨dst,.range t x,ty,pos,after,guard⟩).run P w= .ok (.value (.pointer (some ⟨w.heap.size,0,none⟩))) (w.alloc (.mapIter (some b) es.length #[] es.length)):=by
      simp[execOp,Instr.range,run_underlying hu,ex.mref_inv,hg,newObj,Sem.run]
     rw[hrun];have hold:∀k,k<w.heap.size→(w.alloc (.mapIter (some b) es.length #[] es.length)).heap[k]? = w.heap[k]? :=fun k hk=>Z3 w _ hk
     have hnew:=Zae w (.mapIter (some b) es.length #[] es.length);have hni:s.m.it w.heap.size=none:=by
      cases ho:s.m.it w.heap.size with
      |none=>rfl
      |some d=>have:=(hs.stable.i _ d ho).2.1.lt;omega
     have hst:Stab B S (w.alloc (.mapIter (some b) es.length #[] es.length)) s.m.o (upd s.m.it w.heap.size (some ⟨b,c.ks.length,[],none⟩)):=by
      refine⟨hs.stable.s.old hold,fun k d hd=> ?_,fun k y hy=> ?_⟩
      ·obtain⟨g1,g2,g3⟩:=hs.stable.o k d hd;exact⟨g1,g2,g3.move (SLe.refl _) (hold k g3.lt)⟩
      ·by_cases e:w.heap.size=k
       ·subst e;rw[Zb]at hy;cases hy;refine⟨hs.new_ok,?_,fun c hc=>by cases hc⟩;unfold IterAt;rw[hnew,e2]
       ·rw[Zm _ _ e]at hy;obtain⟨g1,g2⟩:=hs.stable.i k y hy;refine⟨g1,?_⟩;have:=g2.1.lt;unfold IterAt at g2 ⊢;rw[hold k this];exact g2
     have hs':=hs.growX (b:=w.heap.size) (fun vs t f hh=>by have:=(Array.getElem?_eq_some_iff.1 hh).1;omega) (SLe.refl _) (fun _ _ _ _=>rfl) (fun k hk _=>hold k hk) (by rw[ZfK];omega) hst (hs.om_new (Nat.le_refl _) (fun _ _=>rfl) fun k hk=>by first|rfl|exact Zm _ _ (Ne.symm hk));exact hn _ _ _ S M (h w.heap.size hni) (hs'.put hd (.clean (.iptr _)) (by simp[PV.ids])) (hs.ext_alloc _)
    ·cases htm
   ·exact h.elim
  ·rename_i ks vs hxb;rw[hxb]at ex;generalize hval:a.eval x=u at ex;obtain⟨b,es,hu2,hS,e2,e3,e4,e5,e6⟩:∃b es,u= .map (some b)∧S.m b=some es∧es.length=ks.length∧vs.length=ks.length∧(∀i,i<ks.length→(es.getD i default).born=i)∧
     (∀i,i<ks.length→Rep S (es.getD i default).key (ks.getD i .any))∧(∀i,i<ks.length→Rep S (es.getD i default).val (vs.getD i .any)):=by
    cases ex with
    |clean r=>cases r with
     |rmap b es _ _ hS hk hv hb hK hV=>exact⟨b,es,rfl,hS,hk,hv,hb,hK,hV⟩
   subst hu2;have e1:=hs.stable.s.m b es hS;unfold Zp5 at htm;split at htm
   ·rename_i kt et hu;unfold Oper.wp;have hg:=MapKept.run_getObj_map (P:=P) e1;have hrun:(execOp a.eval ⟨dst,.range t x,ty,pos,after,guard⟩).run P w= .ok (.value (.pointer (some ⟨w.heap.size,0,none⟩))) (w.alloc (.mapIter (some b) es.length #[] es.length)):=by
     simp[execOp,Instr.range,run_underlying hu,hval,hg,newObj,Sem.run]
    rw[hrun];have hold:∀k,k<w.heap.size→(w.alloc (.mapIter (some b) es.length #[] es.length)).heap[k]? = w.heap[k]? :=fun k hk=>Z3 w _ hk
    have hnew:=Zae w (.mapIter (some b) es.length #[] es.length);have hni:s.m.it w.heap.size=none:=by
     cases ho:s.m.it w.heap.size with
     |none=>rfl
     |some d=>have:=(hs.stable.i _ d ho).2.1.lt;omega
    have hst:Stab B S (w.alloc (.mapIter (some b) es.length #[] es.length)) s.m.o (upd s.m.it w.heap.size (some ⟨b,ks.length,[],some ⟨ks,vs⟩⟩)):=by
     refine⟨hs.stable.s.old hold,fun k d hd=> ?_,fun k y hy=> ?_⟩
     ·obtain⟨g1,g2,g3⟩:=hs.stable.o k d hd;exact⟨g1,g2,g3.move (SLe.refl _) (hold k g3.lt)⟩
     ·by_cases e:w.heap.size=k
      ·subst e;rw[Zb]at hy;cases hy;refine⟨hs.new_ok,?_,fun c hc=>by cases hc;exact⟨es,hS,e2,e3,e4,e5,e6⟩⟩;unfold IterAt;rw[hnew,e2]
      ·rw[Zm _ _ e]at hy;obtain⟨g1,g2⟩:=hs.stable.i k y hy;refine⟨g1,?_⟩;have:=g2.1.lt;unfold IterAt at g2 ⊢;rw[hold k this];exact g2
    have hs':=hs.growX (b:=w.heap.size) (fun vs t f hh=>by have:=(Array.getElem?_eq_some_iff.1 hh).1;omega) (SLe.refl _) (fun _ _ _ _=>rfl) (fun k hk _=>hold k hk) (by rw[ZfK];omega) hst (hs.om_new (Nat.le_refl _) (fun _ _=>rfl) fun k hk=>by first|rfl|exact Zm _ _ (Ne.symm hk));exact hn _ _ _ S M (h w.heap.size b hni) (hs'.put hd (.clean (.iptr _)) (by simp[PV.ids])) (hs.ext_alloc _)
   ·cases htm
  ·exact h.elim
 |next x isS=>
  cases isS with
  |true=>exact h.elim
  |false=>
   simp only at h;have ex:=hs.eval x;unfold Zt8 at h;split at h
   ·rename_i ib hxb;split at h
    ·rename_i itc hib;split at h
     ·rename_i c hob;obtain⟨hlen,hover,hgo⟩:=h;rw[hxb]at ex;have hxv:a.eval x= .pointer (some ⟨ib,0,none⟩):=ex.iptr_inv;obtain⟨i1,i2,i3⟩:=hs.stable.i ib itc hib;obtain⟨es,e1,e2,e3,e4,e5,e6⟩:=hs.mapIt hib hob;unfold IterAt at i2;have hborn:∀y∈es,y.born<itc.n:=fun y hy=>by
       obtain⟨j,hj,rfl⟩:=List.getElem_of_mem hy;have:=e4 j (by omega);rw[getD_lt hj]at this;omega
      unfold Oper.wp;have he:∀v w',(Instr.next (.pointer (some ⟨ib,0,none⟩)) false ty).run P w= .ok v w'→(execOp a.eval ⟨dst,.next x false,ty,pos,after,guard⟩).run P w= .ok (.value v) w':=fun v w' hh=>by
       simp[execOp,hxv,hh]
      rcases run_next_at (P:=P) w ty ib itc.b itc.n itc.n ⟨itc.seen⟩ ⟨es⟩ es.length i2 e1 (by simpa using hborn) (Nat.le_refl _)with ⟨hz,hrun⟩|⟨e,he1,w1,hw1,hrun⟩
      ·rw[he _ _ hrun];refine hn _ _ _ S M (hover fun i hi=> ?_) (hs.put hd (.clean (.tup [.bool false] [.bool false] rfl (fun i hi=>by
        match i,hi with
        |0,_=>exact .bool _))) (by simp[PV.ids,PV.idsL])) (Ext.refl _ _ _)
       have hil:i<es.length:=by omega
       refine Decidable.byContradiction fun hno=> ?_
       have hmem:es[i]∈(leftOf ⟨es⟩ ⟨itc.seen⟩).toList:=by
        unfold leftOf;simp only[Array.toList_filter,List.mem_filter];have hb:=e4 i (by omega);rw[getD_lt hil]at hb;refine⟨List.getElem_mem hil,?_⟩;rw[hb];simpa using hno
       have h0:(leftOf ⟨es⟩ ⟨itc.seen⟩).toList= []:=by
        apply List.eq_nil_of_length_eq_zero;simpa using hz
       rw[h0]at hmem;cases hmem
      ·rw[he _ _ hrun];unfold leftOf at he1;simp only[Array.toList_filter,List.mem_filter]at he1;obtain⟨hm,hns⟩:=he1;obtain⟨j,hj,rfl⟩:=List.getElem_of_mem hm;have hb:=e4 j (by omega);have k5:=e5 j (by omega);have k6:=e6 j (by omega);rw[getD_lt hj]at hb k5 k6;rw[hb]at hns ⊢;have hns':j∉itc.seen:=by simpa using hns
       have hw1':w1.heap=w.heap:=by rcases hw1 with rfl|rfl<;>rfl
       have hw2:∀k,k≠ib→(ChangeMaps.setBlock w1 ib (.mapIter (some itc.b) itc.n ((⟨itc.seen⟩:Array Nat).push j) es.length)).heap[k]? = w.heap[k]? :=fun k hk=>by
        show(w1.heap.setIfInBounds ib _)[k]? = _;rw[hw1',Array.getElem?_setIfInBounds_ne (Ne.symm hk)]
       have hlt:ib<w.heap.size:=(Array.getElem?_eq_some_iff.1 i2).1;have hw3:(ChangeMaps.setBlock w1 ib (.mapIter (some itc.b) itc.n ((⟨itc.seen⟩:Array Nat).push j) es.length)).heap[ib]? = some (.mapIter (some itc.b) itc.n ⟨itc.seen++ [j]⟩ itc.n):=by
        show(w1.heap.setIfInBounds ib _)[ib]? = _;rw[hw1',Array.getElem?_setIfInBounds_self_of_lt hlt];have:es.length=itc.n:=by omega
        rw[this];simp
       have hnc:∀vs t f,w.heap[ib]? ≠ some (.cells vs t f):=fun vs t f hh=>by rw[i2]at hh;cases hh
       have hSm:S.m ib=none:=by
        cases hm:S.m ib with
        |none=>rfl
        |some l=>have:=hs.stable.s.m ib l hm;rw[i2]at this;cases this
       have hsz:(ChangeMaps.setBlock w1 ib (.mapIter (some itc.b) itc.n ((⟨itc.seen⟩:Array Nat).push j) es.length)).heap.size=w.heap.size:=by
        show(w1.heap.setIfInBounds ib _).size=_;rw[hw1'];simp
       have hst:Stab B S (ChangeMaps.setBlock w1 ib (.mapIter (some itc.b) itc.n ((⟨itc.seen⟩:Array Nat).push j) es.length)) s.m.o (upd s.m.it ib (some ⟨itc.b,itc.n,itc.seen++ [j],itc.c⟩)):=by
        refine⟨ZeS hs.stable.s hnc hSm hw2,fun k d hd=> ?_,fun k y hy=> ?_⟩
        ·obtain⟨g1,g2,g3⟩:=hs.stable.o k d hd;refine⟨g1,g2,g3.move (SLe.refl _) (hw2 k (fun e=> ?_))⟩;subst e;obtain⟨es',f1,_⟩:=g3;rw[i2]at f1;cases f1
        ·by_cases e:ib=k
         ·subst e;rw[Zb]at hy;cases hy;exact⟨i1,hw3,i3⟩
         ·rw[Zm _ _ e]at hy;obtain⟨g1,g2⟩:=hs.stable.i k y hy;refine⟨g1,?_⟩;unfold IterAt at g2 ⊢;rw[hw2 k (Ne.symm e)];exact g2
       have hs':=hs.special hnc hw2 hsz hst (fun k d hk=>⟨fun e=>(by subst e;obtain⟨⟨es,k1,_⟩,_⟩:=(hs.rm _ d hk).2.2.2;rw[i2]at k1;cases k1),(hs.rm k d hk).2.2.1⟩);have ht:w1.os=w.os∧w1.tape=w.tape∧w1.output=w.output:=by rcases hw1 with rfl|rfl<;>exact⟨rfl,rfl,rfl⟩
       refine hn _ _ _ S M (hgo j (by omega) hns') (hs'.put hd (.clean (.tup [.bool true,_,_] [.bool true,_,_] rfl (fun i hi=>by
        match i,hi with
        |0,_=>exact .bool _
        |1,_=>exact k5
        |2,_=>exact k6))) (fun i hi=> ?_)) ⟨SLe.refl _,fun _ _=>⟨fun _=>rfl,rfl⟩,⟨ht.1,ht.2.1,ht.2.2,by rw[hsz];exact Nat.le_refl _,fun k hk=>hw2 k (fun e=>i1 (e▸hk))⟩⟩
       simp only[PV.ids,PV.idsL,List.nil_append,List.append_nil,List.mem_append]at hi;rcases hi with hi|hi
       ·exact absurd hi (k5.clean_ids i)
       ·exact absurd hi (k6.clean_ids i)
     ·exact h.elim
    ·exact h.elim
   ·exact h.elim
 |binOp bop t x y yt=>
  split at h<;>try(exact h.elim)
  all_goals rename_i heq
  all_goals cases heq
  obtain⟨⟨hk,hask⟩,h⟩:=h;have hE:=hs.eval x;have hp:s.eval x= .sl .no []:=by
   revert hask
   unfold Zqp;split
   ·rename_i es he;intro hem;rw[he,List.isEmpty_iff.1 hem]
   ·intro hf;cases hf
  rw[hp]at hE;obtain⟨ad,cap,e,_⟩:=hE.sl_inv.sl_len;obtain⟨e',he⟩:=Zrg hk;have hrun:(Op.equal t (.slice ad 0 cap) (.slice none 0 0)).run P w= .ok ad.isNone w:=by
   have r2:∀d:Nat,(Op.equalIn (d+1) t (.slice none 0 cap) (.slice none 0 0)).run P w= .ok true w:=fun d=>by simp[Op.equalIn,ZJ he]
   cases ad with
   |none=>exact r2 _
   |some b=>exact ZaT _ t e' b 0 cap he
  have hS:Snd P B S s a w (do eqGuard .eql t x (.const (.slice none 0 0)) (a.eval x) (a.eval (.const (.slice none 0 0)));binOp .eql t (a.eval x) (a.eval (.const (.slice none 0 0)))) ⟨True,.bool ad.isNone,s.m⟩:=by
   rw[show a.eval x= .slice ad 0 cap from e,show a.eval (.const (.slice none 0 0))= .slice none 0 0 from rfl];refine Snd.pure hs (v:= .bool ad.isNone) ?_ (.clean (.bool _)) (by simp[PV.ids]);have hg:(eqGuard .eql t x (.const (.slice none 0 0)) (.slice ad 0 cap) (.slice none 0 0)).run P w= .ok () w:=ZcS (by simp) (by simp);simp only[Sem.run_bind,hg,Result.andThen_ok];have:=Zfb (op:= .eql) (.inl rfl) (by simp) (by simp) (by simp) (by simp) hrun;simpa using this
  exact Done.of_snd ZfA hd hS next Q fun v w' S' M' hs' he'=>hn _ v w' S' M' (h _) hs' he'
 |_=>exact h.elim
end
open Go.RowKit
def ZeV (want:Bool) (p:PV) (A B:Prop):Prop:=
 match p with
 | .bool b=>(b=want→A)∧(b= !want→B)
 | .tup _=>B
 |_=>False
def Zva (P:Program) (x:Bool) (m:Hp) (c:Option (FuncId×List PV)) (K:PV→Hp→Prop):Prop:=
 match c with
 |some (g,args)=>(PV.givableL m args∧((∃r,Pure P g (PV.giveL m args) r∧K r m)∨(x=true∧Zzy P g (PV.giveL m args) m K)))∨(x=true∧Zzx P g (PV.giveL m args) m K)
 |none=>False
def ZsQ (r:ARes) (K:PV→Hp→Prop):Prop:=r.ok∧K r.v r.m
def Zrs (P:Program) (x:Bool) (o:Oper) (s:St) (K:St→Prop):Prop:=
 match o.op with
 | .call { callee:= .value f,args,argTypes }=>Zva P x s.m (Zao s.eval { callee:= .value f,args,argTypes }) fun r m=>K ((s.with m).put o.dst r)
 | .call { callee:= .builtin .append,args,argTypes }=>if Zxq (args.toList.map s.eval)||vmB o.dst s.m then x=true∧ZAW P o.dst argTypes.toList (args.toList.map s.eval) s.m fun r m=>K ((s.with m).put o.dst r)else ZsQ (aop P o s.eval s.m) fun v m=>K ((s.with m).put o.dst v)
 | .buildSlice t len parts=>if vmB o.dst s.m then x=true∧ZAX P o.dst t len (parts.toList.map fun y=>(y.1,s.eval y.2)) s.m fun r m=>K ((s.with m).put o.dst r)else ZsQ (aop P o s.eval s.m) fun v m=>K ((s.with m).put o.dst v)
 | .makeMap _ none=>x=true∧Zx7 s.m fun r m=>K ((s.with m).put o.dst r)
 | .mapEntry t y k=>x=true∧Znr P t (s.eval y) (s.eval k) s.m fun r m=>K ((s.with m).put o.dst r)
 | .entryStore t y st v=>x=true∧o.dst=none∧Zos (s.eval y) (s.eval st) (s.eval v) s.m fun r m=>K ((s.with m).put o.dst r)
 | .range t y=>x=true∧Zp5 P t=true∧Zob (s.eval y) s.m fun r m=>K ((s.with m).put o.dst r)
 | .next y false=>x=true∧Zt8 (s.eval y) s.m fun r m=>K ((s.with m).put o.dst r)
 | .binOp .eql t y (.const (.slice none 0 0)) _=>if Zqp (s.eval y)then x=true∧Zp2 P t= .slc∧ ∀b,K ((s.with s.m).put o.dst (.bool b))else ZsQ (aop P o s.eval s.m) fun v m=>K ((s.with m).put o.dst v)
 |_=>ZsQ (aop P o s.eval s.m) fun v m=>K ((s.with m).put o.dst v)
def vcA (P:Program) (x:Bool) (ops:Array Oper) (K:St→Prop):List Oper→St→Prop
 | [],s=>K s
 |o::rest,s=>Zi9 s.n o.dst∧match o.guard with
  |none=>Zrs P x o s (vcA P x ops K rest)
  |some (j,want)=>match(ops[j]?).bind (·.dst)with
   |none=>vcA P x ops K rest (s.put o.dst (.tup []))
   |some d=>d<s.n∧ZeV want (s.fr d) (Zrs P x o s (vcA P x ops K rest)) (vcA P x ops K rest (s.put o.dst (.tup [])))
def Zxs (P:Program) (ops:Array Oper) (K:St→Prop):List Oper→St→Prop
 | [],s=>K s
 |o::rest,s=>Zi9 s.n o.dst∧((gd ops s o=some true∧((∃v m',Zb1 P o s.eval s.m v m'∧Zxs P ops K rest ((s.with m').put o.dst v))∨ZmX P o s (Zxs P ops K rest)))∨(gd ops s o=some false∧Zxs P ops K rest (s.put o.dst (.tup []))))
def ZoM (p:PV) (A B:Prop):Prop:=
 match p with
 | .bool b=>(b=true→A)∧(b=false→B)
 |_=>False
section
variable {P:Program} {s:St}
theorem ZuM {o:Oper} {K K':St→Prop} (hK:∀s,K s→K' s) (h:ZmX P o s K):ZmX P o s K':=by
 obtain⟨dst,op,ty,pos,after,guard⟩:=o;unfold ZmX at h ⊢;simp only at h ⊢;split at h
 ·rename_i c;split at h
  ·rename_i g args hc;rcases h with ⟨h1,h2⟩|⟨args0,m0,r,m1,f',g',a1,a2,a3,a4⟩
   rotate_left
   ·exact .inr ⟨args0,m0,r,m1,f',g',a1,a2,a3,hK _ a4⟩
   refine .inl ⟨h1,?_⟩;rcases h2 with ⟨r,a1,a2,a3⟩|⟨b,c,A,r,c',a1,a2,a3,a4⟩|⟨r,c,a1,a2⟩|⟨r,a1,a2⟩|⟨r,n,sz,e,d,a1,a2,a3⟩
   ·exact .inl ⟨r,a1,a2,hK _ a3⟩
   ·exact .inr (.inl ⟨b,c,A,r,c',a1,a2,a3,hK _ a4⟩)
   ·exact .inr (.inr (.inl ⟨r,c,a1,fun b hb=>hK _ (a2 b hb)⟩))
   ·exact .inr (.inr (.inr (.inl ⟨r,a1,hK _ a2⟩)))
   ·exact .inr (.inr (.inr (.inr ⟨r,n,sz,e,d,a1,a2,hK _ a3⟩)))
  ·split at h
   ·unfold ZAW at h ⊢;split at h
    ·split at h
     ·obtain⟨g,h⟩:=h;refine⟨g,?_⟩;unfold Zw5 at h ⊢;split at h
      ·split at h
       ·obtain⟨g0,g1,g2,g3,g4,g5,g6,hk⟩:=h;exact⟨g0,g1,g2,g3,g4,g5,g6,hK _ hk⟩
       ·exact h.elim
      ·obtain⟨g0,g1,g2,g3,hk⟩:=h;exact⟨g0,g1,g2,g3,hK _ hk⟩
      ·exact h.elim
     ·exact h.elim
    ·exact h.elim
   ·exact h.elim
 ·unfold ZAX at h ⊢;split at h
  ·obtain⟨g0,g1,g2,g3,hk⟩:=h;exact⟨g0,g1,g2,g3,hK _ hk⟩
  ·exact h.elim
 ·exact fun b hb=>hK _ (h b hb)
 ·unfold Znr at h ⊢;split at h
  ·split at h
   ·split at h
    ·exact⟨h.1,h.2.1,hK _ h.2.2⟩
    ·exact h.elim
   ·exact h.elim
  ·exact h.elim
 ·obtain⟨hd,h⟩:=h;refine⟨hd,?_⟩;unfold Zos at h ⊢;split at h
  ·split at h
   ·exact⟨h.1,h.2.1,hK _ h.2.2⟩
   ·exact h.elim
  ·exact h.elim
 ·rename_i t x;obtain⟨h1,h2⟩:=h;refine⟨h1,?_⟩;unfold Zob at h2 ⊢;split at h2
  ·split at h2
   ·exact fun ib hib=>hK _ (h2 ib hib)
   ·exact h2.elim
  ·exact fun ib b hib=>hK _ (h2 ib b hib)
  ·exact h2.elim
 ·rename_i x;unfold Zt8 at h ⊢;split at h
  ·split at h
   ·split at h
    ·exact⟨h.1,fun hh=>hK _ (h.2.1 hh),fun i h1 h2=>hK _ (h.2.2 i h1 h2)⟩
    ·exact h.elim
   ·exact h.elim
  ·exact h.elim
 ·exact⟨h.1,fun b=>hK _ (h.2 b)⟩
 ·exact h.elim
theorem ZoN {x:Bool} {o:Oper} {K:St→Prop} (h:Zrs P x o s K):(∃v m',Zb1 P o s.eval s.m v m'∧K ((s.with m').put o.dst v))∨(x=true∧ZmX P o s K):=by
 unfold Zrs at h;split at h
 ·rename_i f args ts heq;unfold Zva at h;split at h
  ·rename_i g xs hc;rcases h with ⟨h1,⟨r,h2,h3⟩|⟨hx,h2⟩⟩|⟨hx,h2⟩
   ·exact .inl ⟨r,s.m,.inr ⟨_,g,xs,heq,hc,h1,h2,rfl⟩,h3⟩
   ·refine .inr ⟨hx,?_⟩;unfold ZmX;rw[heq];simp only[hc];exact .inl ⟨h1,h2⟩
   ·refine .inr ⟨hx,?_⟩;unfold ZmX;rw[heq];simp only[hc];exact .inr h2
  ·exact h.elim
 ·rename_i xs ts heq;split at h
  ·obtain⟨hx,h2⟩:=h;refine .inr ⟨hx,?_⟩;unfold ZmX;rw[heq];simp only[Zao];exact h2
  ·exact .inl ⟨_,_,.inl ⟨h.1,rfl,rfl⟩,h.2⟩
 ·rename_i t len parts heq;split at h
  ·obtain⟨hx,h2⟩:=h;refine .inr ⟨hx,?_⟩;unfold ZmX;rw[heq];exact h2
  ·exact .inl ⟨_,_,.inl ⟨h.1,rfl,rfl⟩,h.2⟩
 ·rename_i heq;exact .inr ⟨h.1,by unfold ZmX;rw[heq];exact h.2⟩
 ·rename_i heq;exact .inr ⟨h.1,by unfold ZmX;rw[heq];exact h.2⟩
 ·rename_i heq;exact .inr ⟨h.1,by unfold ZmX;rw[heq];exact h.2⟩
 ·rename_i heq;exact .inr ⟨h.1,by unfold ZmX;rw[heq];exact h.2⟩
 ·rename_i heq;exact .inr ⟨h.1,by unfold ZmX;rw[heq];exact h.2⟩
 ·rename_i heq;split at h
  ·rename_i hask;exact .inr ⟨h.1,by unfold ZmX;rw[heq];exact⟨⟨h.2.1,hask⟩,h.2.2⟩⟩
  ·exact .inl ⟨_,_,.inl ⟨h.1,rfl,rfl⟩,h.2⟩
 ·exact .inl ⟨_,_,.inl ⟨h.1,rfl,rfl⟩,h.2⟩
theorem Zf3 {x:Bool} {ops:Array Oper} {K:St→Prop}:∀(l:List Oper) (s:St),vcA P x ops K l s→Zxs P ops K l s
 | [],s,h=>h
 |o::rest,s,h=>by
  obtain⟨hd,h⟩:=h;refine⟨hd,?_⟩;have op:∀ {s},Zrs P x o s (vcA P x ops K rest)→(∃v m',Zb1 P o s.eval s.m v m'∧Zxs P ops K rest ((s.with m').put o.dst v))∨ZmX P o s (Zxs P ops K rest):=fun h=>by
   rcases ZoN h with ⟨v,m',h1,h2⟩|⟨_,h1⟩
   ·exact .inl ⟨v,m',h1,Zf3 rest _ h2⟩
   ·exact .inr (ZuM (fun s' hs'=>Zf3 rest s' hs') h1)
  unfold gd;cases hg:o.guard with
  |none=>
   rw[hg]at h;exact .inl ⟨rfl,op h⟩
  |some jw=>
   obtain⟨j,want⟩:=jw;rw[hg]at h;simp only at h ⊢;cases hd':(ops[j]?).bind (·.dst)with
   |none=>rw[hd']at h;exact .inr ⟨rfl,Zf3 rest _ h⟩
   |some d=>
    rw[hd']at h;simp only at h ⊢;obtain⟨hlt,h⟩:=h;rw[if_pos hlt];unfold ZeV at h;split at h
    ·rename_i b hb;rw[hb]
     by_cases hbw:b=want
     ·left;subst hbw;exact⟨by simp[gdOf],op (h.1 rfl)⟩
     ·right;refine⟨by simp[gdOf,hbw],Zf3 rest _ (h.2 ?_)⟩;cases b<;>cases want<;>simp_all
    ·rename_i l hb;rw[hb];exact .inr ⟨rfl,Zf3 rest _ h⟩
    ·exact h.elim
theorem Zgu {ops:Array Oper} {K:St→Prop}:∀(l:List Oper) (s:St),vcA P false ops K l s→Zwd P ops K l s
 | [],s,h=>h
 |o::rest,s,h=>by
  obtain⟨hd,h⟩:=h;refine⟨hd,?_⟩;have op:∀ {s},Zrs P false o s (vcA P false ops K rest)→ ∃v m',Zb1 P o s.eval s.m v m'∧Zwd P ops K rest ((s.with m').put o.dst v):=fun h=>by
   rcases ZoN h with ⟨v,m',h1,h2⟩|⟨h1,_⟩
   ·exact⟨v,m',h1,Zgu rest _ h2⟩
   ·cases h1
  unfold gd;cases hg:o.guard with
  |none=>
   rw[hg]at h;exact .inl ⟨rfl,op h⟩
  |some jw=>
   obtain⟨j,want⟩:=jw;rw[hg]at h;simp only at h ⊢;cases hd':(ops[j]?).bind (·.dst)with
   |none=>rw[hd']at h;exact .inr ⟨rfl,Zgu rest _ h⟩
   |some d=>
    rw[hd']at h;simp only at h ⊢;obtain⟨hlt,h⟩:=h;rw[if_pos hlt];unfold ZeV at h;split at h
    ·rename_i b hb;rw[hb]
     by_cases hbw:b=want
     ·left;subst hbw;exact⟨by simp[gdOf],op (h.1 rfl)⟩
     ·right;refine⟨by simp[gdOf,hbw],Zgu rest _ (h.2 ?_)⟩;cases b<;>cases want<;>simp_all
    ·rename_i l hb;rw[hb];exact .inr ⟨rfl,Zgu rest _ h⟩
    ·exact h.elim
theorem ZfU {B:Frm} {ops:Array Oper} {K:St→Prop} {Qc:Exit→Act→World→Prop} {S0:Stable} {w0:World} (hQ:∀s' S' M' a' w',K s'→Sim B S' M' s' a' w'→Ext B S0 S' w0 w'→Qc .normal a' w'):
  ∀(l:List Oper) (k:Nat) (s:St),(∀j,l[j]? = ops[k+j]?)→Zxs P ops K l s→ ∀S M a w,Sim B S M s a w→Ext B S0 S w0 w→wpOps P ops Qc (List.range' k l.length) a w
 | [],k,s,_,h,S,M,a,w,hs,he=>hQ s S M a w h hs he
 |o::rest,k,s,hl,h,S,M,a,w,hs,he=>by
  have h0:ops[k]? = some o:=by simpa using(hl 0).symm
  have hl':∀j,rest[j]? = ops[(k+1)+j]? :=fun j=>by have:=hl (j+1);simpa[Nat.add_assoc,Nat.add_comm 1 j]using this
  obtain⟨hd,h⟩:=h;simp only[List.length_cons,List.range'_succ,wpOps,h0];rcases h with ⟨hg,⟨v,m',hst,hrest⟩|hsp⟩|⟨hg,hrest⟩
  ·rw[ZtN hs hg,if_pos rfl];exact .inl (ZlD hs (ZfO hd) hst _ _ fun u w' S' M' hs' he'=>ZfU hQ rest (k+1) _ hl' hrest S' M' _ w' hs' (he.trans he'))
  ·rw[ZtN hs hg,if_pos rfl];exact .inl (Zsy hs (ZfO hd) hsp _ _ fun s' u w' S' M' hk hs' he'=>ZfU hQ rest (k+1) s' hl' hk S' M' _ w' hs' (he.trans he'))
  ·rw[ZtN hs hg,if_neg (by simp)];exact ZfU hQ rest (k+1) _ hl' hrest S M _ w (Zrb hs hd) he
theorem Zo7 {id:Nat} {ops:Array Oper} {Q:Exit→St→Prop} (h:Zxs P ops (Q .normal) ops.toList s):awp P (.region id ops false) Q s:=fun B S M a w hs=>by
 refine wp_region ?_;have:=ZfU (B:=B) (S0:=S) (w0:=w) (Qc:=fun e a' w'=>∃s' S' M',Q e s'∧Sim B S' M' s' a' w'∧Ext B S S' w w') (fun s' S' M' a' w' h1 h2 h3=>⟨s',S',M',h1,h2,h3⟩) ops.toList 0 s (by simp) h S M a w hs (Ext.refl _ _ _);rw[←List.range_eq_range']at this;simpa using this
def vc (P:Program):Code→(Exit→St→Prop)→St→Prop
 | .skip,Q,s=>Q .normal s
 | .label _,Q,s=>Q .normal s
 | .ret,Q,s=>Q .ret s
 | .exit id,Q,s=>Q (.exit id) s
 | .goto l,Q,s=>Q (.goto l) s
 | .seq (.label l) y,Q,s=>awp P (.seq (.label l) y) Q s
 | .seq x y,Q,s=>vc P x (ZcU (vc P y Q) Q) s
 | .cond c x y,Q,s=>ZoM (s.eval c) (vc P x Q s) (vc P y Q s)
 | .block id c,Q,s=>vc P c (Zh6 id Q) s
 | .region _ ops false,Q,s=>vcA P true ops (Q .normal) ops.toList s
 |c,Q,s=>awp P c Q s
theorem ZrO {x y:Code} {Q:Exit→St→Prop} {s:St} (hx:∀Q s,vc P x Q s→awp P x Q s) (hy:∀Q s,vc P y Q s→awp P y Q s) (h:vc P x (ZcU (vc P y Q) Q) s):awp P (.seq x y) Q s:=
 ZiZ (ZaO (fun e s' h'=>by
   cases e with
   |normal=>exact hy Q s' h'
   |_=>exact h') (hx _ s h))
theorem Z1:∀(c:Code) (Q:Exit→St→Prop) (s:St),vc P c Q s→awp P c Q s
 | .skip,Q,s,h=>Zis h
 | .label _,Q,s,h=>Znj h
 | .ret,Q,s,h=>ZxU h
 | .exit id,Q,s,h=>ZvP h
 | .goto l,Q,s,h=>ZvQ h
 | .seq x y,Q,s,h=>by
  cases x with
  |label l=>exact h
  |_=>exact ZrO (Z1 _) (Z1 y) h
 | .cond c x y,Q,s,h=>by
  unfold vc ZoM at h;split at h
  ·rename_i b hb;refine ZvN hb ?_;cases b
   ·exact Z1 y Q s (h.2 rfl)
   ·exact Z1 x Q s (h.1 rfl)
  ·exact h.elim
 | .block id c,Q,s,h=>Zti (Z1 c _ s h)
 | .region _ ops false,Q,s,h=>Zo7 (Zf3 _ _ h)
 | .region _ ops true,Q,s,h=>h
 | .loop c,Q,s,h=>h
 | .rangeFunc ..,Q,s,h=>h
 | .scope c,Q,s,h=>h
 | .refuse _,Q,s,h=>h
end
class KS where
 k:St→Prop
class LST where
 l:List Oper
class COD where
 c:Code
class QS where
 q:Exit→St→Prop
class PR where
 p:Prop
class KR where
 k:PV→Hp→Prop
class KV where
 k:PV→Prop
class KH where
 m:Hp
def ZD8 (r:ARes) [K:KR]:Prop:=ZsQ r K.k
def Ze3 (want:Bool) (p:PV) [A:PR] [B:PR]:Prop:=ZeV want p A.p B.p
def ZsK (p:PV) [A:PR] [B:PR]:Prop:=ZoM p A.p B.p
def Zkp (P:Program) (x:Bool) [M:KH] (c:Option (FuncId×List PV)) [K:KR]:Prop:=Zva P x M.m c K.k
def vA (P:Program) (x:Bool) [K:KS] [G:LST] [L:LST] (s:St):Prop:=vcA P x G.l.toArray K.k L.l s
def ZCD (P:Program) (x:Bool) [K:KS] [G:LST] [L:LST] (o:Oper) (s:St):Prop:=vcA P x G.l.toArray K.k (o::L.l) s
def vOp (P:Program) (x:Bool) [K:KS] (o:Oper) (s:St):Prop:=Zrs P x o s K.k
def ZrZ [G:LST] (j:Nat):Option Nat:=(G.l[j]?).bind (·.dst)
def vC (P:Program) [C:COD] [Q:QS] (s:St):Prop:=vc P C.c Q.q s
def vQ [Q:QS] (e:Exit) (s:St):Prop:=Q.q e s
section
variable {P:Program} {x:Bool}
theorem ZyO (ok:Prop) (v:PV) (m:Hp) (K:KR):@ZD8 ⟨ok,v,m⟩ K=(ok∧K.k v m):=rfl
theorem Zu6 (A B:PR):@Ze3 true (.bool true) A B=A.p:=by simp[Ze3,ZeV]
theorem Zu5 (A B:PR):@Ze3 true (.bool false) A B=B.p:=by simp[Ze3,ZeV]
theorem Zu4 (A B:PR):@Ze3 false (.bool true) A B=B.p:=by simp[Ze3,ZeV]
theorem Zu3 (A B:PR):@Ze3 false (.bool false) A B=A.p:=by simp[Ze3,ZeV]
theorem ZsL (w:Bool) (l:List PV) (A B:PR):@Ze3 w (.tup l) A B=B.p:=rfl
theorem ZyL (A B:PR):@ZsK (.bool true) A B=A.p:=by simp[ZsK,ZoM]
theorem ZyK (A B:PR):@ZsK (.bool false) A B=B.p:=by simp[ZsK,ZoM]
theorem Zr1 (o:Oper) (l:List Oper):@ZrZ ⟨o::l⟩ 0=o.dst:=rfl
theorem Zr0 (o:Oper) (l:List Oper) (j:Nat):@ZrZ ⟨o::l⟩ (j+1)= @ZrZ ⟨l⟩ j:=by simp[ZrZ]
theorem ZAV (K:KS) (G:LST) (s:St):@vA P x K G ⟨[]⟩ s=K.k s:=rfl
theorem ZyD (K:KS) (G:LST) (o:Oper) (l:List Oper) (s:St):@vA P x K G ⟨o::l⟩ s= @ZCD P x K G ⟨l⟩ o s:=rfl
theorem ZsN (K:KS) (G L:LST) (d:Option Tmp) (op:Op) (ty:TypeId) (pos:String) (af:Array Edge) (s:St):
  @ZCD P x K G L ⟨d,op,ty,pos,af,none⟩ s=(Zi9 s.n d∧ @vOp P x ⟨@vA P x K G L⟩ ⟨d,op,ty, "",#[],none⟩ s):=by
 have h:Zrs P x ⟨d,op,ty,pos,af,none⟩ s=Zrs P x ⟨d,op,ty, "",#[],none⟩ s:=by
  funext K;cases op<;>rfl
 show(Zi9 s.n d∧Zrs P x ⟨d,op,ty,pos,af,none⟩ s (vcA P x G.l.toArray K.k L.l))=_;rw[h];rfl
theorem ZsM (K:KS) (G L:LST) (d:Option Tmp) (op:Op) (ty:TypeId) (pos:String) (af:Array Edge) (j:Nat) (want:Bool) (s:St) (d':Nat) (h:@ZrZ G j=some d'):
  @ZCD P x K G L ⟨d,op,ty,pos,af,some (j,want)⟩ s=(Zi9 s.n d∧d'<s.n∧ @Ze3 want (s.fr d') ⟨@vOp P x ⟨@vA P x K G L⟩ ⟨d,op,ty, "",#[],none⟩ s⟩ ⟨@vA P x K G L (s.put d (.tup []))⟩):=by
 have h':(G.l.toArray[j]?).bind (·.dst)=some d':=by simpa[ZrZ]using h
 have e:Zrs P x ⟨d,op,ty,pos,af,some (j,want)⟩ s=Zrs P x ⟨d,op,ty, "",#[],none⟩ s:=by
  funext K;cases op<;>rfl
 show(Zi9 s.n d∧(match(G.l.toArray[j]?).bind (·.dst)with
   |none=>vcA P x G.l.toArray K.k L.l (s.put d (.tup []))
   |some d=>d<s.n∧ZeV want (s.fr d) (Zrs P x ⟨_,op,ty,pos,af,some (j,want)⟩ s (vcA P x G.l.toArray K.k L.l)) (vcA P x G.l.toArray K.k L.l (s.put _ (.tup [])))))=_
 rw[h',e];rfl
theorem Zxb (K:KS) (d:Option Tmp) (f:Operand) (args:Array Operand) (ts:Array TypeId) (ty:TypeId) (s:St):
  @vOp P x K ⟨d,.call ⟨.value f,args,ts⟩,ty, "",#[],none⟩ s= @Zkp P x ⟨s.m⟩ (Zao s.eval ⟨.value f,args,ts⟩) ⟨fun r m=>K.k ((s.with m).put d r)⟩:=rfl
theorem ZyJ (Q:QS) (s:St):@vC P ⟨.skip⟩ Q s= @vQ Q .normal s:=rfl
theorem Zw7 (l:Nat) (Q:QS) (s:St):@vC P ⟨.label l⟩ Q s= @vQ Q .normal s:=rfl
theorem ZAY (Q:QS) (s:St):@vC P ⟨.ret⟩ Q s= @vQ Q .ret s:=rfl
theorem ZyG (id:Nat) (Q:QS) (s:St):@vC P ⟨.exit id⟩ Q s= @vQ Q (.exit id) s:=rfl
theorem ZyH (l:Nat) (Q:QS) (s:St):@vC P ⟨.goto l⟩ Q s= @vQ Q (.goto l) s:=rfl
theorem Zqd (y:Code) (Q:QS) (s:St):@vC P ⟨.seq (.skip) y⟩ Q s= @vC P ⟨.skip⟩ ⟨ZcU (@vC P ⟨y⟩ Q) Q.q⟩ s:=rfl
theorem ZsI (y:Code) (Q:QS) (s:St):@vC P ⟨.seq (.ret) y⟩ Q s= @vC P ⟨.ret⟩ ⟨ZcU (@vC P ⟨y⟩ Q) Q.q⟩ s:=rfl
theorem Zqa (id:Nat) (y:Code) (Q:QS) (s:St):@vC P ⟨.seq (.exit id) y⟩ Q s= @vC P ⟨.exit id⟩ ⟨ZcU (@vC P ⟨y⟩ Q) Q.q⟩ s:=rfl
theorem Zqb (l:Nat) (y:Code) (Q:QS) (s:St):@vC P ⟨.seq (.goto l) y⟩ Q s= @vC P ⟨.goto l⟩ ⟨ZcU (@vC P ⟨y⟩ Q) Q.q⟩ s:=rfl
theorem ZsJ (a b:Code) (y:Code) (Q:QS) (s:St):@vC P ⟨.seq (.seq a b) y⟩ Q s= @vC P ⟨.seq a b⟩ ⟨ZcU (@vC P ⟨y⟩ Q) Q.q⟩ s:=rfl
theorem Zp9 (c:Operand) (a b:Code) (y:Code) (Q:QS) (s:St):@vC P ⟨.seq (.cond c a b) y⟩ Q s= @vC P ⟨.cond c a b⟩ ⟨ZcU (@vC P ⟨y⟩ Q) Q.q⟩ s:=rfl
theorem ZoD (id:Nat) (c:Code) (y:Code) (Q:QS) (s:St):@vC P ⟨.seq (.block id c) y⟩ Q s= @vC P ⟨.block id c⟩ ⟨ZcU (@vC P ⟨y⟩ Q) Q.q⟩ s:=rfl
theorem ZmR (id:Nat) (l:Array Oper) (d:Bool) (y:Code) (Q:QS) (s:St):@vC P ⟨.seq (.region id l d) y⟩ Q s= @vC P ⟨.region id l d⟩ ⟨ZcU (@vC P ⟨y⟩ Q) Q.q⟩ s:=rfl
theorem Zqc (c:Code) (y:Code) (Q:QS) (s:St):@vC P ⟨.seq (.loop c) y⟩ Q s= @vC P ⟨.loop c⟩ ⟨ZcU (@vC P ⟨y⟩ Q) Q.q⟩ s:=rfl
theorem ZoF (c:Code) (y:Code) (Q:QS) (s:St):@vC P ⟨.seq (.scope c) y⟩ Q s= @vC P ⟨.scope c⟩ ⟨ZcU (@vC P ⟨y⟩ Q) Q.q⟩ s:=rfl
theorem ZoE (l:Nat) (y:Code) (Q:QS) (s:St):@vC P ⟨.seq (.label l) y⟩ Q s=awp P (.seq (.label l) y) Q.q s:=rfl
theorem ZyE (c:Operand) (x y:Code) (Q:QS) (s:St):@vC P ⟨.cond c x y⟩ Q s= @ZsK (s.eval c) ⟨@vC P ⟨x⟩ Q s⟩ ⟨@vC P ⟨y⟩ Q s⟩:=rfl
theorem Zw6 (id:Nat) (c:Code) (Q:QS) (s:St):@vC P ⟨.block id c⟩ Q s= @vC P ⟨c⟩ ⟨Zh6 id Q.q⟩ s:=rfl
theorem Zu2 (id:Nat) (l:List Oper) (Q:QS) (s:St):@vC P ⟨.region id l.toArray false⟩ Q s= @vA P true ⟨@vQ Q .normal⟩ ⟨l⟩ ⟨l⟩ s:=rfl
theorem Zw8 (c:Code) (Q:QS) (s:St):@vC P ⟨.scope c⟩ Q s=awp P (.scope c) Q.q s:=rfl
theorem ZyI (c:Code) (Q:QS) (s:St):@vC P ⟨.loop c⟩ Q s=awp P (.loop c) Q.q s:=rfl
theorem ZyF (id:Nat) (l:Array Oper) (Q:QS) (s:St):@vC P ⟨.region id l true⟩ Q s=awp P (.region id l true) Q.q s:=rfl
theorem Zkt (K:St→Prop) (Q:Exit→St→Prop) (s:St):@vQ ⟨ZcU K Q⟩ .normal s=K s:=rfl
theorem Zqi (K:St→Prop) (Q:Exit→St→Prop) (s:St):@vQ ⟨ZcU K Q⟩ .ret s= @vQ ⟨Q⟩ .ret s:=rfl
theorem ZoJ (K:St→Prop) (Q:Exit→St→Prop) (id:Nat) (s:St):@vQ ⟨ZcU K Q⟩ (.exit id) s= @vQ ⟨Q⟩ (.exit id) s:=rfl
theorem ZoK (K:St→Prop) (Q:Exit→St→Prop) (id:Nat) (s:St):@vQ ⟨ZcU K Q⟩ (.goto id) s= @vQ ⟨Q⟩ (.goto id) s:=rfl
theorem Zj4 (id:Nat) (Q:Exit→St→Prop) (s:St):@vQ ⟨Zh6 id Q⟩ .normal s= @vQ ⟨Q⟩ .normal s:=rfl
theorem ZoH (id:Nat) (Q:Exit→St→Prop) (s:St):@vQ ⟨Zh6 id Q⟩ .ret s= @vQ ⟨Q⟩ .ret s:=rfl
theorem ZmT (id l:Nat) (Q:Exit→St→Prop) (s:St):@vQ ⟨Zh6 id Q⟩ (.goto l) s= @vQ ⟨Q⟩ (.goto l) s:=rfl
theorem ZmS (id j:Nat) (Q:Exit→St→Prop) (s:St):@vQ ⟨Zh6 id Q⟩ (.exit j) s=(if j=id then @vQ ⟨Q⟩ .normal s else @vQ ⟨Q⟩ (.exit j) s):=rfl
theorem ZA {b:Bool} {A B:PR} (h1:b=true→A.p) (h2:b=false→B.p):@Ze3 true (.bool b) A B:=⟨h1,h2⟩
theorem Zz {b:Bool} {A B:PR} (h1:b=true→B.p) (h2:b=false→A.p):@Ze3 false (.bool b) A B:=⟨h2,h1⟩
theorem ZN {b:Bool} {A B:PR} (h1:b=true→A.p) (h2:b=false→B.p):@ZsK (.bool b) A B:=⟨h1,h2⟩
theorem Za {M:KH} {g:FuncId} {args args':List PV} {K:KR} {r:PV} (h1:Pure P g args' r) (h0:PV.givableL M.m args) (he:PV.giveL M.m args=args') (h2:K.k r M.m):@Zkp P x M (some (g,args)) K:=
 .inl ⟨h0,.inl ⟨r,by rw[he];exact h1,h2⟩⟩
theorem Zrn {M:KH} {g:FuncId} {args args':List PV} {K:KR} {r:PV} (h1:Pure P g args' r) (hn:r.nomap=true) (h0:PV.givableL M.m args) (he:PV.sealL M.m.o (PV.giveL M.m args)=args') (h2:K.k r M.m):@Zkp P true M (some (g,args)) K:=
 .inl ⟨h0,.inr ⟨rfl,.inl ⟨r,by rw[he];exact h1,hn,h2⟩⟩⟩
theorem Zrp {M:KH} {g:FuncId} {args:List PV} {K:KR} {A:Nat→List PV} {c c':MapC} {r:PV} (b:Nat) (h1:Wr P g A c r c') (h0:PV.givableL M.m args) (he:PV.giveL M.m args=A b) (hc:M.m.o b=some c) (h2:K.k r { M.m with o:=upd M.m.o b (some c') }):@Zkp P true M (some (g,args)) K:=
 .inl ⟨h0,.inr ⟨rfl,.inr (.inl ⟨b,c,A,r,c',hc,he,h1,h2⟩)⟩⟩
theorem Zrm {M:KH} {g:FuncId} {args args':List PV} {K:KR} {c:MapC} {r:Nat→PV} (h1:Mk P g args' r c) (h0:PV.givableL M.m args) (he:PV.giveL M.m args=args') (h2:∀b,M.m.o b=none→K.k (r b) { M.m with o:=upd M.m.o b (some c) }):@Zkp P true M (some (g,args)) K:=
 .inl ⟨h0,.inr ⟨rfl,.inr (.inr (.inl ⟨r,c,by rw[he];exact h1,h2⟩))⟩⟩
theorem Zxa {M:KH} {g:FuncId} {args args':List PV} {K:KR} {r:PV} (h1:Xt P g args' r) (h0:PV.givableL M.m args) (he:PV.giveL M.m args=args') (h2:K.k r M.m):@Zkp P true M (some (g,args)) K:=
 .inl ⟨h0,.inr ⟨rfl,.inr (.inr (.inr (.inl ⟨r,by rw[he];exact h1,h2⟩)))⟩⟩
theorem Zj3 {M:KH} {g:FuncId} {args args0:List PV} {K:KR} {m0 m1:MemL} {r:PV} (f' g':Nat→Nat) (h1:Eff P g args0 m0 r m1) (hf:FitsM m0 m1 f' g' M.m) (he:PV.giveL M.m args=args0.map (PV.ren f' g')) (h2:K.k (r.ren f' g') (ZsX m1 f' g' M.m)):@Zkp P true M (some (g,args)) K:=
 .inr ⟨rfl,args0,m0,r,m1,f',g',h1,hf,he,h2⟩
def Zkw (P:Program) (r:PV) (s:St):List PV→List ResultVar→Prop
 |acc,[]=>(Zvp acc.reverse).givable s.m∧r=(Zvp acc.reverse).give s.m
 |acc,.tmp t::rs=>Zkw P r s (s.fr t::acc) rs
 |acc,.cell t ty::rs=>tkn P ty=true∧(Zd4 P ty (s.fr t) s.m).ok∧Zkw P r s ((Zd4 P ty (s.fr t) s.m).v::acc) rs
theorem Zhg {fn:Func} {r:PV} {s:St}:∀(rs:List ResultVar) (acc:List PV),Zkw P r s acc rs→
  Zkd (rs.map (Zif P s))∧(Zvp (acc.reverse++rs.map fun x=>(Zif P s x).v)).givable s.m∧r=(Zvp (acc.reverse++rs.map fun x=>(Zif P s x).v)).give s.m
 | [],acc,h=>by simpa[Zkw,Zkd]using h
 | .tmp t::rs,acc,h=>by
  obtain⟨h1,h2,h3⟩:=Zhg (fn:=fn) rs _ h;refine⟨⟨trivial,h1⟩,?_,?_⟩
  ·simpa[Zif]using h2
  ·simpa[Zif]using h3
 | .cell t ty::rs,acc,h=>by
  obtain⟨h0,h0',h⟩:=h;obtain⟨h1,h2,h3⟩:=Zhg (fn:=fn) rs _ h;refine⟨⟨?_,h1⟩,?_,?_⟩
  ·simpa[Zif,h0]using h0'
  ·simpa[Zif,h0]using h2
  ·simpa[Zif,h0]using h3
def ZyP (P:Program) (rs:List ResultVar) (r:PV):Exit→St→Prop
 | .normal,s=>Zkw P r s [] rs
 | .ret,s=>Zkw P r s [] rs
 |_,_=>False
theorem Zqj (rs:List ResultVar) (r:PV) (s:St):@vQ ⟨ZyP P rs r⟩ .ret s=Zkw P r s [] rs:=rfl
theorem Zku (rs:List ResultVar) (r:PV) (s:St):@vQ ⟨ZyP P rs r⟩ .normal s=Zkw P r s [] rs:=rfl
theorem pov {f:FuncId} {fn:Func} {c:Code} {args:List PV} {r:PV} {n:Nat} {rs:List ResultVar} (hf:P.funcs[f]? = some fn) (hname:fn.name≠ "runtime.NumGoroutine") (hb:fn.body=some c) (hn:fn.ntmps=n) (hrs:fn.results=rs.toArray) (hl:args.length≤n) (hi:r.dids= [])
  (h:@vC P ⟨c⟩ ⟨ZyP P rs r⟩ (St.init args n)):Pure P f args r:=by
 subst hn;refine Pure.intro hf hname hb hl hi (ZaO (fun e s hq=> ?_) (Z1 _ _ _ h));have key:Zkw P r s [] rs→ZzY P fn r s:=fun hv=>by
  unfold ZzY;rw[hrs];simpa using Zhg (fn:=fn) rs [] hv
 cases e with
 |normal=>exact key hq
 |ret=>exact key hq
 |_=>exact hq
end
attribute [go_sem] Zqd ZsI Zqa Zqb ZsJ Zp9 ZoD ZmR Zqc ZoF ZoE Zw8 Zu2 ZAY ZyE Zw6 ZyJ Zw7 ZyG ZyH ZyI ZyF ZyD ZAV ZsN ZsM Zr1 Zr0 Zkt Zqi ZoJ ZoK
 Zj4 ZoH ZmT ZmS Zqj Zku Zu6 Zu5 Zu4 Zu3 ZsL ZyL ZyK ZyO
attribute [go_sem] vOp Zrs ZsQ Zi9 aop St.eval St.init Zdo St.put St.with ZgA Zba ZgB Zbb Zd4 Zcz ZaK Hp.new Hp.empty Hp.setq Hp.freeze PV.cells Zvt Zvw Zvv ZvB Zvn aEq ZbI Zfs ZcE PV.known PV.atom
 Zkc Zde Zvu ZlV ZlU aUn Ze4 ZcX Zvx Zvy Zvz Zgz Zfd ZaW ZjG ZgC Zxt Zxp Zb3 aMakeFull Z7 Zez Zcu Zao PV.give PV.giveL PV.givable PV.givableL PV.share PV.shareL PV.clean PV.cleanL
 Zkw Zvp frozenBy Zd7 PV.ids PV.idsL Zed ZD ZqZ ZwN ZqN ARes.fail ZbP ZX Zdd Zck ZtW ZhL mapIt Zwi Zx7 Zob Zt8 PV.shut PV.sealL Zxq vmB Zqp List.isEmpty_nil List.isEmpty_cons ZAW Zw5 ZAX Zn3 Zdg ZlL ZvH Znr Zos Zy7 ZA9 ZeG ZjK
attribute [go_sem ↓ high] Zxb
attribute [go_sem] List.append_nil List.nil_append List.cons_append
@[go_sem] theorem ZCB {α:Type} (f:Nat→α) (i j:Nat) (v:α):upd f i v j=if i=j then v else f j:=rfl
open Go.RowKit
structure Fp where
 rh:Bool:=false
 rz:Bool:=false
 rq:Bool:=false
 wh:Bool:=false
 wz:Bool:=false
 wq:Bool:=false
 nb:Bool:=false
 nq:Bool:=false
 ro:Bool:=false
 wo:Bool:=false
def fp:Op→Fp
 | .load _ _=> { rh:=true }
 | .convert _ _ _=> { rh:=true }
 | .store _ _ _=> { rh:=true,rz:=true,wh:=true }
 | .alloc _=> { nb:=true }
 | .box _ _=> { nb:=true }
 | .makeSlice _ _ _=> { nq:=true }
 | .buildSlice _ _ _=> { nq:=true }
 | .makeFunc _ _ caps=>if caps.isEmpty then {} else { rh:=true,wz:=true }
 | .lookup _ _ _ _=> { ro:=true }
 | .mapUpdate _ _ _ _=> { ro:=true,wo:=true }
 | .entry _=> { ro:=true }
 | .call { callee:= .builtin b,.. }=>match b with| .append=> { rq:=true,wq:=true }| .len=> { ro:=true }|_=> {}
 | .call _=> { rh:=true,rz:=true }
 |_=> {}
def Hp.hv (m:Hp):Ref→Option (List PV)
 | .b i=>m.h i
 | .r i=>m.v i
def Hp.io (m:Hp):(Nat→Option IterC)×(Nat→Option MapC)×(Nat→Option Nat)×(Nat→Option (Nat×Nat×Nat))×(Nat→Bool):=(m.it,m.om,m.ph,m.pq,m.vm)
theorem Zpo (m:Hp) (d:Nat) (r:Row) (x:Ref):(m.setq d r).hv x=m.hv x:=by cases x<;>rfl
theorem Zv4 {a b:Hp} (h1:a.h=b.h) (h2:a.v=b.v) (x:Ref):a.hv x=b.hv x:=by cases x<;>simp[Hp.hv,h1,h2]
def Zay (o:Oper) (ρ:Operand→PV):List Ref:=o.op.operands.toList.flatMap fun x=>(ρ x).ids
def Wh (o:Oper) (ρ:Operand→PV) (r:Ref):Prop:=((fp o.op).wh=true∧r∈Zay o ρ)∨((fp o.op).nb=true∧ ∃i,o.dst=some i∧r= .b i)
def Wz (o:Oper) (ρ:Operand→PV) (i:Nat):Prop:=((fp o.op).wz=true∧ .b i∈Zay o ρ)∨((fp o.op).nb=true∧o.dst=some i)
def Wq (o:Oper) (ρ:Operand→PV) (i:Nat):Prop:=((fp o.op).wq=true∧(.r i∈Zay o ρ∨o.dst=some i))∨((fp o.op).nq=true∧o.dst=some i)
structure Foot (P:Program) (o:Oper) (ρ:Operand→PV) (m:Hp) (v:PV) (m':Hp):Prop where
 h1:∀r,¬Wh o ρ r→m'.hv r=m.hv r
 z1:∀i,¬Wz o ρ i→m'.z i=m.z i
 q1:∀i,¬Wq o ρ i→m'.q i=m.q i
 hn:(fp o.op).nb=true→ ∀i,o.dst=some i→m.h i=none
 qn:(fp o.op).nq=true→ ∀i,o.dst=some i→m.q i=none
 hl:∀i,m.h i≠none→m'.h i≠none
 ql:∀i,m.q i≠none→m'.q i≠none
 o1:(fp o.op).wo=false→m'.o=m.o
 i1:m'.io=m.io
 re:∀m2:Hp,((fp o.op).rh=true→ ∀r,r∈Zay o ρ→m2.hv r=m.hv r)→((fp o.op).rz=true→ ∀i,.b i∈Zay o ρ→m2.z i=m.z i)→
  ((fp o.op).rq=true→ ∀i,(.r i∈Zay o ρ∨o.dst=some i)→m2.q i=m.q i)→((fp o.op).nb=true→ ∀i,o.dst=some i→m2.h i=none)→((fp o.op).nq=true→ ∀i,o.dst=some i→m2.q i=none)→
  ((fp o.op).ro=true→m2.o=m.o)→m2.io=m.io→
  ∃m2',Zb1 P o ρ m2 v m2'∧(∀r,(Wh o ρ r→m2'.hv r=m'.hv r)∧(¬Wh o ρ r→m2'.hv r=m2.hv r))∧(∀i,(Wz o ρ i→m2'.z i=m'.z i)∧(¬Wz o ρ i→m2'.z i=m2.z i))∧
   (∀i,(Wq o ρ i→m2'.q i=m'.q i)∧(¬Wq o ρ i→m2'.q i=m2.q i))∧(((fp o.op).wo=true→m2'.o=m'.o)∧((fp o.op).wo=false→m2'.o=m2.o))∧m2'.io=m2.io
def Zcj (f:Hp→ARes):Prop:=∀m m2,(f m).ok→(f m).m=m∧(f m2).ok∧(f m2).v=(f m).v∧(f m2).m=m2
section
variable {P:Program}
theorem Zw {ok:Prop} {v:PV}:Zcj fun m=>⟨ok,v,m⟩:=fun m m2 h=>⟨rfl,h,rfl,rfl⟩
theorem Zx:Zcj fun _=>ARes.fail:=fun m m2 h=>h.elim
theorem Zll {c x y:PV}:Zcj (Zkc c x y):=fun m m2 h=>by
 revert h;unfold Zkc;split
 ·exact Zw m m2
 ·exact Zw m m2
 ·exact Zx m m2
theorem ZjD {t:TypeId} {x:PV} {f:Nat}:Zcj (ZgA P t x f):=fun m m2 h=>by
 revert h;unfold ZgA;split
 ·exact Zw m m2
 ·exact Zx m m2
theorem Zfq {t:TypeId} {x:PV} {f:Nat}:Zcj (Zba P t x f):=fun m m2 h=>by
 revert h;unfold Zba;split<;>first|exact Zw m m2|exact Zx m m2
theorem ZjE {t:TypeId} {x y:PV}:Zcj (ZgB P t x y):=fun m m2 h=>by
 revert h;unfold ZgB;split<;>first|exact Zw m m2|exact Zx m m2
theorem Zfr {t:TypeId} {x y:PV}:Zcj (Zbb P t x y):=fun m m2 h=>by
 revert h;unfold Zbb;split<;>first|exact Zw m m2|exact Zx m m2
theorem Zub {op:BinOp} {k k':IntKind} {x y:Int}:Zcj (Zvw op k k' x y):=fun m m2 h=>by
 revert h;unfold Zvw;split<;>first|exact Zw m m2|exact Zx m m2
theorem Zuc {op:BinOp} {x y:List UInt8}:Zcj (ZvB op x y):=fun m m2 h=>by
 revert h;unfold ZvB;split<;>first|exact Zw m m2|exact Zx m m2
theorem Zua {op:BinOp} {k k':FloatKind} {x y:Nat}:Zcj (Zvv op k k' x y):=fun m m2 h=>by
 revert h;unfold Zvv;split<;>first|exact Zw m m2|exact Zx m m2
theorem Zmq {b:Bool} {r:Option Bool}:Zcj (aEq b r):=fun m m2 h=>by
 revert h;unfold aEq;split<;>first|exact Zw m m2|exact Zx m m2
theorem Zt9 {b:Bool} {t:TypeId} {x y:PV}:Zcj (Zvn P b t x y):=fun m m2 h=>by
 revert h;unfold Zvn
 split
 ·split<;>first|exact Zmq m m2|exact Zx m m2
 ·split<;>first|exact Zmq m m2|exact Zx m m2
 ·split<;>first|exact Zmq m m2|exact Zx m m2
theorem ZnS {op:BinOp} {t:TypeId} {x y:PV}:Zcj (Zvt P op t x y):=fun m m2 h=>by
 revert h;unfold Zvt
 split
 ·exact Zub m m2
 ·exact Zuc m m2
 ·exact Zua m m2
 ·split<;>first|exact Zt9 m m2|exact Zx m m2
theorem ZqR {op:UnOp} {x:PV}:Zcj (aUn op x):=fun m m2 h=>by
 revert h;unfold aUn;split<;>first|exact Zw m m2|exact Zx m m2
theorem ZnT {x y:PV}:Zcj (Zvu x y):=fun m m2 h=>by
 revert h;unfold Zvu;split<;>first|exact Zw m m2|exact Zx m m2
theorem Zlm {x:PV}:Zcj (ZlV x):=fun m m2 h=>by
 revert h;unfold ZlV;split<;>first|exact Zw m m2|exact Zx m m2
theorem Zlk {x:PV}:Zcj (ZlU x):=fun m m2 h=>by
 revert h;unfold ZlU;split<;>first|exact Zw m m2|exact Zx m m2
theorem Zxk {a b:TypeId} {x:PV} {m:Hp} (h:(Ze4 P a b x m).ok):(Ze4 P a b x m).m=m:=by
 revert h
 unfold Ze4;split
 ·exact fun _=>rfl
 ·exact fun _=>rfl
 ·split
  ·exact fun _=>rfl
  ·exact fun h=>h.elim
 ·exact fun _=>rfl
 ·split
  ·exact fun _=>rfl
  ·exact fun h=>h.elim
 ·split
  ·split
   ·exact fun _=>rfl
   ·exact fun h=>h.elim
  ·exact fun h=>h.elim
 ·exact fun h=>h.elim
theorem ZrS {a b:TypeId} {x:PV} {m m2:Hp} (hm:∀i,.b i∈x.ids→m2.h i=m.h i) (h:(Ze4 P a b x m).ok):(Ze4 P a b x m2).ok∧(Ze4 P a b x m2).v=(Ze4 P a b x m).v∧(Ze4 P a b x m2).m=m2:=by
 revert h
 unfold Ze4;split
 ·exact fun _=>⟨trivial,rfl,rfl⟩
 ·exact fun _=>⟨trivial,rfl,rfl⟩
 ·split
  ·exact fun h=>⟨h,rfl,rfl⟩
  ·exact fun h=>h.elim
 ·exact fun _=>⟨trivial,rfl,rfl⟩
 ·split
  ·exact fun _=>⟨trivial,rfl,rfl⟩
  ·exact fun h=>h.elim
 ·rename_i id off len sz _;have e:=hm id (by simp[PV.ids]);simp only[e];split
  ·split
   ·exact fun h=>⟨h,rfl,rfl⟩
   ·exact fun h=>h.elim
  ·exact fun h=>h.elim
 ·exact fun h=>h.elim
theorem ZgZ {x:PV} {i:Nat}:Zcj (ZcX x i):=fun m m2 h=>by
 revert h;unfold ZcX;split<;>first|exact Zw m m2|exact Zx m m2
theorem Zf9 {x:PV}:Zcj (Zde x):=fun m m2 h=>by
 revert h;unfold Zde;split<;>first|exact Zw m m2|exact Zx m m2
theorem ZnU {t:TypeId} {x:PV}:Zcj (Zvx P t x):=fun m m2 h=>by
 revert h;unfold Zvx;split<;>first|exact Zw m m2|exact Zx m m2
theorem ZnV {x y:PV}:Zcj (Zvy x y):=fun m m2 h=>by
 revert h;unfold Zvy;split<;>first|exact Zw m m2|exact Zx m m2
theorem ZnW {x y:PV}:Zcj (Zvz x y):=fun m m2 h=>by
 revert h;unfold Zvz;split<;>first|exact Zw m m2|exact Zx m m2
theorem ZjC {t:TypeId} {l:List (Nat×PV)}:Zcj (Zgz P t l):=fun m m2 h=>by
 revert h;unfold Zgz
 split
 ·split<;>first|exact Zw m m2|exact Zx m m2
 ·split<;>first|exact Zw m m2|exact Zx m m2
 ·exact Zx m m2
theorem ZjF {t:TypeId} {x:PV} {lo hi:Option PV}:Zcj (ZgC P t x lo hi):=fun m m2 h=>by
 revert h;unfold ZgC
 split
 ·split<;>first|exact Zw m m2|exact Zx m m2
 ·split<;>first|exact Zw m m2|exact Zx m m2
 ·split<;>first|exact Zw m m2|exact Zx m m2
 ·split<;>first|exact Zw m m2|exact Zx m m2
 ·exact Zx m m2
theorem Foot.noMem {o:Oper} {ρ:Operand→PV} {m:Hp} (hn:Zcj (aop P o ρ)) (hf1:(fp o.op).nb=false) (hf2:(fp o.op).nq=false) (hf3:(fp o.op).wh=false) (hf4:(fp o.op).wz=false) (hf5:(fp o.op).wq=false) (hf6:(fp o.op).wo=false) (hok:(aop P o ρ m).ok):
  Foot P o ρ m (aop P o ρ m).v (aop P o ρ m).m:=by
 obtain⟨e,_⟩:=hn m m hok;rw[e];refine⟨fun _ _=>rfl,fun _ _=>rfl,fun _ _=>rfl,fun h=>(by rw[hf1]at h;cases h),fun h=>(by rw[hf2]at h;cases h),fun _ h=>h,fun _ h=>h,fun _=>rfl,rfl,fun m2 _ _ _ _ _ _ _=> ?_⟩;obtain⟨_,g1,g2,g3⟩:=hn m m2 hok;refine⟨m2,.inl ⟨g1,g2.symm,g3.symm⟩,fun i=>⟨fun h=> ?_,fun _=>rfl⟩,fun i=>⟨fun h=> ?_,fun _=>rfl⟩,fun i=>⟨fun h=> ?_,fun _=>rfl⟩,⟨fun h=>(by rw[hf6]at h;cases h),fun _=>rfl⟩,rfl⟩
 ·simp[Wh,hf1,hf3]at h
 ·simp[Wz,hf1,hf4]at h
 ·simp[Wq,hf2,hf5]at h
theorem Foot.newB {o:Oper} {ρ:Operand→PV} {m:Hp} {d:Nat} {v:PV} {cs:List PV} {ok:Prop} (hd:o.dst=some d) (hop:∀m:Hp,aop P o ρ m=⟨m.h d=none∧ok,v,m.new d cs⟩)
  (hf:fp o.op= { nb:=true }) (hok:(aop P o ρ m).ok):Foot P o ρ m (aop P o ρ m).v (aop P o ρ m).m:=by
 rw[hop]at hok ⊢;simp only at hok ⊢;have W1:∀r,Wh o ρ r↔r= .b d:=fun r=>by simp[Wh,hf,hd]
 have W2:∀i,Wz o ρ i↔i=d:=fun i=>by simp[Wz,hf,hd,eq_comm]
 have W3:∀i,¬Wq o ρ i:=fun i=>by simp[Wq,hf]
 have n0:∀(m:Hp) i,i≠d→(m.new d cs).h i=m.h i:=fun m i h=>Zm _ _ (Ne.symm h)
 have n1:∀(m:Hp) r,r≠ .b d→(m.new d cs).hv r=m.hv r:=fun m r h=>by cases r with|b i=>exact n0 m i (fun e=>h (by rw[e]))|r i=>rfl
 have n2:∀(m:Hp) i,i≠d→(m.new d cs).z i=m.z i:=fun m i h=>Zm _ _ (Ne.symm h)
 have n3':∀(m:Hp),(m.new d cs).h d=some cs:=fun m=>Zb _ _ _
 have n3:∀(m:Hp),(m.new d cs).hv (.b d)=some cs:=fun m=>Zb _ _ _
 have n4:∀(m:Hp),(m.new d cs).z d=false:=fun m=>Zb _ _ _
 refine⟨fun i h=>n1 m i (fun e=>h ((W1 i).2 e)),fun i h=>n2 m i (fun e=>h ((W2 i).2 e)),fun _ _=>rfl,fun _ i hi=> ?_,fun h=> ?_,fun i h=> ?_,fun _ h=>h,fun _=>rfl,rfl,fun m2 _ _ _ h4 _ _ _=> ?_⟩
 ·rw[hd]at hi;cases hi;exact hok.1
 ·rw[hf]at h;cases h
 ·by_cases e:i=d
  ·subst e;rw[n3'];simp
  ·rw[n0 m i e];exact h
 ·refine⟨m2.new d cs,.inl ?_,fun i=>⟨fun h=> ?_,fun h=>n1 m2 i (fun e=>h ((W1 i).2 e))⟩,fun i=>⟨fun h=> ?_,fun h=>n2 m2 i (fun e=>h ((W2 i).2 e))⟩,fun i=>⟨fun h=>absurd h (W3 i),fun _=>rfl⟩,⟨fun h=>(by rw[hf]at h;cases h),fun _=>rfl⟩,rfl⟩
  ·rw[hop];exact⟨⟨h4 (by rw[hf]) d hd,hok.2⟩,rfl,rfl⟩
  ·obtain rfl:=(W1 i).1 h;rw[n3,n3]
  ·obtain rfl:=(W2 i).1 h;rw[n4,n4]
theorem Foot.newQ {o:Oper} {ρ:Operand→PV} {m:Hp} {d:Nat} {v:PV} {r:Row} {ok:Prop} (hd:o.dst=some d) (hop:∀m:Hp,aop P o ρ m=⟨m.q d=none∧ok,v,m.setq d r⟩)
  (hf:fp o.op= { nq:=true }) (hok:(aop P o ρ m).ok):Foot P o ρ m (aop P o ρ m).v (aop P o ρ m).m:=by
 rw[hop]at hok ⊢;simp only at hok ⊢;have W1:∀i,¬Wh o ρ i:=fun i=>by simp[Wh,hf]
 have W2:∀i,¬Wz o ρ i:=fun i=>by simp[Wz,hf]
 have W3:∀i,Wq o ρ i↔i=d:=fun i=>by simp[Wq,hf,hd,eq_comm]
 have n1:∀(m:Hp) i,i≠d→(m.setq d r).q i=m.q i:=fun m i h=>Zm _ _ (Ne.symm h)
 have n3:∀(m:Hp),(m.setq d r).q d=some r:=fun m=>Zb _ _ _
 refine⟨fun x _=>Zpo _ _ _ x,fun _ _=>rfl,fun i h=>n1 m i (fun e=>h ((W3 i).2 e)),fun h=> ?_,fun _ i hi=> ?_,fun _ h=>h,fun i h=> ?_,fun _=>rfl,rfl,fun m2 _ _ _ _ h5 _ _=> ?_⟩
 ·rw[hf]at h;cases h
 ·rw[hd]at hi;cases hi;exact hok.1
 ·by_cases e:i=d
  ·subst e;rw[n3];simp
  ·rw[n1 m i e];exact h
 ·refine⟨m2.setq d r,.inl ?_,fun i=>⟨fun h=>absurd h (W1 i),fun _=>Zpo _ _ _ i⟩,fun i=>⟨fun h=>absurd h (W2 i),fun _=>rfl⟩,fun i=>⟨fun h=> ?_,fun h=>n1 m2 i (fun e=>h ((W3 i).2 e))⟩,⟨fun h=>(by rw[hf]at h;cases h),fun _=>rfl⟩,rfl⟩
  ·rw[hop];exact⟨⟨h5 (by rw[hf]) d hd,hok.2⟩,rfl,rfl⟩
  ·obtain rfl:=(W3 i).1 h;rw[n3,n3]
end
end Go.PL
