/- A logic of values for functions that only read and build, over the model (part 7): no statement of the seat is proved here. -/
import Derived.Test.YtmnibpgmcgdfpaaPlF
import Derived.Still
namespace Go.PL
set_option maxHeartbeats 64000000
set_option maxRecDepth 20000
set_option linter.unusedVariables false
set_option linter.unusedSimpArgs false
open Go.RowKit
section
variable {P:Program}
mutual
theorem ZeC {m m2:Hp}:∀(p:PV),(∀i,.b i∈p.ids→m2.h i=m.h i∧m2.z i=m.z i)→p.give m2=p.give m∧(p.givable m→p.givable m2)
 | .ptr id off,h=>by
  obtain⟨h1,h2⟩:=h id (by simp[PV.ids]);simp[PV.give,PV.givable,h1,h2]
 | .osl _ _ _ _,_=>by simp[PV.give,PV.givable]
 | .agg cs,h=>by
  obtain⟨h1,h2⟩:=WN cs (fun i hi=>h i (by simpa[PV.ids]using hi));simp only[PV.give,PV.givable,h1];exact⟨trivial,h2⟩
 | .tup cs,h=>by
  obtain⟨h1,h2⟩:=WN cs (fun i hi=>h i (by simpa[PV.ids]using hi));simp only[PV.give,PV.givable,h1];exact⟨trivial,h2⟩
 | .fn f cs,h=>by
  obtain⟨h1,h2⟩:=WN cs (fun i hi=>h i (by simpa[PV.ids]using hi));simp only[PV.give,PV.givable,h1];exact⟨trivial,h2⟩
 | .any,_=>by simp[PV.give,PV.givable]
 | .int _ _,_=>by simp[PV.give,PV.givable]
 | .bool _,_=>by simp[PV.give,PV.givable]
 | .str _,_=>by simp[PV.give,PV.givable]
 | .flt _ _,_=>by simp[PV.give,PV.givable]
 | .cpx _ _ _,_=>by simp[PV.give,PV.givable]
 | .sl _ _,_=>by simp[PV.give,PV.givable]
 | .rptr _,_=>by simp[PV.give,PV.givable]
 | .nilp,_=>by simp[PV.give,PV.givable]
 | .nilfn,_=>by simp[PV.give,PV.givable]
 | .nilmap,_=>by simp[PV.give,PV.givable]
 | .mref _,_=>by simp[PV.give,PV.givable]
 | .iptr _,_=>by simp[PV.give,PV.givable]
 | .rmap _ _,_=>by simp[PV.give,PV.givable]
 | .vsl _ _ _,_=>by simp[PV.give,PV.givable]
 | .vptr _ _ _ _ _,_=>by simp[PV.give,PV.givable]
theorem WN {m m2:Hp}:∀(cs:List PV),(∀i,.b i∈PV.idsL cs→m2.h i=m.h i∧m2.z i=m.z i)→PV.giveL m2 cs=PV.giveL m cs∧(PV.givableL m cs→PV.givableL m2 cs)
 | [],_=>by simp[PV.giveL,PV.givableL]
 |c::cs,h=>by
  obtain⟨h1,h2⟩:=ZeC c (fun i hi=>h i (by simp[PV.idsL,hi]));obtain⟨h3,h4⟩:=WN cs (fun i hi=>h i (by simp[PV.idsL,hi]));simp only[PV.giveL,PV.givableL,h1,h3];exact⟨trivial,fun h=>⟨h2 h.1,h4 h.2⟩⟩
end
theorem ZfV {o:Oper} {ρ:Operand→PV} {m:Hp} {v:PV} {c:Call} {g:FuncId} {args:List PV} (ho:o.op= .call c) (hc:Zx ρ c=some (g,args)) (hg:PV.givableL m args) (hp:Pure P g (PV.giveL m args) v):Foot P o ρ m v m:=by
 have hval:∃f,c.callee= .value f∧ ∃caps,ρ f= .fn g caps∧args=c.args.toList.map ρ++caps:=by
  unfold Zx at hc;split at hc
  ·rename_i f hf;split at hc
   ·rename_i g' caps hcap;simp only[Option.some.injEq,Prod.mk.injEq]at hc;obtain⟨rfl,rfl⟩:=hc;exact⟨f,hf,caps,hcap,rfl⟩
   ·cases hc
  ·cases hc
 obtain⟨f,hf,caps,hcap,rfl⟩:=hval;obtain⟨callee,cargs,ts⟩:=c;simp only at hf;subst hf;have hfp:fp o.op= { rh:=true,rz:=true }:=by rw[ho];rfl
 have W1:∀i,¬Wh o ρ i:=fun i=>by simp[Wh,hfp]
 have W2:∀i,¬Wz o ρ i:=fun i=>by simp[Wz,hfp]
 have W3:∀i,¬Wq o ρ i:=fun i=>by simp[Wq,hfp]
 refine⟨fun _ _=>rfl,fun _ _=>rfl,fun _ _=>rfl,fun h=>(by rw[hfp]at h;cases h),fun h=>(by rw[hfp]at h;cases h),fun _ h=>h,fun _ h=>h,fun _=>rfl,rfl,fun m2 a1 a2 _ _ _ _ _=> ?_⟩;have hrefs:∀i,.b i∈PV.idsL (cargs.toList.map ρ++caps)→ .b i∈Z5 o ρ:=fun i hi=>by
  unfold Z5;rw[ho];obtain⟨x,hx,hix⟩:=PV.mem_idsL.1 hi;rw[List.mem_flatMap];rcases List.mem_append.1 hx with hx|hx
  ·obtain⟨y,hy,rfl⟩:=List.mem_map.1 hx;exact⟨y,by simp only[Op.operands,Call.operands];simp;right;simpa using hy,hix⟩
  ·exact⟨f,by simp[Op.operands,Call.operands],by rw[hcap];exact PV.mem_idsL.2 ⟨x,hx,hix⟩⟩
 obtain⟨g1,g2⟩:=WN (m:=m) (m2:=m2) (cargs.toList.map ρ++caps) (fun i hi=>⟨a1 (by rw[hfp]) (.b i) (hrefs i hi),a2 (by rw[hfp]) i (hrefs i hi)⟩);refine⟨m2,.inr ⟨_,g,_,ho,hc,.inl ⟨g2 hg,by rw[g1];exact hp⟩,rfl⟩,fun i=>⟨fun h=>absurd h (W1 i),fun _=>rfl⟩,fun i=>⟨fun h=>absurd h (W2 i),fun _=>rfl⟩,fun i=>⟨fun h=>absurd h (W3 i),fun _=>rfl⟩,⟨fun h=>(by rw[hfp]at h;cases h),fun _=>rfl⟩,rfl⟩
theorem ZfX {o:Oper} {ρ:Operand→PV} {m:Hp} {v:PV} {c:Call} {g:FuncId} {args:List PV} (ho:o.op= .call c) (hc:Zx ρ c=some (g,args)) (hp:Zms P m g args v):Foot P o ρ m v m:=by
 have hval:∃f,c.callee= .value f∧ ∃caps,ρ f= .fn g caps∧args=c.args.toList.map ρ++caps:=by
  unfold Zx at hc;split at hc
  ·rename_i f hf;split at hc
   ·rename_i g' caps hcap;simp only[Option.some.injEq,Prod.mk.injEq]at hc;obtain⟨rfl,rfl⟩:=hc;exact⟨f,hf,caps,hcap,rfl⟩
   ·cases hc
  ·cases hc
 obtain⟨f,hf,caps,hcap,rfl⟩:=hval;obtain⟨callee,cargs,ts⟩:=c;simp only at hf;subst hf;have hfp:fp o.op= { rh:=true,rz:=true }:=by rw[ho];rfl
 have W1:∀i,¬Wh o ρ i:=fun i=>by simp[Wh,hfp]
 have W2:∀i,¬Wz o ρ i:=fun i=>by simp[Wz,hfp]
 have W3:∀i,¬Wq o ρ i:=fun i=>by simp[Wq,hfp]
 refine⟨fun _ _=>rfl,fun _ _=>rfl,fun _ _=>rfl,fun h=>(by rw[hfp]at h;cases h),fun h=>(by rw[hfp]at h;cases h),fun _ h=>h,fun _ h=>h,fun _=>rfl,rfl,fun m2 a1 a2 _ _ _ _ _=> ?_⟩;have hrefs:∀i,.b i∈PV.idsL (cargs.toList.map ρ++caps)→ .b i∈Z5 o ρ:=fun i hi=>by
  unfold Z5;rw[ho];obtain⟨x,hx,hix⟩:=PV.mem_idsL.1 hi;rw[List.mem_flatMap];rcases List.mem_append.1 hx with hx|hx
  ·obtain⟨y,hy,rfl⟩:=List.mem_map.1 hx;exact⟨y,by simp only[Op.operands,Call.operands];simp;right;simpa using hy,hix⟩
  ·exact⟨f,by simp[Op.operands,Call.operands],by rw[hcap];exact PV.mem_idsL.2 ⟨x,hx,hix⟩⟩
 obtain⟨pre,post,d,L,ha,hp1,hp2,hh,hz,hP,hfl⟩:=hp;have hdr: .b d∈Z5 o ρ:=hrefs d (by rw[ha];exact PV.mem_idsL.2 ⟨.ptr d 0,by simp,by simp[PV.ids]⟩);have e1:m2.h d=m.h d:=a1 (by rw[hfp]) (.b d) hdr;have e2:m2.z d=m.z d:=a2 (by rw[hfp]) d hdr;refine⟨m2,.inr ⟨_,g,_,ho,hc,.inr ⟨pre,post,d,L,ha,hp1,hp2,by rw[e1];exact hh,by rw[e2];exact hz,hP,hfl⟩,rfl⟩,fun i=>⟨fun h=>absurd h (W1 i),fun _=>rfl⟩,fun i=>⟨fun h=>absurd h (W2 i),fun _=>rfl⟩,fun i=>⟨fun h=>absurd h (W3 i),fun _=>rfl⟩,⟨fun h=>(by rw[hfp]at h;cases h),fun _=>rfl⟩,rfl⟩
theorem ZfY {o:Oper} {ρ:Operand→PV} {m:Hp} {t:TypeId} {x:Operand} (ho:o.op= .load t x) (hok:(aop P o ρ m).ok):Foot P o ρ m (aop P o ρ m).v (aop P o ρ m).m:=by
 have hfp:fp o.op= { rh:=true }:=by rw[ho];rfl
 have W1:∀i,¬Wh o ρ i:=fun i=>by simp[Wh,hfp]
 have W2:∀i,¬Wz o ρ i:=fun i=>by simp[Wz,hfp]
 have W3:∀i,¬Wq o ρ i:=fun i=>by simp[Wq,hfp]
 have hop:∀m,aop P o ρ m=if tkn P t then Ve P t (ρ x) m else .fail:=fun m=>by unfold aop;rw[ho]
 have hrefs:∀r,r∈(ρ x).ids→r∈Z5 o ρ:=fun i hi=>by
  unfold Z5;rw[ho];exact List.mem_flatMap.2 ⟨x,by simp[Op.operands],hi⟩
 have key:∀m2:Hp,(∀r,r∈(ρ x).ids→m2.hv r=m.hv r)→(aop P o ρ m).m=m∧(aop P o ρ m2).ok∧(aop P o ρ m2).v=(aop P o ρ m).v∧(aop P o ρ m2).m=m2:=by
  intro m2 h2;rw[hop]at hok ⊢;rw[hop];split at hok
  ·rename_i hk;simp only[hk,if_true]
   revert hok
   unfold Ve;cases hx:ρ x with
   |rptr cs=>exact fun h=>⟨rfl,h,rfl,rfl⟩
   |ptr id off=>
    have:m2.h id=m.h id:=h2 (.b id) (by rw[hx];simp[PV.ids]);simp only[this];cases m.h id with
    |none=>exact fun h=>h.elim
    |some cs=>exact fun h=>⟨rfl,h,rfl,rfl⟩
   |vptr id n z i off=>
    have:m2.v id=m.v id:=h2 (.r id) (by rw[hx];simp[PV.ids]);simp only[this];cases m.v id with
    |none=>exact fun h=>h.elim
    |some es=>exact fun h=>⟨rfl,h,rfl,rfl⟩
   |_=>exact fun h=>h.elim
  ·exact hok.elim
 obtain⟨e,_⟩:=key m (fun _ _=>rfl);rw[e];refine⟨fun _ _=>rfl,fun _ _=>rfl,fun _ _=>rfl,fun h=>(by rw[hfp]at h;cases h),fun h=>(by rw[hfp]at h;cases h),fun _ h=>h,fun _ h=>h,fun _=>rfl,rfl,fun m2 a1 _ _ _ _ _ _=> ?_⟩;obtain⟨_,g1,g2,g3⟩:=key m2 (fun i hi=>a1 (by rw[hfp]) i (hrefs i hi));exact⟨m2,.inl ⟨g1,g2.symm,g3.symm⟩,fun i=>⟨fun h=>absurd h (W1 i),fun _=>rfl⟩,fun i=>⟨fun h=>absurd h (W2 i),fun _=>rfl⟩,fun i=>⟨fun h=>absurd h (W3 i),fun _=>rfl⟩,⟨fun h=>(by rw[hfp]at h;cases h),fun _=>rfl⟩,rfl⟩
theorem ZfW {o:Oper} {ρ:Operand→PV} {m:Hp} {t u:TypeId} {x:Operand} (ho:o.op= .convert t u x) (hok:(aop P o ρ m).ok):Foot P o ρ m (aop P o ρ m).v (aop P o ρ m).m:=by
 have hfp:fp o.op= { rh:=true }:=by rw[ho];rfl
 have W1:∀i,¬Wh o ρ i:=fun i=>by simp[Wh,hfp]
 have W2:∀i,¬Wz o ρ i:=fun i=>by simp[Wz,hfp]
 have W3:∀i,¬Wq o ρ i:=fun i=>by simp[Wq,hfp]
 have hop:∀m,aop P o ρ m=V9 P t u (ρ x) m:=fun m=>by unfold aop;rw[ho]
 have hrefs:∀i,.b i∈(ρ x).ids→ .b i∈Z5 o ρ:=fun i hi=>by
  unfold Z5;rw[ho];exact List.mem_flatMap.2 ⟨x,by simp[Op.operands],hi⟩
 have e:(aop P o ρ m).m=m:=by rw[hop]at hok ⊢;exact Zja hok
 rw[e];refine⟨fun _ _=>rfl,fun _ _=>rfl,fun _ _=>rfl,fun h=>(by rw[hfp]at h;cases h),fun h=>(by rw[hfp]at h;cases h),fun _ h=>h,fun _ h=>h,fun _=>rfl,rfl,fun m2 a1 _ _ _ _ _ _=> ?_⟩;have hok':(V9 P t u (ρ x) m).ok:=by rw[←hop];exact hok
 obtain⟨g1,g2,g3⟩:=Zeq (m2:=m2) (fun i hi=>a1 (by rw[hfp]) (.b i) (hrefs i hi)) hok';exact⟨m2,.inl ⟨by rw[hop];exact g1,by rw[hop,hop];exact g2.symm,by rw[hop];exact g3.symm⟩,fun i=>⟨fun h=>absurd h (W1 i),fun _=>rfl⟩,fun i=>⟨fun h=>absurd h (W2 i),fun _=>rfl⟩,fun i=>⟨fun h=>absurd h (W3 i),fun _=>rfl⟩,⟨fun h=>(by rw[hfp]at h;cases h),fun _=>rfl⟩,rfl⟩
theorem Zew {o:Oper} {ρ:Operand→PV} {m:Hp} {t:TypeId} {x y:Operand} (ho:o.op= .store t x y) (hok:(aop P o ρ m).ok):Foot P o ρ m (aop P o ρ m).v (aop P o ρ m).m:=by
 have hfp:fp o.op= { rh:=true,rz:=true,wh:=true }:=by rw[ho];rfl
 have W2:∀i,¬Wz o ρ i:=fun i=>by simp[Wz,hfp]
 have W3:∀i,¬Wq o ρ i:=fun i=>by simp[Wq,hfp]
 have hop:∀m,aop P o ρ m=if tkn P t then Vp P t (ρ x) (ρ y) m else .fail:=fun m=>by unfold aop;rw[ho]
 have hrefs:∀r,r∈(ρ x).ids→r∈Z5 o ρ:=fun i hi=>by
  unfold Z5;rw[ho];exact List.mem_flatMap.2 ⟨x,by simp[Op.operands],hi⟩
 have W1:∀r,Wh o ρ r↔r∈Z5 o ρ:=fun i=>by simp[Wh,hfp]
 rw[hop]at hok ⊢;split at hok
 ·rename_i hk;simp only[hk,if_true]
  revert hok
  unfold Vp;cases hx:ρ x with
  |ptr id off=>
   simp only;cases hid:m.h id with
   |none=>exact fun h=>h.elim
   |some cs=>
    rintro ⟨g0,g1,g2,g3,g4⟩
    have hin: .b id∈Z5 o ρ:=hrefs (.b id) (by rw[hx];simp[PV.ids]);have n0:∀(m:Hp) i,i≠id→(upd m.h id (some (Yr cs off (ρ y).cells))) i=m.h i:=fun m i h=>Zc _ _ (Ne.symm h)
    have n1:∀(m:Hp) r,r≠ .b id→({ m with h:=upd m.h id (some (Yr cs off (ρ y).cells)) }:Hp).hv r=m.hv r:=fun m r h=>by cases r with|b i=>exact n0 m i (fun e=>h (by rw[e]))|r i=>rfl
    refine⟨fun i h=>n1 m i (fun e=>h ((W1 i).2 (e▸hin))),fun _ _=>rfl,fun _ _=>rfl,fun h=>(by rw[hfp]at h;cases h),fun h=>(by rw[hfp]at h;cases h),fun i h=> ?_,fun _ h=>h,fun _=>rfl,rfl,fun m2 a1 a2 _ _ _ _ _=> ?_⟩
    ·show upd m.h id _ i≠none
     by_cases e:i=id
     ·subst e;rw[Za];simp
     ·rw[n0 m i e];exact h
    ·have hid2:m2.h id=some cs:=(a1 (by rw[hfp]) (.b id) hin).trans hid;have hz2:=(a2 (by rw[hfp]) id hin).trans g0;refine⟨{ m2 with h:=upd m2.h id (some (Yr cs off (ρ y).cells)) },.inl ?_,fun i=>⟨fun h=> ?_,fun h=>n1 m2 i (fun e=>h ((W1 i).2 (e▸hin)))⟩,fun i=>⟨fun h=>absurd h (W2 i),fun _=>rfl⟩,fun i=>⟨fun h=>absurd h (W3 i),fun _=>rfl⟩,⟨fun h=>(by rw[hfp]at h;cases h),fun _=>rfl⟩,rfl⟩
     ·rw[hop];simp only[hk,if_true,Vp,hx,hid2];exact⟨⟨hz2,g1,g2,g3,g4⟩,trivial,trivial⟩
     ·by_cases e:i= .b id
      ·subst e;show upd m2.h id _ id=upd m.h id _ id;rw[Za,Za]
      ·rw[n1 m2 i e,n1 m i e];exact a1 (by rw[hfp]) i ((W1 i).1 h)
  |vptr id n z k off=>
   simp only;cases hid:m.v id with
   |none=>exact fun h=>h.elim
   |some es=>
    intro g0;have hin: .r id∈Z5 o ρ:=hrefs (.r id) (by rw[hx];simp[PV.ids]);have n1:∀(m:Hp) (x:List PV) r,r≠ .r id→({ m with v:=upd m.v id (some x) }:Hp).hv r=m.hv r:=fun m x r h=>by cases r with|r i=>exact Zc _ _ (fun e=>h (by rw[e]))|b i=>rfl
    refine⟨fun i h=>n1 m _ i (fun e=>h ((W1 i).2 (e▸hin))),fun _ _=>rfl,fun _ _=>rfl,fun h=>(by rw[hfp]at h;cases h),fun h=>(by rw[hfp]at h;cases h),fun i h=>h,fun _ h=>h,fun _=>rfl,rfl,fun m2 a1 a2 _ _ _ _ _=> ?_⟩;have hid2:m2.v id=some es:=(a1 (by rw[hfp]) (.r id) hin).trans hid;refine⟨{ m2 with v:=upd m2.v id (some (es.set k (Do (es.getD k .any) off (ρ y)))) },.inl ?_,fun i=>⟨fun h=> ?_,fun h=>n1 m2 _ i (fun e=>h ((W1 i).2 (e▸hin)))⟩,fun i=>⟨fun h=>absurd h (W2 i),fun _=>rfl⟩,fun i=>⟨fun h=>absurd h (W3 i),fun _=>rfl⟩,⟨fun h=>(by rw[hfp]at h;cases h),fun _=>rfl⟩,rfl⟩
    ·rw[hop];simp only[hk,if_true,Vp,hx,hid2];exact⟨g0,trivial,trivial⟩
    ·by_cases e:i= .r id
     ·subst e;show upd m2.v id _ id=upd m.v id _ id;rw[Za,Za]
     ·rw[n1 m2 _ i e,n1 m _ i e];exact a1 (by rw[hfp]) i ((W1 i).1 h)
  |_=>exact fun h=>h.elim
 ·exact hok.elim
theorem UL (m:Hp):∀cs,(frozenBy m cs).o=m.o
 | []=>rfl
 |c::cs=>by
  cases c<;>first|exact UL m cs|exact UL (m.freeze _) cs
theorem Tq (m:Hp):∀cs,(frozenBy m cs).it=m.it
 | []=>rfl
 |c::cs=>by
  cases c<;>first|exact Tq m cs|exact Tq (m.freeze _) cs
theorem Tr (m:Hp):∀cs,(frozenBy m cs).om=m.om
 | []=>rfl
 |c::cs=>by
  cases c<;>first|exact Tr m cs|exact Tr (m.freeze _) cs
theorem Sz (m:Hp):∀cs,(frozenBy m cs).v=m.v
 | []=>rfl
 |c::cs=>by
  cases c<;>first|exact Sz m cs|exact Sz (m.freeze _) cs
theorem G2 (m:Hp) (cs:List PV) (x:Ref):(frozenBy m cs).hv x=m.hv x:=Zin (XM m cs) (Sz m cs) x
theorem WM (m:Hp):∀cs,(frozenBy m cs).ph=m.ph∧(frozenBy m cs).pq=m.pq∧(frozenBy m cs).vm=m.vm
 | []=>⟨rfl,rfl,rfl⟩
 |c::cs=>by
  cases c<;>first|exact WM m cs|exact WM (m.freeze _) cs
theorem G3 (m:Hp) (cs:List PV):(frozenBy m cs).io=m.io:=by unfold Hp.io;rw[Tq,Tr,(WM m cs).1,(WM m cs).2.1,(WM m cs).2.2]
theorem Ts (m:Hp):∀(cs:List PV) (i:Nat),m.z i=true→(frozenBy m cs).z i=true
 | [],i,h=>h
 |c::cs,i,h=>by
  cases c with
  |ptr id off=>
   refine Ts (m.freeze id) cs i ?_;show upd m.z id true i=true
   by_cases e:id=i
   ·subst e;exact Za _ _ _
   ·rw[Zc _ _ e];exact h
  |_=>exact Ts m cs i h
theorem Tt (m:Hp):∀(cs:List PV) (i off:Nat),PV.ptr i off∈cs→(frozenBy m cs).z i=true
 | [],i,off,h=>by cases h
 |c::cs,i,off,h=>by
  rcases List.mem_cons.1 h with rfl|h'
  ·exact Ts (m.freeze i) cs i (Za _ _ _)
  ·cases c with
   |ptr id o=>exact Tt (m.freeze id) cs i off h'
   |_=>exact Tt m cs i off h'
theorem G4 (m:Hp):∀(cs:List PV) (i:Nat),(∀off,PV.ptr i off∉cs)→(frozenBy m cs).z i=m.z i
 | [],i,h=>rfl
 |c::cs,i,h=>by
  have ih:=fun m=>G4 m cs i (fun off ho=>h off (by simp[ho]))
  cases c with
  |ptr id o=>
   refine(ih (m.freeze id)).trans (Zc _ _ fun e=> ?_);subst e;exact h o (by simp)
  |_=>exact ih m
theorem SS {m m2:Hp}:∀(cs:List PV),(∀i,.b i∈PV.idsL cs→m2.h i=m.h i)→Vt m cs→Vt m2 cs
 | [],_,_=>trivial
 |c::cs,h,hk=>by
  have ih:=SS (m:=m) (m2:=m2) cs (fun i hi=>h i (by simp[PV.idsL,hi]));cases c with
  |ptr id off=>
   obtain⟨h1,h2⟩:=hk;refine⟨?_,ih h2⟩;rw[h id (by simp[PV.idsL,PV.ids])];exact h1
  |_=>exact⟨hk.1,ih hk.2⟩
theorem GN {m:Hp}:∀ {cs:List PV},Vt m cs→ ∀i,.b i∈PV.idsL cs→ ∃off,PV.ptr i off∈cs
 | [],_,i,hi=>by simp[PV.idsL]at hi
 |c::cs,hk,i,hi=>by
  simp only[PV.idsL,List.mem_append]at hi;rcases hi with hi|hi
  ·cases c with
   |ptr id off=>simp[PV.ids]at hi;subst hi;exact⟨off,by simp⟩
   |_=>obtain⟨h1,_⟩:=hk;rw[h1]at hi;cases hi
  ·have hk2:Vt m cs:=by cases c<;>exact hk.2
   obtain⟨off,ho⟩:=GN hk2 i hi;exact⟨off,by simp[ho]⟩
theorem Zac {o:Oper} {ρ:Operand→PV} {m:Hp} {f:FuncId} {first caps:Array Operand} (ho:o.op= .makeFunc (.func f) first caps) (hok:(aop P o ρ m).ok):Foot P o ρ m (aop P o ρ m).v (aop P o ρ m).m:=by
 have hop:∀m,aop P o ρ m=if first.isEmpty then⟨Vt m (caps.toList.map ρ),.fn f (caps.toList.map ρ),frozenBy m (caps.toList.map ρ)⟩else .fail:=fun m=>by unfold aop;rw[ho]
 rw[hop]at hok ⊢;split at hok
 ·rename_i hfe;simp only[hfe,if_true];simp only at hok
  by_cases hce:caps.isEmpty=true
  ·have hc0:caps= #[]:=by simpa using hce
   subst hc0;have hfp:fp o.op= {}:=by rw[ho];rfl
   have W1:∀i,¬Wh o ρ i:=fun i=>by simp[Wh,hfp]
   have W2:∀i,¬Wz o ρ i:=fun i=>by simp[Wz,hfp]
   have W3:∀i,¬Wq o ρ i:=fun i=>by simp[Wq,hfp]
   refine⟨fun _ _=>rfl,fun _ _=>rfl,fun _ _=>rfl,fun h=>(by rw[hfp]at h;cases h),fun h=>(by rw[hfp]at h;cases h),fun _ h=>h,fun _ h=>h,fun _=>rfl,rfl,fun m2 _ _ _ _ _ _ _=> ?_⟩;refine⟨m2,.inl ?_,fun i=>⟨fun h=>absurd h (W1 i),fun _=>rfl⟩,fun i=>⟨fun h=>absurd h (W2 i),fun _=>rfl⟩,fun i=>⟨fun h=>absurd h (W3 i),fun _=>rfl⟩,⟨fun h=>(by rw[hfp]at h;cases h),fun _=>rfl⟩,rfl⟩;rw[hop];simp only[hfe,if_true];exact⟨trivial,trivial,rfl⟩
  ·have hfp:fp o.op= { rh:=true,wz:=true }:=by rw[ho];simp[fp,hce]
   have hrefs:∀i,.b i∈PV.idsL (caps.toList.map ρ)↔ .b i∈Z5 o ρ:=fun i=>by
    unfold Z5;rw[ho];have hf0:first= #[]:=by simpa using hfe
    subst hf0;constructor
    ·intro hi;obtain⟨x,hx,hix⟩:=PV.mem_idsL.1 hi;obtain⟨y,hy,rfl⟩:=List.mem_map.1 hx;exact List.mem_flatMap.2 ⟨y,by simpa[Op.operands]using hy,hix⟩
    ·intro hi;obtain⟨y,hy,hiy⟩:=List.mem_flatMap.1 hi;exact PV.mem_idsL.2 ⟨ρ y,List.mem_map.2 ⟨y,by simpa[Op.operands]using hy,rfl⟩,hiy⟩
   have W1:∀i,¬Wh o ρ i:=fun i=>by simp[Wh,hfp]
   have W2:∀i,Wz o ρ i↔ .b i∈Z5 o ρ:=fun i=>by simp[Wz,hfp]
   have W3:∀i,¬Wq o ρ i:=fun i=>by simp[Wq,hfp]
   have zz:∀(m:Hp) i,(.b i∈Z5 o ρ→(frozenBy m (caps.toList.map ρ)).z i=true)∧(.b i∉Z5 o ρ→(frozenBy m (caps.toList.map ρ)).z i=m.z i):=fun m' i=>by
    constructor
    ·intro hi;obtain⟨off,ho'⟩:=GN hok i ((hrefs i).2 hi);exact Tt m' _ i off ho'
    ·intro hi;exact G4 m' _ i (fun off ho'=>hi ((hrefs i).1 (PV.mem_idsL.2 ⟨_,ho',by simp[PV.ids]⟩)))
   refine⟨fun i _=>G2 m _ i,fun i h=>(zz m i).2 (fun hh=>h ((W2 i).2 hh)),fun i _=>by rw[Xi],fun h=>(by rw[hfp]at h;cases h),fun h=>(by rw[hfp]at h;cases h),fun i h=>by rw[XM];exact h,fun i h=>by rw[Xi];exact h,fun _=>UL m _,G3 m _,fun m2 a1 _ _ _ _ _ _=> ?_⟩;refine⟨frozenBy m2 (caps.toList.map ρ),.inl ?_,fun i=>⟨fun h=>absurd h (W1 i),fun _=>G2 m2 _ i⟩,fun i=>⟨fun h=> ?_,fun h=>(zz m2 i).2 (fun hh=>h ((W2 i).2 hh))⟩,fun i=>⟨fun h=>absurd h (W3 i),fun _=>by rw[Xi]⟩,⟨fun h=>(by rw[hfp]at h;cases h),fun _=>UL m2 _⟩,G3 m2 _⟩
   ·rw[hop];simp only[hfe,if_true];exact⟨SS _ (fun i hi=>a1 (by rw[hfp]) (.b i) ((hrefs i).1 hi)) hok,trivial,trivial⟩
   ·rw[(zz m2 i).1 ((W2 i).1 h),(zz m i).1 ((W2 i).1 h)]
 ·exact hok.elim
end
open Go.RowKit
section
variable {P:Program}
theorem Zcv {o:Oper} {ρ:Operand→PV} {m:Hp} {args:Array Operand} {ts:Array TypeId} (ho:o.op= .call ⟨.builtin .append,args,ts⟩) (hok:(aop P o ρ m).ok):Foot P o ρ m (aop P o ρ m).v (aop P o ρ m).m:=by
 have hfp:fp o.op= { rq:=true,wq:=true }:=by rw[ho];rfl
 have W1:∀i,¬Wh o ρ i:=fun i=>by simp[Wh,hfp]
 have W2:∀i,¬Wz o ρ i:=fun i=>by simp[Wz,hfp]
 have W3:∀i,Wq o ρ i↔(.r i∈Z5 o ρ∨o.dst=some i):=fun i=>by simp[Wq,hfp]
 have hop:∀m,aop P o ρ m=ZP P .append ts.toList o.dst (args.toList.map ρ) m:=fun m=>by unfold aop;rw[ho]
 rw[hop]at hok ⊢;have refs:∀x∈args.toList,∀i,.r i∈(ρ x).ids→ .r i∈Z5 o ρ:=fun x hx i hi=>by
  unfold Z5;rw[ho];exact List.mem_flatMap.2 ⟨x,by simpa[Op.operands,Call.operands]using hx,hi⟩
 -- what is done:rows Up in a list are laid anew
 have fin:∀ {v:PV} {L:List (Nat×Row)} {ok:Hp→Prop},(∀x∈L,.r x.1∈Z5 o ρ∨o.dst=some x.1)→(∀m2:Hp,(∀i,(.r i∈Z5 o ρ∨o.dst=some i)→m2.q i=m.q i)→aop P o ρ m2=⟨ok m2,v,L.foldl (fun m x=>m.setq x.1 x.2) m2⟩∧(ok m→ok m2))→ok m→
   Foot P o ρ m v (L.foldl (fun m x=>m.setq x.1 x.2) m):=by
  intro v L ok hL hst hk;have hh:∀(L:List (Nat×Row)) (m:Hp),(L.foldl (fun m x=>m.setq x.1 x.2) m).h=m.h∧(L.foldl (fun m x=>m.setq x.1 x.2) m).z=m.z:=by
   intro L
   induction L with
   |nil=>intro m;exact⟨rfl,rfl⟩
   |cons x L ih=>intro m;exact⟨(ih _).1,(ih _).2⟩
  have hv:∀(L:List (Nat×Row)) (m:Hp) (x:Ref),(L.foldl (fun m x=>m.setq x.1 x.2) m).hv x=m.hv x:=by
   intro L
   induction L with
   |nil=>intro m x;rfl
   |cons y L ih=>intro m x;exact(ih _ x).trans (Zcx _ _ _ x)
  have ho:∀(L:List (Nat×Row)) (m:Hp),(L.foldl (fun m x=>m.setq x.1 x.2) m).o=m.o∧(L.foldl (fun m x=>m.setq x.1 x.2) m).io=m.io:=by
   intro L
   induction L with
   |nil=>intro m;exact⟨rfl,rfl⟩
   |cons x L ih=>intro m;exact⟨(ih _).1,(ih _).2⟩
  have qq:∀(L:List (Nat×Row)) (m:Hp) (i:Nat),(∀x∈L,x.1≠i)→(L.foldl (fun m x=>m.setq x.1 x.2) m).q i=m.q i:=by
   intro L
   induction L with
   |nil=>intro m i _;rfl
   |cons x L ih=>
    intro m i h;refine(ih (m.setq x.1 x.2) i (fun y hy=>h y (by simp[hy]))).trans ?_;exact Zc _ _ (h x (by simp))
  have qsame:∀(L:List (Nat×Row)) (m m2:Hp) (i:Nat),m2.q i=m.q i→(L.foldl (fun m x=>m.setq x.1 x.2) m2).q i=(L.foldl (fun m x=>m.setq x.1 x.2) m).q i:=by
   intro L
   induction L with
   |nil=>intro m m2 i h;exact h
   |cons x L ih=>
    intro m m2 i h;refine ih (m.setq x.1 x.2) (m2.setq x.1 x.2) i ?_;show upd m2.q x.1 _ i=upd m.q x.1 _ i
    by_cases e:x.1=i
    ·subst e;rw[Za,Za]
    ·rw[Zc _ _ e,Zc _ _ e];exact h
  have qlive:∀(L:List (Nat×Row)) (m:Hp) (i:Nat),m.q i≠none→(L.foldl (fun m x=>m.setq x.1 x.2) m).q i≠none:=by
   intro L
   induction L with
   |nil=>intro m i h;exact h
   |cons x L ih=>
    intro m i h;refine ih (m.setq x.1 x.2) i ?_;show upd m.q x.1 _ i≠none
    by_cases e:x.1=i
    ·subst e;rw[Za];simp
    ·rw[Zc _ _ e];exact h
  refine⟨fun i _=>hv L m i,fun i _=>by rw[(hh L m).2],fun i h=>qq L m i (fun x hx e=>h ((W3 i).2 (e▸hL x hx))),fun h=>(by rw[hfp]at h;cases h),fun h=>(by rw[hfp]at h;cases h),fun i h=>by rw[(hh L m).1];exact h,fun i h=>qlive L m i h,fun _=>(ho L m).1,(ho L m).2,fun m2 _ _ a3 _ _ _ _=> ?_⟩;have hag:∀i,(.r i∈Z5 o ρ∨o.dst=some i)→m2.q i=m.q i:=a3 (by rw[hfp]);obtain⟨e,hk2⟩:=hst m2 hag;refine⟨L.foldl (fun m x=>m.setq x.1 x.2) m2,.inl ?_,fun i=>⟨fun h=>absurd h (W1 i),fun _=>hv L m2 i⟩,fun i=>⟨fun h=>absurd h (W2 i),fun _=>by rw[(hh L m2).2]⟩,fun i=>⟨fun h=>qsame L m m2 i (hag i ((W3 i).1 h)),fun h=>qq L m2 i (fun x hx e=>h ((W3 i).2 (e▸hL x hx)))⟩,⟨fun h=>(by rw[hfp]at h;cases h),fun _=>(ho L m2).1⟩,(ho L m2).2⟩;rw[e];exact⟨hk2 hk,rfl,rfl⟩
 revert hok
 match hts:ts.toList,has:args.toList with
 | [t,tx],[x,y]=>
  simp only[List.map_cons,List.map_nil,ZP];cases hd:o.dst with
  |none=>exact fun h=>h.elim
  |some d=>
   have hop':∀m2,aop P o ρ m2=VQ P d t tx (ρ x) (ρ y) m2:=fun m2=>by
    rw[hop,hts,has,hd];rfl
   simp only;unfold VQ;unfold VQ at hop';have hxr:∀i,.r i∈(ρ x).ids→ .r i∈Z5 o ρ:=refs x (by rw[has];simp);split
   ·rename_i ei ys es h1 h2 h3;intro hok;exact fin (L:= [(d,_)]) (ok:=fun m2=>m2.q d=none∧Sized ei.size ys∧Wd ys∧Zed ys.length ei.bytes) (by intro z hz;simp at hz;subst hz;exact .inr hd)
     (fun m2 hag=>⟨by rw[hop'];simp only[h1,h2,h3];rfl,fun hk=>⟨by rw[hag d (.inr hd)];exact hk.1,hk.2⟩⟩) hok
   ·rename_i ei ys id es h1 h2 h3;have hin: .r id∈Z5 o ρ:=hxr id (by rw[h3];simp[PV.ids]);cases hq:m.q id with
    |none=>exact fun h=>h.elim
    |some r=>
     cases r with
     |dead=>exact fun h=>h.elim
     |vec n sz e=>exact fun h=>h.elim
     |live n sz e=>
      simp only;intro hok
      by_cases hdi:d=id
      ·subst hdi;simp only[if_true];exact fin (L:= [(d,_)]) (ok:=fun m2=>n=es.length∧sz=ei.size∧e=ei.e∧(d=d∨m2.q d=none)∧Sized ei.size es∧Sized ei.size ys∧Wd ys∧Zed (es.length+ys.length) ei.bytes) (by intro z hz;simp at hz;subst hz;exact .inr hd)
        (fun m2 hag=>⟨by rw[hop'];simp only[h1,h2,h3,hag d (.inr hd),hq,if_true];rfl,fun hk=>⟨hk.1,hk.2.1,hk.2.2.1,.inl rfl,hk.2.2.2.2⟩⟩) hok
      ·simp only[if_neg hdi];exact fin (L:= [(id,.dead),(d,_)]) (ok:=fun m2=>n=es.length∧sz=ei.size∧e=ei.e∧(d=id∨m2.q d=none)∧Sized ei.size es∧Sized ei.size ys∧Wd ys∧Zed (es.length+ys.length) ei.bytes)
        (by intro z hz;simp at hz;rcases hz with rfl|rfl;exact .inl hin;exact .inr hd)
        (fun m2 hag=>⟨by rw[hop'];simp only[h1,h2,h3,hag id (.inl hin),hq,if_neg hdi];rfl,fun hk=>⟨hk.1,hk.2.1,hk.2.2.1,hk.2.2.2.1.imp (fun h=>h) (fun h=>by rw[hag d (.inr hd)];exact h),hk.2.2.2.2⟩⟩) hok
   ·exact fun h=>h.elim
 | [],_=>exact fun h=>h.elim
 | [_],_=>simp only[ZP];exact fun h=>h.elim
 |_::_::_::_,_=>simp only[ZP];exact fun h=>h.elim
 | [_,_],[]=>exact fun h=>h.elim
 | [_,_],[_]=>simp only[List.map_cons,List.map_nil,ZP];exact fun h=>h.elim
 | [_,_],_::_::_::_=>simp only[List.map_cons,ZP];exact fun h=>h.elim
theorem Gj {o:Oper} {ρ:Operand→PV} {m:Hp} {wo:Bool} (hfp:fp o.op= { ro:=true,wo:=wo }) (h1:∀m:Hp,(aop P o ρ m).ok→(aop P o ρ m).m= { m with o:=(aop P o ρ m).m.o }∧(wo=false→(aop P o ρ m).m.o=m.o))
  (h2:∀m2:Hp,m2.o=m.o→m2.it=m.it→(aop P o ρ m).ok→(aop P o ρ m2).ok∧(aop P o ρ m2).v=(aop P o ρ m).v∧(aop P o ρ m2).m.o=(aop P o ρ m).m.o) (hok:(aop P o ρ m).ok):Foot P o ρ m (aop P o ρ m).v (aop P o ρ m).m:=by
 have W1:∀i,¬Wh o ρ i:=fun i=>by simp[Wh,hfp]
 have W2:∀i,¬Wz o ρ i:=fun i=>by simp[Wz,hfp]
 have W3:∀i,¬Wq o ρ i:=fun i=>by simp[Wq,hfp]
 obtain⟨e,e'⟩:=h1 m hok;refine⟨fun i _=>by rw[e];cases i<;>rfl,fun i _=>by rw[e],fun i _=>by rw[e],fun h=>(by rw[hfp]at h;cases h),fun h=>(by rw[hfp]at h;cases h),fun i h=>by rw[e];exact h,fun i h=>by rw[e];exact h,
  fun h=>e' (by rw[hfp]at h;exact h),by rw[e];rfl,fun m2 _ _ _ _ _ a1 a2=> ?_⟩
 obtain⟨g1,g2,g3⟩:=h2 m2 (a1 (by rw[hfp])) (congrArg (fun x=>x.1) a2) hok;obtain⟨k,k'⟩:=h1 m2 g1;exact⟨(aop P o ρ m2).m,.inl ⟨g1,g2.symm,rfl⟩,fun i=>⟨fun h=>absurd h (W1 i),fun _=>by rw[k];cases i<;>rfl⟩,fun i=>⟨fun h=>absurd h (W2 i),fun _=>by rw[k]⟩,fun i=>⟨fun h=>absurd h (W3 i),fun _=>by rw[k]⟩,⟨fun _=>g3,fun h=>k' (by rw[hfp]at h;exact h)⟩,by rw[k];rfl⟩
theorem Da {m m2:Hp} (h:m2.o=m.o) (x:PV):SD m2 x=SD m x:=by cases x<;>simp[SD,h]
theorem Un {t:TypeId} {x k:PV} {ok:Bool} (m m2:Hp) (h:m2.o=m.o):(Xf P t x k ok m).ok→(Xf P t x k ok m).m=m∧(Xf P t x k ok m2).ok∧(Xf P t x k ok m2).v=(Xf P t x k ok m).v∧(Xf P t x k ok m2).m=m2:=by
 unfold Xf;rw[Da h];split
 ·split
  ·exact fun hk=>⟨rfl,hk,rfl,rfl⟩
  ·exact fun hk=>hk.elim
 ·exact fun hk=>hk.elim
theorem SW {t:TypeId} {x:PV} (m m2:Hp) (h:m2.o=m.o):(XJ P t x m).ok→(XJ P t x m).m=m∧(XJ P t x m2).ok∧(XJ P t x m2).v=(XJ P t x m).v∧(XJ P t x m2).m=m2:=by
 unfold XJ;rw[Da h];split
 ·exact fun hk=>⟨rfl,hk,rfl,rfl⟩
 ·exact fun hk=>hk.elim
theorem To {x:PV} (m m2:Hp) (h:m2.o=m.o) (h':m2.it=m.it):(WE x m).ok→(WE x m).m=m∧(WE x m2).ok∧(WE x m2).v=(WE x m).v∧(WE x m2).m=m2:=by
 have hm:∀it,mapIt m2 it=mapIt m it:=fun it=>by unfold mapIt;rw[h]
 unfold WE;rw[h'];simp only[hm];split
 ·split
  ·split
   ·exact fun hk=>⟨rfl,hk,rfl,rfl⟩
   ·exact fun hk=>hk.elim
  ·exact fun hk=>hk.elim
 ·exact fun hk=>hk.elim
theorem UC {t:TypeId} {x k v:PV} (m m2:Hp) (h:m2.o=m.o):(ZI P t x k v m).ok→(ZI P t x k v m).m= { m with o:=(ZI P t x k v m).m.o }∧(ZI P t x k v m2).ok∧(ZI P t x k v m2).v=(ZI P t x k v m).v∧(ZI P t x k v m2).m.o=(ZI P t x k v m).m.o:=by
 unfold ZI;rw[h];split
 ·split
  ·split
   ·exact fun hk=>⟨rfl,hk,rfl,rfl⟩
   ·exact fun hk=>⟨rfl,hk,rfl,rfl⟩
   ·exact fun hk=>hk.elim
  ·exact fun hk=>hk.elim
 ·exact fun hk=>hk.elim
theorem Gi {o:Oper} {ρ:Operand→PV} {m:Hp} (hok:(aop P o ρ m).ok):Foot P o ρ m (aop P o ρ m).v (aop P o ρ m).m:=by
 have nm:XF (aop P o ρ)→fp o.op= {}→Foot P o ρ m (aop P o ρ m).v (aop P o ρ m).m:=fun h hf=>Foot.noMem h (by rw[hf]) (by rw[hf]) (by rw[hf]) (by rw[hf]) (by rw[hf]) (by rw[hf]) hok
 obtain⟨dst,op,ty,pos,af,guard⟩:=o;cases op with
 |move x=>exact nm (Zr) rfl
 |assign x=>exact nm (Zr) rfl
 |pick c x y=>exact nm (Fr) rfl
 |alloc t=>
  cases dst with
  |none=>exact hok.elim
  |some d=>
   cases hz:U7 P t with
   |none=>simp only[aop,hz]at hok;exact hok.elim
   |some z=>exact Foot.newB (d:=d) (v:= .ptr d 0) (cs:=z) (ok:=True) rfl (fun m=>by simp only[aop,hz,and_true]) rfl hok
 |box t x=>
  cases dst with
  |none=>exact hok.elim
  |some d=>exact Foot.newB (d:=d) rfl (fun m=>rfl) rfl hok
 |build t parts=>exact nm (Df) rfl
 |buildSlice t len parts=>
  cases dst with
  |none=>exact hok.elim
  |some d=>
   cases he:Wm P t with
   |none=>simp only[aop,Yz,he]at hok;exact hok.elim
   |some ei=>exact Foot.newQ (d:=d) rfl (fun m=>by simp only[aop,Yz,he];rfl) rfl hok
 |load t x=>exact ZfY rfl hok
 |store t x y=>exact Zew rfl hok
 |nilCheck x=>exact nm (Tc) rfl
 |binOp op t x y yt=>exact nm (Zbk) rfl
 |unOp op t x=>exact nm (ZdI) rfl
 |convert a b x=>exact ZfW rfl hok
 |makeFunc fn first caps=>
  cases fn with
  |func f=>exact Zac rfl hok
  |_=>exact hok.elim
 |makeSlice t l c=>
  cases dst with
  |none=>exact hok.elim
  |some d=>
   by_cases hl:∃k,l= .const (.int k 0)
   ·obtain⟨k,rfl⟩:=hl;have hop:∀m,aop P ⟨some d,.makeSlice t (.const (.int k 0)) c,ty,pos,af,guard⟩ ρ m=Xm P d t (ρ c) m:=fun m=>rfl
    rw[hop]at hok;unfold Xm at hok;split at hok
    ·rename_i ei kc n h1 h2;exact Foot.newQ (d:=d) rfl (fun m=>by rw[hop];simp only[Xm,h1,h2];rfl) rfl (by rw[hop];unfold Xm;rw[h1,h2];exact hok)
    ·exact hok.elim
   ·have hop:∀m,aop P ⟨some d,.makeSlice t l c,ty,pos,af,guard⟩ ρ m=aMakeFull P d t (ρ l) (ρ c) m:=fun m=>by
     unfold aop;simp only;split
     ·rename_i k;exact absurd ⟨k,rfl⟩ hl
     ·rfl
    rw[hop]at hok;unfold aMakeFull at hok;split at hok
    ·rename_i ei kl n kc n' h1 h2 h3;split at hok
     ·rename_i z hz;exact Foot.newQ (d:=d) rfl (fun m=>by rw[hop];simp only[aMakeFull,h1,h2,h3,hz];rfl) rfl (by rw[hop];unfold aMakeFull;rw[h1,h2,h3];simp only[hz];exact hok)
     ·exact hok.elim
    ·exact hok.elim
 |slice t x lo hi mx=>
  refine nm (fun m m2 h=> ?_) rfl
  revert h
  unfold aop;simp only;split
  ·exact Di m m2
  ·exact Zs m m2
 |fieldAddr t x f=>exact nm (Uq) rfl
 |field t x f=>exact nm (Dg) rfl
 |indexAddr t x i=>exact nm (Ur) rfl
 |index t x i=>exact nm (Dh) rfl
 |extract x i=>exact nm (T1) rfl
 |lookup t x k ok=>
  have hop:∀m,aop P ⟨dst,.lookup t x k ok,ty,pos,af,guard⟩ ρ m=Xf P t (ρ x) (ρ k) ok m:=fun m=>rfl
  refine Gj (wo:=false) rfl (fun m h=> ?_) (fun m2 h1 h2 h=> ?_) hok
  ·rw[hop]at h ⊢;have:=(Un m m rfl h).1;exact⟨by rw[this],fun _=>by rw[this]⟩
  ·rw[hop]at h ⊢;rw[hop];obtain⟨a1,a2,a3,a4⟩:=Un _ m2 h1 h;exact⟨a2,a3,by rw[a4,a1];exact h1⟩
 |entry x=>
  have hop:∀m,aop P ⟨dst,.entry x,ty,pos,af,guard⟩ ρ m=WE (ρ x) m:=fun m=>rfl
  refine Gj (wo:=false) rfl (fun m h=> ?_) (fun m2 h1 h2 h=> ?_) hok
  ·rw[hop]at h ⊢;have:=(To m m rfl rfl h).1;exact⟨by rw[this],fun _=>by rw[this]⟩
  ·rw[hop]at h ⊢;rw[hop];obtain⟨a1,a2,a3,a4⟩:=To _ m2 h1 h2 h;exact⟨a2,a3,by rw[a4,a1];exact h1⟩
 |mapUpdate t x k v=>
  exact Gj (wo:=true) rfl (fun m h=>⟨(UC m m rfl h).1,fun h=>by cases h⟩) (fun m2 h1 h2 h=>(UC _ m2 h1 h).2) hok
 |call c=>
  obtain⟨callee,args,ts⟩:=c;cases callee with
  |builtin b=>
   by_cases hb:b= .append
   ·subst hb;exact Zcv rfl hok
   by_cases hb2:b= .len
   ·subst hb2;have hop:∀m,aop P ⟨dst,.call ⟨.builtin .len,args,ts⟩,ty,pos,af,guard⟩ ρ m=ZP P .len ts.toList dst (args.toList.map ρ) m:=fun m=>rfl
    have key:∀m m2:Hp,m2.o=m.o→(ZP P .len ts.toList dst (args.toList.map ρ) m).ok→(ZP P .len ts.toList dst (args.toList.map ρ) m).m=m∧(ZP P .len ts.toList dst (args.toList.map ρ) m2).ok∧(ZP P .len ts.toList dst (args.toList.map ρ) m2).v=(ZP P .len ts.toList dst (args.toList.map ρ) m).v∧(ZP P .len ts.toList dst (args.toList.map ρ) m2).m=m2:=by
     intro m m2 h;unfold ZP;split
     ·split
      ·exact SW m m2 h
      ·exact Zbm m m2
     all_goals first|contradiction|exact Zs m m2
    refine Gj (wo:=false) rfl (fun m h=> ?_) (fun m2 h1 h2 h=> ?_) hok
    ·rw[hop]at h ⊢;have:=(key m m rfl h).1;exact⟨by rw[this],fun _=>by rw[this]⟩
    ·rw[hop]at h ⊢;rw[hop];obtain⟨a1,a2,a3,a4⟩:=key m m2 h1 h;exact⟨a2,a3,by rw[a4,a1];exact h1⟩
   ·refine nm (fun m m2 h=> ?_) (by cases b<;>first|rfl|exact absurd rfl hb|exact absurd rfl hb2)
    revert h
    show(ZP P b ts.toList dst (args.toList.map ρ) m).ok→(ZP P b ts.toList dst (args.toList.map ρ) m).m=m∧(ZP P b ts.toList dst (args.toList.map ρ) m2).ok∧(ZP P b ts.toList dst (args.toList.map ρ) m2).v=(ZP P b ts.toList dst (args.toList.map ρ) m).v∧(ZP P b ts.toList dst (args.toList.map ρ) m2).m=m2;unfold ZP;split
    ·exact absurd rfl hb2
    ·exact absurd rfl hb
    ·exact Zbn m m2
    ·exact Zbo m m2
    ·exact Zbl m m2
    ·exact Fs m m2
    ·exact Fq m m2
    ·exact Zs m m2
  |_=>exact hok.elim
 |_=>exact hok.elim
theorem G1 {o:Oper} {ρ:Operand→PV} {m m':Hp} {v:PV} (h:TE P o ρ m v m'):Foot P o ρ m v m':=by
 rcases h with ⟨h1,rfl,rfl⟩|⟨c,g,args,ho,hc,⟨hg,hp⟩|hp,rfl⟩
 ·exact Gi h1
 ·exact ZfV ho hc hg hp
 ·exact ZfX ho hc hp
end
open Go.RowKit
def compat (a b:Op):Bool:=
 let x:=fp a
 let y:=fp b
 !(x.wh&&(y.rh||y.wh))&& !(y.wh&&(x.rh||x.wh))&& !(x.wz&&(y.rz||y.wz))&& !(y.wz&&(x.rz||x.wz))&& !(x.wq&&(y.rq||y.wq))&& !(y.wq&&(x.rq||x.wq))&& !(x.wo&&(y.ro||y.wo))&& !(y.wo&&(x.ro||x.wo))
section
variable {P:Program} {ops:Array Oper}
theorem GE {ρ ρ':Operand→PV} (o:Oper) (m:Hp) (h:∀x∈o.op.operands,ρ x=ρ' x):aop P o ρ m=aop P o ρ' m:=by
 obtain⟨dst,op,ty,pos,af,guard⟩:=o;have pairs:∀ps:Array (Nat×Operand),(∀x∈(ps.toList.map (·.2)).toArray,ρ x=ρ' x)→(ps.toList.map fun x=>(x.1,ρ x.2))=(ps.toList.map fun x=>(x.1,ρ' x.2)):=fun ps hp=>
  List.map_congr_left fun p hm=>by rw[hp p.2 (by simp only[List.mem_toArray,List.mem_map];exact⟨p,hm,rfl⟩)]
 cases op with
 |build t ps=>simp only[aop];rw[pairs ps h]
 |buildSlice t n ps=>simp only[aop];rw[pairs ps h]
 |makeFunc fn first caps=>
  have:caps.toList.map ρ=caps.toList.map ρ':=List.map_congr_left fun x hx=>h x (by simp[Op.operands];right;simpa using hx)
  cases fn<;>simp only[aop,this]
 |makeSlice t l c=>
  have h1:ρ l=ρ' l:=h l (by simp[Op.operands]);have h2:ρ c=ρ' c:=h c (by simp[Op.operands]);simp only[aop,h1,h2]
 |slice t x lo hi mx=>
  have h1:ρ x=ρ' x:=h x (by simp[Op.operands]);have h2:lo.map ρ=lo.map ρ':=by cases lo with|none=>rfl|some y=>simp[h y (by simp[Op.operands])]
  have h3:hi.map ρ=hi.map ρ':=by cases hi with|none=>rfl|some y=>simp[h y (by simp[Op.operands])]
  simp only[aop,h1,h2,h3]
 |call c=>
  obtain⟨callee,args,ts⟩:=c;cases callee with
  |builtin b=>
   have:args.toList.map ρ=args.toList.map ρ':=List.map_congr_left fun x hx=>h x (by simp[Op.operands,Call.operands];simpa using hx)
   simp only[aop,this]
  |_=>rfl
 |pick c x y=>
  simp only[aop,h c (by simp[Op.operands]),h x (by simp[Op.operands]),h y (by simp[Op.operands])]
 |alloc t=>rfl
 |move x=>simp only[aop,h x (by simp[Op.operands])]
 |assign x=>simp only[aop,h x (by simp[Op.operands])]
 |box t x=>simp only[aop,h x (by simp[Op.operands])]
 |load t x=>simp only[aop,h x (by simp[Op.operands])]
 |store t x y=>simp only[aop,h x (by simp[Op.operands]),h y (by simp[Op.operands])]
 |nilCheck x=>simp only[aop,h x (by simp[Op.operands])]
 |binOp op t x y yt=>simp only[aop,h x (by simp[Op.operands]),h y (by simp[Op.operands])]
 |unOp op t x=>simp only[aop,h x (by simp[Op.operands])]
 |convert a b x=>simp only[aop,h x (by simp[Op.operands])]
 |fieldAddr t x f=>simp only[aop,h x (by simp[Op.operands])]
 |field t x f=>simp only[aop,h x (by simp[Op.operands])]
 |indexAddr t x i=>simp only[aop,h x (by simp[Op.operands]),h i (by simp[Op.operands])]
 |index t x i=>simp only[aop,h x (by simp[Op.operands]),h i (by simp[Op.operands])]
 |extract x i=>simp only[aop,h x (by simp[Op.operands])]
 |lookup t x k ok=>simp only[aop,h x (by simp[Op.operands]),h k (by simp[Op.operands])]
 |mapUpdate t x k v=>simp only[aop,h x (by simp[Op.operands]),h k (by simp[Op.operands]),h v (by simp[Op.operands])]
 |entry x=>simp only[aop,h x (by simp[Op.operands])]
 |_=>rfl
theorem V1 {ρ ρ':Operand→PV} {o:Oper} {m m':Hp} {v:PV} (h:∀x∈o.op.operands,ρ x=ρ' x) (hs:TE P o ρ m v m'):TE P o ρ' m v m':=by
 rcases hs with ⟨h1,h2,h3⟩|⟨c,g,args,ho,hc,hp,rfl⟩
 ·rw[GE o m h]at h1 h2 h3;exact .inl ⟨h1,h2,h3⟩
 ·refine .inr ⟨c,g,args,ho,?_,hp,rfl⟩;rw[←hc];rw[ho]at h;unfold Zx;cases hcal:c.callee with
  |value f=>
   have e1:ρ f=ρ' f:=h f (by simp[Op.operands,Call.operands,hcal]);have e2:c.args.toList.map ρ'=c.args.toList.map ρ:=List.map_congr_left fun x hx=>(h x (by simp[Op.operands,Call.operands];right;simpa using hx)).symm
   simp only[e1,e2]
  |_=>rfl
def XI (P:Program) (ops:Array Oper) (o:Oper) (s s':St):Prop:=
 Tn s.n o.dst∧((gd ops s o=some true∧ ∃v m',TE P o s.eval s.m v m'∧s'=(s.with m').put o.dst v)∨(gd ops s o=some false∧s'=s.put o.dst (.tup [])))
theorem Zal (s:St) (d:Option Nat) (v:PV):(s.put d v).n=s.n:=by cases d<;>rfl
theorem U6 (s:St) (d:Option Nat) (v:PV):(s.put d v).m=s.m:=by cases d<;>rfl
theorem UV (s:St) (d:Option Nat) (v:PV) (m:Hp):(s.put d v).with m=(s.with m).put d v:=by cases d<;>rfl
theorem Fx {s:St} {d:Option Nat} {v:PV} {i:Nat} (h:d≠some i):(s.put d v).fr i=s.fr i:=by
 cases d with
 |none=>rfl
 |some d=>exact Zc _ _ (fun e=>h (by rw[e]))
theorem UU {s:St} {d:Option Nat} {v:PV} {x:Operand} (h:∀t,d=some t→x≠ .tmp t):(s.put d v).eval x=s.eval x:=by
 cases x with
 |tmp t=>exact Fx (fun e=>h t e rfl)
 |_=>rfl
theorem Sd (s:St) (m:Hp):(s.with m).eval=s.eval:=by
 funext x;cases x<;>rfl
theorem T2 (s:St) {x y:Option Nat} (u v:PV) (h:∀d,x=some d→y≠some d):(s.put x u).put y v=(s.put y v).put x u:=by
 cases x with
 |none=>rfl
 |some d=>
  cases y with
  |none=>rfl
  |some e=>
   have hne:d≠e:=fun he=>h d rfl (he▸rfl)
   simp only[St.put];congr 1;funext i;simp only[upd]
   by_cases h1:e=i
   ·by_cases h2:d=i
    ·exact absurd (h2.trans h1.symm) hne
    ·simp[h1,h2]
   ·simp[h1]
theorem Dp {s:St} {o:Oper} {d:Option Nat} {v:PV} {m:Hp} (h:∀t,d=some t→t∉o.looksAt ops):gd ops ((s.with m).put d v) o=gd ops s o:=by
 unfold gd;cases hg:o.guard with
 |none=>rfl
 |some jw=>
  obtain⟨j,want⟩:=jw;simp only;cases hd:(ops[j]?).bind (·.dst)with
  |none=>rfl
  |some t=>
   simp only[Zal];have:d≠some t:=fun e=>h t e (by unfold Oper.looksAt;rw[hg];simp[hd])
   rw[Fx this];rfl
theorem VE {o:Oper} {d:Option Nat} (h:∀t,d=some t→t∉o.looksAt ops):∀x∈o.op.operands,∀t,d=some t→x≠ .tmp t:=fun x hx t ht e=>by
 refine h t ht ?_;subst e;unfold Oper.looksAt;exact List.mem_append_left _ (List.mem_filterMap.2 ⟨.tmp t,by simpa using hx,rfl⟩)
theorem Zby {s:St} (hr:Refs s) (o:Oper):∀r∈Z5 o s.eval,Live s.m r:=fun r h=>by
 unfold Z5 at h;obtain⟨x,_,hx⟩:=List.mem_flatMap.1 h;cases x with
 |tmp t=>exact hr.fr t r hx
 |const v=>simp[St.eval,XZ]at hx
 |func f=>simp[St.eval,PV.ids,PV.idsL]at hx
 |_=>simp[St.eval,PV.ids]at hx
theorem Zlq {a b:Hp} (h1:∀i,a.hv i=b.hv i) (h2:∀i,a.z i=b.z i) (h3:∀i,a.q i=b.q i) (h4:a.o=b.o) (h5:a.io=b.io):a=b:=by
 cases a;cases b;simp only[Hp.mk.injEq];exact⟨funext fun i=>h1 (.b i),funext h2,funext h3,h4,congrArg (fun x=>x.1) h5,congrArg (fun x=>x.2.1) h5,funext fun i=>h1 (.r i),congrArg (fun x=>x.2.2.1) h5,congrArg (fun x=>x.2.2.2.1) h5,congrArg (fun x=>x.2.2.2.2) h5⟩
theorem U2 {s s1 s2:St} {oi oj:Oper} (hr:Refs s) (hap:oi.apart ops oj=true) (hcp:compat oi.op oj.op=true) (h1:XI P ops oi s s1) (h2:XI P ops oj s1 s2):
  ∃s1',XI P ops oj s s1'∧XI P ops oi s1' s2:=by
 obtain⟨a1,a2,a3⟩:=Oper.apart_spec hap;obtain⟨d1,h1⟩:=h1;obtain⟨d2,h2⟩:=h2;have n1:s1.n=s.n:=by rcases h1 with ⟨_,v,m',_,rfl⟩|⟨_,rfl⟩<;>simp[Zal,St.with]
 rw[n1]at d2;have ej:∀x∈oj.op.operands,s1.eval x=s.eval x:=fun x hx=>by
  rcases h1 with ⟨_,v,m',_,rfl⟩|⟨_,rfl⟩
  ·rw[UU (VE a1 x hx),Sd]
  ·rw[UU (VE a1 x hx)]
 have gj:gd ops s1 oj=gd ops s oj:=by
  rcases h1 with ⟨_,v,m',_,rfl⟩|⟨_,rfl⟩
  ·exact Dp a1
  ·exact Dp (m:=s.m) a1
 have a2':∀d,oj.dst=some d→oi.dst≠some d:=fun d hd e=>a2 d e hd
 rcases h1 with ⟨g1,vi,mi,st1,rfl⟩|⟨g1,rfl⟩
 ·rcases h2 with ⟨g2,vj,mj,st2,rfl⟩|⟨g2,rfl⟩
  · -- both are carried out
   rw[U6]at st2;have st2':TE P oj s.eval mi vj mj:=V1 ej st2;have F1:=G1 st1;have F2:=G1 st2';have Li:=Zby hr oi;have Lj:=Zby hr oj;simp only[compat,Bool.and_eq_true,Bool.not_eq_true',Bool.and_eq_false_imp,Bool.or_eq_false_iff]at hcp;obtain⟨⟨⟨⟨⟨⟨⟨c1,c2⟩,c3⟩,c4⟩,c5⟩,c6⟩,c7⟩,c8⟩:=hcp;have dne:∀i,oi.dst=some i→oj.dst=some i→False:=fun i h h'=>a2 i h h'
   -- what the second one makes anew was not Zl8 before the first one
   have nbj:(fp oj.op).nb=true→ ∀i,oj.dst=some i→s.m.h i=none:=fun hb i hi=>by
    have h0:=F2.hn hb i hi;refine Decidable.byContradiction fun hne=> ?_
    exact F1.hl i hne h0
   have nqj:(fp oj.op).nq=true→ ∀i,oj.dst=some i→s.m.q i=none:=fun hb i hi=>by
    have h0:=F2.qn hb i hi;refine Decidable.byContradiction fun hne=> ?_
    exact F1.ql i hne h0
   obtain⟨ma,sta,ah,az,aq,ao,ai⟩:=F2.re s.m
    (fun hrh i hi=>by
     refine(F1.h1 i ?_).symm
     rintro (⟨w,_⟩|⟨nb,d,hd,rfl⟩)
     ·have:=(c1 w).1;rw[hrh]at this;cases this
     ·exact Lj _ hi (F1.hn nb d hd))
    (fun hrz i hi=>by
     refine(F1.z1 i ?_).symm
     rintro (⟨w,_⟩|⟨nb,hd⟩)
     ·have:=(c3 w).1;rw[hrz]at this;cases this
     ·exact Lj _ hi (F1.hn nb i hd))
    (fun hrq i hi=>by
     refine(F1.q1 i ?_).symm
     rintro (⟨w,_⟩|⟨nq,hd⟩)
     ·have:=(c5 w).1;rw[hrq]at this;cases this
     ·rcases hi with hi|hi
      ·exact Lj _ hi (F1.qn nq i hd)
      ·exact dne i hd hi)
    nbj nqj
    (fun hro=>by
     refine(F1.o1 ?_).symm;cases hw:(fp oi.op).wo with
     |false=>rfl
     |true=>have:=(c7 hw).1;rw[hro]at this;cases this) F1.i1.symm
   obtain⟨mb,stb,bh,bz,bq,bo,bi⟩:=F1.re ma
    (fun hrh i hi=>by
     refine(ah i).2 ?_
     rintro (⟨w,_⟩|⟨nb,d,hd,rfl⟩)
     ·have:=(c2 w).1;rw[hrh]at this;cases this
     ·exact Li _ hi (nbj nb d hd))
    (fun hrz i hi=>by
     refine(az i).2 ?_
     rintro (⟨w,_⟩|⟨nb,hd⟩)
     ·have:=(c4 w).1;rw[hrz]at this;cases this
     ·exact Li _ hi (nbj nb i hd))
    (fun hrq i hi=>by
     refine(aq i).2 ?_
     rintro (⟨w,_⟩|⟨nq,hd⟩)
     ·have:=(c6 w).1;rw[hrq]at this;cases this
     ·rcases hi with hi|hi
      ·exact Li _ hi (nqj nq i hd)
      ·exact dne i hi hd)
    (fun nb i hd=>by
     refine((ah (.b i)).2 ?_).trans (F1.hn nb i hd)
     rintro (⟨_,hi⟩|⟨_,d,hd',e⟩)
     ·exact Lj _ hi (F1.hn nb i hd)
     ·cases e;exact dne i hd hd')
    (fun nq i hd=>by
     refine((aq i).2 ?_).trans (F1.qn nq i hd)
     rintro (⟨w,hi⟩|⟨_,hd'⟩)
     ·rcases hi with hi|hi
      ·exact Lj _ hi (F1.qn nq i hd)
      ·exact dne i hd hi
     ·exact dne i hd hd')
    (fun hro=>by
     refine ao.2 ?_;cases hw:(fp oj.op).wo with
     |false=>rfl
     |true=>have:=(c8 hw).1;rw[hro]at this;cases this) ai
   have em:mb=mj:=by
    refine Zlq (fun i=> ?_) (fun i=> ?_) (fun i=> ?_) ?_ (by rw[bi,ai,F2.i1,F1.i1])
    ·by_cases wi:Wh oi s.eval i
     ·rw[(bh i).1 wi];refine(F2.h1 i ?_).symm
      rintro (⟨w,hi⟩|⟨nb,d,hd,e⟩)
      ·rcases wi with ⟨w',_⟩|⟨nb',d',hd',e'⟩
       ·have:=(c1 w').2;rw[w]at this;cases this
       ·subst e';exact Lj _ hi (F1.hn nb' d' hd')
      ·subst e;rcases wi with ⟨_,hi'⟩|⟨_,d',hd',e'⟩
       ·exact Li _ hi' (nbj nb d hd)
       ·cases e';exact dne d hd' hd
     ·rw[(bh i).2 wi]
      by_cases wj:Wh oj s.eval i
      ·exact(ah i).1 wj
      ·rw[(ah i).2 wj,F2.h1 i wj,F1.h1 i wi]
    ·by_cases wi:Wz oi s.eval i
     ·rw[(bz i).1 wi];refine(F2.z1 i ?_).symm
      rintro (⟨w,hi⟩|⟨nb,hd⟩)
      ·rcases wi with ⟨w',_⟩|⟨nb',hd'⟩
       ·have:=(c3 w').2;rw[w]at this;cases this
       ·exact Lj _ hi (F1.hn nb' i hd')
      ·rcases wi with ⟨_,hi'⟩|⟨_,hd'⟩
       ·exact Li _ hi' (nbj nb i hd)
       ·exact dne i hd' hd
     ·rw[(bz i).2 wi]
      by_cases wj:Wz oj s.eval i
      ·exact(az i).1 wj
      ·rw[(az i).2 wj,F2.z1 i wj,F1.z1 i wi]
    ·by_cases wi:Wq oi s.eval i
     ·rw[(bq i).1 wi];refine(F2.q1 i ?_).symm
      rintro (⟨w,hi⟩|⟨nq,hd⟩)
      ·rcases wi with ⟨w',_⟩|⟨nq',hd'⟩
       ·have:=(c5 w').2;rw[w]at this;cases this
       ·rcases hi with hi|hi
        ·exact Lj _ hi (F1.qn nq' i hd')
        ·exact dne i hd' hi
      ·rcases wi with ⟨_,hi'⟩|⟨_,hd'⟩
       ·rcases hi' with hi'|hi'
        ·exact Li _ hi' (nqj nq i hd)
        ·exact dne i hi' hd
       ·exact dne i hd' hd
     ·rw[(bq i).2 wi]
      by_cases wj:Wq oj s.eval i
      ·exact(aq i).1 wj
      ·rw[(aq i).2 wj,F2.q1 i wj,F1.q1 i wi]
    ·cases hwi:(fp oi.op).wo with
     |true=>
      rw[bo.1 hwi];refine(F2.o1 ?_).symm;cases hwj:(fp oj.op).wo with
      |false=>rfl
      |true=>have:=(c7 hwi).2;rw[hwj]at this;cases this
     |false=>
      rw[bo.2 hwi];cases hwj:(fp oj.op).wo with
      |true=>exact ao.1 hwj
      |false=>rw[ao.2 hwj,F2.o1 hwj,F1.o1 hwi]
   subst em;refine⟨(s.with ma).put oj.dst vj,⟨d2,.inl ⟨by rw[←gj];exact g2,vj,ma,sta,rfl⟩⟩,by rw[Zal];exact d1,.inl ⟨by rw[Dp a3];exact g1,vi,mb,?_,?_⟩⟩
   ·rw[U6];refine V1 (fun x hx=> ?_) stb;rw[UU (VE a3 x hx),Sd]
   ·rw[UV,UV,T2 _ _ _ a2];rfl
  ·refine⟨s.put oj.dst (.tup []),⟨d2,.inr ⟨by rw[←gj];exact g2,rfl⟩⟩,by rw[Zal];exact d1,.inl ⟨by rw[show s.put oj.dst (.tup [])=(s.with s.m).put oj.dst (.tup [])from rfl,Dp a3];exact g1,vi,mi,?_,?_⟩⟩
   ·rw[U6];exact V1 (fun x hx=>by rw[UU (VE a3 x hx)]) st1
   ·rw[UV,T2 _ _ _ a2]
 ·rcases h2 with ⟨g2,vj,mj,st2,rfl⟩|⟨g2,rfl⟩
  ·rw[U6]at st2;refine⟨(s.with mj).put oj.dst vj,⟨d2,.inl ⟨by rw[←gj];exact g2,vj,mj,V1 ej st2,rfl⟩⟩,by rw[Zal];exact d1,.inr ⟨by rw[Dp a3];exact g1,?_⟩⟩;rw[UV,T2 _ _ _ a2]
  ·refine⟨s.put oj.dst (.tup []),⟨d2,.inr ⟨by rw[←gj];exact g2,rfl⟩⟩,by rw[Zal];exact d1,.inr ⟨by rw[show s.put oj.dst (.tup [])=(s.with s.m).put oj.dst (.tup [])from rfl,Dp a3];exact g1,?_⟩⟩;rw[T2 _ _ _ a2]
end
open Go.RowKit
section
variable {P:Program} {ops:Array Oper}
theorem PV.mem_didsL {id:Ref}:∀ {cs:List PV},id∈PV.didsL cs↔ ∃c∈cs,id∈c.dids
 | []=>by simp[PV.didsL]
 |c::cs=>by simp[PV.didsL,PV.mem_didsL (cs:=cs)]
theorem GR {l l':List PV} (h:∀c∈l,c∈l') {i:Ref} (hi:i∈PV.didsL l):i∈PV.didsL l':=by
 obtain⟨c,hc,hr⟩:=PV.mem_didsL.1 hi;exact PV.mem_didsL.2 ⟨c,h c hc,hr⟩
mutual
theorem Xu:∀(p:PV) {r:Ref},r∈p.ids→r∈p.dids
 | .ptr _ _,r,h=>h
 | .osl _ _ _ _,r,h=>h
 | .sl t es,r,h=>by cases t<;>simp[PV.ids]at h;subst h;simp[PV.dids]
 | .agg cs,r,h=>by simp only[PV.ids,PV.dids]at *;exact UM cs h
 | .tup cs,r,h=>by simp only[PV.ids,PV.dids]at *;exact UM cs h
 | .fn _ cs,r,h=>by simp only[PV.ids,PV.dids]at *;exact UM cs h
 | .any,r,h=>by simp[PV.ids]at h
 | .int _ _,r,h=>by simp[PV.ids]at h
 | .bool _,r,h=>by simp[PV.ids]at h
 | .str _,r,h=>by simp[PV.ids]at h
 | .flt _ _,r,h=>by simp[PV.ids]at h
 | .cpx _ _ _,r,h=>by simp[PV.ids]at h
 | .rptr _,r,h=>by simp[PV.ids]at h
 | .nilp,r,h=>by simp[PV.ids]at h
 | .nilfn,r,h=>by simp[PV.ids]at h
 | .nilmap,r,h=>by simp[PV.ids]at h
 | .mref _,r,h=>by simp[PV.ids]at h
 | .rmap _ _,r,h=>by simp[PV.ids]at h
 | .vsl _ _ _,r,h=>h
 | .vptr _ _ _ _ _,r,h=>h
 | .iptr _,r,h=>by simp[PV.ids]at h
theorem UM:∀(cs:List PV) {r:Ref},r∈PV.idsL cs→r∈PV.didsL cs
 | [],r,h=>by simp[PV.idsL]at h
 |c::cs,r,h=>by
  simp only[PV.idsL,PV.didsL,List.mem_append]at *;exact h.imp (Xu c) (UM cs)
end
theorem GS (v:Value):(Us v).dids= []:=by unfold Us;split<;>rfl
theorem Za0 (l:List Value):PV.didsL (l.map Us)= []:=by
 induction l with
 |nil=>rfl
 |cons a l ih=>simp[PV.didsL,GS,ih]
theorem Wu (v:Value):(Y7 v).dids= []:=by
 unfold Y7;split
 ·simp[PV.dids,Za0]
 ·split<;>rfl
 ·exact GS _
theorem Dw {t:Tok} {es:List PV} {r:Ref} (h:r∈PV.didsL es):r∈(PV.sl t es).dids:=by
 cases t<;>simp[PV.dids,h]
theorem Vv {p c:PV} (hc:c∈p.cells) {k:Ref} (hk:k∈c.dids):k∈p.dids:=by
 cases p with
 |agg cs=>simp only[PV.cells]at hc;simp only[PV.dids];exact PV.mem_didsL.2 ⟨c,hc,hk⟩
 |_=>simp only[PV.cells,List.mem_singleton]at hc;subst hc;exact hk
theorem Xr {cs:List PV} {o:Nat} {r:Ref} (h:r∈(cs.getD o .any).dids):r∈PV.didsL cs:=by
 rw[List.getD_eq_getElem?_getD]at h;cases hg:cs[o]? with
 |none=>rw[hg]at h;simp[PV.dids]at h
 |some c=>rw[hg]at h;exact PV.mem_didsL.2 ⟨c,List.mem_of_getElem? hg,h⟩
theorem VF {ag:Bool} {sz:Nat} {cs:List PV} {o:Nat} {r:Ref} (h:r∈(Wc ag sz cs o).dids):r∈PV.didsL cs:=by
 unfold Wc at h;split at h
 ·simp only[PV.dids]at h;exact GR (fun c hc=>List.mem_of_mem_drop (List.mem_of_mem_take hc)) h
 ·exact Xr h
theorem FE {cs ns:List PV} {o:Nat} {r:Ref} (h:r∈PV.didsL (Yr cs o ns)):r∈PV.didsL cs∨r∈PV.didsL ns:=by
 obtain⟨c,hc,hr⟩:=PV.mem_didsL.1 h;unfold Yr at hc;rw[List.mem_append,List.mem_append]at hc;rcases hc with (hc|hc)|hc
 ·exact .inl (PV.mem_didsL.2 ⟨c,List.mem_of_mem_take hc,hr⟩)
 ·exact .inr (PV.mem_didsL.2 ⟨c,hc,hr⟩)
 ·exact .inl (PV.mem_didsL.2 ⟨c,List.mem_of_mem_drop hc,hr⟩)
theorem Ws {p:PV} {r:Ref} (h:r∈PV.didsL p.cells):r∈p.dids:=by
 obtain⟨c,hc,hr⟩:=PV.mem_didsL.1 h;exact Vv hc hr
theorem Zdr {place:Nat→Option (Nat×Nat)}:∀(l:List (Nat×PV)) (cs cs':List PV),Uj place cs l=some cs'→ ∀r∈PV.didsL cs',r∈PV.didsL cs∨ ∃x∈l,r∈x.2.dids
 | [],cs,cs',h,r,hr=>by
  simp only[Uj,Option.some.injEq]at h;subst h;exact .inl hr
 |(i,p)::rest,cs,cs',h,r,hr=>by
  simp only[Uj]at h;split at h
  ·cases h
  ·split at h
   ·rcases Zdr rest _ _ h r hr with h1|⟨x,hx,h1⟩
    ·rcases FE h1 with h2|h2
     ·exact .inl h2
     ·exact .inr ⟨(i,p),by simp,Ws h2⟩
    ·exact .inr ⟨x,by simp[hx],h1⟩
   ·cases h
theorem Zi6 {t:TypeId} {z:List PV} (h:U7 P t=some z):PV.didsL z= []:=by
 unfold U7 aMakeFull.tbdz at h;split at h
 ·split at h
  ·split at h
   ·simp only[Option.some.injEq]at h;subst h;rw[List.eq_nil_iff_forall_not_mem];intro r hr;have:=Ws hr;rw[Wu]at this;cases this
   ·cases h
  ·cases h
 ·cases h
theorem Zma {t:TypeId} {z:PV} (h:aMakeFull.tz P t=some z):z.dids= []:=by
 unfold aMakeFull.tz at h;split at h
 ·split at h
  ·split at h
   ·simp only[Option.some.injEq]at h;subst h;exact Wu _
   ·cases h
  ·cases h
 ·cases h
theorem Ut (v:Value):PV.didsL (Y7 v).cells= []:=by
 rw[List.eq_nil_iff_forall_not_mem];intro r hr;have:=Ws hr;rw[Wu]at this;cases this
def F7 (o:Oper) (ρ:Operand→PV):List Ref:=o.op.operands.toList.flatMap fun x=>(ρ x).dids
theorem ZU {o:Oper} {ρ:Operand→PV} {x:Operand} {r:Ref} (hx:x∈o.op.operands.toList) (h:r∈(ρ x).dids):r∈F7 o ρ:=List.mem_flatMap.2 ⟨x,hx,h⟩
theorem Xo {r:Ref}:r∉(ARes.fail).v.dids:=by simp[ARes.fail,PV.dids]
theorem ZkM {t:TypeId} {x:PV} {f:Nat} {m:Hp}:∀r∈(TF P t x f m).v.dids,r∈x.dids:=by
 intro r;unfold TF;split
 ·exact fun h=>by simpa[PV.dids]using VF h
 ·exact fun h=>absurd h Xo
theorem Zdp {cs:List PV} {n:Nat} {r:Ref} (h:r∈PV.didsL (cs.drop n)):r∈PV.didsL cs:=GR (fun c hc=>List.mem_of_mem_drop hc) h
theorem Zdd {t:TypeId} {x:PV} {f:Nat} {m:Hp}:∀r∈(Yi P t x f m).v.dids,r∈x.dids:=by
 intro r;unfold Yi;split
 ·exact fun h=>h
 ·exact fun h=>by simp only[PV.dids]at *;exact Zdp h
 ·exact fun h=>h
 ·exact fun h=>absurd h Xo
theorem ZkN {t:TypeId} {x i:PV} {m:Hp}:∀r∈(TG P t x i m).v.dids,r∈x.dids:=by
 intro r;unfold TG;split
 ·exact fun h=>by simpa[PV.dids]using VF h
 ·exact fun h=>by simp[PV.dids]at h
 ·exact fun h=>absurd h Xo
theorem Zde {t:TypeId} {x i:PV} {m:Hp}:∀r∈(Yj P t x i m).v.dids,r∈x.dids:=by
 intro r;unfold Yj;split
 ·exact fun h=>by simp only[PV.dids]at h;exact Dw (Xr (Ws h))
 ·exact fun h=>h
 ·exact fun h=>h
 ·exact fun h=>by simp only[PV.dids]at *;exact Zdp h
 ·exact fun h=>h
 ·exact fun h=>h
 ·exact fun h=>absurd h Xo
theorem v_none {a:ARes} (h:a.v.dids= []) {r:Ref}:r∉a.v.dids:=by rw[h];simp
theorem Znd {op:BinOp} {k k':IntKind} {x y:Int} {m:Hp}:(ZhG op k k' x y m).v.dids= []:=by
 unfold ZhG;split<;>rfl
theorem Znh {op:BinOp} {x y:List UInt8} {m:Hp}:(ZhK op x y m).v.dids= []:=by
 unfold ZhK;split<;>rfl
theorem Znc {op:BinOp} {k k':FloatKind} {x y:Nat} {m:Hp}:(ZhF op k k' x y m).v.dids= []:=by
 unfold ZhF;split<;>rfl
theorem Zoe {b:Bool} {r:Option Bool} {m:Hp}:(aEq b r m).v.dids= []:=by
 unfold aEq;split<;>rfl
theorem Znb {b:Bool} {t:TypeId} {x y:PV} {m:Hp}:(Zhi P b t x y m).v.dids= []:=by
 unfold Zhi;repeat' split
 all_goals first|rfl|exact Zoe
theorem Zm9 {op:BinOp} {t:TypeId} {x y:PV} {m:Hp}:(ZhD P op t x y m).v.dids= []:=by
 unfold ZhD;repeat' split
 all_goals first|rfl|exact Znd|exact Znh|exact Znc|exact Znb
theorem Zof {op:UnOp} {x:PV} {m:Hp}:(aUn op x m).v.dids= []:=by
 unfold aUn;split<;>rfl
theorem Zmj {a b:TypeId} {x:PV} {m:Hp}:(V9 P a b x m).v.dids= []:=by
 unfold V9;split<;>first|rfl|(split<;>first|rfl|(split<;>rfl))
theorem Zne {t:TypeId} {x:PV} {m:Hp}:(ZhH P t x m).v.dids= []:=by
 unfold ZhH;split<;>rfl
theorem Znf {x y:PV} {m:Hp}:(ZhI x y m).v.dids= []:=by
 unfold ZhI;split<;>rfl
theorem Zng {x y:PV} {m:Hp}:(ZhJ x y m).v.dids= []:=by
 unfold ZhJ;split<;>rfl
theorem Zna {x y:PV} {m:Hp}:(ZhE x y m).v.dids= []:=by
 unfold ZhE;split<;>rfl
theorem Zmn {x:PV} {m:Hp}:(FR x m).v.dids= []:=by
 unfold FR;split<;>rfl
theorem Zmk {x:PV} {m:Hp}:(FQ x m).v.dids= []:=by
 unfold FQ;split<;>rfl
theorem Zg8 {x:PV} {i:Nat} {m:Hp}:∀r∈(We x i m).v.dids,r∈x.dids:=by
 intro r;unfold We;split
 ·exact fun h=>by simpa[PV.dids]using Xr h
 ·exact fun h=>absurd h Xo
theorem Ze5 {x:PV} {m:Hp}:∀r∈(Y1 x m).v.dids,r∈x.dids:=by
 intro r;unfold Y1;split<;>first|exact fun h=>h|exact fun h=>absurd h Xo
theorem Zmm {c x y:PV} {m:Hp}:∀r∈(DL c x y m).v.dids,r∈x.dids∨r∈y.dids:=by
 intro r;unfold DL;split<;>first|exact fun h=> .inl h|exact fun h=> .inr h|exact fun h=>absurd h Xo
theorem ZkL {t:TypeId} {l:List (Nat×PV)} {m:Hp}:∀r∈(U9 P t l m).v.dids,∃x∈l,r∈x.2.dids:=by
 intro r;have key:∀ {z:List PV} {pl cs},PV.didsL z= []→Uj pl z l=some cs→r∈PV.didsL cs→ ∃x∈l,r∈x.2.dids:=fun hz hf hr=>by
  rcases Zdr _ _ _ hf r hr with h|h
  ·rw[hz]at h;cases h
  ·exact h
 have tz:∀fs z,tbd P t= .str fs z→PV.didsL z= []:=fun fs z h=>by
  unfold tbd at h;repeat' split at h
  all_goals first|(cases h;exact Ut _)|cases h
 have tz2:∀n z,tbd P t= .arr n z→PV.didsL z= []:=fun fs z h=>by
  unfold tbd at h;repeat' split at h
  all_goals first|(cases h;exact Ut _)|cases h
 unfold U9;split
 ·rename_i fs z hz;split
  ·rename_i cs hf;exact fun h=>key (tz _ _ hz) hf (by simpa[PV.dids]using h)
  ·exact fun h=>absurd h Xo
 ·rename_i fs z hz;split
  ·rename_i cs hf;exact fun h=>key (tz2 _ _ hz) hf (by simpa[PV.dids]using h)
  ·exact fun h=>absurd h Xo
 ·exact fun h=>absurd h Xo
theorem ZkO {t:TypeId} {x:PV} {lo hi:Option PV} {m:Hp}:∀r∈(TH P t x lo hi m).v.dids,r∈x.dids:=by
 intro r;unfold TH;repeat' split
 all_goals first|exact fun h=>h|exact fun h=>absurd h Xo|(exact fun h=>Dw (GR (fun c hc=>List.mem_of_mem_drop (List.mem_of_mem_take hc)) h))|exact fun h=>by simp[PV.dids]at h
end
open Go.RowKit
section
variable {P:Program} {ops:Array Oper}
structure RefsD (s:St):Prop where
 fr:∀i r,r∈(s.fr i).dids→Live s.m r
 h:∀i cs,s.m.h i=some cs→ ∀c∈cs,∀r∈c.dids,Live s.m r
 o:∀b c,s.m.o b=some c→ ∀r,(r∈PV.didsL c.ks∨r∈PV.didsL c.vs)→Live s.m r
 it:∀b x c,s.m.it b=some x→x.c=some c→ ∀r,¬(r∈PV.didsL c.ks∨r∈PV.didsL c.vs)
 v:∀i es,s.m.v i=some es→ ∀r∈PV.didsL es,Live s.m r
 om:∀b c,s.m.om b=some c→ ∀r∈PV.didsL c.vs,Live s.m r
theorem RefsD.refs {s:St} (h:RefsD s):Refs s:=⟨fun i r hr=>h.fr i r (Xu _ hr),fun i cs hi c hc r hr=>h.h i cs hi c hc r (Xu _ hr),fun i es hi p hp r hr=>h.v i es hi r (PV.mem_didsL.2 ⟨p,hp,Xu _ hr⟩),fun b c hb p hp r hr=>h.om b c hb r (PV.mem_didsL.2 ⟨p,hp,Xu _ hr⟩)⟩
theorem Rep.clean_dids {S:Stable} {v:Value} {p:PV} (r:Rep S v p):∀k,k∉p.dids:=by
 have go:∀(cs:List PV),(∀i,i<cs.length→ ∀k,k∉(cs.getD i .any).dids)→ ∀k,k∉PV.didsL cs:=fun cs h k hk=>by
  obtain⟨c,hc,hkc⟩:=PV.mem_didsL.1 hk;obtain⟨j,hj,rfl⟩:=List.getElem_of_mem hc;have:=h j hj k;rw[Zb hj]at this;exact this hkc
 induction r with
 |agg vs cs hl _ ih=>intro k hk;exact go cs ih k (by simpa[PV.dids]using hk)
 |tup vs cs hl _ ih=>intro k hk;exact go cs ih k (by simpa[PV.dids]using hk)
 |fn f vs cs hl _ ih=>intro k hk;exact go cs ih k (by simpa[PV.dids]using hk)
 |slf v es r hz ih=>intro k hk;exact ih k (by simpa[PV.dids]using hk)
 |rptr b o cs vals hS _ ih=>intro k hk;exact go cs ih k (by simpa[PV.dids]using hk)
 |rmap b es ks vs h1 h2 h3 h4 h5 h6 ihK ihV=>
  intro k hk;simp only[PV.dids,List.mem_append]at hk;rcases hk with hk|hk
  ·exact go ks ihK k hk
  ·exact go vs (fun i hi=>ihV i (by omega)) k hk
 |sl b o cap sz es vals hsz hcap hS _ ih=>
  intro k hk;refine go es (fun i hi k hk=> ?_) k (by simpa[PV.dids]using hk);have hc:=go (es.getD i .any).cells (fun j hj=>ih i j hi (by rw[hsz i hi]at hj;exact hj)) k;refine hc ?_;cases hp:es.getD i .any with
  |agg cs=>rw[hp]at hk;simpa[PV.cells,PV.dids]using hk
  |_=>rw[hp]at hk;simpa[PV.cells,PV.didsL]using hk
 |_=>intro k hk;simp[PV.dids,PV.didsL]at hk
theorem RepS.dids_ids {S:Stable} {M:Maps} {q:Rows} {v:Value} {p:PV} (r:RepS S M q v p):∀k∈p.dids,k∈p.ids:=by
 have go:∀(cs:List PV),(∀i,i<cs.length→ ∀k∈(cs.getD i .any).dids,k∈(cs.getD i .any).ids)→ ∀k∈PV.didsL cs,k∈PV.idsL cs:=fun cs h k hk=>by
  obtain⟨c,hc,hkc⟩:=PV.mem_didsL.1 hk;obtain⟨j,hj,rfl⟩:=List.getElem_of_mem hc;have:=h j hj k;rw[Zb hj]at this;exact PV.mem_idsL.2 ⟨_,hc,this hkc⟩
 induction r with
 |clean r=>exact fun k hk=>absurd hk (r.clean_dids k)
 |ptr id off=>exact fun k hk=>hk
 |osl id off len cap sz hc=>exact fun k hk=>hk
 |vsl id len sz v hv t=>exact fun k hk=>hk
 |vptr id n sz i off v hv hi t=>exact fun k hk=>hk
 |row id v es r t=>
  intro k hk;simp only[PV.dids,List.mem_cons]at hk;rcases hk with rfl|hk
  ·simp[PV.ids]
  ·exact absurd (by simpa[PV.dids]using hk) (r.clean_dids k)
 |agg vs cs hl _ ih=>intro k hk;simp only[PV.dids,PV.ids]at *;exact go cs ih k hk
 |tup vs cs hl _ ih=>intro k hk;simp only[PV.dids,PV.ids]at *;exact go cs ih k hk
 |fn f vs cs hl _ ih=>intro k hk;simp only[PV.dids,PV.ids]at *;exact go cs ih k hk
theorem Sim.refsD {B:Frm} {S:Stable} {M:Maps} {s:St} {a:Act} {w:World} (hs:Sim B S M s a w):RefsD s:=by
 have clean:∀(ks vs:List PV) (es:List MapEntry),vs.length=ks.length→(∀i,i<ks.length→Rep S (es.getD i default).key (ks.getD i .any))→(∀i,i<ks.length→Rep S (es.getD i default).val (vs.getD i .any))→ ∀r,¬(r∈PV.didsL ks∨r∈PV.didsL vs):=fun ks vs es e3 e5 e6 r hr=>by
  rcases hr with hr|hr
  ·obtain⟨x,hx,hxr⟩:=PV.mem_didsL.1 hr;obtain⟨j,hj,rfl⟩:=List.getElem_of_mem hx;have:=(e5 j hj).clean_dids r;rw[Zb hj]at this;exact this hxr
  ·obtain⟨x,hx,hxr⟩:=PV.mem_didsL.1 hr;obtain⟨j,hj,rfl⟩:=List.getElem_of_mem hx;have:=(e6 j (by omega)).clean_dids r;rw[Zb hj]at this;exact this hxr
 refine⟨fun i r hr=>hs.ids i r ((hs.fr i).dids_ids r hr),fun i cs hi c hc r hr=> ?_,fun b c hc r hr=> ?_,fun b x c hx hc r hr=> ?_,fun i es hi r hr=> ?_,fun b c hc r hr=> ?_⟩
 rotate_left
 ·obtain⟨_,_,es,e1,e2,e3,e4,e5,e6⟩:=hs.stable.o b c hc;exact absurd hr (clean _ _ es e3 e5 e6 r)
 ·obtain⟨es,e1,e2,e3,e4,e5,e6⟩:=(hs.stable.i b x hx).2.2 c hc;exact clean _ _ es e3 e5 e6 r hr
 ·obtain⟨sz,e,q1,k1,k2,k3⟩:=hs.vc i es hi;obtain⟨p,hp,hpr⟩:=PV.mem_didsL.1 hr;obtain⟨j,hj,rfl⟩:=List.getElem_of_mem hp;obtain⟨o1,o2⟩:=hs.row i _ q1;cases hκ:M.κ i with
  |zero=>have:=o1 hκ;omega
  |succ c=>
   obtain⟨_,_,_,⟨vs,g5,g6⟩,_⟩:=o2 c hκ;have g7:=k3 c hκ vs e (0,0) g5
   -- the element's cells
   have hx:=k1 _ hp;have hin:∃x∈es[j].cells,r∈x.dids:=by
    cases hp2:es[j]with
    |agg cs=>rw[hp2]at hpr;simp only[PV.dids]at hpr;exact PV.mem_didsL.1 hpr
    |_=>rw[hp2]at hpr;exact⟨_,List.mem_singleton.2 rfl,hpr⟩
   obtain⟨x,hx1,hx2⟩:=hin;obtain⟨l,hl,rfl⟩:=List.getElem_of_mem hx1;have hr2:=g7 j l hj (by rw[←hx.1];exact hl);rw[Zb hj,Zb hl]at hr2;exact k2 _ hp r (Z4 hx1 (hr2.dids_ids r hx2))
 ·obtain⟨_,_,_,⟨es,e1,e2,e3,e4,e5,e6⟩,e7⟩:=hs.rm b c hc;obtain⟨p,hp,hpr⟩:=PV.mem_didsL.1 hr;obtain⟨j,hj,rfl⟩:=List.getElem_of_mem hp;have:=(e6 j (by omega)).dids_ids r;rw[Zb hj]at this;exact e7 _ hp r (this hpr)
 have hb:=hs.blk i cs hi;obtain⟨j,hj,rfl⟩:=List.getElem_of_mem hc;cases hz:s.m.z i with
 |false=>
  rw[hz]at hb;obtain⟨_,_,⟨vs,ty,h3,h4,h5⟩,h6⟩:=hb;have:=(h5 j hj).dids_ids r;rw[Zb hj]at this;exact h6 _ (List.getElem_mem hj) r (this hr)
 |true=>
  rw[hz]at hb;obtain⟨vals,hv⟩:=hb;have:=(hv j hj).2;rw[Zb hj]at this;exact absurd hr (this.clean_dids r)
theorem Su {s:St} (hr:RefsD s) (o:Oper):∀r∈F7 o s.eval,Live s.m r:=fun r h=>by
 unfold F7 at h;obtain⟨x,_,hx⟩:=List.mem_flatMap.1 h;cases x with
 |tmp t=>exact hr.fr t r hx
 |const v=>simp[St.eval,Wu]at hx
 |func f=>simp[St.eval,PV.dids,PV.didsL]at hx
 |_=>simp[St.eval,PV.dids]at hx
mutual
theorem UZ:∀(p:PV) {r:Ref},r∈p.share.dids→r∈p.dids
 | .ptr _ _,r,h=>h
 | .osl _ _ _ _,r,h=>h
 | .sl t es,r,h=>by cases t<;>(simp only[PV.share,Tok.sh,PV.dids]at h;exact Dw h)
 | .agg cs,r,h=>by simp only[PV.share,PV.dids]at *;exact WW cs h
 | .tup cs,r,h=>by simp only[PV.share,PV.dids]at *;exact WW cs h
 | .fn _ cs,r,h=>by simp only[PV.share,PV.dids]at *;exact WW cs h
 | .any,r,h=>h
 | .int _ _,r,h=>h
 | .bool _,r,h=>h
 | .str _,r,h=>h
 | .flt _ _,r,h=>h
 | .cpx _ _ _,r,h=>h
 | .rptr _,r,h=>h
 | .nilp,r,h=>h
 | .nilfn,r,h=>h
 | .nilmap,r,h=>h
 | .mref _,r,h=>h
 | .rmap _ _,r,h=>h
 | .iptr _,r,h=>h
 | .vsl _ _ _,r,h=>h
 | .vptr _ _ _ _ _,r,h=>h
theorem WW:∀(cs:List PV) {r:Ref},r∈PV.didsL (PV.shareL cs)→r∈PV.didsL cs
 | [],r,h=>h
 |c::cs,r,h=>by
  simp only[PV.shareL,PV.didsL,List.mem_append]at *;exact h.imp (UZ c) (WW cs)
end
def Keeps (m:Hp) (a:ARes):Prop:=(∀r∈a.v.dids,Live a.m r)∧ ∀i cs,a.m.h i=some cs→m.h i=some cs∨ ∀r∈PV.didsL cs,Live a.m r
theorem Keeps.same {m:Hp} {a:ARes} (he:a.m=m) (h:∀r∈a.v.dids,Live m r):Keeps m a:=⟨by rw[he];exact h,fun i cs hi=> .inl (by rw[he]at hi;exact hi)⟩
theorem TX {m:Hp} {d:Nat} {x:List PV} {r:Ref} (h:Live m r):Live (m.new d x) r:=by
 cases r with
 |r i=>exact h
 |b i=>
  simp only[Live,Hp.new]at *;unfold upd;split<;>simp_all
theorem Y6 {m:Hp} {d:Nat} {x:Row}:Live (m.setq d x) (.r d):=by simp[Live,Hp.setq,upd]
theorem Zag {m:Hp} {d:Nat} {x:List PV}:Live (m.new d x) (.b d):=by simp[Live,Hp.new,upd]
theorem Zbe {ok:Prop} {m:Hp} {d:Nat} {cs:List PV} {v:PV} (hv:v.dids= [.b d]) (h:∀r∈PV.didsL cs,Live m r):Keeps m ⟨ok,v,m.new d cs⟩:=by
 refine⟨fun r hr=> ?_,fun i ds hi=> ?_⟩
 ·rw[hv]at hr;simp only[List.mem_singleton]at hr;subst hr;exact Zag
 ·by_cases hd:d=i
  ·subst hd;simp[Hp.new,upd]at hi;subst hi;exact .inr fun r hr=>TX (h r hr)
  ·left;simpa[Hp.new,upd,hd]using hi
theorem Zml {z:PV} {vs:List PV} {ok:Bool} {i:Option Nat} {r:Ref} (hz:z.dids= []) (h:r∈(Ziv z vs ok i).dids):r∈PV.didsL vs:=by
 unfold Ziv at h;split at h
 ·split at h
  ·simp only[PV.dids,PV.didsL,List.append_nil]at h;exact Xr h
  ·exact Xr h
 ·split at h
  ·simp only[PV.dids,PV.didsL,List.append_nil,hz]at h;cases h
  ·rw[hz]at h;cases h
theorem ZeH {s:St} (hr:RefsD s) {x:PV} (hx:∀r∈x.dids,Live s.m r) {c:MapC} (h:SD s.m x=some c):∀r,(r∈PV.didsL c.ks∨r∈PV.didsL c.vs)→Live s.m r:=by
 cases x with
 |rmap ks vs=>
  simp only[SD,Option.some.injEq]at h;subst h;intro r hh;exact hx r (by simp only[PV.dids,List.mem_append];exact hh)
 |mref b=>exact hr.o b c h
 |_=>simp[SD]at h
theorem Zgc {s:St} (hr:RefsD s) {o:Oper} (hok:(aop P o s.eval s.m).ok):∀b c,(aop P o s.eval s.m).m.o b=some c→s.m.o b=some c∨ ∀r,(r∈PV.didsL c.ks∨r∈PV.didsL c.vs)→Live s.m r:=by
 intro b c hb;have hF:=Gi hok;have L:=Su hr o;cases hw:(fp o.op).wo with
 |false=>rw[hF.o1 hw]at hb;exact .inl hb
 |true=>
  obtain⟨dst,op,ty,pos,af,guard⟩:=o;cases op with
  |mapUpdate t x k v=>
   have hv:∀r∈(s.eval v).dids,Live s.m r:=fun r h=>L r (ZU (x:=v) (by simp[Op.operands]) h)
   have hk:∀r∈(s.eval k).dids,Live s.m r:=fun r h=>L r (ZU (x:=k) (by simp[Op.operands]) h)
   revert hok hb
   show(ZI P t (s.eval x) (s.eval k) (s.eval v) s.m).ok→(ZI P t (s.eval x) (s.eval k) (s.eval v) s.m).m.o b=some c→_;unfold ZI;split
   ·rename_i b0 _;split
    ·rename_i ls zz c0 cs h1 h2 h3;rw[h3]at hk;split
     ·intro _ hb;simp only at hb
      by_cases e:b0=b
      ·subst e;rw[Za]at hb;cases hb;refine .inr fun r hh=> ?_
       rcases hh with hh|hh
       ·exact hr.o b0 c0 h2 r (.inl hh)
       ·obtain⟨y,hy,hyr⟩:=PV.mem_didsL.1 hh;rcases List.mem_or_eq_of_mem_set hy with hy|rfl
        ·exact hr.o b0 c0 h2 r (.inr (PV.mem_didsL.2 ⟨y,hy,hyr⟩))
        ·exact hv r (UZ _ hyr)
      ·rw[Zc _ _ e]at hb;exact .inl hb
     ·intro _ hb;simp only at hb
      by_cases e:b0=b
      ·subst e;rw[Za]at hb;cases hb;refine .inr fun r hh=> ?_
       rcases hh with hh|hh
       ·obtain⟨y,hy,hyr⟩:=PV.mem_didsL.1 hh;rcases List.mem_append.1 hy with hy|hy
        ·exact hr.o b0 c0 h2 r (.inl (PV.mem_didsL.2 ⟨y,hy,hyr⟩))
        ·simp only[List.mem_singleton]at hy;subst hy;simp only[PV.dids]at hyr;exact hk r (by simp only[PV.dids];exact WW _ hyr)
       ·obtain⟨y,hy,hyr⟩:=PV.mem_didsL.1 hh;rcases List.mem_append.1 hy with hy|hy
        ·exact hr.o b0 c0 h2 r (.inr (PV.mem_didsL.2 ⟨y,hy,hyr⟩))
        ·simp only[List.mem_singleton]at hy;subst hy;exact hv r (UZ _ hyr)
      ·rw[Zc _ _ e]at hb;exact .inl hb
     ·exact fun h=>h.elim
    ·exact fun h=>h.elim
   ·exact fun h=>h.elim
  |makeSlice t l c=>cases hw
  |makeFunc f g h=>unfold fp at hw;simp only at hw;split at hw<;>cases hw
  |call cc=>
   obtain⟨cal,ar,ts⟩:=cc;cases cal with
   |builtin bb=>unfold fp at hw;simp only at hw;split at hw<;>cases hw
   |_=>cases hw
  |_=>cases hw
theorem Zgb {s:St} (hr:RefsD s) {o:Oper} (hok:(aop P o s.eval s.m).ok):Keeps s.m (aop P o s.eval s.m):=by
 have hF:=Gi hok;have L:=Su hr o;have nm:XF (aop P o s.eval)→(∀r∈(aop P o s.eval s.m).v.dids,r∈F7 o s.eval)→Keeps s.m (aop P o s.eval s.m):=fun h hf=> .same (h s.m s.m hok).1 fun r h=>L r (hf r h)
 obtain⟨dst,op,ty,pos,af,guard⟩:=o;cases op with
 |move x=>exact nm Zr fun r h=>ZU (x:=x) (by simp[Op.operands]) h
 |assign x=>exact nm Zr fun r h=>ZU (x:=x) (by simp[Op.operands]) h
 |pick c x y=>exact nm Fr fun r h=>(Zmm r h).elim (ZU (x:=x) (by simp[Op.operands])) (ZU (x:=y) (by simp[Op.operands]))
 |nilCheck x=>exact nm Tc fun r h=>ZU (x:=x) (by simp[Op.operands]) (Ze5 r h)
 |binOp op t x y yt=>exact nm Zbk fun r h=>absurd h (v_none Zm9)
 |unOp op t x=>exact nm ZdI fun r h=>absurd h (v_none Zof)
 |convert a b x=>exact .same (Zja hok) fun r h=>absurd h (v_none Zmj)
 |field t x f=>exact nm Dg fun r h=>ZU (x:=x) (by simp[Op.operands]) (ZkM r h)
 |fieldAddr t x f=>exact nm Uq fun r h=>ZU (x:=x) (by simp[Op.operands]) (Zdd r h)
 |index t x i=>exact nm Dh fun r h=>ZU (x:=x) (by simp[Op.operands]) (ZkN r h)
 |indexAddr t x i=>exact nm Ur fun r h=>ZU (x:=x) (by simp[Op.operands]) (Zde r h)
 |extract x i=>exact nm T1 fun r h=>ZU (x:=x) (by simp[Op.operands]) (Zg8 r h)
 |lookup t x k ok=>
  have hop:aop P ⟨dst,.lookup t x k ok,ty,pos,af,guard⟩ s.eval s.m=Xf P t (s.eval x) (s.eval k) ok s.m:=rfl;rw[hop]at hok ⊢;refine .same (Un s.m s.m rfl hok).1 fun r h=> ?_
  revert hok h
  unfold Xf;split
  ·rename_i ls z c cs h1 h2 h3;split
   ·intro _ h;obtain⟨kt,et,fs,i,zv,t1,t2,t3,t4,t5,rfl,t6⟩:=T7 h1;exact ZeH hr (fun r h=>L r (ZU (x:=x) (by simp[Op.operands]) h)) h2 r (.inr (Zml (Wu _) h))
   ·exact fun h=>h.elim
  ·exact fun h=>h.elim
 |entry x=>
  have hop:aop P ⟨dst,.entry x,ty,pos,af,guard⟩ s.eval s.m=WE (s.eval x) s.m:=rfl;rw[hop]at hok ⊢;refine .same (To s.m s.m rfl rfl hok).1 fun r h=> ?_
  revert hok h
  unfold WE;split
  ·split
   ·rename_i itc hit;split
    ·rename_i c i h2 h3;intro _ h;simp only[PV.dids,PV.didsL,List.append_nil,List.mem_append]at h;unfold mapIt at h2;cases hc:itc.c with
     |some d=>
      rw[hc]at h2;simp only[Option.some.injEq]at h2;subst h2;exact absurd (h.imp Xr Xr) (hr.it _ itc d hit hc r)
     |none=>
      rw[hc]at h2;exact hr.o _ c h2 r (h.imp Xr Xr)
    ·exact fun h=>h.elim
   ·exact fun h=>h.elim
  ·exact fun h=>h.elim
 |mapUpdate t x k v=>
  have hop:aop P ⟨dst,.mapUpdate t x k v,ty,pos,af,guard⟩ s.eval s.m=ZI P t (s.eval x) (s.eval k) (s.eval v) s.m:=rfl;rw[hop]at hok ⊢;obtain⟨e,_⟩:=UC s.m s.m rfl hok;refine⟨fun r h=> ?_,fun i cs hi=> .inl (by rw[e]at hi;exact hi)⟩
  revert hok h
  unfold ZI;split
  ·split
   ·split
    ·exact fun _ h=>by simp[PV.dids,PV.didsL]at h
    ·exact fun _ h=>by simp[PV.dids,PV.didsL]at h
    ·exact fun h=>h.elim
   ·exact fun h=>h.elim
  ·exact fun h=>h.elim
 |build t parts=>
  refine nm Df fun r h=> ?_
  obtain⟨x,hx,hr⟩:=ZkL r h;obtain⟨y,hy,rfl⟩:=List.mem_map.1 hx;exact ZU (x:=y.2) (by simp[Op.operands];exact⟨y.1,Array.mem_toList_iff.1 hy⟩) hr
 |slice t x lo hi mx=>
  cases mx with
  |some _=>exact hok.elim
  |none=>exact nm Di fun r h=>ZU (x:=x) (by simp[Op.operands]) (ZkO r h)
 |alloc t=>
  cases dst with
  |none=>exact hok.elim
  |some d=>
   cases hz:U7 P t with
   |none=>simp only[aop,hz]at hok;exact hok.elim
   |some z=>simp only[aop,hz];exact Zbe rfl (by rw[Zi6 hz];simp)
 |box t x=>
  cases dst with
  |none=>exact hok.elim
  |some d=>exact Zbe rfl fun r h=>L r (ZU (x:=x) (by simp[Op.operands]) (Ws h))
 |load t x=>
  simp only[aop]at hok ⊢;split at hok
  ·rename_i ht;rw[if_pos ht]
   revert hok
   unfold Ve;split
   ·rename_i cs hx;exact fun _=> .same rfl fun r h=>L r (ZU (x:=x) (by simp[Op.operands]) (by rw[hx];simp only[PV.dids];exact VF h))
   ·split
    ·rename_i cs hh;exact fun _=> .same rfl fun r h=>by
      obtain⟨c,hc,hcr⟩:=PV.mem_didsL.1 (VF h);exact hr.h _ cs hh c hc r hcr
    ·exact fun h=>h.elim
   ·rename_i id n z k off hx;split
    ·rename_i es hh;exact fun _=> .same rfl fun r h=>hr.v _ es hh r (by
      obtain⟨c,hc,hcr⟩:=PV.mem_didsL.1 (VF h);exact Xr (Vv hc hcr))
    ·exact fun h=>h.elim
   ·exact fun h=>h.elim
  ·exact hok.elim
 |store t x y=>
  simp only[aop]at hok ⊢;split at hok
  ·rename_i ht;rw[if_pos ht]
   revert hok
   unfold Vp;split
   ·rename_i id off hx;split
    ·rename_i cs hh;intro hok;refine⟨fun r h=>by simp[PV.dids,PV.didsL]at h,fun i ds hi=> ?_⟩;have lv:∀r,Live s.m r→Live { s.m with h:=upd s.m.h id (some (Yr cs off (s.eval y).cells)) } r:=fun r h=>by
      cases r with
      |r i=>exact h
      |b i=>simp only[Live]at *;unfold upd;split<;>simp_all
     by_cases hd:id=i
     ·subst hd;simp[upd]at hi;subst hi;refine .inr fun r h=>lv r ?_
      rcases FE h with h|h
      ·obtain⟨c,hc,hcr⟩:=PV.mem_didsL.1 h;exact hr.h id cs hh c hc r hcr
      ·exact L r (ZU (x:=y) (by simp[Op.operands]) (Ws h))
     ·left;simpa[upd,hd]using hi
    ·exact fun h=>h.elim
   ·split
    ·exact fun _=>⟨fun r h=>by simp[PV.dids,PV.didsL]at h,fun i ds hi=> .inl hi⟩
    ·exact fun h=>h.elim
   ·exact fun h=>h.elim
  ·exact hok.elim
 |makeFunc fn first caps=>
  cases fn with
  |func f=>
   simp only[aop]at hok ⊢;split at hok
   ·rename_i hf;rw[if_pos hf];refine⟨fun r h=> ?_,fun i cs hi=> .inl (by simpa[XM]using hi)⟩;have:Live s.m r:=by
     obtain⟨c,hc,hcr⟩:=PV.mem_didsL.1 (by simpa[PV.dids]using h);obtain⟨x,hx,rfl⟩:=List.mem_map.1 hc;exact L r (ZU (x:=x) (by simp[Op.operands];right;exact Array.mem_toList_iff.1 hx) hcr)
    cases r with
    |b i=>simpa[Live,XM]using this
    |r i=>simpa[Live,Xi]using this
   ·exact hok.elim
  |_=>exact hok.elim
 |buildSlice t len parts=>
  cases dst with
  |none=>exact hok.elim
  |some d=>
   cases he:Wm P t with
   |none=>simp only[aop,Yz,he]at hok;exact hok.elim
   |some ei=>
    simp only[aop,Yz,he];refine⟨fun r h=> ?_,fun i cs hi=> .inl hi⟩;simp only[PV.dids,List.mem_cons]at h;rcases h with rfl|h
    ·exact Y6
    ·obtain⟨c,hc,hcr⟩:=PV.mem_didsL.1 h;obtain⟨x,hx,rfl⟩:=List.mem_map.1 hc;obtain⟨y,hy,rfl⟩:=List.mem_map.1 hx;exact Y5 _ (L r (ZU (x:=y.2) (by simp[Op.operands];exact⟨y.1,Array.mem_toList_iff.1 hy⟩) (UZ _ hcr)))
 |makeSlice t l c=>
  cases dst with
  |none=>exact hok.elim
  |some d=>
   by_cases hl:∃k,l= .const (.int k 0)
   ·obtain⟨k,rfl⟩:=hl;have hop:aop P ⟨some d,.makeSlice t (.const (.int k 0)) c,ty,pos,af,guard⟩ s.eval s.m=Xm P d t (s.eval c) s.m:=rfl;rw[hop]at hok ⊢
    revert hok
    unfold Xm;split
    ·exact fun _=>⟨fun r h=>by simp[PV.dids,PV.didsL]at h;subst h;exact Y6,fun i cs hi=> .inl hi⟩
    ·exact fun h=>h.elim
   ·have hop:aop P ⟨some d,.makeSlice t l c,ty,pos,af,guard⟩ s.eval s.m=aMakeFull P d t (s.eval l) (s.eval c) s.m:=by
     unfold aop;simp only;split
     ·rename_i k;exact absurd ⟨_,rfl⟩ hl
     ·rfl
    rw[hop]at hok ⊢
    revert hok
    unfold aMakeFull;split
    ·split
     ·rename_i z hz;refine fun _=>⟨fun r h=> ?_,fun i cs hi=> .inl hi⟩
      simp only[PV.dids,List.mem_cons]at h;rcases h with rfl|h
      ·exact Y6
      ·obtain⟨c',hc,hcr⟩:=PV.mem_didsL.1 h;rw[List.eq_of_mem_replicate hc,Zma hz]at hcr;cases hcr
     ·exact fun h=>h.elim
    ·exact fun h=>h.elim
 |call c=>
  obtain⟨callee,args,ts⟩:=c;cases callee with
  |builtin b=>
   simp only[aop]at hok ⊢
   revert hok
   unfold ZP;split
   ·split
    ·exact fun hok=> .same (SW s.m s.m rfl hok).1 fun r h=>absurd h (v_none (by unfold XJ;split<;>rfl))
    ·exact fun hok=> .same (Zbm s.m s.m hok).1 fun r h=>absurd h (v_none Zne)
   ·rename_i t tx x y hts hxs;have hx:∀r∈x.dids,Live s.m r:=fun r h=>by
     have:x∈args.toList.map s.eval:=by rw[hxs];simp
     obtain⟨z,hz,rfl⟩:=List.mem_map.1 this;exact L r (ZU (x:=z) (by simp[Op.operands,Call.operands];exact Array.mem_toList_iff.1 hz) h)
    have hy:∀r∈y.dids,Live s.m r:=fun r h=>by
     have:y∈args.toList.map s.eval:=by rw[hxs];simp
     obtain⟨z,hz,rfl⟩:=List.mem_map.1 this;exact L r (ZU (x:=z) (by simp[Op.operands,Call.operands];exact Array.mem_toList_iff.1 hz) h)
    have hys:∀ys,XR P tx y=some ys→ ∀r∈PV.didsL ys,Live s.m r:=fun ys h r hr=>by
     unfold XR at h;split at h
     ·cases h;exact hy r (Dw hr)
     ·cases h;obtain⟨c,hc,hcr⟩:=PV.mem_didsL.1 hr;unfold YA at hc;obtain⟨z,hz,rfl⟩:=List.mem_map.1 hc;simp[PV.dids]at hcr
     ·cases h
    split
    ·unfold VQ;split
     ·rename_i ys _ _ hyy;refine fun _=>⟨fun r h=> ?_,fun i cs hi=> .inl hi⟩
      simp only[PV.dids,List.mem_cons]at h;rcases h with rfl|h
      ·exact Y6
      ·exact Y5 _ (hys _ (by assumption) r h)
     ·split
      ·refine fun _=>⟨fun r h=> ?_,fun i cs hi=> .inl ?_⟩
       ·simp only[PV.dids,List.mem_cons]at h;rcases h with rfl|h
        ·simp only;split<;>exact Y6
        ·have:Live s.m r:=by
          obtain⟨c,hc,hcr⟩:=PV.mem_didsL.1 h;rcases List.mem_append.1 hc with hc|hc
          ·exact hx r (Dw (PV.mem_didsL.2 ⟨c,hc,hcr⟩))
          ·exact hys _ (by assumption) r (PV.mem_didsL.2 ⟨c,hc,hcr⟩)
         simp only;split
         ·exact Y5 _ this
         ·exact Y5 _ (Y5 _ this)
       ·simp only at hi;split at hi<;>exact hi
      ·exact fun h=>h.elim
     ·exact fun h=>h.elim
    ·exact fun h=>h.elim
   ·exact fun hok=> .same (Zbn s.m s.m hok).1 fun r h=>absurd h (v_none Znf)
   ·exact fun hok=> .same (Zbo s.m s.m hok).1 fun r h=>absurd h (v_none Zng)
   ·exact fun hok=> .same (Zbl s.m s.m hok).1 fun r h=>absurd h (v_none Zna)
   ·exact fun hok=> .same (Fs s.m s.m hok).1 fun r h=>absurd h (v_none Zmn)
   ·exact fun hok=> .same (Fq s.m s.m hok).1 fun r h=>absurd h (v_none Zmk)
   ·exact fun h=>h.elim
  |_=>exact hok.elim
 |_=>exact hok.elim
theorem ZeM {x v:PV} {off:Nat} {r:Ref} (h:r∈(Do x off v).dids):r∈x.dids∨r∈v.dids:=by
 unfold Do at h;split at h
 ·exact .inr h
 ·simp only[PV.dids]at h;obtain⟨c,hc,hcr⟩:=PV.mem_didsL.1 h;simp only[Yr,List.mem_append]at hc;rcases hc with (hc|hc)|hc
  ·exact .inl (Vv (List.mem_of_mem_take hc) hcr)
  ·exact .inr (Vv hc hcr)
  ·exact .inl (Vv (List.mem_of_mem_drop hc) hcr)
theorem Zgd {s:St} (hr:RefsD s) {o:Oper} (hok:(aop P o s.eval s.m).ok):∀i es,(aop P o s.eval s.m).m.v i=some es→ ∀r∈PV.didsL es,Live s.m r:=by
 intro i es hi;have hF:=Gi hok;have L:=Su hr o
 by_cases hw:Wh o s.eval (.r i)
 ·obtain⟨dst,op,ty,pos,af,guard⟩:=o;have hwh:(fp op).wh=true:=by
   rcases hw with ⟨w,_⟩|⟨_,_,_,e⟩
   ·exact w
   ·cases e
  cases op with
  |store t x y=>
   have hy:∀r∈(s.eval y).dids,Live s.m r:=fun r h=>L r (ZU (x:=y) (by simp[Op.operands]) h)
   revert hok hi
   show((if tkn P t then Vp P t (s.eval x) (s.eval y) s.m else .fail).ok)→((if tkn P t then Vp P t (s.eval x) (s.eval y) s.m else .fail).m.v i=some es)→_;split
   ·unfold Vp;split
    ·split
     ·exact fun _ hi=>hr.v i es hi
     ·exact fun h=>h.elim
    ·rename_i id n z k off hxe;split
     ·rename_i es0 hv0;intro _ hi
      by_cases e:id=i
      ·subst e;simp only[Za,Option.some.injEq]at hi;subst hi;intro r h;obtain⟨c,hc,hcr⟩:=PV.mem_didsL.1 h;rcases List.mem_or_eq_of_mem_set hc with hc|rfl
       ·exact hr.v _ _ hv0 r (PV.mem_didsL.2 ⟨c,hc,hcr⟩)
       ·rcases ZeM hcr with h1|h1
        ·exact hr.v _ _ hv0 r (Xr h1)
        ·exact hy r h1
      ·simp only[Zc _ _ e]at hi;exact hr.v i es hi
     ·exact fun h=>h.elim
    ·exact fun h=>h.elim
   ·exact fun h=>h.elim
  |makeSlice t l c=>cases hwh
  |makeFunc f g h=>unfold fp at hwh;simp only at hwh;split at hwh<;>cases hwh
  |call cc=>
   obtain⟨cal,ar,ts⟩:=cc;cases cal with
   |builtin bb=>unfold fp at hwh;simp only at hwh;split at hwh<;>cases hwh
   |_=>cases hwh
  |_=>cases hwh
 ·have:(aop P o s.eval s.m).m.v i=s.m.v i:=hF.h1 (.r i) hw;rw[this]at hi;exact hr.v i es hi
theorem ZM {s s':St} {o:Oper} (hr:RefsD s) (h:XI P ops o s s'):RefsD s':=by
 have put:∀(m':Hp) (v:PV),(∀r,Live s.m r→Live m' r)→(∀r∈v.dids,Live m' r)→(∀i cs,m'.h i=some cs→s.m.h i=some cs∨ ∀r∈PV.didsL cs,Live m' r)→(∀b c,m'.o b=some c→s.m.o b=some c∨ ∀r,(r∈PV.didsL c.ks∨r∈PV.didsL c.vs)→Live s.m r)→m'.io=s.m.io→(∀i es,m'.v i=some es→ ∀r∈PV.didsL es,Live s.m r)→RefsD ((s.with m').put o.dst v):=fun m' v hl hv hh ho hio hvv=>by
  have hit:m'.it=s.m.it:=congrArg (fun x=>x.1) hio;have hom:m'.om=s.m.om:=congrArg (fun x=>x.2.1) hio;refine⟨fun i r h=> ?_,fun i cs hi c hc r h=> ?_,fun b c hc r h=> ?_,fun b x c hx hc r h=> ?_,fun i es hi r h=> ?_,fun b c hc r h=> ?_⟩
  ·rw[U6]
   by_cases hd:o.dst=some i
   ·rw[hd]at h;simp only[St.put,upd,if_true]at h;exact hv r h
   ·rw[Fx hd]at h;exact hl r (hr.fr i r h)
  ·rw[U6]at hi ⊢;rcases hh i cs hi with h1|h1
   ·exact hl r (hr.h i cs h1 c hc r h)
   ·exact h1 r (PV.mem_didsL.2 ⟨c,hc,h⟩)
  ·rw[U6]at hc ⊢;rcases ho b c hc with h1|h1
   ·exact hl r (hr.o b c h1 r h)
   ·exact hl r (h1 r h)
  ·rw[U6]at hx;have hx:m'.it b=some x:=hx;rw[hit]at hx;exact hr.it b x c hx hc r h
  ·rw[U6]at hi ⊢;exact hl r (hvv i es hi r h)
  ·rw[U6]at hc ⊢;have hc:m'.om b=some c:=hc;rw[hom]at hc;exact hl r (hr.om b c hc r h)
 obtain⟨_,h⟩:=h;rcases h with ⟨_,v,m',hs,rfl⟩|⟨_,rfl⟩
 ·have F:=G1 hs;have hl:∀r,Live s.m r→Live m' r:=fun r h=>by
   cases r with
   |b i=>exact F.hl i h
   |r i=>exact F.ql i h
  rcases hs with ⟨h1,rfl,rfl⟩|⟨c,g,args,ho,hc,hp,rfl⟩
  ·have K:=Zgb hr h1;exact put _ _ hl K.1 K.2 (Zgc hr h1) F.i1 (Zgd hr h1)
  ·exact put _ _ hl (by
    have e:v.dids= []:=by rcases hp with ⟨_,hp⟩|⟨_,_,_,_,_,_,_,_,_,hp,_⟩<;>exact hp.2.1
    rw[e];simp) (fun i cs hi=> .inl hi) (fun b c hc=> .inl hc) rfl hr.v
 ·exact put s.m (.tup []) (fun r h=>h) (by simp[PV.dids,PV.didsL]) (fun i cs hi=> .inl hi) (fun b c hc=> .inl hc) rfl hr.v
end
open Go.RowKit
section
variable {P:Program} {ops:Array Oper} {md:Region.Mode}
def ZhL (P:Program) (md:Region.Mode) (ops:Array Oper) (K:St→Prop):Nat→Array Bool→St→Prop
 |0,listed,s=>Region.ready md ops listed= []∧K s
 |fuel+1,listed,s=>(Region.ready md ops listed= []→K s)∧ ∀i∈Region.ready md ops listed,∃o s',ops[i]? = some o∧XI P ops o s s'∧ZhL P md ops K fuel (listed.setIfInBounds i true) s'
theorem D6 {K:St→Prop} {i:Nat} {oi:Oper} (hi:ops[i]? = some oi):
  ∀(fuel:Nat) (listed:Array Bool) (s s1:St),RefsD s→
   (∀j oj,ops[j]? = some oj→j≠i→listed.getD j true=false→(∀e∈oj.after,Region.binds md e=true→e.on≠i)→oi.apart ops oj=true∧compat oi.op oj.op=true)→
   i∈Region.ready md ops listed→XI P ops oi s s1→
   ZhL P md ops K fuel (listed.setIfInBounds i true) s1→ZhL P md ops K (fuel+1) listed s:=by
 intro fuel
 induction fuel with
 |zero=>
  intro listed s s1 hR _ hr hy H;refine⟨fun h=>(by rw[h]at hr;cases hr),fun j hj=> ?_⟩
  by_cases hji:j=i
  ·subst hji;exact⟨oi,s1,hi,hy,H⟩
  ·have:=ready_mono hj hji;rw[H.1]at this;cases this
 |succ fuel ih=>
  intro listed s s1 hR hfree hr hy H;refine⟨fun h=>(by rw[h]at hr;cases hr),fun j hj=> ?_⟩
  by_cases hji:j=i
  ·subst hji;exact⟨oi,s1,hi,hy,H⟩
  ·obtain⟨oj,s2,hoj,hy2,h1⟩:=H.2 j (ready_mono hj hji);obtain⟨hjun,oj',hoj',hall⟩:=mem_ready.1 hj;rw[hoj]at hoj';cases hoj';have hnot:∀e∈oj.after,Region.binds md e=true→e.on≠i:=fun e he hb heq=>by
    have h1:=hall e he hb;have h0:=(mem_ready.1 hr).1;rw[heq]at h1;rcases Nat.lt_or_ge i listed.size with h'|h'
    ·simp[h']at h0 h1;rw[h0]at h1;cases h1
    ·simp[Array.getElem?_eq_none h']at h1
   obtain⟨hap,hcp⟩:=hfree j oj hoj hji hjun hnot;obtain⟨s1',hya,hyb⟩:=U2 hR.refs hap hcp hy hy2;have hfree':∀k ok,ops[k]? = some ok→k≠i→(listed.setIfInBounds j true).getD k true=false→
     (∀e∈ok.after,Region.binds md e=true→e.on≠i)→oi.apart ops ok=true∧compat oi.op ok.op=true:=fun k ok hk hki hun hno=>by
    refine hfree k ok hk hki ?_ hno
    by_cases hjk:j=k
    ·subst hjk;exact hjun
    ·rw[getD_set_ne true hjk]at hun;exact hun
   refine⟨oj,s1',hoj,hya,ih (listed.setIfInBounds j true) s1' s2 (ZM hR hya) hfree' (ready_mono hr (Ne.symm hji)) hyb ?_⟩;rw[Array.setIfInBounds_comm _ _ hji];exact h1
def ZjU (md:Region.Mode) (ops:Array Oper) (listed:Array Bool) (i:Nat):Bool:=
 match ops[i]? with
 |none=>false
 |some oi=>(List.range ops.size).all fun j=>j==i||listed.getD j true||match ops[j]? with
   |some oj=>oj.after.any (fun e=>Region.binds md e&&e.on==i)||(oi.apart ops oj&&compat oi.op oj.op)
   |none=>true
theorem Fh {i:Nat} {oi:Oper} {listed:Array Bool} (hi:ops[i]? = some oi) (h:ZjU md ops listed i=true) (j:Nat) (oj:Oper)
  (hj:ops[j]? = some oj) (hne:j≠i) (hun:listed.getD j true=false) (hno:∀e∈oj.after,Region.binds md e=true→e.on≠i):
  oi.apart ops oj=true∧compat oi.op oj.op=true:=by
 simp only[ZjU,hi,List.all_eq_true,List.mem_range]at h;have h1:=h j (Array.getElem?_eq_some_iff.1 hj).1;simp only[hj,Bool.or_eq_true,beq_iff_eq,hne,false_or,hun,Bool.false_eq_true]at h1;rcases h1 with h1|h1
 ·obtain⟨e,he,hb⟩:=Array.any_eq_true'.1 h1;simp only[Bool.and_eq_true,beq_iff_eq]at hb;exact absurd hb.2 (hno e he hb.1)
 ·simpa using h1
def TU (md:Region.Mode) (ops:Array Oper):Nat→Nat→Array Bool→Bool
 |0,_,listed=>(Region.ready md ops listed).isEmpty
 |fuel+1,k,listed=>(Region.ready md ops listed).contains k&&ZjU md ops listed k&&TU md ops fuel (k+1) (listed.setIfInBounds k true)
def ZfN (ops:Array Oper):Bool:=TU .any ops ops.size 0 (Array.replicate ops.size false)
theorem FT {K:St→Prop}:∀(l:List Oper) (k:Nat) (listed:Array Bool) (s:St),RefsD s→(∀j,l[j]? = ops[k+j]?)→
  TU md ops l.length k listed=true→Zbg P ops K l s→ZhL P md ops K l.length listed s
 | [],_,_,_,_,_,hB,h=>⟨by simpa[TU]using hB,h⟩
 |o::l,k,listed,s,hR,hl,hB,h=>by
  have h0:ops[k]? = some o:=by simpa using(hl 0).symm
  simp only[List.length_cons,TU,Bool.and_eq_true]at hB;obtain⟨⟨hr,hf⟩,hB'⟩:=hB;obtain⟨hd,h⟩:=h;have hl':∀j,l[j]? = ops[(k+1)+j]? :=fun j=>by have:=hl (j+1);simpa[Nat.add_assoc,Nat.add_comm 1 j]using this
  rcases h with ⟨hg,v,m',hst,hrest⟩|⟨hg,hrest⟩
  ·have hy:XI P ops o s ((s.with m').put o.dst v):=⟨hd,.inl ⟨hg,v,m',hst,rfl⟩⟩;exact D6 h0 l.length listed s _ hR (Fh h0 hf) (by simpa using hr) hy (FT l (k+1) _ _ (ZM hR hy) hl' hB' hrest)
  ·have hy:XI P ops o s (s.put o.dst (.tup [])):=⟨hd,.inr ⟨hg,rfl⟩⟩;exact D6 h0 l.length listed s _ hR (Fh h0 hf) (by simpa using hr) hy (FT l (k+1) _ _ (ZM hR hy) hl' hB' hrest)
theorem GD {K:St→Prop} {B:Frm} {Qc:Exit→Act→World→Prop} {S0:Stable} {w0:World} (hQ:∀s' S' M' a' w',K s'→Sim B S' M' s' a' w'→Ext B S0 S' w0 w'→Qc .normal a' w'):
  ∀(fuel:Nat) (listed:Array Bool) (s:St),ZhL P md ops K fuel listed s→ ∀S M a w,Sim B S M s a w→Ext B S0 S w0 w→wpAny P md ops Qc fuel listed a w
 |0,_,s,h,S,M,a,w,hs,he=>⟨h.1,hQ s S M a w h.2 hs he⟩
 |fuel+1,listed,s,h,S,M,a,w,hs,he=>⟨fun h0=>hQ s S M a w (h.1 h0) hs he,fun i hi=>by
   obtain⟨o,s',ho,hy,hn⟩:=h.2 i hi;unfold wpOp;simp only[ho];obtain⟨hd,hy⟩:=hy;rcases hy with ⟨hg,v,m',hst,rfl⟩|⟨hg,rfl⟩
   ·rw[Vi hs hg,if_pos rfl];exact .inl (YY hs (Z1 hd) hst _ _ fun u w' S' M' hs' he'=>GD hQ fuel _ _ hn S' M' _ w' hs' (he.trans he'))
   ·rw[Vi hs hg,if_neg (by simp)];exact GD hQ fuel _ _ hn S M _ w (Vc hs hd) he⟩
theorem ZhX {id:Nat} {Q:Exit→St→Prop} {s:St} (hm:P.follows .mixedOrders=true) (hB:ZfN ops=true) (h:Zbg P ops (Q .normal) ops.toList s):awp P (.region id ops true) Q s:=fun B S M a w hs=>by
 refine wp_region_any hm ?_;have he:Ext B S S w { w with drawn:=w.drawn+1 }:=⟨SLe.refl _,fun _ _=>⟨fun _=>rfl,rfl⟩,(BelowF.refl B w).drew⟩;have hs':Sim B S M s a { w with drawn:=w.drawn+1 }:=hs.world rfl;have:=FT (P:=P) (K:=Q .normal) (md:= .any) ops.toList 0 (Array.replicate ops.size false) s hs.refsD (by simp) (by simpa[ZfN]using hB) h;have:=GD (B:=B) (S0:=S) (w0:=w) (Qc:=fun e a' w'=>∃s' S' M',Q e s'∧Sim B S' M' s' a' w'∧Ext B S S' w w') (fun s' S' M' a' w' h1 h2 h3=>⟨s',S',M',h1,h2,h3⟩) _ _ s this S M a _ hs' he;simpa using this
theorem Zm7 {id:Nat} {l:List Oper} {Q:Exit→St→Prop} {s:St} (hm:P.follows .mixedOrders=true) (hB:ZfN l.toArray=true) (h:@vA P false ⟨Q .normal⟩ ⟨l⟩ ⟨l⟩ s):awp P (.region id l.toArray true) Q s:=
 ZhX hm hB (by simpa using Vj l s h)
end
end Go.PL
