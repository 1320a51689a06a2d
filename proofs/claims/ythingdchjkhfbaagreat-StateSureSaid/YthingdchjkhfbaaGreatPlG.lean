/- A logic of values for functions that only read and build, over the model (part 7): no statement of the seat is proved here. -/
import Derived.Test.YthingdchjkhfbaaGreatPlF
import Derived.Still
namespace Go.PL
set_option maxHeartbeats 64000000
set_option maxRecDepth 20000
set_option linter.unusedVariables false
set_option linter.unusedSimpArgs false
open Go.RowKit
section
variable {P:Program}
mutual
theorem Zr2 {m m2:Hp}:∀(p:PV),(∀i,.b i∈p.ids→m2.h i=m.h i∧m2.z i=m.z i)→p.give m2=p.give m∧(p.givable m→p.givable m2)
 | .ptr id off,h=>by
  obtain⟨h1,h2⟩:=h id (by simp[PV.ids]);simp[PV.give,PV.givable,h1,h2]
 | .osl _ _ _ _,_=>by simp[PV.give,PV.givable]
 | .agg cs,h=>by
  obtain⟨h1,h2⟩:=Zdl cs (fun i hi=>h i (by simpa[PV.ids]using hi));simp only[PV.give,PV.givable,h1];exact⟨trivial,h2⟩
 | .tup cs,h=>by
  obtain⟨h1,h2⟩:=Zdl cs (fun i hi=>h i (by simpa[PV.ids]using hi));simp only[PV.give,PV.givable,h1];exact⟨trivial,h2⟩
 | .fn f cs,h=>by
  obtain⟨h1,h2⟩:=Zdl cs (fun i hi=>h i (by simpa[PV.ids]using hi));simp only[PV.give,PV.givable,h1];exact⟨trivial,h2⟩
 | .any,_=>by simp[PV.give,PV.givable]
 | .int _ _,_=>by simp[PV.give,PV.givable]
 | .bool _,_=>by simp[PV.give,PV.givable]
 | .str _,_=>by simp[PV.give,PV.givable]
 | .flt _ _,_=>by simp[PV.give,PV.givable]
 | .cpx _ _ _,_=>by simp[PV.give,PV.givable]
 | .sl _ _,_=>by simp[PV.give,PV.givable]
 | .rptr _,_=>by simp[PV.give,PV.givable]
 | .nilp,_=>by simp[PV.give,PV.givable]
 | .nilfn,_=>by simp[PV.give,PV.givable]
 | .nilmap,_=>by simp[PV.give,PV.givable]
 | .mref _,_=>by simp[PV.give,PV.givable]
 | .iptr _,_=>by simp[PV.give,PV.givable]
 | .rmap _ _,_=>by simp[PV.give,PV.givable]
 | .vsl _ _ _,_=>by simp[PV.give,PV.givable]
 | .vptr _ _ _ _ _,_=>by simp[PV.give,PV.givable]
theorem Zdl {m m2:Hp}:∀(cs:List PV),(∀i,.b i∈PV.idsL cs→m2.h i=m.h i∧m2.z i=m.z i)→PV.giveL m2 cs=PV.giveL m cs∧(PV.givableL m cs→PV.givableL m2 cs)
 | [],_=>by simp[PV.giveL,PV.givableL]
 |c::cs,h=>by
  obtain⟨h1,h2⟩:=Zr2 c (fun i hi=>h i (by simp[PV.idsL,hi]));obtain⟨h3,h4⟩:=Zdl cs (fun i hi=>h i (by simp[PV.idsL,hi]));simp only[PV.giveL,PV.givableL,h1,h3];exact⟨trivial,fun h=>⟨h2 h.1,h4 h.2⟩⟩
end
theorem ZtK {o:Oper} {ρ:Operand→PV} {m:Hp} {v:PV} {c:Call} {g:FuncId} {args:List PV} (ho:o.op= .call c) (hc:Zao ρ c=some (g,args)) (hg:PV.givableL m args) (hp:Pure P g (PV.giveL m args) v):Foot P o ρ m v m:=by
 have hval:∃f,c.callee= .value f∧ ∃caps,ρ f= .fn g caps∧args=c.args.toList.map ρ++caps:=by
  unfold Zao at hc;split at hc
  ·rename_i f hf;split at hc
   ·rename_i g' caps hcap;simp only[Option.some.injEq,Prod.mk.injEq]at hc;obtain⟨rfl,rfl⟩:=hc;exact⟨f,hf,caps,hcap,rfl⟩
   ·cases hc
  ·cases hc
 obtain⟨f,hf,caps,hcap,rfl⟩:=hval;obtain⟨callee,cargs,ts⟩:=c;simp only at hf;subst hf;have hfp:fp o.op= { rh:=true,rz:=true }:=by rw[ho];rfl
 have W1:∀i,¬Wh o ρ i:=fun i=>by simp[Wh,hfp]
 have W2:∀i,¬Wz o ρ i:=fun i=>by simp[Wz,hfp]
 have W3:∀i,¬Wq o ρ i:=fun i=>by simp[Wq,hfp]
 refine⟨fun _ _=>rfl,fun _ _=>rfl,fun _ _=>rfl,fun h=>(by rw[hfp]at h;cases h),fun h=>(by rw[hfp]at h;cases h),fun _ h=>h,fun _ h=>h,fun _=>rfl,rfl,fun m2 a1 a2 _ _ _ _ _=> ?_⟩;have hrefs:∀i,.b i∈PV.idsL (cargs.toList.map ρ++caps)→ .b i∈Zay o ρ:=fun i hi=>by
  unfold Zay;rw[ho];obtain⟨x,hx,hix⟩:=PV.mem_idsL.1 hi;rw[List.mem_flatMap];rcases List.mem_append.1 hx with hx|hx
  ·obtain⟨y,hy,rfl⟩:=List.mem_map.1 hx;exact⟨y,by simp only[Op.operands,Call.operands];simp;right;simpa using hy,hix⟩
  ·exact⟨f,by simp[Op.operands,Call.operands],by rw[hcap];exact PV.mem_idsL.2 ⟨x,hx,hix⟩⟩
 obtain⟨g1,g2⟩:=Zdl (m:=m) (m2:=m2) (cargs.toList.map ρ++caps) (fun i hi=>⟨a1 (by rw[hfp]) (.b i) (hrefs i hi),a2 (by rw[hfp]) i (hrefs i hi)⟩);refine⟨m2,.inr ⟨_,g,_,ho,hc,g2 hg,by rw[g1];exact hp,rfl⟩,fun i=>⟨fun h=>absurd h (W1 i),fun _=>rfl⟩,fun i=>⟨fun h=>absurd h (W2 i),fun _=>rfl⟩,fun i=>⟨fun h=>absurd h (W3 i),fun _=>rfl⟩,⟨fun h=>(by rw[hfp]at h;cases h),fun _=>rfl⟩,rfl⟩
theorem ZtM {o:Oper} {ρ:Operand→PV} {m:Hp} {t:TypeId} {x:Operand} (ho:o.op= .load t x) (hok:(aop P o ρ m).ok):Foot P o ρ m (aop P o ρ m).v (aop P o ρ m).m:=by
 have hfp:fp o.op= { rh:=true }:=by rw[ho];rfl
 have W1:∀i,¬Wh o ρ i:=fun i=>by simp[Wh,hfp]
 have W2:∀i,¬Wz o ρ i:=fun i=>by simp[Wz,hfp]
 have W3:∀i,¬Wq o ρ i:=fun i=>by simp[Wq,hfp]
 have hop:∀m,aop P o ρ m=if tkn P t then Zd4 P t (ρ x) m else .fail:=fun m=>by unfold aop;rw[ho]
 have hrefs:∀r,r∈(ρ x).ids→r∈Zay o ρ:=fun i hi=>by
  unfold Zay;rw[ho];exact List.mem_flatMap.2 ⟨x,by simp[Op.operands],hi⟩
 have key:∀m2:Hp,(∀r,r∈(ρ x).ids→m2.hv r=m.hv r)→(aop P o ρ m).m=m∧(aop P o ρ m2).ok∧(aop P o ρ m2).v=(aop P o ρ m).v∧(aop P o ρ m2).m=m2:=by
  intro m2 h2;rw[hop]at hok ⊢;rw[hop];split at hok
  ·rename_i hk;simp only[hk,if_true]
   revert hok
   unfold Zd4;cases hx:ρ x with
   |rptr cs=>exact fun h=>⟨rfl,h,rfl,rfl⟩
   |ptr id off=>
    have:m2.h id=m.h id:=h2 (.b id) (by rw[hx];simp[PV.ids]);simp only[this];cases m.h id with
    |none=>exact fun h=>h.elim
    |some cs=>exact fun h=>⟨rfl,h,rfl,rfl⟩
   |vptr id n z i off=>
    have:m2.v id=m.v id:=h2 (.r id) (by rw[hx];simp[PV.ids]);simp only[this];cases m.v id with
    |none=>exact fun h=>h.elim
    |some es=>exact fun h=>⟨rfl,h,rfl,rfl⟩
   |_=>exact fun h=>h.elim
  ·exact hok.elim
 obtain⟨e,_⟩:=key m (fun _ _=>rfl);rw[e];refine⟨fun _ _=>rfl,fun _ _=>rfl,fun _ _=>rfl,fun h=>(by rw[hfp]at h;cases h),fun h=>(by rw[hfp]at h;cases h),fun _ h=>h,fun _ h=>h,fun _=>rfl,rfl,fun m2 a1 _ _ _ _ _ _=> ?_⟩;obtain⟨_,g1,g2,g3⟩:=key m2 (fun i hi=>a1 (by rw[hfp]) i (hrefs i hi));exact⟨m2,.inl ⟨g1,g2.symm,g3.symm⟩,fun i=>⟨fun h=>absurd h (W1 i),fun _=>rfl⟩,fun i=>⟨fun h=>absurd h (W2 i),fun _=>rfl⟩,fun i=>⟨fun h=>absurd h (W3 i),fun _=>rfl⟩,⟨fun h=>(by rw[hfp]at h;cases h),fun _=>rfl⟩,rfl⟩
theorem ZtL {o:Oper} {ρ:Operand→PV} {m:Hp} {t u:TypeId} {x:Operand} (ho:o.op= .convert t u x) (hok:(aop P o ρ m).ok):Foot P o ρ m (aop P o ρ m).v (aop P o ρ m).m:=by
 have hfp:fp o.op= { rh:=true }:=by rw[ho];rfl
 have W1:∀i,¬Wh o ρ i:=fun i=>by simp[Wh,hfp]
 have W2:∀i,¬Wz o ρ i:=fun i=>by simp[Wz,hfp]
 have W3:∀i,¬Wq o ρ i:=fun i=>by simp[Wq,hfp]
 have hop:∀m,aop P o ρ m=Ze4 P t u (ρ x) m:=fun m=>by unfold aop;rw[ho]
 have hrefs:∀i,.b i∈(ρ x).ids→ .b i∈Zay o ρ:=fun i hi=>by
  unfold Zay;rw[ho];exact List.mem_flatMap.2 ⟨x,by simp[Op.operands],hi⟩
 have e:(aop P o ρ m).m=m:=by rw[hop]at hok ⊢;exact Zxk hok
 rw[e];refine⟨fun _ _=>rfl,fun _ _=>rfl,fun _ _=>rfl,fun h=>(by rw[hfp]at h;cases h),fun h=>(by rw[hfp]at h;cases h),fun _ h=>h,fun _ h=>h,fun _=>rfl,rfl,fun m2 a1 _ _ _ _ _ _=> ?_⟩;have hok':(Ze4 P t u (ρ x) m).ok:=by rw[←hop];exact hok
 obtain⟨g1,g2,g3⟩:=ZrS (m2:=m2) (fun i hi=>a1 (by rw[hfp]) (.b i) (hrefs i hi)) hok';exact⟨m2,.inl ⟨by rw[hop];exact g1,by rw[hop,hop];exact g2.symm,by rw[hop];exact g3.symm⟩,fun i=>⟨fun h=>absurd h (W1 i),fun _=>rfl⟩,fun i=>⟨fun h=>absurd h (W2 i),fun _=>rfl⟩,fun i=>⟨fun h=>absurd h (W3 i),fun _=>rfl⟩,⟨fun h=>(by rw[hfp]at h;cases h),fun _=>rfl⟩,rfl⟩
theorem ZrY {o:Oper} {ρ:Operand→PV} {m:Hp} {t:TypeId} {x y:Operand} (ho:o.op= .store t x y) (hok:(aop P o ρ m).ok):Foot P o ρ m (aop P o ρ m).v (aop P o ρ m).m:=by
 have hfp:fp o.op= { rh:=true,rz:=true,wh:=true }:=by rw[ho];rfl
 have W2:∀i,¬Wz o ρ i:=fun i=>by simp[Wz,hfp]
 have W3:∀i,¬Wq o ρ i:=fun i=>by simp[Wq,hfp]
 have hop:∀m,aop P o ρ m=if tkn P t then Zcz P t (ρ x) (ρ y) m else .fail:=fun m=>by unfold aop;rw[ho]
 have hrefs:∀r,r∈(ρ x).ids→r∈Zay o ρ:=fun i hi=>by
  unfold Zay;rw[ho];exact List.mem_flatMap.2 ⟨x,by simp[Op.operands],hi⟩
 have W1:∀r,Wh o ρ r↔r∈Zay o ρ:=fun i=>by simp[Wh,hfp]
 rw[hop]at hok ⊢;split at hok
 ·rename_i hk;simp only[hk,if_true]
  revert hok
  unfold Zcz;cases hx:ρ x with
  |ptr id off=>
   simp only;cases hid:m.h id with
   |none=>exact fun h=>h.elim
   |some cs=>
    rintro ⟨g0,g1,g2,g3,g4⟩
    have hin: .b id∈Zay o ρ:=hrefs (.b id) (by rw[hx];simp[PV.ids]);have n0:∀(m:Hp) i,i≠id→(upd m.h id (some (ZaK cs off (ρ y).cells))) i=m.h i:=fun m i h=>Zm _ _ (Ne.symm h)
    have n1:∀(m:Hp) r,r≠ .b id→({ m with h:=upd m.h id (some (ZaK cs off (ρ y).cells)) }:Hp).hv r=m.hv r:=fun m r h=>by cases r with|b i=>exact n0 m i (fun e=>h (by rw[e]))|r i=>rfl
    refine⟨fun i h=>n1 m i (fun e=>h ((W1 i).2 (e▸hin))),fun _ _=>rfl,fun _ _=>rfl,fun h=>(by rw[hfp]at h;cases h),fun h=>(by rw[hfp]at h;cases h),fun i h=> ?_,fun _ h=>h,fun _=>rfl,rfl,fun m2 a1 a2 _ _ _ _ _=> ?_⟩
    ·show upd m.h id _ i≠none
     by_cases e:i=id
     ·subst e;rw[Zb];simp
     ·rw[n0 m i e];exact h
    ·have hid2:m2.h id=some cs:=(a1 (by rw[hfp]) (.b id) hin).trans hid;have hz2:=(a2 (by rw[hfp]) id hin).trans g0;refine⟨{ m2 with h:=upd m2.h id (some (ZaK cs off (ρ y).cells)) },.inl ?_,fun i=>⟨fun h=> ?_,fun h=>n1 m2 i (fun e=>h ((W1 i).2 (e▸hin)))⟩,fun i=>⟨fun h=>absurd h (W2 i),fun _=>rfl⟩,fun i=>⟨fun h=>absurd h (W3 i),fun _=>rfl⟩,⟨fun h=>(by rw[hfp]at h;cases h),fun _=>rfl⟩,rfl⟩
     ·rw[hop];simp only[hk,if_true,Zcz,hx,hid2];exact⟨⟨hz2,g1,g2,g3,g4⟩,trivial,trivial⟩
     ·by_cases e:i= .b id
      ·subst e;show upd m2.h id _ id=upd m.h id _ id;rw[Zb,Zb]
      ·rw[n1 m2 i e,n1 m i e];exact a1 (by rw[hfp]) i ((W1 i).1 h)
  |vptr id n z k off=>
   simp only;cases hid:m.v id with
   |none=>exact fun h=>h.elim
   |some es=>
    intro g0;have hin: .r id∈Zay o ρ:=hrefs (.r id) (by rw[hx];simp[PV.ids]);have n1:∀(m:Hp) (x:List PV) r,r≠ .r id→({ m with v:=upd m.v id (some x) }:Hp).hv r=m.hv r:=fun m x r h=>by cases r with|r i=>exact Zm _ _ (fun e=>h (by rw[e]))|b i=>rfl
    refine⟨fun i h=>n1 m _ i (fun e=>h ((W1 i).2 (e▸hin))),fun _ _=>rfl,fun _ _=>rfl,fun h=>(by rw[hfp]at h;cases h),fun h=>(by rw[hfp]at h;cases h),fun i h=>h,fun _ h=>h,fun _=>rfl,rfl,fun m2 a1 a2 _ _ _ _ _=> ?_⟩;have hid2:m2.v id=some es:=(a1 (by rw[hfp]) (.r id) hin).trans hid;refine⟨{ m2 with v:=upd m2.v id (some (es.set k (ZjK (es.getD k .any) off (ρ y)))) },.inl ?_,fun i=>⟨fun h=> ?_,fun h=>n1 m2 _ i (fun e=>h ((W1 i).2 (e▸hin)))⟩,fun i=>⟨fun h=>absurd h (W2 i),fun _=>rfl⟩,fun i=>⟨fun h=>absurd h (W3 i),fun _=>rfl⟩,⟨fun h=>(by rw[hfp]at h;cases h),fun _=>rfl⟩,rfl⟩
    ·rw[hop];simp only[hk,if_true,Zcz,hx,hid2];exact⟨g0,trivial,trivial⟩
    ·by_cases e:i= .r id
     ·subst e;show upd m2.v id _ id=upd m.v id _ id;rw[Zb,Zb]
     ·rw[n1 m2 _ i e,n1 m _ i e];exact a1 (by rw[hfp]) i ((W1 i).1 h)
  |_=>exact fun h=>h.elim
 ·exact hok.elim
theorem ZfR (m:Hp):∀cs,(frozenBy m cs).o=m.o
 | []=>rfl
 |c::cs=>by
  cases c<;>first|exact ZfR m cs|exact ZfR (m.freeze _) cs
theorem Zgh (m:Hp):∀cs,(frozenBy m cs).it=m.it
 | []=>rfl
 |c::cs=>by
  cases c<;>first|exact Zgh m cs|exact Zgh (m.freeze _) cs
theorem Zgi (m:Hp):∀cs,(frozenBy m cs).om=m.om
 | []=>rfl
 |c::cs=>by
  cases c<;>first|exact Zgi m cs|exact Zgi (m.freeze _) cs
theorem ZhI (m:Hp):∀cs,(frozenBy m cs).v=m.v
 | []=>rfl
 |c::cs=>by
  cases c<;>first|exact ZhI m cs|exact ZhI (m.freeze _) cs
theorem Zjl (m:Hp) (cs:List PV) (x:Ref):(frozenBy m cs).hv x=m.hv x:=Zv4 (Zcn m cs) (ZhI m cs) x
theorem Zdj (m:Hp):∀cs,(frozenBy m cs).ph=m.ph∧(frozenBy m cs).pq=m.pq∧(frozenBy m cs).vm=m.vm
 | []=>⟨rfl,rfl,rfl⟩
 |c::cs=>by
  cases c<;>first|exact Zdj m cs|exact Zdj (m.freeze _) cs
theorem Zjm (m:Hp) (cs:List PV):(frozenBy m cs).io=m.io:=by unfold Hp.io;rw[Zgh,Zgi,(Zdj m cs).1,(Zdj m cs).2.1,(Zdj m cs).2.2]
theorem Zgj (m:Hp):∀(cs:List PV) (i:Nat),m.z i=true→(frozenBy m cs).z i=true
 | [],i,h=>h
 |c::cs,i,h=>by
  cases c with
  |ptr id off=>
   refine Zgj (m.freeze id) cs i ?_;show upd m.z id true i=true
   by_cases e:id=i
   ·subst e;exact Zb _ _ _
   ·rw[Zm _ _ e];exact h
  |_=>exact Zgj m cs i h
theorem Zgk (m:Hp):∀(cs:List PV) (i off:Nat),PV.ptr i off∈cs→(frozenBy m cs).z i=true
 | [],i,off,h=>by cases h
 |c::cs,i,off,h=>by
  rcases List.mem_cons.1 h with rfl|h'
  ·exact Zgj (m.freeze i) cs i (Zb _ _ _)
  ·cases c with
   |ptr id o=>exact Zgk (m.freeze id) cs i off h'
   |_=>exact Zgk m cs i off h'
theorem Zjn (m:Hp):∀(cs:List PV) (i:Nat),(∀off,PV.ptr i off∉cs)→(frozenBy m cs).z i=m.z i
 | [],i,h=>rfl
 |c::cs,i,h=>by
  have ih:=fun m=>Zjn m cs i (fun off ho=>h off (by simp[ho]))
  cases c with
  |ptr id o=>
   refine(ih (m.freeze id)).trans (Zm _ _ fun e=> ?_);subst e;exact h o (by simp)
  |_=>exact ih m
theorem Zh7 {m m2:Hp}:∀(cs:List PV),(∀i,.b i∈PV.idsL cs→m2.h i=m.h i)→Zd7 m cs→Zd7 m2 cs
 | [],_,_=>trivial
 |c::cs,h,hk=>by
  have ih:=Zh7 (m:=m) (m2:=m2) cs (fun i hi=>h i (by simp[PV.idsL,hi]));cases c with
  |ptr id off=>
   obtain⟨h1,h2⟩:=hk;refine⟨?_,ih h2⟩;rw[h id (by simp[PV.idsL,PV.ids])];exact h1
  |_=>exact⟨hk.1,ih hk.2⟩
theorem Zi2 {m:Hp}:∀ {cs:List PV},Zd7 m cs→ ∀i,.b i∈PV.idsL cs→ ∃off,PV.ptr i off∈cs
 | [],_,i,hi=>by simp[PV.idsL]at hi
 |c::cs,hk,i,hi=>by
  simp only[PV.idsL,List.mem_append]at hi;rcases hi with hi|hi
  ·cases c with
   |ptr id off=>simp[PV.ids]at hi;subst hi;exact⟨off,by simp⟩
   |_=>obtain⟨h1,_⟩:=hk;rw[h1]at hi;cases hi
  ·have hk2:Zd7 m cs:=by cases c<;>exact hk.2
   obtain⟨off,ho⟩:=Zi2 hk2 i hi;exact⟨off,by simp[ho]⟩
theorem Zmb {o:Oper} {ρ:Operand→PV} {m:Hp} {f:FuncId} {first caps:Array Operand} (ho:o.op= .makeFunc (.func f) first caps) (hok:(aop P o ρ m).ok):Foot P o ρ m (aop P o ρ m).v (aop P o ρ m).m:=by
 have hop:∀m,aop P o ρ m=if first.isEmpty then⟨Zd7 m (caps.toList.map ρ),.fn f (caps.toList.map ρ),frozenBy m (caps.toList.map ρ)⟩else .fail:=fun m=>by unfold aop;rw[ho]
 rw[hop]at hok ⊢;split at hok
 ·rename_i hfe;simp only[hfe,if_true];simp only at hok
  by_cases hce:caps.isEmpty=true
  ·have hc0:caps= #[]:=by simpa using hce
   subst hc0;have hfp:fp o.op= {}:=by rw[ho];rfl
   have W1:∀i,¬Wh o ρ i:=fun i=>by simp[Wh,hfp]
   have W2:∀i,¬Wz o ρ i:=fun i=>by simp[Wz,hfp]
   have W3:∀i,¬Wq o ρ i:=fun i=>by simp[Wq,hfp]
   refine⟨fun _ _=>rfl,fun _ _=>rfl,fun _ _=>rfl,fun h=>(by rw[hfp]at h;cases h),fun h=>(by rw[hfp]at h;cases h),fun _ h=>h,fun _ h=>h,fun _=>rfl,rfl,fun m2 _ _ _ _ _ _ _=> ?_⟩;refine⟨m2,.inl ?_,fun i=>⟨fun h=>absurd h (W1 i),fun _=>rfl⟩,fun i=>⟨fun h=>absurd h (W2 i),fun _=>rfl⟩,fun i=>⟨fun h=>absurd h (W3 i),fun _=>rfl⟩,⟨fun h=>(by rw[hfp]at h;cases h),fun _=>rfl⟩,rfl⟩;rw[hop];simp only[hfe,if_true];exact⟨trivial,trivial,rfl⟩
  ·have hfp:fp o.op= { rh:=true,wz:=true }:=by rw[ho];simp[fp,hce]
   have hrefs:∀i,.b i∈PV.idsL (caps.toList.map ρ)↔ .b i∈Zay o ρ:=fun i=>by
    unfold Zay;rw[ho];have hf0:first= #[]:=by simpa using hfe
    subst hf0;constructor
    ·intro hi;obtain⟨x,hx,hix⟩:=PV.mem_idsL.1 hi;obtain⟨y,hy,rfl⟩:=List.mem_map.1 hx;exact List.mem_flatMap.2 ⟨y,by simpa[Op.operands]using hy,hix⟩
    ·intro hi;obtain⟨y,hy,hiy⟩:=List.mem_flatMap.1 hi;exact PV.mem_idsL.2 ⟨ρ y,List.mem_map.2 ⟨y,by simpa[Op.operands]using hy,rfl⟩,hiy⟩
   have W1:∀i,¬Wh o ρ i:=fun i=>by simp[Wh,hfp]
   have W2:∀i,Wz o ρ i↔ .b i∈Zay o ρ:=fun i=>by simp[Wz,hfp]
   have W3:∀i,¬Wq o ρ i:=fun i=>by simp[Wq,hfp]
   have zz:∀(m:Hp) i,(.b i∈Zay o ρ→(frozenBy m (caps.toList.map ρ)).z i=true)∧(.b i∉Zay o ρ→(frozenBy m (caps.toList.map ρ)).z i=m.z i):=fun m' i=>by
    constructor
    ·intro hi;obtain⟨off,ho'⟩:=Zi2 hok i ((hrefs i).2 hi);exact Zgk m' _ i off ho'
    ·intro hi;exact Zjn m' _ i (fun off ho'=>hi ((hrefs i).1 (PV.mem_idsL.2 ⟨_,ho',by simp[PV.ids]⟩)))
   refine⟨fun i _=>Zjl m _ i,fun i h=>(zz m i).2 (fun hh=>h ((W2 i).2 hh)),fun i _=>by rw[ZbW],fun h=>(by rw[hfp]at h;cases h),fun h=>(by rw[hfp]at h;cases h),fun i h=>by rw[Zcn];exact h,fun i h=>by rw[ZbW];exact h,fun _=>ZfR m _,Zjm m _,fun m2 a1 _ _ _ _ _ _=> ?_⟩;refine⟨frozenBy m2 (caps.toList.map ρ),.inl ?_,fun i=>⟨fun h=>absurd h (W1 i),fun _=>Zjl m2 _ i⟩,fun i=>⟨fun h=> ?_,fun h=>(zz m2 i).2 (fun hh=>h ((W2 i).2 hh))⟩,fun i=>⟨fun h=>absurd h (W3 i),fun _=>by rw[ZbW]⟩,⟨fun h=>(by rw[hfp]at h;cases h),fun _=>ZfR m2 _⟩,Zjm m2 _⟩
   ·rw[hop];simp only[hfe,if_true];exact⟨Zh7 _ (fun i hi=>a1 (by rw[hfp]) (.b i) ((hrefs i).1 hi)) hok,trivial,trivial⟩
   ·rw[(zz m2 i).1 ((W2 i).1 h),(zz m i).1 ((W2 i).1 h)]
 ·exact hok.elim
end
open Go.RowKit
section
variable {P:Program}
theorem Zpl {o:Oper} {ρ:Operand→PV} {m:Hp} {args:Array Operand} {ts:Array TypeId} (ho:o.op= .call ⟨.builtin .append,args,ts⟩) (hok:(aop P o ρ m).ok):Foot P o ρ m (aop P o ρ m).v (aop P o ρ m).m:=by
 have hfp:fp o.op= { rq:=true,wq:=true }:=by rw[ho];rfl
 have W1:∀i,¬Wh o ρ i:=fun i=>by simp[Wh,hfp]
 have W2:∀i,¬Wz o ρ i:=fun i=>by simp[Wz,hfp]
 have W3:∀i,Wq o ρ i↔(.r i∈Zay o ρ∨o.dst=some i):=fun i=>by simp[Wq,hfp]
 have hop:∀m,aop P o ρ m=Z7 P .append ts.toList o.dst (args.toList.map ρ) m:=fun m=>by unfold aop;rw[ho]
 rw[hop]at hok ⊢;have refs:∀x∈args.toList,∀i,.r i∈(ρ x).ids→ .r i∈Zay o ρ:=fun x hx i hi=>by
  unfold Zay;rw[ho];exact List.mem_flatMap.2 ⟨x,by simpa[Op.operands,Call.operands]using hx,hi⟩
 -- what is done:rows Zv in a list are laid anew
 have fin:∀ {v:PV} {L:List (Nat×Row)} {ok:Hp→Prop},(∀x∈L,.r x.1∈Zay o ρ∨o.dst=some x.1)→(∀m2:Hp,(∀i,(.r i∈Zay o ρ∨o.dst=some i)→m2.q i=m.q i)→aop P o ρ m2=⟨ok m2,v,L.foldl (fun m x=>m.setq x.1 x.2) m2⟩∧(ok m→ok m2))→ok m→
   Foot P o ρ m v (L.foldl (fun m x=>m.setq x.1 x.2) m):=by
  intro v L ok hL hst hk;have hh:∀(L:List (Nat×Row)) (m:Hp),(L.foldl (fun m x=>m.setq x.1 x.2) m).h=m.h∧(L.foldl (fun m x=>m.setq x.1 x.2) m).z=m.z:=by
   intro L
   induction L with
   |nil=>intro m;exact⟨rfl,rfl⟩
   |cons x L ih=>intro m;exact⟨(ih _).1,(ih _).2⟩
  have hv:∀(L:List (Nat×Row)) (m:Hp) (x:Ref),(L.foldl (fun m x=>m.setq x.1 x.2) m).hv x=m.hv x:=by
   intro L
   induction L with
   |nil=>intro m x;rfl
   |cons y L ih=>intro m x;exact(ih _ x).trans (Zpo _ _ _ x)
  have ho:∀(L:List (Nat×Row)) (m:Hp),(L.foldl (fun m x=>m.setq x.1 x.2) m).o=m.o∧(L.foldl (fun m x=>m.setq x.1 x.2) m).io=m.io:=by
   intro L
   induction L with
   |nil=>intro m;exact⟨rfl,rfl⟩
   |cons x L ih=>intro m;exact⟨(ih _).1,(ih _).2⟩
  have qq:∀(L:List (Nat×Row)) (m:Hp) (i:Nat),(∀x∈L,x.1≠i)→(L.foldl (fun m x=>m.setq x.1 x.2) m).q i=m.q i:=by
   intro L
   induction L with
   |nil=>intro m i _;rfl
   |cons x L ih=>
    intro m i h;refine(ih (m.setq x.1 x.2) i (fun y hy=>h y (by simp[hy]))).trans ?_;exact Zm _ _ (h x (by simp))
  have qsame:∀(L:List (Nat×Row)) (m m2:Hp) (i:Nat),m2.q i=m.q i→(L.foldl (fun m x=>m.setq x.1 x.2) m2).q i=(L.foldl (fun m x=>m.setq x.1 x.2) m).q i:=by
   intro L
   induction L with
   |nil=>intro m m2 i h;exact h
   |cons x L ih=>
    intro m m2 i h;refine ih (m.setq x.1 x.2) (m2.setq x.1 x.2) i ?_;show upd m2.q x.1 _ i=upd m.q x.1 _ i
    by_cases e:x.1=i
    ·subst e;rw[Zb,Zb]
    ·rw[Zm _ _ e,Zm _ _ e];exact h
  have qlive:∀(L:List (Nat×Row)) (m:Hp) (i:Nat),m.q i≠none→(L.foldl (fun m x=>m.setq x.1 x.2) m).q i≠none:=by
   intro L
   induction L with
   |nil=>intro m i h;exact h
   |cons x L ih=>
    intro m i h;refine ih (m.setq x.1 x.2) i ?_;show upd m.q x.1 _ i≠none
    by_cases e:x.1=i
    ·subst e;rw[Zb];simp
    ·rw[Zm _ _ e];exact h
  refine⟨fun i _=>hv L m i,fun i _=>by rw[(hh L m).2],fun i h=>qq L m i (fun x hx e=>h ((W3 i).2 (e▸hL x hx))),fun h=>(by rw[hfp]at h;cases h),fun h=>(by rw[hfp]at h;cases h),fun i h=>by rw[(hh L m).1];exact h,fun i h=>qlive L m i h,fun _=>(ho L m).1,(ho L m).2,fun m2 _ _ a3 _ _ _ _=> ?_⟩;have hag:∀i,(.r i∈Zay o ρ∨o.dst=some i)→m2.q i=m.q i:=a3 (by rw[hfp]);obtain⟨e,hk2⟩:=hst m2 hag;refine⟨L.foldl (fun m x=>m.setq x.1 x.2) m2,.inl ?_,fun i=>⟨fun h=>absurd h (W1 i),fun _=>hv L m2 i⟩,fun i=>⟨fun h=>absurd h (W2 i),fun _=>by rw[(hh L m2).2]⟩,fun i=>⟨fun h=>qsame L m m2 i (hag i ((W3 i).1 h)),fun h=>qq L m2 i (fun x hx e=>h ((W3 i).2 (e▸hL x hx)))⟩,⟨fun h=>(by rw[hfp]at h;cases h),fun _=>(ho L m2).1⟩,(ho L m2).2⟩;rw[e];exact⟨hk2 hk,rfl,rfl⟩
 revert hok
 match hts:ts.toList,has:args.toList with
 | [t,tx],[x,y]=>
  simp only[List.map_cons,List.map_nil,Z7];cases hd:o.dst with
  |none=>exact fun h=>h.elim
  |some d=>
   have hop':∀m2,aop P o ρ m2=Zez P d t tx (ρ x) (ρ y) m2:=fun m2=>by
    rw[hop,hts,has,hd];rfl
   simp only;unfold Zez;unfold Zez at hop';have hxr:∀i,.r i∈(ρ x).ids→ .r i∈Zay o ρ:=refs x (by rw[has];simp);split
   ·rename_i ei ys es h1 h2 h3;intro hok;exact fin (L:= [(d,_)]) (ok:=fun m2=>m2.q d=none∧Sized ei.size ys∧Zcy ys∧ZrF ys.length ei.bytes) (by intro z hz;simp at hz;subst hz;exact .inr hd)
     (fun m2 hag=>⟨by rw[hop'];simp only[h1,h2,h3];rfl,fun hk=>⟨by rw[hag d (.inr hd)];exact hk.1,hk.2⟩⟩) hok
   ·rename_i ei ys id es h1 h2 h3;have hin: .r id∈Zay o ρ:=hxr id (by rw[h3];simp[PV.ids]);cases hq:m.q id with
    |none=>exact fun h=>h.elim
    |some r=>
     cases r with
     |dead=>exact fun h=>h.elim
     |vec n sz e=>exact fun h=>h.elim
     |live n sz e=>
      simp only;intro hok
      by_cases hdi:d=id
      ·subst hdi;simp only[if_true];exact fin (L:= [(d,_)]) (ok:=fun m2=>n=es.length∧sz=ei.size∧e=ei.e∧(d=d∨m2.q d=none)∧Sized ei.size es∧Sized ei.size ys∧Zcy ys∧ZrF (es.length+ys.length) ei.bytes) (by intro z hz;simp at hz;subst hz;exact .inr hd)
        (fun m2 hag=>⟨by rw[hop'];simp only[h1,h2,h3,hag d (.inr hd),hq,if_true];rfl,fun hk=>⟨hk.1,hk.2.1,hk.2.2.1,.inl rfl,hk.2.2.2.2⟩⟩) hok
      ·simp only[if_neg hdi];exact fin (L:= [(id,.dead),(d,_)]) (ok:=fun m2=>n=es.length∧sz=ei.size∧e=ei.e∧(d=id∨m2.q d=none)∧Sized ei.size es∧Sized ei.size ys∧Zcy ys∧ZrF (es.length+ys.length) ei.bytes)
        (by intro z hz;simp at hz;rcases hz with rfl|rfl;exact .inl hin;exact .inr hd)
        (fun m2 hag=>⟨by rw[hop'];simp only[h1,h2,h3,hag id (.inl hin),hq,if_neg hdi];rfl,fun hk=>⟨hk.1,hk.2.1,hk.2.2.1,hk.2.2.2.1.imp (fun h=>h) (fun h=>by rw[hag d (.inr hd)];exact h),hk.2.2.2.2⟩⟩) hok
   ·exact fun h=>h.elim
 | [],_=>exact fun h=>h.elim
 | [_],_=>simp only[Z7];exact fun h=>h.elim
 |_::_::_::_,_=>simp only[Z7];exact fun h=>h.elim
 | [_,_],[]=>exact fun h=>h.elim
 | [_,_],[_]=>simp only[List.map_cons,List.map_nil,Z7];exact fun h=>h.elim
 | [_,_],_::_::_::_=>simp only[List.map_cons,Z7];exact fun h=>h.elim
theorem Zix {o:Oper} {ρ:Operand→PV} {m:Hp} {wo:Bool} (hfp:fp o.op= { ro:=true,wo:=wo }) (h1:∀m:Hp,(aop P o ρ m).ok→(aop P o ρ m).m= { m with o:=(aop P o ρ m).m.o }∧(wo=false→(aop P o ρ m).m.o=m.o))
  (h2:∀m2:Hp,m2.o=m.o→m2.it=m.it→(aop P o ρ m).ok→(aop P o ρ m2).ok∧(aop P o ρ m2).v=(aop P o ρ m).v∧(aop P o ρ m2).m.o=(aop P o ρ m).m.o) (hok:(aop P o ρ m).ok):Foot P o ρ m (aop P o ρ m).v (aop P o ρ m).m:=by
 have W1:∀i,¬Wh o ρ i:=fun i=>by simp[Wh,hfp]
 have W2:∀i,¬Wz o ρ i:=fun i=>by simp[Wz,hfp]
 have W3:∀i,¬Wq o ρ i:=fun i=>by simp[Wq,hfp]
 obtain⟨e,e'⟩:=h1 m hok;refine⟨fun i _=>by rw[e];cases i<;>rfl,fun i _=>by rw[e],fun i _=>by rw[e],fun h=>(by rw[hfp]at h;cases h),fun h=>(by rw[hfp]at h;cases h),fun i h=>by rw[e];exact h,fun i h=>by rw[e];exact h,
  fun h=>e' (by rw[hfp]at h;exact h),by rw[e];rfl,fun m2 _ _ _ _ _ a1 a2=> ?_⟩
 obtain⟨g1,g2,g3⟩:=h2 m2 (a1 (by rw[hfp])) (congrArg (fun x=>x.1) a2) hok;obtain⟨k,k'⟩:=h1 m2 g1;exact⟨(aop P o ρ m2).m,.inl ⟨g1,g2.symm,rfl⟩,fun i=>⟨fun h=>absurd h (W1 i),fun _=>by rw[k];cases i<;>rfl⟩,fun i=>⟨fun h=>absurd h (W2 i),fun _=>by rw[k]⟩,fun i=>⟨fun h=>absurd h (W3 i),fun _=>by rw[k]⟩,⟨fun _=>g3,fun h=>k' (by rw[hfp]at h;exact h)⟩,by rw[k];rfl⟩
theorem Zjz {m m2:Hp} (h:m2.o=m.o) (x:PV):ZhL m2 x=ZhL m x:=by cases x<;>simp[ZhL,h]
theorem Zfp {t:TypeId} {x k:PV} {ok:Bool} (m m2:Hp) (h:m2.o=m.o):(ZbP P t x k ok m).ok→(ZbP P t x k ok m).m=m∧(ZbP P t x k ok m2).ok∧(ZbP P t x k ok m2).v=(ZbP P t x k ok m).v∧(ZbP P t x k ok m2).m=m2:=by
 unfold ZbP;rw[Zjz h];split
 ·split
  ·exact fun hk=>⟨rfl,hk,rfl,rfl⟩
  ·exact fun hk=>hk.elim
 ·exact fun hk=>hk.elim
theorem Zie {t:TypeId} {x:PV} (m m2:Hp) (h:m2.o=m.o):(Zck P t x m).ok→(Zck P t x m).m=m∧(Zck P t x m2).ok∧(Zck P t x m2).v=(Zck P t x m).v∧(Zck P t x m2).m=m2:=by
 unfold Zck;rw[Zjz h];split
 ·exact fun hk=>⟨rfl,hk,rfl,rfl⟩
 ·exact fun hk=>hk.elim
theorem Zgf {x:PV} (m m2:Hp) (h:m2.o=m.o) (h':m2.it=m.it):(Zdd x m).ok→(Zdd x m).m=m∧(Zdd x m2).ok∧(Zdd x m2).v=(Zdd x m).v∧(Zdd x m2).m=m2:=by
 have hm:∀it,mapIt m2 it=mapIt m it:=fun it=>by unfold mapIt;rw[h]
 unfold Zdd;rw[h'];simp only[hm];split
 ·split
  ·split
   ·exact fun hk=>⟨rfl,hk,rfl,rfl⟩
   ·exact fun hk=>hk.elim
  ·exact fun hk=>hk.elim
 ·exact fun hk=>hk.elim
theorem ZfE {t:TypeId} {x k v:PV} (m m2:Hp) (h:m2.o=m.o):(ZX P t x k v m).ok→(ZX P t x k v m).m= { m with o:=(ZX P t x k v m).m.o }∧(ZX P t x k v m2).ok∧(ZX P t x k v m2).v=(ZX P t x k v m).v∧(ZX P t x k v m2).m.o=(ZX P t x k v m).m.o:=by
 unfold ZX;rw[h];split
 ·split
  ·split
   ·exact fun hk=>⟨rfl,hk,rfl,rfl⟩
   ·exact fun hk=>⟨rfl,hk,rfl,rfl⟩
   ·exact fun hk=>hk.elim
  ·exact fun hk=>hk.elim
 ·exact fun hk=>hk.elim
theorem Ziw {o:Oper} {ρ:Operand→PV} {m:Hp} (hok:(aop P o ρ m).ok):Foot P o ρ m (aop P o ρ m).v (aop P o ρ m).m:=by
 have nm:Zcj (aop P o ρ)→fp o.op= {}→Foot P o ρ m (aop P o ρ m).v (aop P o ρ m).m:=fun h hf=>Foot.noMem h (by rw[hf]) (by rw[hf]) (by rw[hf]) (by rw[hf]) (by rw[hf]) (by rw[hf]) hok
 obtain⟨dst,op,ty,pos,af,guard⟩:=o;cases op with
 |move x=>exact nm (Zw) rfl
 |assign x=>exact nm (Zw) rfl
 |pick c x y=>exact nm (Zll) rfl
 |alloc t=>
  cases dst with
  |none=>exact hok.elim
  |some d=>
   cases hz:ZcK P t with
   |none=>simp only[aop,hz]at hok;exact hok.elim
   |some z=>exact Foot.newB (d:=d) (v:= .ptr d 0) (cs:=z) (ok:=True) rfl (fun m=>by simp only[aop,hz,and_true]) rfl hok
 |box t x=>
  cases dst with
  |none=>exact hok.elim
  |some d=>exact Foot.newB (d:=d) rfl (fun m=>rfl) rfl hok
 |build t parts=>exact nm (ZjC) rfl
 |buildSlice t len parts=>
  cases dst with
  |none=>exact hok.elim
  |some d=>
   cases he:Zcg P t with
   |none=>simp only[aop,ZaW,he]at hok;exact hok.elim
   |some ei=>exact Foot.newQ (d:=d) rfl (fun m=>by simp only[aop,ZaW,he];rfl) rfl hok
 |load t x=>exact ZtM rfl hok
 |store t x y=>exact ZrY rfl hok
 |nilCheck x=>exact nm (Zf9) rfl
 |binOp op t x y yt=>exact nm (ZnS) rfl
 |unOp op t x=>exact nm (ZqR) rfl
 |convert a b x=>exact ZtL rfl hok
 |makeFunc fn first caps=>
  cases fn with
  |func f=>exact Zmb rfl hok
  |_=>exact hok.elim
 |makeSlice t l c=>
  cases dst with
  |none=>exact hok.elim
  |some d=>
   by_cases hl:∃k,l= .const (.int k 0)
   ·obtain⟨k,rfl⟩:=hl;have hop:∀m,aop P ⟨some d,.makeSlice t (.const (.int k 0)) c,ty,pos,af,guard⟩ ρ m=Zb3 P d t (ρ c) m:=fun m=>rfl
    rw[hop]at hok;unfold Zb3 at hok;split at hok
    ·rename_i ei kc n h1 h2;exact Foot.newQ (d:=d) rfl (fun m=>by rw[hop];simp only[Zb3,h1,h2];rfl) rfl (by rw[hop];unfold Zb3;rw[h1,h2];exact hok)
    ·exact hok.elim
   ·have hop:∀m,aop P ⟨some d,.makeSlice t l c,ty,pos,af,guard⟩ ρ m=aMakeFull P d t (ρ l) (ρ c) m:=fun m=>by
     unfold aop;simp only;split
     ·rename_i k;exact absurd ⟨k,rfl⟩ hl
     ·rfl
    rw[hop]at hok;unfold aMakeFull at hok;split at hok
    ·rename_i ei kl n kc n' h1 h2 h3;split at hok
     ·rename_i z hz;exact Foot.newQ (d:=d) rfl (fun m=>by rw[hop];simp only[aMakeFull,h1,h2,h3,hz];rfl) rfl (by rw[hop];unfold aMakeFull;rw[h1,h2,h3];simp only[hz];exact hok)
     ·exact hok.elim
    ·exact hok.elim
 |slice t x lo hi mx=>
  refine nm (fun m m2 h=> ?_) rfl
  revert h
  unfold aop;simp only;split
  ·exact ZjF m m2
  ·exact Zx m m2
 |fieldAddr t x f=>exact nm (Zfq) rfl
 |field t x f=>exact nm (ZjD) rfl
 |indexAddr t x i=>exact nm (Zfr) rfl
 |index t x i=>exact nm (ZjE) rfl
 |extract x i=>exact nm (ZgZ) rfl
 |lookup t x k ok=>
  have hop:∀m,aop P ⟨dst,.lookup t x k ok,ty,pos,af,guard⟩ ρ m=ZbP P t (ρ x) (ρ k) ok m:=fun m=>rfl
  refine Zix (wo:=false) rfl (fun m h=> ?_) (fun m2 h1 h2 h=> ?_) hok
  ·rw[hop]at h ⊢;have:=(Zfp m m rfl h).1;exact⟨by rw[this],fun _=>by rw[this]⟩
  ·rw[hop]at h ⊢;rw[hop];obtain⟨a1,a2,a3,a4⟩:=Zfp _ m2 h1 h;exact⟨a2,a3,by rw[a4,a1];exact h1⟩
 |entry x=>
  have hop:∀m,aop P ⟨dst,.entry x,ty,pos,af,guard⟩ ρ m=Zdd (ρ x) m:=fun m=>rfl
  refine Zix (wo:=false) rfl (fun m h=> ?_) (fun m2 h1 h2 h=> ?_) hok
  ·rw[hop]at h ⊢;have:=(Zgf m m rfl rfl h).1;exact⟨by rw[this],fun _=>by rw[this]⟩
  ·rw[hop]at h ⊢;rw[hop];obtain⟨a1,a2,a3,a4⟩:=Zgf _ m2 h1 h2 h;exact⟨a2,a3,by rw[a4,a1];exact h1⟩
 |mapUpdate t x k v=>
  exact Zix (wo:=true) rfl (fun m h=>⟨(ZfE m m rfl h).1,fun h=>by cases h⟩) (fun m2 h1 h2 h=>(ZfE _ m2 h1 h).2) hok
 |call c=>
  obtain⟨callee,args,ts⟩:=c;cases callee with
  |builtin b=>
   by_cases hb:b= .append
   ·subst hb;exact Zpl rfl hok
   by_cases hb2:b= .len
   ·subst hb2;have hop:∀m,aop P ⟨dst,.call ⟨.builtin .len,args,ts⟩,ty,pos,af,guard⟩ ρ m=Z7 P .len ts.toList dst (args.toList.map ρ) m:=fun m=>rfl
    have key:∀m m2:Hp,m2.o=m.o→(Z7 P .len ts.toList dst (args.toList.map ρ) m).ok→(Z7 P .len ts.toList dst (args.toList.map ρ) m).m=m∧(Z7 P .len ts.toList dst (args.toList.map ρ) m2).ok∧(Z7 P .len ts.toList dst (args.toList.map ρ) m2).v=(Z7 P .len ts.toList dst (args.toList.map ρ) m).v∧(Z7 P .len ts.toList dst (args.toList.map ρ) m2).m=m2:=by
     intro m m2 h;unfold Z7;split
     ·split
      ·exact Zie m m2 h
      ·exact ZnU m m2
     all_goals first|contradiction|exact Zx m m2
    refine Zix (wo:=false) rfl (fun m h=> ?_) (fun m2 h1 h2 h=> ?_) hok
    ·rw[hop]at h ⊢;have:=(key m m rfl h).1;exact⟨by rw[this],fun _=>by rw[this]⟩
    ·rw[hop]at h ⊢;rw[hop];obtain⟨a1,a2,a3,a4⟩:=key m m2 h1 h;exact⟨a2,a3,by rw[a4,a1];exact h1⟩
   ·refine nm (fun m m2 h=> ?_) (by cases b<;>first|rfl|exact absurd rfl hb|exact absurd rfl hb2)
    revert h
    show(Z7 P b ts.toList dst (args.toList.map ρ) m).ok→(Z7 P b ts.toList dst (args.toList.map ρ) m).m=m∧(Z7 P b ts.toList dst (args.toList.map ρ) m2).ok∧(Z7 P b ts.toList dst (args.toList.map ρ) m2).v=(Z7 P b ts.toList dst (args.toList.map ρ) m).v∧(Z7 P b ts.toList dst (args.toList.map ρ) m2).m=m2;unfold Z7;split
    ·exact absurd rfl hb2
    ·exact absurd rfl hb
    ·exact ZnV m m2
    ·exact ZnW m m2
    ·exact ZnT m m2
    ·exact Zlm m m2
    ·exact Zlk m m2
    ·exact Zx m m2
  |_=>exact hok.elim
 |_=>exact hok.elim
theorem Zjk {o:Oper} {ρ:Operand→PV} {m m':Hp} {v:PV} (h:Zb1 P o ρ m v m'):Foot P o ρ m v m':=by
 rcases h with ⟨h1,rfl,rfl⟩|⟨c,g,args,ho,hc,hg,hp,rfl⟩
 ·exact Ziw h1
 ·exact ZtK ho hc hg hp
end
open Go.RowKit
def compat (a b:Op):Bool:=
 let x:=fp a
 let y:=fp b
 !(x.wh&&(y.rh||y.wh))&& !(y.wh&&(x.rh||x.wh))&& !(x.wz&&(y.rz||y.wz))&& !(y.wz&&(x.rz||x.wz))&& !(x.wq&&(y.rq||y.wq))&& !(y.wq&&(x.rq||x.wq))&& !(x.wo&&(y.ro||y.wo))&& !(y.wo&&(x.ro||x.wo))
section
variable {P:Program} {ops:Array Oper}
theorem Ztb {ρ ρ':Operand→PV} (o:Oper) (m:Hp) (h:∀x∈o.op.operands,ρ x=ρ' x):aop P o ρ m=aop P o ρ' m:=by
 obtain⟨dst,op,ty,pos,af,guard⟩:=o;have pairs:∀ps:Array (Nat×Operand),(∀x∈(ps.toList.map (·.2)).toArray,ρ x=ρ' x)→(ps.toList.map fun x=>(x.1,ρ x.2))=(ps.toList.map fun x=>(x.1,ρ' x.2)):=fun ps hp=>
  List.map_congr_left fun p hm=>by rw[hp p.2 (by simp only[List.mem_toArray,List.mem_map];exact⟨p,hm,rfl⟩)]
 cases op with
 |build t ps=>simp only[aop];rw[pairs ps h]
 |buildSlice t n ps=>simp only[aop];rw[pairs ps h]
 |makeFunc fn first caps=>
  have:caps.toList.map ρ=caps.toList.map ρ':=List.map_congr_left fun x hx=>h x (by simp[Op.operands];right;simpa using hx)
  cases fn<;>simp only[aop,this]
 |makeSlice t l c=>
  have h1:ρ l=ρ' l:=h l (by simp[Op.operands]);have h2:ρ c=ρ' c:=h c (by simp[Op.operands]);simp only[aop,h1,h2]
 |slice t x lo hi mx=>
  have h1:ρ x=ρ' x:=h x (by simp[Op.operands]);have h2:lo.map ρ=lo.map ρ':=by cases lo with|none=>rfl|some y=>simp[h y (by simp[Op.operands])]
  have h3:hi.map ρ=hi.map ρ':=by cases hi with|none=>rfl|some y=>simp[h y (by simp[Op.operands])]
  simp only[aop,h1,h2,h3]
 |call c=>
  obtain⟨callee,args,ts⟩:=c;cases callee with
  |builtin b=>
   have:args.toList.map ρ=args.toList.map ρ':=List.map_congr_left fun x hx=>h x (by simp[Op.operands,Call.operands];simpa using hx)
   simp only[aop,this]
  |_=>rfl
 |pick c x y=>
  simp only[aop,h c (by simp[Op.operands]),h x (by simp[Op.operands]),h y (by simp[Op.operands])]
 |alloc t=>rfl
 |move x=>simp only[aop,h x (by simp[Op.operands])]
 |assign x=>simp only[aop,h x (by simp[Op.operands])]
 |box t x=>simp only[aop,h x (by simp[Op.operands])]
 |load t x=>simp only[aop,h x (by simp[Op.operands])]
 |store t x y=>simp only[aop,h x (by simp[Op.operands]),h y (by simp[Op.operands])]
 |nilCheck x=>simp only[aop,h x (by simp[Op.operands])]
 |binOp op t x y yt=>simp only[aop,h x (by simp[Op.operands]),h y (by simp[Op.operands])]
 |unOp op t x=>simp only[aop,h x (by simp[Op.operands])]
 |convert a b x=>simp only[aop,h x (by simp[Op.operands])]
 |fieldAddr t x f=>simp only[aop,h x (by simp[Op.operands])]
 |field t x f=>simp only[aop,h x (by simp[Op.operands])]
 |indexAddr t x i=>simp only[aop,h x (by simp[Op.operands]),h i (by simp[Op.operands])]
 |index t x i=>simp only[aop,h x (by simp[Op.operands]),h i (by simp[Op.operands])]
 |extract x i=>simp only[aop,h x (by simp[Op.operands])]
 |lookup t x k ok=>simp only[aop,h x (by simp[Op.operands]),h k (by simp[Op.operands])]
 |mapUpdate t x k v=>simp only[aop,h x (by simp[Op.operands]),h k (by simp[Op.operands]),h v (by simp[Op.operands])]
 |entry x=>simp only[aop,h x (by simp[Op.operands])]
 |_=>rfl
theorem Zbr {ρ ρ':Operand→PV} {o:Oper} {m m':Hp} {v:PV} (h:∀x∈o.op.operands,ρ x=ρ' x) (hs:Zb1 P o ρ m v m'):Zb1 P o ρ' m v m':=by
 rcases hs with ⟨h1,h2,h3⟩|⟨c,g,args,ho,hc,hg,hp,rfl⟩
 ·rw[Ztb o m h]at h1 h2 h3;exact .inl ⟨h1,h2,h3⟩
 ·refine .inr ⟨c,g,args,ho,?_,hg,hp,rfl⟩;rw[←hc];rw[ho]at h;unfold Zao;cases hcal:c.callee with
  |value f=>
   have e1:ρ f=ρ' f:=h f (by simp[Op.operands,Call.operands,hcal]);have e2:c.args.toList.map ρ'=c.args.toList.map ρ:=List.map_congr_left fun x hx=>(h x (by simp[Op.operands,Call.operands];right;simpa using hx)).symm
   simp only[e1,e2]
  |_=>rfl
def Zdc (P:Program) (ops:Array Oper) (o:Oper) (s s':St):Prop:=
 Zi9 s.n o.dst∧((gd ops s o=some true∧ ∃v m',Zb1 P o s.eval s.m v m'∧s'=(s.with m').put o.dst v)∨(gd ops s o=some false∧s'=s.put o.dst (.tup [])))
theorem ZjL (s:St) (d:Option Nat) (v:PV):(s.put d v).n=s.n:=by cases d<;>rfl
theorem Zg1 (s:St) (d:Option Nat) (v:PV):(s.put d v).m=s.m:=by cases d<;>rfl
theorem ZdN (s:St) (d:Option Nat) (v:PV) (m:Hp):(s.put d v).with m=(s.with m).put d v:=by cases d<;>rfl
theorem Zn9 {s:St} {d:Option Nat} {v:PV} {i:Nat} (h:d≠some i):(s.put d v).fr i=s.fr i:=by
 cases d with
 |none=>rfl
 |some d=>exact Zm _ _ (fun e=>h (by rw[e]))
theorem ZdM {s:St} {d:Option Nat} {v:PV} {x:Operand} (h:∀t,d=some t→x≠ .tmp t):(s.put d v).eval x=s.eval x:=by
 cases x with
 |tmp t=>exact Zn9 (fun e=>h t e rfl)
 |_=>rfl
theorem Zhi (s:St) (m:Hp):(s.with m).eval=s.eval:=by
 funext x;cases x<;>rfl
theorem ZdL (s:St) {x y:Option Nat} (u v:PV) (h:∀d,x=some d→y≠some d):(s.put x u).put y v=(s.put y v).put x u:=by
 cases x with
 |none=>rfl
 |some d=>
  cases y with
  |none=>rfl
  |some e=>
   have hne:d≠e:=fun he=>h d rfl (he▸rfl)
   simp only[St.put];congr 1;funext i;simp only[upd]
   by_cases h1:e=i
   ·by_cases h2:d=i
    ·exact absurd (h2.trans h1.symm) hne
    ·simp[h1,h2]
   ·simp[h1]
theorem Ze1 {s:St} {o:Oper} {d:Option Nat} {v:PV} {m:Hp} (h:∀t,d=some t→t∉o.looksAt ops):gd ops ((s.with m).put d v) o=gd ops s o:=by
 unfold gd;cases hg:o.guard with
 |none=>rfl
 |some jw=>
  obtain⟨j,want⟩:=jw;simp only;cases hd:(ops[j]?).bind (·.dst)with
  |none=>rfl
  |some t=>
   simp only[ZjL];have:d≠some t:=fun e=>h t e (by unfold Oper.looksAt;rw[hg];simp[hd])
   rw[Zn9 this];rfl
theorem ZcC {o:Oper} {d:Option Nat} (h:∀t,d=some t→t∉o.looksAt ops):∀x∈o.op.operands,∀t,d=some t→x≠ .tmp t:=fun x hx t ht e=>by
 refine h t ht ?_;subst e;unfold Oper.looksAt;exact List.mem_append_left _ (List.mem_filterMap.2 ⟨.tmp t,by simpa using hx,rfl⟩)
theorem Zod {s:St} (hr:Refs s) (o:Oper):∀r∈Zay o s.eval,ZS s.m r:=fun r h=>by
 unfold Zay at h;obtain⟨x,_,hx⟩:=List.mem_flatMap.1 h;cases x with
 |tmp t=>exact hr.fr t r hx
 |const v=>simp[St.eval,Zdn]at hx
 |func f=>simp[St.eval,PV.ids,PV.idsL]at hx
 |_=>simp[St.eval,PV.ids]at hx
theorem ZzC {a b:Hp} (h1:∀i,a.hv i=b.hv i) (h2:∀i,a.z i=b.z i) (h3:∀i,a.q i=b.q i) (h4:a.o=b.o) (h5:a.io=b.io):a=b:=by
 cases a;cases b;simp only[Hp.mk.injEq];exact⟨funext fun i=>h1 (.b i),funext h2,funext h3,h4,congrArg (fun x=>x.1) h5,congrArg (fun x=>x.2.1) h5,funext fun i=>h1 (.r i),congrArg (fun x=>x.2.2.1) h5,congrArg (fun x=>x.2.2.2.1) h5,congrArg (fun x=>x.2.2.2.2) h5⟩
theorem ZlN {s s1 s2:St} {oi oj:Oper} (hr:Refs s) (hap:oi.apart ops oj=true) (hcp:compat oi.op oj.op=true) (h1:Zdc P ops oi s s1) (h2:Zdc P ops oj s1 s2):
  ∃s1',Zdc P ops oj s s1'∧Zdc P ops oi s1' s2:=by
 obtain⟨a1,a2,a3⟩:=Oper.apart_spec hap;obtain⟨d1,h1⟩:=h1;obtain⟨d2,h2⟩:=h2;have n1:s1.n=s.n:=by rcases h1 with ⟨_,v,m',_,rfl⟩|⟨_,rfl⟩<;>simp[ZjL,St.with]
 rw[n1]at d2;have ej:∀x∈oj.op.operands,s1.eval x=s.eval x:=fun x hx=>by
  rcases h1 with ⟨_,v,m',_,rfl⟩|⟨_,rfl⟩
  ·rw[ZdM (ZcC a1 x hx),Zhi]
  ·rw[ZdM (ZcC a1 x hx)]
 have gj:gd ops s1 oj=gd ops s oj:=by
  rcases h1 with ⟨_,v,m',_,rfl⟩|⟨_,rfl⟩
  ·exact Ze1 a1
  ·exact Ze1 (m:=s.m) a1
 have a2':∀d,oj.dst=some d→oi.dst≠some d:=fun d hd e=>a2 d e hd
 rcases h1 with ⟨g1,vi,mi,st1,rfl⟩|⟨g1,rfl⟩
 ·rcases h2 with ⟨g2,vj,mj,st2,rfl⟩|⟨g2,rfl⟩
  · -- both are carried out
   rw[Zg1]at st2;have st2':Zb1 P oj s.eval mi vj mj:=Zbr ej st2;have F1:=Zjk st1;have F2:=Zjk st2';have Li:=Zod hr oi;have Lj:=Zod hr oj;simp only[compat,Bool.and_eq_true,Bool.not_eq_true',Bool.and_eq_false_imp,Bool.or_eq_false_iff]at hcp;obtain⟨⟨⟨⟨⟨⟨⟨c1,c2⟩,c3⟩,c4⟩,c5⟩,c6⟩,c7⟩,c8⟩:=hcp;have dne:∀i,oi.dst=some i→oj.dst=some i→False:=fun i h h'=>a2 i h h'
   -- what the second one makes anew was not there before the first one
   have nbj:(fp oj.op).nb=true→ ∀i,oj.dst=some i→s.m.h i=none:=fun hb i hi=>by
    have h0:=F2.hn hb i hi;refine Decidable.byContradiction fun hne=> ?_
    exact F1.hl i hne h0
   have nqj:(fp oj.op).nq=true→ ∀i,oj.dst=some i→s.m.q i=none:=fun hb i hi=>by
    have h0:=F2.qn hb i hi;refine Decidable.byContradiction fun hne=> ?_
    exact F1.ql i hne h0
   obtain⟨ma,sta,ah,az,aq,ao,ai⟩:=F2.re s.m
    (fun hrh i hi=>by
     refine(F1.h1 i ?_).symm
     rintro (⟨w,_⟩|⟨nb,d,hd,rfl⟩)
     ·have:=(c1 w).1;rw[hrh]at this;cases this
     ·exact Lj _ hi (F1.hn nb d hd))
    (fun hrz i hi=>by
     refine(F1.z1 i ?_).symm
     rintro (⟨w,_⟩|⟨nb,hd⟩)
     ·have:=(c3 w).1;rw[hrz]at this;cases this
     ·exact Lj _ hi (F1.hn nb i hd))
    (fun hrq i hi=>by
     refine(F1.q1 i ?_).symm
     rintro (⟨w,_⟩|⟨nq,hd⟩)
     ·have:=(c5 w).1;rw[hrq]at this;cases this
     ·rcases hi with hi|hi
      ·exact Lj _ hi (F1.qn nq i hd)
      ·exact dne i hd hi)
    nbj nqj
    (fun hro=>by
     refine(F1.o1 ?_).symm;cases hw:(fp oi.op).wo with
     |false=>rfl
     |true=>have:=(c7 hw).1;rw[hro]at this;cases this) F1.i1.symm
   obtain⟨mb,stb,bh,bz,bq,bo,bi⟩:=F1.re ma
    (fun hrh i hi=>by
     refine(ah i).2 ?_
     rintro (⟨w,_⟩|⟨nb,d,hd,rfl⟩)
     ·have:=(c2 w).1;rw[hrh]at this;cases this
     ·exact Li _ hi (nbj nb d hd))
    (fun hrz i hi=>by
     refine(az i).2 ?_
     rintro (⟨w,_⟩|⟨nb,hd⟩)
     ·have:=(c4 w).1;rw[hrz]at this;cases this
     ·exact Li _ hi (nbj nb i hd))
    (fun hrq i hi=>by
     refine(aq i).2 ?_
     rintro (⟨w,_⟩|⟨nq,hd⟩)
     ·have:=(c6 w).1;rw[hrq]at this;cases this
     ·rcases hi with hi|hi
      ·exact Li _ hi (nqj nq i hd)
      ·exact dne i hi hd)
    (fun nb i hd=>by
     refine((ah (.b i)).2 ?_).trans (F1.hn nb i hd)
     rintro (⟨_,hi⟩|⟨_,d,hd',e⟩)
     ·exact Lj _ hi (F1.hn nb i hd)
     ·cases e;exact dne i hd hd')
    (fun nq i hd=>by
     refine((aq i).2 ?_).trans (F1.qn nq i hd)
     rintro (⟨w,hi⟩|⟨_,hd'⟩)
     ·rcases hi with hi|hi
      ·exact Lj _ hi (F1.qn nq i hd)
      ·exact dne i hd hi
     ·exact dne i hd hd')
    (fun hro=>by
     refine ao.2 ?_;cases hw:(fp oj.op).wo with
     |false=>rfl
     |true=>have:=(c8 hw).1;rw[hro]at this;cases this) ai
   have em:mb=mj:=by
    refine ZzC (fun i=> ?_) (fun i=> ?_) (fun i=> ?_) ?_ (by rw[bi,ai,F2.i1,F1.i1])
    ·by_cases wi:Wh oi s.eval i
     ·rw[(bh i).1 wi];refine(F2.h1 i ?_).symm
      rintro (⟨w,hi⟩|⟨nb,d,hd,e⟩)
      ·rcases wi with ⟨w',_⟩|⟨nb',d',hd',e'⟩
       ·have:=(c1 w').2;rw[w]at this;cases this
       ·subst e';exact Lj _ hi (F1.hn nb' d' hd')
      ·subst e;rcases wi with ⟨_,hi'⟩|⟨_,d',hd',e'⟩
       ·exact Li _ hi' (nbj nb d hd)
       ·cases e';exact dne d hd' hd
     ·rw[(bh i).2 wi]
      by_cases wj:Wh oj s.eval i
      ·exact(ah i).1 wj
      ·rw[(ah i).2 wj,F2.h1 i wj,F1.h1 i wi]
    ·by_cases wi:Wz oi s.eval i
     ·rw[(bz i).1 wi];refine(F2.z1 i ?_).symm
      rintro (⟨w,hi⟩|⟨nb,hd⟩)
      ·rcases wi with ⟨w',_⟩|⟨nb',hd'⟩
       ·have:=(c3 w').2;rw[w]at this;cases this
       ·exact Lj _ hi (F1.hn nb' i hd')
      ·rcases wi with ⟨_,hi'⟩|⟨_,hd'⟩
       ·exact Li _ hi' (nbj nb i hd)
       ·exact dne i hd' hd
     ·rw[(bz i).2 wi]
      by_cases wj:Wz oj s.eval i
      ·exact(az i).1 wj
      ·rw[(az i).2 wj,F2.z1 i wj,F1.z1 i wi]
    ·by_cases wi:Wq oi s.eval i
     ·rw[(bq i).1 wi];refine(F2.q1 i ?_).symm
      rintro (⟨w,hi⟩|⟨nq,hd⟩)
      ·rcases wi with ⟨w',_⟩|⟨nq',hd'⟩
       ·have:=(c5 w').2;rw[w]at this;cases this
       ·rcases hi with hi|hi
        ·exact Lj _ hi (F1.qn nq' i hd')
        ·exact dne i hd' hi
      ·rcases wi with ⟨_,hi'⟩|⟨_,hd'⟩
       ·rcases hi' with hi'|hi'
        ·exact Li _ hi' (nqj nq i hd)
        ·exact dne i hi' hd
       ·exact dne i hd' hd
     ·rw[(bq i).2 wi]
      by_cases wj:Wq oj s.eval i
      ·exact(aq i).1 wj
      ·rw[(aq i).2 wj,F2.q1 i wj,F1.q1 i wi]
    ·cases hwi:(fp oi.op).wo with
     |true=>
      rw[bo.1 hwi];refine(F2.o1 ?_).symm;cases hwj:(fp oj.op).wo with
      |false=>rfl
      |true=>have:=(c7 hwi).2;rw[hwj]at this;cases this
     |false=>
      rw[bo.2 hwi];cases hwj:(fp oj.op).wo with
      |true=>exact ao.1 hwj
      |false=>rw[ao.2 hwj,F2.o1 hwj,F1.o1 hwi]
   subst em;refine⟨(s.with ma).put oj.dst vj,⟨d2,.inl ⟨by rw[←gj];exact g2,vj,ma,sta,rfl⟩⟩,by rw[ZjL];exact d1,.inl ⟨by rw[Ze1 a3];exact g1,vi,mb,?_,?_⟩⟩
   ·rw[Zg1];refine Zbr (fun x hx=> ?_) stb;rw[ZdM (ZcC a3 x hx),Zhi]
   ·rw[ZdN,ZdN,ZdL _ _ _ a2];rfl
  ·refine⟨s.put oj.dst (.tup []),⟨d2,.inr ⟨by rw[←gj];exact g2,rfl⟩⟩,by rw[ZjL];exact d1,.inl ⟨by rw[show s.put oj.dst (.tup [])=(s.with s.m).put oj.dst (.tup [])from rfl,Ze1 a3];exact g1,vi,mi,?_,?_⟩⟩
   ·rw[Zg1];exact Zbr (fun x hx=>by rw[ZdM (ZcC a3 x hx)]) st1
   ·rw[ZdN,ZdL _ _ _ a2]
 ·rcases h2 with ⟨g2,vj,mj,st2,rfl⟩|⟨g2,rfl⟩
  ·rw[Zg1]at st2;refine⟨(s.with mj).put oj.dst vj,⟨d2,.inl ⟨by rw[←gj];exact g2,vj,mj,Zbr ej st2,rfl⟩⟩,by rw[ZjL];exact d1,.inr ⟨by rw[Ze1 a3];exact g1,?_⟩⟩;rw[ZdN,ZdL _ _ _ a2]
  ·refine⟨s.put oj.dst (.tup []),⟨d2,.inr ⟨by rw[←gj];exact g2,rfl⟩⟩,by rw[ZjL];exact d1,.inr ⟨by rw[show s.put oj.dst (.tup [])=(s.with s.m).put oj.dst (.tup [])from rfl,Ze1 a3];exact g1,?_⟩⟩;rw[ZdL _ _ _ a2]
end
open Go.RowKit
section
variable {P:Program} {ops:Array Oper}
theorem PV.mem_didsL {id:Ref}:∀ {cs:List PV},id∈PV.didsL cs↔ ∃c∈cs,id∈c.dids
 | []=>by simp[PV.didsL]
 |c::cs=>by simp[PV.didsL,PV.mem_didsL (cs:=cs)]
theorem Zi7 {l l':List PV} (h:∀c∈l,c∈l') {i:Ref} (hi:i∈PV.didsL l):i∈PV.didsL l':=by
 obtain⟨c,hc,hr⟩:=PV.mem_didsL.1 hi;exact PV.mem_didsL.2 ⟨c,h c hc,hr⟩
mutual
theorem ZeJ:∀(p:PV) {r:Ref},r∈p.ids→r∈p.dids
 | .ptr _ _,r,h=>h
 | .osl _ _ _ _,r,h=>h
 | .sl t es,r,h=>by cases t<;>simp[PV.ids]at h;subst h;simp[PV.dids]
 | .agg cs,r,h=>by simp only[PV.ids,PV.dids]at *;exact ZfS cs h
 | .tup cs,r,h=>by simp only[PV.ids,PV.dids]at *;exact ZfS cs h
 | .fn _ cs,r,h=>by simp only[PV.ids,PV.dids]at *;exact ZfS cs h
 | .any,r,h=>by simp[PV.ids]at h
 | .int _ _,r,h=>by simp[PV.ids]at h
 | .bool _,r,h=>by simp[PV.ids]at h
 | .str _,r,h=>by simp[PV.ids]at h
 | .flt _ _,r,h=>by simp[PV.ids]at h
 | .cpx _ _ _,r,h=>by simp[PV.ids]at h
 | .rptr _,r,h=>by simp[PV.ids]at h
 | .nilp,r,h=>by simp[PV.ids]at h
 | .nilfn,r,h=>by simp[PV.ids]at h
 | .nilmap,r,h=>by simp[PV.ids]at h
 | .mref _,r,h=>by simp[PV.ids]at h
 | .rmap _ _,r,h=>by simp[PV.ids]at h
 | .vsl _ _ _,r,h=>h
 | .vptr _ _ _ _ _,r,h=>h
 | .iptr _,r,h=>by simp[PV.ids]at h
theorem ZfS:∀(cs:List PV) {r:Ref},r∈PV.idsL cs→r∈PV.didsL cs
 | [],r,h=>by simp[PV.idsL]at h
 |c::cs,r,h=>by
  simp only[PV.idsL,PV.didsL,List.mem_append]at *;exact h.imp (ZeJ c) (ZfS cs)
end
theorem Zi8 (v:Value):(Zfs v).dids= []:=by unfold Zfs;split<;>rfl
theorem Zno (l:List Value):PV.didsL (l.map Zfs)= []:=by
 induction l with
 |nil=>rfl
 |cons a l ih=>simp[PV.didsL,Zi8,ih]
theorem Zea (v:Value):(ZbI v).dids= []:=by
 unfold ZbI;split
 ·simp[PV.dids,Zno]
 ·split<;>rfl
 ·exact Zi8 _
theorem ZjU {t:Tok} {es:List PV} {r:Ref} (h:r∈PV.didsL es):r∈(PV.sl t es).dids:=by
 cases t<;>simp[PV.dids,h]
theorem Zd9 {p c:PV} (hc:c∈p.cells) {k:Ref} (hk:k∈c.dids):k∈p.dids:=by
 cases p with
 |agg cs=>simp only[PV.cells]at hc;simp only[PV.dids];exact PV.mem_didsL.2 ⟨c,hc,hk⟩
 |_=>simp only[PV.cells,List.mem_singleton]at hc;subst hc;exact hk
theorem Zb8 {cs:List PV} {o:Nat} {r:Ref} (h:r∈(cs.getD o .any).dids):r∈PV.didsL cs:=by
 rw[List.getD_eq_getElem?_getD]at h;cases hg:cs[o]? with
 |none=>rw[hg]at h;simp[PV.dids]at h
 |some c=>rw[hg]at h;exact PV.mem_didsL.2 ⟨c,List.mem_of_getElem? hg,h⟩
theorem Zeh {ag:Bool} {sz:Nat} {cs:List PV} {o:Nat} {r:Ref} (h:r∈(ZcE ag sz cs o).dids):r∈PV.didsL cs:=by
 unfold ZcE at h;split at h
 ·simp only[PV.dids]at h;exact Zi7 (fun c hc=>List.mem_of_mem_drop (List.mem_of_mem_take hc)) h
 ·exact Zb8 h
theorem ZlA {cs ns:List PV} {o:Nat} {r:Ref} (h:r∈PV.didsL (ZaK cs o ns)):r∈PV.didsL cs∨r∈PV.didsL ns:=by
 obtain⟨c,hc,hr⟩:=PV.mem_didsL.1 h;unfold ZaK at hc;rw[List.mem_append,List.mem_append]at hc;rcases hc with (hc|hc)|hc
 ·exact .inl (PV.mem_didsL.2 ⟨c,List.mem_of_mem_take hc,hr⟩)
 ·exact .inr (PV.mem_didsL.2 ⟨c,hc,hr⟩)
 ·exact .inl (PV.mem_didsL.2 ⟨c,List.mem_of_mem_drop hc,hr⟩)
theorem Zc1 {p:PV} {r:Ref} (h:r∈PV.didsL p.cells):r∈p.dids:=by
 obtain⟨c,hc,hr⟩:=PV.mem_didsL.1 h;exact Zd9 hc hr
theorem Zqz {place:Nat→Option (Nat×Nat)}:∀(l:List (Nat×PV)) (cs cs':List PV),Zfd place cs l=some cs'→ ∀r∈PV.didsL cs',r∈PV.didsL cs∨ ∃x∈l,r∈x.2.dids
 | [],cs,cs',h,r,hr=>by
  simp only[Zfd,Option.some.injEq]at h;subst h;exact .inl hr
 |(i,p)::rest,cs,cs',h,r,hr=>by
  simp only[Zfd]at h;split at h
  ·cases h
  ·split at h
   ·rcases Zqz rest _ _ h r hr with h1|⟨x,hx,h1⟩
    ·rcases ZlA h1 with h2|h2
     ·exact .inl h2
     ·exact .inr ⟨(i,p),by simp,Zc1 h2⟩
    ·exact .inr ⟨x,by simp[hx],h1⟩
   ·cases h
theorem Zxg {t:TypeId} {z:List PV} (h:ZcK P t=some z):PV.didsL z= []:=by
 unfold ZcK aMakeFull.tbdz at h;split at h
 ·split at h
  ·split at h
   ·simp only[Option.some.injEq]at h;subst h;rw[List.eq_nil_iff_forall_not_mem];intro r hr;have:=Zc1 hr;rw[Zea]at this;cases this
   ·cases h
  ·cases h
 ·cases h
theorem ZAO {t:TypeId} {z:PV} (h:aMakeFull.tz P t=some z):z.dids= []:=by
 unfold aMakeFull.tz at h;split at h
 ·split at h
  ·split at h
   ·simp only[Option.some.injEq]at h;subst h;exact Zea _
   ·cases h
  ·cases h
 ·cases h
theorem Zft (v:Value):PV.didsL (ZbI v).cells= []:=by
 rw[List.eq_nil_iff_forall_not_mem];intro r hr;have:=Zc1 hr;rw[Zea]at this;cases this
def Zl5 (o:Oper) (ρ:Operand→PV):List Ref:=o.op.operands.toList.flatMap fun x=>(ρ x).dids
theorem Zaf {o:Oper} {ρ:Operand→PV} {x:Operand} {r:Ref} (hx:x∈o.op.operands.toList) (h:r∈(ρ x).dids):r∈Zl5 o ρ:=List.mem_flatMap.2 ⟨x,hx,h⟩
theorem Zb6 {r:Ref}:r∉(ARes.fail).v.dids:=by simp[ARes.fail,PV.dids]
theorem ZyU {t:TypeId} {x:PV} {f:Nat} {m:Hp}:∀r∈(ZgA P t x f m).v.dids,r∈x.dids:=by
 intro r;unfold ZgA;split
 ·exact fun h=>by simpa[PV.dids]using Zeh h
 ·exact fun h=>absurd h Zb6
theorem Zqv {cs:List PV} {n:Nat} {r:Ref} (h:r∈PV.didsL (cs.drop n)):r∈PV.didsL cs:=Zi7 (fun c hc=>List.mem_of_mem_drop hc) h
theorem Zj6 {t:TypeId} {x:PV} {f:Nat} {m:Hp}:∀r∈(Zba P t x f m).v.dids,r∈x.dids:=by
 intro r;unfold Zba;split
 ·exact fun h=>h
 ·exact fun h=>by simp only[PV.dids]at *;exact Zqv h
 ·exact fun h=>h
 ·exact fun h=>absurd h Zb6
theorem ZyV {t:TypeId} {x i:PV} {m:Hp}:∀r∈(ZgB P t x i m).v.dids,r∈x.dids:=by
 intro r;unfold ZgB;split
 ·exact fun h=>by simpa[PV.dids]using Zeh h
 ·exact fun h=>by simp[PV.dids]at h
 ·exact fun h=>absurd h Zb6
theorem Zj7 {t:TypeId} {x i:PV} {m:Hp}:∀r∈(Zbb P t x i m).v.dids,r∈x.dids:=by
 intro r;unfold Zbb;split
 ·exact fun h=>by simp only[PV.dids]at h;exact ZjU (Zb8 (Zc1 h))
 ·exact fun h=>h
 ·exact fun h=>h
 ·exact fun h=>by simp only[PV.dids]at *;exact Zqv h
 ·exact fun h=>h
 ·exact fun h=>h
 ·exact fun h=>absurd h Zb6
theorem v_none {a:ARes} (h:a.v.dids= []) {r:Ref}:r∉a.v.dids:=by rw[h];simp
theorem ZCI {op:BinOp} {k k':IntKind} {x y:Int} {m:Hp}:(Zvw op k k' x y m).v.dids= []:=by
 unfold Zvw;split<;>rfl
theorem ZCM {op:BinOp} {x y:List UInt8} {m:Hp}:(ZvB op x y m).v.dids= []:=by
 unfold ZvB;split<;>rfl
theorem ZCH {op:BinOp} {k k':FloatKind} {x y:Nat} {m:Hp}:(Zvv op k k' x y m).v.dids= []:=by
 unfold Zvv;split<;>rfl
theorem ZD9 {b:Bool} {r:Option Bool} {m:Hp}:(aEq b r m).v.dids= []:=by
 unfold aEq;split<;>rfl
theorem ZCG {b:Bool} {t:TypeId} {x y:PV} {m:Hp}:(Zvn P b t x y m).v.dids= []:=by
 unfold Zvn;repeat' split
 all_goals first|rfl|exact ZD9
theorem ZCE {op:BinOp} {t:TypeId} {x y:PV} {m:Hp}:(Zvt P op t x y m).v.dids= []:=by
 unfold Zvt;repeat' split
 all_goals first|rfl|exact ZCI|exact ZCM|exact ZCH|exact ZCG
theorem ZEa {op:UnOp} {x:PV} {m:Hp}:(aUn op x m).v.dids= []:=by
 unfold aUn;split<;>rfl
theorem ZAZ {a b:TypeId} {x:PV} {m:Hp}:(Ze4 P a b x m).v.dids= []:=by
 unfold Ze4;split<;>first|rfl|(split<;>first|rfl|(split<;>rfl))
theorem ZCJ {t:TypeId} {x:PV} {m:Hp}:(Zvx P t x m).v.dids= []:=by
 unfold Zvx;split<;>rfl
theorem ZCK {x y:PV} {m:Hp}:(Zvy x y m).v.dids= []:=by
 unfold Zvy;split<;>rfl
theorem ZCL {x y:PV} {m:Hp}:(Zvz x y m).v.dids= []:=by
 unfold Zvz;split<;>rfl
theorem ZCF {x y:PV} {m:Hp}:(Zvu x y m).v.dids= []:=by
 unfold Zvu;split<;>rfl
theorem ZA3 {x:PV} {m:Hp}:(ZlV x m).v.dids= []:=by
 unfold ZlV;split<;>rfl
theorem ZA0 {x:PV} {m:Hp}:(ZlU x m).v.dids= []:=by
 unfold ZlU;split<;>rfl
theorem Zu7 {x:PV} {i:Nat} {m:Hp}:∀r∈(ZcX x i m).v.dids,r∈x.dids:=by
 intro r;unfold ZcX;split
 ·exact fun h=>by simpa[PV.dids]using Zb8 h
 ·exact fun h=>absurd h Zb6
theorem ZsO {x:PV} {m:Hp}:∀r∈(Zde x m).v.dids,r∈x.dids:=by
 intro r;unfold Zde;split<;>first|exact fun h=>h|exact fun h=>absurd h Zb6
theorem ZA2 {c x y:PV} {m:Hp}:∀r∈(Zkc c x y m).v.dids,r∈x.dids∨r∈y.dids:=by
 intro r;unfold Zkc;split<;>first|exact fun h=> .inl h|exact fun h=> .inr h|exact fun h=>absurd h Zb6
theorem ZyT {t:TypeId} {l:List (Nat×PV)} {m:Hp}:∀r∈(Zgz P t l m).v.dids,∃x∈l,r∈x.2.dids:=by
 intro r;have key:∀ {z:List PV} {pl cs},PV.didsL z= []→Zfd pl z l=some cs→r∈PV.didsL cs→ ∃x∈l,r∈x.2.dids:=fun hz hf hr=>by
  rcases Zqz _ _ _ hf r hr with h|h
  ·rw[hz]at h;cases h
  ·exact h
 have tz:∀fs z,tbd P t= .str fs z→PV.didsL z= []:=fun fs z h=>by
  unfold tbd at h;repeat' split at h
  all_goals first|(cases h;exact Zft _)|cases h
 have tz2:∀n z,tbd P t= .arr n z→PV.didsL z= []:=fun fs z h=>by
  unfold tbd at h;repeat' split at h
  all_goals first|(cases h;exact Zft _)|cases h
 unfold Zgz;split
 ·rename_i fs z hz;split
  ·rename_i cs hf;exact fun h=>key (tz _ _ hz) hf (by simpa[PV.dids]using h)
  ·exact fun h=>absurd h Zb6
 ·rename_i fs z hz;split
  ·rename_i cs hf;exact fun h=>key (tz2 _ _ hz) hf (by simpa[PV.dids]using h)
  ·exact fun h=>absurd h Zb6
 ·exact fun h=>absurd h Zb6
theorem ZyW {t:TypeId} {x:PV} {lo hi:Option PV} {m:Hp}:∀r∈(ZgC P t x lo hi m).v.dids,r∈x.dids:=by
 intro r;unfold ZgC;repeat' split
 all_goals first|exact fun h=>h|exact fun h=>absurd h Zb6|(exact fun h=>ZjU (Zi7 (fun c hc=>List.mem_of_mem_drop (List.mem_of_mem_take hc)) h))|exact fun h=>by simp[PV.dids]at h
end
open Go.RowKit
section
variable {P:Program} {ops:Array Oper}
structure RefsD (s:St):Prop where
 fr:∀i r,r∈(s.fr i).dids→ZS s.m r
 h:∀i cs,s.m.h i=some cs→ ∀c∈cs,∀r∈c.dids,ZS s.m r
 o:∀b c,s.m.o b=some c→ ∀r,(r∈PV.didsL c.ks∨r∈PV.didsL c.vs)→ZS s.m r
 it:∀b x c,s.m.it b=some x→x.c=some c→ ∀r,¬(r∈PV.didsL c.ks∨r∈PV.didsL c.vs)
 v:∀i es,s.m.v i=some es→ ∀r∈PV.didsL es,ZS s.m r
 om:∀b c,s.m.om b=some c→ ∀r∈PV.didsL c.vs,ZS s.m r
theorem RefsD.refs {s:St} (h:RefsD s):Refs s:=⟨fun i r hr=>h.fr i r (ZeJ _ hr),fun i cs hi c hc r hr=>h.h i cs hi c hc r (ZeJ _ hr),fun i es hi p hp r hr=>h.v i es hi r (PV.mem_didsL.2 ⟨p,hp,ZeJ _ hr⟩),fun b c hb p hp r hr=>h.om b c hb r (PV.mem_didsL.2 ⟨p,hp,ZeJ _ hr⟩)⟩
theorem Rep.clean_dids {S:Stable} {v:Value} {p:PV} (r:Rep S v p):∀k,k∉p.dids:=by
 have go:∀(cs:List PV),(∀i,i<cs.length→ ∀k,k∉(cs.getD i .any).dids)→ ∀k,k∉PV.didsL cs:=fun cs h k hk=>by
  obtain⟨c,hc,hkc⟩:=PV.mem_didsL.1 hk;obtain⟨j,hj,rfl⟩:=List.getElem_of_mem hc;have:=h j hj k;rw[getD_lt hj]at this;exact this hkc
 induction r with
 |agg vs cs hl _ ih=>intro k hk;exact go cs ih k (by simpa[PV.dids]using hk)
 |tup vs cs hl _ ih=>intro k hk;exact go cs ih k (by simpa[PV.dids]using hk)
 |fn f vs cs hl _ ih=>intro k hk;exact go cs ih k (by simpa[PV.dids]using hk)
 |rptr b o cs vals hS _ ih=>intro k hk;exact go cs ih k (by simpa[PV.dids]using hk)
 |rmap b es ks vs h1 h2 h3 h4 h5 h6 ihK ihV=>
  intro k hk;simp only[PV.dids,List.mem_append]at hk;rcases hk with hk|hk
  ·exact go ks ihK k hk
  ·exact go vs (fun i hi=>ihV i (by omega)) k hk
 |sl b o cap sz es vals hsz hcap hS _ ih=>
  intro k hk;refine go es (fun i hi k hk=> ?_) k (by simpa[PV.dids]using hk);have hc:=go (es.getD i .any).cells (fun j hj=>ih i j hi (by rw[hsz i hi]at hj;exact hj)) k;refine hc ?_;cases hp:es.getD i .any with
  |agg cs=>rw[hp]at hk;simpa[PV.cells,PV.dids]using hk
  |_=>rw[hp]at hk;simpa[PV.cells,PV.didsL]using hk
 |_=>intro k hk;simp[PV.dids,PV.didsL]at hk
theorem RepS.dids_ids {S:Stable} {M:Maps} {q:Rows} {v:Value} {p:PV} (r:RepS S M q v p):∀k∈p.dids,k∈p.ids:=by
 have go:∀(cs:List PV),(∀i,i<cs.length→ ∀k∈(cs.getD i .any).dids,k∈(cs.getD i .any).ids)→ ∀k∈PV.didsL cs,k∈PV.idsL cs:=fun cs h k hk=>by
  obtain⟨c,hc,hkc⟩:=PV.mem_didsL.1 hk;obtain⟨j,hj,rfl⟩:=List.getElem_of_mem hc;have:=h j hj k;rw[getD_lt hj]at this;exact PV.mem_idsL.2 ⟨_,hc,this hkc⟩
 induction r with
 |clean r=>exact fun k hk=>absurd hk (r.clean_dids k)
 |ptr id off=>exact fun k hk=>hk
 |osl id off len cap sz hc=>exact fun k hk=>hk
 |vsl id len sz v hv t=>exact fun k hk=>hk
 |vptr id n sz i off v hv hi t=>exact fun k hk=>hk
 |row id v es r t=>
  intro k hk;simp only[PV.dids,List.mem_cons]at hk;rcases hk with rfl|hk
  ·simp[PV.ids]
  ·exact absurd (by simpa[PV.dids]using hk) (r.clean_dids k)
 |agg vs cs hl _ ih=>intro k hk;simp only[PV.dids,PV.ids]at *;exact go cs ih k hk
 |tup vs cs hl _ ih=>intro k hk;simp only[PV.dids,PV.ids]at *;exact go cs ih k hk
 |fn f vs cs hl _ ih=>intro k hk;simp only[PV.dids,PV.ids]at *;exact go cs ih k hk
theorem Sim.refsD {B:Frm} {S:Stable} {M:Maps} {s:St} {a:Act} {w:World} (hs:Sim B S M s a w):RefsD s:=by
 have clean:∀(ks vs:List PV) (es:List MapEntry),vs.length=ks.length→(∀i,i<ks.length→Rep S (es.getD i default).key (ks.getD i .any))→(∀i,i<ks.length→Rep S (es.getD i default).val (vs.getD i .any))→ ∀r,¬(r∈PV.didsL ks∨r∈PV.didsL vs):=fun ks vs es e3 e5 e6 r hr=>by
  rcases hr with hr|hr
  ·obtain⟨x,hx,hxr⟩:=PV.mem_didsL.1 hr;obtain⟨j,hj,rfl⟩:=List.getElem_of_mem hx;have:=(e5 j hj).clean_dids r;rw[getD_lt hj]at this;exact this hxr
  ·obtain⟨x,hx,hxr⟩:=PV.mem_didsL.1 hr;obtain⟨j,hj,rfl⟩:=List.getElem_of_mem hx;have:=(e6 j (by omega)).clean_dids r;rw[getD_lt hj]at this;exact this hxr
 refine⟨fun i r hr=>hs.ids i r ((hs.fr i).dids_ids r hr),fun i cs hi c hc r hr=> ?_,fun b c hc r hr=> ?_,fun b x c hx hc r hr=> ?_,fun i es hi r hr=> ?_,fun b c hc r hr=> ?_⟩
 rotate_left
 ·obtain⟨_,_,es,e1,e2,e3,e4,e5,e6⟩:=hs.stable.o b c hc;exact absurd hr (clean _ _ es e3 e5 e6 r)
 ·obtain⟨es,e1,e2,e3,e4,e5,e6⟩:=(hs.stable.i b x hx).2.2 c hc;exact clean _ _ es e3 e5 e6 r hr
 ·obtain⟨sz,e,q1,k1,k2,k3⟩:=hs.vc i es hi;obtain⟨p,hp,hpr⟩:=PV.mem_didsL.1 hr;obtain⟨j,hj,rfl⟩:=List.getElem_of_mem hp;obtain⟨o1,o2⟩:=hs.row i _ q1;cases hκ:M.κ i with
  |zero=>have:=o1 hκ;omega
  |succ c=>
   obtain⟨_,_,_,⟨vs,g5,g6⟩,_⟩:=o2 c hκ;have g7:=k3 c hκ vs e (0,0) g5
   -- the element's cells
   have hx:=k1 _ hp;have hin:∃x∈es[j].cells,r∈x.dids:=by
    cases hp2:es[j]with
    |agg cs=>rw[hp2]at hpr;simp only[PV.dids]at hpr;exact PV.mem_didsL.1 hpr
    |_=>rw[hp2]at hpr;exact⟨_,List.mem_singleton.2 rfl,hpr⟩
   obtain⟨x,hx1,hx2⟩:=hin;obtain⟨l,hl,rfl⟩:=List.getElem_of_mem hx1;have hr2:=g7 j l hj (by rw[←hx.1];exact hl);rw[getD_lt hj,getD_lt hl]at hr2;exact k2 _ hp r (Zav hx1 (hr2.dids_ids r hx2))
 ·obtain⟨_,_,_,⟨es,e1,e2,e3,e4,e5,e6⟩,e7⟩:=hs.rm b c hc;obtain⟨p,hp,hpr⟩:=PV.mem_didsL.1 hr;obtain⟨j,hj,rfl⟩:=List.getElem_of_mem hp;have:=(e6 j (by omega)).dids_ids r;rw[getD_lt hj]at this;exact e7 _ hp r (this hpr)
 have hb:=hs.blk i cs hi;obtain⟨j,hj,rfl⟩:=List.getElem_of_mem hc;cases hz:s.m.z i with
 |false=>
  rw[hz]at hb;obtain⟨_,_,⟨vs,ty,h3,h4,h5⟩,h6⟩:=hb;have:=(h5 j hj).dids_ids r;rw[getD_lt hj]at this;exact h6 _ (List.getElem_mem hj) r (this hr)
 |true=>
  rw[hz]at hb;obtain⟨vals,hv⟩:=hb;have:=(hv j hj).2;rw[getD_lt hj]at this;exact absurd hr (this.clean_dids r)
theorem Zhz {s:St} (hr:RefsD s) (o:Oper):∀r∈Zl5 o s.eval,ZS s.m r:=fun r h=>by
 unfold Zl5 at h;obtain⟨x,_,hx⟩:=List.mem_flatMap.1 h;cases x with
 |tmp t=>exact hr.fr t r hx
 |const v=>simp[St.eval,Zea]at hx
 |func f=>simp[St.eval,PV.dids,PV.didsL]at hx
 |_=>simp[St.eval,PV.dids]at hx
mutual
theorem Zf0:∀(p:PV) {r:Ref},r∈p.share.dids→r∈p.dids
 | .ptr _ _,r,h=>h
 | .osl _ _ _ _,r,h=>h
 | .sl t es,r,h=>by simp only[PV.share,PV.dids]at h;exact ZjU h
 | .agg cs,r,h=>by simp only[PV.share,PV.dids]at *;exact Zdv cs h
 | .tup cs,r,h=>by simp only[PV.share,PV.dids]at *;exact Zdv cs h
 | .fn _ cs,r,h=>by simp only[PV.share,PV.dids]at *;exact Zdv cs h
 | .any,r,h=>h
 | .int _ _,r,h=>h
 | .bool _,r,h=>h
 | .str _,r,h=>h
 | .flt _ _,r,h=>h
 | .cpx _ _ _,r,h=>h
 | .rptr _,r,h=>h
 | .nilp,r,h=>h
 | .nilfn,r,h=>h
 | .nilmap,r,h=>h
 | .mref _,r,h=>h
 | .rmap _ _,r,h=>h
 | .iptr _,r,h=>h
 | .vsl _ _ _,r,h=>h
 | .vptr _ _ _ _ _,r,h=>h
theorem Zdv:∀(cs:List PV) {r:Ref},r∈PV.didsL (PV.shareL cs)→r∈PV.didsL cs
 | [],r,h=>h
 |c::cs,r,h=>by
  simp only[PV.shareL,PV.didsL,List.mem_append]at *;exact h.imp (Zf0 c) (Zdv cs)
end
def Keeps (m:Hp) (a:ARes):Prop:=(∀r∈a.v.dids,ZS a.m r)∧ ∀i cs,a.m.h i=some cs→m.h i=some cs∨ ∀r∈PV.didsL cs,ZS a.m r
theorem Keeps.same {m:Hp} {a:ARes} (he:a.m=m) (h:∀r∈a.v.dids,ZS m r):Keeps m a:=⟨by rw[he];exact h,fun i cs hi=> .inl (by rw[he]at hi;exact hi)⟩
theorem ZgU {m:Hp} {d:Nat} {x:List PV} {r:Ref} (h:ZS m r):ZS (m.new d x) r:=by
 cases r with
 |r i=>exact h
 |b i=>
  simp only[ZS,Hp.new]at *;unfold upd;split<;>simp_all
theorem ZbG {m:Hp} {d:Nat} {x:Row}:ZS (m.setq d x) (.r d):=by simp[ZS,Hp.setq,upd]
theorem Zmn {m:Hp} {d:Nat} {x:List PV}:ZS (m.new d x) (.b d):=by simp[ZS,Hp.new,upd]
theorem ZnL {ok:Prop} {m:Hp} {d:Nat} {cs:List PV} {v:PV} (hv:v.dids= [.b d]) (h:∀r∈PV.didsL cs,ZS m r):Keeps m ⟨ok,v,m.new d cs⟩:=by
 refine⟨fun r hr=> ?_,fun i ds hi=> ?_⟩
 ·rw[hv]at hr;simp only[List.mem_singleton]at hr;subst hr;exact Zmn
 ·by_cases hd:d=i
  ·subst hd;simp[Hp.new,upd]at hi;subst hi;exact .inr fun r hr=>ZgU (h r hr)
  ·left;simpa[Hp.new,upd,hd]using hi
theorem ZA1 {z:PV} {vs:List PV} {ok:Bool} {i:Option Nat} {r:Ref} (hz:z.dids= []) (h:r∈(Zwi z vs ok i).dids):r∈PV.didsL vs:=by
 unfold Zwi at h;split at h
 ·split at h
  ·simp only[PV.dids,PV.didsL,List.append_nil]at h;exact Zb8 h
  ·exact Zb8 h
 ·split at h
  ·simp only[PV.dids,PV.didsL,List.append_nil,hz]at h;cases h
  ·rw[hz]at h;cases h
theorem Zsa {s:St} (hr:RefsD s) {x:PV} (hx:∀r∈x.dids,ZS s.m r) {c:MapC} (h:ZhL s.m x=some c):∀r,(r∈PV.didsL c.ks∨r∈PV.didsL c.vs)→ZS s.m r:=by
 cases x with
 |rmap ks vs=>
  simp only[ZhL,Option.some.injEq]at h;subst h;intro r hh;exact hx r (by simp only[PV.dids,List.mem_append];exact hh)
 |mref b=>exact hr.o b c h
 |_=>simp[ZhL]at h
theorem Zt0 {s:St} (hr:RefsD s) {o:Oper} (hok:(aop P o s.eval s.m).ok):∀b c,(aop P o s.eval s.m).m.o b=some c→s.m.o b=some c∨ ∀r,(r∈PV.didsL c.ks∨r∈PV.didsL c.vs)→ZS s.m r:=by
 intro b c hb;have hF:=Ziw hok;have L:=Zhz hr o;cases hw:(fp o.op).wo with
 |false=>rw[hF.o1 hw]at hb;exact .inl hb
 |true=>
  obtain⟨dst,op,ty,pos,af,guard⟩:=o;cases op with
  |mapUpdate t x k v=>
   have hv:∀r∈(s.eval v).dids,ZS s.m r:=fun r h=>L r (Zaf (x:=v) (by simp[Op.operands]) h)
   have hk:∀r∈(s.eval k).dids,ZS s.m r:=fun r h=>L r (Zaf (x:=k) (by simp[Op.operands]) h)
   revert hok hb
   show(ZX P t (s.eval x) (s.eval k) (s.eval v) s.m).ok→(ZX P t (s.eval x) (s.eval k) (s.eval v) s.m).m.o b=some c→_;unfold ZX;split
   ·rename_i b0 _;split
    ·rename_i ls zz c0 cs h1 h2 h3;rw[h3]at hk;split
     ·intro _ hb;simp only at hb
      by_cases e:b0=b
      ·subst e;rw[Zb]at hb;cases hb;refine .inr fun r hh=> ?_
       rcases hh with hh|hh
       ·exact hr.o b0 c0 h2 r (.inl hh)
       ·obtain⟨y,hy,hyr⟩:=PV.mem_didsL.1 hh;rcases List.mem_or_eq_of_mem_set hy with hy|rfl
        ·exact hr.o b0 c0 h2 r (.inr (PV.mem_didsL.2 ⟨y,hy,hyr⟩))
        ·exact hv r (Zf0 _ hyr)
      ·rw[Zm _ _ e]at hb;exact .inl hb
     ·intro _ hb;simp only at hb
      by_cases e:b0=b
      ·subst e;rw[Zb]at hb;cases hb;refine .inr fun r hh=> ?_
       rcases hh with hh|hh
       ·obtain⟨y,hy,hyr⟩:=PV.mem_didsL.1 hh;rcases List.mem_append.1 hy with hy|hy
        ·exact hr.o b0 c0 h2 r (.inl (PV.mem_didsL.2 ⟨y,hy,hyr⟩))
        ·simp only[List.mem_singleton]at hy;subst hy;simp only[PV.dids]at hyr;exact hk r (by simp only[PV.dids];exact Zdv _ hyr)
       ·obtain⟨y,hy,hyr⟩:=PV.mem_didsL.1 hh;rcases List.mem_append.1 hy with hy|hy
        ·exact hr.o b0 c0 h2 r (.inr (PV.mem_didsL.2 ⟨y,hy,hyr⟩))
        ·simp only[List.mem_singleton]at hy;subst hy;exact hv r (Zf0 _ hyr)
      ·rw[Zm _ _ e]at hb;exact .inl hb
     ·exact fun h=>h.elim
    ·exact fun h=>h.elim
   ·exact fun h=>h.elim
  |makeSlice t l c=>cases hw
  |makeFunc f g h=>unfold fp at hw;simp only at hw;split at hw<;>cases hw
  |call cc=>
   obtain⟨cal,ar,ts⟩:=cc;cases cal with
   |builtin bb=>unfold fp at hw;simp only at hw;split at hw<;>cases hw
   |_=>cases hw
  |_=>cases hw
theorem ZtZ {s:St} (hr:RefsD s) {o:Oper} (hok:(aop P o s.eval s.m).ok):Keeps s.m (aop P o s.eval s.m):=by
 have hF:=Ziw hok;have L:=Zhz hr o;have nm:Zcj (aop P o s.eval)→(∀r∈(aop P o s.eval s.m).v.dids,r∈Zl5 o s.eval)→Keeps s.m (aop P o s.eval s.m):=fun h hf=> .same (h s.m s.m hok).1 fun r h=>L r (hf r h)
 obtain⟨dst,op,ty,pos,af,guard⟩:=o;cases op with
 |move x=>exact nm Zw fun r h=>Zaf (x:=x) (by simp[Op.operands]) h
 |assign x=>exact nm Zw fun r h=>Zaf (x:=x) (by simp[Op.operands]) h
 |pick c x y=>exact nm Zll fun r h=>(ZA2 r h).elim (Zaf (x:=x) (by simp[Op.operands])) (Zaf (x:=y) (by simp[Op.operands]))
 |nilCheck x=>exact nm Zf9 fun r h=>Zaf (x:=x) (by simp[Op.operands]) (ZsO r h)
 |binOp op t x y yt=>exact nm ZnS fun r h=>absurd h (v_none ZCE)
 |unOp op t x=>exact nm ZqR fun r h=>absurd h (v_none ZEa)
 |convert a b x=>exact .same (Zxk hok) fun r h=>absurd h (v_none ZAZ)
 |field t x f=>exact nm ZjD fun r h=>Zaf (x:=x) (by simp[Op.operands]) (ZyU r h)
 |fieldAddr t x f=>exact nm Zfq fun r h=>Zaf (x:=x) (by simp[Op.operands]) (Zj6 r h)
 |index t x i=>exact nm ZjE fun r h=>Zaf (x:=x) (by simp[Op.operands]) (ZyV r h)
 |indexAddr t x i=>exact nm Zfr fun r h=>Zaf (x:=x) (by simp[Op.operands]) (Zj7 r h)
 |extract x i=>exact nm ZgZ fun r h=>Zaf (x:=x) (by simp[Op.operands]) (Zu7 r h)
 |lookup t x k ok=>
  have hop:aop P ⟨dst,.lookup t x k ok,ty,pos,af,guard⟩ s.eval s.m=ZbP P t (s.eval x) (s.eval k) ok s.m:=rfl;rw[hop]at hok ⊢;refine .same (Zfp s.m s.m rfl hok).1 fun r h=> ?_
  revert hok h
  unfold ZbP;split
  ·rename_i ls z c cs h1 h2 h3;split
   ·intro _ h;obtain⟨kt,et,fs,i,zv,t1,t2,t3,t4,t5,rfl,t6⟩:=Zhd h1;exact Zsa hr (fun r h=>L r (Zaf (x:=x) (by simp[Op.operands]) h)) h2 r (.inr (ZA1 (Zea _) h))
   ·exact fun h=>h.elim
  ·exact fun h=>h.elim
 |entry x=>
  have hop:aop P ⟨dst,.entry x,ty,pos,af,guard⟩ s.eval s.m=Zdd (s.eval x) s.m:=rfl;rw[hop]at hok ⊢;refine .same (Zgf s.m s.m rfl rfl hok).1 fun r h=> ?_
  revert hok h
  unfold Zdd;split
  ·split
   ·rename_i itc hit;split
    ·rename_i c i h2 h3;intro _ h;simp only[PV.dids,PV.didsL,List.append_nil,List.mem_append]at h;unfold mapIt at h2;cases hc:itc.c with
     |some d=>
      rw[hc]at h2;simp only[Option.some.injEq]at h2;subst h2;exact absurd (h.imp Zb8 Zb8) (hr.it _ itc d hit hc r)
     |none=>
      rw[hc]at h2;exact hr.o _ c h2 r (h.imp Zb8 Zb8)
    ·exact fun h=>h.elim
   ·exact fun h=>h.elim
  ·exact fun h=>h.elim
 |mapUpdate t x k v=>
  have hop:aop P ⟨dst,.mapUpdate t x k v,ty,pos,af,guard⟩ s.eval s.m=ZX P t (s.eval x) (s.eval k) (s.eval v) s.m:=rfl;rw[hop]at hok ⊢;obtain⟨e,_⟩:=ZfE s.m s.m rfl hok;refine⟨fun r h=> ?_,fun i cs hi=> .inl (by rw[e]at hi;exact hi)⟩
  revert hok h
  unfold ZX;split
  ·split
   ·split
    ·exact fun _ h=>by simp[PV.dids,PV.didsL]at h
    ·exact fun _ h=>by simp[PV.dids,PV.didsL]at h
    ·exact fun h=>h.elim
   ·exact fun h=>h.elim
  ·exact fun h=>h.elim
 |build t parts=>
  refine nm ZjC fun r h=> ?_
  obtain⟨x,hx,hr⟩:=ZyT r h;obtain⟨y,hy,rfl⟩:=List.mem_map.1 hx;exact Zaf (x:=y.2) (by simp[Op.operands];exact⟨y.1,Array.mem_toList_iff.1 hy⟩) hr
 |slice t x lo hi mx=>
  cases mx with
  |some _=>exact hok.elim
  |none=>exact nm ZjF fun r h=>Zaf (x:=x) (by simp[Op.operands]) (ZyW r h)
 |alloc t=>
  cases dst with
  |none=>exact hok.elim
  |some d=>
   cases hz:ZcK P t with
   |none=>simp only[aop,hz]at hok;exact hok.elim
   |some z=>simp only[aop,hz];exact ZnL rfl (by rw[Zxg hz];simp)
 |box t x=>
  cases dst with
  |none=>exact hok.elim
  |some d=>exact ZnL rfl fun r h=>L r (Zaf (x:=x) (by simp[Op.operands]) (Zc1 h))
 |load t x=>
  simp only[aop]at hok ⊢;split at hok
  ·rename_i ht;rw[if_pos ht]
   revert hok
   unfold Zd4;split
   ·rename_i cs hx;exact fun _=> .same rfl fun r h=>L r (Zaf (x:=x) (by simp[Op.operands]) (by rw[hx];simp only[PV.dids];exact Zeh h))
   ·split
    ·rename_i cs hh;exact fun _=> .same rfl fun r h=>by
      obtain⟨c,hc,hcr⟩:=PV.mem_didsL.1 (Zeh h);exact hr.h _ cs hh c hc r hcr
    ·exact fun h=>h.elim
   ·rename_i id n z k off hx;split
    ·rename_i es hh;exact fun _=> .same rfl fun r h=>hr.v _ es hh r (by
      obtain⟨c,hc,hcr⟩:=PV.mem_didsL.1 (Zeh h);exact Zb8 (Zd9 hc hcr))
    ·exact fun h=>h.elim
   ·exact fun h=>h.elim
  ·exact hok.elim
 |store t x y=>
  simp only[aop]at hok ⊢;split at hok
  ·rename_i ht;rw[if_pos ht]
   revert hok
   unfold Zcz;split
   ·rename_i id off hx;split
    ·rename_i cs hh;intro hok;refine⟨fun r h=>by simp[PV.dids,PV.didsL]at h,fun i ds hi=> ?_⟩;have lv:∀r,ZS s.m r→ZS { s.m with h:=upd s.m.h id (some (ZaK cs off (s.eval y).cells)) } r:=fun r h=>by
      cases r with
      |r i=>exact h
      |b i=>simp only[ZS]at *;unfold upd;split<;>simp_all
     by_cases hd:id=i
     ·subst hd;simp[upd]at hi;subst hi;refine .inr fun r h=>lv r ?_
      rcases ZlA h with h|h
      ·obtain⟨c,hc,hcr⟩:=PV.mem_didsL.1 h;exact hr.h id cs hh c hc r hcr
      ·exact L r (Zaf (x:=y) (by simp[Op.operands]) (Zc1 h))
     ·left;simpa[upd,hd]using hi
    ·exact fun h=>h.elim
   ·split
    ·exact fun _=>⟨fun r h=>by simp[PV.dids,PV.didsL]at h,fun i ds hi=> .inl hi⟩
    ·exact fun h=>h.elim
   ·exact fun h=>h.elim
  ·exact hok.elim
 |makeFunc fn first caps=>
  cases fn with
  |func f=>
   simp only[aop]at hok ⊢;split at hok
   ·rename_i hf;rw[if_pos hf];refine⟨fun r h=> ?_,fun i cs hi=> .inl (by simpa[Zcn]using hi)⟩;have:ZS s.m r:=by
     obtain⟨c,hc,hcr⟩:=PV.mem_didsL.1 (by simpa[PV.dids]using h);obtain⟨x,hx,rfl⟩:=List.mem_map.1 hc;exact L r (Zaf (x:=x) (by simp[Op.operands];right;exact Array.mem_toList_iff.1 hx) hcr)
    cases r with
    |b i=>simpa[ZS,Zcn]using this
    |r i=>simpa[ZS,ZbW]using this
   ·exact hok.elim
  |_=>exact hok.elim
 |buildSlice t len parts=>
  cases dst with
  |none=>exact hok.elim
  |some d=>
   cases he:Zcg P t with
   |none=>simp only[aop,ZaW,he]at hok;exact hok.elim
   |some ei=>
    simp only[aop,ZaW,he];refine⟨fun r h=> ?_,fun i cs hi=> .inl hi⟩;simp only[PV.dids,List.mem_cons]at h;rcases h with rfl|h
    ·exact ZbG
    ·obtain⟨c,hc,hcr⟩:=PV.mem_didsL.1 h;obtain⟨x,hx,rfl⟩:=List.mem_map.1 hc;obtain⟨y,hy,rfl⟩:=List.mem_map.1 hx;exact ZbF _ (L r (Zaf (x:=y.2) (by simp[Op.operands];exact⟨y.1,Array.mem_toList_iff.1 hy⟩) (Zf0 _ hcr)))
 |makeSlice t l c=>
  cases dst with
  |none=>exact hok.elim
  |some d=>
   by_cases hl:∃k,l= .const (.int k 0)
   ·obtain⟨k,rfl⟩:=hl;have hop:aop P ⟨some d,.makeSlice t (.const (.int k 0)) c,ty,pos,af,guard⟩ s.eval s.m=Zb3 P d t (s.eval c) s.m:=rfl;rw[hop]at hok ⊢
    revert hok
    unfold Zb3;split
    ·exact fun _=>⟨fun r h=>by simp[PV.dids,PV.didsL]at h;subst h;exact ZbG,fun i cs hi=> .inl hi⟩
    ·exact fun h=>h.elim
   ·have hop:aop P ⟨some d,.makeSlice t l c,ty,pos,af,guard⟩ s.eval s.m=aMakeFull P d t (s.eval l) (s.eval c) s.m:=by
     unfold aop;simp only;split
     ·rename_i k;exact absurd ⟨_,rfl⟩ hl
     ·rfl
    rw[hop]at hok ⊢
    revert hok
    unfold aMakeFull;split
    ·split
     ·rename_i z hz;refine fun _=>⟨fun r h=> ?_,fun i cs hi=> .inl hi⟩
      simp only[PV.dids,List.mem_cons]at h;rcases h with rfl|h
      ·exact ZbG
      ·obtain⟨c',hc,hcr⟩:=PV.mem_didsL.1 h;rw[List.eq_of_mem_replicate hc,ZAO hz]at hcr;cases hcr
     ·exact fun h=>h.elim
    ·exact fun h=>h.elim
 |call c=>
  obtain⟨callee,args,ts⟩:=c;cases callee with
  |builtin b=>
   simp only[aop]at hok ⊢
   revert hok
   unfold Z7;split
   ·split
    ·exact fun hok=> .same (Zie s.m s.m rfl hok).1 fun r h=>absurd h (v_none (by unfold Zck;split<;>rfl))
    ·exact fun hok=> .same (ZnU s.m s.m hok).1 fun r h=>absurd h (v_none ZCJ)
   ·rename_i t tx x y hts hxs;have hx:∀r∈x.dids,ZS s.m r:=fun r h=>by
     have:x∈args.toList.map s.eval:=by rw[hxs];simp
     obtain⟨z,hz,rfl⟩:=List.mem_map.1 this;exact L r (Zaf (x:=z) (by simp[Op.operands,Call.operands];exact Array.mem_toList_iff.1 hz) h)
    have hy:∀r∈y.dids,ZS s.m r:=fun r h=>by
     have:y∈args.toList.map s.eval:=by rw[hxs];simp
     obtain⟨z,hz,rfl⟩:=List.mem_map.1 this;exact L r (Zaf (x:=z) (by simp[Op.operands,Call.operands];exact Array.mem_toList_iff.1 hz) h)
    have hys:∀ys,Zcu P tx y=some ys→ ∀r∈PV.didsL ys,ZS s.m r:=fun ys h r hr=>by
     unfold Zcu at h;split at h
     ·cases h;exact hy r (ZjU hr)
     ·cases h;obtain⟨c,hc,hcr⟩:=PV.mem_didsL.1 hr;unfold ZaY at hc;obtain⟨z,hz,rfl⟩:=List.mem_map.1 hc;simp[PV.dids]at hcr
     ·cases h
    split
    ·unfold Zez;split
     ·rename_i ys _ _ hyy;refine fun _=>⟨fun r h=> ?_,fun i cs hi=> .inl hi⟩
      simp only[PV.dids,List.mem_cons]at h;rcases h with rfl|h
      ·exact ZbG
      ·exact ZbF _ (hys _ (by assumption) r h)
     ·split
      ·refine fun _=>⟨fun r h=> ?_,fun i cs hi=> .inl ?_⟩
       ·simp only[PV.dids,List.mem_cons]at h;rcases h with rfl|h
        ·simp only;split<;>exact ZbG
        ·have:ZS s.m r:=by
          obtain⟨c,hc,hcr⟩:=PV.mem_didsL.1 h;rcases List.mem_append.1 hc with hc|hc
          ·exact hx r (ZjU (PV.mem_didsL.2 ⟨c,hc,hcr⟩))
          ·exact hys _ (by assumption) r (PV.mem_didsL.2 ⟨c,hc,hcr⟩)
         simp only;split
         ·exact ZbF _ this
         ·exact ZbF _ (ZbF _ this)
       ·simp only at hi;split at hi<;>exact hi
      ·exact fun h=>h.elim
     ·exact fun h=>h.elim
    ·exact fun h=>h.elim
   ·exact fun hok=> .same (ZnV s.m s.m hok).1 fun r h=>absurd h (v_none ZCK)
   ·exact fun hok=> .same (ZnW s.m s.m hok).1 fun r h=>absurd h (v_none ZCL)
   ·exact fun hok=> .same (ZnT s.m s.m hok).1 fun r h=>absurd h (v_none ZCF)
   ·exact fun hok=> .same (Zlm s.m s.m hok).1 fun r h=>absurd h (v_none ZA3)
   ·exact fun hok=> .same (Zlk s.m s.m hok).1 fun r h=>absurd h (v_none ZA0)
   ·exact fun h=>h.elim
  |_=>exact hok.elim
 |_=>exact hok.elim
theorem Zsj {x v:PV} {off:Nat} {r:Ref} (h:r∈(ZjK x off v).dids):r∈x.dids∨r∈v.dids:=by
 unfold ZjK at h;split at h
 ·exact .inr h
 ·simp only[PV.dids]at h;obtain⟨c,hc,hcr⟩:=PV.mem_didsL.1 h;simp only[ZaK,List.mem_append]at hc;rcases hc with (hc|hc)|hc
  ·exact .inl (Zd9 (List.mem_of_mem_take hc) hcr)
  ·exact .inr (Zd9 hc hcr)
  ·exact .inl (Zd9 (List.mem_of_mem_drop hc) hcr)
theorem Zt1 {s:St} (hr:RefsD s) {o:Oper} (hok:(aop P o s.eval s.m).ok):∀i es,(aop P o s.eval s.m).m.v i=some es→ ∀r∈PV.didsL es,ZS s.m r:=by
 intro i es hi;have hF:=Ziw hok;have L:=Zhz hr o
 by_cases hw:Wh o s.eval (.r i)
 ·obtain⟨dst,op,ty,pos,af,guard⟩:=o;have hwh:(fp op).wh=true:=by
   rcases hw with ⟨w,_⟩|⟨_,_,_,e⟩
   ·exact w
   ·cases e
  cases op with
  |store t x y=>
   have hy:∀r∈(s.eval y).dids,ZS s.m r:=fun r h=>L r (Zaf (x:=y) (by simp[Op.operands]) h)
   revert hok hi
   show((if tkn P t then Zcz P t (s.eval x) (s.eval y) s.m else .fail).ok)→((if tkn P t then Zcz P t (s.eval x) (s.eval y) s.m else .fail).m.v i=some es)→_;split
   ·unfold Zcz;split
    ·split
     ·exact fun _ hi=>hr.v i es hi
     ·exact fun h=>h.elim
    ·rename_i id n z k off hxe;split
     ·rename_i es0 hv0;intro _ hi
      by_cases e:id=i
      ·subst e;simp only[Zb,Option.some.injEq]at hi;subst hi;intro r h;obtain⟨c,hc,hcr⟩:=PV.mem_didsL.1 h;rcases List.mem_or_eq_of_mem_set hc with hc|rfl
       ·exact hr.v _ _ hv0 r (PV.mem_didsL.2 ⟨c,hc,hcr⟩)
       ·rcases Zsj hcr with h1|h1
        ·exact hr.v _ _ hv0 r (Zb8 h1)
        ·exact hy r h1
      ·simp only[Zm _ _ e]at hi;exact hr.v i es hi
     ·exact fun h=>h.elim
    ·exact fun h=>h.elim
   ·exact fun h=>h.elim
  |makeSlice t l c=>cases hwh
  |makeFunc f g h=>unfold fp at hwh;simp only at hwh;split at hwh<;>cases hwh
  |call cc=>
   obtain⟨cal,ar,ts⟩:=cc;cases cal with
   |builtin bb=>unfold fp at hwh;simp only at hwh;split at hwh<;>cases hwh
   |_=>cases hwh
  |_=>cases hwh
 ·have:(aop P o s.eval s.m).m.v i=s.m.v i:=hF.h1 (.r i) hw;rw[this]at hi;exact hr.v i es hi
theorem Zc7 {s s':St} {o:Oper} (hr:RefsD s) (h:Zdc P ops o s s'):RefsD s':=by
 have put:∀(m':Hp) (v:PV),(∀r,ZS s.m r→ZS m' r)→(∀r∈v.dids,ZS m' r)→(∀i cs,m'.h i=some cs→s.m.h i=some cs∨ ∀r∈PV.didsL cs,ZS m' r)→(∀b c,m'.o b=some c→s.m.o b=some c∨ ∀r,(r∈PV.didsL c.ks∨r∈PV.didsL c.vs)→ZS s.m r)→m'.io=s.m.io→(∀i es,m'.v i=some es→ ∀r∈PV.didsL es,ZS s.m r)→RefsD ((s.with m').put o.dst v):=fun m' v hl hv hh ho hio hvv=>by
  have hit:m'.it=s.m.it:=congrArg (fun x=>x.1) hio;have hom:m'.om=s.m.om:=congrArg (fun x=>x.2.1) hio;refine⟨fun i r h=> ?_,fun i cs hi c hc r h=> ?_,fun b c hc r h=> ?_,fun b x c hx hc r h=> ?_,fun i es hi r h=> ?_,fun b c hc r h=> ?_⟩
  ·rw[Zg1]
   by_cases hd:o.dst=some i
   ·rw[hd]at h;simp only[St.put,upd,if_true]at h;exact hv r h
   ·rw[Zn9 hd]at h;exact hl r (hr.fr i r h)
  ·rw[Zg1]at hi ⊢;rcases hh i cs hi with h1|h1
   ·exact hl r (hr.h i cs h1 c hc r h)
   ·exact h1 r (PV.mem_didsL.2 ⟨c,hc,h⟩)
  ·rw[Zg1]at hc ⊢;rcases ho b c hc with h1|h1
   ·exact hl r (hr.o b c h1 r h)
   ·exact hl r (h1 r h)
  ·rw[Zg1]at hx;have hx:m'.it b=some x:=hx;rw[hit]at hx;exact hr.it b x c hx hc r h
  ·rw[Zg1]at hi ⊢;exact hl r (hvv i es hi r h)
  ·rw[Zg1]at hc ⊢;have hc:m'.om b=some c:=hc;rw[hom]at hc;exact hl r (hr.om b c hc r h)
 obtain⟨_,h⟩:=h;rcases h with ⟨_,v,m',hs,rfl⟩|⟨_,rfl⟩
 ·have F:=Zjk hs;have hl:∀r,ZS s.m r→ZS m' r:=fun r h=>by
   cases r with
   |b i=>exact F.hl i h
   |r i=>exact F.ql i h
  rcases hs with ⟨h1,rfl,rfl⟩|⟨c,g,args,ho,hc,hg,hp,rfl⟩
  ·have K:=ZtZ hr h1;exact put _ _ hl K.1 K.2 (Zt0 hr h1) F.i1 (Zt1 hr h1)
  ·exact put _ _ hl (by rw[hp.2.1];simp) (fun i cs hi=> .inl hi) (fun b c hc=> .inl hc) rfl hr.v
 ·exact put s.m (.tup []) (fun r h=>h) (by simp[PV.dids,PV.didsL]) (fun i cs hi=> .inl hi) (fun b c hc=> .inl hc) rfl hr.v
end
open Go.RowKit
section
variable {P:Program} {ops:Array Oper} {md:Region.Mode}
def Zxh (P:Program) (md:Region.Mode) (ops:Array Oper) (K:St→Prop):Nat→Array Bool→St→Prop
 |0,listed,s=>Region.ready md ops listed= []∧K s
 |fuel+1,listed,s=>(Region.ready md ops listed= []→K s)∧ ∀i∈Region.ready md ops listed,∃o s',ops[i]? = some o∧Zdc P ops o s s'∧Zxh P md ops K fuel (listed.setIfInBounds i true) s'
theorem ZkK {K:St→Prop} {i:Nat} {oi:Oper} (hi:ops[i]? = some oi):
  ∀(fuel:Nat) (listed:Array Bool) (s s1:St),RefsD s→
   (∀j oj,ops[j]? = some oj→j≠i→listed.getD j true=false→(∀e∈oj.after,Region.binds md e=true→e.on≠i)→oi.apart ops oj=true∧compat oi.op oj.op=true)→
   i∈Region.ready md ops listed→Zdc P ops oi s s1→
   Zxh P md ops K fuel (listed.setIfInBounds i true) s1→Zxh P md ops K (fuel+1) listed s:=by
 intro fuel
 induction fuel with
 |zero=>
  intro listed s s1 hR _ hr hy H;refine⟨fun h=>(by rw[h]at hr;cases hr),fun j hj=> ?_⟩
  by_cases hji:j=i
  ·subst hji;exact⟨oi,s1,hi,hy,H⟩
  ·have:=ready_mono hj hji;rw[H.1]at this;cases this
 |succ fuel ih=>
  intro listed s s1 hR hfree hr hy H;refine⟨fun h=>(by rw[h]at hr;cases hr),fun j hj=> ?_⟩
  by_cases hji:j=i
  ·subst hji;exact⟨oi,s1,hi,hy,H⟩
  ·obtain⟨oj,s2,hoj,hy2,h1⟩:=H.2 j (ready_mono hj hji);obtain⟨hjun,oj',hoj',hall⟩:=mem_ready.1 hj;rw[hoj]at hoj';cases hoj';have hnot:∀e∈oj.after,Region.binds md e=true→e.on≠i:=fun e he hb heq=>by
    have h1:=hall e he hb;have h0:=(mem_ready.1 hr).1;rw[heq]at h1;rcases Nat.lt_or_ge i listed.size with h'|h'
    ·simp[h']at h0 h1;rw[h0]at h1;cases h1
    ·simp[Array.getElem?_eq_none h']at h1
   obtain⟨hap,hcp⟩:=hfree j oj hoj hji hjun hnot;obtain⟨s1',hya,hyb⟩:=ZlN hR.refs hap hcp hy hy2;have hfree':∀k ok,ops[k]? = some ok→k≠i→(listed.setIfInBounds j true).getD k true=false→
     (∀e∈ok.after,Region.binds md e=true→e.on≠i)→oi.apart ops ok=true∧compat oi.op ok.op=true:=fun k ok hk hki hun hno=>by
    refine hfree k ok hk hki ?_ hno
    by_cases hjk:j=k
    ·subst hjk;exact hjun
    ·rw[getD_set_ne true hjk]at hun;exact hun
   refine⟨oj,s1',hoj,hya,ih (listed.setIfInBounds j true) s1' s2 (Zc7 hR hya) hfree' (ready_mono hr (Ne.symm hji)) hyb ?_⟩;rw[Array.setIfInBounds_comm _ _ hji];exact h1
def ZxY (md:Region.Mode) (ops:Array Oper) (listed:Array Bool) (i:Nat):Bool:=
 match ops[i]? with
 |none=>false
 |some oi=>(List.range ops.size).all fun j=>j==i||listed.getD j true||match ops[j]? with
   |some oj=>oj.after.any (fun e=>Region.binds md e&&e.on==i)||(oi.apart ops oj&&compat oi.op oj.op)
   |none=>true
theorem Zk2 {i:Nat} {oi:Oper} {listed:Array Bool} (hi:ops[i]? = some oi) (h:ZxY md ops listed i=true) (j:Nat) (oj:Oper)
  (hj:ops[j]? = some oj) (hne:j≠i) (hun:listed.getD j true=false) (hno:∀e∈oj.after,Region.binds md e=true→e.on≠i):
  oi.apart ops oj=true∧compat oi.op oj.op=true:=by
 simp only[ZxY,hi,List.all_eq_true,List.mem_range]at h;have h1:=h j (Array.getElem?_eq_some_iff.1 hj).1;simp only[hj,Bool.or_eq_true,beq_iff_eq,hne,false_or,hun,Bool.false_eq_true]at h1;rcases h1 with h1|h1
 ·obtain⟨e,he,hb⟩:=Array.any_eq_true'.1 h1;simp only[Bool.and_eq_true,beq_iff_eq]at hb;exact absurd hb.2 (hno e he hb.1)
 ·simpa using h1
def ZgS (md:Region.Mode) (ops:Array Oper):Nat→Nat→Array Bool→Bool
 |0,_,listed=>(Region.ready md ops listed).isEmpty
 |fuel+1,k,listed=>(Region.ready md ops listed).contains k&&ZxY md ops listed k&&ZgS md ops fuel (k+1) (listed.setIfInBounds k true)
def ZvW (ops:Array Oper):Bool:=ZgS .any ops ops.size 0 (Array.replicate ops.size false)
theorem ZlW {K:St→Prop}:∀(l:List Oper) (k:Nat) (listed:Array Bool) (s:St),RefsD s→(∀j,l[j]? = ops[k+j]?)→
  ZgS md ops l.length k listed=true→Zwd P ops K l s→Zxh P md ops K l.length listed s
 | [],_,_,_,_,_,hB,h=>⟨by simpa[ZgS]using hB,h⟩
 |o::l,k,listed,s,hR,hl,hB,h=>by
  have h0:ops[k]? = some o:=by simpa using(hl 0).symm
  simp only[List.length_cons,ZgS,Bool.and_eq_true]at hB;obtain⟨⟨hr,hf⟩,hB'⟩:=hB;obtain⟨hd,h⟩:=h;have hl':∀j,l[j]? = ops[(k+1)+j]? :=fun j=>by have:=hl (j+1);simpa[Nat.add_assoc,Nat.add_comm 1 j]using this
  rcases h with ⟨hg,v,m',hst,hrest⟩|⟨hg,hrest⟩
  ·have hy:Zdc P ops o s ((s.with m').put o.dst v):=⟨hd,.inl ⟨hg,v,m',hst,rfl⟩⟩;exact ZkK h0 l.length listed s _ hR (Zk2 h0 hf) (by simpa using hr) hy (ZlW l (k+1) _ _ (Zc7 hR hy) hl' hB' hrest)
  ·have hy:Zdc P ops o s (s.put o.dst (.tup [])):=⟨hd,.inr ⟨hg,rfl⟩⟩;exact ZkK h0 l.length listed s _ hR (Zk2 h0 hf) (by simpa using hr) hy (ZlW l (k+1) _ _ (Zc7 hR hy) hl' hB' hrest)
theorem ZgD {K:St→Prop} {B:Frm} {Qc:Exit→Act→World→Prop} {S0:Stable} {w0:World} (hQ:∀s' S' M' a' w',K s'→Sim B S' M' s' a' w'→Ext B S0 S' w0 w'→Qc .normal a' w'):
  ∀(fuel:Nat) (listed:Array Bool) (s:St),Zxh P md ops K fuel listed s→ ∀S M a w,Sim B S M s a w→Ext B S0 S w0 w→wpAny P md ops Qc fuel listed a w
 |0,_,s,h,S,M,a,w,hs,he=>⟨h.1,hQ s S M a w h.2 hs he⟩
 |fuel+1,listed,s,h,S,M,a,w,hs,he=>⟨fun h0=>hQ s S M a w (h.1 h0) hs he,fun i hi=>by
   obtain⟨o,s',ho,hy,hn⟩:=h.2 i hi;unfold wpOp;simp only[ho];obtain⟨hd,hy⟩:=hy;rcases hy with ⟨hg,v,m',hst,rfl⟩|⟨hg,rfl⟩
   ·rw[ZtN hs hg,if_pos rfl];exact .inl (ZlD hs (ZfO hd) hst _ _ fun u w' S' M' hs' he'=>ZgD hQ fuel _ _ hn S' M' _ w' hs' (he.trans he'))
   ·rw[ZtN hs hg,if_neg (by simp)];exact ZgD hQ fuel _ _ hn S M _ w (Zrb hs hd) he⟩
theorem ZvO {id:Nat} {Q:Exit→St→Prop} {s:St} (hm:P.follows .mixedOrders=true) (hB:ZvW ops=true) (h:Zwd P ops (Q .normal) ops.toList s):awp P (.region id ops true) Q s:=fun B S M a w hs=>by
 refine wp_region_any hm ?_;have he:Ext B S S w { w with drawn:=w.drawn+1 }:=⟨SLe.refl _,fun _ _=>⟨fun _=>rfl,rfl⟩,(BelowF.refl B w).drew⟩;have hs':Sim B S M s a { w with drawn:=w.drawn+1 }:=hs.world rfl;have:=ZlW (P:=P) (K:=Q .normal) (md:= .any) ops.toList 0 (Array.replicate ops.size false) s hs.refsD (by simp) (by simpa[ZvW]using hB) h;have:=ZgD (B:=B) (S0:=S) (w0:=w) (Qc:=fun e a' w'=>∃s' S' M',Q e s'∧Sim B S' M' s' a' w'∧Ext B S S' w w') (fun s' S' M' a' w' h1 h2 h3=>⟨s',S',M',h1,h2,h3⟩) _ _ s this S M a _ hs' he;simpa using this
theorem ZCC {id:Nat} {l:List Oper} {Q:Exit→St→Prop} {s:St} (hm:P.follows .mixedOrders=true) (hB:ZvW l.toArray=true) (h:@vA P false ⟨Q .normal⟩ ⟨l⟩ ⟨l⟩ s):awp P (.region id l.toArray true) Q s:=
 ZvO hm hB (by simpa using Zgu l s h)
end
end Go.PL
