/- Contracts of functions and laws of this seat, each for every input that it names: lemmas of the proof. -/
import Derived.Test.YthingdchjkhfbaaGreatXCk
namespace Go.Proofs.YthingdchjkhfbaaGreat
set_option maxHeartbeats 64000000
set_option maxRecDepth 20000
set_option linter.unusedVariables false
set_option linter.unusedSimpArgs false
open Go.PL Go.PL.Srt
section
variable {α:Type} [Inhabited α] {pv:α→PV} {g:FuncId} {lt:α→α→Bool} {cv:α→α→Int}
theorem Zjp {a b h:Nat} (hh:h=(a+b) / 2) (hm:a+b≤4000000000000):IntKind.i64.wrap ((IntKind.u64.wrap ((a+b:Nat):Int)).fdiv (2 ^ min 1 64))=(h:Int):=by
 have e1:IntKind.u64.wrap ((a+b:Nat):Int)=((a+b:Nat):Int):=IntWalk.u64_in _ (by omega);have e2:((a+b:Nat):Int).fdiv (2 ^ min 1 64)=(h:Int):=by
  show Int.fdiv ((a+b:Nat):Int) 2=(h:Int);rw[Int.fdiv_eq_ediv_of_nonneg _ (by omega)];omega
 rw[e1,e2,ZdS (by omega) (by omega)]
theorem Zoy (K:SortK pv g lt cv) (e:TypeId) (n:Nat) (X B Y:List α) (x:α) (hB:Inc lt B) (hU:∀y∈B,lt x y=true∨lt y x=true) (hB0:0<B.length) (hn:X.length+1+B.length+Y.length=n) (hm:n≤1000000000000) (l0 r:List PV) (hl0:l0=(X++(x::(B++Y))).map pv) (hr:r=(X++(srt lt (x::B)++Y)).map pv) (ia ib ic:Int) (ha:ia=(X.length:Int)) (hb:ib=((X.length+1:Nat):Int)) (hc:ic=((X.length+1+B.length:Nat):Int)):
  Eff Tryz.prog 147 [.vsl 1000 n 15,.int .i64 ia,.int .i64 ib,.int .i64 ic,.fn g []] (Zcw n 15 e l0) (.tup []) (Zcw n 15 e r):=by
 subst hr hl0 ha hb hc;have hcl:∀l:List α,∀p∈l.map pv,p.ids= []:=fun l=>ZbM K.ids l
 refine Eff.vw [] Tryz.func147 (by decide) rfl Tryz.ntmps147 Tryz.results147 (by simp) (hcl _) (hcl _) (by simp[PV.ids,PV.idsL]) (by simp[PV.ids,PV.idsL]) fun q=> ?_
 have klen:=K.len;have kpart:=K.part;have katom:=K.atom;have kknown:=K.known;simp only[go_sem]at klen kpart katom kknown;have w1:IntKind.i64.wrap (((X.length+1:Nat):Int)-(X.length:Int))=1:=by rw[ZdS (by omega) (by omega)];omega
 have hl:(X++(x::(B++Y))).length=n:=by simp;omega
 simp only[go_sem,w1];refine ZcM (ι:= { uv:Nat×Nat // uv.1≤uv.2∧uv.2≤B.length∧(∀t,t<uv.1→lt (B.getD t default) x=true)∧ ∀t,uv.2≤t→t<B.length→lt x (B.getD t default)=true }) 220 (fun y=> [(0,.vsl 1000 n 15),(1,.int .i64 (X.length:Int)),(4,.fn g []),(10,.int .i64 ((X.length+1+y.1.1:Nat):Int)),(11,.int .i64 ((X.length+1+y.1.2:Nat):Int))]) (fun _=> []) (fun _=> [(1000,.vec n 15 e)]) (fun _=> []) (fun _=> []) (fun y=> [(1000,(X++(x::(B++Y))).map pv)]) (fun _=> []) [] [(1000,q)] [] (fun y=>y.1.2-y.1.1) ⟨(0,B.length),Nat.zero_le _,Nat.le_refl _,fun t h=>absurd h (Nat.not_lt_zero _),fun t h1 h2=>absurd h2 (by omega)⟩
  (Zaw rfl (Fc5 rfl rfl rfl rfl rfl) rfl rfl rfl) (fun x=>Zbw (by simp[PV.ids,PV.idsL,ZV]) (ZaC K.ids _)) (fun y=> ?_)
 obtain⟨⟨u,v⟩,h1,h2,h3,h4⟩:=y;simp only at h1 h2 h3 h4 ⊢
 by_cases huv:u<v
 ·have c1:((X.length+1+u:Nat):Int)<((X.length+1+v:Nat):Int):=by omega
  have w2:IntKind.i64.wrap (((X.length+1+u:Nat):Int)+((X.length+1+v:Nat):Int))=(((X.length+1+u)+(X.length+1+v):Nat):Int):=by rw[ZdS (by omega) (by omega)];omega
  obtain⟨d,hd⟩:∃d,d=(u+v) / 2:=⟨_,rfl⟩;have hw:=Zjp (a:=X.length+1+u) (b:=X.length+1+v) (h:=X.length+1+d) (by omega) (by omega);have hdB:d<B.length:=by omega
  have g0:((X++(x::(B++Y))).map pv).getD X.length .any=pv x:=by rw[Z5 (by omega),ZaQ _ _ _ rfl]
  have g1:((X++(x::(B++Y))).map pv).getD (X.length+1+d) .any=pv (B.getD d default):=by
   rw[Z5 (by omega),show X++(x::(B++Y))=(X++x::B.take d)++(B.drop d++Y)by rw[List.append_assoc,List.cons_append,←List.append_assoc (List.take d B),List.take_append_drop],ZbC hdB];exact congrArg pv (ZaQ _ _ _ (by simp;omega))
  have b0:0≤(X.length:Int)∧(X.length:Int)<(n:Int):=by omega
  have b1:0≤((X.length+1+d:Nat):Int)∧((X.length+1+d:Nat):Int)<(n:Int):=by omega
  have w3:IntKind.i64.wrap (((X.length+1+d:Nat):Int)+1)=((X.length+1+(d+1):Nat):Int):=by rw[ZdS (by omega) (by omega)];omega
  have hv:=K.cv (B.getD d default) x;simp only[go_sem,c1,w2,hw];refine Ze (by kernel_rfl) (by kernel_rfl) ?_;simp only[go_sem,b1.1,b1.2,b0.1,b0.2,Int.toNat_natCast,g0,g1,klen,kpart,List.length_map,hl];refine Za (K.cmp (B.getD d default) x) ?_ ?_ ?_
  ·simp only[go_sem,K.give,K.givable]
  ·simp only[go_sem,K.give,K.givable]
  by_cases hlt:lt (B.getD d default) x=true
  ·rw[hlt]at hv;simp only[go_sem,hv,of_decide_eq_true hv,w3];refine⟨⟨(d+1,v),by show d+1≤v;omega,h2,fun t ht=> ?_,h4⟩,by show v-(d+1)<v-u;omega,Zaw rfl (Fc5 rfl rfl rfl rfl rfl) rfl rfl rfl⟩;have ht:t<d+1:=ht
   by_cases e:t=d
   ·subst e;exact hlt
   ·refine K.good.trans _ _ _ ?_ hlt;rw[getD_lt (by omega),getD_lt (by omega)];exact hB.lt_get K.good (by omega) (by omega)
  ·have hv':¬cv (B.getD d default) x<0:=by
    have:lt (B.getD d default) x=false:=by simpa using hlt
    rw[this]at hv;simpa using hv
   have hx:lt x (B.getD d default)=true:=by
    rw[getD_lt hdB]at hlt ⊢;exact(hU _ (List.getElem_mem _)).resolve_right hlt
   simp only[go_sem,hv'];refine⟨⟨(u,d),by show u≤d;omega,by show d≤B.length;omega,h3,fun t ht ht2=> ?_⟩,by show d-u<v-u;omega,Zaw rfl (Fc5 rfl rfl rfl rfl rfl) rfl rfl rfl⟩;have ht:d≤t:=ht
   by_cases e:t=d
   ·subst e;exact hx
   ·refine K.good.trans _ _ _ hx ?_;rw[getD_lt (by omega),getD_lt (by omega)];exact hB.lt_get K.good (by omega) (by omega)
 ·have c1:¬((X.length+1+u:Nat):Int)<((X.length+1+v:Nat):Int):=by omega
  have huv:v=u:=by omega
  subst huv;have hs:srt lt (x::B)=B.take v++x::B.drop v:=ZpY K.good (by rw[List.take_append_drop];exact hB) (fun p hp=>by
    obtain⟨t,ht,rfl⟩:=List.getElem_of_mem hp;rw[List.length_take]at ht;have:=h3 t (by omega);rw[getD_lt (by omega)]at this;simpa using this) (fun p hp=>by
    obtain⟨t,ht,rfl⟩:=List.getElem_of_mem hp;rw[List.length_drop]at ht;have:=h4 (v+t) (by omega) (by omega);rw[getD_lt (by omega)]at this;simpa using this) (by
    refine List.perm_middle.trans ?_;rw[List.take_append_drop])
  simp only[go_sem,c1];refine ZcM (ι:= { t:Nat // t≤v }) 220 (fun y=> [(0,.vsl 1000 n 15),(10,.int .i64 ((X.length+1+v:Nat):Int)),(13,.int .i64 ((X.length+y.1:Nat):Int))]) (fun _=> []) (fun _=> [(1000,.vec n 15 e)]) (fun _=> []) (fun _=> []) (fun y=> [(1000,(X++(B.take y.1++x::(B.drop y.1++Y))).map pv)]) (fun _=> []) [] [(1000,q)] [] (fun y=>v-y.1) ⟨0,Nat.zero_le _⟩
   (Zaw rfl (Fc3 rfl rfl rfl) rfl (by show some _=some _;simp) rfl) (fun x=>Zbw (by simp[PV.ids,PV.idsL,ZV]) (ZaC K.ids _)) (fun y=> ?_)
  obtain⟨t,ht⟩:=y;simp only;have w5:IntKind.i64.wrap (((X.length+1+v:Nat):Int)-1)=((X.length+v:Nat):Int):=by rw[ZdS (by omega) (by omega)];omega
  by_cases htv:t<v
  ·have c2:((X.length+t:Nat):Int)<((X.length+v:Nat):Int):=by omega
   have htB:t<B.length:=by omega
   obtain⟨p,hp⟩:∃p,p=X.length+t:=⟨_,rfl⟩;rw[←hp];rw[←hp]at c2;have w6:IntKind.i64.wrap ((p:Int)+1)=((p+1:Nat):Int):=by rw[ZdS (by omega) (by omega)];omega
   have el:X++(B.take t++x::(B.drop t++Y))=(X++B.take t)++x::([]++B.getD t default::(B.drop (t+1)++Y)):=by rw[ZbC htB];simp
   have en:X++(B.take (t+1)++x::(B.drop (t+1)++Y))=(X++B.take t)++B.getD t default::([]++x::(B.drop (t+1)++Y)):=by rw[Zg9 htB];simp
   have sw:=ZmG (X++B.take t) [] (B.drop (t+1)++Y) x (B.getD t default) (i:=p) (j:=p+1) (by simp;omega) (by simp;omega);rw[←en]at sw;have d0:((X++B.take t)++x::([]++B.getD t default::(B.drop (t+1)++Y))).getD p default=x:=ZaQ _ _ _ (by simp;omega);have d1:((X++B.take t)++x::([]++B.getD t default::(B.drop (t+1)++Y))).getD (p+1) default=B.getD t default:=by
    rw[show(X++B.take t)++x::([]++B.getD t default::(B.drop (t+1)++Y))=(X++B.take t++ [x])++B.getD t default::(B.drop (t+1)++Y)by simp,ZaQ _ _ _ (by simp;omega)]
   have hlen:((X++B.take t)++x::([]++B.getD t default::(B.drop (t+1)++Y))).length=n:=by simp;omega
   rw[el];generalize (X++B.take t)++x::([]++B.getD t default::(B.drop (t+1)++Y))=l at sw d0 d1 hlen ⊢;generalize B.getD t default=y at sw d0 d1 ⊢;unfold swap at sw
   rw[d0,d1]at sw;have g0:(l.map pv).getD p .any=pv x:=by rw[Z5 (by omega),d0]
   have g1:(l.map pv).getD (p+1) .any=pv y:=by rw[Z5 (by omega),d1]
   have g2:((l.set p y).map pv).getD (p+1) .any=pv y:=by rw[Z5 (by simp;omega),ZgL (by omega),d1]
   have b0:0≤(p:Int)∧(p:Int)<(n:Int):=by omega
   have b1:0≤((p+1:Nat):Int)∧((p+1:Nat):Int)<(n:Int):=by omega
   simp only[go_sem,w5,c2];refine Ze (by kernel_rfl) (by kernel_rfl) ?_;simp only[go_sem,w6,b1.1,b1.2,b0.1,b0.2,Int.toNat_natCast,g0,g1,klen,kpart,katom,kknown,List.length_map,hlen,Zg5,g2,List.length_set,sw,and_self];subst hp;exact⟨⟨t+1,by omega⟩,by show v-(t+1)<v-t;omega,Zaw rfl (Fc3 rfl rfl rfl) rfl rfl rfl⟩
  ·have c2:¬((X.length+t:Nat):Int)<((X.length+v:Nat):Int):=by omega
   have htv:t=v:=by omega
   subst htv;simp only[go_sem,w5,c2];refine ZeF (r0:= .tup []) (hcl _) rfl (.clean rfl) rfl ?_ rfl;show some _=some _;rw[hs];simp
end
open Go.PL Go.PL.Srt
section
variable {α:Type} [Inhabited α] {pv:α→PV} {g:FuncId} {lt:α→α→Bool} {cv:α→α→Int}
theorem ZmH (K:SortK pv g lt cv) (e:TypeId) (n:Nat) (X A Y:List α) (x:α) (hA:Inc lt A) (hU:∀y∈A,lt x y=true∨lt y x=true) (hA0:1<A.length) (hn:X.length+A.length+1+Y.length=n) (hm:n≤1000000000000) (l0 r:List PV) (hl0:l0=(X++(A++(x::Y))).map pv) (hr:r=(X++(srt lt (A++ [x])++Y)).map pv) (ia ib ic:Int) (ha:ia=(X.length:Int)) (hb:ib=((X.length+A.length:Nat):Int)) (hc:ic=((X.length+A.length+1:Nat):Int)):
  Eff Tryz.prog 147 [.vsl 1000 n 15,.int .i64 ia,.int .i64 ib,.int .i64 ic,.fn g []] (Zcw n 15 e l0) (.tup []) (Zcw n 15 e r):=by
 subst hr hl0 ha hb hc;have hcl:∀l:List α,∀p∈l.map pv,p.ids= []:=fun l=>ZbM K.ids l
 refine Eff.vw [] Tryz.func147 (by decide) rfl Tryz.ntmps147 Tryz.results147 (by simp) (hcl _) (hcl _) (by simp[PV.ids,PV.idsL]) (by simp[PV.ids,PV.idsL]) fun q=> ?_
 have klen:=K.len;have kpart:=K.part;have katom:=K.atom;have kknown:=K.known;simp only[go_sem]at klen kpart katom kknown;have w0:IntKind.i64.wrap (((X.length+A.length:Nat):Int)-(X.length:Int))=(A.length:Int):=by rw[ZdS (by omega) (by omega)];omega
 have w1:IntKind.i64.wrap (((X.length+A.length+1:Nat):Int)-((X.length+A.length:Nat):Int))=1:=by rw[ZdS (by omega) (by omega)];omega
 have c0:((A.length:Int)==1)=false:=by simp;omega
 have hl:(X++(A++(x::Y))).length=n:=by simp;omega
 simp only[go_sem,w0,w1,c0];refine ZcM (ι:= { uv:Nat×Nat // uv.1≤uv.2∧uv.2≤A.length∧(∀t,t<uv.1→lt (A.getD t default) x=true)∧ ∀t,uv.2≤t→t<A.length→lt x (A.getD t default)=true }) 220 (fun y=> [(0,.vsl 1000 n 15),(2,.int .i64 ((X.length+A.length:Nat):Int)),(4,.fn g []),(14,.int .i64 ((X.length+y.1.1:Nat):Int)),(15,.int .i64 ((X.length+y.1.2:Nat):Int))]) (fun _=> []) (fun _=> [(1000,.vec n 15 e)]) (fun _=> []) (fun _=> []) (fun y=> [(1000,(X++(A++(x::Y))).map pv)]) (fun _=> []) [] [(1000,q)] [] (fun y=>y.1.2-y.1.1) ⟨(0,A.length),Nat.zero_le _,Nat.le_refl _,fun t h=>absurd h (Nat.not_lt_zero _),fun t h1 h2=>absurd h2 (by omega)⟩
  (Zaw rfl (Fc5 rfl rfl rfl rfl rfl) rfl rfl rfl) (fun x=>Zbw (by simp[PV.ids,PV.idsL,ZV]) (ZaC K.ids _)) (fun y=> ?_)
 obtain⟨⟨u,v⟩,h1,h2,h3,h4⟩:=y;simp only at h1 h2 h3 h4 ⊢
 by_cases huv:u<v
 ·have c1:((X.length+u:Nat):Int)<((X.length+v:Nat):Int):=by omega
  have w2:IntKind.i64.wrap (((X.length+u:Nat):Int)+((X.length+v:Nat):Int))=(((X.length+u)+(X.length+v):Nat):Int):=by rw[ZdS (by omega) (by omega)];omega
  obtain⟨d,hd⟩:∃d,d=(u+v) / 2:=⟨_,rfl⟩;have hw:=Zjp (a:=X.length+u) (b:=X.length+v) (h:=X.length+d) (by omega) (by omega);have hdA:d<A.length:=by omega
  have g0:((X++(A++(x::Y))).map pv).getD (X.length+A.length) .any=pv x:=by
   rw[Z5 (by omega),show X++(A++(x::Y))=(X++A)++x::Y by simp];exact congrArg pv (ZaQ _ _ _ (by simp))
  have g1:((X++(A++(x::Y))).map pv).getD (X.length+d) .any=pv (A.getD d default):=by
   rw[Z5 (by omega),show X++(A++(x::Y))=(X++A.take d)++(A.drop d++(x::Y))by rw[List.append_assoc,←List.append_assoc (List.take d A),List.take_append_drop],ZbC hdA];exact congrArg pv (ZaQ _ _ _ (by simp;omega))
  have b0:0≤((X.length+A.length:Nat):Int)∧((X.length+A.length:Nat):Int)<(n:Int):=by omega
  have b1:0≤((X.length+d:Nat):Int)∧((X.length+d:Nat):Int)<(n:Int):=by omega
  have w3:IntKind.i64.wrap (((X.length+d:Nat):Int)+1)=((X.length+(d+1):Nat):Int):=by rw[ZdS (by omega) (by omega)];omega
  have hv:=K.cv x (A.getD d default);simp only[go_sem,c1,w2,hw];refine Ze (by kernel_rfl) (by kernel_rfl) ?_;simp only[go_sem,b1.1,b1.2,b0.1,b0.2,Int.toNat_natCast,g0,g1,klen,kpart,List.length_map,hl];refine Za (K.cmp x (A.getD d default)) ?_ ?_ ?_
  ·simp only[go_sem,K.give,K.givable]
  ·simp only[go_sem,K.give,K.givable]
  by_cases hlt:lt x (A.getD d default)=true
  ·rw[hlt]at hv;simp only[go_sem,hv,of_decide_eq_true hv,Bool.not_true];refine⟨⟨(u,d),by show u≤d;omega,by show d≤A.length;omega,h3,fun t ht ht2=> ?_⟩,by show d-u<v-u;omega,Zaw rfl (Fc5 rfl rfl rfl rfl rfl) rfl rfl rfl⟩;have ht:d≤t:=ht
   by_cases e:t=d
   ·subst e;exact hlt
   ·refine K.good.trans _ _ _ hlt ?_;rw[getD_lt (by omega),getD_lt (by omega)];exact hA.lt_get K.good (by omega) (by omega)
  ·have hv':¬cv x (A.getD d default)<0:=by
    have:lt x (A.getD d default)=false:=by simpa using hlt
    rw[this]at hv;simpa using hv
   have hx:lt (A.getD d default) x=true:=by
    rw[getD_lt hdA]at hlt ⊢;exact(hU _ (List.getElem_mem _)).resolve_left hlt
   simp only[go_sem,hv',Bool.not_false,w3];refine⟨⟨(d+1,v),by show d+1≤v;omega,h2,fun t ht=> ?_,h4⟩,by show v-(d+1)<v-u;omega,Zaw rfl (Fc5 rfl rfl rfl rfl rfl) rfl rfl rfl⟩;have ht:t<d+1:=ht
   by_cases e:t=d
   ·subst e;exact hx
   ·refine K.good.trans _ _ _ ?_ hx;rw[getD_lt (by omega),getD_lt (by omega)];exact hA.lt_get K.good (by omega) (by omega)
 ·have c1:¬((X.length+u:Nat):Int)<((X.length+v:Nat):Int):=by omega
  have huv:v=u:=by omega
  subst huv;have hs:srt lt (A++ [x])=A.take v++x::A.drop v:=ZpY K.good (by rw[List.take_append_drop];exact hA) (fun p hp=>by
    obtain⟨t,ht,rfl⟩:=List.getElem_of_mem hp;rw[List.length_take]at ht;have:=h3 t (by omega);rw[getD_lt (by omega)]at this;simpa using this) (fun p hp=>by
    obtain⟨t,ht,rfl⟩:=List.getElem_of_mem hp;rw[List.length_drop]at ht;have:=h4 (v+t) (by omega) (by omega);rw[getD_lt (by omega)]at this;simpa using this) (by
    refine List.perm_middle.trans ?_;rw[List.take_append_drop];exact List.perm_append_comm (l₁:= [x]))
  simp only[go_sem,c1];refine ZcM (ι:= { t:Nat // v≤t∧t≤A.length }) 220 (fun y=> [(0,.vsl 1000 n 15),(14,.int .i64 ((X.length+v:Nat):Int)),(17,.int .i64 ((X.length+y.1:Nat):Int))]) (fun _=> []) (fun _=> [(1000,.vec n 15 e)]) (fun _=> []) (fun _=> []) (fun y=> [(1000,(X++(A.take y.1++x::(A.drop y.1++Y))).map pv)]) (fun _=> []) [] [(1000,q)] [] (fun y=>y.1-v) ⟨A.length,h2,Nat.le_refl _⟩
   (Zaw rfl (Fc3 rfl rfl rfl) rfl (by show some _=some _;simp) rfl) (fun x=>Zbw (by simp[PV.ids,PV.idsL,ZV]) (ZaC K.ids _)) (fun y=> ?_)
  obtain⟨t,ht1,ht2⟩:=y;simp only
  by_cases htv:v<t
  ·obtain⟨t,rfl⟩:∃t',t=t'+1:=⟨t-1,by omega⟩;have c2:((X.length+v:Nat):Int)<((X.length+(t+1):Nat):Int):=by omega
   have htA:t<A.length:=by omega
   obtain⟨p,hp⟩:∃p,p=X.length+t:=⟨_,rfl⟩;have ep:X.length+(t+1)=p+1:=by omega
   rw[ep];rw[ep]at c2;have w6:IntKind.i64.wrap (((p+1:Nat):Int)-1)=(p:Int):=by rw[ZdS (by omega) (by omega)];omega
   have el:X++(A.take (t+1)++x::(A.drop (t+1)++Y))=(X++A.take t)++A.getD t default::([]++x::(A.drop (t+1)++Y)):=by rw[Zg9 htA];simp
   have en:X++(A.take t++x::(A.drop t++Y))=(X++A.take t)++x::([]++A.getD t default::(A.drop (t+1)++Y)):=by rw[ZbC htA];simp
   have sw:=ZmG (X++A.take t) [] (A.drop (t+1)++Y) (A.getD t default) x (i:=p) (j:=p+1) (by simp;omega) (by simp;omega);rw[←en]at sw;have d0:((X++A.take t)++A.getD t default::([]++x::(A.drop (t+1)++Y))).getD p default=A.getD t default:=ZaQ _ _ _ (by simp;omega);have d1:((X++A.take t)++A.getD t default::([]++x::(A.drop (t+1)++Y))).getD (p+1) default=x:=by
    rw[show(X++A.take t)++A.getD t default::([]++x::(A.drop (t+1)++Y))=(X++A.take t++ [A.getD t default])++x::(A.drop (t+1)++Y)by simp,ZaQ _ _ _ (by simp;omega)]
   have hlen:((X++A.take t)++A.getD t default::([]++x::(A.drop (t+1)++Y))).length=n:=by simp;omega
   rw[el];generalize (X++A.take t)++A.getD t default::([]++x::(A.drop (t+1)++Y))=l at sw d0 d1 hlen ⊢;generalize A.getD t default=y at sw d0 d1 ⊢;rw[Zox _ _ _ (by omega) (by omega)]at sw;unfold swap at sw
   rw[d0,d1]at sw;have g0:(l.map pv).getD p .any=pv y:=by rw[Z5 (by omega),d0]
   have g1:(l.map pv).getD (p+1) .any=pv x:=by rw[Z5 (by omega),d1]
   have g2:((l.set (p+1) y).map pv).getD p .any=pv y:=by rw[Z5 (by simp;omega),ZgL (by omega),d0]
   have b0:0≤(p:Int)∧(p:Int)<(n:Int):=by omega
   have b1:0≤((p+1:Nat):Int)∧((p+1:Nat):Int)<(n:Int):=by omega
   simp only[go_sem,c2];refine Ze (by kernel_rfl) (by kernel_rfl) ?_;simp only[go_sem,w6,b1.1,b1.2,b0.1,b0.2,Int.toNat_natCast,g0,g1,klen,kpart,katom,kknown,List.length_map,hlen,Zg5,g2,List.length_set,sw,and_self];subst hp;exact⟨⟨t,by omega,by omega⟩,by show t-v<t+1-v;omega,Zaw rfl (Fc3 rfl rfl rfl) rfl rfl rfl⟩
  ·have c2:¬((X.length+v:Nat):Int)<((X.length+t:Nat):Int):=by omega
   have htv:t=v:=by omega
   subst htv;simp only[go_sem,c2];refine ZeF (r0:= .tup []) (hcl _) rfl (.clean rfl) rfl ?_ rfl;show some _=some _;rw[hs];simp
end
end Go.Proofs.YthingdchjkhfbaaGreat
