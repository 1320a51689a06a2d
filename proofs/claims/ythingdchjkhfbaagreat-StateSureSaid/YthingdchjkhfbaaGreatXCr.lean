/- Contracts of functions and laws of this seat, each for every input that it names: lemmas of the proof. -/
import Derived.Test.YthingdchjkhfbaaGreatXCp
namespace Go.Proofs.YthingdchjkhfbaaGreat
set_option maxHeartbeats 64000000
set_option maxRecDepth 20000
set_option linter.unusedVariables false
set_option linter.unusedSectionVars false
set_option linter.unusedSimpArgs false
open Go.PL Go.PL.Srt
section
variable {α:Type} [Inhabited α] {pv:α→PV} {g:FuncId} {lt:α→α→Bool} {cv:α→α→Int}
theorem Inc.left {A B:List α} (h:Inc lt (A++B)):Inc lt A:=(Inc.append.1 h).1
theorem Inc.right {A B:List α} (h:Inc lt (A++B)):Inc lt B:=(Inc.append.1 h).2.1
theorem Zrc (gd:Srt.Good lt) {A B:List α} (hA:Inc lt A) (hB:Inc lt B) (hU:Unl lt (A++B)) (s H lo hi:Nat) (c1:lo≤s) (c2:s≤hi) (c3:hi≤H) (c4:hi≤A.length) (c5:H≤lo+B.length) (d1:lo=0∨lo+B.length=H) (d2:hi=H∨hi=A.length)
  (h3:∀t,lo≤t→t<s→lt (A.getD t default) (B.getD (H-1-t) default)=true) (h4:∀t,s≤t→t<hi→lt (B.getD (H-1-t) default) (A.getD t default)=true):
  ∃A1 A2 B1 B2,A=A1++A2∧B=B1++B2∧s=A1.length∧H=A1.length+B1.length∧srt lt (A++B)=srt lt (A1++B1)++srt lt (A2++B2):=by
 refine⟨A.take s,A.drop s,B.take (H-s),B.drop (H-s),(List.take_append_drop _ _).symm,(List.take_append_drop _ _).symm,by rw[List.length_take];omega,by rw[List.length_take,List.length_take];omega,?_⟩;refine ZwP gd hA hB hU s (H-s) (by omega) (by omega) (fun k1 k2=> ?_) (fun k1 k2=> ?_)
 ·have:=h3 (s-1) (by omega) (by omega);rw[getD_lt (by omega),getD_lt (by omega)]at this;have e:H-1-(s-1)=H-s:=by omega
  simpa only[e]using this
 ·have:=h4 s (by omega) (by omega);rw[getD_lt (by omega),getD_lt (by omega)]at this;have e:H-1-s=H-s-1:=by omega
  simpa only[e]using this
theorem Zih (K:SortK pv g lt cv) (e:TypeId) (n:Nat) (hm:n≤1000000000000) (tot:Nat):∀(X A B Y:List α) (_:A.length+B.length≤tot) (hA:Inc lt A) (hB:Inc lt B) (hU:Unl lt (A++B)) (_:0<A.length) (_:0<B.length) (hn:X.length+A.length+B.length+Y.length=n) (l0 r:List PV) (hl0:l0=(X++(A++(B++Y))).map pv) (hr:r=(X++(srt lt (A++B)++Y)).map pv) (ia ib ic:Int) (ha:ia=(X.length:Int)) (hb:ib=((X.length+A.length:Nat):Int)) (hc:ic=((X.length+A.length+B.length:Nat):Int)),
  Eff Tryz.prog 147 [.vsl 1000 n 15,.int .i64 ia,.int .i64 ib,.int .i64 ic,.fn g []] (Zcw n 15 e l0) (.tup []) (Zcw n 15 e r):=by
 induction tot with
 |zero=>intro X A B Y h1 _ _ _ h2;omega
 |succ tot ih=>
 intro X A B Y hT hA hB hU hA0 hB0 hn l0 r hl0 hr ia ib ic ha hb hc
 by_cases hA1:A.length=1
 ·obtain⟨x,rfl⟩:=List.length_eq_one_iff.1 hA1;refine Zoy K e n X B Y x hB (fun y hy=> ?_) hB0 (by simpa using hn) hm l0 r (by rw[hl0];rfl) (by rw[hr];rfl) ia ib ic ha hb hc;exact(Unl.append.1 hU).2.2 x (by simp) y hy
 by_cases hB1:B.length=1
 ·obtain⟨x,rfl⟩:=List.length_eq_one_iff.1 hB1;refine ZmH K e n X A Y x hA (fun y hy=> ?_) (by omega) (by simpa using hn) hm l0 r (by rw[hl0];rfl) (by rw[hr]) ia ib ic ha hb hc;exact((Unl.append.1 hU).2.2 y hy x (by simp)).symm
 subst hr hl0 ha hb hc;have hcl:∀l:List α,∀p∈l.map pv,p.ids= []:=fun l=>ZbM K.ids l
 refine Eff.vw [] Tryz.func147 (by decide) rfl Tryz.ntmps147 Tryz.results147 (by simp) (hcl _) (hcl _) (by simp[PV.ids,PV.idsL]) (by simp[PV.ids,PV.idsL]) fun q=> ?_
 have klen:=K.len;have kpart:=K.part;simp only[go_sem]at klen kpart;obtain⟨H,hH⟩:∃H,H=(A.length+B.length) / 2:=⟨_,rfl⟩;have w0:IntKind.i64.wrap (((X.length+A.length:Nat):Int)-(X.length:Int))=(A.length:Int):=by rw[ZdS (by omega) (by omega)];omega
 have w1:IntKind.i64.wrap (((X.length+A.length+B.length:Nat):Int)-((X.length+A.length:Nat):Int))=(B.length:Int):=by rw[ZdS (by omega) (by omega)];omega
 have c0:((A.length:Int)==1)=false:=by simp;omega
 have c1:((B.length:Int)==1)=false:=by simp;omega
 have w2:IntKind.i64.wrap ((X.length:Int)+((X.length+A.length+B.length:Nat):Int))=((X.length+(X.length+A.length+B.length):Nat):Int):=by rw[ZdS (by omega) (by omega)];omega
 have hw:=Zjp (a:=X.length) (b:=X.length+A.length+B.length) (h:=X.length+H) (by omega) (by omega);have w3:IntKind.i64.wrap (((X.length+H:Nat):Int)+((X.length+A.length:Nat):Int))=((X.length+H+(X.length+A.length):Nat):Int):=by rw[ZdS (by omega) (by omega)];omega
 have w4:IntKind.i64.wrap (((X.length+H+(X.length+A.length):Nat):Int)-1)=((X.length+H+(X.length+A.length)-1:Nat):Int):=by rw[ZdS (by omega) (by omega)];omega
 have hl:(X++(A++(B++Y))).length=n:=by simp;omega
 obtain⟨lo,hi,hlh⟩:∃lo hi,(H<A.length∧lo=H-B.length∧hi=H)∨(A.length≤H∧lo=0∧hi=A.length):=by
  by_cases h:H<A.length
  ·exact⟨_,_,.inl ⟨h,rfl,rfl⟩⟩
  ·exact⟨_,_,.inr ⟨by omega,rfl,rfl⟩⟩
 have w5:H<A.length→IntKind.i64.wrap (((X.length+H+(X.length+A.length):Nat):Int)-((X.length+A.length+B.length:Nat):Int))=((X.length+(H-B.length):Nat):Int):=fun h=>by rw[ZdS (by omega) (by omega)];omega
 have w6:(X.length:Int)=((X.length+0:Nat):Int):=by simp
 have hlh2:=hlh;rcases hlh with ⟨hc,hlo,hhi⟩|⟨hc,hlo,hhi⟩
 ·have c2:((X.length+H:Nat):Int)<((X.length+A.length:Nat):Int):=by omega
  simp only[go_sem,w0,w1,c0,c1,w2,hw,w3,w4,c2,w5 hc];rw[←hlo];have e1:X.length+H=X.length+hi:=by rw[hhi]
  refine ZcM (ι:= { uv:Nat×Nat // lo≤uv.1∧uv.1≤uv.2∧uv.2≤hi∧(∀t,lo≤t→t<uv.1→lt (A.getD t default) (B.getD (H-1-t) default)=true)∧ ∀t,uv.2≤t→t<hi→lt (B.getD (H-1-t) default) (A.getD t default)=true }) 220 (fun y=> [(0,.vsl 1000 n 15),(1,.int .i64 (X.length:Int)),(2,.int .i64 ((X.length+A.length:Nat):Int)),(3,.int .i64 ((X.length+A.length+B.length:Nat):Int)),(4,.fn g []),(18,.int .i64 ((X.length+H:Nat):Int)),(19,.int .i64 ((X.length+H+(X.length+A.length):Nat):Int)),(20,.int .i64 ((X.length+y.1.1:Nat):Int)),(21,.int .i64 ((X.length+y.1.2:Nat):Int)),(22,.int .i64 ((X.length+H+(X.length+A.length)-1:Nat):Int))]) (fun _=> []) (fun _=> [(1000,.vec n 15 e)]) (fun _=> []) (fun _=> []) (fun y=> [(1000,(X++(A++(B++Y))).map pv)]) (fun _=> []) [] [(1000,q)] [] (fun y=>y.1.2-y.1.1) ⟨(lo,hi),Nat.le_refl _,by show lo≤hi;omega,Nat.le_refl _,fun t h1 h2=>absurd h1 (by have:t<lo:=h2;omega),fun t h1 h2=>absurd h2 (by have:hi≤t:=h1;omega)⟩
   (Zaw rfl (by subst hhi;exact(Fc10 rfl rfl rfl rfl rfl rfl rfl rfl rfl rfl)) rfl rfl rfl) (fun x=>Zbw (by simp[PV.ids,PV.idsL,ZV]) (ZaC K.ids _)) (fun y=> ?_)
  obtain⟨⟨u,v⟩,h0,h1,h2,h3,h4⟩:=y;simp only at h0 h1 h2 h3 h4 ⊢
  by_cases huv:u<v
  ·have c3:((X.length+u:Nat):Int)<((X.length+v:Nat):Int):=by omega
   have w7:IntKind.i64.wrap (((X.length+u:Nat):Int)+((X.length+v:Nat):Int))=(((X.length+u)+(X.length+v):Nat):Int):=by rw[ZdS (by omega) (by omega)];omega
   obtain⟨d,hd⟩:∃d,d=(u+v) / 2:=⟨_,rfl⟩;have hw2:=Zjp (a:=X.length+u) (b:=X.length+v) (h:=X.length+d) (by omega) (by omega);obtain⟨f,hf⟩:∃f,f=H-1-d:=⟨_,rfl⟩;have hdA:d<A.length:=by omega
   have hfB:f<B.length:=by omega
   have w8:IntKind.i64.wrap (((X.length+H+(X.length+A.length)-1:Nat):Int)-((X.length+d:Nat):Int))=((X.length+A.length+f:Nat):Int):=by rw[ZdS (by omega) (by omega)];omega
   have g0:((X++(A++(B++Y))).map pv).getD (X.length+A.length+f) .any=pv (B.getD f default):=by
    rw[Z5 (by omega),show X++(A++(B++Y))=(X++(A++B.take f))++(B.drop f++Y)by rw[List.append_assoc,List.append_assoc,←List.append_assoc (List.take f B),List.take_append_drop],ZbC hfB];exact congrArg pv (ZaQ _ _ _ (by simp;omega))
   have g1:((X++(A++(B++Y))).map pv).getD (X.length+d) .any=pv (A.getD d default):=by
    rw[Z5 (by omega),show X++(A++(B++Y))=(X++A.take d)++(A.drop d++(B++Y))by rw[List.append_assoc,←List.append_assoc (List.take d A),List.take_append_drop],ZbC hdA];exact congrArg pv (ZaQ _ _ _ (by simp;omega))
   have b0:0≤((X.length+A.length+f:Nat):Int)∧((X.length+A.length+f:Nat):Int)<(n:Int):=by omega
   have b1:0≤((X.length+d:Nat):Int)∧((X.length+d:Nat):Int)<(n:Int):=by omega
   have w9:IntKind.i64.wrap (((X.length+d:Nat):Int)+1)=((X.length+(d+1):Nat):Int):=by rw[ZdS (by omega) (by omega)];omega
   have hv:=K.cv (B.getD f default) (A.getD d default);simp only[go_sem,c3,w7,hw2];refine Ze (by kernel_rfl) (by kernel_rfl) ?_;simp only[go_sem,w8,b1.1,b1.2,b0.1,b0.2,Int.toNat_natCast,g0,g1,klen,kpart,List.length_map,hl];refine Za (K.cmp (B.getD f default) (A.getD d default)) ?_ ?_ ?_
   ·simp only[go_sem,K.give,K.givable]
   ·simp only[go_sem,K.give,K.givable]
   have hxy:lt (A.getD d default) (B.getD f default)=true∨lt (B.getD f default) (A.getD d default)=true:=by
    rw[getD_lt hdA,getD_lt hfB];exact(Unl.append.1 hU).2.2 _ (List.getElem_mem _) _ (List.getElem_mem _)
   by_cases hlt:lt (B.getD f default) (A.getD d default)=true
   ·rw[hlt]at hv;simp only[go_sem,hv,of_decide_eq_true hv,Bool.not_true];refine⟨⟨(u,d),h0,by show u≤d;omega,by show d≤hi;omega,h3,fun t ht ht2=> ?_⟩,by show d-u<v-u;omega,Zaw rfl (Fc10 rfl rfl rfl rfl rfl rfl rfl rfl rfl rfl) rfl rfl rfl⟩;have ht:d≤t:=ht
    by_cases et:t=d
    ·subst et;rw[←hf];exact hlt
    ·have i1:lt (A.getD d default) (A.getD t default)=true:=by
      rw[getD_lt (by omega),getD_lt (by omega)];exact hA.lt_get K.good (by omega) (by omega)
     have i2:lt (B.getD (H-1-t) default) (B.getD f default)=true:=by
      rw[getD_lt (by omega),getD_lt (by omega)];exact hB.lt_get K.good (by omega) (by omega)
     exact K.good.trans _ _ _ i2 (K.good.trans _ _ _ hlt i1)
   ·have hv':¬cv (B.getD f default) (A.getD d default)<0:=by
     have:lt (B.getD f default) (A.getD d default)=false:=by simpa using hlt
     rw[this]at hv;simpa using hv
    have hx:=hxy.resolve_right hlt;simp only[go_sem,hv',Bool.not_false,w9];refine⟨⟨(d+1,v),by show lo≤d+1;omega,by show d+1≤v;omega,h2,fun t ht1 ht=> ?_,h4⟩,by show v-(d+1)<v-u;omega,Zaw rfl (Fc10 rfl rfl rfl rfl rfl rfl rfl rfl rfl rfl) rfl rfl rfl⟩;have ht:t<d+1:=ht
    by_cases et:t=d
    ·subst et;rw[←hf];exact hx
    ·have i1:lt (A.getD t default) (A.getD d default)=true:=by
      rw[getD_lt (by omega),getD_lt (by omega)];exact hA.lt_get K.good (by omega) (by omega)
     have ht1:lo≤t:=ht1;have i2:lt (B.getD f default) (B.getD (H-1-t) default)=true:=by
      rw[getD_lt (by omega),getD_lt (by omega)];exact hB.lt_get K.good (by omega) (by omega)
     exact K.good.trans _ _ _ i1 (K.good.trans _ _ _ hx i2)
  ·have c3:¬((X.length+u:Nat):Int)<((X.length+v:Nat):Int):=by omega
   have huv:v=u:=by omega
   subst huv;have hex:=Zrc K.good hA hB hU v H lo hi h0 h2 (by omega) (by omega) (by omega) (by omega) (by omega) h3 h4;obtain⟨A1,A2,B1,B2,eA,eB,l1,l2,hsp⟩:=hex;have lA:A.length=A1.length+A2.length:=by rw[eA];simp
   have lB:B.length=B1.length+B2.length:=by rw[eB];simp
   have iA:Inc lt (A1++A2):=eA▸hA;have iB:Inc lt (B1++B2):=eB▸hB;have iU:Unl lt ((A1++A2)++(B1++B2)):=by rw[←eA,←eB];exact hU
   have iU1:Unl lt (A1++B1):=List.Pairwise.sublist (List.Sublist.append (List.sublist_append_left _ _) (List.sublist_append_left _ _)) iU;have iU2:Unl lt (A2++B2):=List.Pairwise.sublist (List.Sublist.append (List.sublist_append_right _ _) (List.sublist_append_right _ _)) iU;have el:X++(A++(B++Y))=X++(A1++(A2++(B1++(B2++Y)))):=by rw[eA,eB];simp
   have wE:IntKind.i64.wrap (((X.length+H+(X.length+A.length):Nat):Int)-((X.length+v:Nat):Int))=((X.length+A.length+(H-v):Nat):Int):=by rw[ZdS (by omega) (by omega)];omega
   by_cases k1:((X.length+v:Nat):Int)<((X.length+A.length:Nat):Int)<;>by_cases k2:((X.length+A.length:Nat):Int)<((X.length+A.length+(H-v):Nat):Int)<;>by_cases k3:(X.length:Int)<((X.length+v:Nat):Int)<;>by_cases k4:((X.length+v:Nat):Int)<((X.length+H:Nat):Int)<;>by_cases k5:((X.length+H:Nat):Int)<((X.length+A.length+(H-v):Nat):Int)<;>by_cases k6:((X.length+A.length+(H-v):Nat):Int)<((X.length+A.length+B.length:Nat):Int)<;>first|(exfalso;omega)|(simp only[go_sem,c3,wE,k1,k2,k3,k4,k5,k6];rw[el])
   all_goals first
    |(refine Za4 1000 (Zlu K e n (X++A1) A2 B1 (B2++Y) (by omega) (by omega) (by simp;omega) hm _ ((X++(A1++(B1++(A2++(B2++Y))))).map pv) (by simp) (by simp) _ _ _ (by simp;omega) (by simp;omega) (by simp;omega)) (by simp[PV.ids,PV.idsL]) (hcl _) (hcl _) rfl rfl rfl ?_;simp only[go_sem,k1,k2,k3,k4,k5,k6])
    |rw[show X++(A1++(A2++(B1++(B2++Y))))=X++(A1++(B1++(A2++(B2++Y))))from by
      have hz:A2.length=0∨B1.length=0:=by omega
      rcases hz with hz|hz<;>rw[List.length_eq_zero_iff]at hz<;>simp[hz]]
   all_goals first
    |(refine Za4 1000 (ih X A1 B1 (A2++(B2++Y)) (by omega) (Inc.left iA) (Inc.left iB) iU1 (by omega) (by omega) (by simp;omega) _ ((X++(srt lt (A1++B1)++(A2++(B2++Y)))).map pv) rfl rfl _ _ _ rfl (by omega) (by omega)) (by simp[PV.ids,PV.idsL]) (hcl _) (hcl _) rfl rfl rfl ?_;simp only[go_sem,k1,k2,k3,k4,k5,k6])
    |rw[show X++(A1++(B1++(A2++(B2++Y))))=X++(srt lt (A1++B1)++(A2++(B2++Y)))from by
      have hz:A1.length=0∨B1.length=0:=by omega
      rcases hz with hz|hz<;>rw[List.length_eq_zero_iff]at hz<;>simp[hz,ZbZ K.good (Inc.left iA),ZbZ K.good (Inc.left iB)]]
   all_goals first
    |(refine Za4 1000 (ih (X++srt lt (A1++B1)) A2 B2 Y (by omega) (Inc.right iA) (Inc.right iB) iU2 (by omega) (by omega) (by simp[ZM];omega) _ ((X++(srt lt (A1++B1)++(srt lt (A2++B2)++Y))).map pv) (by simp) (by simp) _ _ _ (by simp[ZM];omega) (by simp[ZM];omega) (by simp[ZM];omega)) (by simp[PV.ids,PV.idsL]) (hcl _) (hcl _) rfl rfl rfl ?_;simp only[go_sem,k1,k2,k3,k4,k5,k6])
    |rw[show X++(srt lt (A1++B1)++(A2++(B2++Y)))=X++(srt lt (A1++B1)++(srt lt (A2++B2)++Y))from by
      have hz:A2.length=0∨B2.length=0:=by omega
      rcases hz with hz|hz<;>rw[List.length_eq_zero_iff]at hz<;>simp[hz,ZbZ K.good (Inc.right iA),ZbZ K.good (Inc.right iB)]]
   all_goals
    refine ZeF (r0:= .tup []) (hcl _) rfl (.clean rfl) rfl ?_ rfl;show some _=some _;rw[hsp];simp
 ·have c2:¬((X.length+H:Nat):Int)<((X.length+A.length:Nat):Int):=by omega
  simp only[go_sem,w0,w1,c0,c1,w2,hw,w3,w4,c2];refine ZcM (ι:= { uv:Nat×Nat // lo≤uv.1∧uv.1≤uv.2∧uv.2≤hi∧(∀t,lo≤t→t<uv.1→lt (A.getD t default) (B.getD (H-1-t) default)=true)∧ ∀t,uv.2≤t→t<hi→lt (B.getD (H-1-t) default) (A.getD t default)=true }) 220 (fun y=> [(0,.vsl 1000 n 15),(1,.int .i64 (X.length:Int)),(2,.int .i64 ((X.length+A.length:Nat):Int)),(3,.int .i64 ((X.length+A.length+B.length:Nat):Int)),(4,.fn g []),(18,.int .i64 ((X.length+H:Nat):Int)),(19,.int .i64 ((X.length+H+(X.length+A.length):Nat):Int)),(20,.int .i64 ((X.length+y.1.1:Nat):Int)),(21,.int .i64 ((X.length+y.1.2:Nat):Int)),(22,.int .i64 ((X.length+H+(X.length+A.length)-1:Nat):Int))]) (fun _=> []) (fun _=> [(1000,.vec n 15 e)]) (fun _=> []) (fun _=> []) (fun y=> [(1000,(X++(A++(B++Y))).map pv)]) (fun _=> []) [] [(1000,q)] [] (fun y=>y.1.2-y.1.1) ⟨(lo,hi),Nat.le_refl _,by show lo≤hi;omega,Nat.le_refl _,fun t h1 h2=>absurd h1 (by have:t<lo:=h2;omega),fun t h1 h2=>absurd h2 (by have:hi≤t:=h1;omega)⟩
   (Zaw rfl (by subst hhi hlo;exact(Fc10 rfl rfl rfl rfl rfl rfl rfl rfl rfl rfl)) rfl rfl rfl) (fun x=>Zbw (by simp[PV.ids,PV.idsL,ZV]) (ZaC K.ids _)) (fun y=> ?_)
  obtain⟨⟨u,v⟩,h0,h1,h2,h3,h4⟩:=y;simp only at h0 h1 h2 h3 h4 ⊢
  by_cases huv:u<v
  ·have c3:((X.length+u:Nat):Int)<((X.length+v:Nat):Int):=by omega
   have w7:IntKind.i64.wrap (((X.length+u:Nat):Int)+((X.length+v:Nat):Int))=(((X.length+u)+(X.length+v):Nat):Int):=by rw[ZdS (by omega) (by omega)];omega
   obtain⟨d,hd⟩:∃d,d=(u+v) / 2:=⟨_,rfl⟩;have hw2:=Zjp (a:=X.length+u) (b:=X.length+v) (h:=X.length+d) (by omega) (by omega);obtain⟨f,hf⟩:∃f,f=H-1-d:=⟨_,rfl⟩;have hdA:d<A.length:=by omega
   have hfB:f<B.length:=by omega
   have w8:IntKind.i64.wrap (((X.length+H+(X.length+A.length)-1:Nat):Int)-((X.length+d:Nat):Int))=((X.length+A.length+f:Nat):Int):=by rw[ZdS (by omega) (by omega)];omega
   have g0:((X++(A++(B++Y))).map pv).getD (X.length+A.length+f) .any=pv (B.getD f default):=by
    rw[Z5 (by omega),show X++(A++(B++Y))=(X++(A++B.take f))++(B.drop f++Y)by rw[List.append_assoc,List.append_assoc,←List.append_assoc (List.take f B),List.take_append_drop],ZbC hfB];exact congrArg pv (ZaQ _ _ _ (by simp;omega))
   have g1:((X++(A++(B++Y))).map pv).getD (X.length+d) .any=pv (A.getD d default):=by
    rw[Z5 (by omega),show X++(A++(B++Y))=(X++A.take d)++(A.drop d++(B++Y))by rw[List.append_assoc,←List.append_assoc (List.take d A),List.take_append_drop],ZbC hdA];exact congrArg pv (ZaQ _ _ _ (by simp;omega))
   have b0:0≤((X.length+A.length+f:Nat):Int)∧((X.length+A.length+f:Nat):Int)<(n:Int):=by omega
   have b1:0≤((X.length+d:Nat):Int)∧((X.length+d:Nat):Int)<(n:Int):=by omega
   have w9:IntKind.i64.wrap (((X.length+d:Nat):Int)+1)=((X.length+(d+1):Nat):Int):=by rw[ZdS (by omega) (by omega)];omega
   have hv:=K.cv (B.getD f default) (A.getD d default);simp only[go_sem,c3,w7,hw2];refine Ze (by kernel_rfl) (by kernel_rfl) ?_;simp only[go_sem,w8,b1.1,b1.2,b0.1,b0.2,Int.toNat_natCast,g0,g1,klen,kpart,List.length_map,hl];refine Za (K.cmp (B.getD f default) (A.getD d default)) ?_ ?_ ?_
   ·simp only[go_sem,K.give,K.givable]
   ·simp only[go_sem,K.give,K.givable]
   have hxy:lt (A.getD d default) (B.getD f default)=true∨lt (B.getD f default) (A.getD d default)=true:=by
    rw[getD_lt hdA,getD_lt hfB];exact(Unl.append.1 hU).2.2 _ (List.getElem_mem _) _ (List.getElem_mem _)
   by_cases hlt:lt (B.getD f default) (A.getD d default)=true
   ·rw[hlt]at hv;simp only[go_sem,hv,of_decide_eq_true hv,Bool.not_true];refine⟨⟨(u,d),h0,by show u≤d;omega,by show d≤hi;omega,h3,fun t ht ht2=> ?_⟩,by show d-u<v-u;omega,Zaw rfl (Fc10 rfl rfl rfl rfl rfl rfl rfl rfl rfl rfl) rfl rfl rfl⟩;have ht:d≤t:=ht
    by_cases et:t=d
    ·subst et;rw[←hf];exact hlt
    ·have i1:lt (A.getD d default) (A.getD t default)=true:=by
      rw[getD_lt (by omega),getD_lt (by omega)];exact hA.lt_get K.good (by omega) (by omega)
     have i2:lt (B.getD (H-1-t) default) (B.getD f default)=true:=by
      rw[getD_lt (by omega),getD_lt (by omega)];exact hB.lt_get K.good (by omega) (by omega)
     exact K.good.trans _ _ _ i2 (K.good.trans _ _ _ hlt i1)
   ·have hv':¬cv (B.getD f default) (A.getD d default)<0:=by
     have:lt (B.getD f default) (A.getD d default)=false:=by simpa using hlt
     rw[this]at hv;simpa using hv
    have hx:=hxy.resolve_right hlt;simp only[go_sem,hv',Bool.not_false,w9];refine⟨⟨(d+1,v),by show lo≤d+1;omega,by show d+1≤v;omega,h2,fun t ht1 ht=> ?_,h4⟩,by show v-(d+1)<v-u;omega,Zaw rfl (Fc10 rfl rfl rfl rfl rfl rfl rfl rfl rfl rfl) rfl rfl rfl⟩;have ht:t<d+1:=ht
    by_cases et:t=d
    ·subst et;rw[←hf];exact hx
    ·have i1:lt (A.getD t default) (A.getD d default)=true:=by
      rw[getD_lt (by omega),getD_lt (by omega)];exact hA.lt_get K.good (by omega) (by omega)
     have ht1:lo≤t:=ht1;have i2:lt (B.getD f default) (B.getD (H-1-t) default)=true:=by
      rw[getD_lt (by omega),getD_lt (by omega)];exact hB.lt_get K.good (by omega) (by omega)
     exact K.good.trans _ _ _ i1 (K.good.trans _ _ _ hx i2)
  ·have c3:¬((X.length+u:Nat):Int)<((X.length+v:Nat):Int):=by omega
   have huv:v=u:=by omega
   subst huv;have hex:=Zrc K.good hA hB hU v H lo hi h0 h2 (by omega) (by omega) (by omega) (by omega) (by omega) h3 h4;obtain⟨A1,A2,B1,B2,eA,eB,l1,l2,hsp⟩:=hex;have lA:A.length=A1.length+A2.length:=by rw[eA];simp
   have lB:B.length=B1.length+B2.length:=by rw[eB];simp
   have iA:Inc lt (A1++A2):=eA▸hA;have iB:Inc lt (B1++B2):=eB▸hB;have iU:Unl lt ((A1++A2)++(B1++B2)):=by rw[←eA,←eB];exact hU
   have iU1:Unl lt (A1++B1):=List.Pairwise.sublist (List.Sublist.append (List.sublist_append_left _ _) (List.sublist_append_left _ _)) iU;have iU2:Unl lt (A2++B2):=List.Pairwise.sublist (List.Sublist.append (List.sublist_append_right _ _) (List.sublist_append_right _ _)) iU;have el:X++(A++(B++Y))=X++(A1++(A2++(B1++(B2++Y)))):=by rw[eA,eB];simp
   have wE:IntKind.i64.wrap (((X.length+H+(X.length+A.length):Nat):Int)-((X.length+v:Nat):Int))=((X.length+A.length+(H-v):Nat):Int):=by rw[ZdS (by omega) (by omega)];omega
   by_cases k1:((X.length+v:Nat):Int)<((X.length+A.length:Nat):Int)<;>by_cases k2:((X.length+A.length:Nat):Int)<((X.length+A.length+(H-v):Nat):Int)<;>by_cases k3:(X.length:Int)<((X.length+v:Nat):Int)<;>by_cases k4:((X.length+v:Nat):Int)<((X.length+H:Nat):Int)<;>by_cases k5:((X.length+H:Nat):Int)<((X.length+A.length+(H-v):Nat):Int)<;>by_cases k6:((X.length+A.length+(H-v):Nat):Int)<((X.length+A.length+B.length:Nat):Int)<;>first|(exfalso;omega)|(simp only[go_sem,c3,wE,k1,k2,k3,k4,k5,k6];rw[el])
   all_goals first
    |(refine Za4 1000 (Zlu K e n (X++A1) A2 B1 (B2++Y) (by omega) (by omega) (by simp;omega) hm _ ((X++(A1++(B1++(A2++(B2++Y))))).map pv) (by simp) (by simp) _ _ _ (by simp;omega) (by simp;omega) (by simp;omega)) (by simp[PV.ids,PV.idsL]) (hcl _) (hcl _) rfl rfl rfl ?_;simp only[go_sem,k1,k2,k3,k4,k5,k6])
    |rw[show X++(A1++(A2++(B1++(B2++Y))))=X++(A1++(B1++(A2++(B2++Y))))from by
      have hz:A2.length=0∨B1.length=0:=by omega
      rcases hz with hz|hz<;>rw[List.length_eq_zero_iff]at hz<;>simp[hz]]
   all_goals first
    |(refine Za4 1000 (ih X A1 B1 (A2++(B2++Y)) (by omega) (Inc.left iA) (Inc.left iB) iU1 (by omega) (by omega) (by simp;omega) _ ((X++(srt lt (A1++B1)++(A2++(B2++Y)))).map pv) rfl rfl _ _ _ rfl (by omega) (by omega)) (by simp[PV.ids,PV.idsL]) (hcl _) (hcl _) rfl rfl rfl ?_;simp only[go_sem,k1,k2,k3,k4,k5,k6])
    |rw[show X++(A1++(B1++(A2++(B2++Y))))=X++(srt lt (A1++B1)++(A2++(B2++Y)))from by
      have hz:A1.length=0∨B1.length=0:=by omega
      rcases hz with hz|hz<;>rw[List.length_eq_zero_iff]at hz<;>simp[hz,ZbZ K.good (Inc.left iA),ZbZ K.good (Inc.left iB)]]
   all_goals first
    |(refine Za4 1000 (ih (X++srt lt (A1++B1)) A2 B2 Y (by omega) (Inc.right iA) (Inc.right iB) iU2 (by omega) (by omega) (by simp[ZM];omega) _ ((X++(srt lt (A1++B1)++(srt lt (A2++B2)++Y))).map pv) (by simp) (by simp) _ _ _ (by simp[ZM];omega) (by simp[ZM];omega) (by simp[ZM];omega)) (by simp[PV.ids,PV.idsL]) (hcl _) (hcl _) rfl rfl rfl ?_;simp only[go_sem,k1,k2,k3,k4,k5,k6])
    |rw[show X++(srt lt (A1++B1)++(A2++(B2++Y)))=X++(srt lt (A1++B1)++(srt lt (A2++B2)++Y))from by
      have hz:A2.length=0∨B2.length=0:=by omega
      rcases hz with hz|hz<;>rw[List.length_eq_zero_iff]at hz<;>simp[hz,ZbZ K.good (Inc.right iA),ZbZ K.good (Inc.right iB)]]
   all_goals
    refine ZeF (r0:= .tup []) (hcl _) rfl (.clean rfl) rfl ?_ rfl;show some _=some _;rw[hsp];simp
end
open Go.PL Go.PL.Srt
section
variable {α:Type} [Inhabited α] {pv:α→PV} {g:FuncId} {lt:α→α→Bool} {cv:α→α→Int}
inductive Blk (lt:α→α→Bool) (bs:Nat):List α→List α→Prop
 |last (l:List α) (h:l.length≤bs):Blk lt bs l (srt lt l)
 |more (l l' r':List α) (h:l.length=bs) (t:Blk lt bs l' r'):Blk lt bs (l++l') (srt lt l++r')
theorem Blk.small {bs:Nat} (hb:0<bs) {R C:List α} (h:Blk lt bs R C) (hR:R.length≤bs):C=srt lt R:=by
 cases h with
 |last l h=>rfl
 |more l l' r' h t=>
  simp only[List.length_append]at hR;have:l'= []:=List.length_eq_zero_iff.1 (by omega);subst this;have hr:r'= []:=by
   generalize hx:([]:List α)=x at t;cases t with
   |last l h=>subst hx;rfl
   |more l2 l3 r3 h t=>
    have:=congrArg List.length hx;simp only[List.length_nil,List.length_append]at this;omega
  subst hr;simp
theorem Blk.first {bs:Nat} {R C:List α} (h:Blk lt bs R C) (hR:bs<R.length):∃l l' r',R=l++l'∧C=srt lt l++r'∧l.length=bs∧Blk lt bs l' r':=by
 cases h with
 |last l h=>omega
 |more l l' r' h t=>exact⟨l,l',r',rfl,rfl,h,t⟩
theorem Blk.len {bs:Nat} {R C:List α} (h:Blk lt bs R C):C.length=R.length:=by
 induction h with
 |last l h=>exact ZM l
 |more l l' r' h t ih=>simp[ZM,ih]
theorem Blk.nil (bs:Nat):Blk lt bs ([]:List α) []:= .last [] (Nat.zero_le _)
theorem Blk.two {bs:Nat} (hb:0<bs) {R C:List α} (h:Blk lt bs R C) (hR:2*bs≤R.length):∃l1 l2 R2 C2,R=l1++(l2++R2)∧C=srt lt l1++(srt lt l2++C2)∧l1.length=bs∧l2.length=bs∧Blk lt bs R2 C2:=by
 obtain⟨l1,l',r',rfl,rfl,h1,t⟩:=h.first (by omega)
 simp only[List.length_append]at hR
 by_cases h2:bs<l'.length
 ·obtain⟨l2,l3,r3,rfl,rfl,h3,t3⟩:=t.first h2
  exact⟨l1,l2,l3,r3,rfl,rfl,h1,h3,t3⟩
 ·have:=t.small hb (by omega);subst this;exact⟨l1,l',[],[],by simp,by simp,h1,by omega,Blk.nil bs⟩
theorem ZuO (gd:Srt.Good lt) {l1 l2:List α} (h:Unl lt (l1++l2)):srt lt (srt lt l1++srt lt l2)=srt lt (l1++l2):=
 (Zoq gd h ((Za2 l1).append (Za2 l2)).symm).symm
theorem ZmQ {A B:List α} (h:Unl lt B) (s:A.Sublist B):Unl lt A:=List.Pairwise.sublist s h
theorem Zid (K:SortK pv g lt cv) (e:TypeId) (n:Nat) (X L Y:List α) (hU:Unl lt L) (hn:X.length+L.length+Y.length=n) (hm:n≤1000000000000) (l0 r:List PV) (hl0:l0=(X++(L++Y)).map pv) (hr:r=(X++(srt lt L++Y)).map pv) (ia ib:Int) (ha:ia=(X.length:Int)) (hb:ib=((X.length+L.length:Nat):Int)):
  Eff Tryz.prog 146 [.vsl 1000 n 15,.int .i64 ia,.int .i64 ib,.fn g []] (Zcw n 15 e l0) (.tup []) (Zcw n 15 e r):=by
 subst ha hb hl0;exact Zmg K e n X L Y hU hn hm r hr
theorem ZsB (K:SortK pv g lt cv) (e:TypeId) (n:Nat) (hm:n≤1000000000000) (L:List α) (hU:Unl lt L) (hn:L.length=n) (r:List PV) (hr:r=(srt lt L).map pv):
  Eff Tryz.prog 106 [.vsl 1000 n 15,.int .i64 (n:Int),.fn g []] (Zcw n 15 e (L.map pv)) (.tup []) (Zcw n 15 e r):=by
 subst hr;have hcl:∀l:List α,∀p∈l.map pv,p.ids= []:=fun l=>ZbM K.ids l
 refine Eff.vw [] Tryz.func106 (by decide) rfl Tryz.ntmps106 Tryz.results106 (by simp) (hcl _) (hcl _) (by simp[PV.ids,PV.idsL]) (by simp[PV.ids,PV.idsL]) fun q=> ?_
 simp only[go_sem];refine ZcM (ι:= { s:List α×List α // (∀C,Blk lt 20 s.2 C→Blk lt 20 L (s.1++C))∧s.1.length+s.2.length=n∧s.2.Sublist L }) 63 (fun y=> [(0,.vsl 1000 n 15),(1,.int .i64 (n:Int)),(2,.fn g []),(6,.int .i64 20),(7,.int .i64 (y.1.1.length:Int)),(8,.int .i64 ((y.1.1.length+20:Nat):Int))]) (fun _=> []) (fun _=> [(1000,.vec n 15 e)]) (fun _=> []) (fun _=> []) (fun y=> [(1000,(y.1.1++y.1.2).map pv)]) (fun _=> []) [] [(1000,q)] [] (fun y=>y.1.2.length) ⟨([],L),fun C h=>h,by simpa using hn,List.Sublist.refl L⟩
  (Zaw rfl (Fc6 rfl rfl rfl rfl rfl rfl) rfl rfl rfl) (fun x=>Zbw (by simp[PV.ids,PV.idsL,ZV]) (ZaC K.ids _)) (fun y=> ?_)
 obtain⟨⟨D,R⟩,h1,h2,h3⟩:=y;simp only at h1 h2 h3 ⊢
 by_cases hk:20≤R.length
 ·have c1:((D.length+20:Nat):Int)≤(n:Int):=by omega
  have w1:IntKind.i64.wrap (((D.length+20:Nat):Int)+20)=((D.length+20+20:Nat):Int):=by rw[ZdS (by omega) (by omega)];omega
  have e1:R.take 20++R.drop 20=R:=List.take_append_drop _ _;have l1:(R.take 20).length=20:=by rw[List.length_take];omega
  generalize R.take 20=l at e1 l1;generalize R.drop 20=R' at e1;subst e1;simp only[List.length_append]at h2;simp only[go_sem,c1];refine Za4 1000 (Zid K e n D l R' (ZmQ hU ((List.sublist_append_left _ _).trans h3)) (by omega) hm _ ((D++(srt lt l++R')).map pv) rfl rfl _ _ rfl (by omega)) (by simp[PV.ids,PV.idsL]) (hcl _) (hcl _) rfl rfl rfl ?_;simp only[go_sem,w1];refine⟨⟨(D++srt lt l,R'),fun C hC=>by rw[List.append_assoc];exact h1 _ (.more l R' C l1 hC),by simp[ZM];omega,(List.sublist_append_right _ _).trans h3⟩,by show R'.length<(l++R').length;simp;omega,Zaw rfl ?_ rfl (by show some _=some _;simp) rfl⟩;show ∀x∈ [(0,PV.vsl 1000 n 15),(1,.int .i64 (n:Int)),(2,.fn g []),(6,.int .i64 20),(7,.int .i64 ((D++srt lt l).length:Int)),(8,.int .i64 (((D++srt lt l).length+20:Nat):Int))],_;rw[show(D++srt lt l).length=D.length+20 by simp[ZM,l1]];exact(Fc6 rfl rfl rfl rfl rfl rfl)
 ·have c1:¬((D.length+20:Nat):Int)≤(n:Int):=by omega
  simp only[go_sem,c1];refine Za4 1000 (Zid K e n D R [] (ZmQ hU h3) (by simpa using h2) hm _ ((D++srt lt R).map pv) (by simp) (by simp) _ _ rfl (by omega)) (by simp[PV.ids,PV.idsL]) (hcl _) (hcl _) rfl rfl rfl ?_;have hB:=h1 _ (.last R (by omega));generalize D++srt lt R=C at hB;clear h1 h2 h3 hk c1;simp only[go_sem];refine ZcM (ι:= { s:Nat×List α // Blk lt s.1 L s.2∧0<s.1∧(s.1=20∨s.1≤2*n) }) 63 (fun y=> [(0,.vsl 1000 n 15),(1,.int .i64 (n:Int)),(2,.fn g []),(6,.int .i64 (y.1.1:Int))]) (fun _=> []) (fun _=> [(1000,.vec n 15 e)]) (fun _=> []) (fun _=> []) (fun y=> [(1000,y.1.2.map pv)]) (fun _=> []) [] [(1000,q)] [] (fun y=>n-y.1.1) ⟨(20,C),hB,by show 0<20;omega,.inl rfl⟩
   (Zaw rfl (Fc4 rfl rfl rfl rfl) rfl rfl rfl) (fun x=>Zbw (by simp[PV.ids,PV.idsL,ZV]) (ZaC K.ids _)) (fun y=> ?_)
  clear hB C;obtain⟨⟨bs,C⟩,hB,hb0,hb1⟩:=y;simp only at hB hb0 hb1 ⊢
  by_cases hk:bs<n
  ·have c1:(bs:Int)<(n:Int):=by omega
   have w1:IntKind.i64.wrap (2*(bs:Int))=((2*bs:Nat):Int):=by rw[ZdS (by omega) (by omega)];omega
   have w2:IntKind.i64.wrap ((bs:Int)*2)=((2*bs:Nat):Int):=by rw[ZdS (by omega) (by omega)];omega
   simp only[go_sem,c1,w1];refine ZcM (ι:= { s:List α×List α×List α // (∀C,Blk lt (2*bs) s.2.1 C→Blk lt (2*bs) L (s.1++C))∧Blk lt bs s.2.1 s.2.2∧s.1.length+s.2.1.length=n∧s.2.1.Sublist L }) 63 (fun y=> [(0,.vsl 1000 n 15),(1,.int .i64 (n:Int)),(2,.fn g []),(6,.int .i64 (bs:Int)),(7,.int .i64 (y.1.1.length:Int)),(8,.int .i64 ((y.1.1.length+2*bs:Nat):Int))]) (fun _=> []) (fun _=> [(1000,.vec n 15 e)]) (fun _=> []) (fun _=> []) (fun y=> [(1000,(y.1.1++y.1.2.2).map pv)]) (fun _=> []) [] [(1000,q)] [] (fun y=>y.1.2.1.length) ⟨([],L,C),fun C h=>h,hB,by simpa using hn,List.Sublist.refl L⟩
    (Zaw rfl (by show ∀x∈ [(0,PV.vsl 1000 n 15),(1,.int .i64 (n:Int)),(2,.fn g []),(6,.int .i64 (bs:Int)),(7,.int .i64 0),(8,.int .i64 ((0+2*bs:Nat):Int))],_;rw[Nat.zero_add];exact(Fc6 rfl rfl rfl rfl rfl rfl)) rfl rfl rfl) (fun x=>Zbw (by simp[PV.ids,PV.idsL,ZV]) (ZaC K.ids _)) (fun y=> ?_)
   obtain⟨⟨D,R,CR⟩,h1,h2,h3,h4⟩:=y;simp only at h1 h2 h3 h4 ⊢
   by_cases hk2:2*bs≤R.length
   ·have c2:((D.length+2*bs:Nat):Int)≤(n:Int):=by omega
    have w3:IntKind.i64.wrap ((D.length:Int)+(bs:Int))=((D.length+bs:Nat):Int):=by rw[ZdS (by omega) (by omega)];omega
    have w4:IntKind.i64.wrap (((D.length+2*bs:Nat):Int)+((2*bs:Nat):Int))=((D.length+2*bs+2*bs:Nat):Int):=by rw[ZdS (by omega) (by omega)];omega
    obtain⟨l1,l2,R2,C2,rfl,rfl,k1,k2,k3⟩:=h2.two hb0 hk2;have k4:=k3.len;simp only[List.length_append]at h3;have hU2:Unl lt (l1++l2):=ZmQ hU ((by rw[←List.append_assoc];exact List.sublist_append_left _ _:(l1++l2).Sublist (l1++(l2++R2))).trans h4);obtain⟨u1,u2,u3⟩:=Unl.append.1 hU2;have hU3:Unl lt (srt lt l1++srt lt l2):=Unl.perm hU2 ((Za2 l1).append (Za2 l2)).symm;simp only[go_sem,c2,w1,w3];refine Za4 1000 (Zih K e n hm _ D (srt lt l1) (srt lt l2) C2 (Nat.le_refl _) (ZdV K.good u1) (ZdV K.good u2) hU3 (by rw[ZM];omega) (by rw[ZM];omega) (by simp only[ZM];omega) _ ((D++(srt lt (l1++l2)++C2)).map pv) (by simp) (by rw[ZuO K.good hU2]) _ _ _ rfl (by simp only[ZM];omega) (by simp only[ZM];omega)) (by simp[PV.ids,PV.idsL]) (hcl _) (hcl _) rfl rfl rfl ?_;simp only[go_sem,w1,w4];have hx:(D++srt lt (l1++l2)).length=D.length+2*bs:=by simp[ZM];omega
    refine⟨⟨(D++srt lt (l1++l2),R2,C2),fun C hC=>by rw[List.append_assoc];exact h1 _ (by rw[←List.append_assoc];exact .more (l1++l2) R2 C (by simp;omega) hC),k3,by show(D++srt lt (l1++l2)).length+R2.length=n;rw[hx];omega,((List.sublist_append_right _ _).trans (List.sublist_append_right _ _)).trans h4⟩,by show R2.length<(l1++(l2++R2)).length;simp;omega,Zaw rfl ?_ rfl (by show some _=some _;simp) rfl⟩;show ∀x∈ [(0,PV.vsl 1000 n 15),(1,.int .i64 (n:Int)),(2,.fn g []),(6,.int .i64 (bs:Int)),(7,.int .i64 ((D++srt lt (l1++l2)).length:Int)),(8,.int .i64 (((D++srt lt (l1++l2)).length+2*bs:Nat):Int))],_;rw[hx];exact(Fc6 rfl rfl rfl rfl rfl rfl)
   ·have c2:¬((D.length+2*bs:Nat):Int)≤(n:Int):=by omega
    have w3:IntKind.i64.wrap ((D.length:Int)+(bs:Int))=((D.length+bs:Nat):Int):=by rw[ZdS (by omega) (by omega)];omega
    by_cases hk3:bs<R.length
    ·have c3:((D.length+bs:Nat):Int)<(n:Int):=by omega
     obtain⟨l1,R1,C1,rfl,rfl,k1,k2⟩:=h2.first hk3
     simp only[List.length_append]at h3 hk2 hk3;have:=k2.small hb0 (by omega);subst this;have hU2:Unl lt (l1++R1):=ZmQ hU h4;obtain⟨u1,u2,u3⟩:=Unl.append.1 hU2;have hU3:Unl lt (srt lt l1++srt lt R1):=Unl.perm hU2 ((Za2 l1).append (Za2 R1)).symm;simp only[go_sem,c2,w3,c3];refine Za4 1000 (Zih K e n hm _ D (srt lt l1) (srt lt R1) [] (Nat.le_refl _) (ZdV K.good u1) (ZdV K.good u2) hU3 (by rw[ZM];omega) (by rw[ZM];omega) (by simp only[ZM,List.length_nil];omega) _ ((D++srt lt (l1++R1)).map pv) (by simp) (by rw[ZuO K.good hU2];simp) _ _ _ rfl (by simp only[ZM];omega) (by simp only[ZM];omega)) (by simp[PV.ids,PV.idsL]) (hcl _) (hcl _) rfl rfl rfl ?_;simp only[go_sem,w2];exact⟨⟨(2*bs,D++srt lt (l1++R1)),h1 _ (.last _ (by simp;omega)),by show 0<2*bs;omega,.inr (by show 2*bs≤2*n;omega)⟩,by show n-2*bs<n-bs;omega,Zaw rfl (Fc4 rfl rfl rfl rfl) rfl rfl rfl⟩
    ·have c3:¬((D.length+bs:Nat):Int)<(n:Int):=by omega
     have:=h2.small hb0 (by omega);subst this;simp only[go_sem,c2,w3,c3,w2];exact⟨⟨(2*bs,D++srt lt R),h1 _ (.last _ (by omega)),by show 0<2*bs;omega,.inr (by show 2*bs≤2*n;omega)⟩,by show n-2*bs<n-bs;omega,Zaw rfl (Fc4 rfl rfl rfl rfl) rfl rfl rfl⟩
  ·have c1:¬(bs:Int)<(n:Int):=by omega
   have:=hB.small hb0 (by omega);subst this;simp only[go_sem,c1];exact ZeF (r0:= .tup []) (hcl _) rfl (.clean rfl) rfl rfl rfl
theorem Zkb (K:SortK pv g lt cv) (e:TypeId) (n:Nat) (hm:n≤1000000000000) (L:List α) (hU:Unl lt L) (hn:L.length=n) (r:List PV) (hr:r=(srt lt L).map pv):
  Eff Tryz.prog 64 [.vsl 1000 n 15,.fn g []] (Zcw n 15 e (L.map pv)) (.tup []) (Zcw n 15 e r):=by
 subst hr;have hcl:∀l:List α,∀p∈l.map pv,p.ids= []:=fun l=>ZbM K.ids l
 refine Eff.vw [] Tryz.func64 (by decide) rfl Tryz.ntmps64 Tryz.results64 (by simp) (hcl _) (hcl _) (by simp[PV.ids,PV.idsL]) (by simp[PV.ids,PV.idsL]) fun q=> ?_
 simp only[go_sem];refine Za4 1000 (ZsB K e n hm L hU hn _ rfl) (by simp[PV.ids,PV.idsL]) (hcl _) (hcl _) rfl rfl rfl ?_;simp only[go_sem];exact ZeF (r0:= .tup []) (hcl _) rfl (.clean rfl) rfl rfl rfl
end
end Go.Proofs.YthingdchjkhfbaaGreat
