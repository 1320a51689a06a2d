/- Contracts of functions and laws of this seat, each for every input that it names: lemmas of the proof. -/
import Derived.Test.YthingdchjkhfbaaGreatXAw
import Derived.Test.YthingdchjkhfbaaGreatXAf
import Derived.Test.YthingdchjkhfbaaGreatPlI
import Derived.Laws.LoneSync
namespace Go.Proofs.YthingdchjkhfbaaGreat
set_option maxHeartbeats 64000000
set_option maxRecDepth 20000
set_option linter.unusedVariables false
set_option linter.unusedSimpArgs false
open Go.PL
def Zig (fo ba:List Pr) (p:Pr):Bool:=(Zai fo p.fr').2&&((Zai ba (Zai fo p.fr').1).2&&((Zai ba (Zai fo p.fr').1).1==p.fr'))
def Zem (fo ba:List Pr):Bool:=fo.all (Zig fo ba)
theorem Zsn (fo ba:List Pr) (hf:fo.length≤maxLen) (hb:ba.length≤maxLen):PL.Pure Tryz.prog 135 [prs fo,prs ba] (.bool (Zem fo ba)):=by
 refine pov Tryz.func135 (by decide) rfl Tryz.ntmps135 Tryz.results135 (by simp) rfl ?_;simp only[go_sem,prs];refine ZI (ι:= { x:Nat // x≤(fo).length∧(∀j,j<x→Zig fo ba (fo.getD j default)=true) }) 40 (fun x=> [(0,prs fo),(1,prs ba),(10,prs fo),(11,.int .i64 (fo.length:Int)),(12,.int .i64 (x.1:Int))]) (fun x=> []) (fun x=> []) (fun x=>(fo).length-x.1) ⟨0,Nat.zero_le _,fun j hj=>absurd hj (Nat.not_lt_zero j)⟩ ⟨rfl,(Fc5 rfl rfl rfl rfl rfl),fnl,fnl⟩ (fun x=>⟨(Fc5 rfl rfl rfl rfl rfl),fnl⟩) (fun x=> ?_);obtain⟨k,hk,hI⟩:=x;simp only at hk hI ⊢
 by_cases h:(k:Int)<(fo.length:Int)
 ·(have hka:k<(fo).length:=by omega);(have w1:=Zcd hka (hf));(have i1:(0:Int)≤(k:Int):=by omega)
  have h1:=Zdb fo (fo.getD k default).fr' hf;have h2:=Zdb ba (Zai fo (fo.getD k default).fr').1 hb;cases hr:Zig fo ba (fo.getD k default)
  ·have hz:=Znd (p:=Zig fo ba) hka hr;unfold Zig at hr;generalize Zai fo (fo.getD k default).fr'=c at *;generalize Zai ba c.1=d at *;obtain⟨c1,c2⟩:=c;obtain⟨d1,d2⟩:=d;simp only at hr h2;simp only[go_sem,prs,h,i1,Z6 hka,pr];refine Za (h1) ?_ ?_ ?_;iterate 2 simp only[go_sem,prs]
   simp only[go_sem,ZdP];cases c2
   ·simp only[go_sem,Zem,hz]
   ·simp only[go_sem,prs];refine Za (h2) ?_ ?_ ?_;iterate 2 simp only[go_sem,prs]
    simp only[go_sem,ZdP];cases d2
    ·simp only[go_sem,Zem,hz]
    ·simp only[Bool.true_and]at hr;simp only[go_sem,hr,Zem,hz]
  ·have hr0:=hr;unfold Zig at hr;generalize Zai fo (fo.getD k default).fr'=c at *;generalize Zai ba c.1=d at *;obtain⟨c1,c2⟩:=c;obtain⟨d1,d2⟩:=d;simp only[Bool.and_eq_true]at hr h2;obtain⟨rfl,rfl,hr⟩:=hr;simp only[go_sem,prs,h,i1,Z6 hka,pr];refine Za (h1) ?_ ?_ ?_;iterate 2 simp only[go_sem,prs]
   simp only[go_sem,ZdP,prs];refine Za (h2) ?_ ?_ ?_;iterate 2 simp only[go_sem,prs]
   simp only[go_sem,ZdP,hr,w1];exact⟨⟨k+1,by(try simp only);omega,Zp hI hr0⟩,by show(fo).length-(k+1)<(fo).length-k;omega,⟨rfl,(Fc5 rfl rfl rfl rfl rfl),fnl,fnl⟩⟩
 ·have hz:=Zqo (p:=Zig fo ba) (d:=default) (l:=fo) (fun j hj=>hI j (by omega));simp only[go_sem,prs,h,Zem,hz]
def Zmj (x:Ln) (r:Rf):Bool:=
 if Zu x=false then false else if idx (fun a=>decide (r=a)) (Zl x)<0 then true
 else if x.kind=1∨x.kind=4∨x.kind=5∨x.kind=6∨x.kind=7∨x.kind=10 then true
 else if x.kind=9 then idx (fun a=>decide (r=a)) (Zl x)==0
 else if x.kind=8 then Zem x.fo x.ba else false
theorem ZgN (x:Ln):(Zl x).length≤2:=by
 unfold Zl;split
 ·simp
 split
 ·simp
 split<;>simp
theorem ZfM (x:Ln):(Zc x).length≤2:=by
 unfold Zc;repeat' split
 all_goals simp
def ZcW (x:Ln) (r:Rf):Rf×Bool:=
 if Zu x=false then(default,false)else if((Zl x).any fun a=>decide (r=a))=false then(r,true)
 else if(Zc x).length=0 then(default,false)else((Zc x).getD 0 default,true)
def ZdX (x:Ln) (r:Rf):Bool:=
 if Zu x=false then false else if((Zc x).any fun a=>decide (r=a))=false then true
 else if x.kind=1∨x.kind=4∨x.kind=5∨x.kind=9∨x.kind=10 then true else if x.kind=8 then Zem x.ba x.fo else false
theorem Zs5 (x:Ln) (r:Rf) (hx:OkLn x):PL.Pure Tryz.prog 94 [lns x,ref r] (.bool (ZdX x r)):=by
 have hR:=Zbn x hx;have hC:=Zd0 x hx;unfold ZdX;cases hlr:Zu x
 ·rw[hlr]at hR;refine pov Tryz.func94 (by decide) rfl Tryz.ntmps94 Tryz.results94 (by simp) rfl ?_;simp only[go_sem,lns,ref];refine Za (hR) ?_ ?_ ?_;iterate 2 simp only[go_sem,lns]
  simp only[go_sem,if_true]
 rw[hlr]at hR;have hc:ZeX x=Zc x:=by simp[ZeX,hlr]
 rw[hc]at hC;have hI:=ZiL (Zc x) r (by have:=ZfM x;rw[Zd];omega);have hO:=Zsn x.ba x.fo (by have:=hx.b;rw[Zd];omega) (by have:=hx.f;rw[Zd];omega);generalize (Zc x).any (fun a=>decide (r=a))=b at *;refine pov Tryz.func94 (by decide) rfl Tryz.ntmps94 Tryz.results94 (by simp) rfl ?_;simp only[go_sem,lns,ref];refine Za (hR) ?_ ?_ ?_;iterate 2 simp only[go_sem,lns]
 simp only[go_sem,lns];repeat' (first|(refine ZA (fun h=> ?_) (fun h=> ?_)<;>(try simp only[go_sem,h,refs,ref]))|(refine Zz (fun h=> ?_) (fun h=> ?_)<;>(try simp only[go_sem,h,refs,ref]))|(refine ZN (fun h=> ?_) (fun h=> ?_)<;>(try simp only[go_sem,h,refs,ref]))|((refine Za (hC) ?_ ?_ ?_);(focus simp only[go_sem,lns,refs,ref,prs]);(focus exact rfl);(try simp only[go_sem,refs,ref]))|((refine Za (hI) ?_ ?_ ?_);(focus simp only[go_sem,lns,refs,ref,prs]);(focus exact rfl);(try simp only[go_sem,refs,ref]))|((refine Za (hO) ?_ ?_ ?_);(focus simp only[go_sem,lns,refs,ref,prs]);(focus exact rfl);(try simp only[go_sem,refs,ref]))|((refine Ze (by kernel_rfl) (by kernel_rfl) ?_);(try simp only[go_sem,refs,ref])))
 all_goals (clear hR hC hI hO hx;simp_all)
def ZbR (x:Ln):Ln:=
 if x.kind=1 then⟨1,⟨x.at'.sc,x.at'.gr,x.nm⟩,x.at'.nm,x.ot,x.fac,x.fd,x.fo,x.ba⟩
 else if x.kind=2 then⟨3,x.at',x.nm,x.ot,x.fac,x.fd,x.fo,x.ba⟩
 else if x.kind=3 then⟨2,x.at',x.nm,x.ot,x.fac,x.fd,x.fo,x.ba⟩
 else if x.kind=4 then⟨5,⟨x.at'.sc,[],x.at'.nm⟩,x.at'.gr,x.ot,x.fac,x.fd,x.fo,x.ba⟩
 else if x.kind=5 then⟨4,⟨x.at'.sc,x.nm,x.at'.nm⟩,[],x.ot,x.fac,x.fd,x.fo,x.ba⟩
 else if x.kind=6 then⟨9,x.at',x.nm,x.ot,x.fac,x.fd,x.fo,x.ba⟩
 else if x.kind=9 then⟨6,x.at',x.nm,x.ot,x.fac,x.fd,x.fo,x.ba⟩
 else if x.kind=7 then⟨10,x.at',x.nm,x.ot,x.fac,x.fd,x.fo,x.ba⟩
 else if x.kind=10 then⟨7,x.at',x.nm,x.ot,x.fac,x.fd,x.fo,x.ba⟩
 else if x.kind=8 then⟨8,x.at',x.ot,x.nm,x.fac,x.fd,x.ba,x.fo⟩else x
def lnc (x:Ln×Int):PV:= .tup [lns x.1,.int .i64 x.2]
theorem ZgV (x:Ln×Int):(lnc x).dids= []:=by simp only[lnc,PV.dids,PV.didsL,ZiB,List.append_nil]
def ZBa (x:Ln):Ln×Int:=if Zu x=false then(default,5)else(ZbR x,0)
theorem Zm0 (x:Ln) (hx:OkLn x):PL.Pure Tryz.prog 121 [lns x] (lnc (ZBa x)):=by
 have hR:=Zbn x hx;have hO:=ZiP x hx;unfold ZBa;cases hlr:Zu x
 ·rw[hlr]at hR;refine pov Tryz.func121 (by decide) rfl Tryz.ntmps121 Tryz.results121 (by simp) (ZgV _) ?_;simp only[go_sem,lns];refine Za (hR) ?_ ?_ ?_;iterate 2 simp only[go_sem,lns]
  simp only[go_sem,if_true,lnc,Zjy]
 rw[hlr]at hR;refine pov Tryz.func121 (by decide) rfl Tryz.ntmps121 Tryz.results121 (by simp) (ZgV _) ?_;simp only[go_sem,lns];refine Za (hR) ?_ ?_ ?_;iterate 2 simp only[go_sem,lns]
 simp only[go_sem,lns];refine Za (hO) ?_ ?_ ?_;iterate 2 simp only[go_sem,lns]
 simp only[go_sem,lns];repeat' (first|(refine ZA (fun h=> ?_) (fun h=> ?_)<;>(try simp only[go_sem,h]))|(refine Zz (fun h=> ?_) (fun h=> ?_)<;>(try simp only[go_sem,h]))|(refine ZN (fun h=> ?_) (fun h=> ?_)<;>(try simp only[go_sem,h]))|((refine Zhe [(1,4)] (by kernel_rfl) (by kernel_rfl) (by exact rfl) ?_);(try simp only[go_sem]))|((refine Ze (by kernel_rfl) (by kernel_rfl) ?_);(try simp only[go_sem])))
 all_goals (simp only[beq_iff_eq,beq_eq_false_iff_ne,ne_eq]at *;clear hR hO hx;simp[ZbR,lnc,lns, *])
def ZE (l:List Rf) (r:Rf):Int:=idx (fun a=>decide (r=a)) l
theorem Zn4 (l:List Rf) (r:Rf):ZE l r= -1∨ ∃g:Nat,g<l.length∧ZE l r=(g:Int):=ZcA _ _
open Go.PL
theorem Zqu (l:List Tg):PV.didsL (l.map tg)= []:=by
 induction l with
 |nil=>rfl
 |cons t l ih=>simp only[List.map_cons,PV.didsL,ih,tg,PV.dids,List.append_nil]
theorem ZmB (l:List Tg):Sized 2 (l.map tg):=fun e he=>by
 obtain⟨x,_,rfl⟩:=List.mem_map.1 he;rfl
theorem ZvM (l:List Tg):Zcy (l.map tg):=fun e he=>by
 obtain⟨x,_,rfl⟩:=List.mem_map.1 he;rfl
def ZmI (t:Tg):Bool:=decide (1≤t.r)&&(decide (t.r≤6)&&(decide (1≤t.n)&&decide (t.n≤1099511627776)))
theorem Zgx (t:Tg):PL.Pure Tryz.prog 74 [tg t] (.bool (ZmI t)):=by
 refine pov Tryz.func74 (by decide) rfl Tryz.ntmps74 Tryz.results74 (by simp) rfl ?_;simp only[go_sem,tg];repeat' (first|(refine ZA (fun h=> ?_) (fun h=> ?_)<;>(try simp only[go_sem,h]))|(refine Zz (fun h=> ?_) (fun h=> ?_)<;>(try simp only[go_sem,h]))|(refine ZN (fun h=> ?_) (fun h=> ?_)<;>(try simp only[go_sem,h]))|((refine Ze (by kernel_rfl) (by kernel_rfl) ?_);(try simp only[go_sem])))
 all_goals (simp_all[ZmI]<;>(intros;omega))
def ZdQ (a b:Tg):Bool:=if a.r=b.r then decide (a.n<b.n)else decide (a.r<b.r)
theorem ZkG (a b:Tg):PL.Pure Tryz.prog 115 [tg a,tg b] (.bool (ZdQ a b)):=by
 refine pov Tryz.func115 (by decide) rfl Tryz.ntmps115 Tryz.results115 (by simp) rfl ?_;simp only[go_sem,tg];repeat' (first|(refine ZA (fun h=> ?_) (fun h=> ?_)<;>(try simp only[go_sem,h]))|(refine Zz (fun h=> ?_) (fun h=> ?_)<;>(try simp only[go_sem,h]))|(refine ZN (fun h=> ?_) (fun h=> ?_)<;>(try simp only[go_sem,h]))|((refine Ze (by kernel_rfl) (by kernel_rfl) ?_);(try simp only[go_sem])))
 all_goals simp_all[ZdQ]
open Go.PL
structure Opn where
 id:Tg
 sch:Tg
 time:Int
 cart:Str
 kind:Int
 item:Str
 at':Rf
 delta:Int
 has:Bool
 text:Str
 drops:List Tg
 deriving DecidableEq,Inhabited
def opv (o:Opn):PV:= .agg [.int .i64 o.id.r,.int .i64 o.id.n,.int .i64 o.sch.r,.int .i64 o.sch.n,.int .i64 o.time,.str o.cart,.int .i64 o.kind,.str o.item,.int .i64 o.at'.sc,.str o.at'.gr,.str o.at'.nm,.int .i64 o.delta,.bool o.has,.str o.text,.sl .no (o.drops.map tg)]
theorem ZiC (o:Opn):(opv o).dids= []:=by simp only[opv,PV.dids,PV.didsL,Zqu,List.append_nil]
theorem ZU:opv default= .agg [.int .i64 0,.int .i64 0,.int .i64 0,.int .i64 0,.int .i64 0,.str [],.int .i64 0,.str [],.int .i64 0,.str [],.str [],.int .i64 0,.bool false,.str [],.sl .no []]:=rfl
theorem ZrB (a b:Opn) (ha:a.drops.length≤maxLen) (hb:b.drops.length≤maxLen):PL.Pure Tryz.prog 73 [opv a,opv b] (.bool (decide (a=b))):=by
 have hE:=ZsZ a.drops b.drops ha hb;refine pov Tryz.func73 (by decide) rfl Tryz.ntmps73 Tryz.results73 (by simp) rfl ?_;simp only[go_sem,opv,Zt,ZG,List.append_eq,List.cons_append];repeat' (first|(refine ZA (fun h=> ?_) (fun h=> ?_)<;>(try simp only[go_sem,h,Zt,ZG]))|(refine Zz (fun h=> ?_) (fun h=> ?_)<;>(try simp only[go_sem,h,Zt,ZG]))|(refine ZN (fun h=> ?_) (fun h=> ?_)<;>(try simp only[go_sem,h,Zt,ZG]))|((refine Za (hE) ?_ ?_ ?_);(focus simp only[go_sem,tgs]);(focus exact rfl);(try simp only[go_sem,Zt,ZG]))|((refine Ze (by kernel_rfl) (by kernel_rfl) ?_);(try simp only[go_sem,Zt,ZG])))
 all_goals (clear hE ha hb;(cases a;cases b;simp_all)<;>rfl)
def Zf8 (o:Opn):Bool:=ZbH 200 o.cart||(ZbH 200 o.item||(ZbH 200 o.at'.gr||(ZbH 200 o.at'.nm||(ZbH 200 o.text||decide (200<(o.drops.length:Int))))))
theorem Zm5 (o:Opn):PL.Pure Tryz.prog 19 [opv o] (.bool (Zf8 o)):=by
 refine pov Tryz.func19 (by decide) rfl Tryz.ntmps19 Tryz.results19 (by simp) rfl ?_;simp only[go_sem,opv];repeat' (first|(refine ZA (fun h=> ?_) (fun h=> ?_)<;>(try simp only[go_sem,h]))|(refine Zz (fun h=> ?_) (fun h=> ?_)<;>(try simp only[go_sem,h]))|(refine ZN (fun h=> ?_) (fun h=> ?_)<;>(try simp only[go_sem,h]))|((refine Ze (by kernel_rfl) (by kernel_rfl) ?_);(try simp only[go_sem])))
 all_goals (first|(simp_all[Zf8,ZbH];done)|(rw[Bool.eq_iff_iff];simp[Zf8,ZbH]at *;omega))
def Zs (o:Opn):Bool:=(o.kind==3)||(o.kind==4)
theorem Zgo (o:Opn):PL.Pure Tryz.prog 75 [opv o] (.bool (Zs o)):=by
 refine pov Tryz.func75 (by decide) rfl Tryz.ntmps75 Tryz.results75 (by simp) rfl ?_;simp only[go_sem,opv];repeat' (first|(refine ZA (fun h=> ?_) (fun h=> ?_)<;>(try simp only[go_sem,h]))|(refine Zz (fun h=> ?_) (fun h=> ?_)<;>(try simp only[go_sem,h]))|(refine ZN (fun h=> ?_) (fun h=> ?_)<;>(try simp only[go_sem,h]))|((refine Ze (by kernel_rfl) (by kernel_rfl) ?_);(try simp only[go_sem])))
 all_goals simp_all[Zs]
def ZdD (o:Opn) (i:Nat):Bool:=ZmI (o.drops.getD i default)&&(!(decide (o.drops.getD i default=o.id))&&(decide (i=0)||ZdQ (o.drops.getD (i-1) default) (o.drops.getD i default)))
def ZkP (o:Opn):Bool:= !decide (60<(o.drops.length:Int))&&(List.range o.drops.length).all (ZdD o)
def Zga (o:Opn):List PV:= [.int .i64 o.id.r,.int .i64 o.id.n,.int .i64 o.sch.r,.int .i64 o.sch.n,.int .i64 o.time,.str o.cart,.int .i64 o.kind,.str o.item,.int .i64 o.at'.sc,.str o.at'.gr,.str o.at'.nm,.int .i64 o.delta,.bool o.has,.str o.text,.sl .no (o.drops.map tg)]
theorem ZjP (o:Opn):PL.Pure Tryz.prog 78 [opv o] (.bool (ZkP o)):=by
 by_cases h60:60<(o.drops.length:Int)
 ·refine pov Tryz.func78 (by decide) rfl Tryz.ntmps78 Tryz.results78 (by simp) rfl ?_;simp only[go_sem,opv,h60,ZkP,Bool.false_and]
 ·have hm:o.drops.length≤maxLen:=by rw[Zd];omega
  have hx:ZkP o=(List.range o.drops.length).all (ZdD o):=by simp only[ZkP,h60,decide_false,Bool.not_false,Bool.true_and]
  rw[hx];refine pov Tryz.func78 (by decide) rfl Tryz.ntmps78 Tryz.results78 (by simp) rfl ?_;simp only[go_sem,opv,h60];refine ZI (ι:= { x:Nat // x≤(o.drops).length∧(∀j,j<x→ZdD o j=true) }) 40 (fun x=> [(1,.ptr 1 0),(10,.sl .no (o.drops.map tg)),(11,.int .i64 (o.drops.length:Int)),(12,.int .i64 (x.1:Int))]) (fun x=> [(1,Zga o,false)]) (fun x=> []) (fun x=>(o.drops).length-x.1) ⟨0,Nat.zero_le _,fun j hj=>absurd hj (Nat.not_lt_zero j)⟩ ⟨rfl,(Fc4 rfl rfl rfl rfl),(fcs ⟨rfl,rfl⟩ fnl),fnl⟩ (fun x=>⟨(Fc4 rfl rfl rfl rfl),(fcs rfl fnl)⟩) (fun x=> ?_);obtain⟨k,hk,hI⟩:=x;simp only at hk hI ⊢
  by_cases h:(k:Int)<(o.drops.length:Int)
  ·(have hka:k<(o.drops).length:=by omega);(have w1:=Zcd hka (hm));(have i1:(0:Int)≤(k:Int):=by omega)
   have hT:=Zgx (o.drops.getD k default);cases ht:ZmI (o.drops.getD k default)
   ·rw[ht]at hT;have hz:=Zag (p:=ZdD o) hka (by simp only[ZdD,ht,Bool.false_and]);simp only[go_sem,Zga,h,ZaL hka,tg,i1];refine Za (hT) ?_ ?_ ?_;iterate 2 simp only[go_sem,tg]
    simp only[go_sem,hz]
   ·rw[ht]at hT;cases he:decide (o.drops.getD k default=o.id)
    ·by_cases h0:0<(k:Int)
     ·have hk1:k-1<o.drops.length:=by omega
      have w2:IntKind.i64.wrap ((k:Int)-1)=((k-1:Nat):Int):=by rw[w64 (by omega)];omega
      have j1:(0:Int)≤((k-1:Nat):Int):=by omega
      have j2:((k-1:Nat):Int)<(o.drops.length:Int):=by omega
      have hL:=ZkG (o.drops.getD (k-1) default) (o.drops.getD k default);cases hb:ZdQ (o.drops.getD (k-1) default) (o.drops.getD k default)
      ·rw[hb]at hL;have hz:=Zag (p:=ZdD o) hka (by simp only[ZdD,hb,decide_eq_false (show ¬k=0 by omega),Bool.or_self,Bool.and_false]);simp only[go_sem,Zga,h,ZaL hka,tg,i1];refine Za (hT) ?_ ?_ ?_;iterate 2 simp only[go_sem,tg]
       simp only[go_sem,ZG,he];refine Ze (by kernel_rfl) (by kernel_rfl) ?_;simp only[go_sem,h0,w2,ZaL hk1,ZaL hka,tg,h,i1,j1,j2];refine Za (hL) ?_ ?_ ?_;iterate 2 simp only[go_sem,tg]
       simp only[go_sem,hz]
      ·rw[hb]at hL;have ok:ZdD o k=true:=by simp only[ZdD,ht,he,hb,Bool.or_true,Bool.not_false,Bool.and_self]
       simp only[go_sem,Zga,h,ZaL hka,tg,i1];refine Za (hT) ?_ ?_ ?_;iterate 2 simp only[go_sem,tg]
       simp only[go_sem,ZG,he];refine Ze (by kernel_rfl) (by kernel_rfl) ?_;simp only[go_sem,h0,w2,ZaL hk1,ZaL hka,tg,h,i1,j1,j2];refine Za (hL) ?_ ?_ ?_;iterate 2 simp only[go_sem,tg]
       simp only[go_sem,w1];exact⟨⟨k+1,by(try simp only);omega,Zp hI ok⟩,by show(o.drops).length-(k+1)<(o.drops).length-k;omega,⟨rfl,(Fc4 rfl rfl rfl rfl),(fcs ⟨rfl,rfl⟩ fnl),fnl⟩⟩
     ·have ok:ZdD o k=true:=by simp only[ZdD,ht,he,decide_eq_true (show k=0 by omega),Bool.true_or,Bool.not_false,Bool.and_self]
      simp only[go_sem,Zga,h,ZaL hka,tg,i1];refine Za (hT) ?_ ?_ ?_;iterate 2 simp only[go_sem,tg]
      simp only[go_sem,ZG,he];refine Ze (by kernel_rfl) (by kernel_rfl) ?_;simp only[go_sem,h0,w1];exact⟨⟨k+1,by(try simp only);omega,Zp hI ok⟩,by show(o.drops).length-(k+1)<(o.drops).length-k;omega,⟨rfl,(Fc4 rfl rfl rfl rfl),(fcs ⟨rfl,rfl⟩ fnl),fnl⟩⟩
    ·have hz:=Zag (p:=ZdD o) hka (by simp only[ZdD,he,Bool.not_true,Bool.false_and,Bool.and_false]);simp only[go_sem,Zga,h,ZaL hka,tg,i1];refine Za (hT) ?_ ?_ ?_;iterate 2 simp only[go_sem,tg]
     simp only[go_sem,ZG,he,hz]
  ·have hz:=Zej (p:=ZdD o) (n:=o.drops.length) (fun j hj=>hI j (by omega));simp only[go_sem,h,hz]
def ZeL (o:Opn):Opn×Bool:=
 if o.kind=1 then(⟨o.id,o.sch,o.time,o.cart,o.kind,o.item,default,0,false,[],[]⟩,true)
 else if o.kind=2 then(⟨o.id,o.sch,o.time,o.cart,o.kind,o.item,default,0,false,[],o.drops⟩,true)
 else if o.kind=3 then(⟨o.id,o.sch,o.time,o.cart,o.kind,if o.at'.sc=1 then o.item else [],o.at',o.delta,false,[],[]⟩,true)
 else if o.kind=4 then(⟨o.id,o.sch,o.time,o.cart,o.kind,if o.at'.sc=1 then o.item else [],o.at',0,o.has,if o.has=true then o.text else [],o.drops⟩,true)
 else if o.kind=5 then(⟨o.id,o.sch,o.time,o.cart,o.kind,[],default,0,false,[],o.drops⟩,true)
 else(default,false)
def opb (x:Opn×Bool):PV:= .tup [opv x.1,.bool x.2]
theorem ZH (x:Opn×Bool):(opb x).dids= []:=by simp only[opb,PV.dids,PV.didsL,ZiC,List.append_nil]
theorem Zn1 (o:Opn):PL.Pure Tryz.prog 72 [opv o] (opb (ZeL o)):=by
 have hP:=Zgo o;unfold Zs at hP;obtain⟨id,sch,time,cart,kind,item,at',delta,has,text,drops⟩:=o;cases has;all_goals
  refine pov Tryz.func72 (by decide) rfl Tryz.ntmps72 Tryz.results72 (by simp) (ZH _) ?_;simp only[go_sem,opv];repeat' (first|(refine ZA (fun h=> ?_) (fun h=> ?_)<;>(try simp only[go_sem,h]))|(refine Zz (fun h=> ?_) (fun h=> ?_)<;>(try simp only[go_sem,h]))|(refine ZN (fun h=> ?_) (fun h=> ?_)<;>(try simp only[go_sem,h]))|((refine Za (hP) ?_ ?_ ?_);(focus simp only[go_sem,opv]);(focus exact rfl);(try simp only[go_sem]))|((refine Zhe [(1,4)] (by kernel_rfl) (by kernel_rfl) (by exact rfl) ?_);(try simp only[go_sem]))|((refine Ze (by kernel_rfl) (by kernel_rfl) ?_);(try simp only[go_sem])))
  all_goals (simp only[beq_iff_eq,beq_eq_false_iff_ne,ne_eq]at *;clear hP;simp_all[ZeL,opb,opv];try decide)
open Go.PL
def Zx3 (o:Opn):Bool:=(o.kind==1)||((o.kind==2)||(Zs o&&(o.at'.sc==1)))
def ZcV (o:Opn):Bool:=
 !(!(ZeL o).2|| !decide (o=(ZeL o).1))&&(!(!ZmI o.id||(!decide (o.sch=default)&& !ZmI o.sch))&&(!((decide (o.time<1)||decide (1099511627776<o.time))|| !Zap o.cart)
  && (!(Zs o&& !Zci o.at')&&(!(Zx3 o&& !Zap o.item)&&(!(decide (o.delta < -1048576)||decide (1048576<o.delta))&&(decide ((o.text.length:Int)≤40)&&ZkP o))))))
theorem Zwk {o:Opn} (h:o.drops.length≤maxLen):(ZeL o).1.drops.length≤maxLen:=by
 unfold ZeL;repeat' split
 all_goals first|exact h|exact Nat.zero_le _
theorem Za3 (a:Tg):(a.r==0&&a.n==0)=decide (a=default):=ZG a default
theorem Zgc (o:Opn) (ho:o.drops.length≤maxLen):PL.Pure Tryz.prog 39 [opv o] (.bool (ZcV o)):=by
 have hP:=Zn1 o;have hS:=ZrB o (ZeL o).1 ho (Zwk ho);have hT:=Zgx o.id;have hU:=Zgx o.sch;have hC:=Za5 o.cart;have hL:=Zgo o;have hA:=Zhp o.at';have hI:=Za5 o.item;have hX:=Zgy o.text;have hD:=ZjP o;unfold ZcV Zx3;generalize ZeL o=y at *;generalize ZkP o=db at *;generalize Zs o=pb at *;generalize Zap o.item=ni at *;generalize Zap o.cart=nc at *;generalize Zci o.at'=pa at *;generalize ZmI o.id=ti at *;generalize ZmI o.sch=ts at *;obtain⟨y,b⟩:=y;refine pov Tryz.func39 (by decide) rfl Tryz.ntmps39 Tryz.results39 (by simp) rfl ?_;simp only[go_sem,opv,Za3];repeat' (first|(refine ZA (fun h=> ?_) (fun h=> ?_)<;>(try simp only[go_sem,h,opb,opv,Za3]))|(refine Zz (fun h=> ?_) (fun h=> ?_)<;>(try simp only[go_sem,h,opb,opv,Za3]))|(refine ZN (fun h=> ?_) (fun h=> ?_)<;>(try simp only[go_sem,h,opb,opv,Za3]))|((refine Za (hP) ?_ ?_ ?_);(focus simp only[go_sem,opv,tg,ref]);(focus exact rfl);(try simp only[go_sem,opb,opv,Za3]))|((refine Za (hS) ?_ ?_ ?_);(focus simp only[go_sem,opv,tg,ref]);(focus exact rfl);(try simp only[go_sem,opb,opv,Za3]))|((refine Za (hT) ?_ ?_ ?_);(focus simp only[go_sem,opv,tg,ref]);(focus exact rfl);(try simp only[go_sem,opb,opv,Za3]))|((refine Za (hU) ?_ ?_ ?_);(focus simp only[go_sem,opv,tg,ref]);(focus exact rfl);(try simp only[go_sem,opb,opv,Za3]))|((refine Za (hC) ?_ ?_ ?_);(focus simp only[go_sem,opv,tg,ref]);(focus exact rfl);(try simp only[go_sem,opb,opv,Za3]))|((refine Za (hL) ?_ ?_ ?_);(focus simp only[go_sem,opv,tg,ref]);(focus exact rfl);(try simp only[go_sem,opb,opv,Za3]))|((refine Za (hA) ?_ ?_ ?_);(focus simp only[go_sem,opv,tg,ref]);(focus exact rfl);(try simp only[go_sem,opb,opv,Za3]))|((refine Za (hI) ?_ ?_ ?_);(focus simp only[go_sem,opv,tg,ref]);(focus exact rfl);(try simp only[go_sem,opb,opv,Za3]))|((refine Za (hX) ?_ ?_ ?_);(focus simp only[go_sem,opv,tg,ref]);(focus exact rfl);(try simp only[go_sem,opb,opv,Za3]))|((refine Za (hD) ?_ ?_ ?_);(focus simp only[go_sem,opv,tg,ref]);(focus exact rfl);(try simp only[go_sem,opb,opv,Za3]))|((refine Ze (by kernel_rfl) (by kernel_rfl) ?_);(try simp only[go_sem,opb,opv,Za3])))
 all_goals clear hP hS hT hU hC hL hA hI hX hD ho
 all_goals (first
  |(simp only[*,Bool.not_true,Bool.not_false,Bool.and_true,Bool.true_and,Bool.and_false,Bool.false_and,Bool.or_true,Bool.true_or,Bool.or_false,Bool.false_or,Bool.not_not];done)
  |(simp_all;done))
open Go.PL
@[go_sem] theorem ZC6:tcv Tryz.prog 2 210= .flt .f64:=by kernel_rfl
@[go_sem] theorem ZC5:tcv Tryz.prog 210 2= .int .i64:=by kernel_rfl
theorem Zxn (a b:Int):((some (compare a b):Option Ordering)==some .gt||(some (compare a b):Option Ordering)==some .eq)=decide (b≤a):=by
 rcases Int.lt_trichotomy a b with h|h|h
 ·rw[Int.compare_eq_lt.2 h,decide_eq_false (by omega)];rfl
 ·subst h;rw[Int.compare_eq_eq.2 rfl,decide_eq_true (by omega)];rfl
 ·rw[Int.compare_eq_gt.2 h,decide_eq_true (by omega)];rfl
theorem Zxr (a b:Int):((some (compare a b):Option Ordering)==some .lt||(some (compare a b):Option Ordering)==some .eq)=decide (a≤b):=by
 rcases Int.lt_trichotomy a b with h|h|h
 ·rw[Int.compare_eq_lt.2 h,decide_eq_true (by omega)];rfl
 ·subst h;rw[Int.compare_eq_eq.2 rfl,decide_eq_true (by omega)];rfl
 ·rw[Int.compare_eq_gt.2 h,decide_eq_false (by omega)];rfl
theorem Zxv (a b:Int):((some (compare a b):Option Ordering) !=some .eq)=decide (a≠b):=by
 rcases Int.lt_trichotomy a b with h|h|h
 ·rw[Int.compare_eq_lt.2 h,decide_eq_true (by omega)];rfl
 ·subst h;rw[Int.compare_eq_eq.2 rfl,decide_eq_false (by omega)];rfl
 ·rw[Int.compare_eq_gt.2 h,decide_eq_true (by omega)];rfl
theorem Zt5:(4841369599423283200:Nat)=Zcc 4503599627370496:=by decide+kernel
theorem Zt4:Op.negFloat .f64 4841369599423283200=Zcc (-4503599627370496):=by decide+kernel
theorem Zy4:Extern.findNext Tryz.f191=none:=by kernel_rfl
theorem Zy3:Extern.find Tryz.f191=some (Extern.MathFloor.toIntegral "math.archTrunc" .zero):=by kernel_rfl
theorem ZuY (n:Int) (h:n.natAbs<2 ^ 53) (P:Program) (w:World):(Extern.MathFloor.toIntegral "math.archTrunc" .zero #[.float .f64 (Zcc n)]).run P w= .ok (.float .f64 (Zcc n)) w:=by
 obtain⟨s,m,p,hp⟩:=Zug n h;have ht:=Zw2 n h;rw[hp]at ht;show(Extern.MathFloor.toIntegral.match_1 (fun _=>Sem Value) (FloatKind.f64.decode (Zcc n)) _ _:Sem Value).run P w=_;rw[hp];show Result.ok (Value.float .f64 (FloatKind.f64.encode ((Ieee.Datum.number s m p).integral .zero))) w=_;rw[ht]
theorem Zne (n:Int) (h:n.natAbs<2 ^ 53):PL.Xt Tryz.prog 191 [.flt .f64 (Zcc n)] (.flt .f64 (Zcc n)):=by
 intro w S vs hl hr
 match vs,hl with
 | [v],_=>
  have h0:=hr 0 (by simp);simp only[List.getD_cons_zero]at h0;cases h0;refine⟨.float .f64 (Zcc n),.flt _ _,?_⟩;rw[run_callFunc_extern Tryz.func191 (by decide) rfl Zy4 Zy3];show((Extern.MathFloor.toIntegral "math.archTrunc" .zero #[.float .f64 (Zcc n)]).run Tryz.prog w).andThen _=_;rw[ZuY n h];rfl
theorem ZkH (n:Int) (h:n.natAbs<2 ^ 53):PL.Pure Tryz.prog 188 [.flt .f64 (Zcc n)] (.flt .f64 (Zcc n)):=by
 have hT:=Zne n h;refine pov Tryz.func188 (by decide) rfl Tryz.ntmps188 Tryz.results188 (by simp) rfl ?_;simp only[go_sem];refine Zxa hT ?_ ?_ ?_
 ·simp only[go_sem]
 ·simp only[go_sem]
 simp only[go_sem]
theorem Zqm (a b:Nat):PL.Pure Tryz.prog 187 [.cpx .f64 a b] (.agg [.flt .f64 a,.flt .f64 b]):=by
 refine pov Tryz.func187 (by decide) rfl Tryz.ntmps187 Tryz.results187 (by simp) rfl ?_;simp only[go_sem]
def Lim (n:Int):Prop:= -4503599627370496≤n∧n≤4503599627370496
theorem Lim.abs {n:Int} (h:Lim n):n.natAbs<2 ^ 53:=by have:=h.1;have:=h.2;omega
theorem Zql (a b:Int) (ha:Lim a) (hb:Lim b):PL.Pure Tryz.prog 176 [.cpx .f64 (Zcc a) (Zcc b),.flt .f64 4841369599423283200] (.bool true):=by
 have hZ:=Zqm (Zcc a) (Zcc b);have hTa:=ZkH a ha.abs;have hTb:=ZkH b hb.abs;have m1:(4503599627370496:Int).natAbs<2 ^ 53:=by decide
 have m2:(-4503599627370496:Int).natAbs<2 ^ 53:=by decide
 have ga:(FloatKind.f64.format.order (Zcc a) (Op.negFloat .f64 4841369599423283200)==some .gt||FloatKind.f64.format.order (Zcc a) (Op.negFloat .f64 4841369599423283200)==some .eq)=true:=by
  rw[Zt4,ZfX _ _ ha.abs m2,Zxn];simpa using ha.1
 have gb:(FloatKind.f64.format.order (Zcc b) (Op.negFloat .f64 4841369599423283200)==some .gt||FloatKind.f64.format.order (Zcc b) (Op.negFloat .f64 4841369599423283200)==some .eq)=true:=by
  rw[Zt4,ZfX _ _ hb.abs m2,Zxn];simpa using hb.1
 have la:(FloatKind.f64.format.order (Zcc a) 4841369599423283200==some .lt||FloatKind.f64.format.order (Zcc a) 4841369599423283200==some .eq)=true:=by
  rw[Zt5,ZfX _ _ ha.abs m1,Zxr];simpa using ha.2
 have lb:(FloatKind.f64.format.order (Zcc b) 4841369599423283200==some .lt||FloatKind.f64.format.order (Zcc b) 4841369599423283200==some .eq)=true:=by
  rw[Zt5,ZfX _ _ hb.abs m1,Zxr];simpa using hb.2
 have na:(FloatKind.f64.format.order (Zcc a) (Zcc a) !=some .eq)=false:=by rw[ZfX _ _ ha.abs ha.abs,Zxv];simp
 have nb:(FloatKind.f64.format.order (Zcc b) (Zcc b) !=some .eq)=false:=by rw[ZfX _ _ hb.abs hb.abs,Zxv];simp
 have c0:((0:Nat):Int)=0:=rfl;have c1:((1:Nat):Int)=1:=rfl;have c2:((2:Nat):Int)=2:=rfl;have w0:IntKind.i64.wrap (0+1)=((1:Nat):Int):=by decide
 have w1:IntKind.i64.wrap (1+1)=((2:Nat):Int):=by decide
 refine pov Tryz.func176 (by decide) rfl Tryz.ntmps176 Tryz.results176 (by simp) rfl ?_;simp only[go_sem];refine Za (hZ) ?_ ?_ ?_;iterate 2 simp only[go_sem]
 simp only[go_sem];refine ZI (ι:= { k:Nat // k≤2 }) 29 (fun x=> [(1,.flt .f64 4841369599423283200),(8,.agg [.flt .f64 (Zcc a),.flt .f64 (Zcc b)]),(9,.int .i64 (x.1:Int))]) (fun x=> []) (fun x=> []) (fun x=>2-x.1) ⟨0,by omega⟩
  ⟨rfl,(Fc3 rfl rfl rfl),fnl,fnl⟩ (fun x=>⟨Fc3 rfl (by simp[PV.ids,PV.idsL]) rfl,fnl⟩) (fun x=> ?_)
 obtain⟨k,hk⟩:=x;simp only;obtain rfl|rfl|rfl:k=0∨k=1∨k=2:=by omega
 ·simp only[go_sem,c0,List.getD_cons_zero,ga,la,Bool.not_true];refine Za (hTa) ?_ ?_ ?_;iterate 2 simp only[go_sem]
  simp only[go_sem,na,w0];exact⟨⟨1,by omega⟩,by show 2-1<2-0;omega,⟨rfl,(Fc3 rfl rfl rfl),fnl,fnl⟩⟩
 ·simp only[go_sem,c1,List.getD_cons_zero,List.getD_cons_succ,gb,lb,Bool.not_true];refine Za (hTb) ?_ ?_ ?_;iterate 2 simp only[go_sem]
  simp only[go_sem,nb,w1];exact⟨⟨2,by omega⟩,by show 2-2<2-1;omega,⟨rfl,(Fc3 rfl rfl rfl),fnl,fnl⟩⟩
 ·simp only[go_sem,c2]
theorem Zhs (a b:Int) (ha:Lim a) (hb:Lim b):PL.Pure Tryz.prog 150 [.cpx .f64 (Zcc a) (Zcc b)] (.bool true):=by
 have hW:=Zql a b ha hb;refine pov Tryz.func150 (by decide) rfl Tryz.ntmps150 Tryz.results150 (by simp) rfl ?_;simp only[go_sem];refine Za (hW) ?_ ?_ ?_;iterate 2 simp only[go_sem]
 simp only[go_sem]
theorem ZfH (a b:Int) (ha:Lim a) (hb:Lim b):PL.Pure Tryz.prog 111 [.cpx .f64 (Zcc a) (Zcc b)] (.tup [.int .i64 a,.int .i64 b,.int .i64 0]):=by
 have hW:=Zhs a b ha hb;have ta:=Zri a ha.abs;have tb:=Zri b hb.abs;have l1:IntKind.i64.min≤a:=by rw[show IntKind.i64.min= -9223372036854775808 by decide];have:=ha.1;omega
 have l2:a≤IntKind.i64.max:=by rw[show IntKind.i64.max=9223372036854775807 by decide];have:=ha.2;omega
 have l3:IntKind.i64.min≤b:=by rw[show IntKind.i64.min= -9223372036854775808 by decide];have:=hb.1;omega
 have l4:b≤IntKind.i64.max:=by rw[show IntKind.i64.max=9223372036854775807 by decide];have:=hb.2;omega
 refine pov Tryz.func111 (by decide) rfl Tryz.ntmps111 Tryz.results111 (by simp) (rfl) ?_;simp only[go_sem];refine Za (hW) ?_ ?_ ?_;iterate 2 simp only[go_sem]
 simp only[go_sem,ta,tb,l1,l2,l3,l4]
def ZaU (n:Int):Bool:=decide (-4503599627370496≤n)&&decide (n≤4503599627370496)
theorem Zab {n:Int}:ZaU n=true↔Lim n:=by simp[ZaU,Lim]
theorem ZnC (n:Int):PL.Pure Tryz.prog 149 [.int .i64 n] (.bool (ZaU n)):=by
 refine pov Tryz.func149 (by decide) rfl Tryz.ntmps149 Tryz.results149 (by simp) rfl ?_;simp only[go_sem];repeat' (first|(refine ZA (fun h=> ?_) (fun h=> ?_)<;>(try simp only[go_sem,h]))|(refine Zz (fun h=> ?_) (fun h=> ?_)<;>(try simp only[go_sem,h]))|(refine ZN (fun h=> ?_) (fun h=> ?_)<;>(try simp only[go_sem,h]))|((refine Ze (by kernel_rfl) (by kernel_rfl) ?_);(try simp only[go_sem])))
 all_goals (simp_all[ZaU];try omega)
theorem ZlQ (a b:Int):PL.Pure Tryz.prog 109 [.int .i64 a,.int .i64 b] (if ZaU a=true∧ZaU b=true then .tup [.cpx .f64 (Zcc a) (Zcc b),.int .i64 0]else .tup [.cpx .f64 0 0,.int .i64 3]):=by
 have hA:=ZnC a;have hB:=ZnC b;have ea:FloatKind.f64.nearest a=Zcc a:=rfl;have eb:FloatKind.f64.nearest b=Zcc b:=rfl;cases h1:ZaU a
 ·rw[h1]at hA;simp only[Bool.false_eq_true,false_and,if_false];refine pov Tryz.func109 (by decide) rfl Tryz.ntmps109 Tryz.results109 (by simp) (rfl) ?_;simp only[go_sem];refine Za (hA) ?_ ?_ ?_;iterate 2 simp only[go_sem]
  simp only[go_sem]
 ·rw[h1]at hA;cases h2:ZaU b
  ·rw[h2]at hB;simp only[Bool.false_eq_true,and_false,if_false];refine pov Tryz.func109 (by decide) rfl Tryz.ntmps109 Tryz.results109 (by simp) (rfl) ?_;simp only[go_sem];refine Za (hA) ?_ ?_ ?_;iterate 2 simp only[go_sem]
   simp only[go_sem];refine Za (hB) ?_ ?_ ?_;iterate 2 simp only[go_sem]
   simp only[go_sem]
  ·rw[h2]at hB;simp only[and_self,if_true];refine pov Tryz.func109 (by decide) rfl Tryz.ntmps109 Tryz.results109 (by simp) (rfl) ?_;simp only[go_sem];refine Za (hA) ?_ ?_ ?_;iterate 2 simp only[go_sem]
   simp only[go_sem];refine Za (hB) ?_ ?_ ?_;iterate 2 simp only[go_sem]
   simp only[go_sem,ea,eb]
theorem Zth (n:Int):PL.Pure Tryz.prog 190 [.int .i64 n] (.bool (!ZaU n)):=by
 refine pov Tryz.func190 (by decide) rfl Tryz.ntmps190 Tryz.results190 (by simp) rfl ?_;simp only[go_sem];repeat' (first|(refine ZA (fun h=> ?_) (fun h=> ?_)<;>(try simp only[go_sem,h]))|(refine Zz (fun h=> ?_) (fun h=> ?_)<;>(try simp only[go_sem,h]))|(refine ZN (fun h=> ?_) (fun h=> ?_)<;>(try simp only[go_sem,h]))|((refine Ze (by kernel_rfl) (by kernel_rfl) ?_);(try simp only[go_sem])))
 all_goals (simp_all[ZaU];try omega)
 all_goals (rw[←decide_not];congr 1;simp only[eq_iff_iff];omega)
end Go.Proofs.YthingdchjkhfbaaGreat
