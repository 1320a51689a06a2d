/- Contracts of functions and laws of this seat, each for every input that it names: lemmas of the proof. -/
import Derived.Test.YthingdchjkhfbaaGreatXDa
import Derived.Test.YthingdchjkhfbaaGreatXBy
namespace Go.Proofs.YthingdchjkhfbaaGreat
set_option maxHeartbeats 64000000
set_option maxRecDepth 20000
set_option linter.unusedVariables false
set_option linter.unusedSimpArgs false
open Go.PL
def ZdT (x:Ln) (f:Fd) (e:En):En:=
 if x.kind=6 then⟨f.at',e.n,(ZQ f).l⟩
 else if x.kind=7 then⟨f.at',0,if 0<(e.l.length:Int)∧e.l.getD 0 []≠x.ot then [e.l.getD 0 []]else []⟩
 else if x.kind=10 then⟨f.at',0,if 0<(e.l.length:Int)then [e.l.getD (e.l.length-1) []]else(ZQ f).l⟩
 else if x.kind=8 then⟨f.at',0,if 0<(e.l.length:Int)then [(Zai x.fo (e.l.getD 0 [])).1]else(ZQ f).l⟩
 else if x.kind=3 then ZQ f
 else⟨f.at',e.n,e.l⟩
def ZeZ (x:Ln) (f:Fd) (i:Int) (es:List En):En×Int:=
 if x.kind=2∨(x.kind=6∧0<i)then(ZQ f,0)else
 match ZeY es ((Zl x).getD 0 default)with
 |none=>(default,5)
 |some e=>
  if x.kind=9 then
   match ZeY es ((Zl x).getD 1 default)with
   |none=>(default,5)
   |some e2=>if(Zin e.n e2.n x.fac).2=0 then(⟨f.at',(Zin e.n e2.n x.fac).1,(ZQ f).l⟩,0)else(default,(Zin e.n e2.n x.fac).2)
  else(ZdT x f e,0)
theorem ZyX (f:Fd):(ZQ f).n=0:=rfl
theorem Zxe (f:Fd):(ZQ f).at'=f.at':=rfl
theorem Zng (x:Ln) (f:Fd) (i:Int) (es:List En) (hx:OkLn x) (hr:Zu x=true) (hl:es.length≤maxLen) (hl':∀e∈es,e.l.length≤1000000):PL.Pure Tryz.prog 126 [lns x,fld f,.int .i64 i,Zaj es] (ZdE (ZeZ x f i es)):=by
 have hV:=ZkI f;have hG:=Ze7 x hx;have hgo:Zil x=Zl x:=by simp[Zil,hr]
 rw[hgo]at hG;have hk:=(ZT hr).1;have hE:=fun r=>ZkS es r hl hl'
 have hfo:x.fo.length≤maxLen:=by have:=hx.f;rw[Zd];omega
 have hv1:=Zxe f;have hv2:=ZyX f;unfold ZeZ;have hmem:∀r e,ZeY es r=some e→e.l.length≤1000000:=fun r e h=>hl' e (List.mem_of_find?_eq_some h)
 obtain⟨kind,at',nm,ot,fac,fd,fo,ba⟩:=x;simp only at hk hfo ⊢;clear hgo hr hx hl';generalize hvm:ZQ f=v at *;obtain⟨vat,vn,vl⟩:=v;simp only at hv1 hv2 ⊢;subst hv1 hv2;have hkind:kind=1∨kind=2∨kind=3∨kind=4∨kind=5∨kind=6∨kind=7∨kind=8∨kind=9∨kind=10:=by omega
 rcases hkind with rfl|rfl|rfl|rfl|rfl|rfl|rfl|rfl|rfl|rfl
 ·
  have hg:Zl ⟨1,at',nm,ot,fac,fd,fo,ba⟩= [at']:=by simp[Zl]
  rw[hg]at hG ⊢;rw[if_neg (fun h=>by rcases h with h|⟨h,_⟩<;>exact absurd h (by decide))];have hE0:=hE at';simp only[List.getD_cons_zero,List.getD_cons_succ];cases hq:ZeY es at' with
  |none=>
   rw[hq]at hE0;refine pov Tryz.func126 (by decide) rfl Tryz.ntmps126 Tryz.results126 (by simp) (ZF _) ?_;simp only[go_sem,lns,fld];refine Za (hV) ?_ ?_ ?_;iterate 2 simp only[go_sem,fld]
   simp only[go_sem,ent,lns];refine Za (hG) ?_ ?_ ?_;iterate 2 simp only[go_sem,lns]
   simp only[go_sem,refs,ref,List.map_cons,List.map_nil];refine Za (hE0) ?_ ?_ ?_;iterate 2 simp only[go_sem,Zaj,ref]
   simp only[go_sem,ZfP,Option.getD_none,Option.isSome_none,ZdE,ent];rfl
  |some e=>
   rw[hq]at hE0;have hel:=hmem _ e hq;refine pov Tryz.func126 (by decide) rfl Tryz.ntmps126 Tryz.results126 (by simp) (ZF _) ?_;simp only[go_sem,lns,fld];refine Za (hV) ?_ ?_ ?_;iterate 2 simp only[go_sem,fld]
   simp only[go_sem,ent,lns];refine Za (hG) ?_ ?_ ?_;iterate 2 simp only[go_sem,lns]
   simp only[go_sem,refs,ref,List.map_cons,List.map_nil];refine Za (hE0) ?_ ?_ ?_;iterate 2 simp only[go_sem,Zaj,ref]
   simp only[go_sem,ZfP,Option.getD_some,Option.isSome_some,ent];refine Zhe [(12,10)] (by kernel_rfl) (by kernel_rfl) (by exact rfl) ?_;simp only[go_sem,ZdE,ent,ZdT,hvm]
 ·
  have hg:Zl ⟨2,at',nm,ot,fac,fd,fo,ba⟩= []:=by simp[Zl]
  rw[hg]at hG ⊢;rw[if_pos (.inl rfl)];refine pov Tryz.func126 (by decide) rfl Tryz.ntmps126 Tryz.results126 (by simp) (ZF _) ?_;simp only[go_sem,lns,fld];refine Za (hV) ?_ ?_ ?_;iterate 2 simp only[go_sem,fld]
  simp only[go_sem,ent,lns];refine Za (hG) ?_ ?_ ?_;iterate 2 simp only[go_sem,lns]
  simp only[go_sem,refs,ref,List.map_cons,List.map_nil];simp only[go_sem,ZdE,ent]
 ·
  have hg:Zl ⟨3,at',nm,ot,fac,fd,fo,ba⟩= [fd.at']:=by simp[Zl]
  rw[hg]at hG ⊢;rw[if_neg (fun h=>by rcases h with h|⟨h,_⟩<;>exact absurd h (by decide))];have hE0:=hE fd.at';simp only[List.getD_cons_zero,List.getD_cons_succ];cases hq:ZeY es fd.at' with
  |none=>
   rw[hq]at hE0;refine pov Tryz.func126 (by decide) rfl Tryz.ntmps126 Tryz.results126 (by simp) (ZF _) ?_;simp only[go_sem,lns,fld];refine Za (hV) ?_ ?_ ?_;iterate 2 simp only[go_sem,fld]
   simp only[go_sem,ent,lns];refine Za (hG) ?_ ?_ ?_;iterate 2 simp only[go_sem,lns]
   simp only[go_sem,refs,ref,List.map_cons,List.map_nil];refine Za (hE0) ?_ ?_ ?_;iterate 2 simp only[go_sem,Zaj,ref]
   simp only[go_sem,ZfP,Option.getD_none,Option.isSome_none,ZdE,ent];rfl
  |some e=>
   rw[hq]at hE0;have hel:=hmem _ e hq;refine pov Tryz.func126 (by decide) rfl Tryz.ntmps126 Tryz.results126 (by simp) (ZF _) ?_;simp only[go_sem,lns,fld];refine Za (hV) ?_ ?_ ?_;iterate 2 simp only[go_sem,fld]
   simp only[go_sem,ent,lns];refine Za (hG) ?_ ?_ ?_;iterate 2 simp only[go_sem,lns]
   simp only[go_sem,refs,ref,List.map_cons,List.map_nil];refine Za (hE0) ?_ ?_ ?_;iterate 2 simp only[go_sem,Zaj,ref]
   simp only[go_sem,ZfP,Option.getD_some,Option.isSome_some,ent,ZdE,ZdT,hvm]
 ·
  have hg:Zl ⟨4,at',nm,ot,fac,fd,fo,ba⟩= [at']:=by simp[Zl]
  rw[hg]at hG ⊢;rw[if_neg (fun h=>by rcases h with h|⟨h,_⟩<;>exact absurd h (by decide))];have hE0:=hE at';simp only[List.getD_cons_zero,List.getD_cons_succ];cases hq:ZeY es at' with
  |none=>
   rw[hq]at hE0;refine pov Tryz.func126 (by decide) rfl Tryz.ntmps126 Tryz.results126 (by simp) (ZF _) ?_;simp only[go_sem,lns,fld];refine Za (hV) ?_ ?_ ?_;iterate 2 simp only[go_sem,fld]
   simp only[go_sem,ent,lns];refine Za (hG) ?_ ?_ ?_;iterate 2 simp only[go_sem,lns]
   simp only[go_sem,refs,ref,List.map_cons,List.map_nil];refine Za (hE0) ?_ ?_ ?_;iterate 2 simp only[go_sem,Zaj,ref]
   simp only[go_sem,ZfP,Option.getD_none,Option.isSome_none,ZdE,ent];rfl
  |some e=>
   rw[hq]at hE0;have hel:=hmem _ e hq;refine pov Tryz.func126 (by decide) rfl Tryz.ntmps126 Tryz.results126 (by simp) (ZF _) ?_;simp only[go_sem,lns,fld];refine Za (hV) ?_ ?_ ?_;iterate 2 simp only[go_sem,fld]
   simp only[go_sem,ent,lns];refine Za (hG) ?_ ?_ ?_;iterate 2 simp only[go_sem,lns]
   simp only[go_sem,refs,ref,List.map_cons,List.map_nil];refine Za (hE0) ?_ ?_ ?_;iterate 2 simp only[go_sem,Zaj,ref]
   simp only[go_sem,ZfP,Option.getD_some,Option.isSome_some,ent];refine Zhe [(12,10)] (by kernel_rfl) (by kernel_rfl) (by exact rfl) ?_;simp only[go_sem,ZdE,ent,ZdT,hvm]
 ·
  have hg:Zl ⟨5,at',nm,ot,fac,fd,fo,ba⟩= [at']:=by simp[Zl]
  rw[hg]at hG ⊢;rw[if_neg (fun h=>by rcases h with h|⟨h,_⟩<;>exact absurd h (by decide))];have hE0:=hE at';simp only[List.getD_cons_zero,List.getD_cons_succ];cases hq:ZeY es at' with
  |none=>
   rw[hq]at hE0;refine pov Tryz.func126 (by decide) rfl Tryz.ntmps126 Tryz.results126 (by simp) (ZF _) ?_;simp only[go_sem,lns,fld];refine Za (hV) ?_ ?_ ?_;iterate 2 simp only[go_sem,fld]
   simp only[go_sem,ent,lns];refine Za (hG) ?_ ?_ ?_;iterate 2 simp only[go_sem,lns]
   simp only[go_sem,refs,ref,List.map_cons,List.map_nil];refine Za (hE0) ?_ ?_ ?_;iterate 2 simp only[go_sem,Zaj,ref]
   simp only[go_sem,ZfP,Option.getD_none,Option.isSome_none,ZdE,ent];rfl
  |some e=>
   rw[hq]at hE0;have hel:=hmem _ e hq;refine pov Tryz.func126 (by decide) rfl Tryz.ntmps126 Tryz.results126 (by simp) (ZF _) ?_;simp only[go_sem,lns,fld];refine Za (hV) ?_ ?_ ?_;iterate 2 simp only[go_sem,fld]
   simp only[go_sem,ent,lns];refine Za (hG) ?_ ?_ ?_;iterate 2 simp only[go_sem,lns]
   simp only[go_sem,refs,ref,List.map_cons,List.map_nil];refine Za (hE0) ?_ ?_ ?_;iterate 2 simp only[go_sem,Zaj,ref]
   simp only[go_sem,ZfP,Option.getD_some,Option.isSome_some,ent];refine Zhe [(12,10)] (by kernel_rfl) (by kernel_rfl) (by exact rfl) ?_;simp only[go_sem,ZdE,ent,ZdT,hvm]
 ·
  have hg:Zl ⟨6,at',nm,ot,fac,fd,fo,ba⟩= [at']:=by simp[Zl]
  rw[hg]at hG ⊢
  by_cases hi:0<i
  ·rw[if_pos (.inr ⟨rfl,hi⟩)];refine pov Tryz.func126 (by decide) rfl Tryz.ntmps126 Tryz.results126 (by simp) (ZF _) ?_;simp only[go_sem,lns,fld];refine Za (hV) ?_ ?_ ?_;iterate 2 simp only[go_sem,fld]
   simp only[go_sem,ent,lns];refine Za (hG) ?_ ?_ ?_;iterate 2 simp only[go_sem,lns]
   simp only[go_sem,refs,ref,List.map_cons,List.map_nil];simp only[go_sem,hi,ZdE,ent]
  ·rw[if_neg (fun h=>hi (h.elim (fun g=>absurd g (by decide)) (·.2)))];have hE0:=hE at';simp only[List.getD_cons_zero,List.getD_cons_succ];cases hq:ZeY es at' with
   |none=>
    rw[hq]at hE0;refine pov Tryz.func126 (by decide) rfl Tryz.ntmps126 Tryz.results126 (by simp) (ZF _) ?_;simp only[go_sem,lns,fld];refine Za (hV) ?_ ?_ ?_;iterate 2 simp only[go_sem,fld]
    simp only[go_sem,ent,lns];refine Za (hG) ?_ ?_ ?_;iterate 2 simp only[go_sem,lns]
    simp only[go_sem,hi,refs,ref,List.map_cons,List.map_nil];refine Za (hE0) ?_ ?_ ?_;iterate 2 simp only[go_sem,Zaj,ref]
    simp only[go_sem,ZfP,Option.getD_none,Option.isSome_none,ZdE,ent];rfl
   |some e=>
    rw[hq]at hE0;have hel:=hmem _ e hq;refine pov Tryz.func126 (by decide) rfl Tryz.ntmps126 Tryz.results126 (by simp) (ZF _) ?_;simp only[go_sem,lns,fld];refine Za (hV) ?_ ?_ ?_;iterate 2 simp only[go_sem,fld]
    simp only[go_sem,ent,lns];refine Za (hG) ?_ ?_ ?_;iterate 2 simp only[go_sem,lns]
    simp only[go_sem,hi,refs,ref,List.map_cons,List.map_nil];refine Za (hE0) ?_ ?_ ?_;iterate 2 simp only[go_sem,Zaj,ref]
    simp only[go_sem,ZfP,Option.getD_some,Option.isSome_some,ent,ZdE,ZdT,hvm]
 ·
  have hg:Zl ⟨7,at',nm,ot,fac,fd,fo,ba⟩= [at']:=by simp[Zl]
  rw[hg]at hG ⊢;rw[if_neg (fun h=>by rcases h with h|⟨h,_⟩<;>exact absurd h (by decide))];have hE0:=hE at';simp only[List.getD_cons_zero,List.getD_cons_succ];cases hq:ZeY es at' with
  |none=>
   rw[hq]at hE0;refine pov Tryz.func126 (by decide) rfl Tryz.ntmps126 Tryz.results126 (by simp) (ZF _) ?_;simp only[go_sem,lns,fld];refine Za (hV) ?_ ?_ ?_;iterate 2 simp only[go_sem,fld]
   simp only[go_sem,ent,lns];refine Za (hG) ?_ ?_ ?_;iterate 2 simp only[go_sem,lns]
   simp only[go_sem,refs,ref,List.map_cons,List.map_nil];refine Za (hE0) ?_ ?_ ?_;iterate 2 simp only[go_sem,Zaj,ref]
   simp only[go_sem,ZfP,Option.getD_none,Option.isSome_none,ZdE,ent];rfl
  |some e=>
   rw[hq]at hE0;have hel:=hmem _ e hq
   by_cases h0:0<(e.l.length:Int)
   ·have h00:0<e.l.length:=by omega
    have gs:=ZR h00;cases hb:(e.l.getD 0 []==ot)
    ·have hc:¬e.l.getD 0 []=ot:=by simpa using hb
     refine pov Tryz.func126 (by decide) rfl Tryz.ntmps126 Tryz.results126 (by simp) (ZF _) ?_;simp only[go_sem,lns,fld];refine Za (hV) ?_ ?_ ?_;iterate 2 simp only[go_sem,fld]
     simp only[go_sem,ent,lns];refine Za (hG) ?_ ?_ ?_;iterate 2 simp only[go_sem,lns]
     simp only[go_sem,refs,ref,List.map_cons,List.map_nil];refine Za (hE0) ?_ ?_ ?_;iterate 2 simp only[go_sem,Zaj,ref]
     simp only[go_sem,ZfP,Option.getD_some,Option.isSome_some,ent];refine Ze (by kernel_rfl) (by kernel_rfl) ?_;simp only[go_sem,h0,gs,List.length_map,hb,Bool.not_true,Bool.not_false];have hcut:PL.cut (e.l.map PV.str) 0 1= [.str (e.l.getD 0 [])]:=by rcases hl:e.l with _|⟨a,t⟩<;>simp_all[PL.cut]
     have h1:(1:Int)≤(e.l.length:Int):=by omega
     simp only[go_sem,h1,hcut,ZaJ,ZdE,ent,ZdT,hvm,h0,hc,List.map_cons,List.map_nil]
    ·have hc:e.l.getD 0 []=ot:=by simpa using hb
     refine pov Tryz.func126 (by decide) rfl Tryz.ntmps126 Tryz.results126 (by simp) (ZF _) ?_;simp only[go_sem,lns,fld];refine Za (hV) ?_ ?_ ?_;iterate 2 simp only[go_sem,fld]
     simp only[go_sem,ent,lns];refine Za (hG) ?_ ?_ ?_;iterate 2 simp only[go_sem,lns]
     simp only[go_sem,refs,ref,List.map_cons,List.map_nil];refine Za (hE0) ?_ ?_ ?_;iterate 2 simp only[go_sem,Zaj,ref]
     simp only[go_sem,ZfP,Option.getD_some,Option.isSome_some,ent];refine Ze (by kernel_rfl) (by kernel_rfl) ?_;simp only[go_sem,h0,gs,List.length_map,hb,Bool.not_true,Bool.not_false];simp only[go_sem,ZdE,ent,ZdT,hvm,h0,hc,List.map_nil];rfl
   ·refine pov Tryz.func126 (by decide) rfl Tryz.ntmps126 Tryz.results126 (by simp) (ZF _) ?_;simp only[go_sem,lns,fld];refine Za (hV) ?_ ?_ ?_;iterate 2 simp only[go_sem,fld]
    simp only[go_sem,ent,lns];refine Za (hG) ?_ ?_ ?_;iterate 2 simp only[go_sem,lns]
    simp only[go_sem,refs,ref,List.map_cons,List.map_nil];refine Za (hE0) ?_ ?_ ?_;iterate 2 simp only[go_sem,Zaj,ref]
    simp only[go_sem,ZfP,Option.getD_some,Option.isSome_some,ent];refine Ze (by kernel_rfl) (by kernel_rfl) ?_;simp only[go_sem,h0,List.length_map,ZdE,ent,ZdT,hvm,List.map_nil];rfl
 ·
  have hg:Zl ⟨8,at',nm,ot,fac,fd,fo,ba⟩= [at']:=by simp[Zl]
  rw[hg]at hG ⊢;rw[if_neg (fun h=>by rcases h with h|⟨h,_⟩<;>exact absurd h (by decide))];have hE0:=hE at';simp only[List.getD_cons_zero,List.getD_cons_succ];cases hq:ZeY es at' with
  |none=>
   rw[hq]at hE0;refine pov Tryz.func126 (by decide) rfl Tryz.ntmps126 Tryz.results126 (by simp) (ZF _) ?_;simp only[go_sem,lns,fld];refine Za (hV) ?_ ?_ ?_;iterate 2 simp only[go_sem,fld]
   simp only[go_sem,ent,lns];refine Za (hG) ?_ ?_ ?_;iterate 2 simp only[go_sem,lns]
   simp only[go_sem,refs,ref,List.map_cons,List.map_nil];refine Za (hE0) ?_ ?_ ?_;iterate 2 simp only[go_sem,Zaj,ref]
   simp only[go_sem,ZfP,Option.getD_none,Option.isSome_none,ZdE,ent];rfl
  |some e=>
   rw[hq]at hE0;have hel:=hmem _ e hq
   by_cases h0:0<(e.l.length:Int)
   ·have h00:0<e.l.length:=by omega
    have gs:=ZR h00;have hC:=Zdb fo (e.l.getD 0 []) hfo;refine pov Tryz.func126 (by decide) rfl Tryz.ntmps126 Tryz.results126 (by simp) (ZF _) ?_;simp only[go_sem,lns,fld];refine Za (hV) ?_ ?_ ?_;iterate 2 simp only[go_sem,fld]
    simp only[go_sem,ent,lns];refine Za (hG) ?_ ?_ ?_;iterate 2 simp only[go_sem,lns]
    simp only[go_sem,refs,ref,List.map_cons,List.map_nil];refine Za (hE0) ?_ ?_ ?_;iterate 2 simp only[go_sem,Zaj,ref]
    simp only[go_sem,ZfP,Option.getD_some,Option.isSome_some,ent,h0,List.length_map];refine Ze (by kernel_rfl) (by kernel_rfl) ?_;simp only[go_sem,h0,gs,List.length_map];refine Za (hC) ?_ ?_ ?_;iterate 2 simp only[go_sem,prs]
    simp only[go_sem,ZdP,ZdE,ent,ZdT,hvm,h0,List.map_cons,List.map_nil]
   ·refine pov Tryz.func126 (by decide) rfl Tryz.ntmps126 Tryz.results126 (by simp) (ZF _) ?_;simp only[go_sem,lns,fld];refine Za (hV) ?_ ?_ ?_;iterate 2 simp only[go_sem,fld]
    simp only[go_sem,ent,lns];refine Za (hG) ?_ ?_ ?_;iterate 2 simp only[go_sem,lns]
    simp only[go_sem,refs,ref,List.map_cons,List.map_nil];refine Za (hE0) ?_ ?_ ?_;iterate 2 simp only[go_sem,Zaj,ref]
    simp only[go_sem,ZfP,Option.getD_some,Option.isSome_some,ent,h0,List.length_map,ZdE,ZdT,hvm]
 ·
  have hg:Zl ⟨9,at',nm,ot,fac,fd,fo,ba⟩= [Zv at' nm,Zv at' ot]:=by simp[Zl]
  rw[hg]at hG ⊢;rw[if_neg (fun h=>by rcases h with h|⟨h,_⟩<;>exact absurd h (by decide))];have hE0:=hE (Zv at' nm);simp only[List.getD_cons_zero,List.getD_cons_succ];cases hq:ZeY es (Zv at' nm)with
  |none=>
   rw[hq]at hE0;refine pov Tryz.func126 (by decide) rfl Tryz.ntmps126 Tryz.results126 (by simp) (ZF _) ?_;simp only[go_sem,lns,fld];refine Za (hV) ?_ ?_ ?_;iterate 2 simp only[go_sem,fld]
   simp only[go_sem,ent,lns];refine Za (hG) ?_ ?_ ?_;iterate 2 simp only[go_sem,lns]
   simp only[go_sem,refs,ref,List.map_cons,List.map_nil];refine Za (hE0) ?_ ?_ ?_;iterate 2 simp only[go_sem,Zaj,ref]
   simp only[go_sem,ZfP,Option.getD_none,Option.isSome_none,ZdE,ent];rfl
  |some e=>
   rw[hq]at hE0;have hel:=hmem _ e hq;have hE1:=hE (Zv at' ot);cases hq1:ZeY es (Zv at' ot)with
   |none=>
    rw[hq1]at hE1;refine pov Tryz.func126 (by decide) rfl Tryz.ntmps126 Tryz.results126 (by simp) (ZF _) ?_;simp only[go_sem,lns,fld];refine Za (hV) ?_ ?_ ?_;iterate 2 simp only[go_sem,fld]
    simp only[go_sem,ent,lns];refine Za (hG) ?_ ?_ ?_;iterate 2 simp only[go_sem,lns]
    simp only[go_sem,refs,ref,List.map_cons,List.map_nil];refine Za (hE0) ?_ ?_ ?_;iterate 2 simp only[go_sem,Zaj,ref]
    simp only[go_sem,ZfP,Option.getD_some,Option.isSome_some,ent];refine Za (hE1) ?_ ?_ ?_;iterate 2 simp only[go_sem,Zaj,ref]
    simp only[go_sem,ZfP,Option.getD_none,Option.isSome_none,ZdE,ent];rfl
   |some e2=>
    rw[hq1]at hE1;have hM:=Zn5 e.n e2.n fac;simp only[if_true];generalize Zin e.n e2.n fac=mg at *;obtain⟨mv,mc⟩:=mg;simp only at hM ⊢
    by_cases hc:mc=0
    ·subst hc;refine pov Tryz.func126 (by decide) rfl Tryz.ntmps126 Tryz.results126 (by simp) (ZF _) ?_;simp only[go_sem,lns,fld];refine Za (hV) ?_ ?_ ?_;iterate 2 simp only[go_sem,fld]
     simp only[go_sem,ent,lns];refine Za (hG) ?_ ?_ ?_;iterate 2 simp only[go_sem,lns]
     simp only[go_sem,refs,ref,List.map_cons,List.map_nil];refine Za (hE0) ?_ ?_ ?_;iterate 2 simp only[go_sem,Zaj,ref]
     simp only[go_sem,ZfP,Option.getD_some,Option.isSome_some,ent];refine Za (hE1) ?_ ?_ ?_;iterate 2 simp only[go_sem,Zaj,ref]
     simp only[go_sem,ZfP,Option.getD_some,Option.isSome_some,ent];refine Za (hM) ?_ ?_ ?_;iterate 2 simp only[go_sem]
     simp only[go_sem,Zr4,ZdE,ent]
    ·have hc':(mc !=0)=true:=bne_iff_ne.2 hc;rw[if_neg hc];refine pov Tryz.func126 (by decide) rfl Tryz.ntmps126 Tryz.results126 (by simp) (ZF _) ?_;simp only[go_sem,lns,fld];refine Za (hV) ?_ ?_ ?_;iterate 2 simp only[go_sem,fld]
     simp only[go_sem,ent,lns];refine Za (hG) ?_ ?_ ?_;iterate 2 simp only[go_sem,lns]
     simp only[go_sem,refs,ref,List.map_cons,List.map_nil];refine Za (hE0) ?_ ?_ ?_;iterate 2 simp only[go_sem,Zaj,ref]
     simp only[go_sem,ZfP,Option.getD_some,Option.isSome_some,ent];refine Za (hE1) ?_ ?_ ?_;iterate 2 simp only[go_sem,Zaj,ref]
     simp only[go_sem,ZfP,Option.getD_some,Option.isSome_some,ent];refine Za (hM) ?_ ?_ ?_;iterate 2 simp only[go_sem]
     simp only[go_sem,Zr4,hc',ZdE,ent];rfl
 ·
  have hg:Zl ⟨10,at',nm,ot,fac,fd,fo,ba⟩= [at']:=by simp[Zl]
  rw[hg]at hG ⊢;rw[if_neg (fun h=>by rcases h with h|⟨h,_⟩<;>exact absurd h (by decide))];have hE0:=hE at';simp only[List.getD_cons_zero,List.getD_cons_succ];cases hq:ZeY es at' with
  |none=>
   rw[hq]at hE0;refine pov Tryz.func126 (by decide) rfl Tryz.ntmps126 Tryz.results126 (by simp) (ZF _) ?_;simp only[go_sem,lns,fld];refine Za (hV) ?_ ?_ ?_;iterate 2 simp only[go_sem,fld]
   simp only[go_sem,ent,lns];refine Za (hG) ?_ ?_ ?_;iterate 2 simp only[go_sem,lns]
   simp only[go_sem,refs,ref,List.map_cons,List.map_nil];refine Za (hE0) ?_ ?_ ?_;iterate 2 simp only[go_sem,Zaj,ref]
   simp only[go_sem,ZfP,Option.getD_none,Option.isSome_none,ZdE,ent];rfl
  |some e=>
   rw[hq]at hE0;have hel:=hmem _ e hq
   by_cases h0:0<(e.l.length:Int)
   ·have h00:0<e.l.length:=by omega
    have w1:IntKind.i64.wrap ((e.l.length:Int)-1)=((e.l.length-1:Nat):Int):=by rw[w64 (by omega)];omega
    have gs:=ZR (show e.l.length-1<e.l.length by omega);have j1:(0:Int)≤((e.l.length-1:Nat):Int):=by omega
    have j2:((e.l.length-1:Nat):Int)<(e.l.length:Int):=by omega
    refine pov Tryz.func126 (by decide) rfl Tryz.ntmps126 Tryz.results126 (by simp) (ZF _) ?_;simp only[go_sem,lns,fld];refine Za (hV) ?_ ?_ ?_;iterate 2 simp only[go_sem,fld]
    simp only[go_sem,ent,lns];refine Za (hG) ?_ ?_ ?_;iterate 2 simp only[go_sem,lns]
    simp only[go_sem,refs,ref,List.map_cons,List.map_nil];refine Za (hE0) ?_ ?_ ?_;iterate 2 simp only[go_sem,Zaj,ref]
    simp only[go_sem,ZfP,Option.getD_some,Option.isSome_some,ent,h0,List.length_map,w1,j1,j2,gs,ZdE,ZdT,hvm,List.map_cons,List.map_nil]
   ·refine pov Tryz.func126 (by decide) rfl Tryz.ntmps126 Tryz.results126 (by simp) (ZF _) ?_;simp only[go_sem,lns,fld];refine Za (hV) ?_ ?_ ?_;iterate 2 simp only[go_sem,fld]
    simp only[go_sem,ent,lns];refine Za (hG) ?_ ?_ ?_;iterate 2 simp only[go_sem,lns]
    simp only[go_sem,refs,ref,List.map_cons,List.map_nil];refine Za (hE0) ?_ ?_ ?_;iterate 2 simp only[go_sem,Zaj,ref]
    simp only[go_sem,ZfP,Option.getD_some,Option.isSome_some,ent,h0,List.length_map,ZdE,ZdT,hvm]
open Go.PL
open Go.PL
open Go.PL
open Go.PL
theorem Zmo {u p f:Int} (hf:2≤f∧f≤1000) (hu:Lim u) (hp:Lim p):IntKind.i64.wrap (p*f)=p*f∧IntKind.i64.wrap (u+IntKind.i64.wrap (p*f))=u+p*f∧Zin u p f=if ZaU (p*f)=true∧ZaU (u+p*f)=true then(u+p*f,0)else(0,3):=by
 have m:=ZjB (w:=f) (by omega);unfold Lim at hu hp;have b1: -4503599627370496000≤p*f∧p*f≤4503599627370496000:=by
  have p1:p*f≤4503599627370496*f:=Int.mul_le_mul_of_nonneg_right hp.2 (by omega);have p2:(-4503599627370496)*f≤p*f:=Int.mul_le_mul_of_nonneg_right hp.1 (by omega);omega
 have c:f*p=p*f:=Int.mul_comm _ _;have w1:IntKind.i64.wrap (p*f)=p*f:=ZfG (by omega);have w2:IntKind.i64.wrap (u+IntKind.i64.wrap (p*f))=u+p*f:=by rw[w1];exact ZfG (by omega)
 refine⟨w1,w2,?_⟩;have hj:Zfo u p f=if p < - Za8 f∨Za8 f<p then(0,3)else if ZaU (u+p*f)=true then(u+p*f,0)else(0,3):=by
  unfold Zfo;rw[if_neg (fun h=>h hf),c,w2]
 unfold Zin;rw[if_pos ⟨Zab.2 hu,Zab.2 hp⟩,hj]
 by_cases h1:p < - Za8 f∨Za8 f<p
 ·have hn:¬ZaU (p*f)=true:=fun h=>by
   rw[Zab]at h;unfold Lim at h;rcases h1 with h1|h1
   ·have p1:p*f≤(- Za8 f-1)*f:=Int.mul_le_mul_of_nonneg_right (by omega) (by omega);have e1:(- Za8 f-1)*f= - ((Za8 f+1)*f):=by rw[←Int.neg_mul];congr 1;omega
    omega
   ·have p1:(Za8 f+1)*f≤p*f:=Int.mul_le_mul_of_nonneg_right (by omega) (by omega);omega
  rw[if_pos h1];simp[hn]
 ·have hy:ZaU (p*f)=true:=by
   rw[Zab];unfold Lim;have p1:p*f≤Za8 f*f:=Int.mul_le_mul_of_nonneg_right (by omega) (by omega);have p2:(- Za8 f)*f≤p*f:=Int.mul_le_mul_of_nonneg_right (by omega) (by omega);have e1:(- Za8 f)*f= - (Za8 f*f):=Int.neg_mul _ _;omega
  rw[if_neg h1]
  by_cases h2:ZaU (u+p*f)=true
  ·simp[hy,h2]
  ·simp[h2]
structure GotOk (x:Ln) (f:Fd) (i:Int) (es:List En):Prop where
 h3:x.kind≠3
 hi:0≤i∧i≤1
 e1:x.kind≠2→ ∃e,ZeY es ((Zl x).getD 0 default)=some e∧((x.kind=7∨x.kind=8)→0<e.l.length)∧(x.kind=9→Lim e.n)
 e2:x.kind=9→(∃e,ZeY es ((Zl x).getD 1 default)=some e∧Lim e.n)∧2≤x.fac∧x.fac≤1000
 v1:x.kind=6∨x.kind=9→(ZQ f).l= []
 v10:x.kind=10→(ZQ f).l= [x.ot]
open Go.PL
def lnC (x:Ln):List PV:= [.int .i64 x.kind,.int .i64 x.at'.sc,.str x.at'.gr,.str x.at'.nm,.str x.nm,.str x.ot,.int .i64 x.fac,.int .i64 x.fd.at'.sc,.str x.fd.at'.gr,.str x.fd.at'.nm,.int .i64 x.fd.kind,.str x.fd.df,.sl .no (x.fd.cases'.map .str),.int .i64 x.fd.worth,.sl .no (x.fo.map pr),.sl .no (x.ba.map pr)]
def Zhk (x:Ln) (es:List En) (f:Fd):En×Int:=
 if ZE (Zc x) f.at'<0 then(match ZeY es f.at' with|none=>(default,5)|some e=>(e,0))else ZeZ x f (ZE (Zc x) f.at') es
def ZbV (x:Ln) (es:List En) (f:Fd):Bool:=(Zhk x es f).2 !=0
def ZaH (x:Ln) (fs:List Fd) (es:List En):List En×Int:=
 match fs.find? (ZbV x es)with
 |some f=>([],(Zhk x es f).2)
 |none=>(fs.map fun f=>(Zhk x es f).1,0)
def Zik (y:List En×Int):PV:= .tup [Zaj y.1,.int .i64 y.2]
theorem ZrU (y:List En×Int):(Zik y).dids= []:=by simp only[Zik,PV.dids,PV.didsL,Zjc,List.append_nil]
theorem Zh8 (fs:List Fd) (x:Ln) (es:List En) (hx:OkLn x) (hr:Zu x=true) (hf:fs.length≤100000) (hl:es.length≤maxLen) (hl':∀e∈es,e.l.length≤1000000):PL.Pure Tryz.prog 86 [Zn fs,lns x,Zaj es] (Zik (ZaH x fs es)):=by
 have hm:fs.length≤maxLen:=by rw[Zd];omega
 have hC:=Zd0 x hx;have hco:ZeX x=Zc x:=by simp[ZeX,hr]
 rw[hco]at hC;have hcl:=ZfM x;have hr0:=Za1 (show fs.length≤1000000 by omega) (show 72≤1000 by omega);refine pov Tryz.func86 (by decide) rfl Tryz.ntmps86 Tryz.results86 (by simp) (ZrU _) ?_;simp only[go_sem,Zn,lns,Zaj];refine Za (hC) ?_ ?_ ?_;iterate 2 simp only[go_sem,lns]
 simp only[go_sem,Zn,List.length_map,hr0,hm];refine⟨by omega,?_⟩;refine Zas 9 21 48 0 5 66 [] rfl rfl rfl ?_;refine ZI (ι:= { y:Nat×Bool // y.1≤fs.length∧ ∀j,j<y.1→ZbV x es (fs.getD j default)=false }) 64 (fun y=> [(2,Zaj es),(4,.ptr 4 0),(8,refs (Zc x)),(9,.sl (.row (cond y.1.2 48 61)) (((fs.take y.1.1).map fun f=>(Zhk x es f).1).map ent)),(22,Zn fs),(23,.int .i64 (fs.length:Int)),(24,.int .i64 (y.1.1:Int))]) (fun y=> [(4,lnC x,false)]) (fun y=> [(cond y.1.2 48 61,.live y.1.1 5 66)]) (fun y=>fs.length-y.1.1) ⟨(0,true),Nat.zero_le _,fun j hj=>absurd hj (Nat.not_lt_zero j)⟩
  ⟨rfl,(Fc7 rfl rfl rfl rfl rfl rfl rfl),fcs ⟨rfl,rfl⟩ fnl,(fcs rfl fnl)⟩ (fun y=>⟨Fc7 rfl rfl rfl (by simp[PV.ids,ZV]) rfl rfl rfl,fcs rfl fnl⟩) (fun y=> ?_)
 obtain⟨⟨k,rb⟩,hk,hI⟩:=y;simp only at hk hI ⊢
 by_cases h:(k:Int)<(fs.length:Int)
 ·have hka:k<fs.length:=by omega
  have w1:=Zcd hka hm;have i1:(0:Int)≤(k:Int):=by omega
  have hlen:((fs.take k).map fun f=>(Zhk x es f).1).length=k:=by simp;omega
  have hrm:=Za1 (show k+1≤1000000 by omega) (show 72≤1000 by omega);have hP:PL.Pure Tryz.prog 125 [refs (Zc x),ref (fs.getD k default).at'] (.int .i64 (ZE (Zc x) (fs.getD k default).at')):=Zex (Zc x) (fs.getD k default).at' (by rw[Zd];omega);have hA:=Zng x (fs.getD k default) (ZE (Zc x) (fs.getD k default).at') es hx hr hl hl';have hE:=ZkS es (fs.getD k default).at' hl hl';have hdef:Zhk x es (fs.getD k default)=if ZE (Zc x) (fs.getD k default).at'<0 then(match ZeY es (fs.getD k default).at' with|none=>(default,5)|some e=>(e,0))else ZeZ x (fs.getD k default) (ZE (Zc x) (fs.getD k default).at') es:=rfl
  have gk:=ZL hka;have hsn:((fs.take (k+1)).map fun f=>(Zhk x es f).1).map ent=((fs.take k).map fun f=>(Zhk x es f).1).map ent++ [ent (Zhk x es (fs.getD k default)).1]:=by
   rw[ZY (d:=default) hka,List.map_append,List.map_append];rfl
  by_cases hp:ZE (Zc x) (fs.getD k default).at'<0
  ·have hp':¬(0:Int)≤ZE (Zc x) (fs.getD k default).at':=by omega
   rw[if_pos hp]at hdef;generalize ZE (Zc x) (fs.getD k default).at'=at' at *;cases hq:ZeY es (fs.getD k default).at' with
   |none=>
    rw[hq]at hE hdef;simp only at hdef;have hb:ZbV x es (fs.getD k default)=true:=by unfold ZbV;rw[hdef];rfl
    have hres:ZaH x fs es=([],5):=by unfold ZaH;rw[Zc3 hka hI hb];simp only[hdef]
    cases rb;all_goals
     simp only[cond_true,cond_false];simp only[go_sem,Zn,h,gk,fld,i1,refs];refine Za (hP) ?_ ?_ ?_;iterate 2 simp only[go_sem,refs,ref]
     simp only[go_sem,hp',Zaj];refine Za (hE) ?_ ?_ ?_;iterate 2 simp only[go_sem,Zaj,ref]
     simp only[go_sem,ZfP,Option.getD_none,Option.isSome_none,ZeD,hres,Zik,Zaj,List.map_nil]
   |some e=>
    rw[hq]at hE hdef;simp only at hdef;have hb:ZbV x es (fs.getD k default)=false:=by unfold ZbV;rw[hdef];rfl
    cases rb;all_goals
     simp only[cond_true,cond_false];simp only[go_sem,Zn,h,gk,fld,i1,refs];refine Za (hP) ?_ ?_ ?_;iterate 2 simp only[go_sem,refs,ref]
     simp only[go_sem,hp',Zaj];refine Za (hE) ?_ ?_ ?_;iterate 2 simp only[go_sem,Zaj,ref]
     simp only[go_sem,ZfP,Option.getD_some,Option.isSome_some,ent,List.length_map,hlen,hrm,ZfC,w1];refine⟨⟨(k+1,false),by show k+1≤fs.length;omega,Zp (p:=fun j=>ZbV x es (fs.getD j default)=false) hI hb⟩,by show fs.length-(k+1)<fs.length-k;omega,⟨rfl,fcs rfl (fcs rfl (fcs rfl (fcs ?_ (Fc3 rfl rfl rfl)))),fcs ⟨rfl,rfl⟩ fnl,(fcs rfl fnl)⟩⟩;show PV.sl (.row 61) _=PV.sl (.row 61) _;rw[hsn,hdef];rfl
  ·have hp':(0:Int)≤ZE (Zc x) (fs.getD k default).at':=by omega
   rw[if_neg hp]at hdef;generalize ZE (Zc x) (fs.getD k default).at'=at' at *;rw[←hdef]at hA;cases hb:ZbV x es (fs.getD k default)
   ·have hc:(Zhk x es (fs.getD k default)).2=0:=by unfold ZbV at hb;simpa using hb
    generalize Zhk x es (fs.getD k default)=y at *;obtain⟨y1,y2⟩:=y;simp only at hc hA hsn;subst hc;cases rb;all_goals
     simp only[cond_true,cond_false];simp only[go_sem,Zn,h,gk,fld,i1,refs];refine Za (hP) ?_ ?_ ?_;iterate 2 simp only[go_sem,refs,ref]
     simp only[go_sem,hp',Zaj,lnC];refine Za (hA) ?_ ?_ ?_;iterate 2 simp only[go_sem,lns,fld,Zaj]
     simp only[go_sem,ZdE,ent,List.length_map,hlen,hrm,ZfC,w1];refine⟨⟨(k+1,true),by show k+1≤fs.length;omega,Zp (p:=fun j=>ZbV x es (fs.getD j default)=false) hI hb⟩,by show fs.length-(k+1)<fs.length-k;omega,⟨rfl,fcs rfl (fcs rfl (fcs rfl (fcs ?_ (Fc3 rfl rfl rfl)))),fcs ⟨rfl,rfl⟩ fnl,(fcs rfl fnl)⟩⟩;show PV.sl (.row 48) _=PV.sl (.row 48) _;rw[hsn];rfl
   ·have hc:((Zhk x es (fs.getD k default)).2 !=0)=true:=hb;have hres:ZaH x fs es=([],(Zhk x es (fs.getD k default)).2):=by unfold ZaH;rw[Zc3 hka hI hb]
    generalize Zhk x es (fs.getD k default)=y at *;obtain⟨y1,y2⟩:=y;simp only at hc hA hres;cases rb;all_goals
     simp only[cond_true,cond_false];simp only[go_sem,Zn,h,gk,fld,i1,refs];refine Za (hP) ?_ ?_ ?_;iterate 2 simp only[go_sem,refs,ref]
     simp only[go_sem,hp',Zaj,lnC];refine Za (hA) ?_ ?_ ?_;iterate 2 simp only[go_sem,lns,fld,Zaj]
     simp only[go_sem,ZdE,ent,hc,hres,Zik,Zaj,List.map_nil]
 ·obtain rfl:k=fs.length:=by omega
  have hres:ZaH x fs es=(fs.map fun f=>(Zhk x es f).1,0):=by unfold ZaH;rw[Zfg (d:=default) (fun j hj=>hI j hj)]
  rw[List.take_length];cases rb;all_goals
   simp only[cond_true,cond_false];simp only[go_sem,h,hres,Zik,Zaj]
def ZxQ (x:Ln) (es:List En) (f:Fd):Prop:=if ZE (Zc x) f.at'<0 then(∃e,ZeY es f.at'=some e)else GotOk x f (ZE (Zc x) f.at') es
end Go.Proofs.YthingdchjkhfbaaGreat
