/- Contracts of functions and laws of this seat, each for every input that it names: lemmas of the proof. -/
import Derived.Test.YthingdchjkhfbaaGreatXAf
namespace Go.Proofs.YthingdchjkhfbaaGreat
set_option maxHeartbeats 64000000
set_option maxRecDepth 20000
set_option linter.unusedVariables false
set_option linter.unusedSimpArgs false
open Go.PL
theorem Zz3 {a b:Rw} (h1:a.item=b.item) (h2:a.l=b.l):a=b:=by cases a;cases b;simp_all
theorem Zzz {a b:Dc} (h1:a.head=b.head) (h2:a.rows=b.rows):a=b:=by cases a;cases b;simp_all
theorem Zgd (a b:Dc) (ha:ZsW a) (hb:ZsW b):PL.Pure Tryz.prog 14 [doc a,doc b] (.bool (decide (a=b))):=by
 obtain⟨a1,a2,a3,a4⟩:=ha;obtain⟨b1,b2,b3,b4⟩:=hb;have hH:=ZcO a.head b.head a1 b1 a3 b3
 by_cases hl:a.rows.length=b.rows.length
 ·have hl':((a.rows.length:Int) !=(b.rows.length:Int))=false:=by rw[hl];exact bne_self_eq_false _
  by_cases hh:a.head=b.head
  ·rw[decide_eq_true hh]at hH;refine pov Tryz.func14 (by decide) rfl Tryz.ntmps14 Tryz.results14 (by simp) rfl ?_;simp only[go_sem,doc,hl'];refine Za (hH) ?_ ?_ ?_;iterate 2 simp only[go_sem,Zaj]
   simp only[go_sem];refine ZI (ι:= { k:Nat // k≤a.rows.length∧ ∀j,j<k→a.rows.getD j default=b.rows.getD j default }) 57 (fun x=> [(2,.ptr 2 0),(3,.ptr 3 0),(5,.int .i64 (x.1:Int))]) (fun x=> [(2,[.sl .no (a.head.map ent),.sl .no (a.rows.map row)],false),(3,[.sl .no (b.head.map ent),.sl .no (b.rows.map row)],false)]) (fun x=> []) (fun x=>a.rows.length-x.1) ⟨0,by omega,fun j hj=>by omega⟩
    ⟨rfl,(Fc3 rfl rfl rfl),Fc2 ⟨rfl,rfl⟩ ⟨rfl,rfl⟩,fnl⟩ (fun x=>⟨(Fc3 rfl rfl rfl),(Fc2 rfl rfl)⟩) (fun x=> ?_)
   obtain⟨k,hk,hall⟩:=x;simp only
   by_cases h:(k:Int)<(a.rows.length:Int)
   ·have hka:k<a.rows.length:=by omega
    have hkb:k<b.rows.length:=by omega
    have w1:=Zcd hka a2;have i1:(0:Int)≤(k:Int):=by omega
    have i2:(k:Int)<(b.rows.length:Int):=by omega
    have ra:=a4 _ (ZC (d:=default) hka);have rb:=b4 _ (ZC (d:=default) hkb);have hc:=ZcO _ _ ra.1 rb.1 ra.2 rb.2
    by_cases e1:(a.rows.getD k default).item=(b.rows.getD k default).item
    ·have e1':((a.rows.getD k default).item==(b.rows.getD k default).item)=true:=beq_iff_eq.2 e1
     by_cases e2:(a.rows.getD k default).l=(b.rows.getD k default).l
     ·rw[decide_eq_true e2]at hc;simp only[go_sem,h];refine Ze (by kernel_rfl) (by kernel_rfl) ?_;simp only[go_sem,Zcv hka,Zcv hkb,row,h,i1,i2,e1'];refine Za (hc) ?_ ?_ ?_;iterate 2 simp only[go_sem,Zaj]
      simp only[go_sem,w1];exact⟨⟨k+1,by omega,Zp hall (Zz3 e1 e2)⟩,by show a.rows.length-(k+1)<a.rows.length-k;omega,⟨rfl,(Fc3 rfl rfl rfl),Fc2 ⟨rfl,rfl⟩ ⟨rfl,rfl⟩,fnl⟩⟩
     ·rw[decide_eq_false e2]at hc;have hab:¬a=b:=fun e=>e2 (by rw[e])
      simp only[go_sem,h];refine Ze (by kernel_rfl) (by kernel_rfl) ?_;simp only[go_sem,Zcv hka,Zcv hkb,row,h,i1,i2,e1'];refine Za (hc) ?_ ?_ ?_;iterate 2 simp only[go_sem,Zaj]
      simp only[go_sem,hab]
    ·have e1':((a.rows.getD k default).item==(b.rows.getD k default).item)=false:=beq_eq_false_iff_ne.2 e1;have hab:¬a=b:=fun e=>e1 (by rw[e])
     simp only[go_sem,h];refine Ze (by kernel_rfl) (by kernel_rfl) ?_;simp only[go_sem,Zcv hka,Zcv hkb,row,h,i1,i2,e1',hab]
   ·have hab:decide (a=b)=true:=decide_eq_true (Zzz hh (Zcl (d:=default) hl fun j hj=>hall j (by omega)));simp only[go_sem,h,hab]
  ·rw[decide_eq_false hh]at hH;have hab:¬a=b:=fun e=>hh (by rw[e])
   refine pov Tryz.func14 (by decide) rfl Tryz.ntmps14 Tryz.results14 (by simp) rfl ?_;simp only[go_sem,doc,hl'];refine Za (hH) ?_ ?_ ?_;iterate 2 simp only[go_sem,Zaj]
   simp only[go_sem,hab]
 ·have hl':((a.rows.length:Int) !=(b.rows.length:Int))=true:=bne_iff_ne.2 (by omega);have hab:¬a=b:=fun e=>hl (by rw[e])
  refine pov Tryz.func14 (by decide) rfl Tryz.ntmps14 Tryz.results14 (by simp) rfl ?_;simp only[go_sem,doc,hl',hab]
def Zk1 (f:Fd):Bool:=ZbH 200 f.at'.gr||(ZbH 200 f.at'.nm||(ZbH 200 f.df||decide (20<(f.cases'.length:Int))))
def Zic (f:Fd):Bool:=Zk1 f||f.cases'.any (ZbH 200)
theorem Zm4 (f:Fd) (hl:f.cases'.length≤maxLen):PL.Pure Tryz.prog 55 [fld f] (.bool (Zic f)):=by
 have top:∀b,Zk1 f=b→(∀(_:b=true),Zic f=true):=fun b hb h=>by simp only[Zic,hb,h,Bool.true_or]
 cases ht:Zk1 f
 ·have hx:Zic f=f.cases'.any (ZbH 200):=by simp only[Zic,ht,Bool.false_or]
  rw[hx];simp only[Zk1,ZbH,Bool.or_eq_false_iff,decide_eq_false_iff_not]at ht;obtain⟨t1,t2,t3,t4⟩:=ht;have t1:¬(200:Int)<(f.at'.gr.length:Int):=by omega
  have t2:¬(200:Int)<(f.at'.nm.length:Int):=by omega
  have t3:¬(200:Int)<(f.df.length:Int):=by omega
  refine pov Tryz.func55 (by decide) rfl Tryz.ntmps55 Tryz.results55 (by simp) rfl ?_;simp only[go_sem,fld,t1,t2,t3,t4];refine ZI (ι:= { k:Nat // k≤f.cases'.length∧ ∀j,j<k→ZbH 200 (f.cases'.getD j [])=false }) 42 (fun x=> [(1,.ptr 1 0),(3,.int .i64 (x.1:Int))]) (fun x=> [(1,[.int .i64 f.at'.sc,.str f.at'.gr,.str f.at'.nm,.int .i64 f.kind,.str f.df,.sl .no (f.cases'.map .str),.int .i64 f.worth],false)]) (fun x=> []) (fun x=>f.cases'.length-x.1) ⟨0,by omega,fun j hj=>by omega⟩
   ⟨rfl,(Fc2 rfl rfl),fcs ⟨rfl,rfl⟩ fnl,fnl⟩ (fun x=>⟨(Fc2 rfl rfl),(fcs rfl fnl)⟩) (fun x=> ?_)
  obtain⟨k,hk,hall⟩:=x;simp only
  by_cases h:(k:Int)<(f.cases'.length:Int)
  ·have hka:k<f.cases'.length:=by omega
   have w1:=Zcd hka hl;have i1:(0:Int)≤(k:Int):=by omega
   by_cases g:(200:Int)<((f.cases'.getD k []).length:Int)
   ·have hz:=ZeA (p:=ZbH 200) hka (d:= []) (by simp only[ZbH,decide_eq_true_eq];omega);simp only[go_sem,h,ZR hka,i1,g,hz]
   ·simp only[go_sem,h,ZR hka,i1,g,w1];exact⟨⟨k+1,by omega,Zp hall (by simp only[ZbH,decide_eq_false_iff_not];omega)⟩,by show f.cases'.length-(k+1)<f.cases'.length-k;omega,⟨rfl,(Fc2 rfl rfl),fcs ⟨rfl,rfl⟩ fnl,fnl⟩⟩
  ·have hz:=Zd5 (p:=ZbH 200) (d:= []) (l:=f.cases') (fun j hj=>hall j (by omega));simp only[go_sem,h,hz]
 ·have hx:=top _ ht rfl;rw[hx];simp only[Zk1,ZbH,Bool.or_eq_true,decide_eq_true_eq]at ht
  by_cases t1:(200:Int)<(f.at'.gr.length:Int)
  ·refine pov Tryz.func55 (by decide) rfl Tryz.ntmps55 Tryz.results55 (by simp) rfl ?_;simp only[go_sem,fld,t1]
  ·by_cases t2:(200:Int)<(f.at'.nm.length:Int)
   ·refine pov Tryz.func55 (by decide) rfl Tryz.ntmps55 Tryz.results55 (by simp) rfl ?_;simp only[go_sem,fld,t1,t2]
   ·by_cases t3:(200:Int)<(f.df.length:Int)
    ·refine pov Tryz.func55 (by decide) rfl Tryz.ntmps55 Tryz.results55 (by simp) rfl ?_;simp only[go_sem,fld,t1,t2,t3]
    ·have t4:(20:Int)<(f.cases'.length:Int):=by omega
     refine pov Tryz.func55 (by decide) rfl Tryz.ntmps55 Tryz.results55 (by simp) rfl ?_;simp only[go_sem,fld,t1,t2,t3,t4]
open Go.PL
def ZeR (l:List Fd) (rs:List Rw) (i:Nat):Bool:=
 (Zap (rs.getD i default).item&&(decide (i=0)||Z4 (rs.getD (i-1) default).item (rs.getD i default).item))&&Z8 (Zr l 1) (rs.getD i default).l
def ZgO (l:List Fd) (d:Dc):Bool:=ZW l&&(!decide (400<(d.rows.length:Int))&&Z8 (Zr l 0) d.head)
def Zbk (l:List Fd) (d:Dc):Bool:=ZgO l d&&(List.range d.rows.length).all (ZeR l d.rows)
theorem Zlt {l:List Fd} (h:ZW l=true):l.length≤16:=by
 simp only[ZW,Bool.and_eq_true,Bool.not_eq_true',decide_eq_false_iff_not]at h;omega
open Go.PL
structure Pr where
 fr':Str
 to':Str
 deriving DecidableEq,Inhabited
structure Ln where
 kind:Int
 at':Rf
 nm:Str
 ot:Str
 fac:Int
 fd:Fd
 fo:List Pr
 ba:List Pr
 deriving DecidableEq,Inhabited
structure Tg where
 r:Int
 n:Int
 deriving DecidableEq,Inhabited
structure Eg where
 id:Tg
 par:Tg
 ln:Ln
 deriving DecidableEq,Inhabited
structure Lg where
 id:Tg
 down:Bool
 deriving DecidableEq,Inhabited
def pr (p:Pr):PV:= .agg [.str p.fr',.str p.to']
def prs (l:List Pr):PV:= .sl .no (l.map pr)
def refs (l:List Rf):PV:= .sl .no (l.map ref)
def lns (x:Ln):PV:= .agg [.int .i64 x.kind,.int .i64 x.at'.sc,.str x.at'.gr,.str x.at'.nm,.str x.nm,.str x.ot,.int .i64 x.fac,.int .i64 x.fd.at'.sc,.str x.fd.at'.gr,.str x.fd.at'.nm,.int .i64 x.fd.kind,.str x.fd.df,.sl .no (x.fd.cases'.map .str),.int .i64 x.fd.worth,.sl .no (x.fo.map pr),.sl .no (x.ba.map pr)]
def tg (t:Tg):PV:= .agg [.int .i64 t.r,.int .i64 t.n]
def tgs (l:List Tg):PV:= .sl .no (l.map tg)
def lg (t:Lg):PV:= .agg [.int .i64 t.id.r,.int .i64 t.id.n,.bool t.down]
def lgs (l:List Lg):PV:= .sl .no (l.map lg)
def eg (e:Eg):PV:= .agg [.int .i64 e.id.r,.int .i64 e.id.n,.int .i64 e.par.r,.int .i64 e.par.n,.int .i64 e.ln.kind,.int .i64 e.ln.at'.sc,.str e.ln.at'.gr,.str e.ln.at'.nm,.str e.ln.nm,.str e.ln.ot,.int .i64 e.ln.fac,.int .i64 e.ln.fd.at'.sc,.str e.ln.fd.at'.gr,.str e.ln.fd.at'.nm,.int .i64 e.ln.fd.kind,.str e.ln.fd.df,.sl .no (e.ln.fd.cases'.map .str),.int .i64 e.ln.fd.worth,.sl .no (e.ln.fo.map pr),.sl .no (e.ln.ba.map pr)]
def egs (l:List Eg):PV:= .sl .no (l.map eg)
theorem Zb9 {α:Type} {enc:α→PV} {l:List α} {i:Nat} {d:α} (h:i<l.length):(l.map enc).getD i .any=enc (l.getD i d):=by
 simp[List.getD_eq_getElem?_getD,h]
theorem Z6 {l:List Pr} {i:Nat} (h:i<l.length):(l.map pr).getD i .any=pr (l.getD i default):=Zb9 h
theorem ZaP {l:List Rf} {i:Nat} (h:i<l.length):(l.map ref).getD i .any=ref (l.getD i default):=Zb9 h
theorem ZaL {l:List Tg} {i:Nat} (h:i<l.length):(l.map tg).getD i .any=tg (l.getD i default):=Zb9 h
theorem Zx0 {l:List Lg} {i:Nat} (h:i<l.length):(l.map lg).getD i .any=lg (l.getD i default):=Zb9 h
theorem Zfk {l:List Eg} {i:Nat} (h:i<l.length):(l.map eg).getD i .any=eg (l.getD i default):=Zb9 h
theorem Zmw (a b:Pr):(a.fr'==b.fr'&&a.to'==b.to')=decide (a=b):=by
 cases a;cases b;rw[Bool.eq_iff_iff];simp
theorem ZG (a b:Tg):(a.r==b.r&&a.n==b.n)=decide (a=b):=by
 cases a;cases b;rw[Bool.eq_iff_iff];simp
theorem Zrz (a b:List Str) (ha:a.length≤maxLen) (hb:b.length≤maxLen):PL.Pure Tryz.prog 169 [ZaM a,ZaM b] (.bool (decide (a=b))):=by
 by_cases hl:a.length=b.length
 ·have hl':((a.length:Int) !=(b.length:Int))=false:=by rw[hl];exact bne_self_eq_false _
  refine pov Tryz.func169 (by decide) rfl Tryz.ntmps169 Tryz.results169 (by simp) rfl ?_;simp only[go_sem,ZaM,hl'];refine ZI (ι:= { x:Nat // x≤(a).length∧(∀j,j<x→a.getD j []=b.getD j []) }) 26 (fun x=> [(0,ZaM a),(1,ZaM b),(12,.int .i64 (a.length:Int)),(13,.int .i64 (x.1:Int))]) (fun x=> []) (fun x=> []) (fun x=>(a).length-x.1) ⟨0,Nat.zero_le _,fun j hj=>absurd hj (Nat.not_lt_zero j)⟩ ⟨rfl,(Fc4 rfl rfl rfl rfl),fnl,fnl⟩ (fun x=>⟨(Fc4 rfl rfl rfl rfl),fnl⟩) (fun x=> ?_);obtain⟨k,hk,hI⟩:=x;simp only at hk hI ⊢
  by_cases h:(k:Int)<(a.length:Int)
  ·(have hka:k<(a).length:=by omega);(have w1:=Zcd hka (ha));(have i1:(0:Int)≤(k:Int):=by omega)
   have hkb:k<b.length:=by omega
   have i2:(k:Int)<(b.length:Int):=by omega
   by_cases he:a.getD k []=b.getD k []
   ·have he':(a.getD k []==b.getD k [])=true:=beq_iff_eq.2 he;simp only[go_sem,ZaM,h];refine Ze (by kernel_rfl) (by kernel_rfl) ?_;simp only[go_sem,ZR hka,ZR hkb,h,i1,i2,he',w1];exact⟨⟨k+1,by(try simp only);omega,Zp hI he⟩,by show(a).length-(k+1)<(a).length-k;omega,⟨rfl,(Fc4 rfl rfl rfl rfl),fnl,fnl⟩⟩
   ·have he':(a.getD k []==b.getD k [])=false:=beq_eq_false_iff_ne.2 he;have hab:¬a=b:=Zef he;simp only[go_sem,ZaM,h];refine Ze (by kernel_rfl) (by kernel_rfl) ?_;simp only[go_sem,ZR hka,ZR hkb,h,i1,i2,he',hab]
  ·have hab:decide (a=b)=true:=decide_eq_true (Zcl (d:= []) hl fun j hj=>hI j (by omega));simp only[go_sem,ZaM,h,hab]
 ·have hl':((a.length:Int) !=(b.length:Int))=true:=bne_iff_ne.2 (by omega);have hab:¬a=b:=fun e=>hl (by rw[e])
  refine pov Tryz.func169 (by decide) rfl Tryz.ntmps169 Tryz.results169 (by simp) rfl ?_;simp only[go_sem,ZaM,hl',hab]
theorem ZsZ (a b:List Tg) (ha:a.length≤maxLen) (hb:b.length≤maxLen):PL.Pure Tryz.prog 114 [tgs a,tgs b] (.bool (decide (a=b))):=by
 by_cases hl:a.length=b.length
 ·have hl':((a.length:Int) !=(b.length:Int))=false:=by rw[hl];exact bne_self_eq_false _
  refine pov Tryz.func114 (by decide) rfl Tryz.ntmps114 Tryz.results114 (by simp) rfl ?_;simp only[go_sem,tgs,hl'];refine ZI (ι:= { x:Nat // x≤(a).length∧(∀j,j<x→a.getD j default=b.getD j default) }) 26 (fun x=> [(0,tgs a),(1,tgs b),(12,.int .i64 (a.length:Int)),(13,.int .i64 (x.1:Int))]) (fun x=> []) (fun x=> []) (fun x=>(a).length-x.1) ⟨0,Nat.zero_le _,fun j hj=>absurd hj (Nat.not_lt_zero j)⟩ ⟨rfl,(Fc4 rfl rfl rfl rfl),fnl,fnl⟩ (fun x=>⟨(Fc4 rfl rfl rfl rfl),fnl⟩) (fun x=> ?_);obtain⟨k,hk,hI⟩:=x;simp only at hk hI ⊢
  by_cases h:(k:Int)<(a.length:Int)
  ·(have hka:k<(a).length:=by omega);(have w1:=Zcd hka (ha));(have i1:(0:Int)≤(k:Int):=by omega)
   have hkb:k<b.length:=by omega
   have i2:(k:Int)<(b.length:Int):=by omega
   by_cases he:a.getD k default=b.getD k default
   ·have he':decide (a.getD k default=b.getD k default)=true:=decide_eq_true he;simp only[go_sem,tgs,h];refine Ze (by kernel_rfl) (by kernel_rfl) ?_;simp only[go_sem,ZaL hka,ZaL hkb,h,i1,i2,tg,ZG,he',w1];exact⟨⟨k+1,by(try simp only);omega,Zp hI he⟩,by show(a).length-(k+1)<(a).length-k;omega,⟨rfl,(Fc4 rfl rfl rfl rfl),fnl,fnl⟩⟩
   ·have he':decide (a.getD k default=b.getD k default)=false:=decide_eq_false he;have hab:¬a=b:=Zef he;simp only[go_sem,tgs,h];refine Ze (by kernel_rfl) (by kernel_rfl) ?_;simp only[go_sem,ZaL hka,ZaL hkb,h,i1,i2,tg,ZG,he',hab]
  ·have hab:decide (a=b)=true:=decide_eq_true (Zcl (d:=default) hl fun j hj=>hI j (by omega));simp only[go_sem,tgs,h,hab]
 ·have hl':((a.length:Int) !=(b.length:Int))=true:=bne_iff_ne.2 (by omega);have hab:¬a=b:=fun e=>hl (by rw[e])
  refine pov Tryz.func114 (by decide) rfl Tryz.ntmps114 Tryz.results114 (by simp) rfl ?_;simp only[go_sem,tgs,hl',hab]
theorem ZmZ (a b:List Pr) (ha:a.length≤maxLen) (hb:b.length≤maxLen):PL.Pure Tryz.prog 145 [prs a,prs b] (.bool (decide (a=b))):=by
 by_cases hl:a.length=b.length
 ·have hl':((a.length:Int) !=(b.length:Int))=false:=by rw[hl];exact bne_self_eq_false _
  refine pov Tryz.func145 (by decide) rfl Tryz.ntmps145 Tryz.results145 (by simp) rfl ?_;simp only[go_sem,prs,hl'];refine ZI (ι:= { x:Nat // x≤(a).length∧(∀j,j<x→a.getD j default=b.getD j default) }) 26 (fun x=> [(0,prs a),(1,prs b),(12,.int .i64 (a.length:Int)),(13,.int .i64 (x.1:Int))]) (fun x=> []) (fun x=> []) (fun x=>(a).length-x.1) ⟨0,Nat.zero_le _,fun j hj=>absurd hj (Nat.not_lt_zero j)⟩ ⟨rfl,(Fc4 rfl rfl rfl rfl),fnl,fnl⟩ (fun x=>⟨(Fc4 rfl rfl rfl rfl),fnl⟩) (fun x=> ?_);obtain⟨k,hk,hI⟩:=x;simp only at hk hI ⊢
  by_cases h:(k:Int)<(a.length:Int)
  ·(have hka:k<(a).length:=by omega);(have w1:=Zcd hka (ha));(have i1:(0:Int)≤(k:Int):=by omega)
   have hkb:k<b.length:=by omega
   have i2:(k:Int)<(b.length:Int):=by omega
   by_cases he:a.getD k default=b.getD k default
   ·have he':decide (a.getD k default=b.getD k default)=true:=decide_eq_true he;simp only[go_sem,prs,h];refine Ze (by kernel_rfl) (by kernel_rfl) ?_;simp only[go_sem,Z6 hka,Z6 hkb,h,i1,i2,pr,Zmw,he',w1];exact⟨⟨k+1,by(try simp only);omega,Zp hI he⟩,by show(a).length-(k+1)<(a).length-k;omega,⟨rfl,(Fc4 rfl rfl rfl rfl),fnl,fnl⟩⟩
   ·have he':decide (a.getD k default=b.getD k default)=false:=decide_eq_false he;have hab:¬a=b:=Zef he;simp only[go_sem,prs,h];refine Ze (by kernel_rfl) (by kernel_rfl) ?_;simp only[go_sem,Z6 hka,Z6 hkb,h,i1,i2,pr,Zmw,he',hab]
  ·have hab:decide (a=b)=true:=decide_eq_true (Zcl (d:=default) hl fun j hj=>hI j (by omega));simp only[go_sem,prs,h,hab]
 ·have hl':((a.length:Int) !=(b.length:Int))=true:=bne_iff_ne.2 (by omega);have hab:¬a=b:=fun e=>hl (by rw[e])
  refine pov Tryz.func145 (by decide) rfl Tryz.ntmps145 Tryz.results145 (by simp) rfl ?_;simp only[go_sem,prs,hl',hab]
theorem ZkD (a b:List Pr) (ha:a.length≤maxLen) (hb:b.length≤maxLen):PL.Pure Tryz.prog 144 [prs a,prs b] (.bool (decide (a=b))):=by
 by_cases hl:a.length=b.length
 ·have hl':((a.length:Int) !=(b.length:Int))=false:=by rw[hl];exact bne_self_eq_false _
  refine pov Tryz.func144 (by decide) rfl Tryz.ntmps144 Tryz.results144 (by simp) rfl ?_;simp only[go_sem,prs,hl'];refine ZI (ι:= { x:Nat // x≤(a).length∧(∀j,j<x→a.getD j default=b.getD j default) }) 26 (fun x=> [(0,prs a),(1,prs b),(5,.int .i64 (x.1:Int))]) (fun x=> []) (fun x=> []) (fun x=>(a).length-x.1) ⟨0,Nat.zero_le _,fun j hj=>absurd hj (Nat.not_lt_zero j)⟩ ⟨rfl,(Fc3 rfl rfl rfl),fnl,fnl⟩ (fun x=>⟨(Fc3 rfl rfl rfl),fnl⟩) (fun x=> ?_);obtain⟨k,hk,hI⟩:=x;simp only at hk hI ⊢
  by_cases h:(k:Int)<(a.length:Int)
  ·(have hka:k<(a).length:=by omega);(have w1:=Zcd hka (ha));(have i1:(0:Int)≤(k:Int):=by omega)
   have hkb:k<b.length:=by omega
   have i2:(k:Int)<(b.length:Int):=by omega
   by_cases he:a.getD k default=b.getD k default
   ·have he':decide (a.getD k default=b.getD k default)=true:=decide_eq_true he;simp only[go_sem,prs,h];refine Ze (by kernel_rfl) (by kernel_rfl) ?_;simp only[go_sem,Z6 hka,Z6 hkb,h,i1,i2,pr,Zmw,he',w1];exact⟨⟨k+1,by(try simp only);omega,Zp hI he⟩,by show(a).length-(k+1)<(a).length-k;omega,⟨rfl,(Fc3 rfl rfl rfl),fnl,fnl⟩⟩
   ·have he':decide (a.getD k default=b.getD k default)=false:=decide_eq_false he;have hab:¬a=b:=Zef he;simp only[go_sem,prs,h];refine Ze (by kernel_rfl) (by kernel_rfl) ?_;simp only[go_sem,Z6 hka,Z6 hkb,h,i1,i2,pr,Zmw,he',hab]
  ·have hab:decide (a=b)=true:=decide_eq_true (Zcl (d:=default) hl fun j hj=>hI j (by omega));simp only[go_sem,prs,h,hab]
 ·have hl':((a.length:Int) !=(b.length:Int))=true:=bne_iff_ne.2 (by omega);have hab:¬a=b:=fun e=>hl (by rw[e])
  refine pov Tryz.func144 (by decide) rfl Tryz.ntmps144 Tryz.results144 (by simp) rfl ?_;simp only[go_sem,prs,hl',hab]
theorem ZoR (l:List Str) (s:Str) (hl:l.length≤maxLen):PL.Pure Tryz.prog 163 [ZaM l,.str s] (.int .i64 (idx (fun x=>s==x) l)):=by
 refine pov Tryz.func163 (by decide) rfl Tryz.ntmps163 Tryz.results163 (by simp) rfl ?_;simp only[go_sem,ZaM];refine ZI (ι:= { x:Nat // x≤(l).length∧(∀j,j<x→(fun x=>s==x) (l.getD j [])=false) }) 19 (fun x=> [(0,ZaM l),(1,.str s),(7,.int .i64 (l.length:Int)),(8,.int .i64 (x.1:Int))]) (fun x=> []) (fun x=> []) (fun x=>(l).length-x.1) ⟨0,Nat.zero_le _,fun j hj=>absurd hj (Nat.not_lt_zero j)⟩ ⟨rfl,(Fc4 rfl rfl rfl rfl),fnl,fnl⟩ (fun x=>⟨(Fc4 rfl rfl rfl rfl),fnl⟩) (fun x=> ?_);obtain⟨k,hk,hI⟩:=x;simp only at hk hI ⊢
 by_cases h:(k:Int)<(l.length:Int)
 ·(have hka:k<(l).length:=by omega);(have w1:=Zcd hka (hl));(have i1:(0:Int)≤(k:Int):=by omega)
  cases he:(fun x=>s==x) (l.getD k [])
  ·have he0:=he;simp only at he;simp only[go_sem,ZaM,h];simp only[go_sem,ZR hka,h,i1,he,w1];exact⟨⟨k+1,by(try simp only);omega,Zp hI he0⟩,by show(l).length-(k+1)<(l).length-k;omega,⟨rfl,(Fc4 rfl rfl rfl rfl),fnl,fnl⟩⟩
  ·have hx:=ZcB (p:=fun x=>s==x) hka hI he;simp only at he;simp only[go_sem,ZaM,h];simp only[go_sem,ZR hka,h,i1,he,hx]
 ·have hx:=ZfT (p:=fun x=>s==x) (d:= []) (l:=l) (fun j hj=>hI j (by omega));simp only[go_sem,ZaM,h,hx]
theorem Zex (l:List Rf) (r:Rf) (hl:l.length≤maxLen):PL.Pure Tryz.prog 125 [refs l,ref r] (.int .i64 (idx (fun x=>decide (r=x)) l)):=by
 refine pov Tryz.func125 (by decide) rfl Tryz.ntmps125 Tryz.results125 (by simp) rfl ?_;simp only[go_sem,refs,ref];refine ZI (ι:= { x:Nat // x≤(l).length∧(∀j,j<x→(fun x=>decide (r=x)) (l.getD j default)=false) }) 19 (fun x=> [(0,refs l),(3,.ptr 3 0),(7,.int .i64 (l.length:Int)),(8,.int .i64 (x.1:Int))]) (fun x=> [(3,[.int .i64 r.sc,.str r.gr,.str r.nm],false)]) (fun x=> []) (fun x=>(l).length-x.1) ⟨0,Nat.zero_le _,fun j hj=>absurd hj (Nat.not_lt_zero j)⟩ ⟨rfl,(Fc4 rfl rfl rfl rfl),(fcs ⟨rfl,rfl⟩ fnl),fnl⟩ (fun x=>⟨(Fc4 rfl rfl rfl rfl),(fcs rfl fnl)⟩) (fun x=> ?_);obtain⟨k,hk,hI⟩:=x;simp only at hk hI ⊢
 by_cases h:(k:Int)<(l.length:Int)
 ·(have hka:k<(l).length:=by omega);(have w1:=Zcd hka (hl));(have i1:(0:Int)≤(k:Int):=by omega)
  cases he:(fun x=>decide (r=x)) (l.getD k default)
  ·have he0:=he;simp only at he;simp only[go_sem,refs,h];refine Ze (by kernel_rfl) (by kernel_rfl) ?_;simp only[go_sem,ZaP hka,h,i1,ref,Zt,he,w1];exact⟨⟨k+1,by(try simp only);omega,Zp hI he0⟩,by show(l).length-(k+1)<(l).length-k;omega,⟨rfl,(Fc4 rfl rfl rfl rfl),(fcs ⟨rfl,rfl⟩ fnl),fnl⟩⟩
  ·have hx:=ZcB (p:=fun x=>decide (r=x)) hka hI he;simp only at he;simp only[go_sem,refs,h];refine Ze (by kernel_rfl) (by kernel_rfl) ?_;simp only[go_sem,ZaP hka,h,i1,ref,Zt,he,hx]
 ·have hx:=ZfT (p:=fun x=>decide (r=x)) (d:=default) (l:=l) (fun j hj=>hI j (by omega));simp only[go_sem,refs,h,hx]
theorem Zho (l:List Fd) (r:Rf) (hl:l.length≤maxLen):PL.Pure Tryz.prog 116 [Zn l,ref r] (.int .i64 (idx (fun x=>decide (x.at'=r)) l)):=by
 refine pov Tryz.func116 (by decide) rfl Tryz.ntmps116 Tryz.results116 (by simp) rfl ?_;simp only[go_sem,Zn,ref];refine ZI (ι:= { x:Nat // x≤(l).length∧(∀j,j<x→(fun x=>decide (x.at'=r)) (l.getD j default)=false) }) 20 (fun x=> [(3,.ptr 3 0),(7,Zn l),(8,.int .i64 (l.length:Int)),(9,.int .i64 (x.1:Int))]) (fun x=> [(3,[.int .i64 r.sc,.str r.gr,.str r.nm],false)]) (fun x=> []) (fun x=>(l).length-x.1) ⟨0,Nat.zero_le _,fun j hj=>absurd hj (Nat.not_lt_zero j)⟩ ⟨rfl,(Fc4 rfl rfl rfl rfl),(fcs ⟨rfl,rfl⟩ fnl),fnl⟩ (fun x=>⟨(Fc4 rfl rfl rfl rfl),(fcs rfl fnl)⟩) (fun x=> ?_);obtain⟨k,hk,hI⟩:=x;simp only at hk hI ⊢
 by_cases h:(k:Int)<(l.length:Int)
 ·(have hka:k<(l).length:=by omega);(have w1:=Zcd hka (hl));(have i1:(0:Int)≤(k:Int):=by omega)
  cases he:(fun x=>decide (x.at'=r)) (l.getD k default)
  ·have he0:=he;simp only at he;simp only[go_sem,Zn,h];simp only[go_sem,ZL hka,h,i1,fld,Zt,he,w1];exact⟨⟨k+1,by(try simp only);omega,Zp hI he0⟩,by show(l).length-(k+1)<(l).length-k;omega,⟨rfl,(Fc4 rfl rfl rfl rfl),(fcs ⟨rfl,rfl⟩ fnl),fnl⟩⟩
  ·have hx:=ZcB (p:=fun x=>decide (x.at'=r)) hka hI he;simp only at he;simp only[go_sem,Zn,h];simp only[go_sem,ZL hka,h,i1,fld,Zt,he,hx]
 ·have hx:=ZfT (p:=fun x=>decide (x.at'=r)) (d:=default) (l:=l) (fun j hj=>hI j (by omega));simp only[go_sem,Zn,h,hx]
theorem Zs3 (l:List Eg) (t:Tg) (hl:l.length≤maxLen):PL.Pure Tryz.prog 58 [egs l,tg t] (.int .i64 (idx (fun x=>decide (x.id=t)) l)):=by
 refine pov Tryz.func58 (by decide) rfl Tryz.ntmps58 Tryz.results58 (by simp) rfl ?_;simp only[go_sem,egs,tg];refine ZI (ι:= { x:Nat // x≤(l).length∧(∀j,j<x→(fun x=>decide (x.id=t)) (l.getD j default)=false) }) 20 (fun x=> [(0,egs l),(3,.ptr 3 0),(5,.int .i64 (x.1:Int))]) (fun x=> [(3,[.int .i64 t.r,.int .i64 t.n],false)]) (fun x=> []) (fun x=>(l).length-x.1) ⟨0,Nat.zero_le _,fun j hj=>absurd hj (Nat.not_lt_zero j)⟩ ⟨rfl,(Fc3 rfl rfl rfl),(fcs ⟨rfl,rfl⟩ fnl),fnl⟩ (fun x=>⟨(Fc3 rfl rfl rfl),(fcs rfl fnl)⟩) (fun x=> ?_);obtain⟨k,hk,hI⟩:=x;simp only at hk hI ⊢
 by_cases h:(k:Int)<(l.length:Int)
 ·(have hka:k<(l).length:=by omega);(have w1:=Zcd hka (hl));(have i1:(0:Int)≤(k:Int):=by omega)
  cases he:(fun x=>decide (x.id=t)) (l.getD k default)
  ·have he0:=he;simp only at he;simp only[go_sem,egs,h];refine Ze (by kernel_rfl) (by kernel_rfl) ?_;simp only[go_sem,Zfk hka,h,i1,eg,ZG,he,w1];exact⟨⟨k+1,by(try simp only);omega,Zp hI he0⟩,by show(l).length-(k+1)<(l).length-k;omega,⟨rfl,(Fc3 rfl rfl rfl),(fcs ⟨rfl,rfl⟩ fnl),fnl⟩⟩
  ·have hx:=ZcB (p:=fun x=>decide (x.id=t)) hka hI he;simp only at he;simp only[go_sem,egs,h];refine Ze (by kernel_rfl) (by kernel_rfl) ?_;simp only[go_sem,Zfk hka,h,i1,eg,ZG,he,hx]
 ·have hx:=ZfT (p:=fun x=>decide (x.id=t)) (d:=default) (l:=l) (fun j hj=>hI j (by omega));simp only[go_sem,egs,h,hx]
end Go.Proofs.YthingdchjkhfbaaGreat
