/- Contracts of functions and laws of this seat, each for every input that it names: lemmas of the proof. -/
import Derived.Test.YthingdchjkhfbaaGreatXAa
namespace Go.Proofs.YthingdchjkhfbaaGreat
set_option maxHeartbeats 64000000
set_option maxRecDepth 20000
set_option linter.unusedVariables false
set_option linter.unusedSimpArgs false
open Go.PL
def atE (r:Rf):En→Bool:=fun e=>decide (e.at'=r)
def atR (it:Str):Rw→Bool:=fun r=>r.item==it
def Zuu (d:Dc) (it:Str) (r:Rf):Int×Int×Int:=
 if it= []then(if idx (atE r) d.head<0 then(0,0,6)else(-1,idx (atE r) d.head,0))
 else if idx (atR it) d.rows<0 then(0,0,12)
 else if idx (atE r) (d.rows.getD (idx (atR it) d.rows).toNat default).l<0 then(0,0,6)
 else(idx (atR it) d.rows,idx (atE r) (d.rows.getD (idx (atR it) d.rows).toNat default).l,0)
def Zv6 (x:Int×Int×Int):PV:= .tup [.int .i64 x.1,.int .i64 x.2.1,.int .i64 x.2.2]
attribute [go_sem] Bool.not_eq_true'
theorem Ztm {s:Str} (h:s= []):(s== [])=true:=by rw[h];rfl
theorem Zqq {s:Str} (h:¬s= []):(s== [])=false:=beq_eq_false_iff_ne.2 h
theorem Zuv (d:Dc) (it:Str) (r:Rf) (hf:ZsW d):PL.Pure Tryz.prog 52 [doc d,.str it,ref r] (Zv6 (Zuu d it r)):=by
 obtain⟨f1,f2,f3,f4⟩:=hf
 by_cases hi:it= []
 ·have hi':=Ztm hi;have hc:=Zgv d.head 100 [.int .i64 r.sc,.str r.gr,.str r.nm] (atE r) f1 (fun e _=>Zlx e r)
  by_cases h1:idx (atE r) d.head<0
  all_goals
   refine pov Tryz.func52 (by decide) rfl Tryz.ntmps52 Tryz.results52 (by simp) rfl ?_;simp only[go_sem,doc,ref,hi'];refine Za (hc) ?_ ?_ ?_;iterate 2 simp only[go_sem]
   simp only[go_sem,h1,Zv6,Zuu,hi]
 ·have hi':=Zqq hi;have hc:=ZlO d.rows 98 [.str it] (atR it) f2 (fun e _=>Zsq e it)
  by_cases h1:idx (atR it) d.rows<0
  ·refine pov Tryz.func52 (by decide) rfl Tryz.ntmps52 Tryz.results52 (by simp) rfl ?_;simp only[go_sem,doc,ref,hi'];refine Za (hc) ?_ ?_ ?_;iterate 2 simp only[go_sem]
   simp only[go_sem,h1,Zv6,Zuu,hi]
  ·rcases ZcA (atR it) d.rows with h2|⟨k,hk,h2⟩
   ·omega
   ·have hc2:=Zgv (d.rows.getD k default).l 100 [.int .i64 r.sc,.str r.gr,.str r.nm] (atE r) (f4 _ (ZC hk)).1 (fun e _=>Zlx e r);have i1:(0:Int)≤(k:Int):=by omega
    have i2:(k:Int)<(d.rows.length:Int):=by omega
    have i3:¬(k:Int)<0:=by omega
    rw[h2]at hc
    by_cases h3:idx (atE r) (d.rows.getD k default).l<0
    all_goals
     refine pov Tryz.func52 (by decide) rfl Tryz.ntmps52 Tryz.results52 (by simp) rfl ?_;simp only[go_sem,doc,ref,hi'];refine Za (hc) ?_ ?_ ?_;iterate 2 simp only[go_sem]
     simp only[go_sem,i1,i2,i3,Zcv hk,row];refine Za (hc2) ?_ ?_ ?_;iterate 2 simp only[go_sem]
     simp only[go_sem,h3,Zv6,Zuu,hi,h2,i3]
def Zl8 (d:Dc) (it:Str) (r:Rf):En×Int:=
 if it= []then(if idx (atE r) d.head<0 then(default,6)else(d.head.getD (idx (atE r) d.head).toNat default,0))
 else if idx (atR it) d.rows<0 then(default,12)
 else if idx (atE r) (d.rows.getD (idx (atR it) d.rows).toNat default).l<0 then(default,6)
 else((d.rows.getD (idx (atR it) d.rows).toNat default).l.getD (idx (atE r) (d.rows.getD (idx (atR it) d.rows).toNat default).l).toNat default,0)
def ZdE (x:En×Int):PV:= .tup [ent x.1,.int .i64 x.2]
theorem ZF (x:En×Int):(ZdE x).dids= []:=by simp only[ZdE,PV.dids,PV.didsL,ZcY,List.append_nil]
theorem ZeD:ent default= .agg [.int .i64 0,.str [],.str [],.int .i64 0,.sl .no []]:=rfl
def Zzs (d:Dc):Prop:=(∀e∈d.head,e.l.length≤1000000)∧ ∀r∈d.rows,∀e∈r.l,e.l.length≤1000000
theorem ZiO (d:Dc) (it:Str) (r:Rf) (hf:ZsW d) (hs:Zzs d):PL.Pure Tryz.prog 26 [doc d,.str it,ref r] (ZdE (Zl8 d it r)):=by
 have hc:=Zuv d it r hf;obtain⟨f1,f2,f3,f4⟩:=hf;unfold Zuu at hc;unfold Zl8
 by_cases hi:it= []
 ·rw[if_pos hi]at hc ⊢;rcases ZcA (atE r) d.head with h2|⟨k,hk,h2⟩
  ·rw[h2]at hc ⊢;refine pov Tryz.func26 (by decide) rfl Tryz.ntmps26 Tryz.results26 (by simp) (ZF _) ?_;simp only[go_sem,doc,ref];refine Za (hc) ?_ ?_ ?_;iterate 2 simp only[go_sem,doc,ref]
   simp only[go_sem,Zv6,ZdE,ZeD]
  ·have i1:(0:Int)≤(k:Int):=by omega
   have i2:(k:Int)<(d.head.length:Int):=by omega
   have i3:¬(k:Int)<0:=by omega
   have ho:=ZeN (d.head.getD k default) (hs.1 _ (ZC hk));rw[h2,if_neg i3]at hc;rw[h2,if_neg i3];refine pov Tryz.func26 (by decide) rfl Tryz.ntmps26 Tryz.results26 (by simp) (ZF _) ?_;simp only[go_sem,doc,ref];refine Za (hc) ?_ ?_ ?_;iterate 2 simp only[go_sem,doc,ref]
   simp only[go_sem,Zv6,i1,i2,ZbL hk,ent];refine Za (ho) ?_ ?_ ?_;iterate 2 simp only[go_sem,ent]
   simp only[go_sem,ZdE,ent]
 ·rw[if_neg hi]at hc ⊢;rcases ZcA (atR it) d.rows with h2|⟨k,hk,h2⟩
  ·rw[h2]at hc ⊢;refine pov Tryz.func26 (by decide) rfl Tryz.ntmps26 Tryz.results26 (by simp) (ZF _) ?_;simp only[go_sem,doc,ref];refine Za (hc) ?_ ?_ ?_;iterate 2 simp only[go_sem,doc,ref]
   simp only[go_sem,Zv6,ZdE,ZeD]
  ·have i1:(0:Int)≤(k:Int):=by omega
   have i2:(k:Int)<(d.rows.length:Int):=by omega
   have i3:¬(k:Int)<0:=by omega
   rw[h2,if_neg i3]at hc;rw[h2,if_neg i3];simp only[Int.toNat_natCast]at hc ⊢;rcases ZcA (atE r) (d.rows.getD k default).l with h4|⟨n,hn,h4⟩
   ·rw[h4]at hc ⊢;refine pov Tryz.func26 (by decide) rfl Tryz.ntmps26 Tryz.results26 (by simp) (ZF _) ?_;simp only[go_sem,doc,ref];refine Za (hc) ?_ ?_ ?_;iterate 2 simp only[go_sem,doc,ref]
    simp only[go_sem,Zv6,ZdE,ZeD]
   ·have j1:(0:Int)≤(n:Int):=by omega
    have j2:(n:Int)<((d.rows.getD k default).l.length:Int):=by omega
    have j3:¬(n:Int)<0:=by omega
    have ho:=ZeN ((d.rows.getD k default).l.getD n default) (hs.2 _ (ZC hk) _ (ZC hn));rw[h4,if_neg j3]at hc;rw[h4,if_neg j3];refine pov Tryz.func26 (by decide) rfl Tryz.ntmps26 Tryz.results26 (by simp) (ZF _) ?_;simp only[go_sem,doc,ref];refine Za (hc) ?_ ?_ ?_;iterate 2 simp only[go_sem,doc,ref]
    simp only[go_sem,Zv6,i1,i2,i3,Zcv hk,row,j1,j2,ZbL hn,ent];refine Za (ho) ?_ ?_ ?_;iterate 2 simp only[go_sem,ent]
    simp only[go_sem,ZdE,ent]
open Go.PL
structure Fd where
 at':Rf
 kind:Int
 df:Str
 cases':List Str
 worth:Int
 deriving DecidableEq,Inhabited
def fld (f:Fd):PV:= .agg [.int .i64 f.at'.sc,.str f.at'.gr,.str f.at'.nm,.int .i64 f.kind,.str f.df,.sl .no (f.cases'.map .str),.int .i64 f.worth]
def Zn (l:List Fd):PV:= .sl .no (l.map fld)
theorem ZL {l:List Fd} {i:Nat} (h:i<l.length):(l.map fld).getD i .any=fld (l.getD i default):=by
 simp[List.getD_eq_getElem?_getD,h]
def ZQ (f:Fd):En:=⟨f.at',0,if f.kind=1∨f.kind=4 then []else [f.df]⟩
attribute [go_sem] ZjG
theorem ZkI (f:Fd):PL.Pure Tryz.prog 68 [fld f] (ent (ZQ f)):=by
 by_cases h1:f.kind=1
 ·have h1':(f.kind !=1)=false:=by rw[h1];rfl
  refine pov Tryz.func68 (by decide) rfl Tryz.ntmps68 Tryz.results68 (by simp) (ZcY _) ?_;simp only[go_sem,fld,ent,ZQ,h1'];simp[h1]
 ·have h1':(f.kind !=1)=true:=bne_iff_ne.2 h1
  by_cases h2:f.kind=4
  ·have h2':(f.kind !=4)=false:=by rw[h2];rfl
   refine pov Tryz.func68 (by decide) rfl Tryz.ntmps68 Tryz.results68 (by simp) (ZcY _) ?_;simp only[go_sem,fld,ent,ZQ,h1',h2'];simp[h2]
  ·have h2':(f.kind !=4)=true:=bne_iff_ne.2 h2;refine pov Tryz.func68 (by decide) rfl Tryz.ntmps68 Tryz.results68 (by simp) (ZcY _) ?_;simp only[go_sem,fld,ent,ZQ,h1',h2',h1,h2,or_self]
theorem ZfC (l:List En):Sized 5 (l.map ent):=fun e he=>by
 obtain⟨x,_,rfl⟩:=List.mem_map.1 he;rfl
theorem Ztg (l:List En):Zcy (l.map ent):=fun e he=>by
 obtain⟨x,_,rfl⟩:=List.mem_map.1 he;rfl
theorem ZY {α:Type} {l:List α} {k:Nat} (h:k<l.length) {d:α}:l.take (k+1)=l.take k++ [l.getD k d]:=by
 rw[List.take_succ_eq_append_getElem h,List.getD_eq_getElem?_getD,List.getElem?_eq_getElem h];rfl
theorem Zi6 (l:List En):PV.didsL (l.map ent)= []:=by
 induction l with
 |nil=>rfl
 |cons e l ih=>rw[List.map_cons,PV.didsL,ih,ZcY];rfl
theorem Zjc (l:List En):(Zaj l).dids= []:=by simp only[Zaj,PV.dids,Zi6]
def ZhS:List Fd:= [⟨⟨0,[],[99,111,117,112,111,110]⟩,2,[],[],0⟩,⟨⟨1,[],[110,111,116,101]⟩,2,[],[],0⟩,⟨⟨1,[],[113,116,121]⟩,1,[],[],1⟩,
 ⟨⟨1,[],[115,105,122,101]⟩,3,[109,101,100,105,117,109],[[115,109,97,108,108],[109,101,100,105,117,109],[108,97,114,103,101]],0⟩,⟨⟨1,[],[116,97,103,115]⟩,4,[],[],0⟩]
theorem Zdw (l:List Fd):Sized 7 (l.map fld):=fun e he=>by
 obtain⟨x,_,rfl⟩:=List.mem_map.1 he;rfl
theorem Znn (l:List Fd):PV.didsL (l.map fld)= []:=by
 induction l with
 |nil=>rfl
 |cons e l ih=>rw[List.map_cons,PV.didsL,ih];simp only[fld,PV.dids,PV.didsL,Zb5,List.append_nil]
theorem Zfi (l:List Fd):(Zn l).dids= []:=by simp only[Zn,PV.dids,Znn]
open Go.PL
@[go_sem] theorem ZDR:((0:Nat):Int)=0:=rfl
@[go_sem] theorem ZDS:((1:Nat):Int)=1:=rfl
attribute [go_sem] Int.cast_ofNat_Int
def nm (s:Str) (i:Nat):Int:=((s.getD i 0).toNat:Int)
def Zse (s:Str) (i:Nat):Bool:=decide (97≤nm s i∧nm s i≤122)||(decide (48≤nm s i∧nm s i≤57)&&decide (i≠0))
def Zap (s:Str):Bool:=decide (1≤s.length∧s.length≤12)&&(List.range s.length).all (Zse s)
theorem ZcQ (s:Str) (i:Nat):((s.getD i 0).toNat:Int)=nm s i:=rfl
theorem Za5 (s:Str):PL.Pure Tryz.prog 32 [.str s] (.bool (Zap s)):=by
 by_cases h1:(s.length:Int)<1
 ·have hx:Zap s=false:=by simp only[Zap,show ¬(1≤s.length∧s.length≤12)by omega,decide_false,Bool.false_and]
  refine pov Tryz.func32 (by decide) rfl Tryz.ntmps32 Tryz.results32 (by simp) rfl ?_;simp only[go_sem,h1,hx]
 ·by_cases h2:(12:Int)<(s.length:Int)
  ·have hx:Zap s=false:=by simp only[Zap,show ¬(1≤s.length∧s.length≤12)by omega,decide_false,Bool.false_and]
   refine pov Tryz.func32 (by decide) rfl Tryz.ntmps32 Tryz.results32 (by simp) rfl ?_;simp only[go_sem,h1,h2,hx]
  ·have hn:Zap s=(List.range s.length).all (Zse s):=by simp only[Zap,show(1≤s.length∧s.length≤12)by omega,and_self,decide_true,Bool.true_and]
   refine pov Tryz.func32 (by decide) rfl Tryz.ntmps32 Tryz.results32 (by simp) rfl ?_;simp only[go_sem,h1,h2];refine ZI (ι:= { k:Nat // k≤s.length∧ ∀j,j<k→Zse s j=true }) 50 (fun x=> [(0,.str s),(15,.int .i64 (s.length:Int)),(16,.int .i64 (x.1:Int))]) (fun x=> []) (fun x=> []) (fun x=>s.length-x.1) ⟨0,by omega,fun j hj=>by omega⟩
    ⟨rfl,(Fc3 rfl rfl rfl),fnl,fnl⟩ (fun x=>⟨(Fc3 rfl rfl rfl),fnl⟩) (fun x=> ?_)
   obtain⟨k,hk,hall⟩:=x;simp only
   by_cases h:(k:Int)<(s.length:Int)
   ·have hka:k<s.length:=by omega
    have w1:IntKind.i64.wrap ((k:Int)+1)=((k+1:Nat):Int):=by rw[w64 (by omega)];rfl
    have i1:(0:Int)≤(k:Int):=by omega
    cases ho:Zse s k
    ·have hx:Zap s=false:=by
      rw[hn,List.all_eq_false];exact⟨k,by simpa using hka,by simp[ho]⟩
     simp only[Zse,Bool.or_eq_false_iff,decide_eq_false_iff_not,Bool.and_eq_false_iff]at ho
     by_cases g1:97≤nm s k
     ·have g2:¬nm s k≤122:=by omega
      have g3:48≤nm s k:=by omega
      have g4:¬nm s k≤57:=by omega
      simp only[go_sem,h,i1,ZcQ,g1,g2,g3,g4,hx]
     ·by_cases g3:48≤nm s k
      ·by_cases g4:nm s k≤57
       ·have hk0:((k:Int)==0)=true:=by
         rw[beq_iff_eq];rcases ho.2 with h'|h'<;>omega
        simp only[go_sem,h,i1,ZcQ,g1,g3,g4,hk0,hx]
       ·simp only[go_sem,h,i1,ZcQ,g1,g3,g4,hx]
      ·simp only[go_sem,h,i1,ZcQ,g1,g3,hx]
    ·have nx:∀j,j<k+1→Zse s j=true:=Zp hall ho;simp only[Zse,Bool.or_eq_true,decide_eq_true_eq,Bool.and_eq_true]at ho
     by_cases g1:97≤nm s k
     ·have g2:nm s k≤122:=by omega
      have g3:48≤nm s k:=by omega
      have g4:¬nm s k≤57:=by omega
      simp only[go_sem,h,i1,ZcQ,g1,g2,g3,g4,w1];exact⟨⟨k+1,by omega,nx⟩,by show s.length-(k+1)<s.length-k;omega,⟨rfl,(Fc3 rfl rfl rfl),fnl,fnl⟩⟩
     ·have g3:48≤nm s k:=by omega
      have g4:nm s k≤57:=by omega
      have hk0:((k:Int)==0)=false:=beq_eq_false_iff_ne.2 (by omega);simp only[go_sem,h,i1,ZcQ,g1,g3,g4,hk0,w1];exact⟨⟨k+1,by omega,nx⟩,by show s.length-(k+1)<s.length-k;omega,⟨rfl,(Fc3 rfl rfl rfl),fnl,fnl⟩⟩
   ·have hx:Zap s=true:=by
     rw[hn,List.all_eq_true];intro j hj;exact hall j (by have:=List.mem_range.1 hj;omega)
    simp only[go_sem,h,hx]
def Zci (r:Rf):Bool:=(decide (r.sc=0)||decide (r.sc=1))&&(Zap r.nm&&(decide (r.gr= [])||Zap r.gr))
theorem Zhp (r:Rf):PL.Pure Tryz.prog 76 [ref r] (.bool (Zci r)):=by
 have hN:=Za5 r.nm;have hG:=Za5 r.gr
 by_cases hs:r.sc=0∨r.sc=1
 ·have hs':(decide (r.sc=0)||decide (r.sc=1))=true:=by simpa using hs
  have key:PL.Pure Tryz.prog 76 [ref r] (.bool (Zap r.nm&&(decide (r.gr= [])||Zap r.gr))):=by
   cases hn:Zap r.nm
   ·rw[hn]at hN;rcases hs with h0|h1
    ·have q:(r.sc !=0)=false:=by rw[h0];rfl
     refine pov Tryz.func76 (by decide) rfl Tryz.ntmps76 Tryz.results76 (by simp) rfl ?_;simp only[go_sem,ref,q];refine Za (hN) ?_ ?_ ?_;iterate 2 simp only[go_sem]
     simp only[go_sem,Bool.false_and]
    ·have q:(r.sc !=0)=true:=by rw[h1];rfl
     have q1:(r.sc !=1)=false:=by rw[h1];rfl
     refine pov Tryz.func76 (by decide) rfl Tryz.ntmps76 Tryz.results76 (by simp) rfl ?_;simp only[go_sem,ref,q,q1];refine Za (hN) ?_ ?_ ?_;iterate 2 simp only[go_sem]
     simp only[go_sem,Bool.false_and]
   ·rw[hn]at hN
    by_cases hg:r.gr= []
    ·have hg':=Ztm hg;rcases hs with h0|h1
     ·have q:(r.sc !=0)=false:=by rw[h0];rfl
      refine pov Tryz.func76 (by decide) rfl Tryz.ntmps76 Tryz.results76 (by simp) rfl ?_;simp only[go_sem,ref,q];refine Za (hN) ?_ ?_ ?_;iterate 2 simp only[go_sem]
      simp only[go_sem,Bool.true_and,hg',decide_eq_true hg,Bool.true_or]
     ·have q:(r.sc !=0)=true:=by rw[h1];rfl
      have q1:(r.sc !=1)=false:=by rw[h1];rfl
      refine pov Tryz.func76 (by decide) rfl Tryz.ntmps76 Tryz.results76 (by simp) rfl ?_;simp only[go_sem,ref,q,q1];refine Za (hN) ?_ ?_ ?_;iterate 2 simp only[go_sem]
      simp only[go_sem,Bool.true_and,hg',decide_eq_true hg,Bool.true_or]
    ·have hg':=Zqq hg;rcases hs with h0|h1
     ·have q:(r.sc !=0)=false:=by rw[h0];rfl
      refine pov Tryz.func76 (by decide) rfl Tryz.ntmps76 Tryz.results76 (by simp) rfl ?_;simp only[go_sem,ref,q];refine Za (hN) ?_ ?_ ?_;iterate 2 simp only[go_sem]
      simp only[go_sem,hg'];refine Za (hG) ?_ ?_ ?_;iterate 2 simp only[go_sem]
      simp only[go_sem,Bool.true_and,decide_eq_false hg,Bool.false_or]
     ·have q:(r.sc !=0)=true:=by rw[h1];rfl
      have q1:(r.sc !=1)=false:=by rw[h1];rfl
      refine pov Tryz.func76 (by decide) rfl Tryz.ntmps76 Tryz.results76 (by simp) rfl ?_;simp only[go_sem,ref,q,q1];refine Za (hN) ?_ ?_ ?_;iterate 2 simp only[go_sem]
      simp only[go_sem,hg'];refine Za (hG) ?_ ?_ ?_;iterate 2 simp only[go_sem]
      simp only[go_sem,Bool.true_and,decide_eq_false hg,Bool.false_or]
  simp only[Zci,hs',Bool.true_and];exact key
 ·have q:(r.sc !=0)=true:=bne_iff_ne.2 (by omega);have q1:(r.sc !=1)=true:=bne_iff_ne.2 (by omega);have hx:Zci r=false:=by
   have:(decide (r.sc=0)||decide (r.sc=1))=false:=by simp;omega
   simp only[Zci,this,Bool.false_and]
  refine pov Tryz.func76 (by decide) rfl Tryz.ntmps76 Tryz.results76 (by simp) rfl ?_;simp only[go_sem,ref,q,q1,hx]
theorem Zgy (s:Str):PL.Pure Tryz.prog 77 [.str s] (.bool (decide ((s.length:Int)≤40))):=by
 refine pov Tryz.func77 (by decide) rfl Tryz.ntmps77 Tryz.results77 (by simp) rfl ?_;simp only[go_sem]
open Go.PL
theorem Zot (l:List Str):(ZaM l).dids= []:=by simp only[ZaM,PV.dids,Zb5]
open Go.PL
theorem Zc0 (s:Str):PL.Pure Tryz.prog 142 [.str s] (.bool (Zap s)):=by
 by_cases h1:(s.length:Int)<1
 ·have hx:Zap s=false:=by simp only[Zap,show ¬(1≤s.length∧s.length≤12)by omega,decide_false,Bool.false_and]
  refine pov Tryz.func142 (by decide) rfl Tryz.ntmps142 Tryz.results142 (by simp) rfl ?_;simp only[go_sem,h1,hx]
 ·by_cases h2:(12:Int)<(s.length:Int)
  ·have hx:Zap s=false:=by simp only[Zap,show ¬(1≤s.length∧s.length≤12)by omega,decide_false,Bool.false_and]
   refine pov Tryz.func142 (by decide) rfl Tryz.ntmps142 Tryz.results142 (by simp) rfl ?_;simp only[go_sem,h1,h2,hx]
  ·have hn:Zap s=(List.range s.length).all (Zse s):=by simp only[Zap,show(1≤s.length∧s.length≤12)by omega,and_self,decide_true,Bool.true_and]
   refine pov Tryz.func142 (by decide) rfl Tryz.ntmps142 Tryz.results142 (by simp) rfl ?_;simp only[go_sem,h1,h2];refine ZI (ι:= { k:Nat // k≤s.length∧ ∀j,j<k→Zse s j=true }) 50 (fun x=> [(0,.str s),(3,.int .i64 (x.1:Int))]) (fun x=> []) (fun x=> []) (fun x=>s.length-x.1) ⟨0,by omega,fun j hj=>by omega⟩
    ⟨rfl,(Fc2 rfl rfl),fnl,fnl⟩ (fun x=>⟨(Fc2 rfl rfl),fnl⟩) (fun x=> ?_)
   obtain⟨k,hk,hall⟩:=x;simp only
   by_cases h:(k:Int)<(s.length:Int)
   ·have hka:k<s.length:=by omega
    have w1:IntKind.i64.wrap ((k:Int)+1)=((k+1:Nat):Int):=by rw[w64 (by omega)];rfl
    have i1:(0:Int)≤(k:Int):=by omega
    cases ho:Zse s k
    ·have hx:Zap s=false:=by
      rw[hn,List.all_eq_false];exact⟨k,by simpa using hka,by simp[ho]⟩
     simp only[Zse,Bool.or_eq_false_iff,decide_eq_false_iff_not,Bool.and_eq_false_iff]at ho
     by_cases g1:97≤nm s k
     ·have g2:¬nm s k≤122:=by omega
      have g3:48≤nm s k:=by omega
      have g4:¬nm s k≤57:=by omega
      simp only[go_sem,h,i1,ZcQ,g1,g2,g3,g4,hx]
     ·by_cases g3:48≤nm s k
      ·by_cases g4:nm s k≤57
       ·have hk0:((k:Int)==0)=true:=by
         rw[beq_iff_eq];rcases ho.2 with h'|h'<;>omega
        simp only[go_sem,h,i1,ZcQ,g1,g3,g4,hk0,hx]
       ·simp only[go_sem,h,i1,ZcQ,g1,g3,g4,hx]
      ·simp only[go_sem,h,i1,ZcQ,g1,g3,hx]
    ·have nx:∀j,j<k+1→Zse s j=true:=Zp hall ho;simp only[Zse,Bool.or_eq_true,decide_eq_true_eq,Bool.and_eq_true]at ho
     by_cases g1:97≤nm s k
     ·have g2:nm s k≤122:=by omega
      have g3:48≤nm s k:=by omega
      have g4:¬nm s k≤57:=by omega
      simp only[go_sem,h,i1,ZcQ,g1,g2,g3,g4,w1];exact⟨⟨k+1,by omega,nx⟩,by show s.length-(k+1)<s.length-k;omega,⟨rfl,(Fc2 rfl rfl),fnl,fnl⟩⟩
     ·have g3:48≤nm s k:=by omega
      have g4:nm s k≤57:=by omega
      have hk0:((k:Int)==0)=false:=beq_eq_false_iff_ne.2 (by omega);simp only[go_sem,h,i1,ZcQ,g1,g3,g4,hk0,w1];exact⟨⟨k+1,by omega,nx⟩,by show s.length-(k+1)<s.length-k;omega,⟨rfl,(Fc2 rfl rfl),fnl,fnl⟩⟩
   ·have hx:Zap s=true:=by
     rw[hn,List.all_eq_true];intro j hj;exact hall j (by have:=List.mem_range.1 hj;omega)
    simp only[go_sem,h,hx]
theorem Zuo (r:Rf):Zci r=(decide (0≤r.sc)&&(decide (r.sc≤1)&&(Zap r.nm&&(decide (r.gr= [])||Zap r.gr)))):=by
 have:(decide (r.sc=0)||decide (r.sc=1))=(decide (0≤r.sc)&&decide (r.sc≤1)):=by
  rw[Bool.eq_iff_iff];simp;omega
 rw[Zci,this,Bool.and_assoc]
theorem ZiS (r:Rf):PL.Pure Tryz.prog 138 [ref r] (.bool (Zci r)):=by
 rw[Zuo];have hN:=Zc0 r.nm;have hG:=Zc0 r.gr;refine pov Tryz.func138 (by decide) rfl Tryz.ntmps138 Tryz.results138 (by simp) rfl ?_;simp only[go_sem,ref];repeat' (first|(refine ZA (fun h=> ?_) (fun h=> ?_)<;>(try simp only[go_sem,h]))|(refine Zz (fun h=> ?_) (fun h=> ?_)<;>(try simp only[go_sem,h]))|(refine ZN (fun h=> ?_) (fun h=> ?_)<;>(try simp only[go_sem,h]))|((refine Za (hN) ?_ ?_ ?_);(focus simp only[go_sem]);(focus exact rfl);(try simp only[go_sem]))|((refine Za (hG) ?_ ?_ ?_);(focus simp only[go_sem]);(focus exact rfl);(try simp only[go_sem]))|((refine Ze (by kernel_rfl) (by kernel_rfl) ?_);(try simp only[go_sem])))
 all_goals (simp_all)
theorem Zgw (l:List Str) (s:Str) (hl:l.length≤maxLen):PL.Pure Tryz.prog 170 [ZaM l,.str s] (.bool (l.any (· == s))):=by
 refine pov Tryz.func170 (by decide) rfl Tryz.ntmps170 Tryz.results170 (by simp) rfl ?_;simp only[go_sem,ZaM];refine ZI (ι:= { k:Nat // k≤l.length∧ ∀j,j<k→(l.getD j []==s)=false }) 18 (fun x=> [(0,ZaM l),(1,.str s),(5,.int .i64 (x.1:Int))]) (fun x=> []) (fun x=> []) (fun x=>l.length-x.1) ⟨0,by omega,fun j hj=>by omega⟩
  ⟨rfl,(Fc3 rfl rfl rfl),fnl,fnl⟩ (fun x=>⟨(Fc3 rfl rfl rfl),fnl⟩) (fun x=> ?_)
 obtain⟨k,hk,hall⟩:=x;simp only
 by_cases h:(k:Int)<(l.length:Int)
 ·have hka:k<l.length:=by omega
  have w1:=Zcd hka hl;have i1:(0:Int)≤(k:Int):=by omega
  cases he:(l.getD k []==s)
  ·simp only[go_sem,ZaM,h,ZR hka,i1,he,w1];exact⟨⟨k+1,by omega,Zp hall he⟩,by show l.length-(k+1)<l.length-k;omega,⟨rfl,(Fc3 rfl rfl rfl),fnl,fnl⟩⟩
  ·have hx:=ZeA (p:=(· == s)) hka he;simp only[go_sem,ZaM,h,ZR hka,i1,he,hx]
 ·have hx:=Zd5 (p:=(· == s)) (d:= []) (l:=l) (fun j hj=>hall j (by omega));simp only[go_sem,ZaM,h,hx]
def Zdr (a b:Rf):Bool:=if a.sc≠b.sc then decide (a.sc<b.sc)else if a.gr≠b.gr then Z4 a.gr b.gr else Z4 a.nm b.nm
open Go.PL
attribute [go_sem] Option.map_some Option.map_none Option.isNone_none
theorem ZiF (l:List Str) (k:Nat):List.take k (l.map PV.str)=(l.take k).map PV.str:=by rw[List.map_take]
def Zd8 (l:List Str) (i:Nat):Bool:=Zap (l.getD i [])&& !((l.take i).any (· == l.getD i []))
def Zi3 (l:List Str):Bool:=(List.range l.length).all (Zd8 l)
theorem ZdC {l:List Str} {k:Nat} (hk:k<l.length) (h:Zd8 l k=false):Zi3 l=false:=by
 rw[Zi3,List.all_eq_false];exact⟨k,by simpa using hk,by simp[h]⟩
theorem Zi4 {l:List Str} (h:∀j,j<l.length→Zd8 l j=true):Zi3 l=true:=by
 rw[Zi3,List.all_eq_true];intro j hj;exact h j (List.mem_range.1 hj)
def Zkn (f:Fd):Bool:=Zi3 f.cases'&&(decide ((f.cases'.length:Int)<7)&&f.cases'.any (· == f.df))
def Zp0 (f:Fd):Bool:= !decide (0<(f.cases'.length:Int))&&((decide (f.kind=2)&&decide ((f.df.length:Int)<41))||(decide (f.kind=4)&&decide (f.df= [])))
def ZO (f:Fd):Bool:=
 Zci f.at'&&(if f.kind=1 then decide (f.df= [])&&(decide ((f.cases'.length:Int)=0)&&(decide (0<f.worth)&&decide (f.worth<1048577)))
  else decide (f.worth=0)&&(if f.kind=3 then Zkn f else Zp0 f))
theorem ZoW (f:Fd) (hl:f.cases'.length≤maxLen):PL.Pure Tryz.prog 137 [fld f] (.bool (ZO f)):=by
 have hP:=ZiS f.at'
 by_cases h3:f.kind=3
 ·have k1:(f.kind==1)=false:=by rw[h3];rfl
  have k3:(f.kind==3)=true:=by rw[h3];rfl
  cases hp:Zci f.at'
  ·rw[hp]at hP;refine pov Tryz.func137 (by decide) rfl Tryz.ntmps137 Tryz.results137 (by simp) rfl ?_;simp only[go_sem,fld];refine Za (hP) ?_ ?_ ?_;iterate 2 simp only[go_sem,ref]
   simp only[go_sem,ZO,hp,Bool.false_and]
  ·rw[hp]at hP
   by_cases hw:f.worth=0
   ·have hw':(f.worth !=0)=false:=by rw[hw];rfl
    have hx:ZO f=Zkn f:=by
     simp only[ZO,hp,h3,hw,Bool.true_and,decide_true,if_true];rfl
    rw[hx];refine pov Tryz.func137 (by decide) rfl Tryz.ntmps137 Tryz.results137 (by simp) rfl ?_;simp only[go_sem,fld];refine Za (hP) ?_ ?_ ?_;iterate 2 simp only[go_sem,ref]
    simp only[go_sem,k1,k3,hw'];refine ZI (ι:= { k:Nat // k≤f.cases'.length∧ ∀j,j<k→Zd8 f.cases' j=true }) 96 (fun x=> [(1,.ptr 1 0),(3,.int .i64 (x.1:Int))]) (fun x=> [(1,[.int .i64 f.at'.sc,.str f.at'.gr,.str f.at'.nm,.int .i64 f.kind,.str f.df,.sl .no (f.cases'.map .str),.int .i64 f.worth],false)]) (fun x=> []) (fun x=>f.cases'.length-x.1) ⟨0,by omega,fun j hj=>by omega⟩
     ⟨rfl,(Fc2 rfl rfl),fcs ⟨rfl,rfl⟩ fnl,fnl⟩ (fun x=>⟨(Fc2 rfl rfl),(fcs rfl fnl)⟩) (fun x=> ?_)
    obtain⟨k,hk,hall⟩:=x;simp only
    by_cases h:(k:Int)<(f.cases'.length:Int)
    ·have hka:k<f.cases'.length:=by omega
     have w1:=Zcd hka hl;have i1:(0:Int)≤(k:Int):=by omega
     have i2:(k:Int)≤(f.cases'.length:Int):=by omega
     have hN:=Zc0 (f.cases'.getD k []);have hT:(f.cases'.take k).length≤maxLen:=by rw[List.length_take];omega
     have hH:=Zgw (f.cases'.take k) (f.cases'.getD k []) hT;cases hn:Zap (f.cases'.getD k [])
     ·rw[hn]at hN;have hz:Zkn f=false:=by simp only[Zkn,ZdC hka (by simp only[Zd8,hn,Bool.false_and]),Bool.false_and]
      simp only[go_sem,h,i1];refine Ze (by kernel_rfl) (by kernel_rfl) ?_;simp only[go_sem,ZR hka,h,i1];refine Za (hN) ?_ ?_ ?_;iterate 2 simp only[go_sem]
      simp only[go_sem,hz]
     ·rw[hn]at hN;cases hh:(f.cases'.take k).any (· == f.cases'.getD k [])
      ·rw[hh]at hH;have ok:Zd8 f.cases' k=true:=by simp only[Zd8,hn,hh,Bool.not_false,Bool.and_self]
       simp only[go_sem,h,i1];refine Ze (by kernel_rfl) (by kernel_rfl) ?_;simp only[go_sem,ZR hka,h,i1];refine Za (hN) ?_ ?_ ?_;iterate 2 simp only[go_sem]
       simp only[go_sem,ZR hka,h,i1,i2,cut,Nat.sub_zero,ZiF,ZaJ];refine Za (hH) ?_ ?_ ?_;iterate 2 simp only[go_sem,ZaM]
       simp only[go_sem,w1];exact⟨⟨k+1,by omega,Zp hall ok⟩,by show f.cases'.length-(k+1)<f.cases'.length-k;omega,⟨rfl,(Fc2 rfl rfl),fcs ⟨rfl,rfl⟩ fnl,fnl⟩⟩
      ·rw[hh]at hH;have hz:Zkn f=false:=by simp only[Zkn,ZdC hka (by simp only[Zd8,hn,hh,Bool.not_true,Bool.and_false]),Bool.false_and]
       simp only[go_sem,h,i1];refine Ze (by kernel_rfl) (by kernel_rfl) ?_;simp only[go_sem,ZR hka,h,i1];refine Za (hN) ?_ ?_ ?_;iterate 2 simp only[go_sem]
       simp only[go_sem,ZR hka,h,i1,i2,cut,Nat.sub_zero,ZiF,ZaJ];refine Za (hH) ?_ ?_ ?_;iterate 2 simp only[go_sem,ZaM]
       simp only[go_sem,hz]
    ·have hc:=Zi4 (l:=f.cases') (fun j hj=>hall j (by omega));have hH:=Zgw f.cases' f.df hl
     by_cases h7:(f.cases'.length:Int)<7
     ·simp only[go_sem,h,h7];refine Za (hH) ?_ ?_ ?_;iterate 2 simp only[go_sem,ZaM]
      simp only[go_sem,Zkn,hc,h7,Bool.true_and]
     ·simp only[go_sem,h,h7,Zkn,hc,Bool.true_and,Bool.false_and]
   ·have hw':(f.worth !=0)=true:=bne_iff_ne.2 hw;have hx:ZO f=false:=by
     simp only[ZO,hp,h3,hw,Bool.true_and,decide_false,Bool.false_and];rfl
    refine pov Tryz.func137 (by decide) rfl Tryz.ntmps137 Tryz.results137 (by simp) rfl ?_;simp only[go_sem,fld];refine Za (hP) ?_ ?_ ?_;iterate 2 simp only[go_sem,ref]
    simp only[go_sem,k1,k3,hw',hx]
 ·have k3:(f.kind==3)=false:=beq_eq_false_iff_ne.2 h3;have hx:ZO f=(Zci f.at'&&(if f.kind=1 then decide (f.df= [])&&(decide ((f.cases'.length:Int)=0)&&(decide (0<f.worth)&&decide (f.worth<1048577)))else decide (f.worth=0)&&Zp0 f)):=by
   simp only[ZO,h3,if_false]
  rw[hx];refine pov Tryz.func137 (by decide) rfl Tryz.ntmps137 Tryz.results137 (by simp) rfl ?_;simp only[go_sem,fld];refine Za (hP) ?_ ?_ ?_;iterate 2 simp only[go_sem,ref]
  simp only[go_sem];repeat' (first|(refine ZA (fun h=> ?_) (fun h=> ?_)<;>(try simp only[go_sem,h,k3]))|(refine Zz (fun h=> ?_) (fun h=> ?_)<;>(try simp only[go_sem,h,k3]))|(refine ZN (fun h=> ?_) (fun h=> ?_)<;>(try simp only[go_sem,h,k3]))|((refine Ze (by kernel_rfl) (by kernel_rfl) ?_);(try simp only[go_sem,k3])))
  all_goals (simp_all[Zp0])
  all_goals (cases f.df<;>simp)
def Zbg (f:Fd) (s:Str):Bool:=(ZO f&& !decide (f.kind=1))&&(if f.kind=3 then f.cases'.any (· == s)else decide ((s.length:Int)<41))
open Go.PL
theorem Zqo {α:Type} {p:α→Bool} {l:List α} {d:α} (h:∀j,j<l.length→p (l.getD j d)=true):l.all p=true:=by
 rw[List.all_eq_true];intro x hx;obtain⟨j,hj,rfl⟩:=List.getElem_of_mem hx;have:=h j hj;simpa[List.getD_eq_getElem?_getD,hj]using this
theorem Znd {α:Type} {p:α→Bool} {l:List α} {k:Nat} {d:α} (hk:k<l.length) (h:p (l.getD k d)=false):l.all p=false:=by
 rw[List.all_eq_false];exact⟨l.getD k d,ZC hk,by rw[h];simp⟩
theorem Zag {p:Nat→Bool} {n k:Nat} (hk:k<n) (h:p k=false):(List.range n).all p=false:=by
 rw[List.all_eq_false];exact⟨k,by simpa using hk,by simp[h]⟩
theorem Zej {p:Nat→Bool} {n:Nat} (h:∀j,j<n→p j=true):(List.range n).all p=true:=by
 rw[List.all_eq_true];intro j hj;exact h j (List.mem_range.1 hj)
def ZtI (e:En):Bool:=decide (-4503599627370497<e.n)&&(decide (e.n<4503599627370497)&&((e.l.length:Int)==0))
def Zl1 (f:Fd) (e:En):Bool:=if f.kind=4 then !decide (400<(e.l.length:Int))else decide ((e.l.length:Int)=1)
def Zkf (f:Fd) (e:En):Bool:=e.l.all (Zbg f)&&decide (e.n=0)
def Zbm (f:Fd) (e:En):Bool:=(ZO f&&decide (e.at'=f.at'))&&(if f.kind=1 then ZtI e else Zl1 f e&&Zkf f e)
open Go.PL
def ZhF (l:List Fd) (i:Nat):Bool:=ZO (l.getD i default)&&(decide (i=0)||Zdr (l.getD (i-1) default).at' (l.getD i default).at')
def ZW (l:List Fd):Bool:= !decide (16<(l.length:Int))&&(List.range l.length).all (ZhF l)
def Zr (l:List Fd) (sc:Int):List Fd:=l.filter fun f=>f.at'.sc==sc
def Z8 (l:List Fd) (es:List En):Bool:=decide (l.length=es.length)&&(List.range l.length).all (fun i=>Zbm (l.getD i default) (es.getD i default))
end Go.Proofs.YthingdchjkhfbaaGreat
