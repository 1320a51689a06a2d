/- Contracts of functions and laws of this seat, each for every input that it names: lemmas of the proof. -/
import Derived.Test.YthingdchjkhfbaaGreatXCh
import Derived.Test.YthingdchjkhfbaaGreatXAa
import Derived.Test.YthingdchjkhfbaaGreatPlJ
namespace Go.Proofs.YthingdchjkhfbaaGreat
set_option maxHeartbeats 64000000
set_option maxRecDepth 20000
set_option linter.unusedVariables false
set_option linter.unusedSimpArgs false
open Go.PL
theorem ZiM (l:List Fd) (d:Dc) (hl:l.length≤maxLen) (hl':∀f∈l,f.cases'.length≤1000000) (hd:ZsW d):PL.Pure Tryz.prog 45 [Zn l,doc d] (.bool (Zbk l d)):=by
 obtain⟨d1,d2,d3,d4⟩:=hd;have hl2:∀f∈l,f.cases'.length≤maxLen:=fun f hf=>by have:=hl' f hf;rw[Zd];omega
 have hR:=Zey l hl hl2;cases hr:ZW l
 ·rw[hr]at hR;have hx:Zbk l d=false:=by simp only[Zbk,ZgO,hr,Bool.false_and]
  refine pov Tryz.func45 (by decide) rfl Tryz.ntmps45 Tryz.results45 (by simp) rfl ?_;simp only[go_sem,Zn,doc];refine Za (hR) ?_ ?_ ?_;iterate 2 simp only[go_sem,Zn]
  simp only[go_sem,hx]
 ·rw[hr]at hR;have h16:=Zlt hr;have sl:∀sc,(Zr l sc).length≤maxLen:=fun sc=>Nat.le_trans (List.length_filter_le _ _) hl
  have sc:∀s,∀f∈Zr l s,f.cases'.length≤maxLen:=fun s f hf=>hl2 f (List.mem_filter.1 hf).1
  have hS0:=Zd3 l 0 (by omega) hl';have hS1:=Zd3 l 1 (by omega) hl'
  by_cases h4:(400:Int)<(d.rows.length:Int)
  ·have hx:Zbk l d=false:=by simp only[Zbk,ZgO,h4,decide_true,Bool.not_true,Bool.false_and,Bool.and_false]
   refine pov Tryz.func45 (by decide) rfl Tryz.ntmps45 Tryz.results45 (by simp) rfl ?_;simp only[go_sem,Zn,doc];refine Za (hR) ?_ ?_ ?_;iterate 2 simp only[go_sem,Zn]
   simp only[go_sem,h4,hx]
  ·have hE:=Zel (Zr l 0) d.head (sl 0) d1 (sc 0) d3;cases he:Z8 (Zr l 0) d.head
   ·rw[he]at hE;have hx:Zbk l d=false:=by simp only[Zbk,ZgO,he,Bool.false_and,Bool.and_false]
    refine pov Tryz.func45 (by decide) rfl Tryz.ntmps45 Tryz.results45 (by simp) rfl ?_;simp only[go_sem,Zn,doc];refine Za (hR) ?_ ?_ ?_;iterate 2 simp only[go_sem,Zn]
    simp only[go_sem,h4];refine Ze (by kernel_rfl) (by kernel_rfl) ?_;simp only[go_sem,Zn];refine Za (hS0) ?_ ?_ ?_;iterate 2 simp only[go_sem,Zn]
    simp only[go_sem,Zn];refine Za (hE) ?_ ?_ ?_;iterate 2 simp only[go_sem,Zn,Zaj]
    simp only[go_sem,hx]
   ·rw[he]at hE;have hx:Zbk l d=(List.range d.rows.length).all (ZeR l d.rows):=by simp only[Zbk,ZgO,hr,h4,he,decide_false,Bool.not_false,Bool.and_self,Bool.true_and]
    rw[hx];refine pov Tryz.func45 (by decide) rfl Tryz.ntmps45 Tryz.results45 (by simp) rfl ?_;simp only[go_sem,Zn,doc];refine Za (hR) ?_ ?_ ?_;iterate 2 simp only[go_sem,Zn]
    simp only[go_sem,h4];refine Ze (by kernel_rfl) (by kernel_rfl) ?_;simp only[go_sem,Zn];refine Za (hS0) ?_ ?_ ?_;iterate 2 simp only[go_sem,Zn]
    simp only[go_sem,Zn];refine Za (hE) ?_ ?_ ?_;iterate 2 simp only[go_sem,Zn,Zaj]
    simp only[go_sem,Zn];refine Za (hS1) ?_ ?_ ?_;iterate 2 simp only[go_sem,Zn]
    simp only[go_sem];refine ZI (ι:= { x:Nat // x≤(d.rows).length∧(∀j,j<x→ZeR l d.rows j=true) }) 59 (fun x=> [(3,.ptr 3 0),(5,Zn (Zr l 1)),(26,.sl .no (d.rows.map row)),(27,.int .i64 (d.rows.length:Int)),(28,.int .i64 (x.1:Int))]) (fun x=> [(3,[.sl .no (d.head.map ent),.sl .no (d.rows.map row)],false)]) (fun x=> []) (fun x=>(d.rows).length-x.1) ⟨0,Nat.zero_le _,fun j hj=>absurd hj (Nat.not_lt_zero j)⟩ ⟨rfl,(Fc5 rfl rfl rfl rfl rfl),(fcs ⟨rfl,rfl⟩ fnl),fnl⟩ (fun x=>⟨(Fc5 rfl rfl (by simp[PV.ids,ZV]) (by simp[PV.ids,ZV]) rfl),(fcs (by simp[PV.ids,PV.idsL,ZV]) fnl)⟩) (fun x=> ?_);obtain⟨k,hk,hI⟩:=x;simp only at hk hI ⊢
    by_cases h:(k:Int)<(d.rows.length:Int)
    ·(have hka:k<(d.rows).length:=by omega);(have w1:=Zcd hka (d2));(have i1:(0:Int)≤(k:Int):=by omega)
     have hN:=Za5 (d.rows.getD k default).item;have rk:=d4 _ (ZC (d:=default) hka);have hE1:=Zel (Zr l 1) (d.rows.getD k default).l (sl 1) rk.1 (sc 1) rk.2;have gk:=Zfm hka;cases hn:Zap (d.rows.getD k default).item
     ·rw[hn]at hN;have hz:=Zag (p:=ZeR l d.rows) hka (by simp only[ZeR,hn,Bool.false_and]);simp only[go_sem,h,gk,row,i1];refine Ze (by kernel_rfl) (by kernel_rfl) ?_;simp only[go_sem,h,gk,row,i1];refine Za (hN) ?_ ?_ ?_;iterate 2 simp only[go_sem]
      simp only[go_sem,hz]
     ·rw[hn]at hN
      by_cases h0:0<(k:Int)
      ·have hk1:k-1<d.rows.length:=by omega
       have gj:=Zfm hk1;have w2:IntKind.i64.wrap ((k:Int)-1)=((k-1:Nat):Int):=by
        rw[Zd]at d2;rw[w64 (by omega)];omega
       have j1:(0:Int)≤((k-1:Nat):Int):=by omega
       have j2:((k-1:Nat):Int)<(d.rows.length:Int):=by omega
       cases hb:Z4 (d.rows.getD (k-1) default).item (d.rows.getD k default).item
       ·have hz:=Zag (p:=ZeR l d.rows) hka (by simp only[ZeR,hb,decide_eq_false (show ¬k=0 by omega),Bool.or_self,Bool.and_false,Bool.false_and]);simp only[go_sem,h,gk,row,i1];refine Ze (by kernel_rfl) (by kernel_rfl) ?_;simp only[go_sem,h,gk,row,i1];refine Za (hN) ?_ ?_ ?_;iterate 2 simp only[go_sem]
        simp only[go_sem,h0,w2,gj,gk,row,h,i1,j1,j2,hb,hz]
       ·cases hf:Z8 (Zr l 1) (d.rows.getD k default).l
        ·rw[hf]at hE1;have hz:=Zag (p:=ZeR l d.rows) hka (by simp only[ZeR,hf,Bool.and_false]);simp only[go_sem,h,gk,row,i1];refine Ze (by kernel_rfl) (by kernel_rfl) ?_;simp only[go_sem,h,gk,row,i1];refine Za (hN) ?_ ?_ ?_;iterate 2 simp only[go_sem]
         simp only[go_sem,h0,w2,gj,gk,row,h,i1,j1,j2,hb,Zn];refine Za (hE1) ?_ ?_ ?_;iterate 2 simp only[go_sem,Zn,Zaj]
         simp only[go_sem,hz]
        ·rw[hf]at hE1;have ok:ZeR l d.rows k=true:=by simp only[ZeR,hn,hb,hf,Bool.or_true,Bool.and_self]
         simp only[go_sem,h,gk,row,i1];refine Ze (by kernel_rfl) (by kernel_rfl) ?_;simp only[go_sem,h,gk,row,i1];refine Za (hN) ?_ ?_ ?_;iterate 2 simp only[go_sem]
         simp only[go_sem,h0,w2,gj,gk,row,h,i1,j1,j2,hb,Zn];refine Za (hE1) ?_ ?_ ?_;iterate 2 simp only[go_sem,Zn,Zaj]
         simp only[go_sem,w1];exact⟨⟨k+1,by(try simp only);omega,Zp hI ok⟩,by show(d.rows).length-(k+1)<(d.rows).length-k;omega,⟨rfl,(Fc5 rfl rfl rfl rfl rfl),(fcs ⟨rfl,rfl⟩ fnl),fnl⟩⟩
      ·have hk0:k=0:=by omega
       cases hf:Z8 (Zr l 1) (d.rows.getD k default).l
       ·rw[hf]at hE1;have hz:=Zag (p:=ZeR l d.rows) hka (by simp only[ZeR,hf,Bool.and_false]);simp only[go_sem,h,gk,row,i1];refine Ze (by kernel_rfl) (by kernel_rfl) ?_;simp only[go_sem,h,gk,row,i1];refine Za (hN) ?_ ?_ ?_;iterate 2 simp only[go_sem]
        simp only[go_sem,h0,gk,row,h,i1,Zn];refine Za (hE1) ?_ ?_ ?_;iterate 2 simp only[go_sem,Zn,Zaj]
        simp only[go_sem,hz]
       ·rw[hf]at hE1;have ok:ZeR l d.rows k=true:=by simp only[ZeR,hn,decide_eq_true hk0,hf,Bool.true_or,Bool.and_self]
        simp only[go_sem,h,gk,row,i1];refine Ze (by kernel_rfl) (by kernel_rfl) ?_;simp only[go_sem,h,gk,row,i1];refine Za (hN) ?_ ?_ ?_;iterate 2 simp only[go_sem]
        simp only[go_sem,h0,gk,row,h,i1,Zn];refine Za (hE1) ?_ ?_ ?_;iterate 2 simp only[go_sem,Zn,Zaj]
        simp only[go_sem,w1];exact⟨⟨k+1,by(try simp only);omega,Zp hI ok⟩,by show(d.rows).length-(k+1)<(d.rows).length-k;omega,⟨rfl,(Fc5 rfl rfl rfl rfl rfl),(fcs ⟨rfl,rfl⟩ fnl),fnl⟩⟩
    ·have hz:=Zej (p:=ZeR l d.rows) (n:=d.rows.length) (fun j hj=>hI j (by omega));simp only[go_sem,h,hz]
theorem Zer (l:List Rw):Sized 2 (l.map row):=fun e he=>by
 obtain⟨x,_,rfl⟩:=List.mem_map.1 he;rfl
theorem Zfu (l:List En) (hl:l.length≤100000) (hl':∀e∈l,e.l.length≤1000000):PL.Pure Tryz.prog 85 [Zaj l] (Zaj l):=by
 have hm:l.length≤maxLen:=by rw[Zd];omega
 refine pov Tryz.func85 (by decide) rfl Tryz.ntmps85 Tryz.results85 (by simp) (Zjc _) ?_;simp only[go_sem,Zaj];refine Zbt 3 16 5 66 rfl rfl ?_;refine ZI (ι:= { x:Nat×(List En) // x.1≤(l).length∧(x.2=l.take x.1) }) 19 (fun x=> [(3,.sl (.row 16) (x.1.2.map ent)),(6,Zaj l),(7,.int .i64 (l.length:Int)),(8,.int .i64 (x.1.1:Int))]) (fun x=> []) (fun x=> [(16,.live (x.1.2.length) (5) (66))]) (fun x=>(l).length-x.1.1) ⟨(0,[]),Nat.zero_le _,rfl⟩ ⟨rfl,(Fc4 rfl rfl rfl rfl),fnl,(fcs rfl fnl)⟩ (fun x=>⟨(Fc4 (by simp[PV.ids,ZV]) rfl rfl rfl),fnl⟩) (fun x=> ?_);obtain⟨⟨k,acc⟩,hk,hI⟩:=x;simp only at hk hI ⊢;have hacc:acc.length≤l.length:=by rw[hI];exact Zcr _ _
 by_cases h:(k:Int)<(l.length:Int)
 ·(have hka:k<(l).length:=by omega);(have w1:=Zcd hka (hm));(have i1:(0:Int)≤(k:Int):=by omega)
  have hr:=Za1 (show acc.length+1≤1000000 by omega) (show 72≤1000 by omega);have hO:=ZeN (l.getD k default) (hl' _ (ZC hka));simp only[go_sem,Zaj,h,Zfl hka,ent,i1];refine Za (hO) ?_ ?_ ?_;iterate 2 simp only[go_sem,ent]
  simp only[go_sem,ent,ZfC,hr,w1];exact⟨⟨(k+1,acc++ [l.getD k default]),by(try simp only);omega,by simp only;rw[ZY (d:=default) hka,hI]⟩,by show(l).length-(k+1)<(l).length-k;omega,⟨rfl,(Fc4 (by simp[upd,ent]) rfl rfl rfl),fnl,(fcs (by simp[upd]) fnl)⟩⟩
 ·obtain rfl:k=l.length:=by omega
  rw[List.take_length]at hI;subst hI;simp only[go_sem,h,Zaj]
open Go.PL
theorem Znh (l:List Rw):Zcy (l.map row):=fun e he=>by
 obtain⟨t,_,rfl⟩:=List.mem_map.1 he;rfl
theorem ZwG (r:Rw):(row r).dids= []:=by simp only[row,PV.dids,PV.didsL,Zi6,List.append_nil]
theorem Zty (l:List Rw):PV.didsL (l.map row)= []:=by
 induction l with
 |nil=>rfl
 |cons t l ih=>simp only[List.map_cons,PV.didsL,ih,ZwG,List.append_nil]
theorem Zl4 (d:Dc):(doc d).dids= []:=by simp only[doc,PV.dids,PV.didsL,Zi6,Zty,List.append_nil]
def Zk6 (i:Nat) (l:List Rw):Nat→PV
 |0=> .sl .nil []
 |k+1=> .sl (.row i) ((l.take (k+1)).map row)
def Zk7 (i:Nat):Nat→List (Nat×Row)
 |0=> []
 |k+1=> [(i,.live (k+1) 2 91)]
theorem ZsY (d:Dc) (h1:d.head.length≤100000) (h2:d.rows.length≤100000) (h3:∀e∈d.head,e.l.length≤1000000) (h4:∀r∈d.rows,r.l.length≤100000∧ ∀e∈r.l,e.l.length≤1000000):PL.Pure Tryz.prog 46 [doc d] (doc d):=by
 obtain⟨hd,rws⟩:=d;simp only at h1 h2 h3 h4;have hm:rws.length≤maxLen:=by rw[Zd];omega
 have hE:=Zfu hd h1 h3;refine pov Tryz.func46 (by decide) rfl Tryz.ntmps46 Tryz.results46 (by simp) (Zl4 _) ?_;simp only[go_sem,doc];refine Za (hE) ?_ ?_ ?_;iterate 2 simp only[go_sem,Zaj]
 simp only[go_sem,Zaj];refine ZI (ι:= { k:Nat // k≤rws.length }) 30 (fun x=> [(2,.ptr 2 0),(3,.ptr 3 0),(11,.sl .no (rws.map row)),(12,.int .i64 (rws.length:Int)),(13,.int .i64 (x.1:Int))]) (fun x=> [(2,[.sl .nil [],.sl .nil []],false),(3,[.sl .no (hd.map ent),Zk6 26 rws x.1],false)]) (fun x=>Zk7 26 x.1) (fun x=>rws.length-x.1) ⟨0,Nat.zero_le _⟩
  ⟨rfl,(Fc5 rfl rfl rfl rfl rfl),Fc2 ⟨rfl,rfl⟩ ⟨rfl,rfl⟩,fnl⟩ (fun x=> ?_) (fun x=> ?_)
 ·obtain⟨k,hk⟩:=x;cases k with
  |zero=>exact⟨(Fc5 rfl rfl rfl rfl rfl),Fc2 rfl rfl⟩
  |succ k=>exact⟨(Fc5 rfl rfl rfl rfl rfl),Fc2 rfl (by simp[Zk6,Zk7,PV.ids,PV.idsL,ZV])⟩
 obtain⟨k,hk⟩:=x;simp only
 by_cases h:(k:Int)<(rws.length:Int)
 ·have hka:k<rws.length:=by omega
  have w1:=Zcd hka hm;have i1:(0:Int)≤(k:Int):=by omega
  have rk:=h4 _ (ZC (d:=default) hka);have hO:=Zfu (rws.getD k default).l rk.1 rk.2;have hsn:(rws.take (k+1)).map row=(rws.take k).map row++ [row (rws.getD k default)]:=by rw[ZY (d:=default) hka,List.map_append];rfl
  have hsz:=Zer (rws.take k);have hr0:=Za1 (show 1≤1000000 by omega) (show 40≤1000 by omega);have hat:=Znh [rws.getD k default];have hln:((rws.take k).map row).length=k:=by simp;omega
  cases k with
  |zero=>
   have h':(0:Int)<(rws.length:Int):=by simpa using h
   have g0:=Zfm hka;simp only[go_sem,Zk6,Zk7,h',g0,row,i1];refine Ze (by kernel_rfl) (by kernel_rfl) ?_;simp only[go_sem];refine Za (hO) ?_ ?_ ?_;iterate 2 simp only[go_sem,Zaj]
   have w0:IntKind.i64.wrap 1=1:=w64 (by omega);simp only[go_sem,Zaj,w1,w0];refine⟨hr0,⟨⟨0+1,by omega⟩,by show rws.length-(0+1)<rws.length-0;omega,⟨rfl,(Fc5 rfl rfl rfl rfl rfl),Fc2 ⟨rfl,rfl⟩ ⟨?_,rfl⟩,fcs rfl fnl⟩⟩⟩;show some [PV.sl .no _,PV.sl (.row 26) _]=some [PV.sl .no _,PV.sl (.row 26) _];rw[hsn];rfl
  |succ k=>
   have hl3:(rws.take (k+1)).length=k+1:=by rw[List.length_take];omega
   have hr:=Za1 (show k+1+1≤1000000 by omega) (show 40≤1000 by omega);simp only[go_sem,Zk6,Zk7,h,Zfm hka,row,i1];refine Ze (by kernel_rfl) (by kernel_rfl) ?_;simp only[go_sem];refine Za (hO) ?_ ?_ ?_;iterate 2 simp only[go_sem,Zaj]
   simp only[go_sem,Zaj,w1];refine⟨⟨hl3.symm,Zer _,by rw[hl3];exact hr⟩,⟨⟨k+1+1,by omega⟩,by show rws.length-(k+1+1)<rws.length-(k+1);omega,⟨rfl,(Fc5 rfl rfl rfl rfl rfl),Fc2 ⟨rfl,rfl⟩ ⟨?_,rfl⟩,fcs ?_ fnl⟩⟩⟩
   ·show some [PV.sl .no _,PV.sl (.row 26) _]=some [PV.sl .no _,PV.sl (.row 26) _];rw[hsn];rfl
   ·show some _=some _;rw[hl3]
 ·obtain rfl:k=rws.length:=by omega
  cases rws with
  |nil=>
   have h':¬(0:Int)<0:=by omega
   simp only[go_sem,Zk6,Zk7,h',List.length_nil];rfl
  |cons r rs=>
   have ht:(r::rs).take (rs.length+1)=r::rs:=List.take_length (l:=r::rs);have h':¬((rs.length+1:Nat):Int)<((rs.length+1:Nat):Int):=by omega
   simp only[go_sem,Zk6,Zk7,h',List.length_cons,ht];rw[List.take_length];rfl
open Go.PL Go.PL.Srt
structure SortK {α:Type} (pv:α→PV) (g:FuncId) (lt:α→α→Bool) (cv:α→α→Int):Prop where
 len:∀a,(pv a).cells.length=15
 atom:∀a,(pv a).cells.all PV.atom=true
 ids:∀a,(pv a).ids= []
 known:∀a,(pv a).known=true
 give:∀a m,(pv a).give m=pv a
 givable:∀a m,(pv a).givable m
 part:∀a,ZcE true 15 (pv a).cells 0=pv a
 cmp:∀a b,PL.Pure Tryz.prog g [pv a,pv b] (.int .i64 (cv a b))
 cv:∀a b,decide (cv a b<0)=lt a b
 good:Srt.Good lt
theorem ZdS {x:Int} (h0:0≤x) (h1:x≤9223372036854775807):IntKind.i64.wrap x=x:=w64 (by omega)
section
variable {α:Type} [Inhabited α] {pv:α→PV} {g:FuncId} {lt:α→α→Bool} {cv:α→α→Int}
theorem Zmg (K:SortK pv g lt cv) (e:TypeId) (n:Nat) (X L Y:List α) (hU:Unl lt L) (hn:X.length+L.length+Y.length=n) (hm:n≤1000000000000) (r:List PV) (hr:r=(X++(srt lt L++Y)).map pv):
  Eff Tryz.prog 146 [.vsl 1000 n 15,.int .i64 (X.length:Int),.int .i64 ((X.length+L.length:Nat):Int),.fn g []] (Zcw n 15 e ((X++(L++Y)).map pv)) (.tup []) (Zcw n 15 e r):=by
 subst hr;have hc:∀l:List α,∀p∈l.map pv,p.ids= []:=fun l=>ZbM K.ids l
 refine Eff.vw [] Tryz.func146 (by decide) rfl Tryz.ntmps146 Tryz.results146 (by simp) (hc _) (hc _) (by simp[PV.ids,PV.idsL]) (by simp[PV.ids,PV.idsL]) fun q=> ?_
 have w1:IntKind.i64.wrap ((X.length:Int)+1)=((X.length+1:Nat):Int):=by rw[ZdS (by omega) (by omega)];rfl
 have klen:=K.len;have kpart:=K.part;have katom:=K.atom;have kknown:=K.known;simp only[go_sem]at klen kpart katom kknown;have one:∀l:List α,srt lt (l.take 1)=l.take 1:=fun l=>by cases l<;>rfl
 simp only[go_sem,w1];refine ZcM (ι:= { k:Nat // 1≤k∧(k≤L.length∨k=1) }) 53 (fun x=> [(0,.vsl 1000 n 15),(1,.int .i64 (X.length:Int)),(2,.int .i64 ((X.length+L.length:Nat):Int)),(3,.fn g []),(8,.int .i64 ((X.length+x.1:Nat):Int))]) (fun _=> []) (fun _=> [(1000,.vec n 15 e)]) (fun _=> []) (fun _=> []) (fun x=> [(1000,(X++(srt lt (L.take x.1)++(L.drop x.1++Y))).map pv)]) (fun _=> []) [] [(1000,q)] [] (fun x=>L.length-x.1) ⟨1,by omega,.inr rfl⟩
  (Zaw rfl (Fc5 rfl rfl rfl rfl rfl) rfl (by rw[one,←List.append_assoc (List.take 1 L),List.take_append_drop];rfl) rfl) (fun x=>Zbw (by simp[PV.ids,PV.idsL,ZV]) (ZaC K.ids _)) (fun x=> ?_)
 obtain⟨k,hk1,hk2⟩:=x;simp only
 by_cases hk:k<L.length
 ·have c1:((X.length+k:Nat):Int)<((X.length+L.length:Nat):Int):=by omega
  have eD:L.drop k=L.getD k default::L.drop (k+1):=by rw[List.drop_eq_getElem_cons hk,getD_lt hk]
  have eT:L.take (k+1)=L.take k++ [L.getD k default]:=by rw[List.take_succ_eq_append_getElem hk,getD_lt hk]
  have hUk:Unl lt (L.take k++ [L.getD k default]):=by rw[←eT];exact List.Pairwise.sublist (List.take_sublist _ _) hU
  have hUt:=(Unl.append.1 hUk).1;have hinc:=ZdV K.good hUt;have hlenT:(L.take k).length=k:=by rw[List.length_take];omega
  generalize hx:L.getD k default=x at *;generalize hD:L.drop (k+1)=D at *;generalize hs:srt lt (L.take k)=sk at *;have hsl:sk.length=k:=by rw[←hs,ZM];omega
  rw[eD];simp only[go_sem,c1];refine ZcM (ι:= { pq:List α×List α // pq.1++pq.2=sk∧ ∀y∈pq.2,lt x y=true }) 53 (fun y=> [(0,.vsl 1000 n 15),(1,.int .i64 (X.length:Int)),(2,.int .i64 ((X.length+L.length:Nat):Int)),(3,.fn g []),(8,.int .i64 ((X.length+k:Nat):Int)),(9,.int .i64 ((X.length+y.1.1.length:Nat):Int))]) (fun _=> []) (fun _=> [(1000,.vec n 15 e)]) (fun _=> []) (fun _=> []) (fun y=> [(1000,(X++(y.1.1++x::(y.1.2++(D++Y)))).map pv)]) (fun _=> []) [] [(1000,q)] [] (fun y=>y.1.1.length) ⟨(sk,[]),by simp,by simp⟩
   (Zaw rfl (by rw[show(⟨(sk,[]),by simp,by simp⟩: { pq:List α×List α // pq.1++pq.2=sk∧ ∀y∈pq.2,lt x y=true }).1.1.length=k from hsl];exact(Fc6 rfl rfl rfl rfl rfl rfl)) rfl (by show some _=some _;simp) rfl) (fun y=>Zbw (by simp[PV.ids,PV.idsL,ZV]) (ZaC K.ids _)) (fun y=> ?_)
  obtain⟨⟨A,C⟩,hAC,hC⟩:=y;simp only;have w2:IntKind.i64.wrap (((X.length+k:Nat):Int)+1)=((X.length+(k+1):Nat):Int):=by rw[ZdS (by omega) (by omega)];omega
  have hLD:L.length=k+1+D.length:=by rw[←hD,List.length_drop];omega
  have hACl:A.length+C.length=k:=by rw[←hsl,←hAC];simp
  have next:∀M:List α,srt lt (L.take (k+1))=M→(X++(M++(D++Y)))=(X++(srt lt (L.take (k+1))++(L.drop (k+1)++Y))):=fun M h=>by rw[h,hD]
  have hCx:∀c∈C,lt x c=true:=hC;have fin:(∀p∈A,lt p x=true)→srt lt (L.take (k+1))=A++x::C:=fun hp=>by
   refine ZpY K.good (by rw[hAC];exact hinc) hp hCx ?_;rw[eT];have p1:(A++x::C).Perm (x::(A++C)):=List.perm_middle;refine p1.trans ?_;rw[hAC,←hs];exact((Za2 (L.take k)).cons x).trans (List.perm_append_comm (l₁:= [x]))
  rcases List.eq_nil_or_concat A with hA|⟨A',y,hA⟩
  ·subst hA;have fin:=fin (by simp);have e9:X.length+([]:List α).length=X.length:=by simp
   rw[e9];have d1:¬((X.length:Int)<(X.length:Int)):=by omega
   simp only[go_sem,d1];refine Ze (by kernel_rfl) (by kernel_rfl) ?_;simp only[go_sem,d1,w2];refine⟨⟨k+1,by omega,by omega⟩,by show L.length-(k+1)<L.length-k;omega,Zaw rfl (Fc5 rfl rfl rfl rfl rfl) rfl ?_ rfl⟩;show some _=some _;rw[←next _ fin];simp
  ·have hA:A=A'++ [y]:=by simpa using hA
   subst hA;obtain⟨j,hj⟩:∃j,j=X.length+A'.length:=⟨_,rfl⟩;have e9:X.length+(A'++ [y]).length=j+1:=by simp;omega
   simp only[List.length_append,List.length_singleton]at hACl;rw[e9];have el:X++((A'++ [y])++x::(C++(D++Y)))=(X++A')++y::([]++x::(C++(D++Y))):=by simp
   rw[el];generalize hl:(X++A')++y::([]++x::(C++(D++Y)))=l;have hln:l.length=n:=by rw[←hl];simp;omega
   have g0:(l.map pv).getD j .any=pv y:=by rw[Z5 (by omega),←hl,ZaQ _ _ _ (by simp;omega)]
   have g1:(l.map pv).getD (j+1) .any=pv x:=by
    rw[Z5 (by omega),←hl,show(X++A')++y::([]++x::(C++(D++Y)))=(X++A'++ [y])++x::(C++(D++Y))by simp,ZaQ _ _ _ (by simp;omega)]
   have w3:IntKind.i64.wrap (((j+1:Nat):Int)-1)=(j:Int):=by rw[ZdS (by omega) (by omega)];omega
   have d1:(X.length:Int)<((j+1:Nat):Int):=by omega
   have b1:0≤((j+1:Nat):Int)∧((j+1:Nat):Int)<(n:Int):=by omega
   have b0:0≤(j:Int)∧(j:Int)<(n:Int):=by omega
   have hv:=K.cv x y;simp only[go_sem,d1];refine Ze (by kernel_rfl) (by kernel_rfl) ?_;simp only[go_sem,d1,w3,b1.1,b1.2,b0.1,b0.2,Int.toNat_natCast,g0,g1,klen,kpart,List.length_map,hln];refine Za (K.cmp x y) ?_ ?_ ?_
   ·simp only[go_sem,K.give,K.givable]
   ·simp only[go_sem,K.give,K.givable]
   by_cases hxy:lt x y=true
   ·rw[hxy]at hv;have g2:((l.set (j+1) y).map pv).getD j .any=pv y:=by
     rw[Z5 (by simp;omega),←Z5 (pv:=pv) (by simp;omega),←Zg5,ZgL (by omega),g0]
    have es:(l.set (j+1) y).set j x=X++(A'++x::((y::C)++(D++Y))):=by
     have h:=ZmG (X++A') [] (C++(D++Y)) y x (i:=j) (j:=j+1) (by simp;omega) (by simp;omega);rw[hl,Zox _ _ _ (by omega) (by omega)]at h;have d0:l.getD j default=y:=by rw[←hl];exact ZaQ _ _ _ (by simp;omega)
     have d1:l.getD (j+1) default=x:=by
      rw[←hl,show(X++A')++y::([]++x::(C++(D++Y)))=(X++A'++ [y])++x::(C++(D++Y))by simp,ZaQ _ _ _ (by simp;omega)]
     unfold swap at h
     rw[d0,d1]at h;rw[h];simp
    simp only[go_sem,hv,of_decide_eq_true hv];refine Ze (by kernel_rfl) (by kernel_rfl) ?_;simp only[go_sem,w3,b1.1,b1.2,b0.1,b0.2,Int.toNat_natCast,g0,g1,klen,kpart,katom,kknown,List.length_map,hln,Zg5,g2,List.length_set,es,and_self];subst hj;exact⟨⟨(A',y::C),by simpa using hAC,fun z hz=>by
     rcases List.mem_cons.1 hz with rfl|hz
     ·exact hxy
     ·exact hCx z hz⟩,by show A'.length<(A'++ [y]).length;simp,Zaw rfl (Fc6 rfl rfl rfl rfl rfl rfl) rfl rfl rfl⟩
   ·have hv':¬cv x y<0:=by
     have:lt x y=false:=by simpa using hxy
     rw[this]at hv;simpa using hv
    have hy:y∈L.take k:=by rw[←ZmE (lt:=lt),hs,←hAC];simp
    have hyx:lt y x=true:=((Unl.append.1 hUk).2.2 y hy x (by simp)).resolve_right hxy;have hA2:∀p∈A',lt p y=true:=fun p hp=>by
     rw[←hAC]at hinc;exact(Inc.append.1 (Inc.append.1 hinc).1).2.2 p hp y (by simp)
    have fin:=fin fun p hp=>by
     rcases List.mem_append.1 hp with hp|hp
     ·exact K.good.trans _ _ _ (hA2 p hp) hyx
     ·simp only[List.mem_singleton]at hp;subst hp;exact hyx
    simp only[go_sem,hv',w2];refine⟨⟨k+1,by omega,by omega⟩,by show L.length-(k+1)<L.length-k;omega,Zaw rfl (Fc5 rfl rfl rfl rfl rfl) rfl ?_ rfl⟩;show some _=some _;rw[←next _ fin,←hl];simp
 ·have c1:¬((X.length+k:Nat):Int)<((X.length+L.length:Nat):Int):=by omega
  have e1:L.take k=L:=List.take_of_length_le (by omega);have e2:L.drop k= []:=List.drop_eq_nil_of_le (by omega);simp only[go_sem,c1];refine ZeF (r0:= .tup []) (hc _) rfl (.clean rfl) rfl ?_ rfl;show some _=some _;rw[e1,e2];simp
end
open Go.PL Go.PL.Srt
section
variable {α:Type} [Inhabited α] {pv:α→PV} {g:FuncId} {lt:α→α→Bool} {cv:α→α→Int}
theorem ZbC {l:List α} {i:Nat} (h:i<l.length):l.drop i=l.getD i default::l.drop (i+1):=by rw[List.drop_eq_getElem_cons h,getD_lt h]
theorem Zg9 {l:List α} {i:Nat} (h:i<l.length):l.take (i+1)=l.take i++ [l.getD i default]:=by rw[List.take_succ_eq_append_getElem h,getD_lt h]
theorem ZeT (K:SortK pv g lt cv) (e:TypeId) (n:Nat) (X A B C Y:List α) (hAC:A.length=C.length) (hn:X.length+A.length+B.length+C.length+Y.length=n) (hm:n≤1000000000000) (l0 r:List PV) (hl0:l0=(X++(A++(B++(C++Y)))).map pv) (hr:r=(X++(C++(B++(A++Y)))).map pv) (ia ib ic:Int) (ha:ia=(X.length:Int)) (hb:ib=((X.length+A.length+B.length:Nat):Int)) (hc:ic=(A.length:Int)):
  Eff Tryz.prog 184 [.vsl 1000 n 15,.int .i64 ia,.int .i64 ib,.int .i64 ic,.fn g []] (Zcw n 15 e l0) (.tup []) (Zcw n 15 e r):=by
 subst hr hl0 ha hb hc;have hcl:∀l:List α,∀p∈l.map pv,p.ids= []:=fun l=>ZbM K.ids l
 refine Eff.vw [] Tryz.func184 (by decide) rfl Tryz.ntmps184 Tryz.results184 (by simp) (hcl _) (hcl _) (by simp[PV.ids,PV.idsL]) (by simp[PV.ids,PV.idsL]) fun q=> ?_
 have klen:=K.len;have kpart:=K.part;have katom:=K.atom;have kknown:=K.known;simp only[go_sem]at klen kpart katom kknown;simp only[go_sem];refine ZcM (ι:= { i:Nat // i≤A.length }) 38 (fun x=> [(0,.vsl 1000 n 15),(1,.int .i64 (X.length:Int)),(2,.int .i64 ((X.length+A.length+B.length:Nat):Int)),(3,.int .i64 (A.length:Int)),(10,.int .i64 (x.1:Int))]) (fun _=> []) (fun _=> [(1000,.vec n 15 e)]) (fun _=> []) (fun _=> []) (fun x=> [(1000,(X++(C.take x.1++(A.drop x.1++(B++(A.take x.1++(C.drop x.1++Y)))))).map pv)]) (fun _=> []) [] [(1000,q)] [] (fun x=>A.length-x.1) ⟨0,Nat.zero_le _⟩
  (Zaw rfl (Fc5 rfl rfl rfl rfl rfl) rfl (by show some _=some _;simp) rfl) (fun x=>Zbw (by simp[PV.ids,PV.idsL,ZV]) (ZaC K.ids _)) (fun x=> ?_)
 obtain⟨i,hi⟩:=x;simp only
 by_cases hk:i<A.length
 ·have hk':i<C.length:=by omega
  have c1:(i:Int)<(A.length:Int):=by omega
  obtain⟨p,hp⟩:∃p,p=X.length+i:=⟨_,rfl⟩;obtain⟨p2,hp2⟩:∃p2,p2=X.length+A.length+B.length+i:=⟨_,rfl⟩;have w1:IntKind.i64.wrap ((X.length:Int)+(i:Int))=(p:Int):=by rw[ZdS (by omega) (by omega)];omega
  have w2:IntKind.i64.wrap (((X.length+A.length+B.length:Nat):Int)+(i:Int))=(p2:Int):=by rw[ZdS (by omega) (by omega)];omega
  have w3:IntKind.i64.wrap ((i:Int)+1)=((i+1:Nat):Int):=by rw[ZdS (by omega) (by omega)];omega
  have el:X++(C.take i++(A.drop i++(B++(A.take i++(C.drop i++Y)))))=(X++C.take i)++A.getD i default::((A.drop (i+1)++(B++A.take i))++C.getD i default::(C.drop (i+1)++Y)):=by
   rw[ZbC hk,ZbC hk'];simp
  have en:X++(C.take (i+1)++(A.drop (i+1)++(B++(A.take (i+1)++(C.drop (i+1)++Y)))))=(X++C.take i)++C.getD i default::((A.drop (i+1)++(B++A.take i))++A.getD i default::(C.drop (i+1)++Y)):=by
   rw[Zg9 hk,Zg9 hk'];simp
  have hx1:p=(X++C.take i).length:=by simp;omega
  have hx2:p2=(X++C.take i).length+1+(A.drop (i+1)++(B++A.take i)).length:=by simp;omega
  have hlen:((X++C.take i)++A.getD i default::((A.drop (i+1)++(B++A.take i))++C.getD i default::(C.drop (i+1)++Y))).length=n:=by simp;omega
  rw[el];obtain⟨G,hG⟩:∃G:List α,G=X++(C.take (i+1)++(A.drop (i+1)++(B++(A.take (i+1)++(C.drop (i+1)++Y))))):=⟨_,rfl⟩;rw[←hG]at en;generalize C.drop (i+1)++Y=Z at hx1 hx2 hlen en ⊢;generalize A.drop (i+1)++(B++A.take i)=M at hx1 hx2 hlen en ⊢;generalize X++C.take i=X' at hx1 hx2 hlen en ⊢;generalize A.getD i default=a at hx1 hx2 hlen en ⊢;generalize C.getD i default=c at hx1 hx2 hlen en ⊢;have sw:=ZmG X' M Z a c (i:=p) (j:=p2) hx1 hx2;have d0:(X'++a::(M++c::Z)).getD p default=a:=ZaQ _ _ _ hx1;have d1:(X'++a::(M++c::Z)).getD p2 default=c:=by
   rw[show X'++a::(M++c::Z)=(X'++a::M)++c::Z by simp,ZaQ _ _ _ (by simp;omega)]
  have hpl:p2<n:=by omega
  generalize X'++a::(M++c::Z)=l at sw d0 d1 hlen ⊢;unfold swap at sw
  rw[d0,d1]at sw;have g0:(l.map pv).getD p .any=pv a:=by rw[Z5 (by omega),d0]
  have g1:(l.map pv).getD p2 .any=pv c:=by rw[Z5 (by omega),d1]
  have g2:((l.set p c).map pv).getD p2 .any=pv c:=by
   rw[Z5 (by simp;omega),ZgL (by omega),d1]
  have b0:0≤(p:Int)∧(p:Int)<(n:Int):=by omega
  have b1:0≤(p2:Int)∧(p2:Int)<(n:Int):=by omega
  simp only[go_sem,c1];refine Ze (by kernel_rfl) (by kernel_rfl) ?_;simp only[go_sem,w1,w2,w3,b1.1,b1.2,b0.1,b0.2,Int.toNat_natCast,g0,g1,klen,kpart,katom,kknown,List.length_map,hlen,Zg5,g2,List.length_set,sw,and_self];exact⟨⟨i+1,by omega⟩,by show A.length-(i+1)<A.length-i;omega,Zaw rfl (Fc5 rfl rfl rfl rfl rfl) rfl (by show some _=some _;rw[←en,hG]) rfl⟩
 ·have c1:¬(i:Int)<(A.length:Int):=by omega
  have hi:i=A.length:=by omega
  subst hi;simp only[go_sem,c1];refine ZeF (r0:= .tup []) (hcl _) rfl (.clean rfl) rfl ?_ rfl;show some _=some _;rw[List.drop_length,List.take_length,show C.take A.length=C by rw[hAC,List.take_length],show C.drop A.length= []by rw[hAC,List.drop_length]];simp
end
open Go.PL Go.PL.Srt
section
variable {α:Type} [Inhabited α] {pv:α→PV} {g:FuncId} {lt:α→α→Bool} {cv:α→α→Int}
def ZDQ (R:List α) (m:Nat) (s:List α×List α×List α×List α):Prop:=s.1++(s.2.2.1++(s.2.1++s.2.2.2))=R∧s.1.length+s.2.1.length=m∧0<s.2.1.length∧0<s.2.2.1.length
theorem Zlu (K:SortK pv g lt cv) (e:TypeId) (n:Nat) (X A B Y:List α) (hA:0<A.length) (hB:0<B.length) (hn:X.length+A.length+B.length+Y.length=n) (hm:n≤1000000000000) (l0 r:List PV) (hl0:l0=(X++(A++(B++Y))).map pv) (hr:r=(X++(B++(A++Y))).map pv) (ia ib ic:Int) (ha:ia=(X.length:Int)) (hb:ib=((X.length+A.length:Nat):Int)) (hc:ic=((X.length+A.length+B.length:Nat):Int)):
  Eff Tryz.prog 173 [.vsl 1000 n 15,.int .i64 ia,.int .i64 ib,.int .i64 ic,.fn g []] (Zcw n 15 e l0) (.tup []) (Zcw n 15 e r):=by
 subst hr hl0 ha hb hc;have hcl:∀l:List α,∀p∈l.map pv,p.ids= []:=fun l=>ZbM K.ids l
 refine Eff.vw [] Tryz.func173 (by decide) rfl Tryz.ntmps173 Tryz.results173 (by simp) (hcl _) (hcl _) (by simp[PV.ids,PV.idsL]) (by simp[PV.ids,PV.idsL]) fun q=> ?_
 have w1:IntKind.i64.wrap (((X.length+A.length:Nat):Int)-(X.length:Int))=(A.length:Int):=by rw[ZdS (by omega) (by omega)];omega
 have w2:IntKind.i64.wrap (((X.length+A.length+B.length:Nat):Int)-((X.length+A.length:Nat):Int))=(B.length:Int):=by rw[ZdS (by omega) (by omega)];omega
 simp only[go_sem,w1,w2];generalize hR:X++(B++(A++Y))=R;generalize hM:X.length+A.length=m;have hRl:R.length=n:=by rw[←hR];simp;omega
 refine ZcM (ι:= { s:List α×List α×List α×List α // ZDQ R m s }) 58 (fun x=> [(0,.vsl 1000 n 15),(2,.int .i64 (m:Int)),(4,.fn g []),(10,.int .i64 (x.1.2.1.length:Int)),(11,.int .i64 (x.1.2.2.1.length:Int))]) (fun _=> []) (fun _=> [(1000,.vec n 15 e)]) (fun _=> []) (fun _=> []) (fun x=> [(1000,(x.1.1++(x.1.2.1++(x.1.2.2.1++x.1.2.2.2))).map pv)]) (fun _=> []) [] [(1000,q)] [] (fun x=>x.1.2.1.length+x.1.2.2.1.length) ⟨(X,A,B,Y),hR,hM,hA,hB⟩
  (Zaw rfl (Fc5 rfl rfl rfl rfl rfl) rfl rfl rfl) (fun x=>Zbw (by simp[PV.ids,PV.idsL,ZV]) (ZaC K.ids _)) (fun x=> ?_)
 obtain⟨⟨X',A',B',Y'⟩,h1,h2,h3,h4⟩:=x;simp only at h1 h2 h3 h4 ⊢;have hlen:X'.length+A'.length+B'.length+Y'.length=n:=by rw[←hRl,←h1];simp;omega
 have w3:IntKind.i64.wrap ((m:Int)-(A'.length:Int))=(X'.length:Int):=by rw[ZdS (by omega) (by omega)];omega
 by_cases hne:(A'.length:Int)=(B'.length:Int)
 ·have hne':A'.length=B'.length:=by omega
  have w4:IntKind.i64.wrap ((m:Int)-(B'.length:Int))=(X'.length:Int):=by rw[←hne];exact w3
  simp only[go_sem,hne,w4];refine Za4 1000 (ZeT K e n X' A' [] B' Y' hne' (by simp;omega) hm _ (R.map pv) (by simp) (by rw[←h1];simp) _ _ _ rfl (by simp;omega) hne.symm) (by simp[PV.ids,PV.idsL]) (hcl _) (hcl _) rfl rfl rfl ?_;simp only[go_sem];exact ZeF (r0:= .tup []) (hcl _) rfl (.clean rfl) rfl rfl rfl
 ·have hbn:((A'.length:Int) !=(B'.length:Int))=true:=bne_iff_ne.2 hne
  by_cases hgt:(B'.length:Int)<(A'.length:Int)
  ·have e1:A'.take B'.length++A'.drop B'.length=A':=List.take_append_drop _ _;have l1:(A'.take B'.length).length=B'.length:=by rw[List.length_take];omega
   have l2:(A'.drop B'.length).length=A'.length-B'.length:=List.length_drop;generalize A'.take B'.length=A1 at e1 l1;generalize A'.drop B'.length=A2 at e1 l2;subst e1;have w5:IntKind.i64.wrap (((A1++A2).length:Int)-(B'.length:Int))=(A2.length:Int):=by rw[ZdS (by omega) (by omega)];omega
   simp only[go_sem,hbn,hgt,w3,w5];refine Za4 1000 (ZeT K e n X' A1 A2 B' Y' l1 (by simp at hlen;omega) hm _ ((X'++(B'++(A2++(A1++Y')))).map pv) (by simp) rfl _ _ _ rfl (by simp at h2;omega) (by omega)) (by simp[PV.ids,PV.idsL]) (hcl _) (hcl _) rfl rfl rfl ?_;simp only[go_sem,w5];refine⟨⟨(X'++B',A2,A1,Y'),by simpa using h1,by simp at h2 ⊢;omega,by show 0<A2.length;omega,by show 0<A1.length;omega⟩,by show A2.length+A1.length<(A1++A2).length+B'.length;simp;omega,Zaw rfl ?_ rfl (by show some _=some _;simp) rfl⟩;show ∀x∈ [(0,PV.vsl 1000 n 15),(2,.int .i64 (m:Int)),(4,.fn g []),(10,.int .i64 (A2.length:Int)),(11,.int .i64 (A1.length:Int))],_;rw[l1];exact(Fc5 rfl rfl rfl rfl rfl)
  ·have e1:B'.take (B'.length-A'.length)++B'.drop (B'.length-A'.length)=B':=List.take_append_drop _ _;have l1:(B'.take (B'.length-A'.length)).length=B'.length-A'.length:=by rw[List.length_take];omega
   have l2:(B'.drop (B'.length-A'.length)).length=A'.length:=by rw[List.length_drop];omega
   generalize B'.take (B'.length-A'.length)=B1 at e1 l1;generalize B'.drop (B'.length-A'.length)=B2 at e1 l2;subst e1;have w5:IntKind.i64.wrap (((B1++B2).length:Int)-(A'.length:Int))=(B1.length:Int):=by rw[ZdS (by omega) (by omega)];omega
   have w6:IntKind.i64.wrap ((m:Int)+((B1++B2).length:Int))=((m+(B1++B2).length:Nat):Int):=by rw[ZdS (by omega) (by omega)];omega
   have w7:IntKind.i64.wrap (((m+(B1++B2).length:Nat):Int)-(A'.length:Int))=((m+B1.length:Nat):Int):=by rw[ZdS (by omega) (by omega)];omega
   simp only[go_sem,hbn,hgt,w3,w6,w7];refine Za4 1000 (ZeT K e n X' A' B1 B2 Y' l2.symm (by simp at hlen;omega) hm _ ((X'++(B2++(B1++(A'++Y')))).map pv) (by simp) rfl _ _ _ rfl (by omega) rfl) (by simp[PV.ids,PV.idsL]) (hcl _) (hcl _) rfl rfl rfl ?_;simp only[go_sem,w5];refine⟨⟨(X',B2,B1,A'++Y'),by simpa using h1,by simp at h2 ⊢;omega,by show 0<B2.length;omega,by show 0<B1.length;omega⟩,by show B2.length+B1.length<A'.length+(B1++B2).length;simp;omega,Zaw rfl ?_ rfl (by show some _=some _;simp) rfl⟩;show ∀x∈ [(0,PV.vsl 1000 n 15),(2,.int .i64 (m:Int)),(4,.fn g []),(10,.int .i64 (B2.length:Int)),(11,.int .i64 (B1.length:Int))],_;rw[l2];exact(Fc5 rfl rfl rfl rfl rfl)
end
end Go.Proofs.YthingdchjkhfbaaGreat
