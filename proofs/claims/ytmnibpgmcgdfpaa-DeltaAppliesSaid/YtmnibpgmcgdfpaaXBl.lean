/- Contracts of functions and laws of this seat, each for every input that it names: lemmas of the proof. -/
import Derived.Test.YtmnibpgmcgdfpaaPlM
import Derived.Test.YtmnibpgmcgdfpaaXAa
import Derived.Test.YtmnibpgmcgdfpaaXAd
import Derived.Test.YtmnibpgmcgdfpaaXAn
import Derived.ProofKit
set_option maxHeartbeats 64000000
set_option maxRecDepth 20000
set_option linter.unusedVariables false
set_option linter.unusedSimpArgs false
namespace Go.Proofs.Ytmnibpgmcgdfpaa
open Go.PL
structure Seen (n:Nat) (p:Nat→Prop) where
 l:List Nat
 d:l.Nodup
 h:∀i∈l,i<n∧p i
open Go.PL
open Go.PL
open Go.PL
def upL (w:List Eg):List Tg:=(w.reverse.map (·.id))++ [default]
structure UpS (m:List Eg) (w:List Eg) where
 id:Tg
 r:List Eg
 acc:List Tg
 hw:Way m id r
 hx:acc++(upL r).tail=upL w
open Go.PL
theorem Apart.inj {m:List Eg} (h:Apart m) {a b:Eg} (ha:a∈m) (hb:b∈m) (e:a.id=b.id):a=b:=by
 have h1:=h.find ha;rw[e,h.find hb]at h1;cases h1;rfl
structure WayT where
 up:List Tg
 down:List Tg
 i:Nat
 j:Nat
 c:Int
open Go.PL
open Go.PL
open Go.PL
open Go.PL
open Go.PL
open Go.PL
theorem XE (l:List Fd) (d:Dc) (hl:l.length≤maxLen) (hl':∀f∈l,f.cases'.length≤1000000) (hd:Vk d):PL.Pure Try.prog 23 [Zj l,doc d] (.bool (Zl l d)):=by
 obtain⟨d1,d2,d3,d4⟩:=hd;have hl2:∀f∈l,f.cases'.length≤maxLen:=fun f hf=>by have:=hl' f hf;rw[Zh];omega
 have hR:=Zca l hl hl2;cases hr:Yu l
 ·rw[hr]at hR;have hx:Zl l d=false:=by simp only[Zl,VA,hr,Bool.false_and]
  refine ZO Try.func23 rfl Try.ntmps23 Try.results23 ?_;simp only[go_sem,Zj,doc];refine vc2 (hR) ?_;simp only[go_sem,hx]
 ·rw[hr]at hR;have h16:=SH hr;have sl:∀sc,(Zi l sc).length≤maxLen:=fun sc=>Nat.le_trans (List.length_filter_le _ _) hl
  have sc:∀s,∀f∈Zi l s,f.cases'.length≤maxLen:=fun s f hf=>hl2 f (List.mem_filter.1 hf).1
  have hS0:=UF l 0 (by omega) hl';have hS1:=UF l 1 (by omega) hl'
  by_cases h4:(400:Int)<(d.rows.length:Int)
  ·have hx:Zl l d=false:=by simp only[Zl,VA,h4,decide_true,Bool.not_true,Bool.false_and,Bool.and_false]
   refine ZO Try.func23 rfl Try.ntmps23 Try.results23 ?_;simp only[go_sem,Zj,doc];refine vc2 (hR) ?_;simp only[go_sem,h4,hx]
  ·have hE:=VJ (Zi l 0) d.head (sl 0) d1 (sc 0) d3;cases he:Zk (Zi l 0) d.head
   ·rw[he]at hE;have hx:Zl l d=false:=by simp only[Zl,VA,he,Bool.false_and,Bool.and_false]
    refine ZO Try.func23 rfl Try.ntmps23 Try.results23 ?_;simp only[go_sem,Zj,doc];refine vc2 (hR) ?_;simp only[go_sem,h4];refine vDq ?_;simp only[go_sem,Zj];refine vc2 (hS0) ?_;simp only[go_sem,Zj];refine vc2 (hE) ?_;simp only[go_sem,hx]
   ·rw[he]at hE;have hx:Zl l d=(List.range d.rows.length).all (YJ l d.rows):=by simp only[Zl,VA,hr,h4,he,decide_false,Bool.not_false,Bool.and_self,Bool.true_and]
    rw[hx];refine ZO Try.func23 rfl Try.ntmps23 Try.results23 ?_;simp only[go_sem,Zj,doc];refine vc2 (hR) ?_;simp only[go_sem,h4];refine vDq ?_;simp only[go_sem,Zj];refine vc2 (hS0) ?_;simp only[go_sem,Zj];refine vc2 (hE) ?_;simp only[go_sem,Zj];refine vc2 (hS1) ?_;simp only[go_sem];refine ZK (ι:= { x:Nat // x≤(d.rows).length∧(∀j,j<x→YJ l d.rows j=true) }) 59 (fun x=> [(3,.ptr 3 0),(5,Zj (Zi l 1)),(26,.sl .no (d.rows.map row)),(27,.int .i64 (d.rows.length:Int)),(28,.int .i64 (x.1:Int))]) (fun x=> [(3,[.sl .no (d.head.map ent),.sl .no (d.rows.map row)],false)]) (fun x=> []) (fun x=>(d.rows).length-x.1) ⟨0,Nat.zero_le _,fun j hj=>absurd hj (Nat.not_lt_zero j)⟩ ⟨rfl,(Fc5 rfl rfl rfl rfl rfl),(fcs ⟨rfl,rfl⟩ fnl),fnl⟩ (fun x=>⟨(Fc5 rfl rfl (by simp[PV.ids,ZV]) (by simp[PV.ids,ZV]) rfl),(fcs (by simp[PV.ids,PV.idsL,ZV]) fnl)⟩) (fun x=> ?_);obtain⟨k,hk,hI⟩:=x;simp only at hk hI ⊢
    by_cases h:(k:Int)<(d.rows.length:Int)
    ·(have hka:k<(d.rows).length:=by omega);(have w1:=Wp hka (d2));(have i1:(0:Int)≤(k:Int):=by omega)
     have hN:=Ue (d.rows.getD k default).item;have rk:=d4 _ (Zg (d:=default) hka);have hE1:=VJ (Zi l 1) (d.rows.getD k default).l (sl 1) rk.1 (sc 1) rk.2;have gk:=ZB hka;cases hn:Z8 (d.rows.getD k default).item
     ·rw[hn]at hN;have hz:=ZX (p:=YJ l d.rows) hka (by simp only[YJ,hn,Bool.false_and]);simp only[go_sem,h,gk,row,i1];refine vDq ?_;simp only[go_sem,h,gk,row,i1];refine vc1 (hN) ?_;simp only[go_sem,hz]
     ·rw[hn]at hN
      by_cases h0:0<(k:Int)
      ·have hk1:k-1<d.rows.length:=by omega
       have gj:=ZB hk1;have w2:IntKind.i64.wrap ((k:Int)-1)=((k-1:Nat):Int):=by
        rw[Zh]at d2;rw[w64 (by omega)];omega
       have j1:(0:Int)≤((k-1:Nat):Int):=by omega
       have j2:((k-1:Nat):Int)<(d.rows.length:Int):=by omega
       cases hb:Zq (d.rows.getD (k-1) default).item (d.rows.getD k default).item
       ·have hz:=ZX (p:=YJ l d.rows) hka (by simp only[YJ,hb,decide_eq_false (show ¬k=0 by omega),Bool.or_self,Bool.and_false,Bool.false_and]);simp only[go_sem,h,gk,row,i1];refine vDq ?_;simp only[go_sem,h,gk,row,i1];refine vc1 (hN) ?_;simp only[go_sem,h0,w2,gj,gk,row,h,i1,j1,j2,hb,hz]
       ·cases hf:Zk (Zi l 1) (d.rows.getD k default).l
        ·rw[hf]at hE1;have hz:=ZX (p:=YJ l d.rows) hka (by simp only[YJ,hf,Bool.and_false]);simp only[go_sem,h,gk,row,i1];refine vDq ?_;simp only[go_sem,h,gk,row,i1];refine vc1 (hN) ?_;simp only[go_sem,h0,w2,gj,gk,row,h,i1,j1,j2,hb,Zj];refine vc2 (hE1) ?_;simp only[go_sem,hz]
        ·rw[hf]at hE1;have ok:YJ l d.rows k=true:=by simp only[YJ,hn,hb,hf,Bool.or_true,Bool.and_self]
         simp only[go_sem,h,gk,row,i1];refine vDq ?_;simp only[go_sem,h,gk,row,i1];refine vc1 (hN) ?_;simp only[go_sem,h0,w2,gj,gk,row,h,i1,j1,j2,hb,Zj];refine vc2 (hE1) ?_;simp only[go_sem,w1];exact⟨⟨k+1,by(try simp only);omega,Zn hI ok⟩,by show(d.rows).length-(k+1)<(d.rows).length-k;omega,⟨rfl,(Fc5 rfl rfl rfl rfl rfl),(fcs ⟨rfl,rfl⟩ fnl),fnl⟩⟩
      ·have hk0:k=0:=by omega
       cases hf:Zk (Zi l 1) (d.rows.getD k default).l
       ·rw[hf]at hE1;have hz:=ZX (p:=YJ l d.rows) hka (by simp only[YJ,hf,Bool.and_false]);simp only[go_sem,h,gk,row,i1];refine vDq ?_;simp only[go_sem,h,gk,row,i1];refine vc1 (hN) ?_;simp only[go_sem,h0,gk,row,h,i1,Zj];refine vc2 (hE1) ?_;simp only[go_sem,hz]
       ·rw[hf]at hE1;have ok:YJ l d.rows k=true:=by simp only[YJ,hn,decide_eq_true hk0,hf,Bool.true_or,Bool.and_self]
        simp only[go_sem,h,gk,row,i1];refine vDq ?_;simp only[go_sem,h,gk,row,i1];refine vc1 (hN) ?_;simp only[go_sem,h0,gk,row,h,i1,Zj];refine vc2 (hE1) ?_;simp only[go_sem,w1];exact⟨⟨k+1,by(try simp only);omega,Zn hI ok⟩,by show(d.rows).length-(k+1)<(d.rows).length-k;omega,⟨rfl,(Fc5 rfl rfl rfl rfl rfl),(fcs ⟨rfl,rfl⟩ fnl),fnl⟩⟩
    ·have hz:=WR (p:=YJ l d.rows) (n:=d.rows.length) (fun j hj=>hI j (by omega));simp only[go_sem,h,hz]
theorem Yq (l:List Rw):Sized 2 (l.map row):=fun e he=>by
 obtain⟨x,_,rfl⟩:=List.mem_map.1 he;rfl
theorem YP (l:List En) (hl:l.length≤100000) (hl':∀e∈l,e.l.length≤1000000):PL.Pure Try.prog 47 [Zt l] (Zt l):=by
 have hm:l.length≤maxLen:=by rw[Zh];omega
 refine YX Try.func47 rfl Try.ntmps47 Try.results47 (XY _) ?_;simp only[go_sem,Zt];refine Vr 3 16 5 27 rfl rfl ?_;refine ZK (ι:= { x:Nat×(List En) // x.1≤(l).length∧(x.2=l.take x.1) }) 19 (fun x=> [(3,.sl (.row 16) (x.1.2.map ent)),(6,Zt l),(7,.int .i64 (l.length:Int)),(8,.int .i64 (x.1.1:Int))]) (fun x=> []) (fun x=> [(16,.live (x.1.2.length) (5) (27))]) (fun x=>(l).length-x.1.1) ⟨(0,[]),Nat.zero_le _,rfl⟩ ⟨rfl,(Fc4 rfl rfl rfl rfl),fnl,(fcs rfl fnl)⟩ (fun x=>⟨(Fc4 (by simp[PV.ids,ZV]) rfl rfl rfl),fnl⟩) (fun x=> ?_);obtain⟨⟨k,acc⟩,hk,hI⟩:=x;simp only at hk hI ⊢;have hacc:acc.length≤l.length:=by rw[hI];exact DA _ _
 by_cases h:(k:Int)<(l.length:Int)
 ·(have hka:k<(l).length:=by omega);(have w1:=Wp hka (hm));(have i1:(0:Int)≤(k:Int):=by omega)
  have hr:=XC (show acc.length+1≤1000000 by omega) (show 72≤1000 by omega);have hO:=Wk (l.getD k default) (hl' _ (Zg hka));simp only[go_sem,Zt,h,Zo hka,ent,i1];refine vc1 (hO) ?_;simp only[go_sem,ent,UA,hr,w1];exact⟨⟨(k+1,acc++ [l.getD k default]),by(try simp only);omega,by simp only;rw[ZW (d:=default) hka,hI]⟩,by show(l).length-(k+1)<(l).length-k;omega,⟨rfl,(Fc4 (by simp[upd,ent]) rfl rfl rfl),fnl,(fcs (by simp[upd]) fnl)⟩⟩
 ·obtain rfl:k=l.length:=by omega
  rw[List.take_length]at hI;subst hI;simp only[go_sem,h,Zt]
open Go.PL
theorem WI (l:List Rw):Wd (l.map row):=fun e he=>by
 obtain⟨t,_,rfl⟩:=List.mem_map.1 he;rfl
theorem ZiK (r:Rw):(row r).dids= []:=by simp only[row,PV.dids,PV.didsL,Ug,List.append_nil]
theorem ZfL (l:List Rw):PV.didsL (l.map row)= []:=by
 induction l with
 |nil=>rfl
 |cons t l ih=>simp only[List.map_cons,PV.didsL,ih,ZiK,List.append_nil]
theorem TN (d:Dc):(doc d).dids= []:=by simp only[doc,PV.dids,PV.didsL,Ug,ZfL,List.append_nil]
def ZkW (i:Nat) (l:List Rw):Nat→PV
 |0=> .sl .nil []
 |k+1=> .sl (.row i) ((l.take (k+1)).map row)
def ZkX (i:Nat):Nat→List (Nat×Row)
 |0=> []
 |k+1=> [(i,.live (k+1) 2 53)]
theorem Zfg (d:Dc) (h1:d.head.length≤100000) (h2:d.rows.length≤100000) (h3:∀e∈d.head,e.l.length≤1000000) (h4:∀r∈d.rows,r.l.length≤100000∧ ∀e∈r.l,e.l.length≤1000000):PL.Pure Try.prog 18 [doc d] (doc d):=by
 obtain⟨hd,rws⟩:=d;simp only at h1 h2 h3 h4;have hm:rws.length≤maxLen:=by rw[Zh];omega
 have hE:=YP hd h1 h3;refine YX Try.func18 rfl Try.ntmps18 Try.results18 (TN _) ?_;simp only[go_sem,doc];refine vc1 (hE) ?_;simp only[go_sem,Zt];refine ZK (ι:= { k:Nat // k≤rws.length }) 30 (fun x=> [(2,.ptr 2 0),(3,.ptr 3 0),(11,.sl .no (rws.map row)),(12,.int .i64 (rws.length:Int)),(13,.int .i64 (x.1:Int))]) (fun x=> [(2,[.sl .nil [],.sl .nil []],false),(3,[.sl .no (hd.map ent),ZkW 26 rws x.1],false)]) (fun x=>ZkX 26 x.1) (fun x=>rws.length-x.1) ⟨0,Nat.zero_le _⟩
  ⟨rfl,(Fc5 rfl rfl rfl rfl rfl),Fc2 ⟨rfl,rfl⟩ ⟨rfl,rfl⟩,fnl⟩ (fun x=> ?_) (fun x=> ?_)
 ·obtain⟨k,hk⟩:=x;cases k with
  |zero=>exact⟨(Fc5 rfl rfl rfl rfl rfl),Fc2 rfl rfl⟩
  |succ k=>exact⟨(Fc5 rfl rfl rfl rfl rfl),Fc2 rfl (by simp[ZkW,ZkX,PV.ids,PV.idsL,ZV])⟩
 obtain⟨k,hk⟩:=x;simp only
 by_cases h:(k:Int)<(rws.length:Int)
 ·have hka:k<rws.length:=by omega
  have w1:=Wp hka hm;have i1:(0:Int)≤(k:Int):=by omega
  have rk:=h4 _ (Zg (d:=default) hka);have hO:=YP (rws.getD k default).l rk.1 rk.2;have hsn:(rws.take (k+1)).map row=(rws.take k).map row++ [row (rws.getD k default)]:=by rw[ZW (d:=default) hka,List.map_append];rfl
  have hsz:=Yq (rws.take k);have hr0:=XC (show 1≤1000000 by omega) (show 40≤1000 by omega);have hat:=WI [rws.getD k default];have hln:((rws.take k).map row).length=k:=by simp;omega
  cases k with
  |zero=>
   have h':(0:Int)<(rws.length:Int):=by simpa using h
   have g0:=ZB hka;simp only[go_sem,ZkW,ZkX,h',g0,row,i1];refine vDq ?_;simp only[go_sem];refine vc1 (hO) ?_;have w0:IntKind.i64.wrap 1=1:=w64 (by omega);simp only[go_sem,Zt,w1,w0];refine⟨hr0,⟨⟨0+1,by omega⟩,by show rws.length-(0+1)<rws.length-0;omega,⟨rfl,(Fc5 rfl rfl rfl rfl rfl),Fc2 ⟨rfl,rfl⟩ ⟨?_,rfl⟩,fcs rfl fnl⟩⟩⟩;show some [PV.sl .no _,PV.sl (.row 26) _]=some [PV.sl .no _,PV.sl (.row 26) _];rw[hsn];rfl
  |succ k=>
   have hl3:(rws.take (k+1)).length=k+1:=by rw[List.length_take];omega
   have hr:=XC (show k+1+1≤1000000 by omega) (show 40≤1000 by omega);simp only[go_sem,ZkW,ZkX,h,ZB hka,row,i1];refine vDq ?_;simp only[go_sem];refine vc1 (hO) ?_;simp only[go_sem,Zt,w1];refine⟨⟨hl3.symm,Yq _,by rw[hl3];exact hr⟩,⟨⟨k+1+1,by omega⟩,by show rws.length-(k+1+1)<rws.length-(k+1);omega,⟨rfl,(Fc5 rfl rfl rfl rfl rfl),Fc2 ⟨rfl,rfl⟩ ⟨?_,rfl⟩,fcs ?_ fnl⟩⟩⟩
   ·show some [PV.sl .no _,PV.sl (.row 26) _]=some [PV.sl .no _,PV.sl (.row 26) _];rw[hsn];rfl
   ·show some _=some _;rw[hl3]
 ·obtain rfl:k=rws.length:=by omega
  cases rws with
  |nil=>
   have h':¬(0:Int)<0:=by omega
   simp only[go_sem,ZkW,ZkX,h'];rfl
  |cons r rs=>
   have ht:(r::rs).take (rs.length+1)=r::rs:=List.take_length (l:=r::rs);have h':¬((rs.length+1:Nat):Int)<((rs.length+1:Nat):Int):=by omega
   simp only[go_sem,ZkW,ZkX,h',ht];rw[List.take_length];rfl
end Go.Proofs.Ytmnibpgmcgdfpaa
namespace Go.PL
section
variable {s:St} {L:List (Nat×PV)} {b b' d k sz n:Nat} {e:TypeId} {cs cs' es:List PV}
theorem ZdA (h0:s.n=n) (hL:∀x∈L,s.fr x.1=x.2) (hb:s.m.h b=some cs) (hz:s.m.z b=false) (hb':s.m.h b'=some cs') (hz':s.m.z b'=false) (hq:s.m.q d=some (.vec k sz e)) (hv:s.m.v d=some es):HasX n L [(b,cs,false),(b',cs',false)] [(d,.vec k sz e)] [] [] [(d,es)] [] [] [] s:=
 ⟨⟨h0,hL,by simp[hb,hz,hb',hz'],by simp[hq]⟩,by simp,by simp,by simp[hv],by simp,by simp,by simp⟩
theorem Ze9 (hL:∀x∈L,x.2.ids.all (ZV [(b,cs,false),(b',cs',false)] [(d,.vec k sz e)])=true) (hc:(PV.idsL cs).all (ZV [(b,cs,false),(b',cs',false)] [(d,.vec k sz e)])=true) (hc':(PV.idsL cs').all (ZV [(b,cs,false),(b',cs',false)] [(d,.vec k sz e)])=true) (he:PV.idsL es= []):WholeX L [(b,cs,false),(b',cs',false)] [(d,.vec k sz e)] [(d,es)] [] [] []:=
 ⟨⟨hL,by simp only[List.all_eq_true]at hc hc';simp;exact⟨hc,hc'⟩⟩,by simp[he],by simp,by simp,by simp,by simp⟩
end
end Go.PL
namespace Go.Proofs.Ytmnibpgmcgdfpaa
open Go.PL
theorem YQ (r:Rw):(row r).ids= []:=by simp[row,Zt,PV.ids,PV.idsL]
theorem Zhv (d:Dc) (h1:d.head.length≤100000) (h2:d.rows.length≤100000) (h3:∀e∈d.head,e.l.length≤1000000) (h4:∀r∈d.rows,r.l.length≤100000∧ ∀e∈r.l,e.l.length≤1000000):
  Eff Try.prog 18 [doc d] noV (.agg [Zt d.head,.vsl 26 d.rows.length 2]) (D0 26 d.rows.length 2 53 (d.rows.map row)):=by
 obtain⟨hd,rws⟩:=d;simp only at h1 h2 h3 h4;have hcl:∀l:List Rw,∀p∈l.map row,p.ids= []:=fun l=>Yf YQ l
 have hm:rws.length≤maxLen:=by rw[Zh];omega
 have hE:=YP hd h1 h3;refine Eff.vn [26] Try.func18 (by decide) rfl Try.ntmps18 Try.results18 (by simp) (hcl _) (by simp[doc,Zt,PV.ids,PV.idsL]) (by simp[Zt,PV.ids,PV.idsL]) ?_;simp only[go_sem,doc];refine vc1 (hE) ?_;simp only[go_sem,Zt];refine ZfD (Gh.nilVecB (b:=3) (j:=1) (d:=26) (sz:=2) (e:=53) rfl rfl (by simp) rfl rfl) ?_;refine FI (ι:= { k:Nat // k≤rws.length }) 30 (fun x=> [(2,.ptr 2 0),(3,.ptr 3 0),(11,.sl .no (rws.map row)),(12,.int .i64 (rws.length:Int)),(13,.int .i64 (x.1:Int))]) (fun x=> [(2,[.sl .nil [],.sl .nil []],false),(3,[.sl .no (hd.map ent),.vsl 26 x.1 2],false)]) (fun x=> [(26,.vec x.1 2 53)]) (fun _=> []) (fun _=> []) (fun x=> [(26,(rws.take x.1).map row)]) (fun _=> []) [] [] [26] (fun x=>rws.length-x.1) ⟨0,Nat.zero_le _⟩
  (ZdA rfl (Fc5 rfl rfl rfl rfl rfl) rfl rfl rfl rfl rfl rfl) (fun x=>Ze9 (by simp[PV.ids,PV.idsL,ZV]) (by simp[PV.ids,PV.idsL,ZV]) (by simp[PV.ids,PV.idsL,ZV]) (WO YQ _)) (fun x=> ?_)
 obtain⟨k,hk⟩:=x;simp only
 by_cases h:(k:Int)<(rws.length:Int)
 ·have hka:k<rws.length:=by omega
  have w1:=Wp hka hm;have i1:(0:Int)≤(k:Int):=by omega
  have rk:=h4 _ (Zg (d:=default) hka);have hO:=YP (rws.getD k default).l rk.1 rk.2;have hsn:(rws.take (k+1)).map row=(rws.take k).map row++ [row (rws.getD k default)]:=by rw[ZW (d:=default) hka,List.map_append];rfl
  have hln:((rws.take k).map row).length=k:=by simp;omega
  have hrm:=XC (show k+1≤1000000 by omega) (show 40≤1000 by omega);simp only[go_sem,h,ZB hka,row,i1];refine FJ 9 (by kernel_rfl) (by kernel_rfl) fun l1 hl1=> ?_
  simp only[List.take]at hl1;subst hl1;simp only[go_sem];refine vc1 (hO) ?_;simp only[go_sem,Zt];refine Zdc 9 (by kernel_rfl) fun l2 hl2=> ?_
  simp only[List.drop]at hl2;subst hl2;simp only[go_sem,Zt,w1,hln,hrm];refine⟨fun p hp=>by rw[List.mem_singleton.1 hp];exact⟨rfl,rfl⟩,fun p hp=>by rw[List.mem_singleton.1 hp];exact YQ _,fun p hp=> ?_,⟨k+1,by omega⟩,by show rws.length-(k+1)<rws.length-k;omega,ZdA rfl (Fc5 rfl rfl rfl rfl rfl) rfl rfl rfl rfl rfl ?_⟩
  ·rcases List.mem_append.1 hp with hp|hp
   ·rw[hcl _ p hp];simp
   ·rw[List.mem_singleton.1 hp,show(PV.agg [PV.str (rws.getD k default).item,PV.sl Tok.no (List.map ent (rws.getD k default).l)]).ids= []from YQ _];simp
  ·simp only;rw[hsn];rfl
 ·obtain rfl:k=rws.length:=by omega
  simp only[go_sem,h,List.take_length];exact Sx (r0:= .agg [Zt hd,.vsl 26 rws.length 2]) (hcl _) (by simp only[go_sem,YS,Zt]) (.keep _ (by intro i hi;simp[Zt,PV.ids,PV.idsL]at hi;subst hi;exact⟨_,List.mem_singleton.2 rfl,rfl⟩)) rfl rfl
open Go.PL
theorem Xd (a b:En) (ha:a.l.length≤maxLen) (hb:b.l.length≤maxLen):PL.Pure Try.prog 43 [ent a,ent b] (.bool (decide (a=b))):=by
 have hE:=Zd3 a.l b.l ha hb;refine ZO Try.func43 rfl Try.ntmps43 Try.results43 ?_;simp only[go_sem,ent,Zv,List.append_eq,List.cons_append];repeat' ((first|refine Xc (fun h=> ?_) (fun h=> ?_)|refine Xb (fun h=> ?_) (fun h=> ?_)|refine Wb (fun h=> ?_) (fun h=> ?_)|refine vc1 (hE) ?_|refine vDq ?_)<;>first|simp only[go_sem,h,Zv]|simp only[go_sem,Zv]|skip)
 all_goals (clear hE ha hb;(cases a;cases b;simp_all)<;>rfl)
theorem Gw (a b:List En) (ha:a.length≤maxLen) (hb:b.length≤maxLen) (ha':∀e∈a,e.l.length≤maxLen) (hb':∀e∈b,e.l.length≤maxLen):PL.Pure Try.prog 44 [Zt a,Zt b,.fn 43 []] (.bool (decide (a=b))):=by
 by_cases hl:a.length=b.length
 ·have hne:((a.length:Int) !=(b.length:Int))=false:=by simp[hl]
  refine ZO Try.func44 rfl Try.ntmps44 Try.results44 ?_;simp only[go_sem,Zt,hne];refine ZK (ι:= { x:Nat // x≤(a).length∧(∀j,j<x→a.getD j default=b.getD j default) }) 32 (fun x=> [(1,Zt b),(2,.fn 43 []),(15,Zt a),(16,.int .i64 (a.length:Int)),(17,.int .i64 (x.1:Int))]) (fun x=> []) (fun x=> []) (fun x=>(a).length-x.1) ⟨0,Nat.zero_le _,fun j hj=>absurd hj (Nat.not_lt_zero j)⟩ ⟨rfl,(Fc5 rfl rfl rfl rfl rfl),fnl,fnl⟩ (fun x=>⟨(Fc5 rfl rfl rfl rfl rfl),fnl⟩) (fun x=> ?_);obtain⟨k,hk,hI⟩:=x;simp only at hk hI ⊢
  by_cases h:(k:Int)<(a.length:Int)
  ·(have hka:k<(a).length:=by omega);(have w1:=Wp hka (ha));(have i1:(0:Int)≤(k:Int):=by omega)
   have hkb:k<b.length:=by omega
   have h':(k:Int)<(b.length:Int):=by omega
   have hS:=Xd (a.getD k default) (b.getD k default) (ha' _ (Zg hka)) (hb' _ (Zg hkb))
   by_cases he:a.getD k default=b.getD k default
   ·rw[decide_eq_true he]at hS;simp only[go_sem,Zt,Zo hka,Zo hkb,ent,i1,h,h'];refine vc1 (hS) ?_;simp only[go_sem,w1];exact⟨⟨k+1,by(try simp only);omega,Zn hI he⟩,by show(a).length-(k+1)<(a).length-k;omega,⟨rfl,(Fc5 rfl rfl rfl rfl rfl),fnl,fnl⟩⟩
   ·rw[decide_eq_false he]at hS;have hab:¬a=b:=SE he;simp only[go_sem,Zt,Zo hka,Zo hkb,ent,i1,h,h'];refine vc1 (hS) ?_;simp only[go_sem,hab]
  ·have hab:decide (a=b)=true:=decide_eq_true (Vy (d:=default) hl fun j hj=>hI j (by omega));simp only[go_sem,Zt,h,hab]
 ·have hne:((a.length:Int) !=(b.length:Int))=true:=bne_iff_ne.2 (by omega);have hab:¬a=b:=fun e=>hl (by rw[e])
  refine ZO Try.func44 rfl Try.ntmps44 Try.results44 ?_;simp only[go_sem,Zt,hne,hab]
open Go.PL
def Ta (c:Cg):Dc:=⟨[c.was],[⟨[],[c.now]⟩,⟨[],c.l⟩]⟩
def VB (c:Cg):Bool:=Xk 200 c.item||YE (Ta c)
def Zad (l:List Cg):Bool:=decide (200<(l.length:Int))||l.any VB
theorem Zil {c:Cg} (h:FineC c):Vk (Ta c):=by
 have one:∀n:Nat,n≤2→n≤maxLen:=fun n hn=>by rw[Zh];omega
 refine⟨one _ (by simp[Ta]),one _ (by simp[Ta]),fun e he=> ?_,fun r hr=> ?_⟩
 ·simp only[Ta,List.mem_singleton]at he;subst he;exact h.w
 ·simp only[Ta,List.mem_cons,List.mem_nil_iff,or_false]at hr;rcases hr with rfl|rfl
  ·exact⟨one _ (by simp),fun e he=>by simp only[List.mem_singleton]at he;subst he;exact h.n⟩
  ·exact⟨h.l,h.e⟩
theorem ZaF (l:List Cg) (hl:l.length≤maxLen) (hl':∀c∈l,FineC c):PL.Pure Try.prog 10 [Ym l] (.bool (Zad l)):=by
 unfold Zad
 by_cases c1:200<(l.length:Int)
 ·refine ZO Try.func10 rfl Try.ntmps10 Try.results10 ?_;simp only[go_sem,Ym,c1]
 ·refine ZO Try.func10 rfl Try.ntmps10 Try.results10 ?_;simp only[go_sem,Ym,c1];refine ZK (ι:= { x:Nat // x≤(l).length∧(∀j,j<x→VB (l.getD j default)=false) }) 44 (fun x=> [(0,Ym l),(3,.int .i64 (x.1:Int))]) (fun x=> []) (fun x=> []) (fun x=>(l).length-x.1) ⟨0,Nat.zero_le _,fun j hj=>absurd hj (Nat.not_lt_zero j)⟩ ⟨rfl,(Fc2 rfl rfl),fnl,fnl⟩ (fun x=>⟨(Fc2 rfl rfl),fnl⟩) (fun x=> ?_);obtain⟨k,hk,hI⟩:=x;simp only at hk hI ⊢
  by_cases h:(k:Int)<(l.length:Int)
  ·(have hka:k<(l).length:=by omega);(have w1:=Wp hka (hl));(have i1:(0:Int)≤(k:Int):=by omega)
   have hO1:=TD (l.getD k default).was;have hO2:=TD (l.getD k default).now;have hH:=Yh _ (Zil (hl' _ (Zg (d:=default) hka)));simp only[Ta]at hH;generalize hx:l.getD k default=x at *;have hge:=TR hka;rw[hx]at hge
   by_cases c2:200<(x.item.length:Int)
   ·have hz:=Wf (p:=VB) hka (show VB (l.getD k default)=true by rw[hx];unfold VB Xk;rw[decide_eq_true (by omega)];rfl);simp only[go_sem,Ym,h];refine vDq ?_;simp only[go_sem,hge,chg,i1,h,c2,hz]
   ·have hlb:Xk 200 x.item=false:=by unfold Xk;exact decide_eq_false (by omega)
    cases hd:YE ⟨[x.was],[⟨[],[x.now]⟩,⟨[],x.l⟩]⟩
    ·rw[hd]at hH;have hc:VB (l.getD k default)=false:=by rw[hx];unfold VB Ta;rw[hlb,hd];rfl
     simp only[go_sem,Ym,h];refine vDq ?_;simp only[go_sem,hge,chg,i1,h,c2];refine vc1 (hO1) ?_;simp only[go_sem,Zt,hge,chg,i1,h];refine vc1 (hO2) ?_;simp only[go_sem,Zt,hge,chg,i1,h];refine vc1 (hH) ?_;simp only[go_sem,w1];exact⟨⟨k+1,by(try simp only);omega,Zn hI hc⟩,by show(l).length-(k+1)<(l).length-k;omega,⟨rfl,(Fc2 rfl rfl),fnl,fnl⟩⟩
    ·rw[hd]at hH;have hz:=Wf (p:=VB) hka (show VB (l.getD k default)=true by rw[hx];unfold VB Ta;rw[hd,Bool.or_true]);simp only[go_sem,Ym,h];refine vDq ?_;simp only[go_sem,hge,chg,i1,h,c2];refine vc1 (hO1) ?_;simp only[go_sem,Zt,hge,chg,i1,h];refine vc1 (hO2) ?_;simp only[go_sem,Zt,hge,chg,i1,h];refine vc1 (hH) ?_;simp only[go_sem,hz]
  ·have hz:=WF (p:=VB) (d:=default) (l:=l) (fun j hj=>hI j (by omega));simp only[go_sem,Ym,h,hz,c1]
open Go.PL
theorem GV (e:En):(ent e).ids= []:=by simp[ent,PV.ids,PV.idsL]
theorem TA (x:En) (l:List En) (hl:(x::l).length≤100000):
  Eff Try.prog 85 [Zt (x::l)] noV (.vsl 7 (x::l).length 5) (D0 7 (x::l).length 5 27 ((x::l).map ent)):=by
 have hcl:∀l:List En,∀p∈l.map ent,p.ids= []:=fun l=>Yf GV l
 refine Eff.vn [5,7] Try.func85 (by decide) rfl Try.ntmps85 Try.results85 (by simp) (hcl _) (by simp[PV.ids,Zt]) (by simp[PV.ids]) ?_;simp only[go_sem,Zt];have hm:∀p∈ent x::l.map ent,∃y,p=ent y:=fun p hp=>by
  rcases List.mem_cons.1 hp with rfl|hp
  ·exact⟨x,rfl⟩
  ·obtain⟨y,_,rfl⟩:=List.mem_map.1 hp;exact⟨y,rfl⟩
 have hc:∀p∈ent x::l.map ent,p.ids= []:=fun p hp=>by obtain⟨y,rfl⟩:=hm p hp;exact GV y
 have hrm:=XC (show l.length+1≤1000000 by simp only[List.length_cons]at hl;omega) (show 72≤1000 by omega);refine⟨fun p hp=>by obtain⟨y,rfl⟩:=hm p hp;exact⟨rfl,rfl⟩,hc,fun p hp=>by rw[hc p hp];simp,hrm,?_⟩;exact Sx (r0:= .vsl 7 _ 5) hc rfl (.keep _ (by intro i hi;simp[PV.ids]at hi;subst hi;exact⟨_,List.mem_singleton.2 rfl,rfl⟩)) rfl rfl
theorem FM:PL.Pure Try.prog 85 [Zt []] (Zt []):=by
 refine YX Try.func85 rfl Try.ntmps85 Try.results85 (XY _) ?_;simp only[go_sem,Zt];intro b;cases b
 ·simp only[go_sem,Zt];exact Yv (by omega) (by omega)
 ·simp only[go_sem,Zt]
theorem Vo (l:List En) (hl:l.length≤100000) (hl':∀e∈l,e.l.length≤1000000):PL.Pure Try.prog 42 [Zt l] (Zt l):=by
 have hcl:∀l:List En,∀p∈l.map ent,p.ids= []:=fun l=>Yf GV l
 cases l with
 |nil=>
  have hC:=FM;simp only[Zt,List.map_nil]at hC;refine YX Try.func42 rfl Try.ntmps42 Try.results42 (XY _) ?_;simp only[go_sem,Zt];refine vc1 (hC) ?_;simp only[go_sem,Zt];refine ZK (ι:= { x:Nat // x≤(([]:List En)).length }) 21 (fun x=> [(0,.sl .no []),(7,.sl .no []),(8,.int .i64 0),(9,.int .i64 (x.1:Int))]) (fun x=> []) (fun x=> []) (fun x=>(([]:List En)).length-x.1) ⟨0,Nat.zero_le _⟩ ⟨rfl,(Fc4 rfl rfl rfl rfl),fnl,fnl⟩ (fun x=>⟨(Fc4 rfl rfl rfl rfl),fnl⟩) (fun x=> ?_);obtain⟨k,hk⟩:=x;simp only at hk ⊢;have h0:¬(k:Int)<0:=by omega
  simp only[go_sem,h0];simp only[Zt,List.map_nil]
 |cons x l0=>
  have hC:=TA x l0 hl;generalize hA:x::l0=A at *;refine PL.Pure.of_p [] Try.func42 (by decide) rfl Try.ntmps42 Try.results42 (by simp) (XY _) ?_;simp only[go_sem,Zt];refine U1 6 hC (hcl _) (by simp[PV.ids,Zt]) rfl (by simp only[go_sem,Zt]) ?_;simp only[go_sem,PV.ren,id];refine FI (ι:= { k:Nat // k≤A.length }) 21 (fun x=> [(0,.vsl 6 A.length 5),(7,.vsl 6 A.length 5),(8,.int .i64 (A.length:Int)),(9,.int .i64 (x.1:Int))]) (fun _=> []) (fun _=> [(6,.vec A.length 5 27)]) (fun _=> []) (fun _=> []) (fun _=> [(6,A.map ent)]) (fun _=> []) [] [] [] (fun x=>A.length-x.1) ⟨0,Nat.zero_le _⟩
   (SA rfl (Fc4 rfl rfl rfl rfl) rfl rfl) (fun x=>DF (by simp[PV.ids,PV.idsL,ZV]) (WO GV _)) (fun x=> ?_)
  obtain⟨k,hk⟩:=x;simp only
  by_cases h:(k:Int)<(A.length:Int)
  ·have hka:k<A.length:=by omega
   have i0:(0:Int)≤(k:Int):=by omega
   have w1:IntKind.i64.wrap ((k:Int)+1)=((k+1:Nat):Int):=by rw[w64 (by omega)];rfl
   have hO:=YF (A.getD k default) (hl' _ (Zg hka));have hset:(A.map ent).set k (ent (A.getD k default))=A.map ent:=by
    rw[VZ];congr 1;rw[Zb hka];exact List.set_getElem_self hka
   simp only[ent]at hset;simp only[go_sem,h,i0,Zo hka,ent];refine vc1 (hO) ?_;simp only[go_sem,h,i0,Zo hka,ent,hset,w1];exact⟨⟨k+1,by omega⟩,by show A.length-(k+1)<A.length-k;omega,SA rfl (Fc4 rfl rfl rfl rfl) rfl rfl⟩
  ·simp only[go_sem,h];exact⟨_,rfl,Pub.vec0 (by simp) rfl (List.length_map _) (hcl _)⟩
open Go.PL
def Z2 (it:Str) (a b:List En):List Cg:=((List.range a.length).filter fun i=> !decide (a.getD i default=b.getD i default)).map fun i=>⟨1,it,a.getD i default,b.getD i default,[]⟩
def Yt (it:Str) (a b:List En) (k:Nat):List Cg:=((List.range k).filter fun i=> !decide (a.getD i default=b.getD i default)).map fun i=>⟨1,it,a.getD i default,b.getD i default,[]⟩
theorem W9 (it:Str) (a b:List En) (k:Nat):Yt it a b (k+1)=Yt it a b k++(if a.getD k default=b.getD k default then []else [⟨1,it,a.getD k default,b.getD k default,[]⟩]):=by
 unfold Yt;rw[List.range_succ,List.filter_append,List.map_append];congr 1
 by_cases h:a.getD k default=b.getD k default
 ·rw[if_pos h,List.filter_cons_of_neg (by rw[decide_eq_true h];simp)];rfl
 ·rw[if_neg h,List.filter_cons_of_pos (by rw[decide_eq_false h];rfl)];rfl
theorem Tw (it:Str) (a b:List En) (k:Nat):(Yt it a b k).length≤k:=by
 unfold Yt;rw[List.length_map];exact Nat.le_trans (List.length_filter_le _ _) (by simp)
theorem ZcI (it:Str) (a b:List En) (hl:a.length≤100000) (hlb:a.length≤b.length) (ha':∀e∈a,e.l.length≤1000000) (hb':∀e∈b,e.l.length≤1000000):PL.Pure Try.prog 48 [.str it,Zt a,Zt b] (Ym (Z2 it a b)):=by
 have hol:a.length≤maxLen:=by rw[Zh];omega
 have hK:Z2 it a b=Yt it a b a.length:=rfl;rw[hK];refine YX Try.func48 rfl Try.ntmps48 Try.results48 (GQ _) ?_;simp only[go_sem,Zt];refine Vr 7 35 13 30 rfl rfl ?_;refine ZK (ι:= { x:Nat // x≤(a).length }) 38 (fun x=> [(0,.str it),(2,Zt b),(7,.sl (.row 35) ((Yt it a b x.1).map chg)),(10,Zt a),(11,.int .i64 (a.length:Int)),(12,.int .i64 (x.1:Int))]) (fun x=> []) (fun x=> [(35,.live ((Yt it a b x.1).length) (13) (30))]) (fun x=>(a).length-x.1) ⟨0,Nat.zero_le _⟩ ⟨rfl,(Fc6 rfl rfl rfl rfl rfl rfl),fnl,(fcs rfl fnl)⟩ (fun x=>⟨(Fc6 rfl rfl (by simp[PV.ids,ZV]) rfl rfl rfl),fnl⟩) (fun x=> ?_);obtain⟨k,hk⟩:=x;simp only at hk ⊢
 by_cases h:(k:Int)<(a.length:Int)
 ·(have hka:k<(a).length:=by omega);(have w1:=Wp hka (hol));(have i1:(0:Int)≤(k:Int):=by omega)
  have hkb:k<b.length:=by omega
  have h':(k:Int)<(b.length:Int):=by omega
  have hsn:=W9 it a b k;have hkl:=Tw it a b k;have hE:=Xd (a.getD k default) (b.getD k default) (by have:=ha' _ (Zg (d:=default) hka);rw[Zh];omega) (by have:=hb' _ (Zg (d:=default) hkb);rw[Zh];omega);have hO1:=YF (a.getD k default) (ha' _ (Zg hka));have hO2:=YF (b.getD k default) (hb' _ (Zg hkb));have hml:((Yt it a b k).map chg).length=(Yt it a b k).length:=List.length_map _;have hsz:=XA (Yt it a b k);have hrm:=XC (show(Yt it a b k).length+1≤1000000 by omega) (show 192≤1000 by omega)
  by_cases he:a.getD k default=b.getD k default
  ·rw[decide_eq_true he]at hE;rw[if_pos he,List.append_nil]at hsn;simp only[go_sem,Zt,h,Zo hka,Zo hkb,ent,i1,h'];refine vDq ?_;simp only[go_sem,Zt,h,Zo hka,Zo hkb,ent,i1,h'];refine vc1 (hE) ?_;simp only[go_sem,w1];exact⟨⟨k+1,by omega⟩,by show a.length-(k+1)<a.length-k;omega,⟨rfl,by simp only;rw[hsn];exact(Fc6 rfl rfl rfl rfl rfl rfl),fnl,by simp only;rw[hsn];exact fcs rfl fnl⟩⟩
  ·rw[decide_eq_false he]at hE;rw[if_neg he]at hsn;simp only[go_sem,Zt,h,Zo hka,Zo hkb,ent,i1,h'];refine vDq ?_;simp only[go_sem,Zt,h,Zo hka,Zo hkb,ent,i1,h'];refine vc1 (hE) ?_;simp only[go_sem];refine vDq ?_;simp only[go_sem,Zt,h,Zo hka,Zo hkb,ent,i1,h'];refine vc1 (hO1) ?_;simp only[go_sem,Zt,h,Zo hka,Zo hkb,ent,i1,h'];refine vc1 (hO2) ?_;simp only[go_sem,ent,hml,hsz,hrm,Ye,YK,w1];exact⟨⟨k+1,by omega⟩,by show a.length-(k+1)<a.length-k;omega,⟨rfl,by simp only;rw[hsn,List.map_append];exact(Fc6 rfl rfl rfl rfl rfl rfl),fnl,by simp only;rw[hsn,List.length_append];exact fcs rfl fnl⟩⟩
 ·obtain rfl:k=a.length:=by omega
  simp only[go_sem,Ym,h]
open Go.PL
theorem ZeK (it:Str) (a b:List En) (hl:a.length≤100000) (hlb:a.length≤b.length) (ha':∀e∈a,e.l.length≤1000000) (hb':∀e∈b,e.l.length≤1000000):Eff Try.prog 48 [.str it,Zt a,Zt b] noV (.sl (.row 35) ((Z2 it a b).map chg)) (Go.PL.rowN 35 (Z2 it a b).length 13 30):=by
 have hol:a.length≤maxLen:=by rw[Zh];omega
 have hK:Z2 it a b=Yt it a b a.length:=rfl;rw[hK];refine Eff.rn [] Try.func48 (by decide) rfl Try.ntmps48 Try.results48 (by simp) (by simp[PV.ids,Zt]) (by simp[PV.ids]) ?_;simp only[go_sem,Zt];refine Vr 7 35 13 30 rfl rfl ?_;refine ZK (ι:= { x:Nat // x≤(a).length }) 38 (fun x=> [(0,.str it),(2,Zt b),(7,.sl (.row 35) ((Yt it a b x.1).map chg)),(10,Zt a),(11,.int .i64 (a.length:Int)),(12,.int .i64 (x.1:Int))]) (fun x=> []) (fun x=> [(35,.live ((Yt it a b x.1).length) (13) (30))]) (fun x=>(a).length-x.1) ⟨0,Nat.zero_le _⟩ ⟨rfl,(Fc6 rfl rfl rfl rfl rfl rfl),fnl,(fcs rfl fnl)⟩ (fun x=>⟨(Fc6 rfl rfl (by simp[PV.ids,ZV]) rfl rfl rfl),fnl⟩) (fun x=> ?_);obtain⟨k,hk⟩:=x;simp only at hk ⊢
 by_cases h:(k:Int)<(a.length:Int)
 ·(have hka:k<(a).length:=by omega);(have w1:=Wp hka (hol));(have i1:(0:Int)≤(k:Int):=by omega)
  have hkb:k<b.length:=by omega
  have h':(k:Int)<(b.length:Int):=by omega
  have hsn:=W9 it a b k;have hkl:=Tw it a b k;have hE:=Xd (a.getD k default) (b.getD k default) (by have:=ha' _ (Zg (d:=default) hka);rw[Zh];omega) (by have:=hb' _ (Zg (d:=default) hkb);rw[Zh];omega);have hO1:=YF (a.getD k default) (ha' _ (Zg hka));have hO2:=YF (b.getD k default) (hb' _ (Zg hkb));have hml:((Yt it a b k).map chg).length=(Yt it a b k).length:=List.length_map _;have hsz:=XA (Yt it a b k);have hrm:=XC (show(Yt it a b k).length+1≤1000000 by omega) (show 192≤1000 by omega)
  by_cases he:a.getD k default=b.getD k default
  ·rw[decide_eq_true he]at hE;rw[if_pos he,List.append_nil]at hsn;simp only[go_sem,Zt,h,Zo hka,Zo hkb,ent,i1,h'];refine vDq ?_;simp only[go_sem,Zt,h,Zo hka,Zo hkb,ent,i1,h'];refine vc1 (hE) ?_;simp only[go_sem,w1];exact⟨⟨k+1,by omega⟩,by show a.length-(k+1)<a.length-k;omega,⟨rfl,by simp only;rw[hsn];exact(Fc6 rfl rfl rfl rfl rfl rfl),fnl,by simp only;rw[hsn];exact fcs rfl fnl⟩⟩
  ·rw[decide_eq_false he]at hE;rw[if_neg he]at hsn;simp only[go_sem,Zt,h,Zo hka,Zo hkb,ent,i1,h'];refine vDq ?_;simp only[go_sem,Zt,h,Zo hka,Zo hkb,ent,i1,h'];refine vc1 (hE) ?_;simp only[go_sem];refine vDq ?_;simp only[go_sem,Zt,h,Zo hka,Zo hkb,ent,i1,h'];refine vc1 (hO1) ?_;simp only[go_sem,Zt,h,Zo hka,Zo hkb,ent,i1,h'];refine vc1 (hO2) ?_;simp only[go_sem,ent,hml,hsz,hrm,Ye,YK,w1];exact⟨⟨k+1,by omega⟩,by show a.length-(k+1)<a.length-k;omega,⟨rfl,by simp only;rw[hsn,List.map_append];exact(Fc6 rfl rfl rfl rfl rfl rfl),fnl,by simp only;rw[hsn,List.length_append];exact fcs rfl fnl⟩⟩
 ·obtain rfl:k=a.length:=by omega
  simp only[go_sem,Ym,h];exact ZjR (r0:= .sl (.row 35) _) rfl (.keep _ (by intro i hi;simp[PV.ids]at hi;subst hi;exact⟨_,List.mem_singleton.2 rfl,rfl⟩)) rfl
open Go.PL
def Zaz (r:Rw):Cg:=⟨3,r.item,default,default,r.l⟩
def S5 (r:Rw):Cg:=⟨2,r.item,default,default,r.l⟩
def Yg:List Rw→List Rw→List Cg
 | [],[]=> []
 |p::ps,[]=>Zaz p::Yg ps []
 | [],q::qs=>S5 q::Yg [] qs
 |p::ps,q::qs=>if Zq p.item q.item=true then Zaz p::Yg ps (q::qs)else if Zq q.item p.item=true then S5 q::Yg (p::ps) qs else Z2 q.item p.l q.l++Yg ps qs
termination_by a b=>a.length+b.length
def DM (l:List Fd) (a b:Dc):List Cg×Int:=if Zl l a=false∨Zl l b=false then([],5)else(Z2 [] a.head b.head++Yg a.rows b.rows,0)
structure DiS (p q:List Rw) (h0:List Cg) where
 i:Nat
 j:Nat
 acc:List Cg
 row:Nat
 hi:i≤p.length
 hj:j≤q.length
 hl:acc.length≤h0.length+16*(i+j)
 h:acc++Yg (p.drop i) (q.drop j)=h0++Yg p q
open Go.PL Go.RowKit
theorem D3 (l:List En) (e:En) (k:Nat) (hl:l.length≤100000) (hk:k<l.length) (hi:idx (fun x=>decide (x.at'=e.at')) l=(k:Int)):PL.Pure Try.prog 78 [Zt l,ent e] (Zt (l.set k e)):=by
 have hA:=Ui l e.at' (by rw[Zh];omega);rw[hi]at hA;have hcl:∀l:List En,∀p∈l.map ent,p.ids= []:=fun l=>Yf GV l
 have hrm:=Yv (show l.length≤100000000000 by omega) (show 72≤1000 by omega);have i0:(0:Int)≤(k:Int):=by omega
 have iz:(k:Int)<(l.length:Int):=by omega
 have hset:(l.map ent).set k (ent e)=(l.set k e).map ent:=VZ;refine PL.Pure.of_p [6,8] Try.func78 (by decide) rfl Try.ntmps78 Try.results78 (by simp) (XY _) ?_;simp only[go_sem,Zt,ent];refine⟨fun p hp=>by obtain⟨x,_,rfl⟩:=List.mem_map.1 hp;exact⟨rfl,rfl⟩,hcl _,fun p hp=>by rw[hcl _ p hp];simp,hrm,?_⟩;refine FJ 6 (by kernel_rfl) (by kernel_rfl) fun l1 hl1=> ?_
 simp only[List.take]at hl1;subst hl1;simp only[go_sem];refine vc1 (hA) ?_;simp only[go_sem];refine Zdc 6 (by kernel_rfl) fun l2 hl2=> ?_
 simp only[List.drop]at hl2;subst hl2;simp only[ent]at hset;simp only[go_sem,i0,iz,Zo hk,ent,hset];exact⟨_,rfl,Pub.vec0 (by simp) rfl (by simp) (hcl _)⟩
open Go.PL Go.RowKit
theorem Yn (e:En):(ent e).ids= []:=by simp[ent,PV.ids,PV.idsL]
theorem U8 (l:List En) (hl:l.length≤100000) (hl':∀e∈l,e.l.length≤1000000):
  Eff Try.prog 47 [Zt l] noV (.vsl 16 l.length 5) (D0 16 l.length 5 27 (l.map ent)):=by
 have hcl:∀l:List En,∀p∈l.map ent,p.ids= []:=fun l=>Yf Yn l
 have hm:l.length≤maxLen:=by rw[Zh];omega
 refine Eff.vn [16] Try.func47 (by decide) rfl Try.ntmps47 Try.results47 (by simp) (hcl _) (by simp[PV.ids,Zt]) (by simp[PV.ids]) ?_;simp only[go_sem,Zt];refine Zel 3 16 5 27 rfl rfl ?_;refine FI (ι:= { k:Nat // k≤l.length }) 19 (fun x=> [(3,.vsl 16 x.1 5),(6,.sl .no (l.map ent)),(7,.int .i64 (l.length:Int)),(8,.int .i64 (x.1:Int))]) (fun _=> []) (fun x=> [(16,.vec x.1 5 27)]) (fun _=> []) (fun _=> []) (fun x=> [(16,(l.take x.1).map ent)]) (fun _=> []) [] [] [16] (fun x=>l.length-x.1) ⟨0,Nat.zero_le _⟩
  (SA rfl (Fc4 rfl rfl rfl rfl) rfl rfl) (fun x=>DF (by simp[PV.ids,PV.idsL,ZV]) (WO Yn _)) (fun x=> ?_)
 obtain⟨k,hk⟩:=x;simp only
 by_cases h:(k:Int)<(l.length:Int)
 ·have hka:k<l.length:=by omega
  have w1:=Wp hka hm;have i1:(0:Int)≤(k:Int):=by omega
  have hO:=Wk (l.getD k default) (hl' _ (Zg hka));have hsn:(l.take (k+1)).map ent=(l.take k).map ent++ [ent (l.getD k default)]:=by rw[ZW (d:=default) hka,List.map_append];rfl
  have hln:((l.take k).map ent).length=k:=by simp;omega
  have hrm:=XC (show k+1≤1000000 by omega) (show 72≤1000 by omega);simp only[go_sem,h,Zo hka,ent,i1];refine vc1 (hO) ?_;simp only[go_sem,ent,w1,hln,hrm];refine⟨fun p hp=>by rw[List.mem_singleton.1 hp];exact⟨rfl,rfl⟩,fun p hp=>by rw[List.mem_singleton.1 hp];exact Yn _,fun p hp=> ?_,⟨k+1,by omega⟩,by show l.length-(k+1)<l.length-k;omega,SA rfl (Fc4 rfl rfl rfl rfl) rfl ?_⟩
  ·rcases List.mem_append.1 hp with hp|hp
   ·rw[hcl _ p hp];simp
   ·rw[List.mem_singleton.1 hp,show(PV.agg [PV.int IntKind.i64 (l.getD k default).at'.sc,PV.str (l.getD k default).at'.gr,PV.str (l.getD k default).at'.nm,PV.int IntKind.i64 (l.getD k default).n,PV.sl Tok.no (List.map PV.str (l.getD k default).l)]).ids= []from Yn _];simp
  ·simp only;rw[hsn];rfl
 ·obtain rfl:k=l.length:=by omega
  simp only[go_sem,h,List.take_length];exact Sx (r0:= .vsl 16 l.length 5) (hcl _) rfl (.keep _ (by intro i hi;simp[PV.ids]at hi;subst hi;exact⟨_,List.mem_singleton.2 rfl,rfl⟩)) rfl rfl
end Go.Proofs.Ytmnibpgmcgdfpaa
namespace Go.PL
section
variable {s:St} {L:List (Nat×PV)} {b b' d d2 k k2 sz sz2 n:Nat} {e e2:TypeId} {cs cs' es es2:List PV}
theorem Zf3 (h0:s.n=n) (hL:∀x∈L,s.fr x.1=x.2) (hb:s.m.h b=some cs) (hz:s.m.z b=false) (hb':s.m.h b'=some cs') (hz':s.m.z b'=false) (hq:s.m.q d=some (.vec k sz e)) (hv:s.m.v d=some es) (hq2:s.m.q d2=some (.vec k2 sz2 e2)) (hv2:s.m.v d2=some es2):HasX n L [(b,cs,false),(b',cs',false)] [(d,.vec k sz e),(d2,.vec k2 sz2 e2)] [] [] [(d,es),(d2,es2)] [] [] [] s:=
 ⟨⟨h0,hL,by simp[hb,hz,hb',hz'],by simp[hq,hq2]⟩,by simp,by simp,by simp[hv,hv2],by simp,by simp,by simp⟩
end
end Go.PL
namespace Go.Proofs.Ytmnibpgmcgdfpaa
open Go.PL Go.RowKit
theorem Za2 (l:List En):PV.didsL (l.map ent)= []:=by
 induction l with
 |nil=>rfl
 |cons e l ih=>simp only[List.map_cons,PV.didsL,Xn,ih,List.append_nil]
open Go.PL
def ZaA (e:En):PV:= .agg [.int .i64 e.at'.sc,.str e.at'.gr,.str e.at'.nm,.int .i64 e.n,PV.frl (e.l.map .str)]
def Zn4 (c:Cg):PV:= .agg [.int .i64 c.kind,.str c.item,.int .i64 c.was.at'.sc,.str c.was.at'.gr,.str c.was.at'.nm,.int .i64 c.was.n,PV.frl (c.was.l.map .str),.int .i64 c.now.at'.sc,.str c.now.at'.gr,.str c.now.at'.nm,.int .i64 c.now.n,PV.frl (c.now.l.map .str),PV.frl (c.l.map ZaA)]
theorem Zia (e:En):(ZaA e).ids= []:=by simp[ZaA,PV.ids,PV.idsL,ZfZ]
theorem GU (e:En):(ZaA e).dids= []:=by simp only[ZaA,PV.dids,PV.didsL,Zdw,Vw,List.append_nil]
end Go.Proofs.Ytmnibpgmcgdfpaa
namespace Go.PL
open Go.RowKit
end Go.PL
namespace Go.Proofs.Ytmnibpgmcgdfpaa
open Go.PL Go.RowKit
open Go.PL
open Go.PL Go.RowKit
theorem Zhw (x:En) (l0:List En) (hl:(x::l0).length≤100000) (hl':∀e∈x::l0,e.l.length≤1000000):Eff Try.prog 42 [Zt (x::l0)] noV (.vsl 6 (x::l0).length 5) (D0 6 (x::l0).length 5 27 ((x::l0).map ent)):=by
 have hcl:∀l:List En,∀p∈l.map ent,p.ids= []:=fun l=>Yf Yn l
 have hC:=TA x l0 hl;generalize hA:x::l0=A at *;refine Eff.vn [] Try.func42 (by decide) rfl Try.ntmps42 Try.results42 (by simp) (hcl _) (by simp[PV.ids,Zt]) (by simp[PV.ids]) ?_;simp only[go_sem,Zt];refine U1 6 hC (hcl _) (by simp[PV.ids,Zt]) rfl (by simp only[go_sem,Zt]) ?_;simp only[go_sem,PV.ren,id];refine FI (ι:= { k:Nat // k≤A.length }) 21 (fun x=> [(0,.vsl 6 A.length 5),(7,.vsl 6 A.length 5),(8,.int .i64 (A.length:Int)),(9,.int .i64 (x.1:Int))]) (fun _=> []) (fun _=> [(6,.vec A.length 5 27)]) (fun _=> []) (fun _=> []) (fun _=> [(6,A.map ent)]) (fun _=> []) [] [] [] (fun x=>A.length-x.1) ⟨0,Nat.zero_le _⟩
  (SA rfl (Fc4 rfl rfl rfl rfl) rfl rfl) (fun x=>DF (by simp[PV.ids,PV.idsL,ZV]) (WO Yn _)) (fun x=> ?_)
 obtain⟨k,hk⟩:=x;simp only
 by_cases h:(k:Int)<(A.length:Int)
 ·have hka:k<A.length:=by omega
  have i0:(0:Int)≤(k:Int):=by omega
  have w1:IntKind.i64.wrap ((k:Int)+1)=((k+1:Nat):Int):=by rw[w64 (by omega)];rfl
  have hO:=YF (A.getD k default) (hl' _ (Zg hka));have hset:(A.map ent).set k (ent (A.getD k default))=A.map ent:=by
   rw[VZ];congr 1;rw[Zb hka];exact List.set_getElem_self hka
  simp only[ent]at hset;simp only[go_sem,h,i0,Zo hka,ent];refine vc1 (hO) ?_;simp only[go_sem,h,i0,Zo hka,ent,hset,w1];exact⟨⟨k+1,by omega⟩,by show A.length-(k+1)<A.length-k;omega,SA rfl (Fc4 rfl rfl rfl rfl) rfl rfl⟩
 ·simp only[go_sem,h];exact Sx (r0:= .vsl 6 A.length 5) (hcl _) rfl (.keep _ (by intro i hi;simp[PV.ids]at hi;subst hi;exact⟨_,List.mem_singleton.2 rfl,rfl⟩)) rfl rfl
open Go.PL
open Go.ChangeShapes Go.WideShapes Go.ChangeAt Go.RowKit
theorem Zly:ZaC Try.prog 37=false:=by kernel_rfl
theorem Zj8:ZaC Try.prog 28=false:=by kernel_rfl
theorem Zj9:ZaC Try.prog 38=false:=by kernel_rfl
theorem ZlB {p:PV} (h:PA Try.prog 76 p):∃f:Fd,p=fld f∧f.cases'.length≤maxLen:=by
 obtain⟨cs,rfl,h1⟩:=PA.agg Zkm h;obtain⟨f,rfl,hf⟩:=ZlD h1;exact⟨f,rfl,hf⟩
theorem Zgx {p:PV} (h:PA Try.prog 37 p):∃l:List Fd,p=Zj l∧l.length≤maxLen∧ ∀f∈l,f.cases'.length≤maxLen:=by
 obtain⟨l,rfl,h1,h2⟩:=h.slice Zly Try.underlying37;obtain⟨xs,rfl,h3⟩:=UG (fun p hp=>ZlB (h2 p hp));exact⟨xs,rfl,by simpa using h1,h3⟩
theorem ZlA {p:PV} (h:PA Try.prog 27 p):∃e:En,p=ent e∧e.l.length≤maxLen:=by
 obtain⟨cs,rfl,h1⟩:=PA.agg Zki h;have h1:PTs Try.prog [24,2,25] cs:=h1.struct_inv Try.underlying27;obtain⟨a,b,rfl,h2,h3⟩:=h1.cons_inv;obtain⟨c,d,rfl,h4,h5⟩:=h3.cons_inv;obtain⟨e,f,rfl,h6,h7⟩:=h5.cons_inv;obtain⟨r,rfl⟩:=Zgz h2;obtain⟨n,rfl,_⟩:=h4.int_inv Try.underlying2;obtain⟨l,rfl,hl⟩:=ZcK h6;rw[h7.nil_inv];exact⟨⟨r,n,l⟩,rfl,hl⟩
theorem ZcJ {cs:List PV} (h:PT Try.prog 28 cs):∃l:List En,cs= [.sl .no (l.map ent)]∧l.length≤maxLen∧ ∀e∈l,e.l.length≤maxLen:=by
 obtain⟨l,rfl,h1,h2⟩:=h.slice_inv Zj8 Try.underlying28;obtain⟨xs,rfl,h3⟩:=UG (fun p hp=>ZlA (h2 p hp));exact⟨xs,rfl,by simpa using h1,h3⟩
theorem ZlC {p:PV} (h:PA Try.prog 53 p):∃r:Rw,p=row r∧r.l.length≤maxLen∧ ∀e∈r.l,e.l.length≤maxLen:=by
 obtain⟨cs,rfl,h1⟩:=PA.agg Zkl h;have h1:PTs Try.prog [9,28] cs:=h1.struct_inv Try.underlying53;obtain⟨a,b,rfl,h2,h3⟩:=h1.cons_inv;obtain⟨c,d,rfl,h4,h5⟩:=h3.cons_inv;obtain⟨s,rfl,_⟩:=h2.string_inv Try.underlying9;obtain⟨l,rfl,hl⟩:=ZcJ h4;rw[h5.nil_inv];exact⟨⟨s,l⟩,rfl,hl⟩
theorem Zgw {p:PV} (h:PA Try.prog 40 p):∃d:Dc,p=doc d∧Vk d:=by
 obtain⟨cs,rfl,h1⟩:=PA.agg Zkk h;have h1:PTs Try.prog [28,38] cs:=h1.struct_inv Try.underlying40;obtain⟨a,b,rfl,h2,h3⟩:=h1.cons_inv;obtain⟨c,d,rfl,h4,h5⟩:=h3.cons_inv;obtain⟨l,rfl,hl⟩:=ZcJ h2;obtain⟨m,rfl,h6,h7⟩:=h4.slice_inv Zj9 Try.underlying38;obtain⟨xs,rfl,h8⟩:=UG (fun p hp=>ZlC (h7 p hp));rw[h5.nil_inv];exact⟨⟨l,xs⟩,rfl,hl.1,by simpa using h6,hl.2,h8⟩
open Go.PL
open Go.ChangeShapes Go.WideShapes Go.ChangeAt Go.RowKit
theorem Zj7:ZaC Try.prog 22=false:=by kernel_rfl
theorem Zjk {cs:List PV} (h:PT Try.prog 27 cs):∃e:En,cs= [.int .i64 e.at'.sc,.str e.at'.gr,.str e.at'.nm,.int .i64 e.n,.sl .no (e.l.map .str)]∧e.l.length≤maxLen:=by
 have h1:PTs Try.prog [24,2,25] cs:=h.struct_inv Try.underlying27;obtain⟨a,b,rfl,h2,h3⟩:=h1.cons_inv;obtain⟨c,d,rfl,h4,h5⟩:=h3.cons_inv;obtain⟨e,f,rfl,h6,h7⟩:=h5.cons_inv;obtain⟨r,rfl⟩:=Zgz h2;obtain⟨n,rfl,_⟩:=h4.int_inv Try.underlying2;obtain⟨l,rfl,hl⟩:=ZcK h6;rw[h7.nil_inv];exact⟨⟨r,n,l⟩,rfl,hl⟩
theorem Zlz {p:PV} (h:PA Try.prog 30 p):∃c:Cg,p=chg c∧FineC c:=by
 obtain⟨cs,rfl,h1⟩:=PA.agg Zkj h;have h1:PTs Try.prog [3,9,27,27,28] cs:=h1.struct_inv Try.underlying30;obtain⟨a1,b1,rfl,h2,h3⟩:=h1.cons_inv;obtain⟨a2,b2,rfl,h4,h5⟩:=h3.cons_inv;obtain⟨a3,b3,rfl,h6,h7⟩:=h5.cons_inv;obtain⟨a4,b4,rfl,h8,h9⟩:=h7.cons_inv;obtain⟨a5,b5,rfl,h10,h11⟩:=h9.cons_inv;obtain⟨x1,rfl,_⟩:=h2.int_inv Try.underlying3;obtain⟨x2,rfl,_⟩:=h4.string_inv Try.underlying9;obtain⟨x3,rfl,k3⟩:=Zjk h6;obtain⟨x4,rfl,k4⟩:=Zjk h8;obtain⟨x5,rfl,k5,q5⟩:=ZcJ h10;rw[h11.nil_inv];exact⟨⟨x1,x2,x3,x4,x5⟩,rfl,⟨k3,k4,k5,q5⟩⟩
theorem Zkd {p:PV} (h:PA Try.prog 22 p):∃l:List Cg,p=Ym l∧l.length≤maxLen∧ ∀c∈l,FineC c:=by
 obtain⟨l,rfl,h1,h2⟩:=h.slice Zj7 Try.underlying22;obtain⟨xs,rfl,h3⟩:=UG (fun p hp=>Zlz (h2 p hp));exact⟨xs,rfl,by simpa using h1,h3⟩
end Go.Proofs.Ytmnibpgmcgdfpaa
