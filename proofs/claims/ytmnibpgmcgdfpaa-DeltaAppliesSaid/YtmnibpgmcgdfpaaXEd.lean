/- Contracts of functions and laws of this seat, each for every input that it names: lemmas of the proof. -/
import Derived.Test.YtmnibpgmcgdfpaaPlM
import Derived.Test.YtmnibpgmcgdfpaaXAa
import Derived.Test.YtmnibpgmcgdfpaaXAd
import Derived.Test.YtmnibpgmcgdfpaaXAn
import Derived.Test.YtmnibpgmcgdfpaaXBl
import Derived.Test.YtmnibpgmcgdfpaaXCb
import Derived.Test.YtmnibpgmcgdfpaaXCc
import Derived.Test.YtmnibpgmcgdfpaaXCy
import Derived.Test.YtmnibpgmcgdfpaaXDd
import Derived.Test.YtmnibpgmcgdfpaaXDf
namespace Go.Proofs.Ytmnibpgmcgdfpaa
set_option maxHeartbeats 64000000
set_option maxRecDepth 20000
set_option linter.unusedVariables false
set_option linter.unusedSimpArgs false
open Go.PL Go.RowKit
theorem Zib {m:Hp} {x:Nat} {a b:List En} (hv:m.v x=some (a.map ent)) (ha:a.length≤maxLen) (hb:b.length≤maxLen) (ha':∀e∈a,e.l.length≤maxLen) (hb':∀e∈b,e.l.length≤maxLen):
  CallS Try.prog 44 [.vsl x a.length 5,.sl .no (b.map ent),.fn 43 []] m (.bool (decide (a=b))) m:=
 CallS.lend (Gw a b ha hb ha' hb') rfl (fun i hi=>by
  match i,hi with
  |0,_=>exact Pub.vec0 (by simp) hv (List.length_map _) (Yf Yn _)
  |1,_=>exact .clean rfl
  |2,_=>exact .clean rfl) (by simp[Zt,PV.ids,PV.idsL]) (fun p hp=>by
  simp only[List.mem_cons,List.not_mem_nil,or_false]at hp;rcases hp with rfl|rfl|rfl
  ·simp[Zt,PV.nofr,X0]
  ·simp[Zt,PV.nofr,X0]
  ·rfl) rfl
theorem Zlm {m:Hp} (b:List En) (hb:b.length≤maxLen) (hb':∀e∈b,e.l.length≤maxLen):
  CallS Try.prog 44 [.sl .no [],.sl .no (b.map ent),.fn 43 []] m (.bool (decide (([]:List En)=b))) m:=
 CallS.lend (Gw [] b (Nat.zero_le _) hb (fun e he=>by cases he) hb') rfl (fun i hi=>by
  match i,hi with
  |0,_=>exact .clean rfl
  |1,_=>exact .clean rfl
  |2,_=>exact .clean rfl) (by simp[Zt,PV.ids,PV.idsL]) (fun p hp=>by
  simp only[List.mem_cons,List.not_mem_nil,or_false]at hp;rcases hp with rfl|rfl|rfl
  ·rfl
  ·simp[Zt,PV.nofr,X0]
  ·rfl) rfl
def Zh0 (x:Nat) (r:Rw):PV:=if r.l.length=0 then .sl .no []else .vsl x r.l.length 5
theorem Zdq {m:Hp} {x:Nat} {r:Rw} {b:List En} (hv:r.l.length≠0→m.v x=some (r.l.map ent)) (ha:r.l.length≤maxLen) (hb:b.length≤maxLen) (ha':∀e∈r.l,e.l.length≤maxLen) (hb':∀e∈b,e.l.length≤maxLen):
  CallS Try.prog 44 [Zh0 x r,.sl .no (b.map ent),.fn 43 []] m (.bool (decide (r.l=b))) m:=by
 unfold Zh0
 by_cases h:r.l.length=0
 ·rw[if_pos h,List.eq_nil_of_length_eq_zero h];exact Zlm b hb hb'
 ·rw[if_neg h];exact Zib (hv h) ha hb ha' hb'
theorem ZjG (ns:List Nat) (d:Dc) (c:Cg) (hl:ns.length=d.rows.length) (hn:ns.Nodup) (h0:∀x∈ns,10000≤x) (hf:Vk d) (hc:FineC c) (hk:Z9 d.rows c.item=true) (hi:Zm d.rows c.item<d.rows.length) (he:(d.rows.getD (Zm d.rows c.item) default).l≠c.l):
  Eff Try.prog 81 [.ptr 1000 0,chg c] (VN ns d) (.int .i64 11) (VN ns d):=by
 have hr:d.rows.length≤maxLen:=hf.2.1;have hrl:=hf.2.2.2 _ (Zg (d:=default) hi);have hat:(ZA ns d.rows).getD (Zm d.rows c.item) .any= .agg [.str (d.rows.getD (Zm d.rows c.item) default).item,Zh0 (ns.getD (Zm d.rows c.item) 0) (d.rows.getD (Zm d.rows c.item) default)]:=UX hl hi;have hln:=WT hl;have hvm:=TO (ns:=ns) hl hi;have hdf:decide ((d.rows.getD (Zm d.rows c.item) default).l=c.l)=false:=decide_eq_false he;have hrow:∀ {m:Hp},DocIn m 1000 3001 ns d→CallS Try.prog 111 [.ptr 1000 0,.str c.item] m (.tup [.int .i64 ((Zm d.rows c.item:Nat):Int),.bool true]) m:=fun h=>by
  have:=h.row_s c.item hr;rwa[hk]at this
 generalize Zm d.rows c.item=i at *;have i0:(0:Int)≤(i:Int):=by omega
 have iz:(i:Int)<(d.rows.length:Int):=by omega
 refine Eff.of_v [] Try.func81 (by decide) rfl Try.ntmps81 Try.results81 (by simp) (ZR hl hn h0) (ZR hl hn h0) (by simp[chg,PV.ids,PV.idsL,MemL.has]) (by simp[PV.ids]) (fun x hx=>⟨x,hx,rfl⟩) (fun x hx=>⟨x,hx,rfl,Row.compat_refl _⟩) fun ph pq=> ?_
 simp only[go_sem,chg,XK,U4];refine XP (hrow (YU hl hn h0 rfl rfl rfl)) ?_;simp only[go_sem];refine W0 [0,1,2,3,4,5,6,7,8,9] 10 11 [] 11 (by kernel_rfl) (by kernel_rfl) fun l1 hl1=> ?_
 simp only[List.filterMap,List.getElem?_cons_zero,List.getElem?_cons_succ]at hl1;subst hl1;simp only[go_sem,i0,iz,hln,hat];refine Wn rfl rfl rfl rfl (show(26:Nat)<39 by omega) rfl (fun m hm=>Zdq (fun h00=> ?_) hrl.1 hc.l hrl.2 hc.e) rfl ?_
 ·rw[hm.v];show upd (upd _ 3000 _) 3001 _ _=_;have hb:=h0 _ (ZL (hvm h00)).1;rw[Zc _ _ (by simp only at hb;omega),Zc _ _ (by simp only at hb;omega)];exact Xp hn (hvm h00)
 refine WZ fun l2 hl2=> ?_
 simp only[List.filterMap]at hl2;subst hl2;simp only[go_sem];refine UD _ 11 (by kernel_rfl) fun l2 hl2=> ?_
 simp only[List.drop]at hl2;subst hl2;simp only[go_sem,hdf];exact XU hl hn h0 (by simp only[go_sem,YS]) rfl rfl rfl (Xa hl hn h0) (XS hl hn h0) rfl (YB hl hn h0)
open Go.PL Go.RowKit
abbrev Zdo (n':Nat) (es:List PV) (hd:List En) (ns:List Nat) (rs:List Rw):MemL:=⟨[(1000,[.vsl 3000 hd.length 5,.vsl 3002 n' 2])],(3002,.vec n' 2 53)::(3001,.dead)::(3000,.vec hd.length 5 27)::U5 ns rs,(3002,es)::(3000,hd.map ent)::Se ns rs⟩
theorem Uh {n':Nat} {es:List PV} {hd:List En} {ns:List Nat} {rs:List Rw} (hl:ns.length=rs.length) (hn:ns.Nodup) (h0:∀x∈ns,10000≤x) (he:∀p∈es,∀j∈p.ids,∃x∈Uo ns rs,j= .r x):(Zdo n' es hd ns rs).Ok:=by
 have nm:(Zdo n' es hd ns rs).R.map (·.1)=3002::3001::3000::Uo ns rs:=by simp only[List.map_cons,YG]
 have nv:(Zdo n' es hd ns rs).V.map (·.1)=3002::3000::Uo ns rs:=by simp only[List.map_cons,Ww]
 have lo:∀i,i<10000→i∉Uo ns rs:=fun i hi h=>by have:=h0 _ (XW h);omega
 have hn:=Wx rs hn;have nd:(3002::3001::3000::Uo ns rs).Nodup:=by
  refine List.nodup_cons.2 ⟨fun h=> ?_,List.nodup_cons.2 ⟨fun h=> ?_,List.nodup_cons.2 ⟨lo _ (by omega),hn⟩⟩⟩
  ·rcases List.mem_cons.1 h with h|h
   ·omega
   ·rcases List.mem_cons.1 h with h|h
    ·omega
    ·exact lo _ (by omega) h
  ·rcases List.mem_cons.1 h with h|h
   ·omega
   ·exact lo _ (by omega) h
 have nd2:(3002::3000::Uo ns rs).Nodup:=by
  refine List.nodup_cons.2 ⟨fun h=> ?_,List.nodup_cons.2 ⟨lo _ (by omega),hn⟩⟩;rcases List.mem_cons.1 h with h|h
  ·omega
  ·exact lo _ (by omega) h
 have has:∀i∈3002::3001::3000::Uo ns rs,(Zdo n' es hd ns rs).has (.r i):=fun i hi=>by
  rw[←nm]at hi;obtain⟨y,hy,rfl⟩:=List.mem_map.1 hi;exact⟨y,hy,rfl⟩
 refine⟨by simp,by rw[nm];exact nd,by rw[nv];exact nd2,fun x hx=> ?_,fun x hx c hc i hi=> ?_,fun x hx c hc i hi=> ?_⟩
 ·have h1:x.1∈(Zdo n' es hd ns rs).V.map (·.1):=List.mem_map.2 ⟨x,hx,rfl⟩;rw[nv]at h1;have h2:x.1∈(Zdo n' es hd ns rs).R.map (·.1):=by
   rw[nm];rcases List.mem_cons.1 h1 with h|h
   ·rw[h];simp
   ·exact List.mem_cons_of_mem _ (List.mem_cons_of_mem _ h)
  obtain⟨y,hy,e⟩:=List.mem_map.1 h2;exact⟨y,hy,e⟩
 ·rw[List.mem_singleton.1 hx]at hc;simp only[List.mem_cons,List.not_mem_nil,or_false]at hc;rcases hc with rfl|rfl
  ·simp only[PV.ids,List.mem_singleton]at hi;subst hi;exact has _ (by simp)
  ·simp only[PV.ids,List.mem_singleton]at hi;subst hi;exact has _ (by simp)
 ·rcases List.mem_cons.1 hx with rfl|hx
  ·obtain⟨y,hy,rfl⟩:=he c hc i hi;exact has y (by simp[hy])
  ·have:∃l:List En,x.2=l.map ent:=by
    rcases List.mem_cons.1 hx with rfl|hx
    ·exact⟨_,rfl⟩
    ·obtain⟨_,r,_,e⟩:=ZL hx;exact⟨_,e⟩
   obtain⟨l,e⟩:=this;rw[e]at hc;obtain⟨z,_,rfl⟩:=List.mem_map.1 hc;rw[Yn]at hi;cases hi
theorem Zlc (ns:List Nat) (d:Dc) (c:Cg) (n':Nat) (hn':d.rows.length=n'+1) (hl:ns.length=d.rows.length) (hn:ns.Nodup) (h0:∀x∈ns,10000≤x) (hf:Vk d) (hc:FineC c) (hk:Z9 d.rows c.item=true) (i:Nat) (hins:Zm d.rows c.item=i) (hi:i≤n') (he:(d.rows.getD i default).l=c.l):
  Eff Try.prog 81 [.ptr 1000 0,chg c] (VN ns d) (.int .i64 0) (Zdo n' ((ZA ns d.rows).take i++(ZA ns d.rows).drop (i+1)) d.head ns d.rows):=by
 have hr:d.rows.length≤maxLen:=hf.2.1;have hi':i<d.rows.length:=by omega
 have hrl:=hf.2.2.2 _ (Zg (d:=default) hi');have hat:(ZA ns d.rows).getD i .any= .agg [.str (d.rows.getD i default).item,Zh0 (ns.getD i 0) (d.rows.getD i default)]:=UX hl hi';have hln:=WT hl;have hvm:=TO (ns:=ns) hl hi';have hdf:decide ((d.rows.getD i default).l=c.l)=true:=decide_eq_true he;have hrow:∀ {m:Hp},DocIn m 1000 3001 ns d→CallS Try.prog 111 [.ptr 1000 0,.str c.item] m (.tup [.int .i64 (i:Int),.bool true]) m:=fun h=>by
  have:=h.row_s c.item hr;rwa[hk,hins]at this
 have i0:(0:Int)≤(i:Int):=by omega
 have iz:(i:Int)<(d.rows.length:Int):=by omega
 have w1:IntKind.i64.wrap ((i:Int)+1)=((i+1:Nat):Int):=Wp hi' hr;have hmem:∀p∈(ZA ns d.rows).take i++(ZA ns d.rows).drop (i+1),∀j∈p.ids,∃x∈Uo ns d.rows,j= .r x:=fun p hp j hj=>by
  have:p∈ZA ns d.rows:=by
   rcases List.mem_append.1 hp with hp|hp
   ·exact List.mem_of_mem_take hp
   ·exact List.mem_of_mem_drop hp
  exact Xx this hj
 have hself:∀p∈ZA ns d.rows,∀j∈p.ids,j≠ .r 3001:=fun p hp j hj e=>by
  obtain⟨x,hx,e2⟩:=Xx hp hj;rw[e2]at e;simp only[Ref.r.injEq]at e;have:=h0 _ (XW hx);omega
 have hdel:∀ {m:Hp},m.q 3001=some (.vec d.rows.length 2 53)→m.v 3001=some (ZA ns d.rows)→m.q 3002=none→CallS Try.prog 114 [.vsl 3001 d.rows.length 2,.int .i64 i,.int .i64 ((i+1:Nat):Int)] m (.vsl 3002 n' 2) { m with q:=upd (upd m.q 3001 (some .dead)) 3002 (some (.vec n' 2 53)),v:=upd (upd m.v 3001 none) 3002 (some ((ZA ns d.rows).take i++(ZA ns d.rows).drop (i+1))) }:=fun h1 h2 h3=>by
  rw[hn']at h1 ⊢;exact Zho h1 h2 h3 hi hself
 have q32:=Tp (ns:=ns) (rs:=d.rows) (i:=3002) fun h=>by have:=h0 _ h;omega
 refine Eff.of_v [] Try.func81 (by decide) rfl Try.ntmps81 Try.results81 (by simp) (ZR hl hn h0) (Uh hl hn h0 hmem) (by simp[chg,PV.ids,PV.idsL,MemL.has]) (by simp[PV.ids]) (fun x hx=>⟨(1000,[.vsl 3000 d.head.length 5,.vsl 3002 n' 2]),by simp,by rw[List.mem_singleton.1 hx]⟩) (fun x hx=> ?_) fun ph pq=> ?_
 ·rcases List.mem_cons.1 hx with rfl|hx
  ·exact⟨(3001,.dead),by simp,rfl,trivial⟩
  ·rcases List.mem_cons.1 hx with rfl|hx
   ·exact⟨_,List.mem_cons_of_mem _ (List.mem_cons_of_mem _ (List.mem_cons_self ..)),rfl,Row.compat_refl _⟩
   ·exact⟨x,List.mem_cons_of_mem _ (List.mem_cons_of_mem _ (List.mem_cons_of_mem _ hx)),rfl,Row.compat_refl _⟩
 simp only[go_sem,chg,XK,U4];refine XP (hrow (YU hl hn h0 rfl rfl rfl)) ?_;simp only[go_sem];refine W0 [0,1,2,3,4,5,6,7,8,9] 10 11 [] 11 (by kernel_rfl) (by kernel_rfl) fun l1 hl1=> ?_
 simp only[List.filterMap,List.getElem?_cons_zero,List.getElem?_cons_succ]at hl1;subst hl1;simp only[go_sem,i0,iz,hln,hat];refine Wn rfl rfl rfl rfl (show(26:Nat)<39 by omega) rfl (fun m hm=>Zdq (fun h00=> ?_) hrl.1 hc.l hrl.2 hc.e) rfl ?_
 ·rw[hm.v];show upd (upd _ 3000 _) 3001 _ _=_;have hb:=h0 _ (ZL (hvm h00)).1;rw[Zc _ _ (by simp only at hb;omega),Zc _ _ (by simp only at hb;omega)];exact Xp hn (hvm h00)
 refine WZ fun l2 hl2=> ?_
 simp only[List.filterMap]at hl2;subst hl2;simp only[go_sem];refine UD _ 11 (by kernel_rfl) fun l2 hl2=> ?_
 simp only[List.drop]at hl2;subst hl2;simp only[go_sem,hdf,w1];have hq32:upd (upd (Yc ((U5 ns d.rows).map fun x=>(x.1,some x.2)) fun _=>none) 3000 (some (.vec d.head.length 5 27))) 3001 (some (.vec d.rows.length 2 53)) 3002=none:=by
  rw[Zc _ _ (by decide),Zc _ _ (by decide)];exact q32
 refine XP (hdel rfl rfl hq32) ?_;simp only[go_sem];refine⟨⟨_,by simp only[go_sem,YS],.clean rfl⟩,fun x hx=> ?_,fun x hx=> ?_,fun x hx=> ?_,fun x hx=>by rw[List.mem_singleton.1 hx];rfl,YB hl hn h0⟩
 ·rw[List.mem_singleton.1 hx];exact⟨_,rfl,rfl,rfl,fun j hj=> .keep _ fun y hy=>(Uh hl hn h0 hmem).ch _ (List.mem_singleton.2 rfl) _ (Ze hj) y hy⟩
 ·show upd (upd (upd (upd _ 3000 _) 3001 _) 3001 _) 3002 _ x.1=some x.2;rcases List.mem_cons.1 hx with rfl|hx
  ·rfl
  ·rcases List.mem_cons.1 hx with rfl|hx
   ·rfl
   ·rcases List.mem_cons.1 hx with rfl|hx
    ·rfl
    ·have hb:=h0 _ (YC hx).1;rw[Zc _ _ (by omega),Zc _ _ (by omega),Zc _ _ (by omega),Zc _ _ (by omega)];exact Vh hn hx
 ·have hv:upd (upd (upd (upd (Yc ((Se ns d.rows).map fun x=>(x.1,some x.2)) fun _=>none) 3000 (some (d.head.map ent))) 3001 (some (ZA ns d.rows))) 3001 none) 3002 (some ((ZA ns d.rows).take i++(ZA ns d.rows).drop (i+1))) x.1=some x.2:=by
   rcases List.mem_cons.1 hx with rfl|hx
   ·rfl
   ·rcases List.mem_cons.1 hx with rfl|hx
    ·rfl
    ·have hb:=h0 _ (ZL hx).1;rw[Zc _ _ (by omega),Zc _ _ (by omega),Zc _ _ (by omega),Zc _ _ (by omega)];exact Xp hn hx
  exact⟨_,hv,rfl,fun j hj=> .keep _ fun y hy=>(Uh hl hn h0 hmem).cv x hx _ (Ze hj) y hy⟩
open Go.PL Go.RowKit
theorem Gx (l:List Fd) (es:List En) (hl:l.length≤maxLen) (hes:es.length≤maxLen) (hl':∀f∈l,f.cases'.length≤maxLen) (hes':∀e∈es,e.l.length≤maxLen):PL.Pure Try.prog 113 [Zj l,Zt es,.fn 73 []] (.bool (Zk l es)):=by
 by_cases he:l.length=es.length
 ·have he':((l.length:Int) !=(es.length:Int))=false:=by rw[he];exact bne_self_eq_false _
  have hx:Zk l es=(List.range l.length).all (fun i=>ZS (l.getD i default) (es.getD i default)):=by simp only[Zk,he,decide_true,Bool.true_and]
  rw[hx];refine ZO Try.func113 rfl Try.ntmps113 Try.results113 ?_;simp only[go_sem,Zj,Zt,he'];refine ZK (ι:= { x:Nat // x≤(l).length∧(∀j,j<x→ZS (l.getD j default) (es.getD j default)=true) }) 32 (fun x=> [(1,Zt es),(2,.fn 73 []),(15,Zj l),(16,.int .i64 (l.length:Int)),(17,.int .i64 (x.1:Int))]) (fun x=> []) (fun x=> []) (fun x=>(l).length-x.1) ⟨0,Nat.zero_le _,fun j hj=>absurd hj (Nat.not_lt_zero j)⟩ ⟨rfl,(Fc5 rfl rfl rfl rfl rfl),fnl,fnl⟩ (fun x=>⟨(Fc5 rfl rfl rfl rfl rfl),fnl⟩) (fun x=> ?_);obtain⟨k,hk,hI⟩:=x;simp only at hk hI ⊢
  by_cases h:(k:Int)<(l.length:Int)
  ·(have hka:k<(l).length:=by omega);(have w1:=Wp hka (hl));(have i1:(0:Int)≤(k:Int):=by omega)
   have hkb:k<es.length:=by omega
   have i2:(k:Int)<(es.length:Int):=by omega
   have hF:=Vn (l.getD k default) (es.getD k default) (hl' _ (Zg hka)) (hes' _ (Zg hkb));cases hf:ZS (l.getD k default) (es.getD k default)
   ·rw[hf]at hF;have hz:=ZX (p:=fun i=>ZS (l.getD i default) (es.getD i default)) hka hf;simp only[go_sem,Zj,Zt,Vz hka,Zo hkb,fld,ent,i1,h,i2];refine vc2 (hF) ?_;simp only[go_sem,hz]
   ·rw[hf]at hF;simp only[go_sem,Zj,Zt,Vz hka,Zo hkb,fld,ent,i1,h,i2];refine vc2 (hF) ?_;simp only[go_sem,w1];exact⟨⟨k+1,by(try simp only);omega,Zn hI hf⟩,by show(l).length-(k+1)<(l).length-k;omega,⟨rfl,(Fc5 rfl rfl rfl rfl rfl),fnl,fnl⟩⟩
  ·have hz:(List.range l.length).all (fun i=>ZS (l.getD i default) (es.getD i default))=true:=by
    simp only[List.all_eq_true,List.mem_range];exact fun j hj=>hI j (by omega)
   simp only[go_sem,Zj,Zt,h,hz]
 ·have hne:((l.length:Int) !=(es.length:Int))=true:=bne_iff_ne.2 (by omega);have hab:Zk l es=false:=by simp[Zk,he]
  refine ZO Try.func113 rfl Try.ntmps113 Try.results113 ?_;simp only[go_sem,Zj,Zt,hne,hab]
open Go.PL Go.RowKit
def GL (l:List Fd):Dc:=⟨Zp l 0,[]⟩
theorem Zhn (l:List Fd) (ns:List Nat) (d:Dc) (c:Cg) (hl:ns.length=d.rows.length) (hn:ns.Nodup) (h0:∀x∈ns,10000≤x) (hL:l.length≤40) (hL':∀f∈l,f.cases'.length≤1000000) (e:Int) (hq:(Vb l (GL l) c.item).2=e) (he:e≠0):
  Eff Try.prog 80 [Zj l,.ptr 1000 0,chg c] (VN ns d) (.int .i64 e) (VN ns d):=by
 have hb:∀x∈Zp l 0,x.l.length≤1000000:=fun x hx=>by
  obtain⟨f,_,rfl⟩:=List.mem_map.1 hx;simp only[ZF];split<;>simp
 have hbl:(Zp l 0).length≤40:=by
  unfold Zp;rw[List.length_map];exact Nat.le_trans (List.length_filter_le _ _) hL
 have hB:=Vm l (by omega);have hR:=Uc l (GL l) c.item (by omega) hL' (by show(Zp l 0).length≤_;omega) (Nat.zero_le _) hb (fun r hr=>by cases hr);rw[hq]at hR;have he':(e !=0)=true:=by simpa using he
 generalize (Vb l (GL l) c.item).1=R at *;refine Eff.of_v [] Try.func80 (by decide) rfl Try.ntmps80 Try.results80 (by simp) (ZR hl hn h0) (ZR hl hn h0) (by simp[chg,Zj,PV.ids,PV.idsL,MemL.has]) (by simp[PV.ids]) (fun x hx=>⟨x,hx,rfl⟩) (fun x hx=>⟨x,hx,rfl,Row.compat_refl _⟩) fun ph pq=> ?_
 simp only[go_sem,chg,Zj,XK,U4];refine vDq ?_;simp only[go_sem];refine vc2 (hB) ?_;simp only[go_sem,doc];refine Vd (hR) ?_ ?_ ?_;iterate 2 simp only[go_sem,Zj,doc,GL]
 simp only[go_sem,doc,he'];exact XU hl hn h0 (by simp only[go_sem,YS]) rfl rfl rfl (Xa hl hn h0) (XS hl hn h0) rfl (YB hl hn h0)
open Go.PL Go.RowKit
theorem F3 (l:List Fd) (hL:l.length≤40):(Zp l 0).length≤40∧ ∀x∈Zp l 0,x.l.length≤1000000:=⟨by unfold Zp;rw[List.length_map];exact Nat.le_trans (List.length_filter_le _ _) hL,fun x hx=>by
 obtain⟨f,_,rfl⟩:=List.mem_map.1 hx;simp only[ZF];split<;>simp⟩
theorem Zk7 (l:List Fd) (ns:List Nat) (d:Dc) (c:Cg) (hl:ns.length=d.rows.length) (hn:ns.Nodup) (h0:∀x∈ns,10000≤x) (hL:l.length≤40) (hL':∀f∈l,f.cases'.length≤1000000) (hf:Vk d) (hq:(Vb l (GL l) c.item).2=0) (hk:Z9 d.rows c.item=true):
  Eff Try.prog 80 [Zj l,.ptr 1000 0,chg c] (VN ns d) (.int .i64 7) (VN ns d):=by
 obtain⟨hbl,hb⟩:=F3 l hL;have hB:=Vm l (by omega);have hR:=Uc l (GL l) c.item (by omega) hL' (by show(Zp l 0).length≤_;omega) (Nat.zero_le _) hb (fun r hr=>by cases hr);rw[hq]at hR;generalize (Vb l (GL l) c.item).1=R at *;refine Eff.of_v [] Try.func80 (by decide) rfl Try.ntmps80 Try.results80 (by simp) (ZR hl hn h0) (ZR hl hn h0) (by simp[chg,Zj,PV.ids,PV.idsL,MemL.has]) (by simp[PV.ids]) (fun x hx=>⟨x,hx,rfl⟩) (fun x hx=>⟨x,hx,rfl,Row.compat_refl _⟩) fun ph pq=> ?_
 simp only[go_sem,chg,Zj,XK,U4];refine vDq ?_;simp only[go_sem];refine vc2 (hB) ?_;simp only[go_sem,doc];refine Vd (hR) ?_ ?_ ?_;iterate 2 simp only[go_sem,Zj,doc,GL]
 simp only[go_sem,doc];refine XP (DocIn.row_s (YU hl hn h0 rfl rfl rfl) c.item hf.2.1) ?_;simp only[go_sem,hk];exact XU hl hn h0 (by simp only[go_sem,YS]) rfl rfl rfl (Xa hl hn h0) (XS hl hn h0) rfl (YB hl hn h0)
theorem ZjA (l:List Fd) (ns:List Nat) (d:Dc) (c:Cg) (hl:ns.length=d.rows.length) (hn:ns.Nodup) (h0:∀x∈ns,10000≤x) (hL:l.length≤40) (hL':∀f∈l,f.cases'.length≤1000000) (hf:Vk d) (hq:(Vb l (GL l) c.item).2=0) (hk:Z9 d.rows c.item=false) (h4:(400:Int)≤(d.rows.length:Int)):
  Eff Try.prog 80 [Zj l,.ptr 1000 0,chg c] (VN ns d) (.int .i64 14) (VN ns d):=by
 obtain⟨hbl,hb⟩:=F3 l hL;have hB:=Vm l (by omega);have hR:=Uc l (GL l) c.item (by omega) hL' (by show(Zp l 0).length≤_;omega) (Nat.zero_le _) hb (fun r hr=>by cases hr);rw[hq]at hR;generalize (Vb l (GL l) c.item).1=R at *;refine Eff.of_v [] Try.func80 (by decide) rfl Try.ntmps80 Try.results80 (by simp) (ZR hl hn h0) (ZR hl hn h0) (by simp[chg,Zj,PV.ids,PV.idsL,MemL.has]) (by simp[PV.ids]) (fun x hx=>⟨x,hx,rfl⟩) (fun x hx=>⟨x,hx,rfl,Row.compat_refl _⟩) fun ph pq=> ?_
 simp only[go_sem,chg,Zj,XK,U4];refine vDq ?_;simp only[go_sem];refine vc2 (hB) ?_;simp only[go_sem,doc];refine Vd (hR) ?_ ?_ ?_;iterate 2 simp only[go_sem,Zj,doc,GL]
 simp only[go_sem,doc];refine XP (DocIn.row_s (YU hl hn h0 rfl rfl rfl) c.item hf.2.1) ?_;simp only[go_sem,hk,h4];exact XU hl hn h0 (by simp only[go_sem,YS]) rfl rfl rfl (Xa hl hn h0) (XS hl hn h0) rfl (YB hl hn h0)
theorem Zk6 (l:List Fd) (ns:List Nat) (d:Dc) (c:Cg) (hl:ns.length=d.rows.length) (hn:ns.Nodup) (h0:∀x∈ns,10000≤x) (hL:l.length≤40) (hL':∀f∈l,f.cases'.length≤1000000) (hf:Vk d) (hc:FineC c) (hq:(Vb l (GL l) c.item).2=0) (hk:Z9 d.rows c.item=false) (h4:¬(400:Int)≤(d.rows.length:Int)) (he:Zk (Zi l 1) c.l=false):
  Eff Try.prog 80 [Zj l,.ptr 1000 0,chg c] (VN ns d) (.int .i64 5) (VN ns d):=by
 obtain⟨hbl,hb⟩:=F3 l hL;have hB:=Vm l (by omega);have hR:=Uc l (GL l) c.item (by omega) hL' (by show(Zp l 0).length≤_;omega) (Nat.zero_le _) hb (fun r hr=>by cases hr);have hS:=UF l 1 (by omega) hL';have hsl:(Zi l 1).length≤maxLen:=by have:=List.length_filter_le (fun f:Fd=>f.at'.sc==1) l;rw[Zh];unfold Zi;omega
 have hE:=Gx (Zi l 1) c.l hsl hc.l (fun f hf=>by have:=hL' f (List.mem_filter.1 hf).1;rw[Zh];omega) hc.e;rw[he]at hE;rw[hq]at hR;generalize (Vb l (GL l) c.item).1=R at *;refine Eff.of_v [] Try.func80 (by decide) rfl Try.ntmps80 Try.results80 (by simp) (ZR hl hn h0) (ZR hl hn h0) (by simp[chg,Zj,PV.ids,PV.idsL,MemL.has]) (by simp[PV.ids]) (fun x hx=>⟨x,hx,rfl⟩) (fun x hx=>⟨x,hx,rfl,Row.compat_refl _⟩) fun ph pq=> ?_
 simp only[go_sem,chg,Zj,XK,U4];refine vDq ?_;simp only[go_sem];refine vc2 (hB) ?_;simp only[go_sem,doc];refine Vd (hR) ?_ ?_ ?_;iterate 2 simp only[go_sem,Zj,doc,GL]
 simp only[go_sem,doc];refine XP (DocIn.row_s (YU hl hn h0 rfl rfl rfl) c.item hf.2.1) ?_;simp only[go_sem,hk,h4];refine vc2 (hS) ?_;simp only[go_sem,Zj];refine vc2 (hE) ?_;simp only[go_sem];exact XU hl hn h0 (by simp only[go_sem,YS]) rfl rfl rfl (Xa hl hn h0) (XS hl hn h0) rfl (YB hl hn h0)
open Go.PL Go.RowKit
theorem Dt {x:Nat} {r:Rw} {i:Ref} (h:i∈(rowN x r).dids):r.l.length≠0∧i= .r x:=by
 unfold rowN at h
 by_cases h0:r.l.length=0
 ·rw[if_pos h0]at h;simp[PV.dids,PV.didsL]at h
 ·rw[if_neg h0]at h;simp[PV.dids,PV.didsL]at h;exact⟨h0,h⟩
theorem FA {ns:List Nat} {rs:List Rw} {i:Ref} (h:i∈PV.didsL (ZA ns rs)):∃x∈Uo ns rs,i= .r x:=by
 obtain⟨p,hp,hi⟩:=PV.mem_didsL.1 h;obtain⟨x,r,hz,rfl⟩:=Zbh hp;obtain⟨h0,rfl⟩:=Dt hi;exact⟨x,List.mem_filterMap.2 ⟨_,hz,by rw[if_neg h0]⟩,rfl⟩
theorem Za8 {ns:List Nat} {rs:List Rw} {x:Nat} (hn:ns.Nodup) (h:x∈Uo ns rs):Yc ((U5 ns rs).map fun x=>(x.1,some x.2)) (fun _=>none) x≠none:=by
 rw[←YG]at h;obtain⟨y,hy,rfl⟩:=List.mem_map.1 h;rw[Vh hn hy];simp
theorem ZaZ {A:List PV} {x:PV} {i:Nat} {r:Ref} (h:r∈PV.didsL (A.take i++x::A.drop i)):r∈PV.didsL A∨r∈x.dids:=by
 obtain⟨p,hp,hr⟩:=PV.mem_didsL.1 h;rcases List.mem_append.1 hp with hp|hp
 ·exact .inl (PV.mem_didsL.2 ⟨p,List.mem_of_mem_take hp,hr⟩)
 ·rcases List.mem_cons.1 hp with rfl|hp
  ·exact .inr hr
  ·exact .inl (PV.mem_didsL.2 ⟨p,List.mem_of_mem_drop hp,hr⟩)
theorem Zk5 (l:List Fd) (ns:List Nat) (d:Dc) (c:Cg) (nm:Nat) (hnm:10000≤nm) (hnn:nm∉ns) (hl:ns.length=d.rows.length) (hn:ns.Nodup) (h0:∀x∈ns,10000≤x) (hL:l.length≤40) (hL':∀f∈l,f.cases'.length≤1000000) (hf:Vk d) (hc:FineC c) (hcl:c.l.length≤100000) (hcx:∀e∈c.l,e.l.length≤1000000) (hq:(Vb l (GL l) c.item).2=0) (hk:Z9 d.rows c.item=false) (h4:¬(400:Int)≤(d.rows.length:Int)) (he:Zk (Zi l 1) c.l=true) (i:Nat) (hins:Zm d.rows c.item=i):
  Eff Try.prog 80 [Zj l,.ptr 1000 0,chg c] (VN ns d) (.int .i64 0) (Zdo (d.rows.length+1) ((ZA ns d.rows).take i++rowN nm ⟨c.item,c.l⟩::(ZA ns d.rows).drop i) d.head (ns++ [nm]) (d.rows++ [⟨c.item,c.l⟩])):=by
 obtain⟨hbl,hb⟩:=F3 l hL;have hB:=Vm l (by omega);have hR:=Uc l (GL l) c.item (by omega) hL' (by show(Zp l 0).length≤_;omega) (Nat.zero_le _) hb (fun r hr=>by cases hr);have hS:=UF l 1 (by omega) hL';have hsl:(Zi l 1).length≤maxLen:=by have:=List.length_filter_le (fun f:Fd=>f.at'.sc==1) l;rw[Zh];unfold Zi;omega
 have hE:=Gx (Zi l 1) c.l hsl hc.l (fun f hf=>by have:=hL' f (List.mem_filter.1 hf).1;rw[Zh];omega) hc.e;have hfr:d.rows.length≤maxLen:=hf.2.1;rw[he]at hE;rw[hq]at hR;generalize (Vb l (GL l) c.item).1=R at *;have hi:i≤d.rows.length:=hins▸Yp d.rows c.item;have hrow:∀ {m:Hp},DocIn m 1000 3001 ns d→CallS Try.prog 111 [.ptr 1000 0,.str c.item] m (.tup [.int .i64 (i:Int),.bool false]) m:=fun h=>by
  have:=h.row_s c.item hfr;rwa[hk,hins]at this
 have hlx:(ns++ [nm]).length=(d.rows++ [(⟨c.item,c.l⟩:Rw)]).length:=by simp[hl]
 have hnx:(ns++ [nm]).Nodup:=List.nodup_append.2 ⟨hn,by simp,fun a ha b hb=>by rw[List.mem_singleton.1 hb];exact fun e=>hnn (e▸ha)⟩;have h0x:∀x∈ns++ [nm],10000≤x:=fun x hx=>by
  rcases List.mem_append.1 hx with h|h
  ·exact h0 x h
  ·rw[List.mem_singleton.1 h];exact hnm
 obtain⟨s1,s2,s3⟩:=F9 (x:=nm) (r:=⟨c.item,c.l⟩) hl;have hmem:∀p∈(ZA ns d.rows).take i++rowN nm ⟨c.item,c.l⟩::(ZA ns d.rows).drop i,∀j∈p.ids,∃x∈Uo (ns++ [nm]) (d.rows++ [⟨c.item,c.l⟩]),j= .r x:=fun p hp j hj=>by
  have:p∈ZA (ns++ [nm]) (d.rows++ [⟨c.item,c.l⟩]):=by
   rw[s3];rcases List.mem_append.1 hp with hp|hp
   ·exact List.mem_append_left _ (List.mem_of_mem_take hp)
   ·rcases List.mem_cons.1 hp with rfl|hp
    ·exact List.mem_append_right _ (List.mem_singleton.2 rfl)
    ·exact List.mem_append_left _ (List.mem_of_mem_drop hp)
  exact Xx this hj
 have hself:∀p∈ZA ns d.rows++ [rowN nm ⟨c.item,c.l⟩],∀j∈p.ids,j≠ .r 3001:=fun p hp j hj e=>by
  rw[←s3]at hp;obtain⟨x,hx,e2⟩:=Xx hp hj;rw[e2]at e;simp only[Ref.r.injEq]at e;have:=h0x _ (XW hx);omega
 have q32:=Tp (ns:=ns) (rs:=d.rows) (i:=3002) fun h=>by have:=h0 _ h;omega
 have q57:=Tp (ns:=ns) (rs:=d.rows) (i:=57) fun h=>by have:=h0 _ h;omega
 have qnm:=Tp (ns:=ns) (rs:=d.rows) (i:=nm) hnn;refine Eff.of_v [] Try.func80 (by decide) rfl Try.ntmps80 Try.results80 (by simp) (ZR hl hn h0) (Uh hlx hnx h0x hmem) (by simp[chg,Zj,PV.ids,PV.idsL,MemL.has]) (by simp[PV.ids]) (fun x hx=>⟨(1000,[.vsl 3000 d.head.length 5,.vsl 3002 (d.rows.length+1) 2]),by simp,by rw[List.mem_singleton.1 hx]⟩) (fun x hx=> ?_) fun ph pq=> ?_
 ·rcases List.mem_cons.1 hx with rfl|hx
  ·exact⟨(3001,.dead),by simp,rfl,trivial⟩
  ·rcases List.mem_cons.1 hx with rfl|hx
   ·exact⟨_,List.mem_cons_of_mem _ (List.mem_cons_of_mem _ (List.mem_cons_self ..)),rfl,Row.compat_refl _⟩
   ·exact⟨x,List.mem_cons_of_mem _ (List.mem_cons_of_mem _ (List.mem_cons_of_mem _ (by rw[s1];exact List.mem_append_left _ hx))),rfl,Row.compat_refl _⟩
 simp only[go_sem,chg,Zj,XK,U4];refine vDq ?_;simp only[go_sem];refine vc2 (hB) ?_;simp only[go_sem,doc];refine Vd (hR) ?_ ?_ ?_;iterate 2 simp only[go_sem,Zj,doc,GL]
 simp only[go_sem,doc];refine XP (hrow (YU hl hn h0 rfl rfl rfl)) ?_;simp only[go_sem,h4];refine vc2 (hS) ?_;simp only[go_sem,Zj];refine vc2 (hE) ?_;simp only[go_sem];have n57:(nm=57)=False:=eq_false (by omega);have n3001:(nm=3001)=False:=eq_false (by omega)
 by_cases h00:c.l.length=0
 ·rw[if_pos h00,List.append_nil]at s1 s2;have hO:=Vo c.l hcl (fun e he=>by have:=hcx e he;omega);have hcn:=List.eq_nil_of_length_eq_zero h00;rw[hcn]at hO;have hrn:rowN nm ⟨c.item,c.l⟩= .agg [.str c.item,.sl .no []]:=by rw[Zan h00];simp only[row,hcn];rfl
  refine W0 [0,1,2,3,4,5,6,7,8,9] 10 14 [14] 15 (by kernel_rfl) (by kernel_rfl) fun l1 hl1=> ?_
  simp only[List.filterMap,List.getElem?_cons_zero,List.getElem?_cons_succ]at hl1;subst hl1;simp only[go_sem,hcn];refine Wn rfl rfl rfl rfl (show(55:Nat)<61 by omega) rfl (fun m hm=>CallS.lend hO rfl (fun i hi=>by
   match i,hi with
   |0,_=>exact .clean rfl) (by simp[Zt,PV.ids]) (by simp[Zt,PV.nofr,PV.nofrL]) rfl) rfl ?_
  refine Zav rfl rfl rfl fun l2 hl2=> ?_
  subst hl2;simp only[go_sem,Zt];refine Zc4 (ei:=⟨53,2,40⟩) rfl rfl rfl rfl (show(57:Nat)<61 by omega) (by kernel_rfl) ?_ rfl (by decide) (by simp only[go_sem,Td];simp) ?_
  ·exact q57
  refine Zjs (d:=3001) (d2:=3002) (n:=d.rows.length+1) (sz:=2) (e:=53) (es:=(ZA ns d.rows).take i++rowN nm ⟨c.item,c.l⟩::(ZA ns d.rows).drop i) rfl rfl rfl (by kernel_rfl) rfl (show(58:Nat)<61 by omega) rfl (fun m hm=> ?_) (fun r hr=> ?_) ?_
  ·exact Zdg (d:=3001) (k:=57) (d2:=3002) (by rw[hm.q];rfl) (by rw[hm.v];rfl) (by rw[hm.q];rfl) (by rw[hm.v,hrn];rfl) (by rw[hm.q];exact q32) (by decide) hi (by omega) hself
  ·rcases ZaZ hr with h|h
   ·obtain⟨x,hx,rfl⟩:=FA h;have hb:=h0 _ (XW hx);refine⟨x,rfl,?_⟩;show upd (upd (upd _ 3000 _) 3001 _) 57 _ x≠none;rw[Zc _ _ (by omega),Zc _ _ (by omega),Zc _ _ (by omega)];exact Za8 hn hx
   ·exact absurd h00 (Dt h).1
  refine WZ fun l2 hl2=> ?_
  simp only[List.filterMap,List.getElem?_cons_zero,List.getElem?_cons_succ]at hl2;subst hl2;simp only[go_sem,reM];refine UD _ 15 (by kernel_rfl) fun l2 hl2=> ?_
  simp only[List.drop]at hl2;subst hl2;simp only[go_sem];refine⟨⟨_,by simp only[go_sem,YS],.clean rfl⟩,fun x hx=> ?_,fun x hx=> ?_,fun x hx=> ?_,fun x hx=>by rw[List.mem_singleton.1 hx];rfl,YB hl hn h0⟩
  ·rw[List.mem_singleton.1 hx];exact⟨_,rfl,rfl,rfl,fun j hj=> .keep _ fun y hy=>(Uh hlx hnx h0x hmem).ch _ (List.mem_singleton.2 rfl) _ (Ze hj) y hy⟩
  ·show upd (upd (upd (upd (upd _ 3000 _) 3001 _) 57 _) 3001 _) 3002 _ x.1=some x.2;rcases List.mem_cons.1 hx with rfl|hx
   ·rfl
   ·rcases List.mem_cons.1 hx with rfl|hx
    ·rfl
    ·rcases List.mem_cons.1 hx with rfl|hx
     ·rfl
     ·rw[s1]at hx;have hb:=h0 _ (YC hx).1;rw[Zc _ _ (by omega),Zc _ _ (by omega),Zc _ _ (by omega),Zc _ _ (by omega),Zc _ _ (by omega)];exact Vh hn hx
  ·have hv:upd (upd (upd (upd (upd (Yc ((Se ns d.rows).map fun x=>(x.1,some x.2)) fun _=>none) 3000 (some (d.head.map ent))) 3001 (some (ZA ns d.rows))) 57 (some [.agg [.str c.item,.sl .no []]])) 3001 none) 3002 (some ((ZA ns d.rows).take i++rowN nm ⟨c.item,c.l⟩::(ZA ns d.rows).drop i)) x.1=some x.2:=by
    rcases List.mem_cons.1 hx with rfl|hx
    ·rfl
    ·rcases List.mem_cons.1 hx with rfl|hx
     ·rfl
     ·rw[s2]at hx;have hb:=h0 _ (ZL hx).1;rw[Zc _ _ (by omega),Zc _ _ (by omega),Zc _ _ (by omega),Zc _ _ (by omega),Zc _ _ (by omega)];exact Xp hn hx
   exact⟨_,hv,rfl,fun j hj=> .keep _ fun y hy=>(Uh hlx hnx h0x hmem).cv x hx _ (Ze hj) y hy⟩
 rw[if_neg h00]at s1 s2;have q32':∀a b c' d',upd (upd (upd (upd (Yc ((U5 ns d.rows).map fun x=>(x.1,some x.2)) fun _=>none) 3000 a) 3001 b) nm c') 57 d' 3002=none:=fun a b c' d'=>by
  rw[Zc _ _ (by omega),Zc _ _ (by omega),Zc _ _ (by omega),Zc _ _ (by omega)];exact q32
 have a31:∀ {α:Type} (F:Nat→Option α) a b c' d',upd (upd (upd (upd F 3000 a) 3001 b) nm c') 57 d' 3001=b:=fun F a b c' d'=>by
  rw[Zc _ _ (by omega),Zc _ _ (by omega),Za]
 have hV:Eff Try.prog 42 [Zt c.l] noV (.vsl 6 c.l.length 5) (D0 6 c.l.length 5 27 (c.l.map ent)):=by
  cases hcy:c.l with
  |nil=>rw[hcy]at h00;exact absurd rfl h00
  |cons x l0=>
   rw[hcy]at hcl hcx;exact Zhw x l0 hcl (fun e he=>by have:=hcx e he;omega)
 have hrn:rowN nm ⟨c.item,c.l⟩= .agg [.str c.item,.vsl nm c.l.length 5]:=by unfold rowN;rw[if_neg h00]
 refine W0 [0,1,2,3,4,5,6,7,8,9] 10 14 [14] 15 (by kernel_rfl) (by kernel_rfl) fun l1 hl1=> ?_
 simp only[List.filterMap,List.getElem?_cons_zero,List.getElem?_cons_succ]at hl1;subst hl1;simp only[go_sem];refine Zjt nm hV (Za2 _) (by simp[Zt,PV.ids]) rfl rfl rfl rfl (show(55:Nat)<61 by omega) rfl ?_ (fun m=>by simp only[go_sem,Zt]) (by simp[PV.ren,PV.dids]) ?_
 ·show upd (upd _ 3000 _) 3001 _ nm=none;rw[Zc _ _ (by omega),Zc _ _ (by omega)];exact qnm
 refine Zav rfl rfl rfl fun l2 hl2=> ?_
 subst hl2;simp only[go_sem,PV.ren];refine Zc4 (ei:=⟨53,2,40⟩) rfl rfl rfl rfl (show(57:Nat)<61 by omega) (by kernel_rfl) ?_ rfl (by decide) (by simp only[go_sem,Td];simp;omega) ?_
 ·show upd (upd (upd _ 3000 _) 3001 _) nm _ 57=none;rw[Zc _ _ (by omega),Zc _ _ (by omega),Zc _ _ (by omega)];exact q57
 refine Zjs (d:=3001) (d2:=3002) (n:=d.rows.length+1) (sz:=2) (e:=53) (es:=(ZA ns d.rows).take i++rowN nm ⟨c.item,c.l⟩::(ZA ns d.rows).drop i) rfl rfl rfl (by kernel_rfl) rfl (show(58:Nat)<61 by omega) rfl (fun m hm=> ?_) (fun r hr=> ?_) ?_
 ·refine Zdg (d:=3001) (k:=57) (d2:=3002) ?_ ?_ ?_ ?_ ?_ (by decide) hi (by omega) hself
  ·rw[hm.q];exact a31 _ (some (Row.vec d.head.length 5 27)) (some (Row.vec d.rows.length 2 53)) (some (Row.vec c.l.length 5 27)) (some (Row.vec 1 2 53))
  ·rw[hm.v];exact a31 _ (some (d.head.map ent)) (some (ZA ns d.rows)) (some (c.l.map ent)) (some [.agg [.str c.item,.vsl nm c.l.length 5]])
  ·rw[hm.q];rfl
  ·rw[hm.v,hrn];rfl
  ·rw[hm.q];exact q32' (some (.vec d.head.length 5 27)) (some (.vec d.rows.length 2 53)) (some (.vec c.l.length 5 27)) (some (.vec 1 2 53))
 ·show ∃i,r= .r i∧upd (upd (upd (upd _ 3000 _) 3001 _) nm _) 57 _ i≠none;rcases ZaZ hr with h|h
  ·obtain⟨x,hx,rfl⟩:=FA h;have hb:=h0 _ (XW hx);have hxn:nm≠x:=fun e=>hnn (e▸XW hx)
   refine⟨x,rfl,?_⟩;rw[Zc _ _ (by omega),Zc _ _ (by omega),Zc _ _ (by omega),Zc _ _ (by omega)];exact Za8 hn hx
  ·refine⟨nm,(Dt h).2,?_⟩;rw[Zc _ _ (by omega),Za];simp
 refine WZ fun l2 hl2=> ?_
 simp only[List.filterMap,List.getElem?_cons_zero,List.getElem?_cons_succ]at hl2;subst hl2;simp only[go_sem,reM];refine UD _ 15 (by kernel_rfl) fun l2 hl2=> ?_
 simp only[List.drop]at hl2;subst hl2;simp only[go_sem,n57,n3001];refine⟨⟨_,by simp only[go_sem,YS],.clean rfl⟩,fun x hx=> ?_,fun x hx=> ?_,fun x hx=> ?_,fun x hx=>by rw[List.mem_singleton.1 hx];rfl,YB hl hn h0⟩
 ·rw[List.mem_singleton.1 hx];exact⟨_,rfl,rfl,rfl,fun j hj=> .keep _ fun y hy=>(Uh hlx hnx h0x hmem).ch _ (List.mem_singleton.2 rfl) _ (Ze hj) y hy⟩
 ·show upd (upd (upd (upd (upd (upd _ 3000 _) 3001 _) nm _) 57 _) 3001 _) 3002 _ x.1=some x.2;rcases List.mem_cons.1 hx with rfl|hx
  ·rfl
  ·rcases List.mem_cons.1 hx with rfl|hx
   ·rfl
   ·rcases List.mem_cons.1 hx with rfl|hx
    ·rw[Zc _ _ (by omega),Zc _ _ (by omega),Zc _ _ (by omega),Zc _ _ (by show nm≠3000;omega),Zc _ _ (by omega),Za]
    ·rw[s1]at hx;rcases List.mem_append.1 hx with hx|hx
     ·have hb:=h0 _ (YC hx).1;have hxn:nm≠x.1:=fun e=>hnn (e▸(YC hx).1)
      rw[Zc _ _ (by omega),Zc _ _ (by omega),Zc _ _ (by omega),Zc _ _ hxn,Zc _ _ (by omega),Zc _ _ (by omega)];exact Vh hn hx
     ·rw[List.mem_singleton.1 hx,Zc _ _ (by show 3002≠nm;omega),Zc _ _ (by show 3001≠nm;omega),Zc _ _ (by show 57≠nm;omega),Za]
 ·have hv:upd (upd (upd (upd (upd (upd (Yc ((Se ns d.rows).map fun x=>(x.1,some x.2)) fun _=>none) 3000 (some (d.head.map ent))) 3001 (some (ZA ns d.rows))) nm (some (c.l.map ent))) 57 (some [.agg [.str c.item,.vsl nm c.l.length 5]])) 3001 none) 3002 (some ((ZA ns d.rows).take i++rowN nm ⟨c.item,c.l⟩::(ZA ns d.rows).drop i)) x.1=some x.2:=by
   rcases List.mem_cons.1 hx with rfl|hx
   ·rfl
   ·rcases List.mem_cons.1 hx with rfl|hx
    ·rw[Zc _ _ (by omega),Zc _ _ (by omega),Zc _ _ (by omega),Zc _ _ (by show nm≠3000;omega),Zc _ _ (by omega),Za]
    ·rw[s2]at hx;rcases List.mem_append.1 hx with hx|hx
     ·have hb:=h0 _ (ZL hx).1;have hxn:nm≠x.1:=fun e=>hnn (e▸(ZL hx).1)
      rw[Zc _ _ (by omega),Zc _ _ (by omega),Zc _ _ (by omega),Zc _ _ hxn,Zc _ _ (by omega),Zc _ _ (by omega)];exact Xp hn hx
     ·rw[List.mem_singleton.1 hx,Zc _ _ (by show 3002≠nm;omega),Zc _ _ (by show 3001≠nm;omega),Zc _ _ (by show 57≠nm;omega),Za]
  exact⟨_,hv,rfl,fun j hj=> .keep _ fun y hy=>(Uh hlx hnx h0x hmem).cv x hx _ (Ze hj) y hy⟩
open Go.PL Go.RowKit
abbrev Zi9 (c:Cg):List PV:= [.int .i64 c.kind,.str c.item,.int .i64 c.was.at'.sc,.str c.was.at'.gr,.str c.was.at'.nm,.int .i64 c.was.n,.sl .no (c.was.l.map .str),.int .i64 c.now.at'.sc,.str c.now.at'.gr,.str c.now.at'.nm,.int .i64 c.now.n,.sl .no (c.now.l.map .str),.sl .no (c.l.map ent)]
theorem ZcF (e:En) (c:Cg):PL.Pure Try.prog 112 [ent e,.rptr (Zi9 c)] (.bool (decide (e.at'=c.now.at'))):=by
 refine ZO Try.func112 rfl Try.ntmps112 Try.results112 ?_;simp only[go_sem,ent,Zv]
theorem ZjC (l:List Fd) (ns:List Nat) (d:Dc) (c:Cg) (hl:ns.length=d.rows.length) (hn:ns.Nodup) (h0:∀x∈ns,10000≤x) (ha:c.was.at'≠c.now.at'):
  Eff Try.prog 79 [Zj l,.ptr 1000 0,chg c] (VN ns d) (.int .i64 5) (VN ns d):=by
 have hd:decide (c.was.at'=c.now.at')=false:=decide_eq_false ha;refine Eff.of_v [] Try.func79 (by decide) rfl Try.ntmps79 Try.results79 (by simp) (ZR hl hn h0) (ZR hl hn h0) (by simp[chg,Zj,PV.ids,PV.idsL,MemL.has]) (by simp[PV.ids]) (fun x hx=>⟨x,hx,rfl⟩) (fun x hx=>⟨x,hx,rfl,Row.compat_refl _⟩) fun ph pq=> ?_
 simp only[go_sem,chg,Zj,XK,U4,Zv,hd];exact XU hl hn h0 (by simp only[go_sem,YS]) rfl rfl rfl (Xa hl hn h0) (XS hl hn h0) rfl (YB hl hn h0)
theorem ZjD (l:List Fd) (ns:List Nat) (d:Dc) (c:Cg) (hl:ns.length=d.rows.length) (hn:ns.Nodup) (h0:∀x∈ns,10000≤x) (hf:Vk d) (hs:DK d) (ha:c.was.at'=c.now.at') (e:Int) (hq:(ZZ d c.item c.now.at').2=e) (he:e≠0):
  Eff Try.prog 79 [Zj l,.ptr 1000 0,chg c] (VN ns d) (.int .i64 e) (VN ns d):=by
 have hd:decide (c.was.at'=c.now.at')=true:=decide_eq_true ha;have he':(e !=0)=true:=by simpa using he
 have hfind:∀ {m:Hp},DocIn m 1000 3001 ns d→CallS Try.prog 33 [.agg [.vsl 3000 d.head.length 5,.vsl 3001 d.rows.length 2],.str c.item,ref c.now.at'] m (.tup [Zj6,.int .i64 e]) m:=fun h=>by
  have:=h.find_s c.item c.now.at' hf hs;unfold Zje at this;rwa[hq,if_neg he]at this
 refine Eff.of_v [] Try.func79 (by decide) rfl Try.ntmps79 Try.results79 (by simp) (ZR hl hn h0) (ZR hl hn h0) (by simp[chg,Zj,PV.ids,PV.idsL,MemL.has]) (by simp[PV.ids]) (fun x hx=>⟨x,hx,rfl⟩) (fun x hx=>⟨x,hx,rfl,Row.compat_refl _⟩) fun ph pq=> ?_
 simp only[go_sem,chg,Zj,XK,U4,Zv,hd];refine W0 [0,1,2,3,4,5,6,7,12] 8 9 [9,10,11,13] 14 (by kernel_rfl) (by kernel_rfl) fun l1 hl1=> ?_
 simp only[List.filterMap,List.getElem?_cons_zero,List.getElem?_cons_succ]at hl1;subst hl1;simp only[go_sem];refine Wn rfl rfl rfl rfl (show(30:Nat)<88 by omega) rfl (fun m hm=>hfind ((YU hl hn h0 rfl rfl rfl).near hm (show(88:Nat)≤1000 by omega))) rfl ?_;refine WZ fun l2 hl2=> ?_
 simp only[List.filterMap,List.getElem?_cons_zero,List.getElem?_cons_succ]at hl2;subst hl2;simp only[go_sem,Zj6];refine UD _ 14 (by kernel_rfl) fun l2 hl2=> ?_
 simp only[List.drop]at hl2;subst hl2;simp only[go_sem,he'];exact XU hl hn h0 (by simp only[go_sem,YS]) rfl rfl rfl (Xa hl hn h0) (XS hl hn h0) rfl (YB hl hn h0)
open Go.PL Go.RowKit
theorem Uk {d:Dc} (hf:Vk d) (it:Str) (r:Rf):(ZZ d it r).1.l.length≤maxLen:=by
 obtain⟨f1,f2,f3,f4⟩:=hf;unfold ZZ
 by_cases hi:it= []
 ·rw[if_pos hi];rcases ZN (atE r) d.head with h|⟨k,hk,h⟩
  ·rw[h];exact Nat.zero_le _
  ·rw[h,if_neg (by omega)];exact f3 _ (Zg hk)
 ·rw[if_neg hi];rcases ZN (atR it) d.rows with h|⟨i,hii,h⟩
  ·rw[h];exact Nat.zero_le _
  ·rw[h,if_neg (by omega)];simp only[Int.toNat_natCast];rcases ZN (atE r) (d.rows.getD i default).l with h'|⟨k,hk,h'⟩
   ·rw[h'];exact Nat.zero_le _
   ·rw[h',if_neg (by omega)];exact(f4 _ (Zg hii)).2 _ (Zg hk)
theorem Gg (x:En):(PV.tup [ZaA x,.int .i64 0]).dids= []:=by simp only[PV.dids,PV.didsL,GU,List.append_nil]
theorem Zds {m:Hp} {ns:List Nat} {d:Dc} {it:Str} {r:Rf} (h:DocIn m 1000 3001 ns d) (hf:Vk d) (hs:DK d) (hq:(ZZ d it r).2=0):CallS Try.prog 33 [.agg [.vsl 3000 d.head.length 5,.vsl 3001 d.rows.length 2],.str it,ref r] m (.tup [ZaA (ZZ d it r).1,.int .i64 0]) m:=by
 have:=h.find_s it r hf hs;unfold Zje at this;rwa[hq,if_pos rfl]at this
theorem ZjE (l:List Fd) (ns:List Nat) (d:Dc) (c:Cg) (hl:ns.length=d.rows.length) (hn:ns.Nodup) (h0:∀x∈ns,10000≤x) (hf:Vk d) (hs:DK d) (hc:FineC c) (ha:c.was.at'=c.now.at') (hq:(ZZ d c.item c.now.at').2=0) (hw:(ZZ d c.item c.now.at').1≠c.was):
  Eff Try.prog 79 [Zj l,.ptr 1000 0,chg c] (VN ns d) (.int .i64 11) (VN ns d):=by
 have hd:decide (c.was.at'=c.now.at')=true:=decide_eq_true ha;have hfind:∀ {m:Hp},DocIn m 1000 3001 ns d→_:=fun h=>Zds h hf hs hq
 have hE:=Xd (ZZ d c.item c.now.at').1 c.was (Uk hf _ _) hc.w;rw[decide_eq_false hw]at hE;generalize (ZZ d c.item c.now.at').1=x at *;refine Eff.of_v [] Try.func79 (by decide) rfl Try.ntmps79 Try.results79 (by simp) (ZR hl hn h0) (ZR hl hn h0) (by simp[chg,Zj,PV.ids,PV.idsL,MemL.has]) (by simp[PV.ids]) (fun x hx=>⟨x,hx,rfl⟩) (fun x hx=>⟨x,hx,rfl,Row.compat_refl _⟩) fun ph pq=> ?_
 simp only[go_sem,chg,Zj,XK,U4,Zv,hd];refine W0 [0,1,2,3,4,5,6,7,12] 8 9 [9,10,11,13] 14 (by kernel_rfl) (by kernel_rfl) fun l1 hl1=> ?_
 simp only[List.filterMap,List.getElem?_cons_zero,List.getElem?_cons_succ]at hl1;subst hl1;simp only[go_sem];refine Wn rfl rfl rfl rfl (show(30:Nat)<88 by omega) rfl (fun m hm=>hfind ((YU hl hn h0 rfl rfl rfl).near hm (show(88:Nat)≤1000 by omega))) (Gg _) ?_;refine WZ fun l2 hl2=> ?_
 simp only[List.filterMap,List.getElem?_cons_zero,List.getElem?_cons_succ]at hl2;subst hl2;simp only[go_sem,ZaA];refine UD _ 14 (by kernel_rfl) fun l2 hl2=> ?_
 simp only[List.drop]at hl2;subst hl2;simp only[go_sem];refine vc1 (hE) ?_;simp only[go_sem];exact XU hl hn h0 (by simp only[go_sem,YS]) rfl rfl rfl (Xa hl hn h0) (XS hl hn h0) rfl (YB hl hn h0)
theorem ZjF (l:List Fd) (ns:List Nat) (d:Dc) (c:Cg) (hl:ns.length=d.rows.length) (hn:ns.Nodup) (h0:∀x∈ns,10000≤x) (hL:l.length≤40) (hL':∀f∈l,f.cases'.length≤1000000) (hf:Vk d) (hs:DK d) (hc:FineC c) (ha:c.was.at'=c.now.at') (hq:(ZZ d c.item c.now.at').2=0) (hw:(ZZ d c.item c.now.at').1=c.was)
  (hq2:(Z3 l c.now.at').2=0) (hft:ZS (Z3 l c.now.at').1 c.now=false):
  Eff Try.prog 79 [Zj l,.ptr 1000 0,chg c] (VN ns d) (.int .i64 11) (VN ns d):=by
 have hd:decide (c.was.at'=c.now.at')=true:=decide_eq_true ha;have hfind:∀ {m:Hp},DocIn m 1000 3001 ns d→_:=fun h=>Zds h hf hs hq
 have hE:=Xd (ZZ d c.item c.now.at').1 c.was (Uk hf _ _) hc.w;rw[decide_eq_true hw]at hE;generalize (ZZ d c.item c.now.at').1=x at *;have hF:=Sk l c.now.at' (by omega) hL';have hfl:(Z3 l c.now.at').1.cases'.length≤maxLen:=by
  unfold Z3;rcases ZN (atF c.now.at') l with h|⟨k,hk,h⟩
  ·rw[h];exact Nat.zero_le _
  ·rw[h,if_neg (by omega)];have:=hL' _ (Zg (d:=default) hk);rw[Zh];exact Nat.le_trans this (by omega)
 have hT:=Vn (Z3 l c.now.at').1 c.now hfl hc.n;rw[hft]at hT;unfold Zjd at hF;rw[hq2]at hF;generalize (Z3 l c.now.at').1=f at *;refine Eff.of_v [] Try.func79 (by decide) rfl Try.ntmps79 Try.results79 (by simp) (ZR hl hn h0) (ZR hl hn h0) (by simp[chg,Zj,PV.ids,PV.idsL,MemL.has]) (by simp[PV.ids]) (fun x hx=>⟨x,hx,rfl⟩) (fun x hx=>⟨x,hx,rfl,Row.compat_refl _⟩) fun ph pq=> ?_
 simp only[go_sem,chg,Zj,XK,U4,Zv,hd];refine W0 [0,1,2,3,4,5,6,7,12] 8 9 [9,10,11,13] 14 (by kernel_rfl) (by kernel_rfl) fun l1 hl1=> ?_
 simp only[List.filterMap,List.getElem?_cons_zero,List.getElem?_cons_succ]at hl1;subst hl1;simp only[go_sem];refine Wn rfl rfl rfl rfl (show(30:Nat)<88 by omega) rfl (fun m hm=>hfind ((YU hl hn h0 rfl rfl rfl).near hm (show(88:Nat)≤1000 by omega))) (Gg _) ?_;refine WZ fun l2 hl2=> ?_
 simp only[List.filterMap,List.getElem?_cons_zero,List.getElem?_cons_succ]at hl2;subst hl2;simp only[go_sem,ZaA];refine UD _ 14 (by kernel_rfl) fun l2 hl2=> ?_
 simp only[List.drop]at hl2;subst hl2;simp only[go_sem];refine vc1 (hE) ?_;simp only[go_sem];refine vc2 (hF) ?_;simp only[go_sem,fld];refine vc2 (hT) ?_;simp only[go_sem];exact XU hl hn h0 (by simp only[go_sem,YS]) rfl rfl rfl (Xa hl hn h0) (XS hl hn h0) rfl (YB hl hn h0)
open Go.PL Go.RowKit
theorem ZjO {m:Hp} (c:Cg) (hh:m.h 5=some (Zi9 c)) (hz:m.z 5=true):Pub (fun _=>False) m (.fn 112 [.ptr 5 0]) (.fn 112 [.rptr (Zi9 c)]):=by
 refine .fn _ _ _ rfl fun j hj=> ?_
 match j,hj with
 |0,_=>exact Pub.frozen 5 0 (Zi9 c) hh hz
theorem Zlr {m:Hp} {x:Nat} {es:List En} (c:Cg) (hv:m.v x=some (es.map ent)) (hh:m.h 5=some (Zi9 c)) (hz:m.z 5=true) (hl:es.length≤maxLen):
  CallS Try.prog 105 [.vsl x es.length 5,.fn 112 [.ptr 5 0]] m (.int .i64 (idx (atE c.now.at') es)) m:=
 CallS.lend (VO es 112 (Zi9 c) (atE c.now.at') hl (fun e _=>ZcF e c)) rfl (fun i hi=>by
  match i,hi with
  |0,_=>exact Pub.vec0 (by simp) hv (List.length_map _) (Yf Yn _)
  |1,_=>exact ZjO c hh hz) (by simp[PV.ids,PV.idsL]) (fun p hp=>by
  simp only[List.mem_cons,List.not_mem_nil,or_false]at hp;rcases hp with rfl|rfl
  ·simp[PV.nofr,X0]
  ·simp[PV.nofr,PV.nofrL,X0,Zbq]) rfl
theorem Za5 {P:Program} {s:St} {rs:List ResultVar} {r0:PV} {ns:List Nat} {d d':Dc} {ph:Nat→Nat} {pq:Nat→Option (Nat×Nat×Nat)} (hl:ns.length=d'.rows.length) (hn:ns.Nodup) (h0:∀x∈ns,10000≤x) (hr:YS P r0 s [] rs) (hid:r0.ids= [])
  (hh:s.m.h 1000=some [.vsl 3000 d'.head.length 5,.vsl 3001 d'.rows.length 2]) (hz:s.m.z 1000=false) (hq:∀x∈XK 3001 ns d',s.m.q x.1=some x.2) (hv:∀x∈U4 3001 ns d',s.m.v x.1=some x.2) (hph:s.m.ph 1000=some (ph 1000)) (hpq:∀x∈XK 3001 ns d,s.m.pq x.1=pq x.1):
  ERet P rs r0 (VN ns d) (VN ns d') ph pq s:=
 ⟨⟨r0,hr,.clean hid⟩,fun x hx=>by
  rw[List.mem_singleton.1 hx];exact⟨_,hh,hz,rfl,fun i hi=> .keep _ fun j hj=>(ZR hl hn h0).ch _ (List.mem_singleton.2 rfl) _ (Ze hi) j hj⟩,hq,fun x hx=>⟨_,hv x hx,rfl,fun i hi=> .keep _ fun j hj=>(ZR hl hn h0).cv x hx _ (Ze hi) j hj⟩,fun x hx=>by rw[List.mem_singleton.1 hx];exact hph,hpq⟩
theorem Zhs (l:List Fd) (ns:List Nat) (d:Dc) (c:Cg) (hl:ns.length=d.rows.length) (hn:ns.Nodup) (h0:∀x∈ns,10000≤x) (hL:l.length≤40) (hL':∀f∈l,f.cases'.length≤1000000) (hf:Vk d) (hs:DK d) (hc:FineC c) (hcn:c.now.l.length≤1000000) (ha:c.was.at'=c.now.at') (hq:(ZZ d c.item c.now.at').2=0) (hw:(ZZ d c.item c.now.at').1=c.was)
  (hq2:(Z3 l c.now.at').2=0) (hft:ZS (Z3 l c.now.at').1 c.now=true) (hi:c.item= []) (k:Nat) (hk:k<d.head.length) (hix:idx (atE c.now.at') d.head=(k:Int)):
  Eff Try.prog 79 [Zj l,.ptr 1000 0,chg c] (VN ns d) (.int .i64 0) (VN ns ⟨d.head.set k c.now,d.rows⟩):=by
 have hd:decide (c.was.at'=c.now.at')=true:=decide_eq_true ha;have hfind:∀ {m:Hp},DocIn m 1000 3001 ns d→_:=fun h=>Zds h hf hs hq
 have hE:=Xd (ZZ d c.item c.now.at').1 c.was (Uk hf _ _) hc.w;rw[decide_eq_true hw]at hE;generalize (ZZ d c.item c.now.at').1=x at *;have hF:=Sk l c.now.at' (by omega) hL';have hfl:(Z3 l c.now.at').1.cases'.length≤maxLen:=by
  unfold Z3;rcases ZN (atF c.now.at') l with h|⟨k,hk,h⟩
  ·rw[h];exact Nat.zero_le _
  ·rw[h,if_neg (by omega)];have:=hL' _ (Zg (d:=default) hk);rw[Zh];exact Nat.le_trans this (by omega)
 have hT:=Vn (Z3 l c.now.at').1 c.now hfl hc.n;rw[hft]at hT;unfold Zjd at hF;rw[hq2]at hF;generalize (Z3 l c.now.at').1=f at *;have hi':(c.item== [])=true:=GJ hi;have hidx:∀ {m:Hp},m.v 3000=some (d.head.map ent)→m.h 5=some (Zi9 c)→m.z 5=true→CallS Try.prog 105 [.vsl 3000 d.head.length 5,.fn 112 [.ptr 5 0]] m (.int .i64 (k:Int)) m:=fun h1 h2 h3=>by
  rw[←hix];exact Zlr c h1 h2 h3 hf.1
 have hO:=YF c.now hcn;have i0:(0:Int)≤(k:Int):=by omega
 have i1:(k:Int)<(d.head.length:Int):=by omega
 have hset:=VZ (pv:=ent) (l:=d.head) (k:=k) (x:=c.now);simp only[ent]at hset;have hR:XK 3001 ns ⟨d.head.set k c.now,d.rows⟩=XK 3001 ns d:=by simp only[XK,List.length_set]
 refine Eff.of_v [] Try.func79 (by decide) rfl Try.ntmps79 Try.results79 (by simp) (ZR hl hn h0) (ZR (d:=⟨d.head.set k c.now,d.rows⟩) hl hn h0) (by simp[chg,Zj,PV.ids,PV.idsL,MemL.has]) (by simp[PV.ids]) (fun x hx=>⟨_,List.mem_singleton.2 rfl,by rw[List.mem_singleton.1 hx]⟩) (fun x hx=>⟨x,by show x∈XK 3001 ns _;rw[hR];exact hx,rfl,Row.compat_refl _⟩) fun ph pq=> ?_
 simp only[go_sem,chg,Zj,XK,U4,Zv,hd];refine W0 [0,1,2,3,4,5,6,7,12] 8 9 [9,10,11,13] 14 (by kernel_rfl) (by kernel_rfl) fun l1 hl1=> ?_
 simp only[List.filterMap,List.getElem?_cons_zero,List.getElem?_cons_succ]at hl1;subst hl1;simp only[go_sem];refine Wn rfl rfl rfl rfl (show(30:Nat)<88 by omega) rfl (fun m hm=>hfind ((YU hl hn h0 rfl rfl rfl).near hm (show(88:Nat)≤1000 by omega))) (Gg _) ?_;refine WZ fun l2 hl2=> ?_
 simp only[List.filterMap,List.getElem?_cons_zero,List.getElem?_cons_succ]at hl2;subst hl2;simp only[go_sem,ZaA];refine UD _ 14 (by kernel_rfl) fun l2 hl2=> ?_
 simp only[List.drop]at hl2;subst hl2;simp only[go_sem];refine vc1 (hE) ?_;simp only[go_sem];refine vc2 (hF) ?_;simp only[go_sem,fld];refine vc2 (hT) ?_;simp only[go_sem,hi'];refine XP (hidx rfl rfl rfl) ?_;simp only[go_sem,ent];refine vc1 (hO) ?_;simp only[go_sem,i0,i1,Zo hk,ent,hset];refine Za5 (d':=⟨d.head.set k c.now,d.rows⟩) hl hn h0 (by simp only[go_sem,YS]) rfl (by simp only[List.length_set];rfl) rfl (fun x hx=> ?_) (fun x hx=> ?_) rfl (YB hl hn h0)
 ·rw[hR]at hx;exact Xa hl hn h0 x hx
 ·rcases List.mem_cons.1 hx with rfl|hx
  ·rfl
  ·rcases List.mem_cons.1 hx with rfl|hx
   ·rfl
   ·have hb:=h0 _ (ZL hx).1;show upd (upd (upd _ 3000 _) 3001 _) 3000 _ x.1=some x.2;rw[Zc _ _ (by omega),Zc _ _ (by omega),Zc _ _ (by omega)];exact Xp hn hx
open Go.PL Go.RowKit
theorem G6 {rs:List Rw} {it:Str} (h:Sj rs) {i:Nat} (hi:i<rs.length) (e:(rs.getD i default).item=it):Zm rs it=i∧Z9 rs it=true:=by
 have key:=G7 (rs:=rs) (it:=it) hi (fun j hj=>by
  have:=List.pairwise_iff_getElem.1 h j i (by omega) hi hj;rwa[←Zb (d:=default),←Zb (d:=default),e]at this) (by rw[e];exact YD _)
 exact⟨key.1,by rw[key.2,e];simp⟩
theorem ZfR {ns:List Nat}:∀ {rs rs':List Rw},rs.map (fun r=>r.l.length)=rs'.map (fun r=>r.l.length)→U5 ns rs=U5 ns rs':=by
 induction ns with
 |nil=>intro rs rs' _;rfl
 |cons n ns ih=>
  intro rs rs' h
  match rs,rs',h with
  | [],[],_=>rfl
  |r::rs,r'::rs',h=>
   simp only[List.map_cons,List.cons.injEq]at h;have:=ih h.2;unfold U5 at this ⊢;simp only[List.zip_cons_cons,List.filterMap_cons,h.1];rw[this]
theorem ZbA {ns:List Nat}:∀ {rs rs':List Rw},rs.map (fun r=>(r.item,r.l.length))=rs'.map (fun r=>(r.item,r.l.length))→ZA ns rs=ZA ns rs':=by
 induction ns with
 |nil=>intro rs rs' _;rfl
 |cons n ns ih=>
  intro rs rs' h
  match rs,rs',h with
  | [],[],_=>rfl
  |r::rs,r'::rs',h=>
   simp only[List.map_cons,List.cons.injEq,Prod.mk.injEq]at h;have:=ih h.2;unfold ZA at this ⊢;simp only[List.zipWith_cons_cons];rw[this];congr 1;unfold rowN;rw[h.1.1,h.1.2]
theorem ZjT {ns:List Nat}:∀ {rs:List Rw} {x:Nat×List PV},x∈Se ns rs→ ∃j,j<ns.length∧j<rs.length∧(rs.getD j default).l.length≠0∧x=(ns.getD j 0,(rs.getD j default).l.map ent):=by
 intro rs x h;obtain⟨y,hy,e⟩:=List.mem_filterMap.1 h;obtain⟨j,hj,rfl⟩:=List.getElem_of_mem hy;rw[List.length_zip]at hj;rw[List.getElem_zip]at e;refine⟨j,by omega,by omega,?_⟩;rw[Zb (by omega),Zb (by omega)];split at e
 ·cases e
 ·rename_i h0;cases e;exact⟨h0,rfl⟩
theorem Ziw {ns:List Nat} (hn:ns.Nodup) {i j:Nat} (hi:i<ns.length) (hj:j<ns.length) (h:ns.getD i 0=ns.getD j 0):i=j:=by
 rw[Zb hi,Zb hj]at h;rcases Nat.lt_trichotomy i j with h1|h1|h1
 ·exact absurd h (List.pairwise_iff_getElem.1 hn i j hi hj h1)
 ·exact h1
 ·exact absurd h.symm (List.pairwise_iff_getElem.1 hn j i hj hi h1)
theorem Zht (l:List Fd) (ns:List Nat) (d:Dc) (c:Cg) (hl:ns.length=d.rows.length) (hn:ns.Nodup) (h0:∀x∈ns,10000≤x) (hL:l.length≤40) (hL':∀f∈l,f.cases'.length≤1000000) (hf:Vk d) (hs:DK d) (hc:FineC c) (hcn:c.now.l.length≤1000000) (ha:c.was.at'=c.now.at') (hq:(ZZ d c.item c.now.at').2=0) (hw:(ZZ d c.item c.now.at').1=c.was)
  (hq2:(Z3 l c.now.at').2=0) (hft:ZS (Z3 l c.now.at').1 c.now=true) (hi:c.item≠ []) (hri:Sj d.rows) (i k:Nat) (hii:i<d.rows.length) (hit:(d.rows.getD i default).item=c.item) (hk:k<(d.rows.getD i default).l.length) (hix:idx (atE c.now.at') (d.rows.getD i default).l=(k:Int)):
  Eff Try.prog 79 [Zj l,.ptr 1000 0,chg c] (VN ns d) (.int .i64 0) (VN ns ⟨d.head,d.rows.set i ⟨(d.rows.getD i default).item,(d.rows.getD i default).l.set k c.now⟩⟩):=by
 have hd:decide (c.was.at'=c.now.at')=true:=decide_eq_true ha;have hfind:∀ {m:Hp},DocIn m 1000 3001 ns d→_:=fun h=>Zds h hf hs hq
 have hE:=Xd (ZZ d c.item c.now.at').1 c.was (Uk hf _ _) hc.w;rw[decide_eq_true hw]at hE;generalize (ZZ d c.item c.now.at').1=x at *;have hF:=Sk l c.now.at' (by omega) hL';have hfl:(Z3 l c.now.at').1.cases'.length≤maxLen:=by
  unfold Z3;rcases ZN (atF c.now.at') l with h|⟨k,hk,h⟩
  ·rw[h];exact Nat.zero_le _
  ·rw[h,if_neg (by omega)];have:=hL' _ (Zg (d:=default) hk);rw[Zh];exact Nat.le_trans this (by omega)
 have hT:=Vn (Z3 l c.now.at').1 c.now hfl hc.n;rw[hft]at hT;unfold Zjd at hF;rw[hq2]at hF;generalize (Z3 l c.now.at').1=f at *;have hi':(c.item== [])=false:=TI hi;obtain⟨hin,hkn⟩:=G6 hri hii hit;have hrow:∀ {m:Hp},DocIn m 1000 3001 ns d→CallS Try.prog 111 [.ptr 1000 0,.str c.item] m (.tup [.int .i64 (i:Int),.bool true]) m:=fun h=>by
  have:=h.row_s c.item hf.2.1;rwa[hkn,hin]at this
 have hat:(ZA ns d.rows).getD i .any= .agg [.str (d.rows.getD i default).item,.vsl (ns.getD i 0) (d.rows.getD i default).l.length 5]:=by
  rw[UX hl hii];unfold rowN;rw[if_neg (by omega)]
 have hln:=WT hl;have hvm:=TO (ns:=ns) hl hii (by omega);have hqm:=Zig (ns:=ns) hl hii (by omega);have hb0:10000≤ns.getD i 0:=h0 _ (Ze (by omega));have hfl2:=(hf.2.2.2 _ (Zg (d:=default) hii)).1;have j0:(0:Int)≤(i:Int):=by omega
 have j1:(i:Int)<(d.rows.length:Int):=by omega
 have g0:(3000=ns.getD i 0)=False:=eq_false (by omega);have g1:(3001=ns.getD i 0)=False:=eq_false (by omega);have hvi:=Xp hn hvm;have hqi:=Vh hn hqm;simp only at hvi hqi;have hmi:∀(a b:Option (List PV)),upd (upd (Yc ((Se ns d.rows).map fun x=>(x.1,some x.2)) fun _=>none) 3000 a) 3001 b (ns.getD i 0)=some ((d.rows.getD i default).l.map ent):=fun a b=>by
  rw[Zc _ _ (by omega),Zc _ _ (by omega)];exact hvi
 have hidx:∀ {m:Hp},m.v (ns.getD i 0)=some ((d.rows.getD i default).l.map ent)→m.h 5=some (Zi9 c)→m.z 5=true→CallS Try.prog 105 [.vsl (ns.getD i 0) (d.rows.getD i default).l.length 5,.fn 112 [.ptr 5 0]] m (.int .i64 (k:Int)) m:=fun h1 h2 h3=>by
  rw[←hix];exact Zlr c h1 h2 h3 hfl2
 have hO:=YF c.now hcn;have i0:(0:Int)≤(k:Int):=by omega
 have i1:(k:Int)<((d.rows.getD i default).l.length:Int):=by omega
 have hset:=VZ (pv:=ent) (l:=(d.rows.getD i default).l) (k:=k) (x:=c.now);simp only[ent]at hset;have hR:XK 3001 ns ⟨d.head,d.rows.set i ⟨(d.rows.getD i default).item,(d.rows.getD i default).l.set k c.now⟩⟩=XK 3001 ns d:=by
  simp only[XK,List.length_set];rw[ZfR];rw[List.map_set];simp only[List.length_set];rw[show(d.rows.getD i default).l.length=(d.rows.map fun r=>r.l.length)[i]'(by simpa using hii)by rw[List.getElem_map,Zb hii]];exact List.set_getElem_self _
 have hN:ZA ns (d.rows.set i ⟨(d.rows.getD i default).item,(d.rows.getD i default).l.set k c.now⟩)=ZA ns d.rows:=by
  rw[ZbA];rw[List.map_set];simp only[List.length_set];rw[show((d.rows.getD i default).item,(d.rows.getD i default).l.length)=(d.rows.map fun r=>(r.item,r.l.length))[i]'(by simpa using hii)by rw[List.getElem_map,Zb hii]];exact List.set_getElem_self _
 have hl':ns.length=(d.rows.set i ⟨(d.rows.getD i default).item,(d.rows.getD i default).l.set k c.now⟩).length:=by rw[List.length_set];exact hl
 refine Eff.of_v [] Try.func79 (by decide) rfl Try.ntmps79 Try.results79 (by simp) (ZR hl hn h0) (ZR (d:=⟨d.head,d.rows.set i ⟨(d.rows.getD i default).item,(d.rows.getD i default).l.set k c.now⟩⟩) hl' hn h0) (by simp[chg,Zj,PV.ids,PV.idsL,MemL.has]) (by simp[PV.ids]) (fun x hx=>⟨_,List.mem_singleton.2 rfl,by rw[List.mem_singleton.1 hx]⟩) (fun x hx=>⟨x,by show x∈XK 3001 ns _;rw[hR];exact hx,rfl,Row.compat_refl _⟩) fun ph pq=> ?_
 simp only[go_sem,chg,Zj,XK,U4,Zv,hd];refine W0 [0,1,2,3,4,5,6,7,12] 8 9 [9,10,11,13] 14 (by kernel_rfl) (by kernel_rfl) fun l1 hl1=> ?_
 simp only[List.filterMap,List.getElem?_cons_zero,List.getElem?_cons_succ]at hl1;subst hl1;simp only[go_sem];refine Wn rfl rfl rfl rfl (show(30:Nat)<88 by omega) rfl (fun m hm=>hfind ((YU hl hn h0 rfl rfl rfl).near hm (show(88:Nat)≤1000 by omega))) (Gg _) ?_;refine WZ fun l2 hl2=> ?_
 simp only[List.filterMap,List.getElem?_cons_zero,List.getElem?_cons_succ]at hl2;subst hl2;simp only[go_sem,ZaA];refine UD _ 14 (by kernel_rfl) fun l2 hl2=> ?_
 simp only[List.drop]at hl2;subst hl2;simp only[go_sem];refine vc1 (hE) ?_;simp only[go_sem];refine vc2 (hF) ?_;simp only[go_sem,fld];refine vc2 (hT) ?_;simp only[go_sem,hi'];refine XP (hrow (YU hl hn h0 rfl rfl rfl)) ?_;simp only[go_sem,j0,j1,hln,hat];refine XP (hidx (hmi _ _) rfl rfl) ?_;simp only[go_sem,ent];refine vc1 (hO) ?_;simp only[go_sem,i0,i1,Zo hk,ent,hset,g0,g1,hvi,hqi];refine Za5 (d':=⟨d.head,d.rows.set i ⟨(d.rows.getD i default).item,(d.rows.getD i default).l.set k c.now⟩⟩) hl' hn h0 (by simp only[go_sem,YS]) rfl (by simp only[List.length_set];rfl) rfl (fun x hx=> ?_) (fun x hx=> ?_) rfl (YB hl hn h0)
 ·rw[hR]at hx;exact Xa hl hn h0 x hx
 ·show upd (upd (upd _ 3000 _) 3001 _) (ns.getD i 0) _ x.1=some x.2;rcases List.mem_cons.1 hx with rfl|hx
  ·rw[Zc _ _ (by simp only;omega),hN];rfl
  ·rcases List.mem_cons.1 hx with rfl|hx
   ·rw[Zc _ _ (by simp only;omega)];rfl
   ·obtain⟨j,q1,q2,q3,rfl⟩:=ZjT hx;rw[List.length_set]at q2
    by_cases e:j=i
    ·subst e;rw[ZQ hii];exact Za _ _ _
    ·have hb:=h0 _ (Ze (d:=0) q1);rw[Y4 e]at q3 ⊢;rw[Zc _ _ (fun e1=>e (Ziw hn (by omega) q1 e1).symm),Zc _ _ (by omega),Zc _ _ (by omega)];exact Xp hn (TO hl q2 q3)
open Go.PL Go.RowKit
theorem CallS.of_eff {P:Program} {g:FuncId} {args args0:List PV} {m0 m1:MemL} {r:PV} {f' g':Nat→Nat} {m:Hp} (h:Eff P g args0 m0 r m1) (hf:FitsM m0 m1 f' g' m) (he:args=args0.map (PV.ren f' g')):CallS P g args m (r.ren f' g') (DI m1 f' g' m):=by
 subst he;refine⟨h.cal,fun B S M s a w vs hm hs hl hr _=> ?_⟩;subst hm;refine h.call hs hf (by simpa using hl) fun i hi=> ?_
 have:=hr i (by simpa using hi);rwa[show(args0.map (PV.ren f' g')).getD i .any=(args0.getD i .any).ren f' g' by
  rw[Zb (by simpa using hi),Zb hi,List.getElem_map]]at this
def fN (R R2:Nat) (i:Nat):Nat:=if i=3001 then R else if i=3002 then R2 else i
def gN (i:Nat):Nat:=if i=1000 then 9 else i
theorem S7 {R R2 i:Nat} (h:10000≤i):fN R R2 i=i:=by unfold fN;rw[if_neg (by omega),if_neg (by omega)]
structure DocAt (m:Hp) (R:Nat) (ns:List Nat) (d:Dc):Prop where
 h:m.h 9=some [.vsl 3000 d.head.length 5,.vsl R d.rows.length 2]
 z:m.z 9=false
 q:∀x∈XK R ns d,m.q x.1=some x.2
 v:∀x∈U4 R ns d,m.v x.1=some x.2
structure Nam (n0 k R:Nat) (ns:List Nat) (d:Dc):Prop where
 l:ns.length=d.rows.length
 n:ns.Nodup
 lo:∀x∈ns,10000≤x
 hi:∀x∈ns,x<10000+n0+k
 r:3001≤R
 r':R≤3001+k
theorem ZiG {f g:Nat→Nat} {x:Nat} {r:Rw} (h:f x=x):(rowN x r).ren f g=rowN x r:=by
 unfold rowN;split<;>simp[PV.ren,PV.renL,h]
theorem Uv {f g:Nat→Nat}:∀ {ns:List Nat} {rs:List Rw},(∀x∈ns,f x=x)→(ZA ns rs).map (PV.ren f g)=ZA ns rs
 | [],_,_=>by simp[ZA]
 |n::ns,[],_=>by simp[ZA]
 |n::ns,r::rs,h=>by
  have ih:=Uv (f:=f) (g:=g) (ns:=ns) (rs:=rs) fun x hx=>h x (by simp[hx])
  unfold ZA at ih ⊢;rw[List.zipWith_cons_cons,List.map_cons,ZiG (h n (by simp)),ih]
theorem Va {f g:Nat→Nat} (l:List En):(l.map ent).map (PV.ren f g)=l.map ent:=Tu (Yf Yn l)
theorem Zjc {m:Hp} {R R2:Nat} {ns:List Nat} {d:Dc} {m1:MemL} {hd:List PV} (ha:DocAt m R ns d) (hl:∀x∈ns,10000≤x) (h1:m1.H= [(1000,hd)])
  (hnr:∀x∈m1.R,(∃y∈XK 3001 ns d,y.1=x.1)∨m.q (fN R R2 x.1)=none) (hj:∀x∈m1.R,∀y∈m1.R,fN R R2 x.1=fN R R2 y.1→x.1=y.1):FitsM (VN ns d) m1 (fN R R2) gN m:=by
 refine⟨fun x hx=> ?_,fun x hx=> ?_,fun x hx=> ?_,fun x hx=> .inl ?_,hnr,fun x hx y hy _=> ?_,hj⟩
 ·rw[List.mem_singleton.1 hx];exact⟨ha.h,ha.z⟩
 ·rcases List.mem_cons.1 hx with rfl|hx
  ·exact ha.q _ (List.mem_cons_self ..)
  ·rcases List.mem_cons.1 hx with rfl|hx
   ·exact ha.q _ (List.mem_cons_of_mem _ (List.mem_cons_self ..))
   ·rw[S7 (hl _ (YC hx).1)];exact ha.q _ (List.mem_cons_of_mem _ (List.mem_cons_of_mem _ hx))
 ·rcases List.mem_cons.1 hx with rfl|hx
  ·rw[show((3001,ZA ns d.rows):Nat×List PV).2.map (PV.ren (fN R R2) gN)=ZA ns d.rows from Uv fun x hx=>S7 (hl x hx)];exact ha.v _ (List.mem_cons_self ..)
  ·rcases List.mem_cons.1 hx with rfl|hx
   ·rw[show((3000,d.head.map ent):Nat×List PV).2.map (PV.ren (fN R R2) gN)=d.head.map ent from Va _];exact ha.v _ (List.mem_cons_of_mem _ (List.mem_cons_self ..))
   ·obtain⟨_,r,_,e⟩:=ZL hx;rw[S7 (hl _ (ZL hx).1),e,Va,←e];exact ha.v _ (List.mem_cons_of_mem _ (List.mem_cons_of_mem _ hx))
 ·rw[h1]at hx;rw[List.mem_singleton.1 hx];exact⟨_,List.mem_singleton.2 rfl,rfl⟩
 ·rw[h1]at hx hy;rw[List.mem_singleton.1 hx,List.mem_singleton.1 hy]
theorem ZcA {m1:MemL} {f g:Nat→Nat} {m:Hp} (ok:m1.Ok) (jf:∀x∈m1.R,∀y∈m1.R,f x.1=f y.1→x.1=y.1) {x:Nat×Row} (hx:x∈m1.R):(DI m1 f g m).q (f x.1)=some x.2:=
 Wa (α:=Row) (β:=Option Row) (k:=f) (F:=fun x=>some x.2) hx ok.nr jf
theorem ZcB {m1:MemL} {f g:Nat→Nat} {m:Hp} (ok:m1.Ok) (jf:∀x∈m1.R,∀y∈m1.R,f x.1=f y.1→x.1=y.1) {x:Nat×List PV} (hx:x∈m1.V):(DI m1 f g m).v (f x.1)=some (x.2.map (PV.ren f g)):=by
 obtain⟨y,hy,e⟩:=ok.vr x hx;have:=Wa (α:=Row) (β:=Option (List PV)) (k:=f) (F:=fun x=>(m1.hp.v x.1).map (List.map (PV.ren f g))) (f:=m.v) hy ok.nr jf;rw[e]at this;show Yc _ _ _=_;rw[this,ok.v_at hx];rfl
theorem Zge {m1:MemL} {f:Nat→Nat} {m:Hp} {cs:List PV} (h:m1.H= [(1000,cs)]):DI m1 f gN m= { m with h:=upd m.h 9 (some (cs.map (PV.ren f gN))),z:=upd m.z 9 false,q:=(DI m1 f gN m).q,v:=(DI m1 f gN m).v }:=by
 unfold DI;rw[h];rfl
def D4 (g:FuncId) (args:List PV) (m:Hp) (e:Int) (n0 k:Nat) (d':Dc):Prop:=∃cs Q V,CallS Try.prog g args m (.int .i64 e) { m with h:=upd m.h 9 (some cs),z:=upd m.z 9 false,q:=Q,v:=V }∧
 (e=0→ ∃R' ns',Nam n0 (k+1) R' ns' d'∧cs= [.vsl 3000 d'.head.length 5,.vsl R' d'.rows.length 2]∧(∀x∈XK R' ns' d',Q x.1=some x.2)∧ ∀x∈U4 R' ns' d',V x.1=some x.2)
section
variable {m:Hp} {R R2 n0 k:Nat} {ns:List Nat} {d d':Dc} {g:FuncId} {args args0:List PV} {e:Int}
theorem Zh3 {R R2:Nat} {d:Dc} (hl:∀x∈ns,10000≤x) (h1:3001≤R) (h2:R<10000):∀x∈XK 3001 ns d,∀y∈XK 3001 ns d,fN R R2 x.1=fN R R2 y.1→x.1=y.1:=by
 have key:∀x∈XK 3001 ns d,(x.1=3001∧fN R R2 x.1=R)∨(x.1=3000∧fN R R2 x.1=3000)∨(10000≤x.1∧fN R R2 x.1=x.1):=fun x hx=>by
  rcases List.mem_cons.1 hx with rfl|hx
  ·exact .inl ⟨rfl,rfl⟩
  ·rcases List.mem_cons.1 hx with rfl|hx
   ·exact .inr (.inl ⟨rfl,rfl⟩)
   ·have:=hl _ (YC hx).1;exact .inr (.inr ⟨this,S7 this⟩)
 intro x hx y hy he;rcases key x hx with ⟨a,b⟩|⟨a,b⟩|⟨a,b⟩<;>rcases key y hy with ⟨a',b'⟩|⟨a',b'⟩|⟨a',b'⟩<;>omega
theorem X9 (hE:Eff Try.prog g args0 (VN ns d) (.int .i64 e) (VN ns d')) (ha:DocAt m R ns d) (hn:Nam n0 k R ns d) (hk:k≤6900) (hR:XK 3001 ns d'=XK 3001 ns d) (hl':ns.length=d'.rows.length) (he:args=args0.map (PV.ren (fN R 3002) gN)):D4 g args m e n0 k d':=by
 have h9:R<10000:=by have:=hn.r';omega
 have hj:=Zh3 (R2:=3002) (d:=d') hn.lo hn.r h9;have hf:FitsM (VN ns d) (VN ns d') (fN R 3002) gN m:=Zjc ha hn.lo rfl (fun x hx=> .inl ⟨x,by rw[←hR];exact hx,rfl⟩) hj;have hc:=CallS.of_eff hE hf he;rw[Zge (m1:=VN ns d') rfl]at hc;refine⟨_,_,_,hc,fun _=>⟨R,ns,⟨hl',hn.n,hn.lo,fun x hx=>by have:=hn.hi x hx;omega,hn.r,by have:=hn.r';omega⟩,rfl,fun x hx=> ?_,fun x hx=> ?_⟩⟩
 ·rcases List.mem_cons.1 hx with rfl|hx
  ·exact ZcA hE.ok1 hj (x:=(3001,_)) (List.mem_cons_self ..)
  ·have:=ZcA (m:=m) (g:=gN) hE.ok1 hj (x:=x) (List.mem_cons_of_mem _ hx);rwa[show fN R 3002 x.1=x.1 by
    rcases List.mem_cons.1 hx with rfl|hx
    ·rfl
    ·exact S7 (hn.lo _ (YC hx).1)]at this
 ·rcases List.mem_cons.1 hx with rfl|hx
  ·have:=ZcB (m:=m) (g:=gN) hE.ok1 hj (x:=(3001,ZA ns d'.rows)) (List.mem_cons_self ..);rwa[show((3001,ZA ns d'.rows):Nat×List PV).2.map (PV.ren (fN R 3002) gN)=ZA ns d'.rows from Uv fun x hx=>S7 (hn.lo x hx)]at this
  ·have:=ZcB (m:=m) (g:=gN) hE.ok1 hj (x:=x) (List.mem_cons_of_mem _ hx);rcases List.mem_cons.1 hx with rfl|hx
   ·rwa[show((3000,d'.head.map ent):Nat×List PV).2.map (PV.ren (fN R 3002) gN)=d'.head.map ent from Va _]at this
   ·obtain⟨_,r,_,e⟩:=ZL hx;rwa[S7 (hn.lo _ (ZL hx).1),e,Va,←e]at this
end
open Go.PL Go.RowKit
section
variable {m:Hp} {R n0 k n':Nat} {ns nsx ns':List Nat} {d d':Dc} {g:FuncId} {args args0 es:List PV} {hd:List En} {rsx:List Rw}
theorem Zh4 {R R2:Nat} (hx:∀x∈nsx,10000≤x) (h1:3001≤R) (h2:R<10000) (h3:3001≤R2) (h4:R2<10000) (hne:R≠R2):∀x∈(Zdo n' es hd nsx rsx).R,∀y∈(Zdo n' es hd nsx rsx).R,fN R R2 x.1=fN R R2 y.1→x.1=y.1:=by
 have key:∀x∈(Zdo n' es hd nsx rsx).R,(x.1=3002∧fN R R2 x.1=R2)∨(x.1=3001∧fN R R2 x.1=R)∨(x.1=3000∧fN R R2 x.1=3000)∨(10000≤x.1∧fN R R2 x.1=x.1):=fun x hm=>by
  rcases List.mem_cons.1 hm with rfl|hm
  ·exact .inl ⟨rfl,rfl⟩
  ·rcases List.mem_cons.1 hm with rfl|hm
   ·exact .inr (.inl ⟨rfl,rfl⟩)
   ·rcases List.mem_cons.1 hm with rfl|hm
    ·exact .inr (.inr (.inl ⟨rfl,rfl⟩))
    ·have:=hx _ (YC hm).1;exact .inr (.inr (.inr ⟨this,S7 this⟩))
 intro x hx y hy he;rcases key x hx with ⟨a,b⟩|⟨a,b⟩|⟨a,b⟩|⟨a,b⟩<;>rcases key y hy with ⟨a',b'⟩|⟨a',b'⟩|⟨a',b'⟩|⟨a',b'⟩<;>omega
theorem Zjp (hE:Eff Try.prog g args0 (VN ns d) (.int .i64 0) (Zdo d'.rows.length (ZA ns' d'.rows) d'.head nsx rsx)) (ha:DocAt m R ns d) (hn:Nam n0 k R ns d) (hk:k≤6900) (hx:∀x∈nsx,10000≤x)
  (hfr:∀x∈U5 nsx rsx,(∃y∈U5 ns d.rows,y.1=x.1)∨m.q x.1=none) (hq2:m.q (3002+k)=none) (hn':Nam n0 (k+1) (3002+k) ns' d') (f1:∀x∈U5 ns' d'.rows,x∈U5 nsx rsx) (f2:∀x∈Se ns' d'.rows,x∈Se nsx rsx) (he:args=args0.map (PV.ren (fN R (3002+k)) gN)):D4 g args m 0 n0 k d':=by
 have h9:R<10000:=by have:=hn.r';omega
 have hj:=Zh4 (n':=d'.rows.length) (es:=ZA ns' d'.rows) (hd:=d'.head) (rsx:=rsx) (R2:=3002+k) hx hn.r h9 (by omega) (by omega) (by have:=hn.r';omega);have hf:FitsM (VN ns d) (Zdo d'.rows.length (ZA ns' d'.rows) d'.head nsx rsx) (fN R (3002+k)) gN m:=Zjc ha hn.lo rfl (fun x hm=>by
  rcases List.mem_cons.1 hm with rfl|hm
  ·exact .inr hq2
  ·rcases List.mem_cons.1 hm with rfl|hm
   ·exact .inl ⟨_,List.mem_cons_self ..,rfl⟩
   ·rcases List.mem_cons.1 hm with rfl|hm
    ·exact .inl ⟨_,List.mem_cons_of_mem _ (List.mem_cons_self ..),rfl⟩
    ·rcases hfr x hm with ⟨y,hy,e⟩|h
     ·exact .inl ⟨y,List.mem_cons_of_mem _ (List.mem_cons_of_mem _ hy),e⟩
     ·right;rw[S7 (hx _ (YC hm).1)];exact h) hj
 have hc:=CallS.of_eff hE hf he;rw[Zge (m1:=Zdo d'.rows.length (ZA ns' d'.rows) d'.head nsx rsx) rfl]at hc;refine⟨_,_,_,hc,fun _=>⟨3002+k,ns',hn',rfl,fun x hm=> ?_,fun x hm=> ?_⟩⟩
 ·rcases List.mem_cons.1 hm with rfl|hm
  ·exact ZcA hE.ok1 hj (x:=(3002,_)) (List.mem_cons_self ..)
  ·rcases List.mem_cons.1 hm with rfl|hm
   ·exact ZcA hE.ok1 hj (x:=(3000,_)) (List.mem_cons_of_mem _ (List.mem_cons_of_mem _ (List.mem_cons_self ..)))
   ·have:=ZcA (m:=m) (g:=gN) hE.ok1 hj (x:=x) (List.mem_cons_of_mem _ (List.mem_cons_of_mem _ (List.mem_cons_of_mem _ (f1 x hm))));rwa[S7 (hn'.lo _ (YC hm).1)]at this
 ·rcases List.mem_cons.1 hm with rfl|hm
  ·have:=ZcB (m:=m) (g:=gN) hE.ok1 hj (x:=(3002,ZA ns' d'.rows)) (List.mem_cons_self ..);rwa[show((3002,ZA ns' d'.rows):Nat×List PV).2.map (PV.ren (fN R (3002+k)) gN)=ZA ns' d'.rows from Uv fun x hx=>S7 (hn'.lo x hx)]at this
  ·rcases List.mem_cons.1 hm with rfl|hm
   ·have:=ZcB (m:=m) (g:=gN) hE.ok1 hj (x:=(3000,d'.head.map ent)) (List.mem_cons_of_mem _ (List.mem_cons_self ..));rwa[show((3000,d'.head.map ent):Nat×List PV).2.map (PV.ren (fN R (3002+k)) gN)=d'.head.map ent from Va _]at this
   ·have:=ZcB (m:=m) (g:=gN) hE.ok1 hj (x:=x) (List.mem_cons_of_mem _ (List.mem_cons_of_mem _ (f2 x hm)));obtain⟨_,r,_,e⟩:=ZL hm;rwa[S7 (hn'.lo _ (ZL hm).1),e,Va,←e]at this
end
def UN {α:Type} (i:Nat) (x:α) (l:List α):List α:=l.take i++x::l.drop i
def S6 {α:Type} (i:Nat) (l:List α):List α:=l.take i++l.drop (i+1)
theorem VV {α:Type} {i:Nat} {x:α} {l:List α} (h:i≤l.length):(UN i x l).length=l.length+1:=by
 unfold UN;simp only[List.length_append,List.length_take,List.length_cons,List.length_drop];omega
theorem Zdn {α:Type} {i:Nat} {l:List α} (h:i<l.length):(S6 i l).length+1=l.length:=by
 unfold S6;simp only[List.length_append,List.length_take,List.length_drop];omega
theorem T0 {α:Type} {i:Nat} {x y:α} {l:List α} (h:y∈UN i x l):y∈l∨y=x:=by
 rcases List.mem_append.1 h with h|h
 ·exact .inl (List.mem_of_mem_take h)
 ·rcases List.mem_cons.1 h with h|h
  ·exact .inr h
  ·exact .inl (List.mem_of_mem_drop h)
theorem TZ {α:Type} {i:Nat} {y:α} {l:List α} (h:y∈S6 i l):y∈l:=by
 rcases List.mem_append.1 h with h|h
 ·exact List.mem_of_mem_take h
 ·exact List.mem_of_mem_drop h
theorem delL_sub {α:Type} {i:Nat} {l:List α}:(S6 i l).Sublist l:=by
 have h:(l.take i++l.drop (i+1)).Sublist (l.take i++l.drop i):=(List.Sublist.refl _).append (by
  rw[show l.drop (i+1)=(l.drop i).drop 1 by rw[List.drop_drop]];exact List.drop_sublist _ _)
 rwa[List.take_append_drop]at h
theorem ZeE {α:Type} {i:Nat} {x:α} {l:List α} (h:l.Nodup) (hx:x∉l):(UN i x l).Nodup:=by
 have hs:l.Nodup↔(l.take i++l.drop i).Nodup:=by rw[List.take_append_drop]
 obtain⟨h1,h2,h3⟩:=List.nodup_append.1 (hs.1 h);refine List.nodup_append.2 ⟨h1,List.nodup_cons.2 ⟨fun h=>hx (List.mem_of_mem_drop h),h2⟩,fun a ha b hb=> ?_⟩;rcases List.mem_cons.1 hb with rfl|hb
 ·exact fun e=>hx (e▸List.mem_of_mem_take ha)
 ·exact h3 a ha b hb
theorem DH {α β γ:Type} {f:α→β→γ} {i:Nat} {a:α} {b:β} {A:List α} {B:List β} (h:A.length=B.length):List.zipWith f (UN i a A) (UN i b B)=UN i (f a b) (List.zipWith f A B):=by
 unfold UN;rw[List.zipWith_append (by simp[h]),List.zipWith_cons_cons,List.take_zipWith,List.drop_zipWith]
theorem DG {α β γ:Type} {f:α→β→γ} {i:Nat} {A:List α} {B:List β} (h:A.length=B.length):List.zipWith f (S6 i A) (S6 i B)=S6 i (List.zipWith f A B):=by
 unfold S6;rw[List.zipWith_append (by simp[h]),List.take_zipWith,List.drop_zipWith]
theorem Zhh {α β:Type} {i:Nat} {a:α} {b:β} {A:List α} {B:List β} (h:A.length=B.length):(UN i a A).zip (UN i b B)=UN i (a,b) (A.zip B):=DH h
theorem Zhf {α β:Type} {i:Nat} {A:List α} {B:List β} (h:A.length=B.length):(S6 i A).zip (S6 i B)=S6 i (A.zip B):=DG h
theorem Zif {ns:List Nat} {rs:List Rw} {i nm:Nat} {r:Rw} (h:ns.length=rs.length) {x:Nat×Row} (hx:x∈U5 (UN i nm ns) (UN i r rs)):x∈U5 (ns++ [nm]) (rs++ [r]):=by
 obtain⟨y,hy,e⟩:=List.mem_filterMap.1 hx;rw[Zhh h]at hy;refine List.mem_filterMap.2 ⟨y,?_,e⟩;rw[List.zip_append h];rcases T0 hy with h|rfl
 ·exact List.mem_append_left _ h
 ·exact List.mem_append_right _ (by simp)
theorem Zii {ns:List Nat} {rs:List Rw} {i nm:Nat} {r:Rw} (h:ns.length=rs.length) {x:Nat×List PV} (hx:x∈Se (UN i nm ns) (UN i r rs)):x∈Se (ns++ [nm]) (rs++ [r]):=by
 obtain⟨y,hy,e⟩:=List.mem_filterMap.1 hx;rw[Zhh h]at hy;refine List.mem_filterMap.2 ⟨y,?_,e⟩;rw[List.zip_append h];rcases T0 hy with h|rfl
 ·exact List.mem_append_left _ h
 ·exact List.mem_append_right _ (by simp)
theorem Zie {ns:List Nat} {rs:List Rw} {i:Nat} (h:ns.length=rs.length) {x:Nat×Row} (hx:x∈U5 (S6 i ns) (S6 i rs)):x∈U5 ns rs:=by
 obtain⟨y,hy,e⟩:=List.mem_filterMap.1 hx;rw[Zhf h]at hy;exact List.mem_filterMap.2 ⟨y,TZ hy,e⟩
theorem Zih {ns:List Nat} {rs:List Rw} {i:Nat} (h:ns.length=rs.length) {x:Nat×List PV} (hx:x∈Se (S6 i ns) (S6 i rs)):x∈Se ns rs:=by
 obtain⟨y,hy,e⟩:=List.mem_filterMap.1 hx;rw[Zhf h]at hy;exact List.mem_filterMap.2 ⟨y,TZ hy,e⟩
open Go.PL Go.RowKit
def X1 (l:List Fd) (d:Dc) (c:Cg):Dc×Int:=
 if c.was.at'≠c.now.at' then(d,5)else
 if(ZZ d c.item c.now.at').2≠0 then(d,(ZZ d c.item c.now.at').2)else
 if(ZZ d c.item c.now.at').1≠c.was then(d,11)else
 if ZS (Z3 l c.now.at').1 c.now=false then(d,11)else(Uz d (Xh d c.item c.now.at') c.now,0)
def Tl (l:List Fd) (d:Dc) (c:Cg):Dc×Int:=
 if Z8 c.item=false then(d,5)else
 if Z9 d.rows c.item=true then(d,7)else
 if(400:Int)≤(d.rows.length:Int)then(d,14)else
 if Zk (Zi l 1) c.l=false then(d,5)else(⟨d.head,UN (Zm d.rows c.item) ⟨c.item,c.l⟩ d.rows⟩,0)
def Sc (d:Dc) (c:Cg):Dc×Int:=
 if Z9 d.rows c.item=false then(d,12)else
 if(d.rows.getD (Zm d.rows c.item) default).l≠c.l then(d,11)else(⟨d.head,S6 (Zm d.rows c.item) d.rows⟩,0)
def X4 (l:List Fd) (d:Dc) (c:Cg):Dc×Int:=
 if c.kind=1 then X1 l d c else if c.kind=2 then Tl l d c else if c.kind=3 then Sc d c else(d,2)
def goQ (l:List Fd):Dc→List Cg→Nat→Dc×Int×Int
 |d,[],i=>(d,(i:Int),0)
 |d,c::cs,i=>if(X4 l d c).2=0 then goQ l (X4 l d c).1 cs (i+1)else(default,(i:Int),(X4 l d c).2)
def YI (l:List Fd) (d:Dc) (cs:List Cg):Dc×Int×Int:=if Zl l d=true then goQ l d cs 0 else(default,0,5)
theorem ZcG {l:List Fd} {d:Dc} {c:Cg} (hr:Zl l d=true) (h:(X1 l d c).2=0):Zl l (X1 l d c).1=true:=by
 unfold X1 at h ⊢;split
 ·exact hr
 ·split
  ·exact hr
  ·split
   ·exact hr
   ·split
    ·exact hr
    ·rename_i c1 c2 c3 c4;rw[TQ]at c2;exact(ZgI hr (by simpa using c2) (by simpa using c4)).2.1
theorem Zep {l:List Fd} {d:Dc} {c:Cg} (hr:Zl l d=true):Zl l (Tl l d c).1=true:=by
 unfold Tl;split
 ·exact hr
 ·split
  ·exact hr
  ·split
   ·exact hr
   ·split
    ·exact hr
    ·rename_i c1 c2 c3 c4;obtain⟨r1,r2,r3,r4,r5⟩:=Ya.1 hr;refine Ya.2 ⟨r1,?_,r3,Zf8 (r:=⟨c.item,c.l⟩) r4 (by simpa using c2),fun r hm=> ?_⟩
     ·rw[VV (Yp _ _)];omega
     ·rcases T0 hm with h|rfl
      ·exact r5 r h
      ·exact⟨by simpa using c1,by simpa using c4⟩
theorem ZfJ {l:List Fd} {d:Dc} (hr:Zl l d=true) (i:Nat):Zl l ⟨d.head,S6 i d.rows⟩=true:=by
 obtain⟨r1,r2,r3,r4,r5⟩:=Ya.1 hr;exact Ya.2 ⟨r1,Nat.le_trans delL_sub.length_le r2,r3,List.Pairwise.sublist delL_sub r4,fun r hm=>r5 r (TZ hm)⟩
theorem Ze8 {l:List Fd} {d:Dc} {c:Cg} (hr:Zl l d=true):Zl l (Sc d c).1=true:=by
 unfold Sc;split
 ·exact hr
 ·split
  ·exact hr
  ·exact ZfJ hr _
theorem U0 {l:List Fd} {d:Dc} {c:Cg} (hr:Zl l d=true) (h:(X4 l d c).2=0):Zl l (X4 l d c).1=true:=by
 unfold X4 at h ⊢;split
 ·rename_i e;rw[if_pos e]at h;exact ZcG hr h
 ·split
  ·exact Zep hr
  ·split
   ·exact Ze8 hr
   ·exact hr
theorem ZiJ {l:List Fd} (hl:Yu l=true) (it:Str):(Vb l (GL l) it).2=if Z8 it=false then 5 else 0:=by
 have hb:Zl l (GL l)=true:=Ya.2 ⟨hl,Nat.zero_le _,Zck hl 0,List.Pairwise.nil,fun r hr=>by cases hr⟩;unfold Vb;rw[hb,Bool.true_and];split
 ·rfl
 ·rw[if_neg (by unfold Z9 DJ;rw[show(GL l).rows= []from rfl];simp[idx]),if_neg (by show ¬(400:Int)≤((0:Nat):Int);omega)]
theorem Fa {L:List Fd} {es:List En} (h:Zk L es=true):∀e∈es,e.l.length≤400:=by
 simp only[Zk,Bool.and_eq_true,decide_eq_true_eq,List.all_eq_true,List.mem_range]at h;intro e he;obtain⟨i,hi,rfl⟩:=List.getElem_of_mem he;have h1:=h.2 i (by omega);rw[Zb hi]at h1;simp only[ZS,Bool.and_eq_true]at h1;have h2:=h1.2;split at h2
 ·simp only[Zct,Bool.and_eq_true,beq_iff_eq]at h2;have:=h2.2.2;omega
 ·simp only[U3,Bool.and_eq_true]at h2;have h3:=h2.1;split at h3
  ·simp at h3;omega
  ·simp at h3;omega
theorem Uy (l:List Fd) (s:Int):(Zi l s).length≤l.length:=List.length_filter_le _ _
theorem UW {l:List Fd} {d:Dc} (hr:Zl l d=true) (hL:l.length≤40):OkDd d:=by
 obtain⟨r1,r2,r3,r4,r5⟩:=Ya.1 hr;have h0:=Uy l 0;have h1:=Uy l 1;refine⟨by rw[XT r3];omega,by omega,fun e he=>by have:=Fa r3 e he;omega,fun r hm=>⟨by rw[XT (r5 r hm).2];omega,fun e he=>by have:=Fa (r5 r hm).2 e he;omega⟩⟩
theorem ZcO {l:List Fd} {d:Dc} (hr:Zl l d=true) (hL:l.length≤40):DK d:=by
 have h:=UW hr hL;exact⟨h.e,fun r hm=>(h.s r hm).2⟩
open Go.PL Go.RowKit
theorem Za9 (l:List Fd):(Zj l).ids= []:=by simp[Zj,PV.ids]
theorem Zdm (c:Cg):(chg c).ids= []:=by simp[chg,PV.ids,PV.idsL]
theorem ZgD {f:Nat→Nat} (l:List Fd) (c:Cg): [Zj l,.ptr 9 0,chg c]= [Zj l,.ptr 1000 0,chg c].map (PV.ren f gN):=by
 simp only[List.map_cons,List.map_nil,WS _ (Za9 l),WS _ (Zdm c)];rfl
theorem ZmS {f:Nat→Nat} (c:Cg): [.ptr 9 0,chg c]= [.ptr 1000 0,chg c].map (PV.ren f gN):=by
 simp only[List.map_cons,List.map_nil,WS _ (Zdm c)];rfl
section
variable {m:Hp} {R n0 k:Nat} {ns:List Nat} {l:List Fd} {d:Dc} {c:Cg}
theorem Zkb (hr:Zl l d=true) (hL:l.length≤40) (hL':∀f∈l,f.cases'.length≤1000000) (hc:FineC c) (hcn:c.now.l.length≤1000000) (ha:DocAt m R ns d) (hn:Nam n0 k R ns d) (hk:k≤6900):
  D4 79 [Zj l,.ptr 9 0,chg c] m (X1 l d c).2 n0 k (X1 l d c).1:=by
 have hf:=(UW hr hL).fine;have hs:=ZcO hr hL;unfold X1;split
 ·rename_i c1;exact X9 (ZjC l ns d c hn.l hn.n hn.lo c1) ha hn hk rfl hn.l (ZgD l c)
 ·rename_i c1;have c1:c.was.at'=c.now.at':=by simpa using c1
  split
  ·rename_i c2;exact X9 (ZjD l ns d c hn.l hn.n hn.lo hf hs c1 _ rfl c2) ha hn hk rfl hn.l (ZgD l c)
  ·rename_i c2;have c2:(ZZ d c.item c.now.at').2=0:=by simpa using c2
   have c2':(Xh d c.item c.now.at').2.2=0:=by rw[←TQ];exact c2
   have hF:(Z3 l c.now.at').2=0:=by
    rcases UY (it:=c.item) (r:=c.now.at') hr with h|⟨_,k,j,_,_,_,hj,s3⟩|⟨_,i,k,j,_,_,_,_,_,_,hj,s3⟩
    ·exact absurd c2' h
    ·unfold Z3;rw[s3,if_neg (by omega)]
    ·unfold Z3;rw[s3,if_neg (by omega)]
   split
   ·rename_i c3;exact X9 (ZjE l ns d c hn.l hn.n hn.lo hf hs hc c1 c2 c3) ha hn hk rfl hn.l (ZgD l c)
   ·rename_i c3;have c3:(ZZ d c.item c.now.at').1=c.was:=by simpa using c3
    split
    ·rename_i c4;exact X9 (ZjF l ns d c hn.l hn.n hn.lo hL hL' hf hs hc c1 c2 c3 hF c4) ha hn hk rfl hn.l (ZgD l c)
    ·rename_i c4;have c4:ZS (Z3 l c.now.at').1 c.now=true:=by simpa using c4
     rcases UY (it:=c.item) (r:=c.now.at') hr with h|⟨hi,k',j,hk',s1,s2,hj,s3⟩|⟨hi,i,k',j,hii,s0,s0',hk',s1,s2,hj,s3⟩
     ·exact absurd c2' h
     ·have hx:Uz d (Xh d c.item c.now.at') c.now=⟨d.head.set k' c.now,d.rows⟩:=by
       unfold Uz;rw[s2,if_pos (by simp)];rfl
      rw[hx];exact X9 (d':=⟨d.head.set k' c.now,d.rows⟩) (Zhs l ns d c hn.l hn.n hn.lo hL hL' hf hs hc hcn c1 c2 c3 hF c4 hi k' hk' s1) ha hn hk (by simp only[XK,List.length_set]) hn.l (ZgD l c)
     ·have hx:Uz d (Xh d c.item c.now.at') c.now=⟨d.head,d.rows.set i ⟨(d.rows.getD i default).item,(d.rows.getD i default).l.set k' c.now⟩⟩:=by
       unfold Uz;rw[s2,if_neg (by simp)];simp only[Int.toNat_natCast]
      rw[hx];refine X9 (d':=⟨d.head,d.rows.set i ⟨(d.rows.getD i default).item,(d.rows.getD i default).l.set k' c.now⟩⟩) (Zht l ns d c hn.l hn.n hn.lo hL hL' hf hs hc hcn c1 c2 c3 hF c4 hi (Ya.1 hr).2.2.2.1 i k' hii s0' hk' s1) ha hn hk ?_ (by simp only[List.length_set];exact hn.l) (ZgD l c);simp only[XK,List.length_set];rw[ZfR];rw[List.map_set];simp only[List.length_set];rw[show(d.rows.getD i default).l.length=(d.rows.map fun r=>r.l.length)[i]'(by simpa using hii)by rw[List.getElem_map,Zb hii]];exact List.set_getElem_self _
theorem Zlj (hr:Zl l d=true) (hL:l.length≤40) (hL':∀f∈l,f.cases'.length≤1000000) (hc:FineC c) (hcl:c.l.length≤100000) (hcx:∀e∈c.l,e.l.length≤1000000) (ha:DocAt m R ns d) (hn:Nam n0 k R ns d) (hk:k≤6900) (hq2:m.q (3002+k)=none) (hqn:m.q (10000+n0+k)=none):
  D4 80 [Zj l,.ptr 9 0,chg c] m (Tl l d c).2 n0 k (Tl l d c).1:=by
 have hf:=(UW hr hL).fine;have hb:=ZiJ (Ya.1 hr).1 c.item;unfold Tl;split
 ·rename_i c1;rw[if_pos c1]at hb;exact X9 (Zhn l ns d c hn.l hn.n hn.lo hL hL' 5 hb (by decide)) ha hn hk rfl hn.l (ZgD l c)
 ·rename_i c1;rw[if_neg c1]at hb;split
  ·rename_i c2;exact X9 (Zk7 l ns d c hn.l hn.n hn.lo hL hL' hf hb c2) ha hn hk rfl hn.l (ZgD l c)
  ·rename_i c2;have c2:Z9 d.rows c.item=false:=by simpa using c2
   split
   ·rename_i c3;exact X9 (ZjA l ns d c hn.l hn.n hn.lo hL hL' hf hb c2 c3) ha hn hk rfl hn.l (ZgD l c)
   ·rename_i c3;split
    ·rename_i c4;exact X9 (Zk6 l ns d c hn.l hn.n hn.lo hL hL' hf hc hb c2 c3 c4) ha hn hk rfl hn.l (ZgD l c)
    ·rename_i c4;have c4:Zk (Zi l 1) c.l=true:=by simpa using c4
     have hnn:10000+n0+k∉ns:=fun h=>by have:=hn.hi _ h;omega
     have hE:=Zk5 l ns d c (10000+n0+k) (by omega) hnn hn.l hn.n hn.lo hL hL' hf hc hcl hcx hb c2 c3 c4 _ rfl;have hle:=Yp d.rows c.item;have e1:(UN (Zm d.rows c.item) (⟨c.item,c.l⟩:Rw) d.rows).length=d.rows.length+1:=VV hle;have e2:ZA (UN (Zm d.rows c.item) (10000+n0+k) ns) (UN (Zm d.rows c.item) ⟨c.item,c.l⟩ d.rows)=(ZA ns d.rows).take (Zm d.rows c.item)++rowN (10000+n0+k) ⟨c.item,c.l⟩::(ZA ns d.rows).drop (Zm d.rows c.item):=DH hn.l;rw[←e2,←e1]at hE;refine Zjp (d':=⟨d.head,UN (Zm d.rows c.item) ⟨c.item,c.l⟩ d.rows⟩) hE ha hn hk (fun x hx=> ?_) (fun x hx=> ?_) hq2 ⟨?_,ZeE hn.n hnn,fun x hx=> ?_,fun x hx=> ?_,by omega,by omega⟩ (fun x hx=>Zif hn.l hx) (fun x hx=>Zii hn.l hx) (ZgD l c)
     ·rcases List.mem_append.1 hx with h|h
      ·exact hn.lo x h
      ·rw[List.mem_singleton.1 h];omega
     ·rw[(F9 hn.l).1]at hx;rcases List.mem_append.1 hx with h|h
      ·exact .inl ⟨x,h,rfl⟩
      ·right;split at h
       ·cases h
       ·rw[List.mem_singleton.1 h];exact hqn
     ·rw[VV (by have:=hn.l;omega),VV hle,hn.l]
     ·rcases T0 hx with h|rfl
      ·exact hn.lo x h
      ·omega
     ·rcases T0 hx with h|rfl
      ·have:=hn.hi x h;omega
      ·omega
theorem Zmq (hr:Zl l d=true) (hL:l.length≤40) (hc:FineC c) (ha:DocAt m R ns d) (hn:Nam n0 k R ns d) (hk:k≤6900) (hq2:m.q (3002+k)=none):
  D4 81 [.ptr 9 0,chg c] m (Sc d c).2 n0 k (Sc d c).1:=by
 have hf:=(UW hr hL).fine;unfold Sc;split
 ·rename_i c1;exact X9 (ZjH ns d c hn.l hn.n hn.lo hf.2.1 c1) ha hn hk rfl hn.l (ZmS c)
 ·rename_i c1;have c1:Z9 d.rows c.item=true:=by simpa using c1
  have hi:Zm d.rows c.item<d.rows.length:=by
   unfold Z9 at c1;simp only[Bool.and_eq_true,decide_eq_true_eq]at c1;unfold Zm;rw[if_neg (by omega)];rcases ZN (WQ c.item) d.rows with h|⟨k,hk,h⟩
   ·have:=c1.1;unfold DJ at this;omega
   ·unfold DJ;rw[h];simpa using hk
  obtain⟨n',hn'⟩:∃n',d.rows.length=n'+1:=⟨d.rows.length-1,by omega⟩;split
  ·rename_i c2;exact X9 (ZjG ns d c hn.l hn.n hn.lo hf hc c1 hi c2) ha hn hk rfl hn.l (ZmS c)
  ·rename_i c2;have c2:(d.rows.getD (Zm d.rows c.item) default).l=c.l:=by simpa using c2
   have hE:=Zlc ns d c n' hn' hn.l hn.n hn.lo hf hc c1 _ rfl (by omega) c2;have e1:(S6 (Zm d.rows c.item) d.rows).length=n':=by have:=Zdn hi;omega
   have e2:ZA (S6 (Zm d.rows c.item) ns) (S6 (Zm d.rows c.item) d.rows)=(ZA ns d.rows).take (Zm d.rows c.item)++(ZA ns d.rows).drop (Zm d.rows c.item+1):=DG hn.l;rw[←e2,←e1]at hE;refine Zjp (d':=⟨d.head,S6 (Zm d.rows c.item) d.rows⟩) hE ha hn hk (fun x hx=>hn.lo x hx) (fun x hx=> .inl ⟨x,hx,rfl⟩) hq2 ⟨?_,List.Pairwise.sublist delL_sub hn.n,fun x hx=>hn.lo x (TZ hx),fun x hx=>by have:=hn.hi x (TZ hx);omega,by omega,by omega⟩ (fun x hx=>Zie hn.l hx) (fun x hx=>Zih hn.l hx) (ZmS c);have:=Zdn (l:=ns) (i:=Zm d.rows c.item) (by have:=hn.l;omega);have:=hn.l;simp only;omega
end
open Go.PL Go.RowKit
theorem Pure.dullR {P:Program} {f:FuncId} {args:List PV} {r:PV} (h:PL.Pure P f args r) (hd:r.dull.dids= []):PL.Pure P f args r.dull:=
 ⟨h.1,hd,fun w S vs hst hyo hlen hr=>(h.2.2 w S vs hst hyo hlen hr).mono fun e w' ⟨v,S',h1,h2,h3⟩=>⟨v,S',h1,h2.dull,h3⟩⟩
theorem ZgZ {M:KH} {K:KR} {g:FuncId} {args:List PV} {r:PV} {F:List PV→(Nat→Option Row)→(Nat→Option (List PV))→Prop} (h1:∃cs Q V,CallS Try.prog g args M.m r { M.m with h:=upd M.m.h 9 (some cs),z:=upd M.m.z 9 false,q:=Q,v:=V }∧F cs Q V)
  (h2:∀cs Q V,F cs Q V→K.k r { M.m with h:=upd M.m.h 9 (some cs),z:=upd M.m.z 9 false,q:=Q,v:=V }):@T9 Try.prog true M (some (g,args)) K:=by
 obtain⟨cs,Q,V,h,hF⟩:=h1;exact XP h (h2 cs Q V hF)
theorem Zi0 {M:KH} {K:KR} {g:FuncId} {args:List PV} {r:PV} {F:(Nat→Option Row)→(Nat→Option (List PV))→Prop} (h1:∃Q V,CallS Try.prog g args M.m r { M.m with q:=Q,v:=V }∧F Q V)
  (h2:∀Q V,F Q V→K.k r { M.m with q:=Q,v:=V }):@T9 Try.prog true M (some (g,args)) K:=by
 obtain⟨Q,V,h,hF⟩:=h1;exact XP h (h2 Q V hF)
theorem ZmR {m:Hp} {d:Dc} (hd:OkDd d) (hq:∀i,m.q i=none):∃Q V,CallS Try.prog 18 [doc d] m (.agg [.vsl 3000 d.head.length 5,.vsl 3001 d.rows.length 2]) { m with q:=Q,v:=V }∧(∀x∈XK 3001 (nsU d.rows.length) d,Q x.1=some x.2)∧ ∀x∈U4 3001 (nsU d.rows.length) d,V x.1=some x.2:=by
 have hE:=Zhu d hd.h hd.r hd.e hd.s
 let f:Nat→Nat:=fun i=>if i=26 then 3001 else i
 have fhi:∀i,10000≤i→f i=i:=fun i hi=>if_neg (by omega)
 have key:∀x∈(Ziz (nsU d.rows.length) d).R,(x.1=26∧f x.1=3001)∨(x.1=3000∧f x.1=3000)∨(10000≤x.1∧f x.1=x.1):=fun x hx=>by
  rcases List.mem_cons.1 hx with rfl|hx
  ·exact .inl ⟨rfl,rfl⟩
  ·rcases List.mem_cons.1 hx with rfl|hx
   ·exact .inr (.inl ⟨rfl,rfl⟩)
   ·have:=(YH (YC hx).1).1;exact .inr (.inr ⟨this,fhi _ this⟩)
 have hj:∀x∈(Ziz (nsU d.rows.length) d).R,∀y∈(Ziz (nsU d.rows.length) d).R,f x.1=f y.1→x.1=y.1:=fun x hx y hy he=>by
  rcases key x hx with ⟨a,b⟩|⟨a,b⟩|⟨a,b⟩<;>rcases key y hy with ⟨a',b'⟩|⟨a',b'⟩|⟨a',b'⟩<;>omega
 have hf:FitsM noV (Ziz (nsU d.rows.length) d) f gN m:=⟨by simp,by simp,by simp,by simp,fun x hx=> .inr (hq _),by simp,hj⟩;have hc:=CallS.of_eff hE hf (args:= [doc d]) (by simp only[List.map_cons,List.map_nil];rw[WS _ (by simp[doc,Zt,PV.ids,PV.idsL])]);refine⟨(DI (Ziz (nsU d.rows.length) d) f gN m).q,(DI (Ziz (nsU d.rows.length) d) f gN m).v,hc,fun x hx=> ?_,fun x hx=> ?_⟩
 ·rcases List.mem_cons.1 hx with rfl|hx
  ·exact ZcA hE.ok1 hj (x:=(26,_)) (List.mem_cons_self ..)
  ·have:=ZcA (m:=m) (g:=gN) hE.ok1 hj (x:=x) (List.mem_cons_of_mem _ hx);rwa[show f x.1=x.1 by
    rcases List.mem_cons.1 hx with rfl|hx
    ·rfl
    ·exact fhi _ (YH (YC hx).1).1]at this
 ·rcases List.mem_cons.1 hx with rfl|hx
  ·have:=ZcB (m:=m) (g:=gN) hE.ok1 hj (x:=(26,ZA (nsU d.rows.length) d.rows)) (List.mem_cons_self ..);rwa[show((26,ZA (nsU d.rows.length) d.rows):Nat×List PV).2.map (PV.ren f gN)=ZA (nsU d.rows.length) d.rows from Uv fun x hx=>fhi _ (YH hx).1]at this
  ·have:=ZcB (m:=m) (g:=gN) hE.ok1 hj (x:=x) (List.mem_cons_of_mem _ hx);rcases List.mem_cons.1 hx with rfl|hx
   ·rwa[show((3000,d.head.map ent):Nat×List PV).2.map (PV.ren f gN)=d.head.map ent from Va _]at this
   ·obtain⟨_,r,_,e⟩:=ZL hx;rwa[fhi _ (YH (ZL hx).1).1,e,Va,←e]at this
section
variable {R:Nat} {ns:List Nat} {d:Dc}
theorem Zco (hn:ns.Nodup) (h0:∀x∈ns,10000≤x) (h1:3001≤R) (h2:R<10000):∀x∈XK R ns d,upd (upd (Yc ((U5 ns d.rows).map fun x=>(x.1,some x.2)) fun _=>none) 3000 (some (.vec d.head.length 5 27))) R (some (.vec d.rows.length 2 53)) x.1=some x.2:=fun x hx=>by
 rcases List.mem_cons.1 hx with rfl|hx
 ·exact Za _ _ _
 ·rcases List.mem_cons.1 hx with rfl|hx
  ·rw[Zc _ _ (by simp only;omega)];rfl
  ·have hb:=h0 _ (YC hx).1;rw[Zc _ _ (by omega),Zc _ _ (by omega)];exact Vh hn hx
theorem Ss (hn:ns.Nodup) (h0:∀x∈ns,10000≤x) (h1:3001≤R) (h2:R<10000):∀x∈U4 R ns d,upd (upd (Yc ((Se ns d.rows).map fun x=>(x.1,some x.2)) fun _=>none) 3000 (some (d.head.map ent))) R (some (ZA ns d.rows)) x.1=some x.2:=fun x hx=>by
 rcases List.mem_cons.1 hx with rfl|hx
 ·exact Za _ _ _
 ·rcases List.mem_cons.1 hx with rfl|hx
  ·rw[Zc _ _ (by simp only;omega)];rfl
  ·have hb:=h0 _ (ZL hx).1;rw[Zc _ _ (by omega),Zc _ _ (by omega)];exact Xp hn hx
theorem ZfM {i:Nat} (h1:i≠R) (h2:i≠3000) (h3:i∉ns) {a b:Option Row}:upd (upd (Yc ((U5 ns d.rows).map fun x=>(x.1,some x.2)) fun _=>none) 3000 a) R b i=none:=by
 rw[Zc _ _ (Ne.symm h1),Zc _ _ (Ne.symm h2)];exact Tp h3
end
structure OkCg (c:Cg):Prop where
 w:c.was.l.length≤1000000
 n:c.now.l.length≤1000000
 l:c.l.length≤100000
 e:∀e∈c.l,e.l.length≤1000000
theorem OkCg.fine {c:Cg} (h:OkCg c):FineC c:=by
 have e:=Zh;exact⟨by have:=h.w;omega,by have:=h.n;omega,by have:=h.l;omega,fun x hx=>by have:=h.e x hx;omega⟩
def Znl:PV:= .agg [.sl .nil [],.sl .nil []]
def V4 (x:Dc×Int×Int):PV:= .tup [if x.2.2=0 then doc x.1 else Znl,.int .i64 x.2.1,.int .i64 x.2.2]
theorem GF (x:Dc×Int×Int):(V4 x).dids= []:=by
 unfold V4;split
 ·simp only[PV.dids,PV.didsL,TN,List.append_nil]
 ·simp[Znl,PV.dids,PV.didsL]
theorem Zdy {l:List Fd} {d:Dc} {cs:List Cg} {k:Nat} (h:k<cs.length):goQ l d (cs.drop k) k=if(X4 l d (cs.getD k default)).2=0 then goQ l (X4 l d (cs.getD k default)).1 (cs.drop (k+1)) (k+1)else(default,(k:Int),(X4 l d (cs.getD k default)).2):=by
 rw[List.drop_eq_getElem_cons h,Zb h];rfl
open Go.PL Go.RowKit
structure At (l:List Fd) (n0:Nat) (d0:Dc) (cs:List Cg) (k R:Nat) (ns:List Nat) (d:Dc):Prop where
 le:k≤cs.length
 nm:Nam n0 k R ns d
 r:Zl l d=true
 g:goQ l d (cs.drop k) k=goQ l d0 cs 0
theorem SM {M:KH} {K:KR} {g:FuncId} {args:List PV} {e:Int} {n0 k:Nat} {d':Dc} (h1:D4 g args M.m e n0 k d')
  (h2:∀cs Q V,(e=0→ ∃R' ns',Nam n0 (k+1) R' ns' d'∧cs= [.vsl 3000 d'.head.length 5,.vsl R' d'.rows.length 2]∧(∀x∈XK R' ns' d',Q x.1=some x.2)∧ ∀x∈U4 R' ns' d',V x.1=some x.2)→K.k (.int .i64 e) { M.m with h:=upd M.m.h 9 (some cs),z:=upd M.m.z 9 false,q:=Q,v:=V }):@T9 Try.prog true M (some (g,args)) K:=ZgZ h1 h2
theorem Zcp {R:Nat} {ns:List Nat} {d:Dc} {i:Nat} (h1:i≠R) (h2:i≠3000) (h3:i∉ns):Yc ((XK R ns d).map fun x=>(x.1,some x.2)) (fun _=>none) i=none:=ZfM (ns:=ns) (d:=d) h1 h2 h3
theorem Pub.tup3 {K:Ref→Prop} {m:Hp} {a b c a' b' c':PV} (h1:Pub K m a a') (h2:Pub K m b b') (h3:Pub K m c c'):Pub K m (.tup [a,b,c]) (.tup [a',b',c']):= .tup [a,b,c] [a',b',c'] rfl fun i hi=>by
 match i,hi with
 |0,_=>exact h1
 |1,_=>exact h2
 |2,_=>exact h3
theorem ZhP (d:Dc) (n:Int):V4 (d,n,0)= .tup [doc d,.int .i64 n,.int .i64 0]:=by unfold V4;rw[if_pos rfl]
theorem Gf (d:Dc) (n e:Int) (h:e≠0):V4 (d,n,e)= .tup [.agg [.sl .nil [],.sl .nil []],.int .i64 n,.int .i64 e]:=by unfold V4;rw[if_neg h];rfl
theorem Zhm (l:List Fd) (d:Dc) (cs:List Cg) (hL:l.length≤40) (hL':∀f∈l,f.cases'.length≤1000000) (hd:OkDd d) (hr:Zl l d=false):
  PL.Pure Try.prog 35 [Zj l,doc d,Ym cs] (V4 (default,0,5)):=by
 have hR:=XE l d (by rw[Zh];omega) hL' hd.fine;rw[hr]at hR;refine PL.Pure.of_p [] Try.func35 (by decide) rfl Try.ntmps35 Try.results35 (by simp) (GF _) ?_;simp only[go_sem,Zj,doc,Ym];refine vc2 (hR) ?_;simp only[go_sem];exact⟨_,rfl,.clean (by simp[PV.ids,PV.idsL])⟩
theorem Zhl (l:List Fd) (d:Dc) (cs:List Cg) (hL:l.length≤40) (hL':∀f∈l,f.cases'.length≤1000000) (hd:OkDd d) (hcs:cs.length≤6900) (hc:∀c∈cs,OkCg c) (hr:Zl l d=true):
  PL.Pure Try.prog 35 [Zj l,doc d,Ym cs] (V4 (goQ l d cs 0)):=by
 have hR:=XE l d (by rw[Zh];omega) hL' hd.fine;rw[hr]at hR;have hm:cs.length≤maxLen:=by rw[Zh];omega
 refine PL.Pure.of_p [] Try.func35 (by decide) rfl Try.ntmps35 Try.results35 (by simp) (GF _) ?_;simp only[go_sem,Zj,doc,Ym];refine vc2 (hR) ?_;simp only[go_sem];refine Zi0 (ZmR hd (fun i=>rfl)) fun Q V hF=> ?_
 simp only[go_sem];refine FI (ι:= { x:Nat×Nat×List Nat×Dc // At l d.rows.length d cs x.1 x.2.1 x.2.2.1 x.2.2.2 }) 52 (fun x=> [(0,.sl .no (l.map fld)),(2,.sl .no (cs.map chg)),(6,.ptr 6 0),(9,.ptr 9 0),(20,.sl .no (cs.map chg)),(21,.int .i64 (cs.length:Int)),(22,.int .i64 (x.1.1:Int))]) (fun x=> [(6,[.sl .nil [],.sl .nil []],false),(9,[.vsl 3000 x.1.2.2.2.head.length 5,.vsl x.1.2.1 x.1.2.2.2.rows.length 2],false)]) (fun x=>XK x.1.2.1 x.1.2.2.1 x.1.2.2.2) (fun _=> []) (fun _=> []) (fun x=>U4 x.1.2.1 x.1.2.2.1 x.1.2.2.2) (fun _=> []) [] [] [] (fun x=>cs.length-x.1.1) ⟨(0,3001,nsU d.rows.length,d),⟨Nat.zero_le _,⟨Zaj _,Xv _,fun x hx=>(YH hx).1,fun x hx=>(YH hx).2,by simp,by simp⟩,hr,rfl⟩⟩
  ?_ (fun x=> ?_) (fun x=> ?_)
 ·exact⟨⟨rfl,(Fc7 rfl rfl rfl rfl rfl rfl rfl),Fc2 ⟨rfl,rfl⟩ ⟨rfl,rfl⟩,fun x hx=>hF.1 x hx⟩,by simp,by simp,fun x hx=>hF.2 x hx,by simp,by simp,by simp⟩
 ·obtain⟨⟨k,R,ns,d'⟩,hk,hn,hr',hg⟩:=x;have lo:∀x∈ns,10000≤x:=hn.lo;refine⟨⟨by simp[PV.ids,PV.idsL,ZV],by simp[PV.ids,PV.idsL,ZV,XK]⟩,fun y hy=> ?_,by simp,fun y hy=> ?_,by simp,by simp⟩
  ·rcases List.mem_cons.1 hy with rfl|hy
   ·exact FB fun x hx=>by simp only[XK,List.map_cons,YG];simp[hx]
   ·have:∃l:List En,y.2=l.map ent:=by
     rcases List.mem_cons.1 hy with rfl|hy
     ·exact⟨_,rfl⟩
     ·obtain⟨_,r,_,e⟩:=ZL hy;exact⟨_,e⟩
    obtain⟨l,e⟩:=this;rw[e,WO Yn l];rfl
  ·have:y.1∈R::3000::Uo ns d'.rows:=by
    rw[←Ww];rcases List.mem_cons.1 hy with rfl|hy
    ·simp
    ·rcases List.mem_cons.1 hy with rfl|hy
     ·simp
     ·exact List.mem_cons_of_mem _ (List.mem_cons_of_mem _ (List.mem_map.2 ⟨y,hy,rfl⟩))
   rw[List.contains_iff_mem];simp only[XK,List.map_cons,YG];exact this
 obtain⟨⟨k,R,ns,d'⟩,hk,hn,hr',hg⟩:=x;simp only at hk hn hr' hg ⊢
 by_cases h:(k:Int)<(cs.length:Int)
 ·have hka:k<cs.length:=by omega
  have w1:=Wp hka hm;have i1:(0:Int)≤(k:Int):=by omega
  have hck:=hc _ (Zg (d:=default) hka);rw[Zdy hka]at hg;have h9:R<10000:=by have:=hn.r';omega
  have hgc:(cs.map chg).getD k .any=chg (cs.getD k default):=TR hka;generalize cs.getD k default=c at *;have hsr:=U0 (l:=l) (c:=c) hr'
  by_cases k1:c.kind=1
  ·have hst:X4 l d' c=X1 l d' c:=by unfold X4;rw[if_pos k1]
   have b1:(c.kind==1)=true:=by simpa using k1
   rw[hst]at hg hsr;simp only[go_sem,h,hgc,chg,i1,b1];refine SM (Zkb hr' hL hL' hck.fine hck.n ⟨rfl,rfl,Zco hn.n hn.lo hn.r h9,Ss hn.n hn.lo hn.r h9⟩ hn (by omega)) fun cs' Q' V' hF'=> ?_
   by_cases he:(X1 l d' c).2=0
   ·have hb:((X1 l d' c).2 !=0)=false:=by simpa using he
    rw[if_pos he]at hg;obtain⟨R',ns',hn',rfl,hq',hv'⟩:=hF' he;simp only[go_sem,hb,w1];exact⟨⟨(k+1,R',ns',(X1 l d' c).1),⟨by omega,hn',hsr he,hg⟩⟩,by show cs.length-(k+1)<cs.length-k;omega,⟨rfl,(Fc7 rfl rfl rfl rfl rfl rfl rfl),Fc2 ⟨rfl,rfl⟩ ⟨rfl,rfl⟩,fun x hx=>hq' x hx⟩,by simp,by simp,fun x hx=>hv' x hx,by simp,by simp,by simp⟩
   ·have hb:((X1 l d' c).2 !=0)=true:=by simpa using he
    rw[if_neg he]at hg;rw[←hg,Gf _ _ _ he];simp only[go_sem,hb];exact⟨_,rfl,.clean (by simp[PV.ids,PV.idsL])⟩
  by_cases k2:c.kind=2
  ·have hst:X4 l d' c=Tl l d' c:=by unfold X4;rw[if_neg k1,if_pos k2]
   have b1:(c.kind==1)=false:=by simpa using k1
   have b2:(c.kind==2)=true:=by simpa using k2
   rw[hst]at hg hsr;simp only[go_sem,h,hgc,chg,i1,b1,b2];refine SM (Zlj hr' hL hL' hck.fine hck.l hck.e ⟨rfl,rfl,Zco hn.n hn.lo hn.r h9,Ss hn.n hn.lo hn.r h9⟩ hn (by omega) (Zcp (R:=R) (ns:=ns) (d:=d') (i:=3002+k) (by have:=hn.r';omega) (by omega) (fun h=>by have:=hn.lo _ h;omega)) (Zcp (R:=R) (ns:=ns) (d:=d') (i:=10000+d.rows.length+k) (by omega) (by omega) (fun h=>by have:=hn.hi _ h;omega))) fun cs' Q' V' hF'=> ?_
   by_cases he:(Tl l d' c).2=0
   ·have hb:((Tl l d' c).2 !=0)=false:=by simpa using he
    rw[if_pos he]at hg;obtain⟨R',ns',hn',rfl,hq',hv'⟩:=hF' he;simp only[go_sem,hb,w1];exact⟨⟨(k+1,R',ns',(Tl l d' c).1),⟨by omega,hn',hsr he,hg⟩⟩,by show cs.length-(k+1)<cs.length-k;omega,⟨rfl,(Fc7 rfl rfl rfl rfl rfl rfl rfl),Fc2 ⟨rfl,rfl⟩ ⟨rfl,rfl⟩,fun x hx=>hq' x hx⟩,by simp,by simp,fun x hx=>hv' x hx,by simp,by simp,by simp⟩
   ·have hb:((Tl l d' c).2 !=0)=true:=by simpa using he
    rw[if_neg he]at hg;rw[←hg,Gf _ _ _ he];simp only[go_sem,hb];exact⟨_,rfl,.clean (by simp[PV.ids,PV.idsL])⟩
  by_cases k3:c.kind=3
  ·have hst:X4 l d' c=Sc d' c:=by unfold X4;rw[if_neg k1,if_neg k2,if_pos k3]
   have b1:(c.kind==1)=false:=by simpa using k1
   have b2:(c.kind==2)=false:=by simpa using k2
   have b3:(c.kind==3)=true:=by simpa using k3
   rw[hst]at hg hsr;simp only[go_sem,h,hgc,chg,i1,b1,b2,b3];refine SM (Zmq hr' hL hck.fine ⟨rfl,rfl,Zco hn.n hn.lo hn.r h9,Ss hn.n hn.lo hn.r h9⟩ hn (by omega) (Zcp (R:=R) (ns:=ns) (d:=d') (i:=3002+k) (by have:=hn.r';omega) (by omega) (fun h=>by have:=hn.lo _ h;omega))) fun cs' Q' V' hF'=> ?_
   by_cases he:(Sc d' c).2=0
   ·have hb:((Sc d' c).2 !=0)=false:=by simpa using he
    rw[if_pos he]at hg;obtain⟨R',ns',hn',rfl,hq',hv'⟩:=hF' he;simp only[go_sem,hb,w1];exact⟨⟨(k+1,R',ns',(Sc d' c).1),⟨by omega,hn',hsr he,hg⟩⟩,by show cs.length-(k+1)<cs.length-k;omega,⟨rfl,(Fc7 rfl rfl rfl rfl rfl rfl rfl),Fc2 ⟨rfl,rfl⟩ ⟨rfl,rfl⟩,fun x hx=>hq' x hx⟩,by simp,by simp,fun x hx=>hv' x hx,by simp,by simp,by simp⟩
   ·have hb:((Sc d' c).2 !=0)=true:=by simpa using he
    rw[if_neg he]at hg;rw[←hg,Gf _ _ _ he];simp only[go_sem,hb];exact⟨_,rfl,.clean (by simp[PV.ids,PV.idsL])⟩
  have hst:X4 l d' c=(d',2):=by unfold X4;rw[if_neg k1,if_neg k2,if_neg k3]
  rw[hst,if_neg (show ¬((2:Int)=0)by decide)]at hg;rw[←hg,Gf _ _ _ (show(2:Int)≠0 by decide)];have b1:(c.kind==1)=false:=by simpa using k1
  have b2:(c.kind==2)=false:=by simpa using k2
  have b3:(c.kind==3)=false:=by simpa using k3
  simp only[go_sem,h,hgc,chg,i1,b1,b2,b3];exact⟨_,rfl,.clean (by simp[PV.ids,PV.idsL])⟩
 ·obtain rfl:k=cs.length:=by omega
  rw[List.drop_length]at hg;have hg:(d',(cs.length:Int),0)=goQ l d cs 0:=hg;rw[←hg,ZhP];have h9:R<10000:=by have:=hn.r';omega
  simp only[go_sem,h];refine⟨_,rfl,Pub.tup3 (DocIn.agg (b:=9) (R:=R) (ns:=ns) ⟨rfl,rfl,?_,?_,fun x hx=> ?_,hn.l⟩) (.clean rfl) (.clean rfl)⟩
  ·exact Ss (d:=d') hn.n hn.lo hn.r h9 (3000,_) (List.mem_cons_of_mem _ (List.mem_cons_self ..))
  ·exact Ss (d:=d') hn.n hn.lo hn.r h9 (R,_) (List.mem_cons_self ..)
  ·exact Ss (d:=d') hn.n hn.lo hn.r h9 x (List.mem_cons_of_mem _ (List.mem_cons_of_mem _ hx))
open Go.PL Go.RowKit
theorem Zcw {l:List Fd}:∀ {cs:List Cg} {d:Dc} {k:Nat},(goQ l d cs k).2.2≠0→(goQ l d cs k).1=default
 | [],d,k,h=>absurd rfl h
 |c::cs,d,k,h=>by
  unfold goQ at h ⊢;split
  ·rename_i e;rw[if_pos e]at h;exact Zcw h
  ·rfl
theorem Zh8 (r:Rw):(row r).dull=row r:=by simp[row,PV.dull,PV.dullL,Za1]
theorem ZfO (l:List Rw):PV.dullL (l.map row)=l.map row:=by
 rw[PV.dullL_map,List.map_map];exact List.map_congr_left fun e _=>Zh8 e
theorem Zh6 (d:Dc):(doc d).dull=doc d:=by simp[doc,Zt,PV.dull,PV.dullL,Za1,ZfO]
def WH (x:Dc×Int×Int):PV:= .tup [doc x.1,.int .i64 x.2.1,.int .i64 x.2.2]
theorem VR (x:Dc×Int×Int):(WH x).dids= []:=by simp only[WH,PV.dids,PV.didsL,TN,List.append_nil]
theorem GT {x:Dc×Int×Int} (h:x.2.2≠0→x.1=default):(V4 x).dull=WH x:=by
 unfold V4 WH;split
 ·simp[PV.dull,PV.dullL,Zh6]
 ·rename_i e;rw[h e];rfl
theorem Sf (l:List Fd) (d:Dc) (cs:List Cg) (hL:l.length≤40) (hL':∀f∈l,f.cases'.length≤1000000) (hd:OkDd d) (hcs:cs.length≤6900) (hc:∀c∈cs,OkCg c):
  PL.Pure Try.prog 35 [Zj l,doc d,Ym cs] (WH (YI l d cs)):=by
 unfold YI;split
 ·rename_i hr;have e:(V4 (goQ l d cs 0)).dull=WH (goQ l d cs 0):=GT Zcw;rw[←e];exact Pure.dullR (Zhl l d cs hL hL' hd hcs hc hr) (by rw[e];exact VR _)
 ·rename_i hr;have e:(V4 (default,0,5)).dull=WH (default,0,5):=GT fun _=>rfl
  rw[←e];exact Pure.dullR (Zhm l d cs hL hL' hd (by simpa using hr)) (by rw[e];exact VR _)
theorem Zdz {l:List Fd}:∀ {cs:List Cg} {d:Dc} {k:Nat},Zl l d=true→(goQ l d cs k).2.2=0→Zl l (goQ l d cs k).1=true
 | [],d,k,hr,_=>hr
 |c::cs,d,k,hr,h=>by
  unfold goQ at h ⊢;split
  ·rename_i e;rw[if_pos e]at h;exact Zdz (U0 hr e) h
  ·rename_i e;rw[if_neg e]at h;exact absurd h e
theorem GG {l:List Fd} {d:Dc} {cs:List Cg} (h:(YI l d cs).2.2=0):Zl l (YI l d cs).1=true:=by
 unfold YI at h ⊢;split
 ·rename_i hr;rw[if_pos hr]at h;exact Zdz hr h
 ·rename_i hr;rw[if_neg hr]at h;exact absurd h (by decide)
open Go.PL Go.RowKit
theorem ZaE (l0:List Fd) (es:List En) (hl0:l0.length≤100000) (hes:es.length≤maxLen) (hl0':∀f∈l0,f.cases'.length≤maxLen) (hes':∀e∈es,e.l.length≤maxLen):PL.Pure Try.prog 115 [Zj l0,Zt es] (.bool (Zk (Zi l0 1) es)):=by
 have hS:=Xe l0 1 (by omega);have hl':∀f∈Zi l0 1,f.cases'.length≤maxLen:=fun f hf=>hl0' f (List.mem_filter.1 hf).1
 have hl:(Zi l0 1).length≤maxLen:=by have:=Uy l0 1;rw[Zh];omega
 generalize Zi l0 1=l at *
 by_cases he:l.length=es.length
 ·have he':((l.length:Int) !=(es.length:Int))=false:=by rw[he];exact bne_self_eq_false _
  have hx:Zk l es=(List.range es.length).all (fun i=>ZS (l.getD i default) (es.getD i default)):=by simp only[Zk,he,decide_true,Bool.true_and]
  rw[hx];refine ZO Try.func115 rfl Try.ntmps115 Try.results115 ?_;simp only[go_sem,Zj,Zt];refine vc2 (hS) ?_;simp only[go_sem,Zj,he'];refine ZK (ι:= { k:Nat // k≤es.length∧ ∀j,j<k→ZS (l.getD j default) (es.getD j default)=true }) 30 (fun x=> [(1,Zt es),(5,Zj l),(6,.int .i64 (x.1:Int))]) (fun x=> []) (fun x=> []) (fun x=>es.length-x.1) ⟨0,by omega,fun j hj=>by omega⟩
   ⟨rfl,(Fc3 rfl rfl rfl),fnl,fnl⟩ (fun x=>⟨(Fc3 rfl rfl rfl),fnl⟩) (fun x=> ?_)
  obtain⟨k,hk,hall⟩:=x;simp only
  by_cases h:(k:Int)<(es.length:Int)
  ·have hka:k<l.length:=by omega
   have hkb:k<es.length:=by omega
   have w1:=Wp hkb hes;have i1:(0:Int)≤(k:Int):=by omega
   have i2:(k:Int)<(l.length:Int):=by omega
   have hF:=Ti (l.getD k default) (es.getD k default) (hl' _ (Zg hka)) (hes' _ (Zg hkb));cases hf:ZS (l.getD k default) (es.getD k default)
   ·rw[hf]at hF;have hz:=ZX (p:=fun i=>ZS (l.getD i default) (es.getD i default)) hkb hf;simp only[go_sem,Zj,Zt,h];refine vDq ?_;simp only[go_sem,Zy hka,ZE hkb,fld,ent,h,i1,i2];refine vc2 (hF) ?_;simp only[go_sem,hz]
   ·rw[hf]at hF;simp only[go_sem,Zj,Zt,h];refine vDq ?_;simp only[go_sem,Zy hka,ZE hkb,fld,ent,h,i1,i2];refine vc2 (hF) ?_;simp only[go_sem,w1];exact⟨⟨k+1,by omega,Zn hall hf⟩,by show es.length-(k+1)<es.length-k;omega,⟨rfl,(Fc3 rfl rfl rfl),fnl,fnl⟩⟩
  ·have hz:=WR (p:=fun i=>ZS (l.getD i default) (es.getD i default)) (n:=es.length) (fun j hj=>hall j (by omega));simp only[go_sem,Zj,Zt,h,hz]
 ·have he':((l.length:Int) !=(es.length:Int))=true:=bne_iff_ne.2 (by omega);refine ZO Try.func115 rfl Try.ntmps115 Try.results115 ?_;simp only[go_sem,Zj,Zt];refine vc2 (hS) ?_;simp only[go_sem,Zj,he',Zk,he,Bool.false_and]
open Go.PL Go.RowKit
def ZlG (l:List Fd) (d:Dc) (c:Cg):Dc×Int:=
 if c.was.at'≠c.now.at' then(d,5)else
 if(ZZ d c.item c.now.at').2≠0 then(d,(ZZ d c.item c.now.at').2)else
 if(ZZ d c.item c.now.at').1≠c.was then(d,11)else Zb4 l d c.item c.now
def ZlI (d:Dc) (c:Cg):Dc×Int:=
 if idx (fun r:Rw=>r.item==c.item) d.rows<0 then(d,12)else
 if(d.rows.getD (idx (fun r:Rw=>r.item==c.item) d.rows).toNat default).l≠c.l then(d,11)else(⟨d.head,S6 (idx (fun r:Rw=>r.item==c.item) d.rows).toNat d.rows⟩,0)
theorem Zla (l:List Fd) (d:Dc) (c:Cg) (hk:c.kind<1∨3<c.kind):PL.Pure Try.prog 82 [Zj l,doc d,chg c] (.tup [doc d,.int .i64 2]):=by
 by_cases h1:c.kind<1
 ·refine YX Try.func82 rfl Try.ntmps82 Try.results82 (Zu _ _) ?_;simp only[go_sem,Zj,doc,chg,h1]
 ·have h3:3<c.kind:=by omega
  refine YX Try.func82 rfl Try.ntmps82 Try.results82 (Zu _ _) ?_;simp only[go_sem,Zj,doc,chg,h1,h3]
theorem ZnY (l:List Fd) (d:Dc) (c:Cg) (hL:l.length≤40) (hL':∀f∈l,f.cases'.length≤1000000) (hd:OkDd d) (hc:OkCg c) (hk:c.kind=1):PL.Pure Try.prog 82 [Zj l,doc d,chg c] (.tup [doc (ZlG l d c).1,.int .i64 (ZlG l d c).2]):=by
 have h1:¬c.kind<1:=by omega
 have h3:¬3<c.kind:=by omega
 have hb:(c.kind==1)=true:=by simpa using hk
 have one:(1:Nat)≤maxLen:=by rw[Zh];omega
 have hF:=D2 d c.item c.now.at' hd.fine;have hX:=Uk hd.fine c.item c.now.at';have hS:=Zfm l d c.item c.now (by omega) hL' hd.h hd.r (fun r hr=>(hd.s r hr).1) hd.fine hc.n;have hw:c.was.l.length≤maxLen:=hc.fine.w;unfold Za3 at hF;unfold ZlG;split
 ·rename_i a1;have a1:decide (c.was.at'=c.now.at')=false:=by simpa using a1
  refine YX Try.func82 rfl Try.ntmps82 Try.results82 (Zu _ _) ?_;simp only[go_sem,Zj,doc,chg,h1,h3,hb,Zv,a1]
 ·rename_i a1;have a1:decide (c.was.at'=c.now.at')=true:=by simpa using a1
  generalize ZZ d c.item c.now.at'=x at *;split
  ·rename_i a2;have a2:(x.2 !=0)=true:=by simpa using a2
   refine YX Try.func82 rfl Try.ntmps82 Try.results82 (Zu _ _) ?_;simp only[go_sem,Zj,doc,chg,h1,h3,hb,Zv,a1];refine vc1 (hF) ?_;simp only[go_sem,ent,a2];rfl
  ·rename_i a2;have a2:(x.2 !=0)=false:=by simpa using a2
   have h4:=TD x.1;have h5:=TD c.was;have h6:=Y9 [x.1] [c.was] one one (by simpa using hX) (by simpa using hw);simp only[List.cons.injEq,and_true]at h6;split
   ·rename_i a3;rw[decide_eq_false a3]at h6;refine YX Try.func82 rfl Try.ntmps82 Try.results82 (Zu _ _) ?_;simp only[go_sem,Zj,doc,chg,h1,h3,hb,Zv,a1];refine vc1 (hF) ?_;simp only[go_sem,ent,a2];refine vDq ?_;simp only[go_sem];refine vc1 (h4) ?_;simp only[go_sem];refine vc1 (h5) ?_;simp only[go_sem];refine vc1 (h6) ?_;simp only[go_sem];rfl
   ·rename_i a3;rw[decide_eq_true (by simpa using a3)]at h6;refine YX Try.func82 rfl Try.ntmps82 Try.results82 (Zu _ _) ?_;simp only[go_sem,Zj,doc,chg,h1,h3,hb,Zv,a1];refine vc1 (hF) ?_;simp only[go_sem,ent,a2];refine vDq ?_;simp only[go_sem];refine vc1 (h4) ?_;simp only[go_sem];refine vc1 (h5) ?_;simp only[go_sem];refine vc1 (h6) ?_;simp only[go_sem];refine vc2 (hS) ?_;simp only[go_sem,doc]
open Go.PL Go.RowKit
theorem ZfH (l:List Rw) (k:Nat):cut (l.map row) 0 (k:Int)=(l.take k).map row:=by simp[cut,List.map_take]
theorem ZfG (l:List Rw) (k:Nat):cut (l.map row) (k:Int) (l.length:Int)=(l.drop k).map row:=by simp[cut,List.map_drop,List.take_of_length_le]
theorem Zn0 (l:List Fd) (d:Dc) (c:Cg) (hL:l.length≤40) (hd:OkDd d) (hc:OkCg c) (hk:c.kind=3):PL.Pure Try.prog 82 [Zj l,doc d,chg c] (.tup [doc (ZlI d c).1,.int .i64 (ZlI d c).2]):=by
 have h1:¬c.kind<1:=by omega
 have h3:¬3<c.kind:=by omega
 have hb1:(c.kind==1)=false:=by simp[hk]
 have hb2:(c.kind==2)=false:=by simp[hk]
 have hA:=XH d c.item hd.fine.2.1;unfold ZlI;rcases ZN (fun r:Rw=>r.item==c.item) d.rows with hp|⟨k,hk,hp⟩
 ·rw[hp]at hA ⊢;rw[if_pos (by decide)];refine YX Try.func82 rfl Try.ntmps82 Try.results82 (Zu _ _) ?_;simp only[go_sem,Zj,doc,chg,h1,h3,hb1,hb2];refine vc1 (hA) ?_;simp only[go_sem];rfl
 ·rw[hp]at hA ⊢;rw[if_neg (by omega),Int.toNat_natCast];have i0:(0:Int)≤(k:Int):=by omega
  have ik:¬(k:Int)<0:=by omega
  have iz:(k:Int)<(d.rows.length:Int):=by omega
  have hf:=hd.fine.2.2.2 _ (Zg (d:=default) hk);have hcf:=hc.fine;have hE:=Y9 (d.rows.getD k default).l c.l hf.1 hcf.l hf.2 hcf.e
  by_cases he:(d.rows.getD k default).l=c.l
  ·rw[decide_eq_true he]at hE;rw[if_neg (by simpa using he)];refine YX Try.func82 rfl Try.ntmps82 Try.results82 (Zu _ _) ?_;simp only[go_sem,Zj,doc,chg,h1,h3,hb1,hb2];refine vc1 (hA) ?_;simp only[go_sem,ik];refine vDq ?_;simp only[go_sem,i0,iz,ZB hk,row];refine vc1 (hE) ?_;simp only[go_sem];have w1:IntKind.i64.wrap ((k:Int)+1)=((k+1:Nat):Int):=Wp hk hd.fine.2.1;have ie:(k:Int)≤(d.rows.length:Int):=by omega
   have j0:(0:Int)≤((k+1:Nat):Int):=by omega
   have j1:((k+1:Nat):Int)≤(d.rows.length:Int):=by omega
   have hdr:=hd.r;have hlt:(d.rows.take k).length=k:=by rw[List.length_take];omega
   have hld:(d.rows.drop (k+1)).length=d.rows.length-(k+1):=List.length_drop ..;have hrm1:=XC (show k≤1000000 by omega) (show 40≤1000 by omega);have hrm2:=XC (show k+(d.rows.length-(k+1))≤1000000 by omega) (show 40≤1000 by omega);simp only[go_sem,i0,ie,ZfH,Yq,WI,hrm1,hlt];refine vDq ?_;simp only[go_sem,w1,j0,j1,ZfG,Yq,WI,hrm2,hlt,hld];exact⟨Int.le_refl _,by simp only[doc,Zt,S6,List.map_append]⟩
  ·rw[decide_eq_false he]at hE;rw[if_pos he];refine YX Try.func82 rfl Try.ntmps82 Try.results82 (Zu _ _) ?_;simp only[go_sem,Zj,doc,chg,h1,h3,hb1,hb2];refine vc1 (hA) ?_;simp only[go_sem,ik];refine vDq ?_;simp only[go_sem,i0,iz,ZB hk,row];refine vc1 (hE) ?_;simp only[go_sem];rfl
open Go.PL Go.RowKit
def ZlH (l:List Fd) (d:Dc) (c:Cg):Dc×Int:=
 if(Vb l d c.item).2≠0 then(d,(Vb l d c.item).2)else
 if Zk (Zi l 1) c.l=false then(d,5)else(⟨d.head,UN (Zm d.rows c.item) ⟨c.item,c.l⟩ d.rows⟩,0)
theorem ZjX {rs:List Rw} {it:Str} {a:List En}:idx (fun x:Rw=>x.item==it) (Vl rs ⟨it,a⟩)=(Zm rs it:Int):=by
 have hj:=Yp rs it;refine YN (d:=default) (by rw[Wj];show Zm rs it<_;omega) (fun i hi=> ?_) ?_
 ·have hg:(Vl rs ⟨it,a⟩).getD i default=rs.getD i default:=by unfold Vl;rw[XV hj,if_pos hi]
  rw[hg];have h1:=Gd hi;cases he:(rs.getD i default).item==it with
  |false=>rfl
  |true=>
   simp only[beq_iff_eq]at he;rw[he,YD]at h1;cases h1
 ·have hg:(Vl rs ⟨it,a⟩).getD (Zm rs it) default=⟨it,a⟩:=by unfold Vl;rw[XV hj,if_neg (by simp),if_pos rfl]
  rw[hg];simp
theorem ZjY {rs:List Rw} {it:Str} {a b:List En}:(Vl rs ⟨it,a⟩).set (Zm rs it) ⟨it,b⟩=UN (Zm rs it) ⟨it,b⟩ rs:=by
 have hj:=Yp rs it;have hl:(rs.take (Zm rs it)).length=Zm rs it:=by rw[List.length_take];omega
 unfold Vl UN;simp only;rw[List.set_append,if_neg (by omega),hl,Nat.sub_self,List.set_cons_zero]
theorem Zls {rs:List Rw} {it:Str} {a:List En}:(Vl rs ⟨it,a⟩).getD (Zm rs it) default=⟨it,a⟩:=by
 have hj:=Yp rs it;unfold Vl;rw[XV hj,if_neg (by simp),if_pos rfl]
theorem ZnZ (l:List Fd) (d:Dc) (c:Cg) (hL:l.length≤40) (hL':∀f∈l,f.cases'.length≤1000000) (hd:OkDd d) (hc:OkCg c) (hk:c.kind=2):PL.Pure Try.prog 82 [Zj l,doc d,chg c] (.tup [doc (ZlH l d c).1,.int .i64 (ZlH l d c).2]):=by
 have h1:¬c.kind<1:=by omega
 have h3:¬3<c.kind:=by omega
 have hb1:(c.kind==1)=false:=by simp[hk]
 have hb2:(c.kind==2)=true:=by simp[hk]
 have hR:=Zfl l d c.item (by omega) hL' hd.h hd.r hd.fine;have hcf:=hc.fine;have hT:=ZaE l c.l (by omega) hcf.l (fun f hf=>by have:=hL' f hf;rw[Zh];omega) hcf.e;unfold ZlH
 by_cases hq:(Vb l d c.item).2=0
 ·rw[if_neg (by simpa using hq)];cases he:Zk (Zi l 1) c.l
  ·rw[he]at hT;rw[if_pos rfl];rw[hq]at hR;generalize (Vb l d c.item).1=R at *;refine YX Try.func82 rfl Try.ntmps82 Try.results82 (Zu _ _) ?_;simp only[go_sem,Zj,doc,chg,h1,h3,hb1,hb2];refine vc2 (hR) ?_;simp only[go_sem,doc];refine vc2 (hT) ?_;simp only[go_sem];rfl
  ·rw[he]at hT;rw[if_neg (by simp)];obtain⟨q1,q2,q3,q4⟩:Zl l d=true∧Z8 c.item=true∧Z9 d.rows c.item=false∧ ¬(400:Int)≤(d.rows.length:Int):=by
    unfold Vb at hq;split at hq
    ·simp at hq
    ·rename_i c1;split at hq
     ·simp at hq
     ·rename_i c2;split at hq
      ·simp at hq
      ·rename_i c3;have c1:Zl l d=true∧Z8 c.item=true:=by simpa using c1
       exact⟨c1.1,c1.2,by simpa using c2,c3⟩
   obtain⟨i,hE⟩:=Zhy l d c.item (by omega) hL' hd.h hd.r hd.fine q1 q2 q3 q4;have hcl:∀l:List Rw,∀p∈l.map row,p.ids= []:=fun l=>Yf YQ l
   have hjl:=Yp d.rows c.item;have hlen:(Vl d.rows ⟨c.item,Zp l 1⟩).length=d.rows.length+1:=Wj _ _;have hA:=XH ⟨d.head,Vl d.rows ⟨c.item,Zp l 1⟩⟩ c.item (by simp only;have:=hd.r;rw[Zh];omega);simp only[ZjX]at hA;have hat:=Zls (rs:=d.rows) (it:=c.item) (a:=Zp l 1);have hset:=ZjY (rs:=d.rows) (it:=c.item) (a:=Zp l 1) (b:=c.l);have hlj:Zm d.rows c.item<(Vl d.rows ⟨c.item,Zp l 1⟩).length:=by omega
   have hrn:PV.ren (fun _=>4000) id (.tup [.agg [.sl .no (d.head.map ent),.vsl i (Vl d.rows ⟨c.item,Zp l 1⟩).length 2],.int .i64 0])= .tup [.agg [.sl .no (d.head.map ent),.vsl 4000 (Vl d.rows ⟨c.item,Zp l 1⟩).length 2],.int .i64 0]:=by simp[PV.ren,PV.renL]
   generalize Vl d.rows ⟨c.item,Zp l 1⟩=rs at *;generalize Zm d.rows c.item=j at *;have i0:(0:Int)≤(j:Int):=by omega
   have i1:(j:Int)<(rs.length:Int):=by omega
   have hRow:∀ {m:Hp},m.v 4000=some (rs.map row)→CallS Try.prog 51 [.agg [.sl .no (d.head.map ent),.vsl 4000 rs.length 2],.str c.item] m (.int .i64 (j:Int)) m:=fun h=>CallS.lend hA rfl (fun i hi=>by
    match i,hi with
    |0,_=>exact Pub.agg2w (.clean rfl) (Pub.vec0 (by simp) h (List.length_map _) (hcl _))
    |1,_=>exact .clean rfl) (by simp[doc,Zt,PV.ids,PV.idsL]) (fun p hp=>by
    simp only[List.mem_cons,List.not_mem_nil,or_false]at hp;rcases hp with rfl|rfl
    ·exact ZdJ _
    ·rfl) rfl
   have hml:(rs.map row).length=rs.length:=List.length_map _;have hst:(rs.map row).set j (row ⟨c.item,c.l⟩)=(UN j ⟨c.item,c.l⟩ d.rows).map row:=by rw[VZ,hset]
   simp only[row]at hst;refine PL.Pure.of_p [] Try.func82 (by decide) rfl Try.ntmps82 Try.results82 (by simp) (Zu _ _) ?_;simp only[go_sem,Zj,doc,chg,h1,h3,hb1,hb2];refine U1 4000 hE (hcl _) (by simp[Zj,doc,Zt,PV.ids,PV.idsL]) rfl (by simp only[go_sem,Zj,doc]) ?_;simp only[go_sem,hrn];refine vc2 (hT) ?_;simp only[go_sem];refine W0 [0,1,2,3,4,6,7] 5 6 [8,9] 10 (by kernel_rfl) (by kernel_rfl) fun l1 hl1=> ?_
   simp only[List.filterMap,List.getElem?_cons_zero,List.getElem?_cons_succ]at hl1;subst hl1;simp only[go_sem];refine Wn rfl rfl rfl rfl (show(91:Nat)<131 by omega) rfl (fun m hm=>hRow (by rw[hm.v];rfl)) rfl ?_;refine WZ fun l2 hl2=> ?_
   simp only[List.filterMap,List.getElem?_cons_zero,List.getElem?_cons_succ]at hl2;subst hl2;simp only[go_sem,i0,i1,hml];refine UD _ 10 (by kernel_rfl) fun l2 hl2=> ?_
   simp only[List.drop]at hl2;subst hl2;simp only[go_sem,i0,i1,hml,ZB hlj,hat,row,hst];exact⟨_,rfl,Pub.tup2 (Pub.agg2w (.clean rfl) (Pub.vec0 (by simp) rfl (by rw[List.length_map,VV hjl,hlen]) (hcl _))) (.clean rfl)⟩
 ·have hq':((Vb l d c.item).2 !=0)=true:=by simpa using hq
  rw[if_pos hq];generalize (Vb l d c.item).1=R at *;refine YX Try.func82 rfl Try.ntmps82 Try.results82 (Zu _ _) ?_;simp only[go_sem,Zj,doc,chg,h1,h3,hb1,hb2];refine vc2 (hR) ?_;simp only[go_sem,doc,hq']
open Go.PL Go.RowKit
def ZcW (l:List Fd) (d:Dc) (c:Cg):Dc×Int:=
 if c.kind<1∨3<c.kind then(d,2)else if c.kind=1 then ZlG l d c else if c.kind=2 then ZlH l d c else ZlI d c
theorem Zec (l:List Fd) (d:Dc) (c:Cg) (hL:l.length≤40) (hL':∀f∈l,f.cases'.length≤1000000) (hd:OkDd d) (hc:OkCg c):PL.Pure Try.prog 82 [Zj l,doc d,chg c] (.tup [doc (ZcW l d c).1,.int .i64 (ZcW l d c).2]):=by
 unfold ZcW;split
 ·rename_i h;exact Zla l d c h
 ·split
  ·rename_i h;exact ZnY l d c hL hL' hd hc h
  ·split
   ·rename_i h;exact ZnZ l d c hL hL' hd hc h
   ·exact Zn0 l d c hL hd hc (by omega)
theorem ZgT {l:List Fd} {d:Dc} {c:Cg} (hr:Zl l d=true):(ZcW l d c).2=(X4 l d c).2∧((X4 l d c).2=0→(ZcW l d c).1=(X4 l d c).1):=by
 unfold ZcW X4
 by_cases k1:c.kind=1
 ·rw[if_neg (by omega),if_pos k1,if_pos k1];unfold ZlG X1;split
  ·exact⟨rfl,fun _=>rfl⟩
  ·split
   ·exact⟨rfl,fun _=>rfl⟩
   ·rename_i c2;split
    ·exact⟨rfl,fun _=>rfl⟩
    ·have c2:(Xh d c.item c.now.at').2.2=0:=by rw[←TQ];simpa using c2
     unfold Zb4;rw[if_neg (by rw[hr];simp),if_neg (by simpa using c2)];split
     ·exact⟨rfl,fun h=>by cases h⟩
     ·exact⟨rfl,fun _=>rfl⟩
 ·by_cases k2:c.kind=2
  ·rw[if_neg (by omega),if_neg k1,if_pos k2,if_neg k1,if_pos k2];unfold ZlH Tl Vb;rw[hr,Bool.true_and]
   by_cases c1:Z8 c.item=false
   ·rw[if_pos c1,if_pos c1];exact⟨rfl,fun h=>by cases h⟩
   ·rw[if_neg c1,if_neg c1]
    by_cases c2:Z9 d.rows c.item=true
    ·rw[if_pos c2,if_pos c2];exact⟨rfl,fun h=>by cases h⟩
    ·rw[if_neg c2,if_neg c2]
     by_cases c3:(400:Int)≤(d.rows.length:Int)
     ·rw[if_pos c3,if_pos c3];exact⟨rfl,fun h=>by cases h⟩
     ·rw[if_neg c3,if_neg c3];simp only[ne_eq,not_true_eq_false,if_false];exact⟨trivial,fun _=>trivial⟩
  ·by_cases k3:c.kind=3
   ·rw[if_neg (by omega),if_neg k1,if_neg k2,if_neg k1,if_neg k2,if_pos k3];unfold ZlI Sc;rcases G8 (Xw hr) c.item with ⟨hk,k,hka,hp⟩|⟨hk,hp⟩
    ·have hit:(d.rows.getD k default).item=c.item:=by
      rcases Yo (fun r:Rw=>r.item==c.item) d.rows with ⟨h1,_⟩|⟨k',hk',h1,h2,_⟩
      ·omega
      ·obtain rfl:k'=k:=by omega
       simpa using h2
     have hin:=(G6 (Xw hr) hka hit).1;rw[hp,if_neg (by omega),hk,if_neg (show ¬(true=false)by simp),hin];simp only[Int.toNat_natCast];exact⟨trivial,fun _=>trivial⟩
    ·rw[hp,hk,if_pos (by decide),if_pos rfl];exact⟨rfl,fun _=>rfl⟩
   ·rw[if_pos (by omega),if_neg k1,if_neg k2,if_neg k3];exact⟨rfl,fun _=>rfl⟩
theorem Zb7 (l:List Fd) (d:Dc) (cs:List Cg) (hL:l.length≤40) (hL':∀f∈l,f.cases'.length≤1000000) (hd:OkDd d) (hcs:cs.length≤6900) (hc:∀c∈cs,OkCg c):
  PL.Pure Try.prog 36 [Zj l,doc d,Ym cs] (WH (YI l d cs)):=by
 have hR:=ZH l d (by rw[Zh];omega) (fun f hf=>by have:=hL' f hf;rw[Zh];omega) hd.fine;have hm:cs.length≤maxLen:=by rw[Zh];omega
 unfold YI;cases hr:Zl l d
 ·rw[hr]at hR;rw[if_neg (by simp)];refine YX Try.func36 rfl Try.ntmps36 Try.results36 (VR _) ?_;simp only[go_sem,Zj,doc,Ym];refine vc2 (hR) ?_;simp only[go_sem,WH];rfl
 ·rw[hr]at hR;rw[if_pos rfl];generalize hG:goQ l d cs 0=G;refine YX Try.func36 rfl Try.ntmps36 Try.results36 (VR _) ?_;simp only[go_sem,Zj,doc,Ym];refine vc2 (hR) ?_;simp only[go_sem];refine ZK (ι:= { x:Nat×Dc // x.1≤cs.length∧Zl l x.2=true∧goQ l x.2 (cs.drop x.1) x.1=G }) 42 (fun x=> [(0,Zj l),(2,Ym cs),(4,.ptr 4 0),(6,.ptr 6 0),(9,.int .i64 (x.1.1:Int))]) (fun x=> [(4,[.sl .no (x.1.2.head.map ent),.sl .no (x.1.2.rows.map row)],false),(6,[.sl .nil [],.sl .nil []],false)]) (fun x=> []) (fun x=>cs.length-x.1.1) ⟨(0,d),Nat.zero_le _,hr,hG⟩
   ⟨rfl,(Fc5 rfl rfl rfl rfl rfl),Fc2 ⟨rfl,rfl⟩ ⟨rfl,rfl⟩,fnl⟩ (fun x=>⟨(Fc5 rfl rfl rfl rfl rfl),by simp[PV.ids,PV.idsL,ZV]⟩) (fun x=> ?_)
  obtain⟨⟨k,d'⟩,hk,hr',hg⟩:=x;simp only at hk hr' hg ⊢
  by_cases h:(k:Int)<(cs.length:Int)
  ·have hka:k<cs.length:=by omega
   have w1:=Wp hka hm;have i1:(0:Int)≤(k:Int):=by omega
   have hck:=hc _ (Zg (d:=default) hka);rw[Zdy hka]at hg;have hgc:(cs.map chg).getD k .any=chg (cs.getD k default):=TR hka;have hS:=Zec l d' (cs.getD k default) hL hL' (UW hr' hL) hck;obtain⟨s1,s2⟩:=ZgT (c:=cs.getD k default) hr';have hsr:=U0 (l:=l) (c:=cs.getD k default) hr';generalize cs.getD k default=c at *
   by_cases he:(X4 l d' c).2=0
   ·rw[if_pos he]at hg;rw[s1,s2 he,he]at hS;have hnr:=hsr he;generalize (X4 l d' c).1=d2 at *;simp only[go_sem,Zj,Ym,h];refine vDq ?_;simp only[go_sem,h,hgc,i1,chg];refine vc8 (hS) ?_;simp only[go_sem,doc,w1];exact⟨⟨(k+1,d2),by omega,hnr,hg⟩,by show cs.length-(k+1)<cs.length-k;omega,⟨rfl,(Fc5 rfl rfl rfl rfl rfl),Fc2 ⟨rfl,rfl⟩ ⟨rfl,rfl⟩,fnl⟩⟩
   ·have hb:((X4 l d' c).2 !=0)=true:=by simpa using he
    rw[if_neg he]at hg;rw[s1]at hS;clear hG;subst hg;generalize (ZcW l d' c).1=d2 at *;simp only[go_sem,Zj,Ym,h];refine vDq ?_;simp only[go_sem,h,hgc,i1,chg];refine vc8 (hS) ?_;simp only[go_sem,doc,hb,WH];rfl
  ·obtain rfl:k=cs.length:=by omega
   rw[List.drop_length]at hg;have hg:(d',(cs.length:Int),0)=G:=hg;clear hG;subst hg;simp only[go_sem,Zj,Ym,h,WH];rfl
open Go.PL
inductive Edge (l:List Fd):Dc→Cg→Dc→Prop
 |head (d:Dc) (k:Nat) (y:En) (hk:k<d.head.length) (ha:(d.head.getD k default).at'=y.at') (hf:ZS ((Zi l 0).getD k default) y=true) (hf0:ZS ((Zi l 0).getD k default) (d.head.getD k default)=true):Edge l d ⟨1,[],d.head.getD k default,y,[]⟩ ⟨d.head.set k y,d.rows⟩
 |row (d:Dc) (i k:Nat) (y:En) (hi:i<d.rows.length) (hk:k<(d.rows.getD i default).l.length) (hn:(d.rows.getD i default).item≠ []) (ha:((d.rows.getD i default).l.getD k default).at'=y.at') (hf:ZS ((Zi l 1).getD k default) y=true) (hf0:ZS ((Zi l 1).getD k default) ((d.rows.getD i default).l.getD k default)=true):
   Edge l d ⟨1,(d.rows.getD i default).item,(d.rows.getD i default).l.getD k default,y,[]⟩ ⟨d.head,d.rows.set i ⟨(d.rows.getD i default).item,(d.rows.getD i default).l.set k y⟩⟩
 |came (d:Dc) (i:Nat) (r:Rw) (hi:i≤d.rows.length) (hr:Z8 r.item=true) (he:Zk (Zi l 1) r.l=true) (hlo:∀x∈d.rows.take i,Zq x.item r.item=true) (hhi:∀x∈d.rows.drop i,Zq r.item x.item=true):Edge l d (S5 r) ⟨d.head,UN i r d.rows⟩
 |went (d:Dc) (i:Nat) (r:Rw) (hi:i≤d.rows.length) (hr:Z8 r.item=true) (he:Zk (Zi l 1) r.l=true) (hlo:∀x∈d.rows.take i,Zq x.item r.item=true) (hhi:∀x∈d.rows.drop i,Zq r.item x.item=true):Edge l ⟨d.head,UN i r d.rows⟩ (Zaz r) d
theorem ZdR {α:Type} {d:α} {l:List α} {k:Nat} (h:k<l.length) (y:α):(l.set k y).set k (l.getD k d)=l:=by
 rw[List.set_set,Zb h];exact List.set_getElem_self h
theorem Edge.flip {l:List Fd} {d d':Dc} {c:Cg} (h:Edge l d c d'):Edge l d' (WL c) d:=by
 cases h with
 |head d k y hk ha hf hf0=>
  have h:=Edge.head (l:=l) ⟨d.head.set k y,d.rows⟩ k (d.head.getD k default) (by simpa using hk) (by simp only;rw[ZQ hk];exact ha.symm) hf0 (by simp only;rw[ZQ hk];exact hf);simp only at h;rw[ZQ hk,ZdR hk]at h;exact h
 |row d i k y hi hk hn ha hf hf0=>
  have h:=Edge.row (l:=l) ⟨d.head,d.rows.set i ⟨(d.rows.getD i default).item,(d.rows.getD i default).l.set k y⟩⟩ i k ((d.rows.getD i default).l.getD k default);simp only[ZQ hi,List.length_set,ZQ hk,ZdR hk,List.set_set]at h;have hrow:(⟨(d.rows.getD i default).item,(d.rows.getD i default).l⟩:Rw)=d.rows.getD i default:=rfl;rw[hrow,show d.rows.set i (d.rows.getD i default)=d.rows by rw[Zb hi];exact List.set_getElem_self hi]at h;exact h hi hk hn ha.symm hf0 hf
 |came d i r hi hr he hlo hhi=>exact Edge.went d i r hi hr he hlo hhi
 |went d i r hi hr he hlo hhi=>exact Edge.came d' i r hi hr he hlo hhi
theorem ZeO {l:List Fd} (hl:Yu l=true) (s:Int):ZkR (Zi l s):=List.Pairwise.sublist List.filter_sublist (T3.1 hl).2.1
theorem ZiL {l:List Fd} (hl:Yu l=true) {s:Int} {i k:Nat} (hi:i<k) (hk:k<(Zi l s).length):((Zi l s).getD i default).at'≠((Zi l s).getD k default).at':=fun e=>by
 have h:=List.pairwise_iff_getElem.1 (ZeO hl s) i k (by omega) hk hi;rw[←Zb (d:=default),←Zb (d:=default),e,G9]at h;cases h
theorem Zf4 {l:List Fd} (hl:Yu l=true) {s:Int} {es:List En} (h:Zk (Zi l s) es=true) {k:Nat} (hk:k<es.length):idx (atE (es.getD k default).at') es=(k:Int):=by
 refine YN (d:=default) hk (fun j hj=> ?_) (by simp[atE]);obtain⟨g1,g2⟩:=Yk h hk;obtain⟨_,g3⟩:=Yk h (show j<es.length by omega);simp only[atE,decide_eq_false_iff_not];rw[g2,g3];exact ZiL hl hj g1
theorem Zdt {l:List Fd} (hl:Yu l=true) {s:Int} {k:Nat} (hk:k<(Zi l s).length) {r:Rf} (h:((Zi l s).getD k default).at'=r):(Z3 l r).1=(Zi l s).getD k default:=by
 obtain⟨j,hj,hi⟩:=Zaa hk h;rw[Zab hl hk h hj hi];unfold Z3;rw[hi,if_neg (by omega),Int.toNat_natCast]
theorem ZjP {α:Type} {i:Nat} {x:α} {l:List α} (h:i≤l.length):S6 i (UN i x l)=l:=by
 have hl:(l.take i).length=i:=by rw[List.length_take];omega
 unfold S6 UN;rw[List.take_append_of_le_length (by omega),List.take_of_length_le (by omega),List.drop_append,hl,List.drop_of_length_le (by omega),show i+1-i=1 by omega,List.nil_append,List.drop_succ_cons,List.drop_zero,List.take_append_drop]
theorem Zf7 {α:Type} {d:α} {i:Nat} {x:α} {l:List α} (h:i≤l.length):(UN i x l).getD i d=x:=by
 have hl:(l.take i).length=i:=by rw[List.length_take];omega
 unfold UN;rw[List.getD_eq_getElem?_getD,List.getElem?_append_right (by omega),hl,Nat.sub_self];rfl
theorem Edge.step {l:List Fd} {d d':Dc} {c:Cg} (h:Edge l d c d') (hr:Zl l d=true):X4 l d c=(d',0)∨(400≤d.rows.length∧d'.rows.length=d.rows.length+1∧(X4 l d c).2=14):=by
 obtain⟨r1,r2,r3,r4,r5⟩:=Ya.1 hr;cases h with
 |head d k y hk ha hf hf0=>
  left;have hx:idx (atE y.at') d.head=(k:Int):=by rw[←ha];exact Zf4 r1 r3 hk
  obtain⟨g1,g2⟩:=Yk r3 hk;have hF:=Zdt r1 g1 (r:=y.at') (by rw[←g2];exact ha);have hfind:ZZ d [] y.at'=(d.head.getD k default,0):=by
   unfold ZZ;rw[if_pos rfl,hx,if_neg (by omega),Int.toNat_natCast]
  have hseek:Xh d [] y.at'=(-1,(k:Int),0):=by
   unfold Xh;rw[if_pos rfl,hx,if_neg (by omega)]
  show X1 l d ⟨1,[],d.head.getD k default,y,[]⟩=_;unfold X1;simp only[ha,hfind,hF,hf,hseek,ne_eq,not_true_eq_false,if_false,Bool.true_eq_false];unfold Uz;rw[if_pos (show((-1:Int)<0)by decide)];rfl
 |row d i k y hi hk hn ha hf hf0=>
  left;have he:=(r5 _ (Zg (d:=default) hi)).2;have hx:idx (atE y.at') (d.rows.getD i default).l=(k:Int):=by rw[←ha];exact Zf4 r1 he hk
  obtain⟨g1,g2⟩:=Yk he hk;have hF:=Zdt r1 g1 (r:=y.at') (by rw[←g2];exact ha);have hir:idx (atR (d.rows.getD i default).item) d.rows=(i:Int):=by
   refine YN (d:=default) hi (fun j hj=> ?_) (by simp[atR]);have h:=List.pairwise_iff_getElem.1 r4 j i (by omega) hi hj;rw[←Zb (d:=default),←Zb (d:=default)]at h;cases hb:atR (d.rows.getD i default).item (d.rows.getD j default)with
   |false=>rfl
   |true=>
    simp only[atR,beq_iff_eq]at hb;rw[hb,YD]at h;cases h
  have hfind:ZZ d (d.rows.getD i default).item y.at'=((d.rows.getD i default).l.getD k default,0):=by
   unfold ZZ;rw[if_neg hn,hir,if_neg (by omega),Int.toNat_natCast,hx,if_neg (by omega),Int.toNat_natCast]
  have hseek:Xh d (d.rows.getD i default).item y.at'=((i:Int),(k:Int),0):=by
   unfold Xh;rw[if_neg hn,hir,if_neg (by omega),Int.toNat_natCast,hx,if_neg (by omega)]
  show X1 l d ⟨1,(d.rows.getD i default).item,(d.rows.getD i default).l.getD k default,y,[]⟩=_;unfold X1;simp only[ha,hfind,hF,hf,hseek,ne_eq,not_true_eq_false,if_false,Bool.true_eq_false];unfold Uz;rw[if_neg (by simp only;omega)];simp only[Int.toNat_natCast]
 |came d i r hi hr' he hlo hhi=>
  obtain⟨q1,q2⟩:Zm d.rows r.item=i∧Z9 d.rows r.item=false:=by
   have lo:∀j,j<i→Zq (d.rows.getD j default).item r.item=true:=fun j hj=>by
    refine hlo _ ?_;rw[Zb (by omega),←List.getElem_take (j:=i) (h:=by rw[List.length_take];omega)];exact List.getElem_mem _
   by_cases e:i=d.rows.length
   ·subst e;exact Fj lo
   ·have hii:i<d.rows.length:=by omega
    have h1:Zq r.item (d.rows.getD i default).item=true:=by
     refine hhi _ ?_;rw[List.drop_eq_getElem_cons hii,Zb hii];exact List.mem_cons_self ..
    obtain⟨a,b⟩:=G7 hii lo (FZ h1);refine⟨a,b.trans ?_⟩;cases hb:(d.rows.getD i default).item==r.item with
    |false=>rfl
    |true=>
     simp only[beq_iff_eq]at hb;rw[hb,YD]at h1;cases h1
  show Tl l d (S5 r)=_∨(_∧_∧(Tl l d (S5 r)).2=14);unfold Tl;have e1:(S5 r).item=r.item:=rfl;have e2:(S5 r).l=r.l:=rfl;rw[e1,e2,if_neg (by rw[hr'];simp),if_neg (by rw[q2];simp)]
  by_cases h4:(400:Int)≤(d.rows.length:Int)
  ·right;rw[if_pos h4];exact⟨by omega,VV hi,rfl⟩
  ·left;rw[if_neg h4,if_neg (by rw[he];simp),q1]
 |went d i r hi hr' he hlo hhi=>
  left;have hl:=VV (x:=r) hi;obtain⟨q1,q2⟩:=G6 (it:=r.item) (rs:=UN i r d'.rows) r4 (i:=i) (by omega) (by rw[Zf7 hi]);show Sc ⟨d'.head,UN i r d'.rows⟩ (Zaz r)=_;unfold Sc;have e1:(Zaz r).item=r.item:=rfl;have e2:(Zaz r).l=r.l:=rfl;rw[e1,e2];simp only[q1,q2];rw[if_neg (by simp),if_neg (by rw[Zf7 hi];simp),ZjP hi]
open Go.PL
inductive Chain (l:List Fd) (N:Nat):Dc→List Cg→Dc→Prop
 |nil (d:Dc) (h:d.rows.length≤N):Chain l N d [] d
 |cons {d d' d'':Dc} {c:Cg} {cs:List Cg} (h:d.rows.length≤N) (he:Edge l d c d') (hc:Chain l N d' cs d''):Chain l N d (c::cs) d''
variable {l:List Fd} {N:Nat}
theorem Chain.first {d d':Dc} {cs:List Cg} (h:Chain l N d cs d'):d.rows.length≤N:=by cases h<;>assumption
theorem Chain.append:∀ {d d' d'':Dc} {cs cs':List Cg},Chain l N d cs d'→Chain l N d' cs' d''→Chain l N d (cs++cs') d''
 |_,_,_,_,_,.nil _ _,h2=>h2
 |_,_,_,_,_,.cons h he hc,h2=> .cons h he (hc.append h2)
theorem Chain.one {d d':Dc} {c:Cg} (he:Edge l d c d') (h:d.rows.length≤N) (h':d'.rows.length≤N):Chain l N d [c] d':= .cons h he (.nil _ h')
theorem Chain.back:∀ {d d':Dc} {cs:List Cg},Chain l N d cs d'→Chain l N d' (Vs cs) d
 |_,_,_,.nil d h=> .nil d h
 |_,_,_,.cons (c:=c) (cs:=cs) h he hc=>by
  have e:Vs (c::cs)=Vs cs++ [WL c]:=by simp[Vs]
  rw[e];exact hc.back.append (.one he.flip hc.first h)
theorem Chain.run:∀ {d d':Dc} {cs:List Cg},Chain l N d cs d'→Zl l d=true→ ∀k,(goQ l d cs k=(d',((k+cs.length:Nat):Int),0))∨(400<N∧(goQ l d cs k).2.2=14)
 |_,_,_,.nil d h,_,k=> .inl rfl
 |_,_,_,.cons (c:=c) (cs:=cs) h he hc,hr,k=>by
  unfold goQ;rcases he.step hr with h1|⟨h1,h2,h3⟩
  ·have hr':=U0 (c:=c) hr (by rw[h1]);rw[h1]at hr' ⊢;rw[if_pos rfl];have:=hc.run hr' (k+1);rw[show k+1+cs.length=k+(c::cs).length by simp only[List.length_cons];omega]at this;exact this
  ·right;have:=hc.first
   refine⟨by omega,?_⟩;rw[h3,if_neg (by decide)]
theorem Chain.eq_of_nil {d d':Dc} (h:Chain l N d [] d'):d=d':=by cases h;rfl
theorem ZcH {hd0:List En} {hd:List En} {rs:List Rw} (h0:Zk (Zi l 0) hd0=true) (h1:Zk (Zi l 0) hd=true) (hN:rs.length≤N):Chain l N ⟨hd0,rs⟩ (Z2 [] hd0 hd) ⟨hd,rs⟩:=by
 have e0:=XT h0;have e1:=XT h1;have key:∀k,k≤hd0.length→Chain l N ⟨hd0,rs⟩ (Yt [] hd0 hd k) ⟨hd.take k++hd0.drop k,rs⟩:=by
  intro k
  induction k with
  |zero=>intro _;exact .nil _ hN
  |succ k ih=>
   intro hk;have ih:=ih (by omega);rw[W9];have hk0:k<hd0.length:=by omega
   have hk1:k<hd.length:=by omega
   have hlt:(hd.take k).length=k:=by rw[List.length_take];omega
   have hst:(hd.take k++hd0.drop k).set k (hd.getD k default)=hd.take (k+1)++hd0.drop (k+1):=by
    rw[List.set_append,if_neg (by omega),hlt,Nat.sub_self,List.drop_eq_getElem_cons hk0,List.set_cons_zero,ZW (d:=default) hk1,List.append_assoc];rfl
   have hat:(hd.take k++hd0.drop k).getD k default=hd0.getD k default:=by
    rw[List.getD_eq_getElem?_getD,List.getElem?_append_right (by omega),hlt,Nat.sub_self,List.getElem?_drop,Nat.add_zero,←List.getD_eq_getElem?_getD]
   by_cases he:hd0.getD k default=hd.getD k default
   ·rw[if_pos he,List.append_nil];rw[←he]at hst;rw[←hst,←hat,show(hd.take k++hd0.drop k).set k ((hd.take k++hd0.drop k).getD k default)=hd.take k++hd0.drop k by
     have hlen:k<(hd.take k++hd0.drop k).length:=by rw[List.length_append,hlt,List.length_drop];omega
     rw[Zb hlen];exact List.set_getElem_self hlen]
    exact ih
   ·rw[if_neg he];refine ih.append (.one ?_ hN hN);have hlen:k<(hd.take k++hd0.drop k).length:=by rw[List.length_append,hlt,List.length_drop];omega
    obtain⟨g1,g2⟩:=Yk h0 hk0;obtain⟨_,g3⟩:=Yk h1 hk1;have f0:ZS ((Zi l 0).getD k default) (hd0.getD k default)=true:=by
     simp only[Zk,Bool.and_eq_true,List.all_eq_true,List.mem_range]at h0;exact h0.2 k g1
    have f1:ZS ((Zi l 0).getD k default) (hd.getD k default)=true:=by
     simp only[Zk,Bool.and_eq_true,List.all_eq_true,List.mem_range]at h1;exact h1.2 k g1
    have h:=Edge.head (l:=l) ⟨hd.take k++hd0.drop k,rs⟩ k (hd.getD k default);simp only[hat,hst]at h;exact h hlen (by rw[g2,g3]) f1 f0
 have:=key hd0.length (Nat.le_refl _);rw[List.drop_length,List.append_nil,List.take_of_length_le (by omega)]at this;exact this
theorem ZeL {hd:List En} {pre ps:List Rw} {it:Str} {x y:List En} (h0:Zk (Zi l 1) x=true) (h1:Zk (Zi l 1) y=true) (hit:it≠ []) (hN:pre.length+1+ps.length≤N):Chain l N ⟨hd,pre++⟨it,x⟩::ps⟩ (Z2 it x y) ⟨hd,pre++⟨it,y⟩::ps⟩:=by
 have e0:=XT h0;have e1:=XT h1;have hNr:∀z:List En,(pre++(⟨it,z⟩:Rw)::ps).length≤N:=fun z=>by simp only[List.length_append,List.length_cons];omega
 have hg:∀z:List En,(pre++(⟨it,z⟩:Rw)::ps).getD pre.length default=⟨it,z⟩:=fun z=>by
  rw[List.getD_eq_getElem?_getD,List.getElem?_append_right (Nat.le_refl _),Nat.sub_self];rfl
 have hs:∀z w:List En,(pre++(⟨it,z⟩:Rw)::ps).set pre.length ⟨it,w⟩=pre++⟨it,w⟩::ps:=fun z w=>by
  rw[List.set_append,if_neg (by omega),Nat.sub_self,List.set_cons_zero]
 have key:∀k,k≤x.length→Chain l N ⟨hd,pre++⟨it,x⟩::ps⟩ (Yt it x y k) ⟨hd,pre++⟨it,y.take k++x.drop k⟩::ps⟩:=by
  intro k
  induction k with
  |zero=>intro _;exact .nil _ (hNr _)
  |succ k ih=>
   intro hk;have ih:=ih (by omega);rw[W9];have hk0:k<x.length:=by omega
   have hk1:k<y.length:=by omega
   have hlt:(y.take k).length=k:=by rw[List.length_take];omega
   have hlen:k<(y.take k++x.drop k).length:=by rw[List.length_append,hlt,List.length_drop];omega
   have hst:(y.take k++x.drop k).set k (y.getD k default)=y.take (k+1)++x.drop (k+1):=by
    rw[List.set_append,if_neg (by omega),hlt,Nat.sub_self,List.drop_eq_getElem_cons hk0,List.set_cons_zero,ZW (d:=default) hk1,List.append_assoc];rfl
   have hat:(y.take k++x.drop k).getD k default=x.getD k default:=by
    rw[List.getD_eq_getElem?_getD,List.getElem?_append_right (by omega),hlt,Nat.sub_self,List.getElem?_drop,Nat.add_zero,←List.getD_eq_getElem?_getD]
   by_cases he:x.getD k default=y.getD k default
   ·rw[if_pos he,List.append_nil];rw[←he]at hst;rw[←hst,←hat,show(y.take k++x.drop k).set k ((y.take k++x.drop k).getD k default)=y.take k++x.drop k by
     rw[Zb hlen];exact List.set_getElem_self hlen]
    exact ih
   ·rw[if_neg he];refine ih.append (.one ?_ (hNr _) (hNr _));obtain⟨g1,g2⟩:=Yk h0 hk0;obtain⟨_,g3⟩:=Yk h1 hk1;have f0:ZS ((Zi l 1).getD k default) (x.getD k default)=true:=by
     simp only[Zk,Bool.and_eq_true,List.all_eq_true,List.mem_range]at h0;exact h0.2 k g1
    have f1:ZS ((Zi l 1).getD k default) (y.getD k default)=true:=by
     simp only[Zk,Bool.and_eq_true,List.all_eq_true,List.mem_range]at h1;exact h1.2 k g1
    have h:=Edge.row (l:=l) ⟨hd,pre++⟨it,y.take k++x.drop k⟩::ps⟩ pre.length k (y.getD k default);simp only[hg,hat,hst,hs]at h;exact h (by simp only[List.length_append,List.length_cons];omega) hlen hit (by rw[g2,g3]) f1 f0
 have:=key x.length (Nat.le_refl _);rw[List.drop_length,List.append_nil,List.take_of_length_le (by omega)]at this;exact this
def Zhr (l:List Fd) (rs:List Rw):Prop:=Sj rs∧ ∀r∈rs,Z8 r.item=true∧Zk (Zi l 1) r.l=true
theorem Zgr {a b:List Rw} (h:Zhr l b) (hs:a.Sublist b):Zhr l a:=⟨List.Pairwise.sublist hs h.1,fun r hr=>h.2 r (hs.subset hr)⟩
theorem Zf9 {pre ps:List Rw} {r:Rw}:UN pre.length r (pre++ps)=pre++r::ps:=by
 unfold UN;rw[List.take_left,List.drop_left]
theorem Zj5 {s:Str} (h:Z8 s=true):s≠ []:=fun e=>by
 subst e;unfold Z8 at h;simp at h
theorem Gs {pre ps:List Rw} {r:Rw} (h:Sj (pre++r::ps)):(∀x∈pre,Zq x.item r.item=true)∧ ∀x∈ps,Zq r.item x.item=true:=by
 obtain⟨_,h2,h3⟩:=List.pairwise_append.1 h;exact⟨fun x hx=>h3 x hx r (by simp),fun x hx=>(List.pairwise_cons.1 h2).1 x hx⟩
theorem Zes {hd:List En}:∀(n:Nat) (pre p q:List Rw),p.length+q.length≤n→Zhr l (pre++p)→Zhr l (pre++q)→pre.length+p.length+q.length≤N→Chain l N ⟨hd,pre++p⟩ (Yg p q) ⟨hd,pre++q⟩:=by
 intro n
 induction n with
 |zero=>
  intro pre p q hn hp hq hN;obtain rfl:p= []:=List.eq_nil_of_length_eq_zero (by omega);obtain rfl:q= []:=List.eq_nil_of_length_eq_zero (by omega);rw[Yg];exact .nil _ (by simp at hN ⊢;omega)
 |succ n ih=>
  have wentE:∀(pre ps:List Rw) (p:Rw),Zhr l (pre++p::ps)→Edge l ⟨hd,pre++p::ps⟩ (Zaz p) ⟨hd,pre++ps⟩:=fun pre ps p h=>by
   obtain⟨a,b⟩:=Gs h.1;have:=Edge.went (l:=l) ⟨hd,pre++ps⟩ pre.length p (by simp) (h.2 p (by simp)).1 (h.2 p (by simp)).2 (by simp only[List.take_left];exact a) (by simp only[List.drop_left];exact b);rwa[Zf9]at this
  have cameE:∀(pre ps:List Rw) (p:Rw),Zhr l (pre++p::ps)→Edge l ⟨hd,pre++ps⟩ (S5 p) ⟨hd,pre++p::ps⟩:=fun pre ps p h=>by
   obtain⟨a,b⟩:=Gs h.1;have:=Edge.came (l:=l) ⟨hd,pre++ps⟩ pre.length p (by simp) (h.2 p (by simp)).1 (h.2 p (by simp)).2 (by simp only[List.take_left];exact a) (by simp only[List.drop_left];exact b);rwa[Zf9]at this
  intro pre p q hn hp hq hN
  match p,q with
  | [],[]=>rw[Yg];exact .nil _ (by simp at hN ⊢;omega)
  |p::ps,[]=>
   rw[Yg];simp only[List.length_cons,List.length_nil]at hn hN;exact .cons (by simp only[List.length_append,List.length_cons];omega) (wentE pre ps p hp) (ih pre ps [] (by simp;omega) (Zgr hp ((List.Sublist.refl _).append (List.sublist_cons_self _ _))) hq (by simp;omega))
  | [],q::qs=>
   rw[Yg];simp only[List.length_cons,List.length_nil]at hn hN;have h1:Zhr l (pre++q:: []):=Zgr hq ((List.Sublist.refl _).append (List.Sublist.cons_cons _ (List.nil_sublist _)));have:=ih (pre++ [q]) [] qs (by simp;omega) (by simpa using h1) (by simpa using hq) (by simp;omega);rw[List.append_assoc,List.append_assoc]at this;exact .cons (by simp only[List.length_append,List.length_nil];omega) (cameE pre [] q h1) this
  |p::ps,q::qs=>
   simp only[List.length_cons]at hn hN;rw[Yg]
   by_cases h1:Zq p.item q.item=true
   ·rw[if_pos h1];exact .cons (by simp only[List.length_append,List.length_cons];omega) (wentE pre ps p hp) (ih pre ps (q::qs) (by simp;omega) (Zgr hp ((List.Sublist.refl _).append (List.sublist_cons_self _ _))) hq (by simp;omega))
   ·rw[if_neg h1]
    by_cases h2:Zq q.item p.item=true
    ·rw[if_pos h2];obtain⟨a1,a2⟩:=Gs hp.1;obtain⟨b1,b2⟩:=Gs hq.1;have hpp:=List.pairwise_append.1 hp.1;have hk:Zhr l (pre++q::p::ps):=by
      refine⟨List.pairwise_append.2 ⟨hpp.1,List.pairwise_cons.2 ⟨fun x hx=> ?_,hpp.2.1⟩,fun a ha b hb=> ?_⟩,fun r hr=> ?_⟩
      ·rcases List.mem_cons.1 hx with rfl|hx
       ·exact h2
       ·exact W5 h2 (a2 x hx)
      ·rcases List.mem_cons.1 hb with rfl|hb
       ·exact b1 a ha
       ·exact hpp.2.2 a ha b hb
      ·rcases List.mem_append.1 hr with h|h
       ·exact hp.2 r (List.mem_append_left _ h)
       ·rcases List.mem_cons.1 h with rfl|h
        ·exact hq.2 r (by simp)
        ·exact hp.2 r (List.mem_append_right _ h)
     have:=ih (pre++ [q]) (p::ps) qs (by simp;omega) (by simpa using hk) (by simpa using hq) (by simp;omega);rw[List.append_assoc,List.append_assoc]at this;exact .cons (by simp only[List.length_append,List.length_cons];omega) (cameE pre (p::ps) q hk) this
    ·rw[if_neg h2];have hit:p.item=q.item:=by
      rcases TJ p.item q.item with h|h|h
      ·exact absurd h h1
      ·exact h
      ·exact absurd h h2
     have hpk:=hp.2 p (by simp);have hqk:=hq.2 q (by simp);have e1:(⟨q.item,p.l⟩:Rw)=p:=by rw[←hit]
     have hc:=ZeL (l:=l) (N:=N) (hd:=hd) (pre:=pre) (ps:=ps) (it:=q.item) hpk.2 hqk.2 (Zj5 hqk.1) (by omega);rw[e1]at hc;have hk:Zhr l (pre++q::ps):=by
      refine⟨?_,fun r hr=> ?_⟩
      ·have hpp:=List.pairwise_append.1 hp.1;have hpc:=List.pairwise_cons.1 hpp.2.1;refine List.pairwise_append.2 ⟨hpp.1,List.pairwise_cons.2 ⟨fun x hx=>by rw[←hit];exact hpc.1 x hx,hpc.2⟩,fun a ha b hb=> ?_⟩;rcases List.mem_cons.1 hb with rfl|hb
       ·rw[←hit];exact hpp.2.2 a ha p (by simp)
       ·exact hpp.2.2 a ha b (by simp[hb])
      ·rcases List.mem_append.1 hr with h|h
       ·exact hp.2 r (List.mem_append_left _ h)
       ·rcases List.mem_cons.1 h with rfl|h
        ·exact hqk
        ·exact hp.2 r (List.mem_append_right _ (List.mem_cons_of_mem _ h))
     have:=ih (pre++ [q]) ps qs (by omega) (by simpa using hk) (by simpa using hq) (by simp;omega);rw[List.append_assoc,List.append_assoc]at this;exact hc.append this
open Go.PL Go.RowKit
theorem Fu (it:Str) (a b:List En):(Z2 it a b).length≤a.length:=by
 unfold Z2;rw[List.length_map];exact Nat.le_trans (List.length_filter_le _ _) (by simp)
theorem Zer:∀(n:Nat) (p q:List Rw),p.length+q.length≤n→(∀r∈p,r.l.length≤16)→(Yg p q).length≤8*(p.length+q.length):=by
 intro n
 induction n with
 |zero=>
  intro p q hn _;obtain rfl:p= []:=List.eq_nil_of_length_eq_zero (by omega);obtain rfl:q= []:=List.eq_nil_of_length_eq_zero (by omega);rw[Yg];simp
 |succ n ih=>
  intro p q hn hp
  match p,q with
  | [],[]=>rw[Yg];simp
  |p::ps,[]=>
   rw[Yg];have:=ih ps [] (by simp at hn ⊢;omega) fun r hr=>hp r (by simp[hr])
   simp only[List.length_cons,List.length_nil]at *;omega
  | [],q::qs=>
   rw[Yg];have:=ih [] qs (by simp at hn ⊢;omega) hp;simp only[List.length_cons,List.length_nil]at *;omega
  |p::ps,q::qs=>
   rw[Yg];simp only[List.length_cons]at hn;split
   ·have:=ih ps (q::qs) (by simp;omega) fun r hr=>hp r (by simp[hr])
    simp only[List.length_cons]at *;omega
   ·split
    ·have:=ih (p::ps) qs (by simp;omega) hp;simp only[List.length_cons]at *;omega
    ·have h1:=ih ps qs (by omega) fun r hr=>hp r (by simp[hr])
     have h2:=Fu q.item p.l q.l;have h3:=hp p (by simp);simp only[List.length_append,List.length_cons]at *;omega
theorem Dj (it:Str) (a:List En):Z2 it a a= []:=by
 unfold Z2;rw[List.map_eq_nil_iff,List.filter_eq_nil_iff];intro x _;simp
theorem D8:∀p:List Rw,Yg p p= []
 | []=>by rw[Yg]
 |p::ps=>by
  rw[Yg,if_neg (by rw[YD];simp),if_neg (by rw[YD];simp),Dj,D8 ps];rfl
theorem Zl8 {l:List Fd} {a b:Dc} (ha:Zl l a=true) (hb:Zl l b=true):
  ∃cs:List Cg,DM l a b=(cs,0)∧cs.length≤6900∧(YI l a cs=(b,(cs.length:Int),0)∨(400<a.rows.length+b.rows.length∧(YI l a cs).2.2=14))∧
   (YI l b (Vs cs)=(a,(cs.length:Int),0)∨(400<a.rows.length+b.rows.length∧(YI l b (Vs cs)).2.2=14))∧((cs.length:Int)==0)=decide (a=b):=by
 obtain⟨r1,r2,r3,r4,r5⟩:=Ya.1 ha;obtain⟨_,q2,q3,q4,q5⟩:=Ya.1 hb;have hl16:=(T3.1 r1).1;have hs0:=Uy l 0;have hs1:=Uy l 1;have hc:Chain l (a.rows.length+b.rows.length) a (Z2 [] a.head b.head++Yg a.rows b.rows) b:=
  (ZcH (rs:=a.rows) r3 q3 (by omega)).append (Zes (hd:=b.head) (a.rows.length+b.rows.length) [] a.rows b.rows (Nat.le_refl _) ⟨r4,r5⟩ ⟨q4,q5⟩ (by simp))
 refine⟨Z2 [] a.head b.head++Yg a.rows b.rows,by unfold DM;rw[if_neg (by rw[ha,hb];simp)],?_,?_,?_,?_⟩
 ·have h1:=Fu [] a.head b.head;have h2:=Zer _ a.rows b.rows (Nat.le_refl _) fun r hr=>by rw[XT (r5 r hr).2];omega
  have h3:=XT r3;rw[List.length_append];omega
 ·unfold YI;rw[if_pos ha];rcases hc.run ha 0 with h|h
  ·left;rw[h,Nat.zero_add]
  ·exact .inr h
 ·unfold YI;rw[if_pos hb];rcases hc.back.run hb 0 with h|h
  ·left;rw[h,Nat.zero_add,ZaS]
  ·exact .inr h
 ·by_cases e:a=b
  ·subst e;rw[Dj,D8,decide_eq_true rfl];rfl
  ·rw[decide_eq_false e];cases hcs:Z2 [] a.head b.head++Yg a.rows b.rows with
   |nil=>rw[hcs]at hc;exact absurd hc.eq_of_nil e
   |cons c cs=>simp only[List.length_cons,beq_eq_false_iff_ne,ne_eq];omega
end Go.Proofs.Ytmnibpgmcgdfpaa
