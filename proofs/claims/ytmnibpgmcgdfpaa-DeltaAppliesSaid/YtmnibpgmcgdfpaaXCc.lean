/- Contracts of functions and laws of this seat, each for every input that it names: lemmas of the proof. -/
import Derived.Test.YtmnibpgmcgdfpaaPlM
import Derived.Test.YtmnibpgmcgdfpaaXAa
import Derived.Test.YtmnibpgmcgdfpaaXAd
import Derived.Test.YtmnibpgmcgdfpaaXAn
import Derived.Test.YtmnibpgmcgdfpaaXBl
import Derived.Test.YtmnibpgmcgdfpaaXCb
import Derived.Test.YtmnibpgmcgdfpaaXDf
set_option maxHeartbeats 64000000
set_option maxRecDepth 20000
set_option linter.unusedVariables false
set_option linter.unusedSimpArgs false
namespace Go.Proofs.Ytmnibpgmcgdfpaa
open Go.PL
def ZjZ:List Ln→Rf→Bool
 | [],r=>true
 |x::xs,r=>if ZmP x r=false then false else if(Zjr x r).2=false then false else ZjZ xs (Zjr x r).1
structure TrS (row:List Ln) (f:List Ln→Rf→Rf×Bool) (r0:Rf) where
 k:Nat
 r:Rf
 hk:k≤row.length
 h:f (row.drop k) r=f row r0
structure KpS (row:List Ln) (r0:Rf) where
 k:Nat
 r:Rf
 hk:k≤row.length
 h:ZjZ (row.drop k) r=ZjZ row r0
open Go.PL
structure Pair (l m:List Fd) (x y:Ln):Prop where
 a:ZaL l x=(m,0)
 b:ZaL m y=(l,0)
 g:ZeD y=ZaX x
 c:ZaX y=ZeD x
inductive Pairs:List Fd→List Fd→List Ln→List Ln→Prop
 |nil (l:List Fd):Pairs l l [] []
 |cons {l m n:List Fd} {x y:Ln} {xs ys:List Ln} (h:Pair l m x y) (hs:Pairs m n xs ys):Pairs l n (x::xs) (ys++ [y])
open Go.PL
open Go.PL
structure DrX (n:Nat) (f:Str→List Cg) (its:List Str) (h0:List Cg) where
 k:Nat
 acc:List Cg
 id:Nat
 hk:k≤its.length
 hl:acc.length≤16+16*k
 h:acc=h0++(its.take k).flatMap f
 hid:id=29∨id=94∨id=110∨id=129
open Go.PL
theorem Xs {l:List En} (h:X5 l=false):l.length≤40∧ ∀e∈l,e.l.length≤410:=by
 simp only[X5,Bool.or_eq_false_iff,decide_eq_false_iff_not,List.any_eq_false]at h;refine⟨by omega,fun e he=> ?_⟩;have:=h.2 e he;simp[ZfQ]at this;omega
theorem Zik {c:Cg} (h:VB c=false):FineB c:=by
 simp only[VB,Ta,YE,Bool.or_eq_false_iff,List.any_cons,List.any_nil,ZgF]at h;obtain⟨_,_,h1,⟨_,h2⟩,⟨_,h3⟩,_⟩:=h;have h1:=(Xs h1).2 _ (List.mem_singleton.2 rfl);have h2:=(Xs h2).2 _ (List.mem_singleton.2 rfl);have h3:=Xs h3;exact⟨by omega,by omega,by omega,fun e he=>by have:=h3.2 e he;omega⟩
theorem FineB.flip {c:Cg} (h:FineB c):FineB (WL c):=by
 unfold WL;split
 ·exact⟨h.n,h.w,h.l,h.e⟩
 ·split
  ·exact⟨h.w,h.n,h.l,h.e⟩
  ·exact h
theorem Zet {l:List Cg} (h:∀c∈l,FineB c):∀c∈Vs l,FineB c:=fun c hc=>by
 obtain⟨x,hx,rfl⟩:=List.mem_map.1 hc;exact(h x (List.mem_reverse.1 hx)).flip
set_option maxRecDepth 100000 in
theorem YL:PL.Pure Try.prog 9 [] (.bool true):=by
 have e:=Zh;have hl:rootL.length≤16:=by decide
 have hc:∀f∈rootL,f.cases'.length≤1000:=by decide
 have hR:=Zfo;have hB:=Zb8 rootL (by omega);have k1:Zl rootL ⟨(Zi rootL 0).map ZF,[]⟩=true:=by decide+kernel
 have k2:Zl rootL ⟨(Zi rootL 0).map ZF,[⟨[112,101,97,114],(Zi rootL 1).map ZF⟩]⟩=true:=by decide+kernel
 have k3:Z2 [] ((Zi rootL 0).map ZF) ((Zi rootL 0).map ZF)= []:=by decide+kernel
 have k4:((Zi rootL 1).map ZF).length=4:=by decide+kernel
 have k5:((Zi rootL 0).map ZF).length≤100∧(∀e∈(Zi rootL 0).map ZF,e.l.length≤100)∧ ∀e∈(Zi rootL 1).map ZF,e.l.length≤100:=by decide+kernel
 generalize hA:(Zi rootL 0).map ZF=A at *;have hW:=Zea rootL A [112,101,97,114] (by omega) (fun f hf=>by have:=hc f hf;omega) ⟨by simp;omega,by simp,fun x hx=>by have:=k5.2.1 x hx;omega,fun r hr=>by cases hr⟩ k1 (by decide);generalize hL:(Zi rootL 1).map ZF=L at *;have hD:=D1 rootL ⟨A,[]⟩ ⟨A,[⟨[112,101,97,114],L⟩]⟩ (by omega) (fun f hf=>by have:=hc f hf;omega)
  ⟨by simp;omega,by simp,fun x hx=>by have:=k5.2.1 x hx;omega,fun r hr=>by cases hr⟩
  ⟨by simp;omega,by simp,fun x hx=>by have:=k5.2.1 x hx;omega,fun r hr=>by
   rw[List.mem_singleton.1 hr];exact⟨by simp;omega,fun x hx=>by have:=k5.2.2 x hx;omega⟩⟩
 have hM:DM rootL ⟨A,[]⟩ ⟨A,[⟨[112,101,97,114],L⟩]⟩=([S5 ⟨[112,101,97,114],L⟩],0):=by
  unfold DM;rw[k1,k2,if_neg (by simp)];simp only[k3,List.nil_append];rw[Yg,Yg]
 rw[hM]at hD;clear k1 k2 k3 hM hA hL;refine ZO Try.func9 rfl Try.ntmps9 Try.results9 ?_;simp only[go_sem];refine vc1 (hR) ?_;simp only[go_sem,Zj];refine vc2 (hB) ?_;simp only[go_sem,doc];refine vc2 (hW) ?_;simp only[go_sem,doc];refine vc2 (hD) ?_;simp only[go_sem,ZaV,Ym,chg,S5,k4]
open Go.PL Go.RowKit
def Zfd (d:Dc):PV:= .rptr [.sl .no (d.head.map ent),.sl .no (d.rows.map row)]
theorem Fj {rs:List Rw} {it:Str} (h:∀j,j<rs.length→Zq (rs.getD j default).item it=true):Zm rs it=rs.length∧Z9 rs it=false:=by
 have hp:DJ rs it= -1:=by
  unfold DJ;rcases Yo (WQ it) rs with ⟨h1,_⟩|⟨k,hk,h1,h2,_⟩
  ·exact h1
  ·simp only[WQ,h k hk,Bool.not_true]at h2;cases h2
 unfold Zm Z9;rw[hp];exact⟨rfl,rfl⟩
theorem G7 {rs:List Rw} {it:Str} {k:Nat} (hk:k<rs.length) (h:∀j,j<k→Zq (rs.getD j default).item it=true) (h1:Zq (rs.getD k default).item it=false):Zm rs it=k∧Z9 rs it=((rs.getD k default).item==it):=by
 have hp:DJ rs it=(k:Int):=YN (d:=default) hk (fun j hj=>by simp only[WQ,h j hj,Bool.not_true]) (by simp only[WQ,h1,Bool.not_false]);unfold Zm Z9;rw[hp,if_neg (by omega)];exact⟨by simp,by simp⟩
theorem Zd2 (d:Dc) (it:Str) (hl:d.rows.length≤maxLen):PL.Pure Try.prog 111 [Zfd d,.str it] (.tup [.int .i64 ((Zm d.rows it:Nat):Int),.bool (Z9 d.rows it)]):=by
 refine ZO Try.func111 rfl Try.ntmps111 Try.results111 ?_;simp only[go_sem,Zfd];refine ZK (ι:= { x:Nat // x≤(d.rows).length∧(∀j,j<x→Zq (d.rows.getD j default).item it=true) }) 48 (fun x=> [(0,Zfd d),(1,.str it),(6,.int .i64 (x.1:Int))]) (fun x=> []) (fun x=> []) (fun x=>(d.rows).length-x.1) ⟨0,Nat.zero_le _,fun j hj=>absurd hj (Nat.not_lt_zero j)⟩ ⟨rfl,(Fc3 rfl rfl rfl),fnl,fnl⟩ (fun x=>⟨(Fc3 rfl rfl rfl),fnl⟩) (fun x=> ?_);obtain⟨k,hk,hI⟩:=x;simp only at hk hI ⊢
 by_cases h:(k:Int)<(d.rows.length:Int)
 ·(have hka:k<(d.rows).length:=by omega);(have w1:=Wp hka (hl));(have i1:(0:Int)≤(k:Int):=by omega)
  cases he:Zq (d.rows.getD k default).item it
  ·obtain⟨e1,e2⟩:=G7 hka hI he;simp only[go_sem,Zfd,h,ZB hka,row,i1,he];refine vDq ?_;simp only[go_sem,Zfd,h,ZB hka,row,i1,he,e1,e2]
  ·have hnx:∀j,j<k+1→Zq (d.rows.getD j default).item it=true:=fun j hj=>by
    rcases Nat.lt_succ_iff_lt_or_eq.1 hj with h|h
    ·exact hI j h
    ·subst h;exact he
   simp only[go_sem,Zfd,h,ZB hka,row,i1,he,w1];exact⟨⟨k+1,by(try simp only);omega,hnx⟩,by show(d.rows).length-(k+1)<(d.rows).length-k;omega,⟨rfl,(Fc3 rfl rfl rfl),fnl,fnl⟩⟩
 ·obtain rfl:k=d.rows.length:=by omega
  obtain⟨e1,e2⟩:=Fj hI;simp only[go_sem,Zfd,h];refine vDq ?_;simp only[go_sem,Zfd,h,e1,e2]
open Go.PL Go.RowKit
def Zj6:PV:= .agg [.int .i64 0,.str [],.str [],.int .i64 0,.sl .nil []]
def Zje (x:En×Int):PV:= .tup [if x.2=0 then ZaA x.1 else Zj6,.int .i64 x.2]
theorem Um (x:En×Int):(Zje x).dids= []:=by
 unfold Zje;split
 ·simp only[PV.dids,PV.didsL,GU,List.append_nil]
 ·simp[Zj6,PV.dids,PV.didsL]
theorem FL:∀l:List Str,PV.youngL (l.map .str)=true
 | []=>rfl
 |s::l=>by simp[PV.youngL,PV.young,FL l]
theorem Zhe {es:List PV} (h:PV.youngL es=true):(PV.frl es).young=true:=by
 cases es with
 |nil=>rfl
 |cons e l=>exact h
theorem Zfc (e:En):(ZaA e).young=true:=by simp[ZaA,PV.young,PV.youngL,Zhe (FL e.l)]
theorem Zhd (x:En×Int):(Zje x).young=true:=by
 unfold Zje;split
 ·simp[PV.young,PV.youngL,Zfc]
 ·rfl
theorem ZfU (e:En) (n:Int):(PV.tup [ZaA e,.int .i64 n]).ids= []:=by simp only[PV.ids,PV.idsL,Zia,List.append_nil]
theorem ZjB (d:Dc) (it:Str) (r:Rf) (hf:Vk d) (hs:DK d):PL.Pure Try.prog 33 [doc d,.str it,ref r] (Zje (ZZ d it r)):=by
 have hc:=ZbB d it r hf;obtain⟨f1,f2,f3,f4⟩:=hf;unfold Xh at hc;unfold ZZ
 by_cases hi:it= []
 ·rw[if_pos hi]at hc ⊢;rcases ZN (atE r) d.head with h2|⟨k,hk,h2⟩
  ·rw[h2]at hc ⊢;refine PL.Pure.of_p [] Try.func33 (by decide) rfl Try.ntmps33 Try.results33 (by simp) (Um _) ?_;simp only[go_sem,doc,ref];refine vc1 (hc) ?_;simp only[go_sem,ZdE];exact⟨_,rfl,Pub.clean (by simp[Zj6,PV.ids,PV.idsL])⟩
  ·have i1:(0:Int)≤(k:Int):=by omega
   have i2:(k:Int)<(d.head.length:Int):=by omega
   have i3:¬(k:Int)<0:=by omega
   have ho:=Dk (d.head.getD k default) (hs.1 _ (Zg hk));rw[h2,if_neg i3]at hc;rw[h2,if_neg i3];refine PL.Pure.of_p [] Try.func33 (by decide) rfl Try.ntmps33 Try.results33 (by simp) (Um _) ?_;simp only[go_sem,doc,ref];refine vc1 (hc) ?_;simp only[go_sem,ZdE,i1,i2,ZE hk,ent];refine vc1 (ho) ?_;simp only[go_sem,ZaA];exact⟨_,rfl,Pub.clean (ZfU _ _)⟩
 ·rw[if_neg hi]at hc ⊢;rcases ZN (atR it) d.rows with h2|⟨k,hk,h2⟩
  ·rw[h2]at hc ⊢;refine PL.Pure.of_p [] Try.func33 (by decide) rfl Try.ntmps33 Try.results33 (by simp) (Um _) ?_;simp only[go_sem,doc,ref];refine vc1 (hc) ?_;simp only[go_sem,ZdE];exact⟨_,rfl,Pub.clean (by simp[Zj6,PV.ids,PV.idsL])⟩
  ·have i1:(0:Int)≤(k:Int):=by omega
   have i2:(k:Int)<(d.rows.length:Int):=by omega
   have i3:¬(k:Int)<0:=by omega
   rw[h2,if_neg i3]at hc;rw[h2,if_neg i3];simp only[Int.toNat_natCast]at hc ⊢;rcases ZN (atE r) (d.rows.getD k default).l with h4|⟨n,hn,h4⟩
   ·rw[h4]at hc ⊢;refine PL.Pure.of_p [] Try.func33 (by decide) rfl Try.ntmps33 Try.results33 (by simp) (Um _) ?_;simp only[go_sem,doc,ref];refine vc1 (hc) ?_;simp only[go_sem,ZdE];exact⟨_,rfl,Pub.clean (by simp[Zj6,PV.ids,PV.idsL])⟩
   ·have j1:(0:Int)≤(n:Int):=by omega
    have j2:(n:Int)<((d.rows.getD k default).l.length:Int):=by omega
    have j3:¬(n:Int)<0:=by omega
    have ho:=Dk ((d.rows.getD k default).l.getD n default) (hs.2 _ (Zg hk) _ (Zg hn));rw[h4,if_neg j3]at hc;rw[h4,if_neg j3];refine PL.Pure.of_p [] Try.func33 (by decide) rfl Try.ntmps33 Try.results33 (by simp) (Um _) ?_;simp only[go_sem,doc,ref];refine vc1 (hc) ?_;simp only[go_sem,ZdE,i1,i2,i3,ZC hk,row,j1,j2,ZE hn,ent];refine vc1 (ho) ?_;simp only[go_sem,ZaA];exact⟨_,rfl,Pub.clean (ZfU _ _)⟩
open Go.PL Go.RowKit
theorem Tp {ns:List Nat} {rs:List Rw} {i:Nat} (hi:i∉ns):Yc ((U5 ns rs).map fun x=>(x.1,some x.2)) (fun _=>none) i=none:=
 T8 (k:=fun i=>i) (F:=fun x=>some x.2) fun x hx e=>hi (e▸(YC hx).1)
theorem Vh {ns:List Nat} {rs:List Rw} (hn:ns.Nodup) {x:Nat×Row} (hx:x∈U5 ns rs):Yc ((U5 ns rs).map fun x=>(x.1,some x.2)) (fun _=>none) x.1=some x.2:=
 Wa (k:=fun i=>i) (F:=fun x=>some x.2) hx (by rw[YG];exact Wx rs hn) (fun _ _ _ _ h=>h)
theorem Xp {ns:List Nat} {rs:List Rw} (hn:ns.Nodup) {x:Nat×List PV} (hx:x∈Se ns rs):Yc ((Se ns rs).map fun x=>(x.1,some x.2)) (fun _=>none) x.1=some x.2:=
 Wa (k:=fun i=>i) (F:=fun x=>some x.2) hx (by rw[Ww];exact Wx rs hn) (fun _ _ _ _ h=>h)
theorem Zlx {n i:Nat} (h:i<10000):i∉nsU n:=fun hi=>by have:=(YH hi).1;omega
theorem Zlw {n:Nat}:10000+n∉nsU n:=fun hi=>by have:=(YH hi).2;omega
abbrev Ziz (ns:List Nat) (d:Dc):MemL:=⟨[],XK 26 ns d,U4 26 ns d⟩
theorem Zjj {ns:List Nat} {d:Dc} (hn:ns.Nodup) (h0:∀x∈ns,10000≤x):(Ziz ns d).Ok:=by
 have nm:(XK 26 ns d).map (·.1)=26::3000::Uo ns d.rows:=by simp only[XK,List.map_cons,YG]
 have nv:(U4 26 ns d).map (·.1)=26::3000::Uo ns d.rows:=by simp only[U4,List.map_cons,Ww]
 have h1:∀x∈Uo ns d.rows,10000≤x:=fun x hx=>h0 x (XW hx)
 have nd:(26::3000::Uo ns d.rows).Nodup:=by
  refine List.nodup_cons.2 ⟨fun h=> ?_,List.nodup_cons.2 ⟨fun h=> ?_,Wx _ hn⟩⟩
  ·rcases List.mem_cons.1 h with h|h
   ·omega
   ·have:=h1 _ h;omega
  ·have:=h1 _ h;omega
 have has:∀i∈26::3000::Uo ns d.rows,(Ziz ns d).has (.r i):=fun i hi=>by
  rw[←nm]at hi;obtain⟨y,hy,rfl⟩:=List.mem_map.1 hi;exact⟨y,hy,rfl⟩
 refine⟨by simp,by show((XK 26 ns d).map (·.1)).Nodup;rw[nm];exact nd,by show((U4 26 ns d).map (·.1)).Nodup;rw[nv];exact nd,fun x hx=> ?_,by simp,fun x hx c hc i hi=> ?_⟩
 ·have:x.1∈(U4 26 ns d).map (·.1):=List.mem_map.2 ⟨x,hx,rfl⟩;rw[nv,←nm]at this;obtain⟨y,hy,e⟩:=List.mem_map.1 this;exact⟨y,hy,e⟩
 ·rcases List.mem_cons.1 hx with rfl|hx
  ·obtain⟨y,hy,rfl⟩:=Xx hc hi;exact has y (by simp[hy])
  ·have:∃l:List En,x.2=l.map ent:=by
    rcases List.mem_cons.1 hx with rfl|hx
    ·exact⟨_,rfl⟩
    ·obtain⟨_,r,_,e⟩:=ZL hx;exact⟨_,e⟩
   obtain⟨l,e⟩:=this;rw[e]at hc;obtain⟨z,_,rfl⟩:=List.mem_map.1 hc;rw[Yn]at hi;cases hi
theorem FB {ns:List Nat} {rs:List Rw} {R:List (Nat×Row)} {H:List (Nat×List PV×Bool)} (h:∀x∈Uo ns rs,x∈R.map (·.1)):(PV.idsL (ZA ns rs)).all (ZV H R)=true:=by
 rw[List.all_eq_true];intro i hi;obtain⟨p,hp,hi⟩:=PV.mem_idsL.1 hi;obtain⟨y,hy,rfl⟩:=Xx hp hi;exact List.contains_iff_mem.2 (h y hy)
theorem Zhu (d:Dc) (h1:d.head.length≤100000) (h2:d.rows.length≤100000) (h3:∀e∈d.head,e.l.length≤1000000) (h4:∀r∈d.rows,r.l.length≤100000∧ ∀e∈r.l,e.l.length≤1000000):
  Eff Try.prog 18 [doc d] noV (.agg [.vsl 3000 d.head.length 5,.vsl 26 d.rows.length 2]) (Ziz (nsU d.rows.length) d):=by
 obtain⟨hd,rws⟩:=d;simp only at h1 h2 h3 h4;have hce:∀l:List En,∀p∈l.map ent,p.ids= []:=fun l=>Yf Yn l
 have hm:rws.length≤maxLen:=by rw[Zh];omega
 have hV0:=U8 hd h1 h3;refine Eff.of_v [26] Try.func18 (by decide) rfl Try.ntmps18 Try.results18 (by simp) Zgp (Zjj (Xv _) fun x hx=>(YH hx).1) (by simp[doc,Zt,PV.ids,PV.idsL]) (by simp[PV.ids,PV.idsL,MemL.has,XK]) (by simp) (by simp) fun ph pq=> ?_
 simp only[go_sem,doc];refine U1 3000 hV0 (hce _) (by simp[PV.ids,Zt]) rfl (by simp only[go_sem,Zt]) ?_;simp only[go_sem,PV.ren,Zt];refine ZfD (Gh.nilVecB (b:=3) (j:=1) (d:=26) (sz:=2) (e:=53) rfl rfl (by simp) rfl rfl) ?_;refine FI (ι:= { k:Nat // k≤rws.length }) 30 (fun x=> [(2,.ptr 2 0),(3,.ptr 3 0),(11,.sl .no (rws.map row)),(12,.int .i64 (rws.length:Int)),(13,.int .i64 (x.1:Int))]) (fun x=> [(2,[.sl .nil [],.sl .nil []],false),(3,[.vsl 3000 hd.length 5,.vsl 26 x.1 2],false)]) (fun x=>(26,.vec x.1 2 53)::(3000,.vec hd.length 5 27)::U5 (nsU x.1) (rws.take x.1)) (fun _=> []) (fun _=> []) (fun x=>(26,ZA (nsU x.1) (rws.take x.1))::(3000,hd.map ent)::Se (nsU x.1) (rws.take x.1)) (fun _=> []) [] [] [26] (fun x=>rws.length-x.1) ⟨0,Nat.zero_le _⟩
  ?_ (fun x=> ?_) (fun x=> ?_)
 ·exact Zf3 rfl (Fc5 rfl rfl rfl rfl rfl) rfl rfl rfl rfl rfl rfl rfl rfl
 ·obtain⟨k,hk⟩:=x;have hlk:(nsU k).length=(rws.take k).length:=by rw[Zaj,List.length_take];omega
  refine⟨⟨by simp[PV.ids,PV.idsL,ZV],by simp[PV.ids,PV.idsL,ZV]⟩,fun y hy=> ?_,by simp,fun y hy=> ?_,by simp,by simp⟩
  ·rcases List.mem_cons.1 hy with rfl|hy
   ·exact FB fun x hx=>by simp only[List.map_cons,YG];simp[hx]
   ·have:∃l:List En,y.2=l.map ent:=by
     rcases List.mem_cons.1 hy with rfl|hy
     ·exact⟨_,rfl⟩
     ·obtain⟨_,r,_,e⟩:=ZL hy;exact⟨_,e⟩
    obtain⟨l,e⟩:=this;rw[e,WO Yn l];rfl
  ·have:y.1∈26::3000::Uo (nsU k) (rws.take k):=by
    rw[←Ww];rcases List.mem_cons.1 hy with rfl|hy
    ·simp
    ·rcases List.mem_cons.1 hy with rfl|hy
     ·simp
     ·exact List.mem_cons_of_mem _ (List.mem_cons_of_mem _ (List.mem_map.2 ⟨y,hy,rfl⟩))
   rw[List.contains_iff_mem];simp only[List.map_cons,YG];exact this
 obtain⟨k,hk⟩:=x;have hlk:(nsU k).length=(rws.take k).length:=by rw[Zaj,List.length_take];omega
 have q25:=Tp (rs:=rws.take k) (Zlx (n:=k) (i:=25) (by omega));have qk:=Tp (rs:=rws.take k) (Zlw (n:=k));simp only
 by_cases h:(k:Int)<(rws.length:Int)
 ·have hka:k<rws.length:=by omega
  have w1:=Wp hka hm;have i1:(0:Int)≤(k:Int):=by omega
  have rk:=h4 _ (Zg (d:=default) hka);have hV:=U8 (rws.getD k default).l rk.1 rk.2;have hrm:=XC (show k+1≤1000000 by omega) (show 40≤1000 by omega);have hln:(ZA (nsU k) (rws.take k)).length=k:=by rw[WT hlk,List.length_take];omega
  have hts:rws.take (k+1)=rws.take k++ [rws.getD k default]:=ZW hka;obtain⟨s1,s2,s3⟩:=F9 (x:=10000+k) (r:=rws.getD k default) hlk
  by_cases h00:(rws.getD k default).l.length=0
  ·rw[if_pos h00,List.append_nil]at s1 s2;rw[Zan h00]at s3;have hO:=YP (rws.getD k default).l rk.1 rk.2;simp only[go_sem,h,ZB hka,row,i1];refine FJ 9 (by kernel_rfl) (by kernel_rfl) fun l1 hl1=> ?_
   simp only[List.take]at hl1;subst hl1;simp only[go_sem];refine vc1 (hO) ?_;simp only[go_sem,Zt,q25];refine Zdc 9 (by kernel_rfl) fun l2 hl2=> ?_
   simp only[List.drop]at hl2;subst hl2;simp only[go_sem,Zt,w1,hln,hrm];refine⟨fun p hp=>by rw[List.mem_singleton.1 hp];exact⟨rfl,rfl⟩,fun p hp=>by rw[List.mem_singleton.1 hp];exact YQ _,fun p hp=> ?_,⟨k+1,by omega⟩,by show rws.length-(k+1)<rws.length-k;omega,⟨rfl,(Fc5 rfl rfl rfl rfl rfl),Fc2 ⟨rfl,rfl⟩ ⟨rfl,rfl⟩,fun x hx=> ?_⟩,by simp,by simp,fun x hx=> ?_,by simp,by simp,by simp⟩
   ·rcases List.mem_append.1 hp with hp|hp
    ·intro hi;obtain⟨y,hy,e⟩:=Xx hp hi;have:=(YH (XW hy)).1;simp only[Ref.r.injEq]at e;omega
    ·rw[List.mem_singleton.1 hp,show(PV.agg [PV.str (rws.getD k default).item,PV.sl Tok.no (List.map ent (rws.getD k default).l)]).ids= []from YQ _];simp
   ·simp only at hx;rw[Gp,hts,s1]at hx;show upd (upd (upd (upd _ 3000 _) 26 _) 25 _) 26 _ x.1=some x.2;rcases List.mem_cons.1 hx with rfl|hx
    ·rfl
    ·rcases List.mem_cons.1 hx with rfl|hx
     ·rfl
     ·have hb:=YH (YC hx).1;rw[Zc _ _ (by omega),Zc _ _ (by omega),Zc _ _ (by omega),Zc _ _ (by omega)];exact Vh (Xv k) hx
   ·simp only at hx;rw[Gp,hts,s2,s3]at hx;show upd (upd (upd _ 3000 _) 26 _) 26 _ x.1=some x.2;rcases List.mem_cons.1 hx with rfl|hx
    ·rfl
    ·rcases List.mem_cons.1 hx with rfl|hx
     ·rfl
     ·have hb:=YH (ZL hx).1;rw[Zc _ _ (by omega),Zc _ _ (by omega),Zc _ _ (by omega)];exact Xp (Xv k) hx
  rw[if_neg h00]at s1 s2;rw[show rowN (10000+k) (rws.getD k default)= .agg [.str (rws.getD k default).item,.vsl (10000+k) (rws.getD k default).l.length 5]by unfold rowN;rw[if_neg h00]]at s3;simp only[go_sem,h,ZB hka,row,i1];refine W0 [0,1,2,3,4,5] 6 9 [] 9 (by kernel_rfl) (by kernel_rfl) fun l1 hl1=> ?_
  simp only[List.filterMap,List.getElem?_cons_zero,List.getElem?_cons_succ]at hl1;subst hl1;simp only[go_sem];refine Zjt (10000+k) hV (Za2 _) (by simp[Zt,PV.ids]) rfl rfl rfl rfl (show(23:Nat)<30 by omega) rfl ?_ (fun m=>by simp only[go_sem,Zt]) (by simp[PV.ren,PV.dids]) ?_
  ·show upd (upd _ 3000 _) 26 _ (10000+k)=none;rw[Zc _ _ (by omega),Zc _ _ (by omega)];exact qk
  refine Zav rfl rfl rfl fun l2 hl2=> ?_
  subst hl2;simp only[go_sem,PV.ren];refine Zc4 (ei:=⟨53,2,40⟩) rfl rfl rfl rfl (show(25:Nat)<30 by omega) (by kernel_rfl) ?_ rfl (by decide) (by simp only[go_sem,Td];simp;omega) ?_
  ·show upd (upd (upd _ 3000 _) 26 _) (10000+k) _ 25=none;rw[Zc _ _ (by omega),Zc _ _ (by omega),Zc _ _ (by omega)];exact q25
  refine WZ fun l2 hl2=> ?_
  simp only[List.filterMap]at hl2;subst hl2;simp only[go_sem];refine UD _ 9 (by kernel_rfl) fun l2 hl2=> ?_
  simp only[List.drop]at hl2;subst hl2;have n1:(10000+k=26)=False:=eq_false (by omega);have n2:(10000+k=25)=False:=eq_false (by omega);simp only[go_sem,w1,hln,hrm,n1,n2];refine⟨fun p hp=>by rw[List.mem_singleton.1 hp];exact⟨rfl,rfl⟩,⟨⟨_,rfl⟩,by decide⟩,fun p hp=> ?_,⟨k+1,by omega⟩,by show rws.length-(k+1)<rws.length-k;omega,⟨rfl,(Fc5 rfl rfl rfl rfl rfl),Fc2 ⟨rfl,rfl⟩ ⟨rfl,rfl⟩,fun x hx=> ?_⟩,by simp,by simp,fun x hx=> ?_,by simp,by simp,by simp⟩
  ·rcases List.mem_append.1 hp with hp|hp
   ·intro hi;obtain⟨y,hy,e⟩:=Xx hp hi;have:=(YH (XW hy)).1;simp only[Ref.r.injEq]at e;omega
   ·rw[List.mem_singleton.1 hp];simp[PV.ids,PV.idsL];omega
  ·simp only at hx;rw[Gp,hts,s1]at hx;show upd (upd (upd (upd (upd _ 3000 _) 26 _) (10000+k) _) 25 _) 26 _ x.1=some x.2;rcases List.mem_cons.1 hx with rfl|hx
   ·rfl
   ·rcases List.mem_cons.1 hx with rfl|hx
    ·rw[Zc _ _ (show(26:Nat)≠3000 by omega),Zc _ _ (show(25:Nat)≠3000 by omega),Zc _ _ (show 10000+k≠3000 by omega),Zc _ _ (show(26:Nat)≠3000 by omega),Za]
    ·rcases List.mem_append.1 hx with hx|hx
     ·have hb:=YH (YC hx).1;rw[Zc _ _ (by omega),Zc _ _ (by omega),Zc _ _ (by omega),Zc _ _ (by omega),Zc _ _ (by omega)];exact Vh (Xv k) hx
     ·rw[List.mem_singleton.1 hx,Zc _ _ (by simp only;omega),Zc _ _ (by simp only;omega),Za]
  ·simp only at hx;rw[Gp,hts,s2,s3]at hx;show upd (upd (upd (upd (upd _ 3000 _) 26 _) (10000+k) _) 25 _) 26 _ x.1=some x.2;rcases List.mem_cons.1 hx with rfl|hx
   ·rfl
   ·rcases List.mem_cons.1 hx with rfl|hx
    ·rw[Zc _ _ (show(26:Nat)≠3000 by omega),Zc _ _ (show(25:Nat)≠3000 by omega),Zc _ _ (show 10000+k≠3000 by omega),Zc _ _ (show(26:Nat)≠3000 by omega),Za]
    ·rcases List.mem_append.1 hx with hx|hx
     ·have hb:=YH (ZL hx).1;rw[Zc _ _ (by omega),Zc _ _ (by omega),Zc _ _ (by omega),Zc _ _ (by omega),Zc _ _ (by omega)];exact Xp (Xv k) hx
     ·rw[List.mem_singleton.1 hx,Zc _ _ (by simp only;omega),Zc _ _ (by simp only;omega),Za]
 ·obtain rfl:k=rws.length:=by omega
  have hlw:(nsU rws.length).length=rws.length:=Zaj _;simp only[go_sem,h,List.take_length];refine⟨⟨.agg [.vsl 3000 hd.length 5,.vsl 26 rws.length 2],by simp only[go_sem,YS],.keep _ (by
   intro i hi;simp[PV.ids,PV.idsL]at hi;rcases hi with rfl|rfl
   ·exact⟨_,List.mem_cons_of_mem _ (List.mem_cons_self ..),rfl⟩
   ·exact⟨_,List.mem_cons_self ..,rfl⟩)⟩,by simp,fun x hx=> ?_,fun x hx=> ?_,by simp,by simp⟩
  ·show upd (upd _ 3000 _) 26 _ x.1=some x.2;rcases List.mem_cons.1 hx with rfl|hx
   ·rfl
   ·rcases List.mem_cons.1 hx with rfl|hx
    ·rfl
    ·have hb:=YH (YC hx).1;rw[Zc _ _ (by omega),Zc _ _ (by omega)];exact Vh (Xv _) hx
  ·have hv:upd (upd (Yc ((Se (nsU rws.length) rws).map fun x=>(x.1,some x.2)) fun _=>none) 3000 (some (hd.map ent))) 26 (some (ZA (nsU rws.length) rws)) x.1=some x.2:=by
    rcases List.mem_cons.1 hx with rfl|hx
    ·rfl
    ·rcases List.mem_cons.1 hx with rfl|hx
     ·rfl
     ·have hb:=YH (ZL hx).1;rw[Zc _ _ (by omega),Zc _ _ (by omega)];exact Xp (Xv _) hx
   refine⟨_,hv,rfl,fun i hi=> .keep _ fun j hj=> ?_⟩;exact(Zjj (d:=⟨hd,rws⟩) (Xv _) fun x hx=>(YH hx).1).cv x hx _ (Ze hi) j hj
end Go.Proofs.Ytmnibpgmcgdfpaa
namespace Go.PL
open Go.RowKit
theorem Gh.moveVecS {s:St} (i id d n sz:Nat) (e:TypeId) (es:List PV) (hn:es.length=n) (hi:s.fr i= .vsl id n sz) (hid:s.m.q id=some (.vec n sz e)) (hv:s.m.v id=some es) (hd:s.m.q d=none):
  Gh s ({ s with fr:=upd s.fr i (.vsl d n sz) }.with { ({ s.m with v:=upd s.m.v id none }.setq id .dead).setq d (.vec n sz e)with v:=upd (upd s.m.v id none) d (some es) }):=fun B S M a w hs=>by
 subst hn;have hs1:=hs.moveVec hid hv hd;have hrow:=hs.fr i;rw[hi]at hrow;obtain⟨v0,t⟩:=hrow.vsl_inv;obtain⟨_,t2⟩:=t _ _ _ hid;refine⟨S,_,⟨hs1.defers,hs1.hn,hs1.hB,hs1.stable,fun k=> ?_,fun k r hr=> ?_,hs1.blk,hs1.row,hs1.inj,hs1.injq,hs1.injx,hs1.rm,hs1.vc,hs1.pn,hs1.hz⟩,Ext.refl _ _ _⟩
 ·show RepS _ _ _ _ (upd s.fr i (.vsl d es.length sz) k)
  by_cases ek:i=k
  ·subst ek;rw[Za];refine .vsl d _ sz _ v0 fun n' sz' e' hq=> ?_
   have hq':upd (upd s.m.q id (some .dead)) d (some (.vec es.length sz e)) d=some (.vec n' sz' e'):=hq;rw[Za]at hq';cases hq';refine⟨Nat.le_refl _,fun _=>⟨rfl,?_⟩⟩;have:=(t2 rfl).2;simpa only[Za]using this
  ·rw[Zc _ _ ek];exact hs1.fr k
 ·have hr':r∈(upd s.fr i (.vsl d es.length sz) k).ids:=hr
  by_cases ek:i=k
  ·subst ek;rw[Za]at hr';simp only[PV.ids,List.mem_singleton]at hr';subst hr';show upd _ _ _ _≠none;simp[Za]
  ·rw[Zc _ _ ek]at hr';exact hs1.ids k r hr'
end Go.PL
namespace Go.Proofs.Ytmnibpgmcgdfpaa
open Go.PL Go.RowKit
def rvL (l:List Fd) (d:Dc) (it:Str) (nw:Rw) (k:Nat):List (Nat×PV):= [(0,Zj l),(2,.str it),(4,.ptr 4 0),(6,.ptr 6 0),(8,.vsl (nmR (Zm d.rows it) k) (XD d.rows nw k).length 2),(9,.bool (decide (Zm d.rows it<k))),(10,.int .i64 (k:Int))]
def rvR (d:Dc) (it:Str) (nw:Rw) (k:Nat):List (Nat×Row):= [(nmR (Zm d.rows it) k,.vec (XD d.rows nw k).length 2 53)]
def rvV (d:Dc) (it:Str) (nw:Rw) (k:Nat):List (Nat×List PV):= [(nmR (Zm d.rows it) k,(XD d.rows nw k).map row)]
abbrev rvS (l:List Fd) (d:Dc) (it:Str) (nw:Rw) (k:Nat):St:=mkStX 81 (rvL l d it nw k) (rrH d) (rvR d it nw k) [] [] (rvV d it nw k) [] [] [] [31,58,66,76]
theorem ZdP (l:List Fd) (d:Dc) (it:Str) (nw:Rw) (k:Nat):WholeX (rvL l d it nw k) (rrH d) (rvR d it nw k) (rvV d it nw k) [] [] []:=
 ⟨⟨Fc7 rfl rfl rfl rfl (by simp[PV.ids,ZV,rvR]) rfl rfl,by simp[rrH,PV.ids,PV.idsL,ZV]⟩,fun x hx=>by
  rw[List.mem_singleton.1 hx,WO YQ _];rfl,by simp,fun x hx=>by rw[List.mem_singleton.1 hx];simp[rvR],by simp,by simp⟩
theorem ZgH {s:St} {l:List Fd} {d:Dc} {it:Str} {nw:Rw} {k:Nat} (hn:s.n=81) (hL:∀x∈rvL l d it nw k,s.fr x.1=x.2) (hH:∀x∈rrH d,s.m.h x.1=some x.2.1∧s.m.z x.1=x.2.2) (hq:s.m.q (nmR (Zm d.rows it) k)=some (.vec (XD d.rows nw k).length 2 53)) (hv:s.m.v (nmR (Zm d.rows it) k)=some ((XD d.rows nw k).map row)):Gh s (rvS l d it nw k):=
 Gh.weak (HasX.weak (ZdP l d it nw k) ⟨⟨hn,hL,hH,fun x hx=>by rw[List.mem_singleton.1 hx];exact hq⟩,by simp,by simp,fun x hx=>by rw[List.mem_singleton.1 hx];exact hv,by simp,by simp,by simp⟩) (Refs.mkStX (ZdP l d it nw k))
theorem Zhy (l:List Fd) (d:Dc) (it:Str) (hl:l.length≤100000) (hl':∀f∈l,f.cases'.length≤1000000) (h1:d.head.length≤100000) (h2:d.rows.length≤100000) (hf:Vk d) (hr:Zl l d=true) (hn:Z8 it=true) (hkn:Z9 d.rows it=false) (h400:¬(400:Int)≤(d.rows.length:Int)):
  ∃i,Eff Try.prog 30 [Zj l,doc d,.str it] noV (.tup [.agg [.sl .no (d.head.map ent),.vsl i (Vl d.rows ⟨it,Zp l 1⟩).length 2],.int .i64 0]) (D0 i (Vl d.rows ⟨it,Zp l 1⟩).length 2 53 ((Vl d.rows ⟨it,Zp l 1⟩).map row)):=by
 have hR:=ZH l d (by rw[Zh];omega) (fun f hf=>by have:=hl' f hf;rw[Zh];omega) hf;have hN:=XG it;have hA:=XH d it (by rw[Zh];omega);have hS:=Xe l 1 (by omega);have hB:=VP (Zi l 1) (Nat.le_trans (List.length_filter_le _ _) hl);rw[←SR]at hB;rw[hr]at hR;rw[hn]at hN;have hp:idx (fun r:Rw=>r.item==it) d.rows= -1:=by
  rcases G8 (Xw hr) it with ⟨h,_⟩|⟨_,h⟩
  ·rw[hkn]at h;cases h
  ·exact h
 rw[hp]at hA;have h399:¬(399:Int)<(d.rows.length:Int):=by omega
 generalize hnw:(⟨it,Zp l 1⟩:Rw)=nw;have hni:nw.item=it:=by rw[←hnw]
 have hcl:∀l:List Rw,∀p∈l.map row,p.ids= []:=fun l=>Yf YQ l
 have hc1:∀(a:Str) (b:List En),∀p∈ [PV.agg [.str a,.sl .no (b.map ent)]],p.ids= []:=fun a b p hp=>by rw[List.mem_singleton.1 hp];exact YQ ⟨a,b⟩
 have hk1:∀(a:Str) (b:List En),∀p∈ [PV.agg [.str a,.sl .no (b.map ent)]],p.cells.length=2∧p.cells.all PV.atom=true:=fun a b p hp=>by rw[List.mem_singleton.1 hp];exact⟨rfl,rfl⟩
 have hca:∀(A B:List PV) (i:Nat),(∀p∈A,p.ids= [])→(∀p∈B,p.ids= [])→ ∀p∈A++B,Ref.r i∉p.ids:=fun A B i hA hB p hp=>by
  rcases List.mem_append.1 hp with h|h
  ·rw[hA p h];simp
  ·rw[hB p h];simp
 have hap:∀(A B:List PV),(∀p∈A,p.ids= [])→(∀p∈B,p.ids= [])→ ∀p∈A++B,p.ids= []:=fun A B hA hB p hp=>by
  rcases List.mem_append.1 hp with h|h
  ·exact hA p h
  ·exact hB p h
 refine⟨if Zm d.rows it=d.rows.length then 76 else 66,?_⟩;refine Eff.vn [31,58,66,76] Try.func30 (by decide) rfl Try.ntmps30 Try.results30 (by simp) (hcl _) (by simp[Zj,doc,Zt,PV.ids,PV.idsL]) (by simp[PV.ids,PV.idsL]) ?_;simp only[go_sem,Zj,doc];refine vc2 (hR) ?_;simp only[go_sem];refine vc1 (hN) ?_;simp only[go_sem,Zj,doc];refine vc1 (hA) ?_;simp only[go_sem,h399];have hlm:d.rows.length≤maxLen:=by rw[Zh];omega
 have hjl:=Yp d.rows it;have h00:XD d.rows nw 0= []:=by unfold XD;rw[if_pos (Nat.zero_le _)];rfl
 refine Zju (ι:= { k:Nat // k≤d.rows.length }) (fun x=>rvS l d it nw x.1) (fun x=>d.rows.length-x.1) ⟨0,Nat.zero_le _⟩ ?_ (fun x=> ?_)
 ·refine(Gh.moveVecS 8 31 (nmR (Zm d.rows it) 0) 0 2 53 [] rfl rfl rfl rfl (by unfold nmR;split<;>rfl)).trans (ZgH rfl ?_ (Fc2 ⟨rfl,rfl⟩ ⟨rfl,rfl⟩) ?_ ?_)
  ·simp only[rvL,h00,decide_eq_false (show ¬Zm d.rows it<0 by omega)];exact(Fc7 rfl rfl rfl rfl rfl rfl rfl)
  ·rw[h00];exact Za _ _ _
  ·rw[h00];exact Za _ _ _
 obtain⟨k,hk⟩:=x;simp only
 by_cases h:(k:Int)<(d.rows.length:Int)
 ·have hka:k<d.rows.length:=by omega
  have i1:(0:Int)≤(k:Int):=by omega
  have w1:=Wp hka hlm;have hol:=Gq (rs:=d.rows) (r:=nw) (k:=k) (by omega);have hml:((XD d.rows nw k).map row).length=(XD d.rows nw k).length:=List.length_map _;have hrm:=XC (show(XD d.rows nw k).length+1≤1000000 by omega) (show 40≤1000 by omega);have hes:((XD d.rows nw k).map row++ [row (d.rows.getD k default)]).length=(XD d.rows nw k).length+1:=by rw[List.length_append,hml];rfl
  rcases Nat.lt_trichotomy k (Zm d.rows it)with hj|hj|hj
  ·have hsn:=Zgv (rs:=d.rows) (r:=nw) (k:=k) (by rw[hni];exact hj);have c1:=FZ (Gd hj);have c2:decide (Zm d.rows it<k)=false:=decide_eq_false (by omega);have c3:decide (Zm d.rows it<k+1)=false:=decide_eq_false (by omega);have hn0:nmR (Zm d.rows it) k=66:=if_neg (by omega);simp only[go_sem,rvL,rrH,rvR,rvV,hn0,h,ZB hka,row,c1,c2,i1,hml,hrm,w1];refine⟨hk1 _ _,hc1 _ _,hca _ _ _ (hcl _) (hc1 _ _),⟨k+1,by omega⟩,by show d.rows.length-(k+1)<d.rows.length-k;omega,?_⟩
   by_cases hj1:k+1=Zm d.rows it
   ·have hn1:nmR (Zm d.rows it) (k+1)=3000:=if_pos hj1;refine(Gh.moveVecS 8 66 3000 ((XD d.rows nw k).length+1) 2 53 ((XD d.rows nw k).map row++ [row (d.rows.getD k default)]) hes rfl rfl rfl rfl).trans (ZgH rfl ?_ (Fc2 ⟨rfl,rfl⟩ ⟨rfl,rfl⟩) ?_ ?_)
    ·simp only[rvL,hsn,List.length_append,c3,hn1];exact(Fc7 rfl rfl rfl rfl rfl rfl rfl)
    ·rw[hn1,hsn,List.length_append];rfl
    ·rw[hn1,hsn,List.map_append];rfl
   ·have hn1:nmR (Zm d.rows it) (k+1)=66:=if_neg hj1;refine ZgH rfl ?_ (Fc2 ⟨rfl,rfl⟩ ⟨rfl,rfl⟩) ?_ ?_
    ·simp only[rvL,hsn,List.length_append,c3,hn1];exact(Fc7 rfl rfl rfl rfl rfl rfl rfl)
    ·rw[hn1,hsn,List.length_append];rfl
    ·rw[hn1,hsn,List.map_append];rfl
  ·have hsn:=Zgt (rs:=d.rows) (r:=nw) (k:=k) (by rw[hni];exact hj) hka;have c1:Zq it (d.rows.getD k default).item=true:=by
    have g:=ZjK (rs:=d.rows) (it:=it) (by omega);rw[←hj]at g;rcases TJ it (d.rows.getD k default).item with h|h|h
    ·exact h
    ·exact absurd h.symm (ZjL hkn hka hj)
    ·rw[g]at h;cases h
   have c2:decide (Zm d.rows it<k)=false:=decide_eq_false (by omega);have c3:decide (Zm d.rows it<k+1)=true:=decide_eq_true (by omega);have hrm2:=XC (show(XD d.rows nw k).length+1+1≤1000000 by omega) (show 40≤1000 by omega);have hl2:((XD d.rows nw k).map row++ [PV.agg [.str it,.sl .no ((Zp l 1).map ent)]]).length=(XD d.rows nw k).length+1:=by rw[List.length_append,hml];rfl
   have hn0:nmR (Zm d.rows it) k=3000:=if_pos hj;have hn1:nmR (Zm d.rows it) (k+1)=66:=if_neg (by omega);simp only[go_sem,rvL,rrH,rvR,rvV,hn0,h,ZB hka,row,c1,c2,i1,Zj];refine vc2 (hS) ?_;simp only[go_sem];refine vc2 (hB) ?_;simp only[go_sem,Zt,h,ZB hka,row,i1,hml,hl2,hrm,hrm2,w1];refine⟨hk1 _ _,hc1 _ _,hca _ _ _ (hcl _) (hc1 _ _),hk1 _ _,hc1 _ _,hca _ _ _ (hap _ _ (hcl _) (hc1 _ _)) (hc1 _ _),⟨k+1,by omega⟩,by show d.rows.length-(k+1)<d.rows.length-k;omega,?_⟩;subst hnw;refine ZgH rfl ?_ (Fc2 ⟨rfl,rfl⟩ ⟨rfl,rfl⟩) ?_ ?_
   ·simp only[rvL,hsn,List.length_append,c3,hn1];exact(Fc7 rfl rfl rfl rfl rfl rfl rfl)
   ·rw[hn1,hsn,List.length_append,List.length_append];rfl
   ·rw[hn1,hsn,List.map_append,List.map_append];rfl
  ·have hsn:=Zgu (rs:=d.rows) (r:=nw) (k:=k) (by rw[hni];exact hj) hka;have c2:decide (Zm d.rows it<k)=true:=decide_eq_true (by omega);have c3:decide (Zm d.rows it<k+1)=true:=decide_eq_true (by omega);have hn0:nmR (Zm d.rows it) k=66:=if_neg (by omega);have hn1:nmR (Zm d.rows it) (k+1)=66:=if_neg (by omega);simp only[go_sem,rvL,rrH,rvR,rvV,hn0,h,ZB hka,row,c2,i1,hml,hrm,w1];refine⟨hk1 _ _,hc1 _ _,hca _ _ _ (hcl _) (hc1 _ _),⟨k+1,by omega⟩,by show d.rows.length-(k+1)<d.rows.length-k;omega,?_⟩;refine ZgH rfl ?_ (Fc2 ⟨rfl,rfl⟩ ⟨rfl,rfl⟩) ?_ ?_
   ·simp only[rvL,hsn,List.length_append,c3,hn1];exact(Fc7 rfl rfl rfl rfl rfl rfl rfl)
   ·rw[hn1,hsn,List.length_append];rfl
   ·rw[hn1,hsn,List.map_append];rfl
 ·obtain rfl:k=d.rows.length:=by omega
  have hol:=Gq (rs:=d.rows) (r:=nw) (k:=d.rows.length) (Nat.le_refl _);have hml:((XD d.rows nw d.rows.length).map row).length=(XD d.rows nw d.rows.length).length:=List.length_map _;have hrm:=XC (show(XD d.rows nw d.rows.length).length+1≤1000000 by omega) (show 40≤1000 by omega);rcases ZdK (rs:=d.rows) (r:=nw)with ⟨e1,e2⟩|⟨e1,e2⟩
  ·rw[hni]at e1;have c2:decide (Zm d.rows it<d.rows.length)=false:=decide_eq_false (by omega);have hn0:nmR (Zm d.rows it) d.rows.length=3000:=if_pos e1.symm;have e3:(Vl d.rows nw).length=(XD d.rows nw d.rows.length).length+1:=by rw[←e2,List.length_append];rfl
   rw[if_pos e1];simp only[go_sem,rvL,rrH,rvR,rvV,hn0,h,c2,Zj];refine vc2 (hS) ?_;simp only[go_sem];refine vc2 (hB) ?_;simp only[go_sem,Zt,hml,hrm];refine⟨hk1 _ _,hc1 _ _,hca _ _ _ (hcl _) (hc1 _ _),?_⟩;rw[e3,←e2];subst hnw;simp only[List.map_append];exact Sx (r0:= .tup [.agg [.sl .no (d.head.map ent),.vsl 76 ((XD d.rows ⟨it,Zp l 1⟩ d.rows.length).length+1) 2],.int .i64 0]) (hap _ _ (hcl _) (hcl [⟨it,Zp l 1⟩])) (by simp only[go_sem,YS]) (.keep _ (by intro i hi;simp[PV.ids,PV.idsL]at hi;subst hi;exact⟨_,List.mem_singleton.2 rfl,rfl⟩)) rfl rfl
  ·rw[hni]at e1;have c2:decide (Zm d.rows it<d.rows.length)=true:=decide_eq_true (by omega);have hn0:nmR (Zm d.rows it) d.rows.length=66:=if_neg (by omega);rw[if_neg (by omega)];simp only[go_sem,rvL,rrH,rvR,rvV,hn0,h,c2];rw[←e2];exact Sx (r0:= .tup [.agg [.sl .no (d.head.map ent),.vsl 66 (XD d.rows nw d.rows.length).length 2],.int .i64 0]) (hcl _) (by simp only[go_sem,YS]) (.keep _ (by intro i hi;simp[PV.ids,PV.idsL]at hi;subst hi;exact⟨_,List.mem_singleton.2 rfl,rfl⟩)) rfl rfl
end Go.Proofs.Ytmnibpgmcgdfpaa
