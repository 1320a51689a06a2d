/- Contracts of functions and laws of this seat, each for every input that it names: lemmas of the proof. -/
import Derived.Test.YtmnibpgmcgdfpaaPlM
import Derived.Test.YtmnibpgmcgdfpaaXAa
import Derived.Test.YtmnibpgmcgdfpaaXAd
import Derived.Test.YtmnibpgmcgdfpaaXAn
import Derived.Test.YtmnibpgmcgdfpaaXBl
import Derived.RangeFuncBox
import Derived.WalkKit
import Derived.OwnWalkIn
import Derived.TacticsInMore
import Derived.LoopNIn
import Derived.LoopIn
set_option maxHeartbeats 64000000
set_option maxRecDepth 20000
set_option linter.unusedVariables false
set_option linter.unusedSimpArgs false
namespace Go.Proofs.Ytmnibpgmcgdfpaa
open Go.PL
open Go.PL
theorem FO (f:Fd):PL.Pure Try.prog 103 [fld f] (ent (ZF f)):=by
 by_cases h1:f.kind=1
 ·have k1:(f.kind==1)=true:=by rw[h1];rfl
  refine YX Try.func103 rfl Try.ntmps103 Try.results103 (Xn _) ?_;simp only[go_sem,fld,k1,ZF,ent,h1,if_true]
 ·have k1:(f.kind==1)=false:=beq_eq_false_iff_ne.2 h1
  by_cases h4:f.kind=4
  ·have k4:(f.kind==4)=true:=by rw[h4];rfl
   refine YX Try.func103 rfl Try.ntmps103 Try.results103 (Xn _) ?_;simp only[go_sem,fld,k1,k4,ZF,ent,h4,if_true]
  ·have k4:(f.kind==4)=false:=beq_eq_false_iff_ne.2 h4;refine YX Try.func103 rfl Try.ntmps103 Try.results103 (Xn _) ?_;simp only[go_sem,fld,k1,k4,ZF,ent,h1,h4,or_self,if_false]
theorem VP (l:List Fd) (hl:l.length≤100000):PL.Pure Try.prog 70 [Zj l] (Zt (l.map ZF)):=by
 have hm:l.length≤maxLen:=by rw[Zh];omega
 refine YX Try.func70 rfl Try.ntmps70 Try.results70 (XY _) ?_;simp only[go_sem,Zj];refine GI 3 5 19 0 5 27 [] rfl rfl rfl ?_;refine ZK (ι:= { x:Nat // x≤(l).length }) 21 (fun x=> [(0,Zj l),(3,.sl (.row 19) (((l.take x.1).map ZF).map ent)),(4,.int .i64 (x.1:Int))]) (fun x=> []) (fun x=> [(19,.live ((l.take x.1).length) (5) (27))]) (fun x=>(l).length-x.1) ⟨0,Nat.zero_le _⟩ ⟨rfl,(Fc3 rfl rfl rfl),fnl,(fcs rfl fnl)⟩ (fun x=>⟨(Fc3 rfl (by simp[PV.ids,ZV]) rfl),fnl⟩) (fun x=> ?_);obtain⟨k,hk⟩:=x;simp only at hk ⊢
 by_cases h:(k:Int)<(l.length:Int)
 ·(have hka:k<(l).length:=by omega);(have w1:=Wp hka (hm));(have i1:(0:Int)≤(k:Int):=by omega)
  have hV:=FO (l.getD k default);have hml:(((l.take k).map ZF).map ent).length=(l.take k).length:=by simp
  have hkl:(l.take k).length≤k:=List.length_take_le _ _;have hrm:=XC (show(l.take k).length+1≤1000000 by omega) (show 72≤1000 by omega);have htl:(l.take (k+1)).length=(l.take k).length+1:=by simp;omega
  have hsz:Sized 5 (((l.take k).map ZF).map ent):=UA _;have hsn:(l.take (k+1)).map ZF=(l.take k).map ZF++ [ZF (l.getD k default)]:=by rw[ZW (d:=default) hka,List.map_append];rfl
  generalize hx:l.getD k default=x at *;generalize hv:ZF x=v at *;simp only[go_sem,Zj,h,Zy hka,hx,fld,i1];refine vc2 (hV) ?_;simp only[go_sem,ent,UA,FD,D7,hml,hrm,w1];exact⟨⟨k+1,by omega⟩,by show l.length-(k+1)<l.length-k;omega,⟨rfl,by simp only;rw[hsn,List.map_append];exact(Fc3 rfl rfl rfl),fnl,by simp only;rw[htl];exact fcs rfl fnl⟩⟩
 ·have htk:l.take k=l:=List.take_of_length_le (by omega);simp only[go_sem,Zj,h,htk,Zt]
theorem Zb8 (l:List Fd) (hl:l.length≤100000):PL.Pure Try.prog 38 [Zj l] (doc ⟨(Zi l 0).map ZF,[]⟩):=by
 have hS:=Xe l 0 (by omega);have hB:=VP (Zi l 0) (Nat.le_trans (List.length_filter_le _ _) hl);refine YX Try.func38 rfl Try.ntmps38 Try.results38 (TN _) ?_;simp only[go_sem,Zj];refine vc2 (hS) ?_;simp only[go_sem];refine vc2 (hB) ?_;simp only[go_sem,Zt,doc]
open Go.PL
theorem Zu (d:Dc) (n:Int):(PV.tup [doc d,.int .i64 n]).dids= []:=by simp only[PV.dids,PV.didsL,TN,List.append_nil]
theorem Zea (l:List Fd) (hd:List En) (it:Str) (hl:l.length≤100000) (hl':∀f∈l,f.cases'.length≤maxLen) (hf:Vk ⟨hd,[]⟩) (hr:Zl l ⟨hd,[]⟩=true) (hn:Z8 it=true):
  PL.Pure Try.prog 30 [Zj l,doc ⟨hd,[]⟩,.str it] (.tup [doc ⟨hd,[⟨it,(Zi l 1).map ZF⟩]⟩,.int .i64 0]):=by
 have hR:=ZH l ⟨hd,[]⟩ (by rw[Zh];omega) hl' hf;rw[hr]at hR;have hN:=XG it;rw[hn]at hN;have hA:=XH ⟨hd,[]⟩ it (Nat.zero_le _);have hA0:idx (fun r:Rw=>r.item==it) []= -1:=rfl;simp only[hA0]at hA;have hS:=Xe l 1 (by omega);have hB:=VP (Zi l 1) (Nat.le_trans (List.length_filter_le _ _) hl);generalize (Zi l 1).map ZF=es at *;have hsr:Sized 2 [row ⟨it,es⟩]:=Yq [⟨it,es⟩];have har:Wd [row ⟨it,es⟩]:=WI [⟨it,es⟩];have hrm:=XC (show 0+1≤1000000 by omega) (show 40≤1000 by omega);refine YX Try.func30 rfl Try.ntmps30 Try.results30 (Zu _ _) ?_;simp only[go_sem,Zj,doc];refine vc2 (hR) ?_;simp only[go_sem];refine vc1 (hN) ?_;simp only[go_sem];refine vc1 (hA) ?_;simp only[go_sem,Zj,doc];refine ZK (ι:= { x:Nat // x≤(([]:List En)).length }) 81 (fun x=> [(0,Zj l),(2,.str it),(4,.ptr 4 0),(6,.ptr 6 0),(8,.sl (.row 31) []),(9,.bool false),(10,.int .i64 (x.1:Int))]) (fun x=> [(4,[.sl .no (hd.map ent),.sl .no []],false),(6,[.sl .nil [],.sl .nil []],false)]) (fun x=> [(31,.live (0) (2) (53))]) (fun x=>(([]:List En)).length-x.1) ⟨0,Nat.zero_le _⟩ ⟨rfl,(Fc7 rfl rfl rfl rfl rfl rfl rfl),(Fc2 ⟨rfl,rfl⟩ ⟨rfl,rfl⟩),(fcs rfl fnl)⟩ (fun x=>⟨(Fc7 rfl rfl rfl rfl (by simp[PV.ids,ZV]) rfl rfl),(Fc2 rfl rfl)⟩) (fun x=> ?_);obtain⟨k,hk⟩:=x;simp only at hk ⊢;have h0:¬(k:Int)<0:=by omega
 simp only[go_sem,h0,Zj];refine vc2 (hS) ?_;simp only[go_sem];refine vc2 (hB) ?_;simp only[row]at hsr har;simp only[go_sem,Zt,hsr,har,hrm];simp only[doc,row,List.map_cons,List.map_nil]
end Go.Proofs.Ytmnibpgmcgdfpaa
namespace Go.PL
theorem Pub.agg2w {K:Ref→Prop} {m:Hp} {a b a' b':PV} (h1:Pub K m a a') (h2:Pub K m b b'):Pub K m (.agg [a,b]) (.agg [a',b']):= .agg [a,b] [a',b'] rfl fun i hi=>by
 match i,hi with
 |0,_=>exact h1
 |1,_=>exact h2
end Go.PL
namespace Go.Proofs.Ytmnibpgmcgdfpaa
open Go.PL Go.RowKit
section
variable {P:Program}
theorem ZbU {M:KH} {g:FuncId} {args:List PV} {K:KR} {n i:Nat} {x:PV} {es es':List PV} (d k d2:Nat) (h1:Eff P g [.vsl 1000 n 2,.int .i64 i,.sl (.row 1001) [x]] (Zaf n es) (.vsl 1002 (n+1) 2) (Zcz (n+1) es')) (hx:x.ids= []) (hc:∀p∈es,p.ids= []) (hc':∀p∈es',p.ids= []) (n1:d≠k) (n2:d≠d2) (n3:k≠d2)
  (hq:M.m.q d=some (.vec n 2 53)) (hv:M.m.v d=some es) (hk:M.m.q k=some (.live 1 2 53)) (hd2:M.m.q d2=none) (he:args= [.vsl d n 2,.int .i64 i,.sl (.row k) [x]])
  (h2:K.k (.vsl d2 (n+1) 2) { M.m with q:=upd (upd (upd M.m.q k (some .dead)) d (some .dead)) d2 (some (.vec (n+1) 2 53)),v:=upd (upd (upd M.m.v k none) d none) d2 (some es') }):@T9 P true M (some (g,args)) K:=by
 let f:Nat→Nat:=fun j=>if j=1000 then d else if j=1001 then k else d2
 have f0:f 1000=d:=rfl;have f1:f 1001=k:=rfl;have f2:f 1002=d2:=rfl;refine Ze1 f id h1 ⟨by simp,fun y hy=> ?_,fun y hy=> ?_,by simp,fun y hy=> ?_,by simp,fun y hy z hz e=> ?_⟩ ?_ ?_
 ·simp only[List.mem_cons,List.not_mem_nil,or_false]at hy;rcases hy with rfl|rfl
  ·exact hq
  ·exact hk
 ·simp only[List.mem_singleton]at hy;subst hy;simp only[Tu hc];exact hv
 ·simp only[List.mem_cons,List.not_mem_nil,or_false]at hy;rcases hy with rfl|rfl|rfl
  ·exact .inr hd2
  ·exact .inl ⟨_,List.mem_cons_self ..,rfl⟩
  ·exact .inl ⟨_,List.mem_cons_of_mem _ (List.mem_singleton.2 rfl),rfl⟩
 ·simp only[List.mem_cons,List.not_mem_nil,or_false]at hy hz;rcases hy with rfl|rfl|rfl<;>rcases hz with rfl|rfl|rfl<;>first|rfl|exact absurd e n1|exact absurd e n2|exact absurd e n3|exact absurd e.symm n1|exact absurd e.symm n2|exact absurd e.symm n3
 ·rw[he];simp only[List.map_cons,List.map_nil,PV.ren,f0,f1]
 ·have hl:DI (Zcz (n+1) es') f id M.m= { M.m with q:=upd (upd (upd M.m.q k (some .dead)) d (some .dead)) d2 (some (.vec (n+1) 2 53)),v:=upd (upd (upd M.m.v k none) d none) d2 (some es') }:=by
   unfold DI;have v2:(Zcz (n+1) es').hp.v 1002=some es':=by simp[MemL.hp,WX,V2,upd]
   have v0:(Zcz (n+1) es').hp.v 1000=none:=by simp[MemL.hp,WX,V2,upd]
   have v1:(Zcz (n+1) es').hp.v 1001=none:=by simp[MemL.hp,WX,V2,upd]
   simp only[List.map_nil,V2,List.map_cons,WX,v2,v0,v1,f0,f1,f2,Option.map_some,Option.map_none,Tu hc']
  rw[hl];exact h2
end
def WQ (it:Str) (r:Rw):Bool:= !Zq r.item it
def DJ (rs:List Rw) (it:Str):Int:=idx (WQ it) rs
def Zm (rs:List Rw) (it:Str):Nat:=if DJ rs it<0 then rs.length else(DJ rs it).toNat
def Z9 (rs:List Rw) (it:Str):Bool:=decide (0≤DJ rs it)&&((rs.getD (DJ rs it).toNat default).item==it)
def Vl (rs:List Rw) (r:Rw):List Rw:=rs.take (Zm rs r.item)++r::rs.drop (Zm rs r.item)
def Vb (l:List Fd) (d:Dc) (it:Str):Dc×Int:=
 if(Zl l d&&Z8 it)=false then(default,5)else
 if Z9 d.rows it=true then(default,7)else
 if(400:Int)≤(d.rows.length:Int)then(default,14)else(⟨d.head,Vl d.rows ⟨it,Zp l 1⟩⟩,0)
theorem Yp (rs:List Rw) (it:Str):Zm rs it≤rs.length:=by
 unfold Zm;split
 ·exact Nat.le_refl _
 ·rcases ZN (WQ it) rs with h|⟨i,hi,h⟩
  ·unfold DJ;rw[h];simp
  ·unfold DJ;rw[h];simp;omega
theorem Wj (rs:List Rw) (r:Rw):(Vl rs r).length=rs.length+1:=by
 have:=Yp rs r.item;unfold Vl;simp only[List.length_append,List.length_cons,List.length_take,List.length_drop];omega
theorem Zd0 (r:Rw) (it:Str):PL.Pure Try.prog 67 [row r,.rptr [.str it]] (.bool (WQ it r)):=by
 refine ZO Try.func67 rfl Try.ntmps67 Try.results67 ?_;simp only[go_sem,row,WQ]
theorem Uc (l:List Fd) (d:Dc) (it:Str) (hl:l.length≤100000) (hl':∀f∈l,f.cases'.length≤1000000) (h1:d.head.length≤100000) (h2:d.rows.length≤100000) (h3:∀e∈d.head,e.l.length≤1000000) (h4:∀r∈d.rows,r.l.length≤100000∧ ∀e∈r.l,e.l.length≤1000000):
  PL.Pure Try.prog 29 [Zj l,doc d,.str it] (.tup [doc (Vb l d it).1,.int .i64 (Vb l d it).2]):=by
 have hf:Vk d:=⟨by rw[Zh];omega,by rw[Zh];omega,fun e he=>by have:=h3 e he;rw[Zh];omega,fun r hr=>⟨by have:=(h4 r hr).1;rw[Zh];omega,fun e he=>by have:=(h4 r hr).2 e he;rw[Zh];omega⟩⟩;have hR:=XE l d (by rw[Zh];omega) hl' hf;have hN:=Ue it;have hX:=TB d.rows 67 [.str it] (WQ it) (by rw[Zh];omega) (fun r _=>Zd0 r it);have hO:=Zhv d h1 h2 h3 h4;have hB:=GK l 1 (by omega);have hcl:∀l:List Rw,∀p∈l.map row,p.ids= []:=fun l=>Yf YQ l
 have hrc:∀r:Rw,(row r).cells.length=2∧(row r).cells.all PV.atom=true:=fun r=>⟨rfl,rfl⟩
 have hI:=Zd6 (d.rows.map row) (row ⟨it,Zp l 1⟩) d.rows.length (Zm d.rows it) (List.length_map _) (Yp _ _) (by omega) (hcl _) (YQ _) (fun p hp=>by obtain⟨r,_,rfl⟩:=List.mem_map.1 hp;exact hrc r) (hrc _);have hmap:(d.rows.map row).take (Zm d.rows it)++row ⟨it,Zp l 1⟩::(d.rows.map row).drop (Zm d.rows it)=(Vl d.rows ⟨it,Zp l 1⟩).map row:=by
  unfold Vl;rw[List.map_append,List.map_cons,List.map_take,List.map_drop]
 rw[hmap]at hI;have hrm:=XC (show 1≤1000000 by omega) (show 40≤1000 by omega);have hrn:PV.ren (fun _=>2000) id (.agg [.sl .no (d.head.map ent),.vsl 26 d.rows.length 2])= .agg [.sl .no (d.head.map ent),.vsl 2000 d.rows.length 2]:=by simp[PV.ren,PV.renL]
 have hdef:doc default= .agg [.sl .no [],.sl .no []]:=rfl;cases hr:Zl l d
 ·rw[hr]at hR;have hq:Vb l d it=(default,5):=by simp[Vb,hr]
  rw[hq];refine YX Try.func29 rfl Try.ntmps29 Try.results29 (Zu _ _) ?_;simp only[go_sem,Zj,doc];refine vc2 (hR) ?_;simp only[go_sem];rfl
 ·rw[hr]at hR;cases hn:Z8 it
  ·rw[hn]at hN;have hq:Vb l d it=(default,5):=by simp[Vb,hn]
   rw[hq];refine YX Try.func29 rfl Try.ntmps29 Try.results29 (Zu _ _) ?_;simp only[go_sem,Zj,doc];refine vc2 (hR) ?_;simp only[go_sem];refine vc1 (hN) ?_;simp only[go_sem];rfl
  ·rw[hn]at hN;have hpc:=ZN (WQ it) d.rows;have hkn:Z9 d.rows it=(decide (0≤DJ d.rows it)&&((d.rows.getD (DJ d.rows it).toNat default).item==it)):=rfl;have hia:Zm d.rows it=if DJ d.rows it<0 then d.rows.length else(DJ d.rows it).toNat:=rfl
   have hpe:idx (WQ it) d.rows=DJ d.rows it:=rfl;rw[hpe]at hX hpc;cases hk:Z9 d.rows it
   ·by_cases h400:(400:Int)≤(d.rows.length:Int)
    ·have hq:Vb l d it=(default,14):=by
      unfold Vb;rw[if_neg (by rw[hr,hn];simp),if_neg (by rw[hk];simp),if_pos h400]
     rw[hq];rcases hpc with hp|⟨k,hka,hp⟩
     ·rw[hp]at hX;refine YX Try.func29 rfl Try.ntmps29 Try.results29 (Zu _ _) ?_;simp only[go_sem,Zj,doc];refine vc2 (hR) ?_;simp only[go_sem];refine vc1 (hN) ?_;simp only[go_sem,Zj,doc];refine vc2 (hX) ?_;simp only[go_sem];refine vDq ?_;simp only[go_sem,h400];rfl
     ·rw[hk,hp]at hkn;rw[hp]at hX;have i0:(0:Int)≤(k:Int):=by omega
      have iz:(k:Int)<(d.rows.length:Int):=by omega
      have hit:((d.rows.getD k default).item==it)=false:=by simpa using hkn.symm
      refine YX Try.func29 rfl Try.ntmps29 Try.results29 (Zu _ _) ?_;simp only[go_sem,Zj,doc];refine vc2 (hR) ?_;simp only[go_sem];refine vc1 (hN) ?_;simp only[go_sem,Zj,doc];refine vc2 (hX) ?_;simp only[go_sem,i0];refine vDq ?_;simp only[go_sem,i0,iz,ZB hka,row,hit,h400];rfl
    ·have hq:Vb l d it=(⟨d.head,Vl d.rows ⟨it,Zp l 1⟩⟩,0):=by
      unfold Vb;rw[if_neg (by rw[hr,hn];simp),if_neg (by rw[hk];simp),if_neg h400]
     rw[hq];rcases hpc with hp|⟨k,hka,hp⟩
     ·rw[hp]at hX hia;rw[if_pos (by decide)]at hia;rw[hia]at hI;refine PL.Pure.of_p [] Try.func29 (by decide) rfl Try.ntmps29 Try.results29 (by simp) (Zu _ _) ?_;simp only[go_sem,Zj,doc];refine vc2 (hR) ?_;simp only[go_sem];refine vc1 (hN) ?_;simp only[go_sem,Zj,doc];refine vc2 (hX) ?_;simp only[go_sem];refine vDq ?_;simp only[go_sem,h400];refine U1 2000 hO (hcl _) (by simp[doc,Zt,PV.ids,PV.idsL]) rfl (by simp only[go_sem,doc]) ?_;simp only[go_sem,Zt,hrn];refine FJ 8 (by kernel_rfl) (by kernel_rfl) fun l1 hl1=> ?_
      simp only[List.take]at hl1;subst hl1;simp only[go_sem];refine vc2 (hB) ?_;simp only[go_sem,Zt,hrm];refine Zdc 8 (by kernel_rfl) fun l2 hl2=> ?_
      simp only[List.drop]at hl2;subst hl2;simp only[go_sem,Zt];refine ZbU 2000 56 2001 hI (YQ _) (hcl _) (hcl _) (by decide) (by decide) (by decide) rfl rfl rfl rfl rfl ?_;simp only[go_sem];exact⟨_,rfl,Pub.tup2 (Pub.agg2w (.clean rfl) (Pub.vec0 (by simp) rfl (by rw[List.length_map];exact Wj _ _) (hcl _))) (.clean rfl)⟩
     ·rw[hk,hp]at hkn;rw[hp]at hX hia;rw[if_neg (by omega),Int.toNat_natCast]at hia;rw[hia]at hI;have i0:(0:Int)≤(k:Int):=by omega
      have ik:¬(k:Int)<0:=by omega
      have iz:(k:Int)<(d.rows.length:Int):=by omega
      have hit:((d.rows.getD k default).item==it)=false:=by simpa using hkn.symm
      refine PL.Pure.of_p [] Try.func29 (by decide) rfl Try.ntmps29 Try.results29 (by simp) (Zu _ _) ?_;simp only[go_sem,Zj,doc];refine vc2 (hR) ?_;simp only[go_sem];refine vc1 (hN) ?_;simp only[go_sem,Zj,doc];refine vc2 (hX) ?_;simp only[go_sem,i0];refine vDq ?_;simp only[go_sem,i0,iz,ZB hka,row,hit,h400,ik];refine U1 2000 hO (hcl _) (by simp[doc,Zt,PV.ids,PV.idsL]) rfl (by simp only[go_sem,doc]) ?_;simp only[go_sem,Zt,hrn];refine FJ 8 (by kernel_rfl) (by kernel_rfl) fun l1 hl1=> ?_
      simp only[List.take]at hl1;subst hl1;simp only[go_sem];refine vc2 (hB) ?_;simp only[go_sem,Zt,hrm];refine Zdc 8 (by kernel_rfl) fun l2 hl2=> ?_
      simp only[List.drop]at hl2;subst hl2;simp only[go_sem,Zt];refine ZbU 2000 56 2001 hI (YQ _) (hcl _) (hcl _) (by decide) (by decide) (by decide) rfl rfl rfl rfl rfl ?_;simp only[go_sem];exact⟨_,rfl,Pub.tup2 (Pub.agg2w (.clean rfl) (Pub.vec0 (by simp) rfl (by rw[List.length_map];exact Wj _ _) (hcl _))) (.clean rfl)⟩
   ·have hq:Vb l d it=(default,7):=by simp[Vb,hr,hn,hk]
    rw[hq];rw[hk]at hkn;rcases hpc with hp|⟨k,hka,hp⟩
    ·rw[hp]at hkn;simp at hkn
    ·rw[hp]at hkn hX;have hit:((d.rows.getD k default).item==it)=true:=by simpa using hkn.symm
     have i0:(0:Int)≤(k:Int):=by omega
     refine YX Try.func29 rfl Try.ntmps29 Try.results29 (Zu _ _) ?_;simp only[go_sem,Zj,doc];refine vc2 (hR) ?_;simp only[go_sem];refine vc1 (hN) ?_;simp only[go_sem,Zj,doc];refine vc2 (hX) ?_;simp only[go_sem,i0];refine vDq ?_;have iz:(k:Int)<(d.rows.length:Int):=by omega
     simp only[go_sem,i0,iz,ZB hka,row,hit];rfl
open Go.PL
def Sj (l:List Rw):Prop:=l.Pairwise fun x y=>Zq x.item y.item=true
theorem Xw {l:List Fd} {d:Dc} (h:Zl l d=true):Sj d.rows:=by
 simp only[Zl,Bool.and_eq_true,List.all_eq_true,List.mem_range]at h;have hs:∀i,0<i→i<d.rows.length→Zq (d.rows.getD (i-1) default).item (d.rows.getD i default).item=true:=fun i h0 hi=>by
  have:=h.2 i hi;simp only[YJ,Bool.and_eq_true,Bool.or_eq_true,decide_eq_true_eq]at this;rcases this.1.2 with e|e
  ·omega
  ·exact e
 unfold Sj;rw[List.pairwise_iff_getElem];intro i j hi hj hij;rw[←Zb (d:=default) hi,←Zb (d:=default) hj]
 induction j with
 |zero=>omega
 |succ j ih=>
  have h1:=hs (j+1) (by omega) hj;simp only[Nat.add_sub_cancel]at h1
  by_cases e:i=j
  ·subst e;exact h1
  ·exact W5 (ih (by omega) (by omega)) h1
open Go.PL Go.RowKit
theorem Yo {α:Type} [Inhabited α] (p:α→Bool) (l:List α):(idx p l= -1∧ ∀i,i<l.length→p (l.getD i default)=false)∨ ∃k:Nat,k<l.length∧idx p l=(k:Int)∧p (l.getD k default)=true∧ ∀i,i<k→p (l.getD i default)=false:=by
 unfold idx;cases h:l.findIdx? p with
 |none=>
  refine .inl ⟨rfl,fun i hi=> ?_⟩;have:=List.findIdx?_eq_none_iff.1 h _ (Zg (d:=default) hi);simpa using this
 |some k=>
  obtain⟨h1,h2,h3⟩:=List.findIdx?_eq_some_iff_getElem.1 h;refine .inr ⟨k,h1,rfl,by rw[Zb h1];exact h2,fun i hi=> ?_⟩;have:=h3 i hi;rw[Zb (by omega)];simpa using this
theorem G8 {rs:List Rw} (hr:Sj rs) (it:Str):(Z9 rs it=true∧ ∃k:Nat,k<rs.length∧idx (fun r:Rw=>r.item==it) rs=(k:Int))∨(Z9 rs it=false∧idx (fun r:Rw=>r.item==it) rs= -1):=by
 rcases Yo (fun r:Rw=>r.item==it) rs with ⟨h1,h2⟩|⟨k,hk,h1,h2,h3⟩
 ·refine .inr ⟨?_,h1⟩;unfold Z9 DJ;rcases Yo (WQ it) rs with ⟨g1,_⟩|⟨j,hj,g1,_,_⟩
  ·rw[g1];rfl
  ·rw[g1];have:=h2 j hj;simp only[Int.toNat_natCast,this,Bool.and_false]
 ·refine .inl ⟨?_,k,hk,h1⟩;have e:(rs.getD k default).item=it:=by simpa using h2
  unfold Z9 DJ;rcases Yo (WQ it) rs with ⟨g1,g2⟩|⟨j,hj,g1,g2,g3⟩
  ·have:=g2 k hk;simp only[WQ,e,YD]at this;cases this
  ·have hjk:j=k:=by
    rcases Nat.lt_trichotomy j k with h|h|h
    ·exfalso;have h5:=List.pairwise_iff_getElem.1 hr j k hj hk h;rw[←Zb (d:=default),←Zb (d:=default),e]at h5;simp only[WQ,h5]at g2;cases g2
    ·exact h
    ·exfalso;have h5:=g3 k h;simp only[WQ,e,YD]at h5;cases h5
   rw[g1,hjk];simp only[Int.toNat_natCast,e,beq_self_eq_true,Bool.and_true];simp
theorem SR (l:List Fd):Zp l 1=(Zi l 1).map ZF:=rfl
def XD (rs:List Rw) (r:Rw) (k:Nat):List Rw:=(Vl rs r).take (if k≤Zm rs r.item then k else k+1)
theorem Zgv {rs:List Rw} {r:Rw} {k:Nat} (h:k<Zm rs r.item):XD rs r (k+1)=XD rs r k++ [rs.getD k default]:=by
 have hj:=Yp rs r.item;have hg:(Vl rs r).getD k default=rs.getD k default:=by unfold Vl;rw[XV hj,if_pos h]
 unfold XD;rw[if_pos (by omega),if_pos (by omega),ZW (d:=default) (by rw[Wj];omega),hg]
theorem Zgu {rs:List Rw} {r:Rw} {k:Nat} (h:Zm rs r.item<k) (hk:k<rs.length):XD rs r (k+1)=XD rs r k++ [rs.getD k default]:=by
 have hj:=Yp rs r.item;have hg:(Vl rs r).getD (k+1) default=rs.getD k default:=by unfold Vl;rw[XV hj,if_neg (by omega),if_neg (by omega)];rfl
 unfold XD;rw[if_neg (by omega),if_neg (by omega),ZW (d:=default) (by rw[Wj];omega),hg]
theorem Zgt {rs:List Rw} {r:Rw} {k:Nat} (h:k=Zm rs r.item) (hk:k<rs.length):XD rs r (k+1)=XD rs r k++ [r]++ [rs.getD k default]:=by
 have hj:=Yp rs r.item;have hg:(Vl rs r).getD k default=r:=by unfold Vl;rw[XV hj,if_neg (by omega),if_pos h]
 have hg2:(Vl rs r).getD (k+1) default=rs.getD k default:=by unfold Vl;rw[XV hj,if_neg (by omega),if_neg (by omega)];rfl
 unfold XD;rw[if_neg (by omega),if_pos (by omega),ZW (d:=default) (by rw[Wj];omega),ZW (d:=default) (by rw[Wj];omega),hg,hg2]
theorem Gq {rs:List Rw} {r:Rw} {k:Nat} (hk:k≤rs.length):(XD rs r k).length≤k+1:=by
 unfold XD;rw[List.length_take];split<;>omega
theorem ZdK {rs:List Rw} {r:Rw}:(Zm rs r.item=rs.length∧XD rs r rs.length++ [r]=Vl rs r)∨(Zm rs r.item<rs.length∧XD rs r rs.length=Vl rs r):=by
 have hj:=Yp rs r.item;have hl:=Wj rs r
 by_cases h:Zm rs r.item=rs.length
 ·refine .inl ⟨h,?_⟩;have hg:(Vl rs r).getD rs.length default=r:=by unfold Vl;rw[XV hj,if_neg (by omega),if_pos h.symm]
  unfold XD;rw[if_pos (by omega)];have:=ZW (d:=default) (l:=Vl rs r) (k:=rs.length) (by omega);rw[hg]at this;rw[←this];exact List.take_of_length_le (by omega)
 ·refine .inr ⟨by omega,?_⟩;unfold XD;rw[if_neg (by omega)];exact List.take_of_length_le (by omega)
theorem Gd {rs:List Rw} {it:Str} {k:Nat} (h:k<Zm rs it):Zq (rs.getD k default).item it=true:=by
 have hj:=Yp rs it;unfold Zm DJ at h hj;rcases Yo (WQ it) rs with ⟨g1,g2⟩|⟨j,hj',g1,g2,g3⟩
 ·have:=g2 k (by rw[g1]at h;simpa using h);simpa[WQ]using this
 ·rw[g1,if_neg (by omega),Int.toNat_natCast]at h;have:=g3 k h;simpa[WQ]using this
theorem ZjK {rs:List Rw} {it:Str} (h:Zm rs it<rs.length):Zq (rs.getD (Zm rs it) default).item it=false:=by
 unfold Zm DJ at h ⊢;rcases Yo (WQ it) rs with ⟨g1,g2⟩|⟨j,hj',g1,g2,g3⟩
 ·rw[g1]at h;simp at h
 ·rw[g1,if_neg (by omega),Int.toNat_natCast];simpa[WQ]using g2
theorem ZjL {rs:List Rw} {it:Str} {k:Nat} (h:Z9 rs it=false) (hk:k<rs.length) (hj:k=Zm rs it):(rs.getD k default).item≠it:=fun e=>by
 unfold Zm at hj;unfold Z9 DJ at *;rcases Yo (WQ it) rs with ⟨g1,g2⟩|⟨j,hj',g1,g2,g3⟩
 ·rw[g1]at hj;simp at hj;omega
 ·rw[g1,if_neg (by omega),Int.toNat_natCast]at hj;rw[g1,Int.toNat_natCast]at h;rw[hj]at e;rw[e]at h;simp at h
theorem FZ {a b:Str} (h:Zq a b=true):Zq b a=false:=by
 cases hb:Zq b a
 ·rfl
 ·have:=W5 h hb;rw[YD]at this;cases this
def nmR (j k:Nat):Nat:=if k=j then 3000 else 66
def rrL (l:List Fd) (d:Dc) (it:Str) (nw:Rw) (k:Nat):List (Nat×PV):= [(0,Zj l),(2,.str it),(4,.ptr 4 0),(6,.ptr 6 0),(8,.sl (.row (nmR (Zm d.rows it) k)) ((XD d.rows nw k).map row)),(9,.bool (decide (Zm d.rows it<k))),(10,.int .i64 (k:Int))]
def rrH (d:Dc):List (Nat×List PV×Bool):= [(4,[.sl .no (d.head.map ent),.sl .no (d.rows.map row)],false),(6,[.sl .nil [],.sl .nil []],false)]
def rrR (d:Dc) (it:Str) (nw:Rw) (k:Nat):List (Nat×Row):= [(nmR (Zm d.rows it) k,.live (XD d.rows nw k).length 2 53)]
theorem Du (l:List Fd) (d:Dc) (it:Str) (nw:Rw) (k:Nat):ZeY (rrL l d it nw k) (rrH d) (rrR d it nw k):=⟨Fc7 rfl rfl rfl rfl (by simp[PV.ids,ZV,rrR]) rfl rfl,Fc2 rfl rfl⟩
theorem Zfl (l:List Fd) (d:Dc) (it:Str) (hl:l.length≤100000) (hl':∀f∈l,f.cases'.length≤1000000) (h1:d.head.length≤100000) (h2:d.rows.length≤100000) (hf:Vk d):
  PL.Pure Try.prog 30 [Zj l,doc d,.str it] (.tup [doc (Vb l d it).1,.int .i64 (Vb l d it).2]):=by
 have hR:=ZH l d (by rw[Zh];omega) (fun f hf=>by have:=hl' f hf;rw[Zh];omega) hf;have hN:=XG it;have hA:=XH d it (by rw[Zh];omega);have hS:=Xe l 1 (by omega);have hB:=VP (Zi l 1) (Nat.le_trans (List.length_filter_le _ _) hl);rw[←SR]at hB;have hdef:doc default= .agg [.sl .no [],.sl .no []]:=rfl;cases hr:Zl l d
 ·rw[hr]at hR;have hq:Vb l d it=(default,5):=by simp[Vb,hr]
  rw[hq];refine YX Try.func30 rfl Try.ntmps30 Try.results30 (Zu _ _) ?_;simp only[go_sem,Zj,doc];refine vc2 (hR) ?_;simp only[go_sem];rfl
 ·rw[hr]at hR;cases hn:Z8 it
  ·rw[hn]at hN;have hq:Vb l d it=(default,5):=by simp[Vb,hn]
   rw[hq];refine YX Try.func30 rfl Try.ntmps30 Try.results30 (Zu _ _) ?_;simp only[go_sem,Zj,doc];refine vc2 (hR) ?_;simp only[go_sem];refine vc1 (hN) ?_;simp only[go_sem];rfl
  ·rw[hn]at hN;have hrise:=Xw hr;rcases G8 hrise it with ⟨hkn,k,hka,hp⟩|⟨hkn,hp⟩
   ·have hq:Vb l d it=(default,7):=by simp[Vb,hr,hn,hkn]
    rw[hq];rw[hp]at hA;have i0:(0:Int)≤(k:Int):=by omega
    refine YX Try.func30 rfl Try.ntmps30 Try.results30 (Zu _ _) ?_;simp only[go_sem,Zj,doc];refine vc2 (hR) ?_;simp only[go_sem];refine vc1 (hN) ?_;simp only[go_sem,Zj,doc];refine vc1 (hA) ?_;simp only[go_sem,i0];rfl
   ·rw[hp]at hA
    by_cases h400:(400:Int)≤(d.rows.length:Int)
    ·have hq:Vb l d it=(default,14):=by
      unfold Vb;rw[if_neg (by rw[hr,hn];simp),if_neg (by rw[hkn];simp),if_pos h400]
     have h399:(399:Int)<(d.rows.length:Int):=by omega
     rw[hq];refine YX Try.func30 rfl Try.ntmps30 Try.results30 (Zu _ _) ?_;simp only[go_sem,Zj,doc];refine vc2 (hR) ?_;simp only[go_sem];refine vc1 (hN) ?_;simp only[go_sem,Zj,doc];refine vc1 (hA) ?_;simp only[go_sem,h399];rfl
    ·have hq:Vb l d it=(⟨d.head,Vl d.rows ⟨it,Zp l 1⟩⟩,0):=by
      unfold Vb;rw[if_neg (by rw[hr,hn];simp),if_neg (by rw[hkn];simp),if_neg h400]
     have h399:¬(399:Int)<(d.rows.length:Int):=by omega
     rw[hq];generalize hnw:(⟨it,Zp l 1⟩:Rw)=nw;have hni:nw.item=it:=by rw[←hnw]
     refine YX Try.func30 rfl Try.ntmps30 Try.results30 (Zu _ _) ?_;simp only[go_sem,Zj,doc];refine vc2 (hR) ?_;simp only[go_sem];refine vc1 (hN) ?_;simp only[go_sem,Zj,doc];refine vc1 (hA) ?_;simp only[go_sem,h399];have hlm:d.rows.length≤maxLen:=by rw[Zh];omega
     have hjl:=Yp d.rows it;have h00:XD d.rows nw 0= []:=by unfold XD;rw[if_pos (Nat.zero_le _)];rfl
     refine Zju (ι:= { k:Nat // k≤d.rows.length }) (fun x=>mkSt 81 (rrL l d it nw x.1) (rrH d) (rrR d it nw x.1)) (fun x=>d.rows.length-x.1) ⟨0,Nat.zero_le _⟩ ?_ (fun x=> ?_)
     ·refine(Gh.moveRowS 8 31 (nmR (Zm d.rows it) 0) 0 2 53 [] rfl rfl (by unfold nmR;split<;>rfl)).trans (Gh.weak (Has.weak ?_) (Refs.mkSt (Du _ _ _ _ _)));simp only[rrL,rrH,rrR,h00]
      by_cases h0:0=Zm d.rows it
      ·simp only[nmR,if_pos h0,decide_eq_false (show ¬Zm d.rows it<0 by omega)];exact⟨rfl,(Fc7 rfl rfl rfl rfl rfl rfl rfl),Fc2 ⟨rfl,rfl⟩ ⟨rfl,rfl⟩,fcs rfl fnl⟩
      ·simp only[nmR,if_neg h0,decide_eq_false (show ¬Zm d.rows it<0 by omega)];exact⟨rfl,(Fc7 rfl rfl rfl rfl rfl rfl rfl),Fc2 ⟨rfl,rfl⟩ ⟨rfl,rfl⟩,fcs rfl fnl⟩
     obtain⟨k,hk⟩:=x;simp only
     by_cases h:(k:Int)<(d.rows.length:Int)
     ·have hka:k<d.rows.length:=by omega
      have i1:(0:Int)≤(k:Int):=by omega
      have w1:=Wp hka hlm;have hol:=Gq (rs:=d.rows) (r:=nw) (k:=k) (by omega);have hsz:=Yq (XD d.rows nw k);have hat:Wd [.agg [.str (d.rows.getD k default).item,.sl .no ((d.rows.getD k default).l.map ent)]]:=WI [d.rows.getD k default];have hs1:Sized 2 [.agg [.str (d.rows.getD k default).item,.sl .no ((d.rows.getD k default).l.map ent)]]:=Yq [d.rows.getD k default];have hml:((XD d.rows nw k).map row).length=(XD d.rows nw k).length:=List.length_map _;have hrm:=XC (show(XD d.rows nw k).length+1≤1000000 by omega) (show 40≤1000 by omega);have hgo:∀(s':St),Gh s' (mkSt 81 (rrL l d it nw (k+1)) (rrH d) (rrR d it nw (k+1)))→ ∃j: { k:Nat // k≤d.rows.length },d.rows.length-j.1<d.rows.length-k∧Gh s' (mkSt 81 (rrL l d it nw j.1) (rrH d) (rrR d it nw j.1)):=fun s' hg=>⟨⟨k+1,by omega⟩,by show d.rows.length-(k+1)<d.rows.length-k;omega,hg⟩
      rcases Nat.lt_trichotomy k (Zm d.rows it)with hj|hj|hj
      ·have hsn:=Zgv (rs:=d.rows) (r:=nw) (k:=k) (by rw[hni];exact hj);have c1:=FZ (Gd hj);have c2:decide (Zm d.rows it<k)=false:=decide_eq_false (by omega);have c3:decide (Zm d.rows it<k+1)=false:=decide_eq_false (by omega);have hn0:nmR (Zm d.rows it) k=66:=if_neg (by omega);simp only[go_sem,rrL,rrH,rrR,hn0,h,ZB hka,row,c1,c2,i1,hml,hsz,hat,hs1,hrm,w1];refine hgo _ ?_
       by_cases hj1:k+1=Zm d.rows it
       ·have hn1:nmR (Zm d.rows it) (k+1)=3000:=if_pos hj1;refine(Gh.moveRowS 8 66 3000 ((XD d.rows nw k).length+1) 2 53 ((XD d.rows nw k).map row++ [row (d.rows.getD k default)]) rfl rfl rfl).trans (Gh.weak (Has.weak ?_) (Refs.mkSt (Du _ _ _ _ _)));simp only[rrL,rrH,rrR,hsn,List.map_append,List.length_append,c3,hn1];exact⟨rfl,(Fc7 rfl rfl rfl rfl rfl rfl rfl),Fc2 ⟨rfl,rfl⟩ ⟨rfl,rfl⟩,fcs rfl fnl⟩
       ·have hn1:nmR (Zm d.rows it) (k+1)=66:=if_neg hj1;refine Gh.weak (Has.weak ?_) (Refs.mkSt (Du _ _ _ _ _));simp only[rrL,rrH,rrR,hsn,List.map_append,List.length_append,c3,hn1];exact⟨rfl,(Fc7 rfl rfl rfl rfl rfl rfl rfl),Fc2 ⟨rfl,rfl⟩ ⟨rfl,rfl⟩,fcs rfl fnl⟩
      ·have hsn:=Zgt (rs:=d.rows) (r:=nw) (k:=k) (by rw[hni];exact hj) hka;have c1:Zq it (d.rows.getD k default).item=true:=by
        have g:=ZjK (rs:=d.rows) (it:=it) (by omega);rw[←hj]at g;rcases TJ it (d.rows.getD k default).item with h|h|h
        ·exact h
        ·exact absurd h.symm (ZjL hkn hka hj)
        ·rw[g]at h;cases h
       have c2:decide (Zm d.rows it<k)=false:=decide_eq_false (by omega);have c3:decide (Zm d.rows it<k+1)=true:=decide_eq_true (by omega);have hrm2:=XC (show(XD d.rows nw k).length+1+1≤1000000 by omega) (show 40≤1000 by omega);have hatn:Wd [.agg [.str it,.sl .no ((Zp l 1).map ent)]]:=WI [⟨it,Zp l 1⟩];have hsn1:Sized 2 [.agg [.str it,.sl .no ((Zp l 1).map ent)]]:=Yq [⟨it,Zp l 1⟩];have hsz2:Sized 2 ((XD d.rows nw k).map row++ [.agg [.str it,.sl .no ((Zp l 1).map ent)]]):=hsz.append hsn1;have hl2:((XD d.rows nw k).map row++ [PV.agg [.str it,.sl .no ((Zp l 1).map ent)]]).length=(XD d.rows nw k).length+1:=by rw[List.length_append,hml];rfl
       have hn0:nmR (Zm d.rows it) k=3000:=if_pos hj;have hn1:nmR (Zm d.rows it) (k+1)=66:=if_neg (by omega);simp only[go_sem,rrL,rrH,rrR,hn0,h,ZB hka,row,c1,c2,i1,Zj];refine vc2 (hS) ?_;simp only[go_sem];refine vc2 (hB) ?_;simp only[go_sem,Zt,h,ZB hka,row,i1,hml,hl2,hsz,hsz2,hat,hs1,hatn,hsn1,hrm,hrm2,w1];refine hgo _ (Gh.weak (Has.weak ?_) (Refs.mkSt (Du _ _ _ _ _)));subst hnw;simp only[rrL,rrH,rrR,hsn,List.map_append,List.length_append,c3,hn1];exact⟨rfl,(Fc7 rfl rfl rfl rfl rfl rfl rfl),Fc2 ⟨rfl,rfl⟩ ⟨rfl,rfl⟩,fcs rfl fnl⟩
      ·have hsn:=Zgu (rs:=d.rows) (r:=nw) (k:=k) (by rw[hni];exact hj) hka;have c2:decide (Zm d.rows it<k)=true:=decide_eq_true (by omega);have c3:decide (Zm d.rows it<k+1)=true:=decide_eq_true (by omega);have hn0:nmR (Zm d.rows it) k=66:=if_neg (by omega);have hn1:nmR (Zm d.rows it) (k+1)=66:=if_neg (by omega);simp only[go_sem,rrL,rrH,rrR,hn0,h,ZB hka,row,c2,i1,hml,hsz,hat,hs1,hrm,w1];refine hgo _ (Gh.weak (Has.weak ?_) (Refs.mkSt (Du _ _ _ _ _)));simp only[rrL,rrH,rrR,hsn,List.map_append,List.length_append,c3,hn1];exact⟨rfl,(Fc7 rfl rfl rfl rfl rfl rfl rfl),Fc2 ⟨rfl,rfl⟩ ⟨rfl,rfl⟩,fcs rfl fnl⟩
     ·obtain rfl:k=d.rows.length:=by omega
      have hol:=Gq (rs:=d.rows) (r:=nw) (k:=d.rows.length) (Nat.le_refl _);have hsz:=Yq (XD d.rows nw d.rows.length);have hml:((XD d.rows nw d.rows.length).map row).length=(XD d.rows nw d.rows.length).length:=List.length_map _;have hrm:=XC (show(XD d.rows nw d.rows.length).length+1≤1000000 by omega) (show 40≤1000 by omega);have hatn:Wd [.agg [.str it,.sl .no ((Zp l 1).map ent)]]:=WI [⟨it,Zp l 1⟩];have hsn1:Sized 2 [.agg [.str it,.sl .no ((Zp l 1).map ent)]]:=Yq [⟨it,Zp l 1⟩];rcases ZdK (rs:=d.rows) (r:=nw)with ⟨e1,e2⟩|⟨e1,e2⟩
      ·rw[hni]at e1;have c2:decide (Zm d.rows it<d.rows.length)=false:=decide_eq_false (by omega);have hn0:nmR (Zm d.rows it) d.rows.length=3000:=if_pos e1.symm;simp only[go_sem,rrL,rrH,rrR,hn0,h,c2,Zj];refine vc2 (hS) ?_;simp only[go_sem];refine vc2 (hB) ?_;simp only[go_sem,Zt,hml,hsz,hatn,hsn1,hrm];rw[←e2];simp only[doc,List.map_append,←hnw];rfl
      ·rw[hni]at e1;have c2:decide (Zm d.rows it<d.rows.length)=true:=decide_eq_true (by omega);have hn0:nmR (Zm d.rows it) d.rows.length=66:=if_neg (by omega);simp only[go_sem,rrL,rrH,rrR,hn0,h,c2];rw[←e2];rfl
open Go.PL Go.RowKit
open Go.PL
end Go.Proofs.Ytmnibpgmcgdfpaa
namespace Go.PL
open Go.RowKit
theorem Rep.cells_at {S:Stable} {v:Value} {es:List PV} {sz:Nat} (r:Rep S v (.sl .no es)) (hz:∀i,i<es.length→(es.getD i .any).cells.length=sz):
  ∃(A:Option Addr) (cap:Nat) (vs:Nat→Nat→Value),v= .slice A es.length cap∧(0<es.length→ ∃b o,A=some ⟨b,o,none⟩∧
   ∀i j,i<es.length→j<sz→S b (o+i*sz+j)=some (vs i j))∧(∀i j,i<es.length→j<sz→Rep S (vs i j) ((es.getD i .any).cells.getD j .any)):=by
 generalize hes:es=es' at r;cases r with
 |sl0 a cap=>subst hes;exact⟨a,cap,fun _ _=>undef,rfl,fun h=>absurd h (by simp),fun i j hi=>absurd hi (by simp)⟩
 |sl b o cap sz' es vals hsz hcap hS hR=>
  subst hes;refine⟨_,cap,vals,rfl,fun h=>⟨b,o,rfl,fun i j hi hj=> ?_⟩,fun i j hi hj=> ?_⟩
  ·have:=(hsz i hi).symm.trans (hz i hi);subst this;exact hS i j hi hj
  ·have:=(hsz i hi).symm.trans (hz i hi);subst this;exact hR i j hi hj
theorem TP {n k:Nat} (h:k<n):(List.finRange n).take (k+1)=(List.finRange n).take k++ [⟨k,h⟩]:=by
 rw[List.take_succ_eq_append_getElem (by simpa using h)];simp
section
variable {P:Program} {n:Nat} {ops:Array Oper} {rest:List Oper} {Q:Exit→Act→World→Prop} {a:Act} {w:World}
theorem Zdf {dst:Option Nat} {t ty:TypeId} {x:Operand} {pos:String} {after:Array Edge} {A:Addr} {v:Value} (hx:a.eval x= .pointer (some A)) (hl:(loadVar t A).run P w= .ok v w) (h:wpListIn Fence.wide n P ops Q rest (a.put dst v) w):
  wpListIn Fence.wide n P ops Q (⟨dst,.load t x,ty,pos,after,none⟩::rest) a w:=by
 refine wpListIn_plain rfl fun K hK'=> ?_
 unfold Oper.wpIn;refine⟨fun _ _=>trivial,?_⟩;rw[Oper.semAt_plain Fence.wide _ _ (by intro c hc';cases hc')];simp[execOp,Instr.loadAt,Instr.sureAddr,hx,hl,Result.andThen,Sem.run_bind];exact hK' _ _ h
theorem ZgG {t:TypeId} {d:TypeDesc} (hu:P.underlying t=some d) {b o sz:Nat} {vals:Nat→Value} (hg:Yd P t=true) (hz:tsz P t=sz) (hc:∀j,j<sz→w.cell? ⟨b,o+j,none⟩=some (vals j)):
  (loadVar t ⟨b,o,none⟩).run P w= .ok (.agg ⟨(List.range sz).map vals⟩) w:=by
 subst hz;obtain⟨i,hi⟩:=YO hu;have hl:=run_loadCells (P:=P) (w:=w) (⟨b,o,none⟩:Addr) (tsz P t) vals (fun j hj=>by rw[ZJ];exact hc _ hj);unfold loadVar;simp only[Sem.run_bind,WU hu,Result.andThen_ok,hg,if_true,Z6 hi,hl,Sem.run_pure]
end
end Go.PL
namespace Go.Proofs.Ytmnibpgmcgdfpaa
open Go.PL Go.RowKit
set_option maxRecDepth 100000 in
theorem Zcj (cs:List Cg) (hlen:cs.length≤100000):Zfi Try.prog 83 [.rptr [Ym cs]] cs.reverse (fun c=> [chg c]) 1:=by
 refine⟨⟨_,Try.func83,by decide,rfl⟩,fun m S w lb hst hsz hrep=> ?_⟩;obtain⟨v,rfl⟩:∃v,lb= #[v]:=Array.size_eq_one_iff.1 hsz;have h0:=hrep 0 (by simp);have h0:Rep S v (.rptr [Ym cs]):=h0;obtain⟨b,o,vals,rfl,e2,e3⟩:=(RepS.clean (M:=⟨id,id,id⟩) (q:=fun _=>none) h0).rptr_inv;have e2:=e2 0 (by simp);have e3:Rep S (vals 0) (.sl .no (cs.map chg)):=e3 0 (by simp);obtain⟨A,cap,vs,hv,hA,hR⟩:=e3.cells_at (sz:=13) (fun i hi=>by
  have hi':i<cs.length:=by simpa using hi
  rw[TR hi'];rfl)
 simp only[List.length_map]at hv hA hR;rw[hv]at e2;refine⟨fun k=> #[.agg ⟨(List.range 13).map fun j=>vs (cs.length-1-k.val) j⟩],fun k=>⟨rfl,rfl,fun i hi=> ?_⟩,?_⟩
 ·obtain rfl:i=0:=by omega
  have hk:k.val<cs.length:=by simpa using k.isLt
  have hk':cs.length-1-k.val<cs.length:=by omega
  have hx:cs.reverse[k]=cs.getD (cs.length-1-k.val) default:=by rw[Zb hk'];simp
  rw[hx];show Rep S (.agg ⟨(List.range 13).map fun j=>vs (cs.length-1-k.val) j⟩) (chg _);have h1:=fun j hj=>hR (cs.length-1-k.val) j hk' hj
  rw[TR hk']at h1;refine .agg _ _ (by rfl) fun j hj=> ?_
  have h13:j<13:=hj;have e:((List.range 13).map fun j=>vs (cs.length-1-k.val) j).getD j undef=vs (cs.length-1-k.val) j:=by
   rw[Zb (by simpa using h13)];simp
  rw[e];exact h1 j h13
 ·intro l J Jx W hW hJ hJx hY hJ0;have hstW:StabS S W:=⟨fun b o u h=>by
   have h1:=hst.c b o u h;rw[World.cell?_of_block (hW.block _ (Vg h1))];exact h1,fun b es h=>by
   have h1:=hst.m b es h;rw[hW.block _ (Array.getElem?_eq_some_iff.1 h1).1];exact h1,fun b h=>by
   obtain⟨vs1,t1,h1⟩:=hst.y b h;exact⟨vs1,t1,by rw[hW.block _ (Array.getElem?_eq_some_iff.1 h1).1];exact h1⟩⟩
  refine callsIn_of_wp Try.func83 rfl trivial ?_ rfl;simp only[Try.ntmps83,List.size_toArray,List.length_cons,List.length_nil,Nat.reduceAdd,Nat.reduceSub,Array.replicate_succ,Array.replicate_zero,List.push_toArray,List.append_toArray,List.nil_append,List.cons_append];have hc0:=hstW.c _ _ _ e2;rw[Nat.add_zero]at hc0 e2;have u0:IntKind.i64.wrap ((cs.length:Int)-1)=(cs.length:Int)-1:=w64 (by omega)
  gi_wp2
  gi_loopw [3] (fun i wr=>∃k:Nat,k≤cs.length∧i= .int .i64 ((cs.length:Int)-1-k)∧StabS S wr∧J ((List.finRange cs.reverse.length).take k) wr)
   (fun i _=>(intOf i+1).toNat)
  case atStart=>exact⟨0,Nat.zero_le _,by simp,hstW,hJ0⟩
  case round=>
   obtain⟨k,hk,rfl,hstr,hJs⟩:=hrel;have hcx:=hstr.c _ _ _ e2
   by_cases hlt:k<cs.length
   ·obtain⟨b',o',rfl,hcl⟩:=hA (by omega);have hk':cs.length-1-k<cs.length:=by omega
    have hkx:k<cs.reverse.length:=by simpa using hlt
    have hkk:((cs.length-1-k:Nat):Int)=(cs.length:Int)-1-(k:Int):=by omega
    have i0:(cs.length:Int)-1-(k:Int)≥0:=by omega
    have hto:((cs.length:Int)-1-(k:Int)).toNat=cs.length-1-k:=by omega
    have hld:(loadVar 30 ⟨b',o'+(cs.length-1-k)*13,none⟩).run Try.prog wr= .ok (.agg ⟨(List.range 13).map fun j=>vs (cs.length-1-k) j⟩) wr:=
     ZgG Try.underlying30 rfl rfl fun j hj=>hstr.c _ _ _ (hcl _ j hk' hj)
    obtain⟨fn,tmps,assign,body,hy,hRR⟩:=hY _ ⟨k,hkx⟩ wr hJs (by simp;omega);obtain⟨val,hval⟩:∃val,val=Value.agg ⟨(List.range 13).map fun j=>vs (cs.length-1-k) j⟩:=⟨_,rfl⟩;have hy:(Instr.yield l #[val]).run Try.prog wr= .ok (.round l fn tmps assign body) wr:=by rw[hval];exact hy
    rw[←hval]at hld;clear hval
    gi_wp2_with (first|(refine Zdf rfl hld ?_)|gi_in)
    refine hRR.mono ?_
    rintro e W3 (⟨rfl,hJ3,hk3⟩|⟨rfl,hJx3⟩)
    ·have u2:IntKind.i64.wrap ((cs.length:Int)-1-(k:Int)-1)=(cs.length:Int)-1-((k+1:Nat):Int):=by rw[w64 (by omega)];omega
     gi_wp2
     go_roundw
     case rel=>exact⟨k+1,by omega,rfl,hk3 hstr,by rw[TP hkx];exact hJ3⟩
     case measure=>simp[intOf];omega
    ·gi_wp2
     refine bodyPost_ret (results_none rfl _ _ _) rfl ?_;exact⟨⟨_,rfl⟩,.inr ⟨_,by rw[←TP hkx];exact List.take_prefix _ _,hJx3⟩⟩
   ·obtain rfl:k=cs.length:=by omega
    have i0:¬((cs.length:Int)-1-(cs.length:Int)≥0):=by omega
    gi_wp2
    go_end0
    have e:(List.finRange cs.reverse.length).take cs.length=List.finRange cs.reverse.length:=List.take_of_length_le (by simp);rw[e]at hJs;exact⟨⟨_,rfl⟩,.inl hJs⟩
open Go.PL
theorem Zb5 (cs:List Cg):PL.Pure Try.prog 40 [Ym cs] (.fn 83 [.rptr [Ym cs]]):=by
 have hd:(PV.fn 83 [.rptr [Ym cs]]).dids= []:=by simp only[PV.dids,PV.didsL,Ym,ZaY,List.append_nil]
 refine YX Try.func40 rfl Try.ntmps40 Try.results40 (hd) ?_;simp only[go_sem,Ym]
theorem ZjN (c:Cg):(chg c).ids= []:=List.eq_nil_iff_forall_not_mem.2 fun i hi=>by have:=Xu _ hi;rw[Zdl]at this;cases this
def mB:List Cg→MemT
 | []=>⟨[(3,[.sl .nil []],false)],[],[]⟩
 |x::l=>⟨[(3,[.sl (.row 39) (((x::l).map WL).map chg)],false)],[(39,.live (x::l).length 13 30)],[]⟩
theorem ZdW (pre:List Cg) (φ:Nat→Nat):WholeT [(3,.ptr 3 0)] (mB pre) (US [3] φ):=by
 cases pre with
 |nil=>exact⟨⟨fcs rfl fnl,fcs rfl fnl⟩,fnl,fnl,fnl,fcs rfl fnl,fnl⟩
 |cons x l=>
  exact⟨⟨fcs rfl fnl,fcs (by simp[mB,PV.ids,PV.idsL,ZV]) fnl⟩,fnl,fnl,fnl,fcs rfl fnl,fnl⟩
structure FineB (c:Cg):Prop where
 w:c.was.l.length≤1000000
 n:c.now.l.length≤1000000
 l:c.l.length≤100000
 e:∀e∈c.l,e.l.length≤1000000
theorem Zev (x:Cg):((x.kind==1)=true∧WL x=⟨x.kind,x.item,x.now,x.was,x.l⟩)∨((x.kind==1)=false∧(x.kind==2)=true∧WL x=⟨3,x.item,x.was,x.now,x.l⟩)∨
  ((x.kind==1)=false∧(x.kind==2)=false∧(x.kind==3)=true∧WL x=⟨2,x.item,x.was,x.now,x.l⟩)∨((x.kind==1)=false∧(x.kind==2)=false∧(x.kind==3)=false∧WL x=x):=by
 simp only[beq_iff_eq,beq_eq_false_iff_ne];unfold WL
 by_cases h1:x.kind=1
 ·exact .inl ⟨h1,by rw[if_pos h1]⟩
 ·by_cases h2:x.kind=2
  ·exact .inr (.inl ⟨h1,h2,by rw[if_neg h1,if_pos (.inl h2),h2];rfl⟩)
  ·by_cases h3:x.kind=3
   ·exact .inr (.inr (.inl ⟨h1,h2,h3,by rw[if_neg h1,if_pos (.inr h3),h3];rfl⟩))
   ·exact .inr (.inr (.inr ⟨h1,h2,h3,by rw[if_neg h1,if_neg (fun h=>h.elim h2 h3)]⟩))
theorem ZdZ (cs:List Cg) (hl:cs.length≤100000) (hx:∀c∈cs,FineB c):PL.Pure Try.prog 11 [Ym cs] (Ym (Vs cs)):=by
 have hbw:=Zb5 cs;refine Pure.range (A:=Cg) 2 (Q1:=fun s=>s.eval (.tmp 6)= .fn 83 [.rptr [Ym cs]]∧HasT 41 [(3,.ptr 3 0)] (mB []) [] s) (pin:= [3]) (mt:=mB) (mx:=mB) (Y:=fun _=>True) (X:=fun _=>False)
  Try.func11 (by decide) rfl Try.ntmps11 Try.results11 (by simp) (GQ _) ?_ rfl (fun s hs=>⟨hs.1,hs.2,fun i hi=> ?_⟩) (by simp[PV.ids,PV.idsL,Ym]) (Zcj cs hl) ?_ ?_ ?_ trivial ZdW ZdW ?_ ?_ ?_
 ·refine ZdS ?_;simp only[go_sem];refine ZdS ?_;simp only[go_sem];refine ZiQ (Ys _ _ _ (show @vC _ ⟨_⟩ ⟨_⟩ _ from ?_));simp only[go_sem,Ym];refine vc8 (hbw) ?_;simp only[go_sem];exact⟨rfl,⟨⟨rfl,fcs rfl fnl,fcs ⟨rfl,rfl⟩ fnl,fnl⟩,fnl,fnl,fnl,fnl,fnl,fnl⟩⟩
 ·obtain rfl:i=3:=by simpa using hi
  have h:=hs.2.b.h (3,[.sl .nil []],false) (by simp[mB]);rw[h.1];simp
 ·intro x hxx p hp;rw[List.mem_singleton.1 hp];exact ZjN x
 ·intro t ht;have:t=7:=by simpa using ht
  subst this;decide
 ·intro x hxx r hr;rw[List.mem_singleton.1 hxx]at hr;exact⟨3,by simp,by simpa[PV.ids]using hr⟩
 ·intro l φ pre x hxc hpl _;have hfx:=hx x (List.mem_reverse.1 hxc);have hpl:pre.length<100000:=by simp at hpl;omega
  refine GH ?_
  change @vR l 0 Try.prog ⟨_⟩ ⟨_⟩ ((mkT 41 [(3,.ptr 3 0)] (mB pre) (US [3] φ)).put (some 7) (chg x))
  have hO1:=YF x.was hfx.w;have hO2:=YF x.now hfx.n;have hO3:=Vo x.l hfx.l hfx.e;have hk:=Zev x;have hr0:=XC (show 1≤1000000 by omega) (show 192≤1000 by omega);have hsx:Sized 13 [chg (WL x)]:=XA [WL x];have hax:Wd [chg (WL x)]:=ZaO [WL x];cases pre with
  |nil=>
   rcases hk with ⟨e1,hf⟩|⟨e1,e2,hf⟩|⟨e1,e2,e3,hf⟩|⟨e1,e2,e3,hf⟩
   all_goals
    simp only[go_sem,mB,chg];refine GH ?_;simp only[go_sem];refine Zg1 (by kernel_rfl) (by kernel_rfl) ?_;simp only[go_sem];refine vc1 (hO1) ?_;simp only[go_sem,ent];refine vc1 (hO2) ?_;simp only[go_sem,ent];refine vc1 (hO3) ?_;simp only[go_sem,Zt,e1];try simp only[go_sem,e2]
    try simp only[go_sem,e3]
   all_goals
    refine⟨hr0,trivial,⟨⟨rfl,fnl,fcs ⟨?_,rfl⟩ fnl,fcs rfl fnl⟩,fnl,fnl,fnl,fnl,fcs rfl fnl,fnl⟩⟩;show some [PV.sl (.row 39) _]=some [PV.sl (.row 39) [chg (WL x)]];rw[hf];rfl
  |cons y q=>
   have hlq:(y::q).length<100000:=hpl;have hml:(((y::q).map WL).map chg).length=(y::q).length:=by simp
   have hsz:=XA ((y::q).map WL);have hrm:=XC (show(y::q).length+1≤1000000 by omega) (show 192≤1000 by omega);have hsn:(((y::(q++ [x])).map WL).map chg)=((y::q).map WL).map chg++ [chg (WL x)]:=by simp
   rcases hk with ⟨e1,hf⟩|⟨e1,e2,hf⟩|⟨e1,e2,e3,hf⟩|⟨e1,e2,e3,hf⟩
   all_goals
    simp only[go_sem,mB,chg];refine GH ?_;simp only[go_sem];refine Zg1 (by kernel_rfl) (by kernel_rfl) ?_;simp only[go_sem];refine vc1 (hO1) ?_;simp only[go_sem,ent];refine vc1 (hO2) ?_;simp only[go_sem,ent];refine vc1 (hO3) ?_;simp only[go_sem,Zt,e1];try simp only[go_sem,e2]
    try simp only[go_sem,e3]
   all_goals
    refine⟨⟨XA (q.map WL),hrm⟩,trivial,⟨⟨rfl,fnl,fcs ⟨?_,rfl⟩ fnl,fcs ?_ fnl⟩,fnl,fnl,fnl,fnl,fcs rfl fnl,fnl⟩⟩
    ·show some [PV.sl (.row 39) _]=some [PV.sl (.row 39) (((y::(q++ [x])).map WL).map chg)];rw[hsn,hf];rfl
    ·show some (Row.live _ 13 _)=some (Row.live (y::(q++ [x])).length 13 _);rw[show(y::(q++ [x])).length=q.length+1+1 by simp]
 ·intro _ φ;refine Zi4 ?_;unfold Ym Vs;generalize cs.reverse=q;cases q with
  |nil=>
   simp only[go_sem,mB]
  |cons y q=>
   simp only[go_sem,mB]
 ·intro pre _ h;exact h.elim
end Go.Proofs.Ytmnibpgmcgdfpaa
namespace Go.PL
open Go.RowKit
end Go.PL
namespace Go.Proofs.Ytmnibpgmcgdfpaa
open Go.PL Go.RowKit
end Go.Proofs.Ytmnibpgmcgdfpaa
namespace Go.PL
theorem Pub.agg5 {K:Ref→Prop} {m:Hp} {a b c d e a' b' c' d' e':PV} (h1:Pub K m a a') (h2:Pub K m b b') (h3:Pub K m c c') (h4:Pub K m d d') (h5:Pub K m e e'):Pub K m (.agg [a,b,c,d,e]) (.agg [a',b',c',d',e']):= .agg [a,b,c,d,e] [a',b',c',d',e'] rfl fun i hi=>by
 match i,hi with
 |0,_=>exact h1
 |1,_=>exact h2
 |2,_=>exact h3
 |3,_=>exact h4
 |4,_=>exact h5
end Go.PL
namespace Go.Proofs.Ytmnibpgmcgdfpaa
open Go.PL
theorem Dk (e:En) (he:e.l.length≤1000000):PL.Pure Try.prog 74 [ent e] (ZaA e):=by
 have hr:=Yv (show e.l.length≤100000000000 by omega) (show 16≤1000 by omega);refine PL.Pure.of_p [] Try.func74 (by decide) rfl Try.ntmps74 Try.results74 (by simp) (GU _) ?_;simp only[go_sem,ent,Ye,YK,hr];exact⟨_,rfl,Pub.agg5 (.clean rfl) (.clean rfl) (.clean rfl) (.clean rfl) (Pub.frl (n:=e.l.length) (sz:=1) (e:=9) (by simp[upd]) (by simp))⟩
end Go.Proofs.Ytmnibpgmcgdfpaa
