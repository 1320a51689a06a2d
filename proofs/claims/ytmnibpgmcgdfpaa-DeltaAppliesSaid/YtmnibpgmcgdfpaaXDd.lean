/- Contracts of functions and laws of this seat, each for every input that it names: lemmas of the proof. -/
import Derived.Test.YtmnibpgmcgdfpaaPlM
import Derived.Test.YtmnibpgmcgdfpaaXAa
import Derived.Test.YtmnibpgmcgdfpaaXAc
import Derived.Test.YtmnibpgmcgdfpaaXAd
import Derived.Test.YtmnibpgmcgdfpaaXAn
import Derived.Test.YtmnibpgmcgdfpaaXBl
import Derived.Test.YtmnibpgmcgdfpaaXCb
import Derived.Test.YtmnibpgmcgdfpaaXCc
import Derived.Test.YtmnibpgmcgdfpaaXCy
import Derived.Test.YtmnibpgmcgdfpaaXDf
namespace Go.Proofs.Ytmnibpgmcgdfpaa
set_option maxHeartbeats 64000000
set_option maxRecDepth 20000
set_option linter.unusedVariables false
set_option linter.unusedSimpArgs false
open Go.PL
theorem G5 {α:Type} [Inhabited α] (p:α→Bool) (x:α):∀(l:List α) (k:Nat),k<l.length→p x=p (l.getD k default)→idx p (l.set k x)=idx p l:=by
 have key:∀(l:List α) (k:Nat),k<l.length→p x=p (l.getD k default)→(l.set k x).findIdx? p=l.findIdx? p:=by
  intro l
  induction l with
  |nil=>intro k hk;simp at hk
  |cons a t ih=>
   intro k hk h;cases k with
   |zero=>
    simp only[List.set_cons_zero,List.findIdx?_cons];have h:p x=p a:=h;rw[h]
   |succ k=>
    simp only[List.set_cons_succ,List.findIdx?_cons];rw[ih k (by simpa using hk) (by simpa using h)]
 intro l k hk h;unfold idx;rw[key l k hk h]
theorem ZQ {α:Type} {d:α} {l:List α} {k:Nat} {x:α} (h:k<l.length):(l.set k x).getD k d=x:=by
 rw[List.getD_eq_getElem?_getD,List.getElem?_set,if_pos rfl,if_pos h];rfl
theorem Y4 {α:Type} {d:α} {l:List α} {k i:Nat} {x:α} (h:i≠k):(l.set k x).getD i d=l.getD i d:=by
 rw[List.getD_eq_getElem?_getD,List.getElem?_set,if_neg (Ne.symm h),←List.getD_eq_getElem?_getD]
theorem ZcM {l:List Fd} (h:Yu l=true) {f g:Fd} (hf:f∈l) (hg:g∈l) (e:f.at'=g.at'):f=g:=Zke (T3.1 h).2.1 hf hg e
theorem ZiH {l:List Fd} {d:Dc} (h:Zl l d=true):Yu l=true∧d.rows.length≤400:=by
 simp only[Zl,VA,Bool.and_eq_true,Bool.not_eq_true',decide_eq_false_iff_not]at h;exact⟨h.1.1,by omega⟩
theorem Zab {l:List Fd} {sc:Int} {k j:Nat} {r:Rf} (hl:Yu l=true) (hk:k<(Zi l sc).length) (h:((Zi l sc).getD k default).at'=r) (hj:j<l.length) (hi:idx (atF r) l=(j:Int)):(Zi l sc).getD k default=l.getD j default:=by
 rcases Yo (atF r) l with ⟨h1,_⟩|⟨i,hi',h1,h2,_⟩
 ·omega
 ·obtain rfl:i=j:=by omega
  have h2:(l.getD i default).at'=r:=by simpa[atF]using h2
  exact ZcM hl (List.mem_filter.1 (Zg (d:=default) hk)).1 (Zg hi') (h.trans h2.symm)
theorem GW {L:List Fd} {es:List En} {k:Nat} {e:En} (h:Zk L es=true) (hk:k<es.length) (hf:ZS (L.getD k default) e=true):Zk L (es.set k e)=true:=by
 simp only[Zk,Bool.and_eq_true,decide_eq_true_eq,List.all_eq_true,List.mem_range,List.length_set]at h ⊢;refine⟨h.1,fun i hi=> ?_⟩
 by_cases e1:i=k
 ·subst e1;rw[ZQ hk];exact hf
 ·rw[Y4 e1];exact h.2 i hi
theorem Ya {l:List Fd} {d:Dc}:Zl l d=true↔Yu l=true∧d.rows.length≤400∧Zk (Zi l 0) d.head=true∧Sj d.rows∧ ∀r∈d.rows,Z8 r.item=true∧Zk (Zi l 1) r.l=true:=by
 constructor
 ·intro h;obtain⟨h1,h2⟩:=ZiH h;refine⟨h1,h2,ZgA h,Xw h,fun r hr=>⟨?_,ZgB h r hr⟩⟩;simp only[Zl,Bool.and_eq_true,List.all_eq_true,List.mem_range]at h;obtain⟨i,hi,rfl⟩:=List.getElem_of_mem hr;have h1:=h.2 i hi;rw[YJ,Zb hi,Bool.and_eq_true,Bool.and_eq_true]at h1;exact h1.1.1
 ·rintro ⟨h1,h2,h3,h4,h5⟩
  simp only[Zl,VA,Bool.and_eq_true,Bool.not_eq_true',decide_eq_false_iff_not,List.all_eq_true,List.mem_range];refine⟨⟨h1,by omega,h3⟩,fun i hi=> ?_⟩;have hm:=h5 _ (Zg (d:=default) hi);simp only[YJ,Bool.and_eq_true,Bool.or_eq_true,decide_eq_true_eq];refine⟨⟨hm.1,?_⟩,hm.2⟩
  by_cases h0:i=0
  ·exact .inl h0
  ·right;have:=List.pairwise_iff_getElem.1 h4 (i-1) i (by omega) hi (by omega);rwa[←Zb (d:=default),←Zb (d:=default)]at this
theorem ZgI {l:List Fd} {d:Dc} {it:Str} {e:En} (hr:Zl l d=true) (hs:(Xh d it e.at').2.2=0) (hf:ZS (Z3 l e.at').1 e=true):
  ZZ (Uz d (Xh d it e.at') e) it e.at'=(e,0)∧Zl l (Uz d (Xh d it e.at') e)=true∧ ∀look,look≠e.at'→ZZ (Uz d (Xh d it e.at') e) it look=ZZ d it look:=by
 obtain⟨r1,r2,r3,r4,r5⟩:=Ya.1 hr;rcases UY (it:=it) (r:=e.at') hr with h|⟨hi,k,j,hk,s1,s2,hj,s3⟩|⟨hi,i,k,j,hii,s0,s0',hk,s1,s2,hj,s3⟩
 ·exact absurd hs h
 ·have hx:Uz d (Xh d it e.at') e=⟨d.head.set k e,d.rows⟩:=by
   unfold Uz;rw[s2,if_pos (by simp)];rfl
  obtain⟨g1,g2⟩:=Yk r3 hk;have hat:(d.head.getD k default).at'=e.at':=by
   rcases Yo (atE e.at') d.head with ⟨h1,_⟩|⟨k',hk',h1,h2,_⟩
   ·omega
   ·obtain rfl:k'=k:=by omega
    simpa[atE]using h2
  have hfe:ZS ((Zi l 0).getD k default) e=true:=by
   rw[Zab r1 g1 (g2.symm.trans hat) hj s3];unfold Z3 at hf;rw[s3,if_neg (by omega),Int.toNat_natCast]at hf;exact hf
  rw[hx];refine⟨?_,Ya.2 ⟨r1,r2,GW r3 hk hfe,r4,r5⟩,fun look hl=> ?_⟩
  ·unfold ZZ;rw[if_pos hi];simp only;rw[G5 _ _ _ _ hk (by simp only[atE,hat]),s1,if_neg (by omega),Int.toNat_natCast,ZQ hk]
  ·unfold ZZ;rw[if_pos hi,if_pos hi];simp only;rw[G5 _ _ _ _ hk (by simp only[atE,hat])];rcases Yo (atE look) d.head with ⟨h1,_⟩|⟨k',hk',h1,h2,_⟩
   ·rw[h1];rfl
   ·rw[h1,if_neg (by omega),if_neg (by omega),Int.toNat_natCast];have:k'≠k:=fun e1=>by
     subst e1;simp only[atE,hat,decide_eq_true_eq]at h2;exact hl h2.symm
    rw[Y4 this]
 ·have hx:Uz d (Xh d it e.at') e=⟨d.head,d.rows.set i ⟨(d.rows.getD i default).item,(d.rows.getD i default).l.set k e⟩⟩:=by
   unfold Uz;rw[s2,if_neg (by simp)];simp only[Int.toNat_natCast]
  have hrow:=r5 _ (Zg (d:=default) hii);obtain⟨g1,g2⟩:=Yk hrow.2 hk;have hat:((d.rows.getD i default).l.getD k default).at'=e.at':=by
   rcases Yo (atE e.at') (d.rows.getD i default).l with ⟨h1,_⟩|⟨k',hk',h1,h2,_⟩
   ·omega
   ·obtain rfl:k'=k:=by omega
    simpa[atE]using h2
  have hfe:ZS ((Zi l 1).getD k default) e=true:=by
   rw[Zab r1 g1 (g2.symm.trans hat) hj s3];unfold Z3 at hf;rw[s3,if_neg (by omega),Int.toNat_natCast]at hf;exact hf
  have hir:∀(w:Rw),w.item=(d.rows.getD i default).item→idx (atR it) (d.rows.set i w)=(i:Int):=fun w hw=>by
   rw[G5 _ _ _ _ hii (by simp only[atR,hw]),s0]
  have hRise:∀(w:Rw),w.item=(d.rows.getD i default).item→Sj (d.rows.set i w):=fun w hw=>by
   unfold Sj;rw[List.pairwise_iff_getElem];intro a b ha hb hab;rw[List.length_set]at ha hb;have:=List.pairwise_iff_getElem.1 r4 a b ha hb hab;have it':∀x (hx:x<d.rows.length),((d.rows.set i w).getD x default).item=(d.rows.getD x default).item:=fun x hx=>by
    by_cases e1:x=i
    ·subst e1;rw[ZQ hii,hw]
    ·rw[Y4 e1]
   rw[←Zb (d:=default),←Zb (d:=default)]at this ⊢;rw[it' a ha,it' b hb];exact this
  rw[hx];refine⟨?_,Ya.2 ⟨r1,by simpa using r2,r3,hRise ⟨(d.rows.getD i default).item,(d.rows.getD i default).l.set k e⟩ rfl,fun r hm=> ?_⟩,fun look hl=> ?_⟩
  ·unfold ZZ;rw[if_neg hi];simp only;rw[hir ⟨(d.rows.getD i default).item,(d.rows.getD i default).l.set k e⟩ rfl,if_neg (by omega),Int.toNat_natCast,ZQ hii];simp only;rw[G5 _ _ _ _ hk (by simp only[atE,hat]),s1,if_neg (by omega),Int.toNat_natCast,ZQ hk]
  ·rcases List.mem_or_eq_of_mem_set hm with h|rfl
   ·exact r5 r h
   ·exact⟨hrow.1,GW hrow.2 hk hfe⟩
  ·unfold ZZ;rw[if_neg hi,if_neg hi];simp only;simp only[hir ⟨(d.rows.getD i default).item,(d.rows.getD i default).l.set k e⟩ rfl,s0,show ¬(i:Int)<0 by omega,if_false,Int.toNat_natCast,ZQ hii];rw[G5 _ _ _ _ hk (by simp only[atE,hat])];rcases Yo (atE look) (d.rows.getD i default).l with ⟨h1,_⟩|⟨k',hk',h1,h2,_⟩
   ·rw[h1];rfl
   ·rw[h1,if_neg (by omega),if_neg (by omega),Int.toNat_natCast];have:k'≠k:=fun e1=>by
     subst e1;simp only[atE,hat,decide_eq_true_eq]at h2;exact hl h2.symm
    rw[Y4 this]
theorem Zg9 {f:Fd} (hr:Yy f=true):ZS f (ZF f)=true:=by
 have h:=hr;simp only[Yy,Bool.and_eq_true]at h;obtain⟨_,h⟩:=h;have hat:(ZF f).at'=f.at':=rfl;have hn:(ZF f).n=0:=rfl
 by_cases k1:f.kind=1
 ·have hv:(ZF f).l= []:=by simp[ZF,k1]
  simp[ZS,hr,hat,k1,Zct,hn,hv]
 ·rw[if_neg k1]at h;simp only[Bool.and_eq_true]at h
  by_cases k4:f.kind=4
  ·have hv:(ZF f).l= []:=by simp[ZF,k4]
   simp[ZS,hr,hat,k1,k4,U3,Ul,hn,hv]
  ·have hv:(ZF f).l= [f.df]:=by simp[ZF,k1,k4]
   have hd:Ua f f.df=true:=by
    have h:=h.2
    by_cases k3:f.kind=3
    ·rw[if_pos k3]at h;simp only[DT,Bool.and_eq_true]at h;simp only[Ua,hr,k1,k3,if_true];simpa using h.2.2
    ·rw[if_neg k3]at h;simp only[ZeW,Bool.and_eq_true,Bool.or_eq_true,decide_eq_true_eq]at h;simp only[Ua,hr,k1,k3,if_false,decide_false,Bool.not_false,Bool.and_self,Bool.true_and,decide_eq_true_eq];rcases h.2 with h|h
     ·exact h.2
     ·exact absurd h.1 k4
   simp[ZS,hr,hat,k1,k4,U3,Ul,hn,hv,hd]
theorem Zck {l:List Fd} (hl:Yu l=true) (sc:Int):Zk (Zi l sc) (Zp l sc)=true:=by
 have hb:Zp l sc=(Zi l sc).map ZF:=rfl;rw[hb];simp only[Zk,Bool.and_eq_true,decide_eq_true_eq,List.all_eq_true,List.mem_range,List.length_map,true_and];intro i hi;have:((Zi l sc).map ZF).getD i default=ZF ((Zi l sc).getD i default):=by
  rw[Zb (by simpa using hi),Zb hi,List.getElem_map]
 rw[this];exact Zg9 ((T3.1 hl).2.2 _ (List.mem_filter.1 (Zg (d:=default) hi)).1)
theorem Zf8 {rs:List Rw} {r:Rw} (h:Sj rs) (hk:Z9 rs r.item=false):Sj (Vl rs r):=by
 have hj:=Yp rs r.item;have hpw:=List.pairwise_iff_getElem.1 h;have hlo:∀a∈rs.take (Zm rs r.item),Zq a.item r.item=true:=fun a ha=>by
  obtain⟨i,hi,rfl⟩:=List.getElem_of_mem ha;rw[List.length_take]at hi;have:=Gd (rs:=rs) (it:=r.item) (k:=i) (by omega);rwa[Zb (by omega),←List.getElem_take (j:=Zm rs r.item)]at this
 have hhi:∀b∈rs.drop (Zm rs r.item),Zq r.item b.item=true:=fun b hb=>by
  obtain⟨i,hi,rfl⟩:=List.getElem_of_mem hb;rw[List.length_drop]at hi;have hlt:Zm rs r.item<rs.length:=by omega
  have g:=ZjK hlt;have gn:=ZjL hk hlt rfl;have g0:Zq r.item (rs.getD (Zm rs r.item) default).item=true:=by
   rcases TJ r.item (rs.getD (Zm rs r.item) default).item with h|h|h
   ·exact h
   ·exact absurd h.symm gn
   ·rw[g]at h;cases h
  rw[List.getElem_drop]
  by_cases e:i=0
  ·subst e;rw[Zb hlt]at g0;simpa using g0
  ·have:=hpw (Zm rs r.item) (Zm rs r.item+i) hlt (by omega) (by omega);rw[Zb hlt]at g0;exact W5 g0 this
 unfold Sj Vl;refine List.pairwise_append.2 ⟨List.Pairwise.sublist (List.take_sublist _ _) h,List.pairwise_cons.2 ⟨hhi,List.Pairwise.sublist (List.drop_sublist _ _) h⟩,fun a ha b hb=> ?_⟩;rcases List.mem_cons.1 hb with rfl|hb
 ·exact hlo a ha
 ·exact W5 (hlo a ha) (hhi b hb)
open Go.PL Go.RowKit
theorem Zbq (l:List Str):PV.nofrL (l.map .str)=true:=Gn fun c hc=>by obtain⟨x,_,rfl⟩:=List.mem_map.1 hc;rfl
theorem X0 (l:List En):PV.nofrL (l.map ent)=true:=Gn fun c hc=>by
 obtain⟨x,_,rfl⟩:=List.mem_map.1 hc;simp[ent,PV.nofr,PV.nofrL,Zbq]
theorem Zbp (l:List Rw):PV.nofrL (l.map row)=true:=Gn fun c hc=>by
 obtain⟨x,_,rfl⟩:=List.mem_map.1 hc;simp[row,PV.nofr,PV.nofrL,X0]
def Zmu (d:Dc):List PV:= [.sl .no (d.head.map ent),.sl .no (d.rows.map row)]
theorem ZfP (l:List Str):PV.dullL (l.map .str)=l.map .str:=by rw[PV.dullL_map,List.map_map];rfl
theorem Zh7 (e:En):(ent e).dull=ent e:=by simp[ent,PV.dull,PV.dullL,ZfP]
theorem Za1 (l:List En):PV.dullL (l.map ent)=l.map ent:=by
 rw[PV.dullL_map,List.map_map];exact List.map_congr_left fun e _=>Zh7 e
def okR (r:Rw):Prop:=r.l.length≤100000∧ ∀e∈r.l,e.l.length≤1000000
theorem Zdx {l:List En} {i:Nat} (h:∀e∈l,e.l.length≤1000000):(l.getD i default).l.length≤1000000:=by
 by_cases hi:i<l.length
 ·exact h _ (Zg hi)
 ·rw[Xq (by omega)];exact Nat.zero_le _
theorem SY {it:Str} {a b:List En} (ha:∀e∈a,e.l.length≤1000000) (hb:∀e∈b,e.l.length≤1000000):∀c∈Z2 it a b,FineB c:=fun c hc=>by
 obtain⟨i,_,rfl⟩:=List.mem_map.1 hc;exact⟨Zdx ha,Zdx hb,Nat.zero_le _,fun e h=>by cases h⟩
theorem Wv:∀(n:Nat) (P Q:List Rw),P.length+Q.length≤n→(∀r∈P,okR r)→(∀r∈Q,okR r)→ ∀c∈Yg P Q,FineB c
 |_,[],[],_,_,_=>by rw[Yg];simp
 |0,p::ps,Q,h,_,_=>by simp at h
 |0,[],q::qs,h,_,_=>by simp at h
 |n+1,p::ps,[],h,hP,hQ=>fun c hc=>by
  rw[Yg,List.mem_cons]at hc;rcases hc with rfl|hc
  ·exact⟨Nat.zero_le _,Nat.zero_le _,(hP p (by simp)).1,(hP p (by simp)).2⟩
  ·exact Wv n ps [] (by simp at h ⊢;omega) (fun r hr=>hP r (by simp[hr])) hQ c hc
 |n+1,[],q::qs,h,hP,hQ=>fun c hc=>by
  rw[Yg,List.mem_cons]at hc;rcases hc with rfl|hc
  ·exact⟨Nat.zero_le _,Nat.zero_le _,(hQ q (by simp)).1,(hQ q (by simp)).2⟩
  ·exact Wv n [] qs (by simp at h ⊢;omega) hP (fun r hr=>hQ r (by simp[hr])) c hc
 |n+1,p::ps,q::qs,h,hP,hQ=>fun c hc=>by
  have hP':∀r∈ps,okR r:=fun r hr=>hP r (by simp[hr])
  have hQ':∀r∈qs,okR r:=fun r hr=>hQ r (by simp[hr])
  rw[Yg]at hc;split at hc
  ·rcases List.mem_cons.1 hc with rfl|hc
   ·exact⟨Nat.zero_le _,Nat.zero_le _,(hP p (by simp)).1,(hP p (by simp)).2⟩
   ·exact Wv n ps (q::qs) (by simp at h ⊢;omega) hP' hQ c hc
  ·split at hc
   ·rcases List.mem_cons.1 hc with rfl|hc
    ·exact⟨Nat.zero_le _,Nat.zero_le _,(hQ q (by simp)).1,(hQ q (by simp)).2⟩
    ·exact Wv n (p::ps) qs (by simp at h ⊢;omega) hP hQ' c hc
   ·rcases List.mem_append.1 hc with hc|hc
    ·exact SY (hP p (by simp)).2 (hQ q (by simp)).2 c hc
    ·exact Wv n ps qs (by simp at h ⊢;omega) hP' hQ' c hc
theorem Vx:∀(n:Nat) (P Q:List Rw),P.length+Q.length≤n→(∀r∈P,r.l.length≤40)→(Yg P Q).length≤41*n
 |n,[],[],_,_=>by rw[Yg];simp
 |0,p::ps,Q,h,_=>by simp at h
 |0,[],q::qs,h,_=>by simp at h
 |n+1,p::ps,[],h,hP=>by
  rw[Yg,List.length_cons];have:=Vx n ps [] (by simp at h ⊢;omega) (fun r hr=>hP r (by simp[hr]));omega
 |n+1,[],q::qs,h,hP=>by
  rw[Yg,List.length_cons];have:=Vx n [] qs (by simp at h ⊢;omega) hP;omega
 |n+1,p::ps,q::qs,h,hP=>by
  have hP':∀r∈ps,r.l.length≤40:=fun r hr=>hP r (by simp[hr])
  rw[Yg];split
  ·rw[List.length_cons];have:=Vx n ps (q::qs) (by simp at h ⊢;omega) hP';omega
  ·split
   ·rw[List.length_cons];have:=Vx n (p::ps) qs (by simp at h ⊢;omega) hP;omega
   ·rw[List.length_append];have h1:=Vx n ps qs (by simp at h ⊢;omega) hP';have h2:=VX q.item p.l q.l;have h3:=hP p (by simp);omega
structure SmallD (d:Dc):Prop where
 h:d.head.length≤40
 r:d.rows.length≤410
 e:∀e∈d.head,e.l.length≤410
 s:∀r∈d.rows,r.l.length≤40∧ ∀e∈r.l,e.l.length≤410
theorem ZgJ {d:Dc} (h:YE d=false):SmallD d:=by
 simp only[YE,Bool.or_eq_false_iff,List.any_eq_false,decide_eq_false_iff_not]at h;obtain⟨h1,h2⟩:=Xs h.2.1;refine⟨h1,by omega,h2,fun r hr=> ?_⟩;have h3:ZgF r=false:=by simpa using h.2.2 r hr
 simp only[ZgF,Bool.or_eq_false_iff]at h3;exact Xs h3.2
theorem SmallD.ok {d:Dc} (h:SmallD d):OkDd d:=⟨by have:=h.h;omega,by have:=h.r;omega,fun e he=>by have:=h.e e he;omega,fun r hr=>⟨by have:=(h.s r hr).1;omega,fun e he=>by have:=(h.s r hr).2 e he;omega⟩⟩
theorem Zcn {l:List Fd} {a b:Dc} (ha:SmallD a) (hb:SmallD b):(DM l a b).1.length≤100000∧ ∀c∈(DM l a b).1,FineB c:=by
 unfold DM;split
 ·exact⟨Nat.zero_le _,fun c hc=>by cases hc⟩
 ·have h1:=VX [] a.head b.head;have h2:=Vx _ a.rows b.rows (Nat.le_refl _) (fun r hr=>(ha.s r hr).1);have h3:=ha.h;have h4:=ha.r;have h5:=hb.r;refine⟨by simp only[List.length_append];omega,fun c hc=> ?_⟩;rcases List.mem_append.1 hc with hc|hc
  ·exact SY ha.ok.e hb.ok.e c hc
  ·exact Wv _ a.rows b.rows (Nat.le_refl _) ha.ok.s hb.ok.s c hc
open Go.PL Go.RowKit
theorem SU {l:List Fd} (h:ST l=false):l.length≤40∧ ∀f∈l,f.cases'.length≤1000000:=by
 simp only[ST,Bool.or_eq_false_iff,List.any_eq_false,decide_eq_false_iff_not]at h;refine⟨by omega,fun f hf=> ?_⟩;have h1:VD f=false:=by simpa using h.2 f hf
 simp only[VD,Fg,Bool.or_eq_false_iff,decide_eq_false_iff_not]at h1;omega
structure DdQ (l:List Fd) (a b:Dc) (s:St):Prop where
 n:s.n=124
 f0:s.fr 0=Zj l
 f4:s.fr 4= .ptr 4 0
 f5:s.fr 5= .ptr 5 0
 f7:s.fr 7= .ptr 7 0
 f8:s.fr 8= .ptr 8 0
 h4:s.m.h 4=some (Zmu a)∧s.m.z 4=false
 h5:s.m.h 5=some (Zmu b)∧s.m.z 5=false
 h7:s.m.h 7=some (Zmu a)∧s.m.z 7=false
 h8:s.m.h 8=some (Zmu b)∧s.m.z 8=false
structure DdQ2 (cs:List Cg) (φ:Nat→Nat) (s:St):Prop where
 n:s.n=124
 f9:s.fr 9=PV.frl (cs.map Zn4)
 f4:s.fr 4= .ptr 4 0∧s.m.ph 4=some (φ 4)
 f5:s.fr 5= .ptr 5 0∧s.m.ph 5=some (φ 5)
 f7:s.fr 7= .ptr 7 0∧s.m.ph 7=some (φ 7)
 f8:s.fr 8= .ptr 8 0∧s.m.ph 8=some (φ 8)
open Go.PL Go.RowKit
structure DocIn (m:Hp) (b R:Nat) (ns:List Nat) (d:Dc):Prop where
 h:m.h b=some [.vsl 3000 d.head.length 5,.vsl R d.rows.length 2]
 z:m.z b=false
 vh:m.v 3000=some (d.head.map ent)
 vr:m.v R=some (ZA ns d.rows)
 vn:∀x∈Se ns d.rows,m.v x.1=some x.2
 l:ns.length=d.rows.length
theorem DocIn.near {n:Nat} {m m':Hp} {b R:Nat} {ns:List Nat} {d:Dc} (h:DocIn m b R ns d) (hn:Near n m m') (hb:n≤b):DocIn m' b R ns d:=
 ⟨(hn.h b hb).1.trans h.h,(hn.h b hb).2.trans h.z,by rw[hn.v];exact h.vh,by rw[hn.v];exact h.vr,fun x hx=>by rw[hn.v];exact h.vn x hx,h.l⟩
theorem UX {ns:List Nat} {rs:List Rw} (hl:ns.length=rs.length) {k:Nat} (hk:k<rs.length):(ZA ns rs).getD k .any=rowN (ns.getD k 0) (rs.getD k default):=by
 unfold ZA;rw[Zb (by rw[List.length_zipWith];omega),List.getElem_zipWith,Zb (by omega),Zb hk]
section
variable {m:Hp} {b R:Nat} {ns:List Nat} {d:Dc}
theorem DocIn.head (h:DocIn m b R ns d):Pub (fun _=>False) m (.vsl 3000 d.head.length 5) (.sl .no (d.head.map ent)):=
 Pub.vec0 (by simp) h.vh (List.length_map _) (Yf Yn _)
theorem DocIn.rows (h:DocIn m b R ns d):Pub (fun _=>False) m (.vsl R d.rows.length 2) (.sl .no (d.rows.map row)):=by
 refine .vec R d.rows.length 2 (ZA ns d.rows) (d.rows.map row) (by simp) h.vr (WT h.l) (by rw[List.length_map,WT h.l]) (Yf YQ _) fun i hi=> ?_
 rw[WT h.l]at hi;rw[UX h.l hi,ZB hi]
 by_cases h0:(d.rows.getD i default).l.length=0
 ·rw[Zan h0];exact .clean (YQ _)
 ·unfold rowN;rw[if_neg h0];exact Pub.agg2w (.clean rfl) (Pub.vec0 (by simp) (h.vn _ (TO h.l hi h0)) (List.length_map _) (Yf Yn _))
theorem DocIn.ptr (h:DocIn m b R ns d):Pub (fun _=>False) m (.ptr b 0) (Zfd d):=by
 have:=Pub.blk (K:=fun _=>False) (m:=m) b 0 [.vsl 3000 d.head.length 5,.vsl R d.rows.length 2] [.sl .no (d.head.map ent),.sl .no (d.rows.map row)] (by simp) h.h h.z rfl (by simp[PV.ids]) fun j hj=>by
  match j,hj with
  |0,_=>exact h.head
  |1,_=>exact h.rows
 exact this
theorem DocIn.agg (h:DocIn m b R ns d):Pub (fun _=>False) m (.agg [.vsl 3000 d.head.length 5,.vsl R d.rows.length 2]) (doc d):=Pub.agg2w h.head h.rows
theorem Zgq (d:Dc):(Zfd d).nofr=true:=by simp[Zfd,PV.nofr,PV.nofrL,X0,Zbp]
theorem ZdJ (d:Dc):(doc d).nofr=true:=by simp[doc,Zt,PV.nofr,PV.nofrL,X0,Zbp]
theorem DocIn.row_s (h:DocIn m b R ns d) (it:Str) (hl:d.rows.length≤maxLen):CallS Try.prog 111 [.ptr b 0,.str it] m (.tup [.int .i64 ((Zm d.rows it:Nat):Int),.bool (Z9 d.rows it)]) m:=
 CallS.lend (Zd2 d it hl) rfl (fun i hi=>by
  match i,hi with
  |0,_=>exact h.ptr
  |1,_=>exact .clean rfl) (by simp[Zfd,PV.ids]) (fun p hp=>by
  simp only[List.mem_cons,List.not_mem_nil,or_false]at hp;rcases hp with rfl|rfl
  ·exact Zgq d
  ·rfl) rfl
theorem DocIn.find_s (h:DocIn m b R ns d) (it:Str) (r:Rf) (hf:Vk d) (hs:DK d):CallS Try.prog 33 [.agg [.vsl 3000 d.head.length 5,.vsl R d.rows.length 2],.str it,ref r] m (Zje (ZZ d it r)) m:=
 CallS.lend (ZjB d it r hf hs) rfl (fun i hi=>by
  match i,hi with
  |0,_=>exact h.agg
  |1,_=>exact .clean rfl
  |2,_=>exact .clean rfl) (by simp[doc,Zt,ref,PV.ids,PV.idsL]) (fun p hp=>by
  simp only[List.mem_cons,List.not_mem_nil,or_false]at hp;rcases hp with rfl|rfl|rfl
  ·exact ZdJ d
  ·rfl
  ·rfl) (Zhd _)
end
open Go.PL Go.RowKit
abbrev VN (ns:List Nat) (d:Dc):MemL:=⟨[(1000,[.vsl 3000 d.head.length 5,.vsl 3001 d.rows.length 2])],XK 3001 ns d,U4 3001 ns d⟩
theorem ZR {ns:List Nat} {d:Dc} (_hl:ns.length=d.rows.length) (hn:ns.Nodup) (h0:∀x∈ns,10000≤x):(VN ns d).Ok:=by
 have nm:(XK 3001 ns d).map (·.1)=3001::3000::Uo ns d.rows:=by simp only[XK,List.map_cons,YG]
 have nv:(U4 3001 ns d).map (·.1)=3001::3000::Uo ns d.rows:=by simp only[U4,List.map_cons,Ww]
 have h1:∀x∈Uo ns d.rows,10000≤x:=fun x hx=>h0 x (XW hx)
 have nd:(3001::3000::Uo ns d.rows).Nodup:=by
  refine List.nodup_cons.2 ⟨fun h=> ?_,List.nodup_cons.2 ⟨fun h=> ?_,Wx _ hn⟩⟩
  ·rcases List.mem_cons.1 h with h|h
   ·omega
   ·have:=h1 _ h;omega
  ·have:=h1 _ h;omega
 have has:∀i∈3001::3000::Uo ns d.rows,(VN ns d).has (.r i):=fun i hi=>by
  rw[←nm]at hi;obtain⟨y,hy,rfl⟩:=List.mem_map.1 hi;exact⟨y,hy,rfl⟩
 refine⟨by simp,by show((XK 3001 ns d).map (·.1)).Nodup;rw[nm];exact nd,by show((U4 3001 ns d).map (·.1)).Nodup;rw[nv];exact nd,fun x hx=> ?_,fun x hx c hc i hi=> ?_,fun x hx c hc i hi=> ?_⟩
 ·have:x.1∈(U4 3001 ns d).map (·.1):=List.mem_map.2 ⟨x,hx,rfl⟩;rw[nv,←nm]at this;obtain⟨y,hy,e⟩:=List.mem_map.1 this;exact⟨y,hy,e⟩
 ·rw[List.mem_singleton.1 hx]at hc;simp only[List.mem_cons,List.not_mem_nil,or_false]at hc;rcases hc with rfl|rfl
  ·simp only[PV.ids,List.mem_singleton]at hi;subst hi;exact has _ (by simp)
  ·simp only[PV.ids,List.mem_singleton]at hi;subst hi;exact has _ (by simp)
 ·rcases List.mem_cons.1 hx with rfl|hx
  ·obtain⟨y,hy,rfl⟩:=Xx hc hi;exact has y (by simp[hy])
  ·have:∃l:List En,x.2=l.map ent:=by
    rcases List.mem_cons.1 hx with rfl|hx
    ·exact⟨_,rfl⟩
    ·obtain⟨_,r,_,e⟩:=ZL hx;exact⟨_,e⟩
   obtain⟨l,e⟩:=this;rw[e]at hc;obtain⟨z,_,rfl⟩:=List.mem_map.1 hc;rw[Yn]at hi;cases hi
theorem Row.compat_refl (r:Row):Row.compat r r:=by cases r<;>simp[Row.compat]
theorem YU {m:Hp} {ns:List Nat} {d:Dc} (hl:ns.length=d.rows.length) (hn:ns.Nodup) (h0:∀x∈ns,10000≤x) (hh:m.h 1000=some [.vsl 3000 d.head.length 5,.vsl 3001 d.rows.length 2]) (hz:m.z 1000=false)
  (hv:m.v=upd (upd (Yc ((Se ns d.rows).map fun x=>(x.1,some x.2)) fun _=>none) 3000 (some (d.head.map ent))) 3001 (some (ZA ns d.rows))):DocIn m 1000 3001 ns d:=
 ⟨hh,hz,by rw[hv];rfl,by rw[hv];rfl,fun x hx=>by
  have hb:=h0 _ (ZL hx).1;rw[hv,Zc _ _ (by omega),Zc _ _ (by omega)];exact Xp hn hx,hl⟩
theorem ZjS {ns:List Nat} {rs:List Rw} {pq:Nat→Option (Nat×Nat×Nat)} (hn:ns.Nodup) {x:Nat×Row} (hx:x∈U5 ns rs):Yc ((U5 ns rs).map fun x=>(x.1,pq x.1)) (fun _=>none) x.1=pq x.1:=
 Wa (k:=fun i=>i) (F:=fun x=>pq x.1) hx (by rw[YG];exact Wx rs hn) (fun _ _ _ _ h=>h)
theorem XU {P:Program} {s:St} {rs:List ResultVar} {r0:PV} {ns:List Nat} {d:Dc} {ph:Nat→Nat} {pq:Nat→Option (Nat×Nat×Nat)} (hl:ns.length=d.rows.length) (hn:ns.Nodup) (h0:∀x∈ns,10000≤x) (hr:YS P r0 s [] rs) (hid:r0.ids= [])
  (hh:s.m.h 1000=some [.vsl 3000 d.head.length 5,.vsl 3001 d.rows.length 2]) (hz:s.m.z 1000=false) (hq:∀x∈XK 3001 ns d,s.m.q x.1=some x.2) (hv:∀x∈U4 3001 ns d,s.m.v x.1=some x.2) (hph:s.m.ph 1000=some (ph 1000)) (hpq:∀x∈XK 3001 ns d,s.m.pq x.1=pq x.1):
  ERet P rs r0 (VN ns d) (VN ns d) ph pq s:=
 ⟨⟨r0,hr,.clean hid⟩,fun x hx=>by
  rw[List.mem_singleton.1 hx];exact⟨_,hh,hz,rfl,fun i hi=> .keep _ fun j hj=>(ZR hl hn h0).ch _ (List.mem_singleton.2 rfl) _ (Ze hi) j hj⟩,hq,fun x hx=>⟨_,hv x hx,rfl,fun i hi=> .keep _ fun j hj=>(ZR hl hn h0).cv x hx _ (Ze hi) j hj⟩,fun x hx=>by rw[List.mem_singleton.1 hx];exact hph,hpq⟩
section
variable {ns:List Nat} {d:Dc}
theorem Xa (hl:ns.length=d.rows.length) (hn:ns.Nodup) (h0:∀x∈ns,10000≤x):∀x∈XK 3001 ns d,upd (upd (Yc ((U5 ns d.rows).map fun x=>(x.1,some x.2)) fun _=>none) 3000 (some (.vec d.head.length 5 27))) 3001 (some (.vec d.rows.length 2 53)) x.1=some x.2:=fun x hx=>by
 rcases List.mem_cons.1 hx with rfl|hx
 ·rfl
 ·rcases List.mem_cons.1 hx with rfl|hx
  ·rfl
  ·have hb:=h0 _ (YC hx).1;rw[Zc _ _ (by omega),Zc _ _ (by omega)];exact Vh hn hx
theorem XS (hl:ns.length=d.rows.length) (hn:ns.Nodup) (h0:∀x∈ns,10000≤x):∀x∈U4 3001 ns d,upd (upd (Yc ((Se ns d.rows).map fun x=>(x.1,some x.2)) fun _=>none) 3000 (some (d.head.map ent))) 3001 (some (ZA ns d.rows)) x.1=some x.2:=fun x hx=>by
 rcases List.mem_cons.1 hx with rfl|hx
 ·rfl
 ·rcases List.mem_cons.1 hx with rfl|hx
  ·rfl
  ·have hb:=h0 _ (ZL hx).1;rw[Zc _ _ (by omega),Zc _ _ (by omega)];exact Xp hn hx
theorem YB {pq:Nat→Option (Nat×Nat×Nat)} (hl:ns.length=d.rows.length) (hn:ns.Nodup) (h0:∀x∈ns,10000≤x):∀x∈XK 3001 ns d,upd (upd (Yc ((U5 ns d.rows).map fun x=>(x.1,pq x.1)) fun _=>none) 3000 (pq 3000)) 3001 (pq 3001) x.1=pq x.1:=fun x hx=>by
 rcases List.mem_cons.1 hx with rfl|hx
 ·rfl
 ·rcases List.mem_cons.1 hx with rfl|hx
  ·rfl
  ·have hb:=h0 _ (YC hx).1;rw[Zc _ _ (by omega),Zc _ _ (by omega)];exact ZjS hn hx
end
theorem ZjH (ns:List Nat) (d:Dc) (c:Cg) (hl:ns.length=d.rows.length) (hn:ns.Nodup) (h0:∀x∈ns,10000≤x) (hr:d.rows.length≤maxLen) (hk:Z9 d.rows c.item=false):
  Eff Try.prog 81 [.ptr 1000 0,chg c] (VN ns d) (.int .i64 12) (VN ns d):=by
 refine Eff.of_v [] Try.func81 (by decide) rfl Try.ntmps81 Try.results81 (by simp) (ZR hl hn h0) (ZR hl hn h0) (by simp[chg,PV.ids,PV.idsL,MemL.has]) (by simp[PV.ids]) (fun x hx=>⟨x,hx,rfl⟩) (fun x hx=>⟨x,hx,rfl,Row.compat_refl _⟩) fun ph pq=> ?_
 simp only[go_sem,chg,XK,U4];refine XP (DocIn.row_s (YU hl hn h0 rfl rfl rfl) c.item hr) ?_;simp only[go_sem,hk];exact XU hl hn h0 (by simp only[go_sem,YS]) rfl rfl rfl (Xa hl hn h0) (XS hl hn h0) rfl (YB hl hn h0)
end Go.Proofs.Ytmnibpgmcgdfpaa
