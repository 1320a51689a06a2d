/- Contracts of functions and laws of this seat, each for every input that it names: lemmas of the proof. -/
import Derived.Test.YtmnibpgmcgdfpaaPlM
import Derived.Test.YtmnibpgmcgdfpaaXAa
import Derived.Test.YtmnibpgmcgdfpaaXAd
import Derived.Test.YtmnibpgmcgdfpaaXAn
import Derived.Test.YtmnibpgmcgdfpaaXBl
import Derived.Test.YtmnibpgmcgdfpaaXCb
import Derived.Test.YtmnibpgmcgdfpaaXDf
namespace Go.Proofs.Ytmnibpgmcgdfpaa
set_option maxHeartbeats 64000000
set_option maxRecDepth 20000
set_option linter.unusedVariables false
set_option linter.unusedSimpArgs false
open Go.PL Go.RowKit
theorem ZgB {l:List Fd} {d:Dc} (h:Zl l d=true):∀r∈d.rows,Zk (Zi l 1) r.l=true:=by
 intro r hr;simp only[Zl,Bool.and_eq_true,List.all_eq_true,List.mem_range]at h;obtain⟨i,hi,rfl⟩:=List.getElem_of_mem hr;have h1:=h.2 i hi;rw[YJ,Zb hi,Bool.and_eq_true]at h1;exact h1.2
theorem ZgA {l:List Fd} {d:Dc} (h:Zl l d=true):Zk (Zi l 0) d.head=true:=by
 simp only[Zl,VA,Bool.and_eq_true]at h;exact h.1.2.2
theorem Vz {l:List Fd} {i:Nat} (h:i<l.length):(l.map fld).getD i .any=fld (l.getD i default):=Gk h
def Uz (d:Dc) (x:Int×Int×Int) (e:En):Dc:=
 if x.1<0 then⟨d.head.set x.2.1.toNat e,d.rows⟩else⟨d.head,d.rows.set x.1.toNat ⟨(d.rows.getD x.1.toNat default).item,(d.rows.getD x.1.toNat default).l.set x.2.1.toNat e⟩⟩
def Zb4 (l:List Fd) (d:Dc) (it:Str) (e:En):Dc×Int:=
 if Zl l d=false then(default,5)else
 if(Xh d it e.at').2.2≠0 then(default,(Xh d it e.at').2.2)else
 if ZS (Z3 l e.at').1 e=false then(default,11)else(Uz d (Xh d it e.at') e,0)
theorem Yk {L:List Fd} {es:List En} (h:Zk L es=true) {k:Nat} (hk:k<es.length):k<L.length∧(es.getD k default).at'=(L.getD k default).at':=by
 simp only[Zk,Bool.and_eq_true,decide_eq_true_eq,List.all_eq_true,List.mem_range]at h;have h1:=h.2 k (by omega);simp only[ZS,Bool.and_eq_true,decide_eq_true_eq]at h1;exact⟨by omega,h1.1.2⟩
theorem Zaa {l:List Fd} {sc:Int} {k:Nat} (hk:k<(Zi l sc).length) {r:Rf} (h:((Zi l sc).getD k default).at'=r):∃j:Nat,j<l.length∧idx (atF r) l=(j:Int):=by
 rcases Yo (atF r) l with ⟨_,h2⟩|⟨j,hj,h2,_⟩
 ·exfalso;have hm:(Zi l sc).getD k default∈l:=(List.mem_filter.1 (Zg (d:=default) hk)).1;obtain⟨i,hi,e⟩:=List.getElem_of_mem hm;have:=h2 i hi;have h':atF r ((Zi l sc).getD k default)=true:=decide_eq_true h;rw[Zb hi,e,h']at this;cases this
 ·exact⟨j,hj,h2⟩
theorem UY {l:List Fd} {d:Dc} {it:Str} {r:Rf} (hr:Zl l d=true):(Xh d it r).2.2≠0∨
  (it= []∧ ∃k j:Nat,k<d.head.length∧idx (atE r) d.head=(k:Int)∧Xh d it r=(-1,(k:Int),0)∧j<l.length∧idx (atF r) l=(j:Int))∨
  (it≠ []∧ ∃i k j:Nat,i<d.rows.length∧idx (atR it) d.rows=(i:Int)∧(d.rows.getD i default).item=it∧k<(d.rows.getD i default).l.length∧idx (atE r) (d.rows.getD i default).l=(k:Int)∧Xh d it r=((i:Int),(k:Int),0)∧j<l.length∧idx (atF r) l=(j:Int)):=by
 unfold Xh
 by_cases hi:it= []
 ·rw[if_pos hi];rcases Yo (atE r) d.head with ⟨h1,_⟩|⟨k,hk,h1,h2,_⟩
  ·rw[h1];exact .inl (by simp)
  ·refine .inr (.inl ⟨hi,k,?_⟩);obtain⟨g1,g2⟩:=Yk (ZgA hr) hk;obtain⟨j,hj,h3⟩:=Zaa g1 (r:=r) (by rw[←g2];simpa[atE]using h2);rw[h1,if_neg (by omega)];exact⟨j,hk,rfl,rfl,hj,h3⟩
 ·rw[if_neg hi];rcases Yo (atR it) d.rows with ⟨h1,_⟩|⟨i,hii,h1,h2,_⟩
  ·rw[h1];exact .inl (by simp)
  ·rw[h1,if_neg (by omega)];simp only[Int.toNat_natCast];rcases Yo (atE r) (d.rows.getD i default).l with ⟨h3,_⟩|⟨k,hk,h3,h4,_⟩
   ·rw[h3];exact .inl (by simp)
   ·refine .inr (.inr ⟨hi,i,k,?_⟩);obtain⟨g1,g2⟩:=Yk (ZgB hr _ (Zg (d:=default) hii)) hk;obtain⟨j,hj,h5⟩:=Zaa g1 (r:=r) (by rw[←g2];simpa[atE]using h4);rw[h3,if_neg (by omega)];exact⟨j,hii,rfl,by simpa[atR]using h2,hk,rfl,rfl,hj,h5⟩
theorem TQ (d:Dc) (it:Str) (r:Rf):(ZZ d it r).2=(Xh d it r).2.2:=by
 unfold ZZ Xh
 by_cases hi:it= []
 ·rw[if_pos hi,if_pos hi];split<;>rfl
 ·rw[if_neg hi,if_neg hi];split
  ·rfl
  ·split<;>rfl
theorem Zfm (l:List Fd) (d:Dc) (it:Str) (e:En) (hl:l.length≤100000) (hl':∀f∈l,f.cases'.length≤1000000) (h1:d.head.length≤100000) (h2:d.rows.length≤100000) (h3:∀r∈d.rows,r.l.length≤100000) (hf:Vk d) (he:e.l.length≤1000000):
  PL.Pure Try.prog 32 [Zj l,doc d,.str it,ent e] (.tup [doc (Zb4 l d it e).1,.int .i64 (Zb4 l d it e).2]):=by
 have hR:=ZH l d (by rw[Zh];omega) (fun f hf=>by have:=hl' f hf;rw[Zh];omega) hf;have hF:=D2 d it e.at' hf;have hA:=Zhx l e.at' (by rw[Zh];omega);have hdef:doc default= .agg [.sl .no [],.sl .no []]:=rfl;cases hr:Zl l d
 ·rw[hr]at hR;have hq:Zb4 l d it e=(default,5):=by simp[Zb4,hr]
  rw[hq];refine YX Try.func32 rfl Try.ntmps32 Try.results32 (Zu _ _) ?_;simp only[go_sem,Zj,doc,ent];refine vc2 (hR) ?_;simp only[go_sem];rfl
 ·rw[hr]at hR;have hfc:=TQ d it e.at';rcases UY (it:=it) (r:=e.at') hr with hs|⟨hi,k,j,hk,s1,s2,hj,s3⟩|⟨hi,i,k,j,hii,s0,s0',hk,s1,s2,hj,s3⟩
  ·have hq:Zb4 l d it e=(default,(Xh d it e.at').2.2):=by
    unfold Zb4;rw[if_neg (by rw[hr];simp),if_pos hs]
   have hs':((ZZ d it e.at').2 !=0)=true:=by rw[hfc];simpa using hs
   rw[hq,←hfc];unfold Za3 at hF;generalize ZZ d it e.at'=x at *;refine YX Try.func32 rfl Try.ntmps32 Try.results32 (Zu _ _) ?_;simp only[go_sem,Zj,doc,ent];refine vc2 (hR) ?_;simp only[go_sem];refine vc1 (hF) ?_;simp only[go_sem,ent,hs'];rfl
  all_goals
   have hs':((ZZ d it e.at').2 !=0)=false:=by rw[hfc,s2];rfl
   have hjF:Z3 l e.at'=(l.getD j default,0):=by
    unfold Z3;rw[s3,if_neg (by omega),Int.toNat_natCast]
   have hA':PL.Pure Try.prog 77 [Zj l,ref e.at'] (.int .i64 (j:Int)):=by rw[←s3];exact hA
   have hfit:=Ti (l.getD j default) e (by have:=hl' _ (Zg (d:=default) hj);rw[Zh];omega) (by rw[Zh];omega);have j0:(0:Int)≤(j:Int):=by omega
   have jz:(j:Int)<(l.length:Int):=by omega
   unfold Za3 at hF;cases hfe:ZS (l.getD j default) e
  ·rw[hfe]at hfit;have hq:Zb4 l d it e=(default,11):=by
    unfold Zb4;rw[if_neg (by rw[hr];simp),if_neg (by rw[s2];simp),hjF,if_pos hfe]
   rw[hq];generalize ZZ d it e.at'=x at *;refine YX Try.func32 rfl Try.ntmps32 Try.results32 (Zu _ _) ?_;simp only[go_sem,Zj,doc,ent];refine vc2 (hR) ?_;simp only[go_sem];refine vc1 (hF) ?_;simp only[go_sem,ent,hs'];refine vDq ?_;simp only[go_sem];refine vc2 (hA') ?_;simp only[go_sem,j0,jz,Vz hj,fld];refine vc2 (hfit) ?_;simp only[go_sem];rfl
  ·rw[hfe]at hfit;have hq:Zb4 l d it e=(⟨d.head.set k e,d.rows⟩,0):=by
    unfold Zb4;rw[if_neg (by rw[hr];simp),if_neg (by rw[s2];simp),hjF,if_neg (by rw[hfe];simp)];unfold Uz;rw[s2,if_pos (by simp)];rfl
   have hi':=GJ hi;have hW:=D3 d.head e k h1 hk s1;rw[hq];generalize ZZ d it e.at'=x at *;refine YX Try.func32 rfl Try.ntmps32 Try.results32 (Zu _ _) ?_;simp only[go_sem,Zj,doc,ent];refine vc2 (hR) ?_;simp only[go_sem];refine vc1 (hF) ?_;simp only[go_sem,ent,hs'];refine vDq ?_;simp only[go_sem];refine vc2 (hA') ?_;simp only[go_sem,j0,jz,Vz hj,fld];refine vc2 (hfit) ?_;simp only[go_sem,hi'];refine vDq ?_;simp only[go_sem];refine vc1 (hW) ?_;simp only[go_sem,Zt];rfl
  ·rw[hfe]at hfit;have hq:Zb4 l d it e=(default,11):=by
    unfold Zb4;rw[if_neg (by rw[hr];simp),if_neg (by rw[s2];simp),hjF,if_pos hfe]
   rw[hq];generalize ZZ d it e.at'=x at *;refine YX Try.func32 rfl Try.ntmps32 Try.results32 (Zu _ _) ?_;simp only[go_sem,Zj,doc,ent];refine vc2 (hR) ?_;simp only[go_sem];refine vc1 (hF) ?_;simp only[go_sem,ent,hs'];refine vDq ?_;simp only[go_sem];refine vc2 (hA') ?_;simp only[go_sem,j0,jz,Vz hj,fld];refine vc2 (hfit) ?_;simp only[go_sem];rfl
  ·rw[hfe]at hfit;have hq:Zb4 l d it e=(⟨d.head,d.rows.set i ⟨it,(d.rows.getD i default).l.set k e⟩⟩,0):=by
    unfold Zb4;rw[if_neg (by rw[hr];simp),if_neg (by rw[s2];simp),hjF,if_neg (by rw[hfe];simp)];unfold Uz;rw[s2,if_neg (by simp),←s0'];simp only[Int.toNat_natCast]
   have hi':=TI hi;have hW:=D3 (d.rows.getD i default).l e k (h3 _ (Zg hii)) hk s1;have hRA:=XH d it (by rw[Zh];omega);have hRA':PL.Pure Try.prog 51 [doc d,.str it] (.int .i64 (i:Int)):=by rw[←s0];exact hRA
   have hcl:∀l:List Rw,∀p∈l.map row,p.ids= []:=fun l=>Yf YQ l
   have hrm:=Yv (show d.rows.length≤100000000000 by omega) (show 40≤1000 by omega);have i0:(0:Int)≤(i:Int):=by omega
   have iz:(i:Int)<(d.rows.length:Int):=by omega
   have hset:(d.rows.map row).set i (row ⟨it,(d.rows.getD i default).l.set k e⟩)=(d.rows.set i ⟨it,(d.rows.getD i default).l.set k e⟩).map row:=VZ;rw[hq];generalize ZZ d it e.at'=x at *;refine PL.Pure.of_p [51,54] Try.func32 (by decide) rfl Try.ntmps32 Try.results32 (by simp) (Zu _ _) ?_;simp only[go_sem,Zj,doc,ent];refine vc2 (hR) ?_;simp only[go_sem];refine vc1 (hF) ?_;simp only[go_sem,ent,hs'];refine vDq ?_;simp only[go_sem];refine vc2 (hA') ?_;simp only[go_sem,j0,jz,Vz hj,fld];refine vc2 (hfit) ?_;simp only[go_sem,hi'];refine⟨fun p hp=>by obtain⟨x,_,rfl⟩:=List.mem_map.1 hp;exact⟨rfl,rfl⟩,hcl _,fun p hp=>by rw[hcl _ p hp];simp,hrm,?_⟩;refine vc1 (hRA') ?_;simp only[go_sem];refine FJ 12 (by kernel_rfl) (by kernel_rfl) fun l1 hl1=> ?_
   simp only[List.take]at hl1;subst hl1;simp only[go_sem,i0,iz,ZB hii,row];refine vc1 (hW) ?_;simp only[go_sem,Zt];refine Zdc 12 (by kernel_rfl) fun l2 hl2=> ?_
   simp only[List.drop]at hl2;subst hl2;simp only[row,Zt]at hset;simp only[go_sem,i0,iz,ZB hii,row,hset];exact⟨_,rfl,Pub.tup2 (Pub.agg2w (.clean rfl) (Pub.vec0 (by simp) rfl (by simp) (hcl _))) (.clean rfl)⟩
open Go.PL Go.RowKit
section
variable {P:Program}
end
open Go.PL
end Go.Proofs.Ytmnibpgmcgdfpaa
