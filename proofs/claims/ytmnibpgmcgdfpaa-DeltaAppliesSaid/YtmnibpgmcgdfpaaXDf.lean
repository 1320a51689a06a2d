/- Contracts of functions and laws of this seat, each for every input that it names: lemmas of the proof. -/
import Derived.Test.YtmnibpgmcgdfpaaPlM
import Derived.Test.YtmnibpgmcgdfpaaXAa
import Derived.Test.YtmnibpgmcgdfpaaXAd
import Derived.Test.YtmnibpgmcgdfpaaXAn
import Derived.Test.YtmnibpgmcgdfpaaXBl
namespace Go.Proofs.Ytmnibpgmcgdfpaa
set_option maxHeartbeats 64000000
set_option maxRecDepth 20000
set_option linter.unusedVariables false
set_option linter.unusedSimpArgs false
open Go.PL
structure OkDd (d:Dc):Prop where
 h:d.head.length≤100000
 r:d.rows.length≤100000
 e:∀e∈d.head,e.l.length≤1000000
 s:∀r∈d.rows,r.l.length≤100000∧ ∀e∈r.l,e.l.length≤1000000
theorem OkDd.fine {d:Dc} (h:OkDd d):Vk d:=by
 have e:=Zh;refine⟨by have:=h.h;omega,by have:=h.r;omega,fun x hx=>by have:=h.e x hx;omega,fun r hr=>⟨by have:=(h.s r hr).1;omega,fun x hx=>by have:=(h.s r hr).2 x hx;omega⟩⟩
theorem XT {L:List Fd} {es:List En} (h:Zk L es=true):es.length=L.length:=by
 simp only[Zk,Bool.and_eq_true,decide_eq_true_eq]at h;exact h.1.symm
theorem Fz {m:List Fd} {d:Dc} (h:Zl m d=true):d.head.length=(Zi m 0).length∧d.rows.length≤400∧(∀r∈d.rows,r.l.length=(Zi m 1).length)∧(Zi m 0).length≤16∧(Zi m 1).length≤16:=by
 simp only[Zl,VA,Bool.and_eq_true,Bool.not_eq_true',decide_eq_false_iff_not,List.all_eq_true,List.mem_range]at h;obtain⟨⟨h1,h2,h3⟩,h4⟩:=h;have h16:=SH h1;have hs:∀sc,(Zi m sc).length≤16:=fun sc=>Nat.le_trans (List.length_filter_le _ _) h16
 refine⟨XT h3,by omega,fun r hr=> ?_,hs 0,hs 1⟩;obtain⟨i,hi,rfl⟩:=List.getElem_of_mem hr;have:=h4 i hi;simp only[YJ,Bool.and_eq_true]at this;have e1:=XT this.2;rw[Zb hi]at e1;exact e1
theorem VX (it:Str) (a b:List En):(Z2 it a b).length≤a.length:=Tw it a b a.length
theorem TM (x:PV) (l:List Rw):PL.cut (x::l.map row) 1 ((l.length+1:Nat):Int)=l.map row:=by
 have e:((l.length+1:Nat):Int).toNat=l.length+1:=by omega
 simp[PL.cut,e,List.take_of_length_le]
structure DiX (p q:List Rw) (h0:List Cg) where
 P:List Rw
 Q:List Rw
 acc:List Cg
 id:Nat
 hP:∀r∈P,r∈p
 hQ:∀r∈Q,r∈q
 hl:acc.length+16*(P.length+Q.length)≤16+16*(p.length+q.length)
 h:acc++Yg P Q=h0++Yg p q
 hid:id=25∨id=91∨id=121∨id=44
def ZaV (x:List Cg) (c:Int):PV:= .tup [Ym x,.int .i64 c]
theorem Sq (x:List Cg) (c:Int):(ZaV x c).dids= []:=by simp only[ZaV,PV.dids,PV.didsL,GQ,List.append_nil]
theorem D1 (l:List Fd) (a b:Dc) (hl:l.length≤maxLen) (hl':∀f∈l,f.cases'.length≤1000000) (ha:OkDd a) (hb:OkDd b):
  PL.Pure Try.prog 19 [Zj l,doc a,doc b] (ZaV (DM l a b).1 (DM l a b).2):=by
 have hRa:=XE l a hl hl' ha.fine;have hRb:=XE l b hl hl' hb.fine;unfold DM;cases hra:Zl l a
 ·rw[hra]at hRa;rw[if_pos (.inl rfl)];refine YX Try.func19 rfl Try.ntmps19 Try.results19 (Sq _ _) ?_;simp only[go_sem,Zj,doc];refine Zg7 ?_;simp only[go_sem];refine vc2 (hRa) ?_;simp only[go_sem,ZaV,Ym]
 ·cases hrb:Zl l b
  ·rw[hra]at hRa;rw[hrb]at hRb;rw[if_pos (.inr rfl)];refine YX Try.func19 rfl Try.ntmps19 Try.results19 (Sq _ _) ?_;simp only[go_sem,Zj,doc];refine Zg7 ?_;simp only[go_sem];refine vc2 (hRa) ?_;simp only[go_sem,ZaV,Ym];refine vc2 (hRb) ?_;simp only[go_sem,ZaV,Ym]
  ·rw[hra]at hRa;rw[hrb]at hRb;rw[if_neg (by simp)];obtain⟨a1,a2,a3,a4,a5⟩:=Fz hra;obtain⟨b1,b2,b3,_,_⟩:=Fz hrb;have hO:=ZeK [] a.head b.head ha.h (by omega) ha.e hb.e;refine YX Try.func19 rfl Try.ntmps19 Try.results19 (Sq _ _) ?_;simp only[go_sem,Zj,doc];refine ZkK (ι:=DiX a.rows b.rows (Z2 [] a.head b.head)) 124 (fun x=> [(8,.sl (.row x.id) (x.acc.map chg)),(9,.sl .no (x.P.map row)),(10,.sl .no (x.Q.map row))]) (fun x=> []) (fun x=> [(x.id,.live x.acc.length 13 30)]) (fun x=>x.P.length+x.Q.length) 0 _ (by exact rfl) (fun x=>⟨Fc3 (by simp[PV.ids,ZV]) rfl rfl,fnl⟩) (fun x=> ?_) (fun cut=> ?_)
   ·obtain⟨P,Q,acc,id,hP,hQ,hl,h,hid⟩:=x;simp only;cases P with
    |nil=>
     cases Q with
     |nil=>
      rw[Yg,List.append_nil]at h;rw[←h];simp only[go_sem,ZaV,Ym]
     |cons q qs=>
      have r0:(0:Int)≤0:=by omega
      have hml:(acc.map chg).length=acc.length:=List.length_map _;have hsz:=XA acc;have hrm:=XC (show acc.length+1≤1000000 by have:=Nat.zero_le;simp only[List.length_cons,List.length_nil]at hl;omega) (show 192≤1000 by omega);have hl0:True:=trivial;have hg0:True:=trivial;have kl0:(((qs.length+1:Nat):Int)==0)=false:=by simp;omega
      have kg0:(0:Int)<((qs.length+1:Nat):Int):=by omega
      have ks1:(1:Int)≤((qs.length+1:Nat):Int):=by omega
      have ksr:=Yq qs;have hO2:=Vo q.l (hb.s q (hQ q (by simp))).1 (hb.s q (hQ q (by simp))).2;simp only[go_sem,row,hl0,hg0,kl0,kg0,r0];refine vDq ?_;simp only[go_sem,row,hl0,hg0,kl0,kg0,r0];refine vDq ?_;simp only[go_sem,row,hl0,hg0,kl0,kg0,r0];refine vDq ?_;simp only[go_sem,row,hl0,hg0,kl0,kg0,r0];refine vc1 (hO2) ?_;rcases hid with rfl|rfl|rfl|rfl
      all_goals
       simp only[go_sem,row,hl0,hg0,kl0,kg0,r0,Zt,hml,hsz,hrm,Ye,YK,Int.le_refl,TM,ks1,ksr];exact⟨⟨[],qs,acc++ [S5 q],121,hP,fun x hx=>hQ x (by simp[hx]),by simp only[List.length_append,List.length_cons,List.length_nil]at hl ⊢;omega,by rw[←h,Yg,List.append_assoc];rfl,.inr (.inr (.inl rfl))⟩,by show _+qs.length<_+(q::qs).length;simp only[List.length_cons];omega,⟨rfl,Fc3 (by show PV.sl _ _=PV.sl _ _;rw[List.map_append];rfl) rfl rfl,fnl,fcs (by show some (Row.live _ 13 _)=some (Row.live _ 13 _);rw[List.length_append];rfl) fnl⟩⟩
    |cons r ps=>
     cases Q with
     |nil=>
      have r0:(0:Int)≤0:=by omega
      have hml:(acc.map chg).length=acc.length:=List.length_map _;have hsz:=XA acc;have hrm:=XC (show acc.length+1≤1000000 by have:=Nat.zero_le;simp only[List.length_cons,List.length_nil]at hl;omega) (show 192≤1000 by omega);have hl0:(((ps.length+1:Nat):Int)==0)=false:=by simp;omega
      have hg0:(0:Int)<((ps.length+1:Nat):Int):=by omega
      have hs1:(1:Int)≤((ps.length+1:Nat):Int):=by omega
      have hsr:=Yq ps;have kl0:True:=trivial;have kg0:True:=trivial;have hO1:=Vo r.l (ha.s r (hP r (by simp))).1 (ha.s r (hP r (by simp))).2;simp only[go_sem,row,hl0,hg0,kl0,kg0,r0];refine vDq ?_;simp only[go_sem,row,hl0,hg0,kl0,kg0,r0];refine vDq ?_;simp only[go_sem,row,hl0,hg0,kl0,kg0,r0];refine vc1 (hO1) ?_;rcases hid with rfl|rfl|rfl|rfl
      all_goals
       simp only[go_sem,row,hl0,hg0,kl0,kg0,r0,Zt,hml,hsz,hrm,Ye,YK,Int.le_refl,TM,hs1,hsr];exact⟨⟨ps,[],acc++ [Zaz r],91,fun x hx=>hP x (by simp[hx]),hQ,by simp only[List.length_append,List.length_cons,List.length_nil]at hl ⊢;omega,by rw[←h,Yg,List.append_assoc];rfl,.inr (.inl rfl)⟩,by show ps.length+_<(r::ps).length+_;simp only[List.length_cons];omega,⟨rfl,Fc3 (by show PV.sl _ _=PV.sl _ _;rw[List.map_append];rfl) rfl rfl,fnl,fcs (by show some (Row.live _ 13 _)=some (Row.live _ 13 _);rw[List.length_append];rfl) fnl⟩⟩
     |cons q qs=>
      have r0:(0:Int)≤0:=by omega
      have hml:(acc.map chg).length=acc.length:=List.length_map _;have hsz:=XA acc;have hrm:=XC (show acc.length+1≤1000000 by have:=Nat.zero_le;simp only[List.length_cons,List.length_nil]at hl;omega) (show 192≤1000 by omega);have hl0:(((ps.length+1:Nat):Int)==0)=false:=by simp;omega
      have hg0:(0:Int)<((ps.length+1:Nat):Int):=by omega
      have hs1:(1:Int)≤((ps.length+1:Nat):Int):=by omega
      have hsr:=Yq ps;have kl0:(((qs.length+1:Nat):Int)==0)=false:=by simp;omega
      have kg0:(0:Int)<((qs.length+1:Nat):Int):=by omega
      have ks1:(1:Int)≤((qs.length+1:Nat):Int):=by omega
      have ksr:=Yq qs;have hO1:=Vo r.l (ha.s r (hP r (by simp))).1 (ha.s r (hP r (by simp))).2;have hO2:=Vo q.l (hb.s q (hQ q (by simp))).1 (hb.s q (hQ q (by simp))).2;cases c1:Zq r.item q.item
      ·cases c2:Zq q.item r.item
       ·have hO3:=ZcI q.item r.l q.l (ha.s r (hP r (by simp))).1 (by rw[a3 r (hP r (by simp)),b3 q (hQ q (by simp))];exact Nat.le_refl _) (ha.s r (hP r (by simp))).2 (hb.s q (hQ q (by simp))).2;have hol:=VX q.item r.l q.l;have ha3:=a3 r (hP r (by simp));rw[Yg,if_neg (by rw[c1];simp),if_neg (by rw[c2];simp)]at h;have hos:=XA (Z2 q.item r.l q.l);have hoa:=ZaO (Z2 q.item r.l q.l);have hom:((Z2 q.item r.l q.l).map chg).length=(Z2 q.item r.l q.l).length:=List.length_map _;have hro:=XC (show acc.length+(Z2 q.item r.l q.l).length≤1000000 by simp only[List.length_cons,List.length_nil]at hl;omega) (show 192≤1000 by omega);simp only[go_sem,row,hl0,hg0,kl0,kg0,r0,c1,c2];refine vDq ?_;simp only[go_sem,row,hl0,hg0,kl0,kg0,r0,c1,c2];refine vDq ?_;simp only[go_sem,row,hl0,hg0,kl0,kg0,r0,c1,c2];refine vDq ?_;simp only[go_sem,row,hl0,hg0,kl0,kg0,r0,c1,c2];refine vc1 (hO3) ?_;rcases hid with rfl|rfl|rfl|rfl
        all_goals
         simp only[go_sem,row,hl0,hg0,kl0,kg0,r0,c1,c2,Ym,hml,hsz,hos,hoa,hom,hro,Ye,YK];refine vDq ?_;simp only[go_sem,row,hl0,hg0,kl0,kg0,r0,c1,c2,Int.le_refl,TM,hs1,hsr,ks1,ksr];exact⟨⟨ps,qs,acc++Z2 q.item r.l q.l,44,fun x hx=>hP x (by simp[hx]),fun x hx=>hQ x (by simp[hx]),by simp only[List.length_append,List.length_cons,List.length_nil]at hl ⊢;omega,by rw[←h,List.append_assoc],.inr (.inr (.inr rfl))⟩,by show ps.length+qs.length<(r::ps).length+(q::qs).length;simp only[List.length_cons];omega,⟨rfl,Fc3 (by show PV.sl _ _=PV.sl _ _;rw[List.map_append]) rfl rfl,fnl,fcs (by show some (Row.live _ 13 _)=some (Row.live _ 13 _);rw[List.length_append]) fnl⟩⟩
       ·rw[Yg,if_neg (by rw[c1];simp),if_pos c2]at h;simp only[go_sem,row,hl0,hg0,kl0,kg0,r0,c1,c2];refine vDq ?_;simp only[go_sem,row,hl0,hg0,kl0,kg0,r0,c1,c2];refine vDq ?_;simp only[go_sem,row,hl0,hg0,kl0,kg0,r0,c1,c2];refine vDq ?_;simp only[go_sem,row,hl0,hg0,kl0,kg0,r0,c1,c2];refine vc1 (hO2) ?_;rcases hid with rfl|rfl|rfl|rfl
        all_goals
         simp only[go_sem,row,hl0,hg0,kl0,kg0,r0,c1,c2,Zt,hml,hsz,hrm,Ye,YK,Int.le_refl,TM,hs1,hsr,ks1,ksr];exact⟨⟨r::ps,qs,acc++ [S5 q],121,hP,fun x hx=>hQ x (by simp[hx]),by simp only[List.length_append,List.length_cons,List.length_nil]at hl ⊢;omega,by rw[←h,List.append_assoc];rfl,.inr (.inr (.inl rfl))⟩,by show _+qs.length<_+(q::qs).length;simp only[List.length_cons];omega,⟨rfl,Fc3 (by show PV.sl _ _=PV.sl _ _;rw[List.map_append];rfl) rfl rfl,fnl,fcs (by show some (Row.live _ 13 _)=some (Row.live _ 13 _);rw[List.length_append];rfl) fnl⟩⟩
      ·rw[Yg,if_pos c1]at h;simp only[go_sem,row,hl0,hg0,kl0,kg0,r0,c1];refine vDq ?_;simp only[go_sem,row,hl0,hg0,kl0,kg0,r0,c1];refine vDq ?_;simp only[go_sem,row,hl0,hg0,kl0,kg0,r0,c1];refine vc1 (hO1) ?_;rcases hid with rfl|rfl|rfl|rfl
       all_goals
        simp only[go_sem,row,hl0,hg0,kl0,kg0,r0,c1,Zt,hml,hsz,hrm,Ye,YK,Int.le_refl,TM,hs1,hsr,ks1,ksr];exact⟨⟨ps,q::qs,acc++ [Zaz r],91,fun x hx=>hP x (by simp[hx]),hQ,by simp only[List.length_append,List.length_cons,List.length_nil]at hl ⊢;omega,by rw[←h,List.append_assoc];rfl,.inr (.inl rfl)⟩,by show ps.length+_<(r::ps).length+_;simp only[List.length_cons];omega,⟨rfl,Fc3 (by show PV.sl _ _=PV.sl _ _;rw[List.map_append];rfl) rfl rfl,fnl,fcs (by show some (Row.live _ 13 _)=some (Row.live _ 13 _);rw[List.length_append];rfl) fnl⟩⟩
   ·simp only[go_sem];refine vc2 (hRa) ?_;simp only[go_sem];refine vc2 (hRb) ?_;simp only[go_sem];refine Zi1 25 hO (by simp[PV.ids,Zt]) rfl ?_ ?_
    ·simp only[go_sem,Zt]
    ·simp only[go_sem];refine vDq ?_;simp only[go_sem];refine FY (cut ⟨a.rows,b.rows,Z2 [] a.head b.head,25,fun _ h=>h,fun _ h=>h,?_,rfl,.inl rfl⟩ _ ⟨rfl,Fc3 rfl rfl rfl,fnl,fcs rfl fnl⟩);have:=VX [] a.head b.head;omega
end Go.Proofs.Ytmnibpgmcgdfpaa
