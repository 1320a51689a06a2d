/- Lemmas of the proof. -/
import Derived.Test.YtepchngegclagaaGreatPlH
import Derived.Test.YtepchngegclagaaGreatXAa
import Derived.Test.YtepchngegclagaaGreatXAh
import Derived.Test.YtepchngegclagaaGreatXAn
import Derived.Test.YtepchngegclagaaGreatXAz
import Derived.Test.YtepchngegclagaaGreatXBd
import Derived.Test.YtepchngegclagaaGreatXCc
set_option maxHeartbeats 64000000
set_option maxRecDepth 20000
set_option linter.unusedVariables false
set_option linter.unusedSimpArgs false
open Inhabited renaming default→Jd
open Bool renaming true→Ht,false→Hf
open Go.Proofs.Tryz
open Go Go.PL
open Bool renaming false_eq_true→Ja,and_eq_true→Jb,true_eq_false→Je,true_and→JD,or_false→JF,not_eq_true'→JJ,or_self→JN,or_true→JO,true_or→JP
open Int renaming natCast_nonneg→Jj,reduceBEq→Ju
open List renaming length_append→Jc,mem_filter→Jf,Nodup→Jg,mem_map→Jh,append_nil→Ji,filter_append→Jk,findIdx?_eq_some_iff_getElem→Jm,all_eq_true→Jo,any_eq_true→Jp,map_cons→Jq,length_map→Jr,map_append→Js,getD_eq_getElem?_getD→Jt,sublist_append_left→Jv,length_filter_le→Jw,mem_range→Jy,getElem_of_mem→JA,mergeSort_perm→JB,filter_sublist→JC,mem_cons→JE,mem_singleton→JG,filter_filter→JH,append_assoc→JI,length_take→JK,take_length→JL,take_zero→JM,map_nil→JQ
open Nat renaming zero_le→Jl
open PV renaming ids→Jn,idsL→Jz,givableL→JR
namespace Go.Proofs.YtepchngegclagaaGreat
open Go.PL
structure OkDd (d:Dc):Prop where
 h:d.head.length<=100000
 r:d.rows.length<=100000
 e:∀e∈d.head,e.l.length<=1000000
 s:∀r∈d.rows,r.l.length<=100000/\ ∀e∈r.l,e.l.length<=1000000
structure DiX (p q:List Rw) (h0:List Cg) where
 P:List Rw
 Q:List Rw
 acc:List Cg
 id:Nat
 hP:∀r∈P,r∈p
 hQ:∀r∈Q,r∈q
 hl:acc.length+16*(P.length+Q.length)<=16+16*(p.length+q.length)
 h:acc++ZbD P Q=h0++ZbD p q
 hid:id=25\/id=91\/id=121\/id=44
open Go.PL
def opc (x:Opn×Int):PV:= .tup [opv x.1,.int .i64 x.2]
theorem Ds (x:Opn×Int):(opc x).dids= []:=by simp only[opc,PV.dids,PV.didsL,TA,Ji]
def findP (m:List Opn) (t:Tg):Opn×Int:=if F5 (VM m) t=Ht then((Yl m (t.r-1).toNat).getD (t.n-1).toNat Jd,0)else(Jd,6)
theorem Zhf (m:List Opn) (t:Tg) (ho:∀o∈m,OkOp o):Pp 57 [.rptr (m6 m),tg t] (opc (findP m t)):=by
 have hH:=S6 m;have hV:=ZcP (VM m) (VX m) t;have hv:=VX m;cases hb:F5 (VM m) t;rw[hb]at hV;have hf:findP m t=(Jd,6):=by simp[findP,hb]
 rw[hf];refine ZM func57 rfl ntmps57 results57 (Ds _) ?_;simp only[go_sem,tg];refine vDq ?_;simp only[go_sem];refine vc1 hH ?_;simp only[go_sem,hv,SU hv];refine vc9 hV ?_;simp only[go_sem,opc,Zi];rw[hb]at hV;have hf:findP m t=((Yl m (t.r-1).toNat).getD (t.n-1).toNat Jd,0):=by simp[findP,hb]
 rw[hf];have hb':=hb;simp only[F5,Jb,decide_eq_true_eq]at hb';obtain⟨h1,h2⟩:=hb';obtain⟨e1,e2,e3,e4,e5⟩:=Zce h1;rw[Xa m e4]at h2;have h1':=h1;simp only[Wy,Jb,decide_eq_true_eq]at h1';have n1:IntKind.i64.wrap (t.n-1)=t.n-1:=w64 (by omega);have n0:0<=t.n-1:=by omega
 have nl:(t.n-1).toNat<(Yl m (t.r-1).toNat).length:=by omega
 have nI:t.n-1<((Yl m (t.r-1).toNat).length:Int):=by omega
 have hO:=T9 _ (ho _ (Uj.1 (Zy (d:=Jd) nl)).1);have hg:=ZI nl;have h6:(List.drop (t.r-1).toNat (m6 m)).getD 0 .any=Zr (Yl m (t.r-1).toNat):=by rw[Y1,Nat.add_zero];exact ZbI m e4
 have e6:1<=6-(t.r-1).toNat:=by omega
 generalize (Yl m (t.r-1).toNat).getD (t.n-1).toNat Jd=x at *;refine ZM func57 rfl ntmps57 results57 (Ds _) ?_;simp only[go_sem,tg];refine vDq ?_;simp only[go_sem];refine vc1 hH ?_;simp only[go_sem,hv,SU hv];refine vc9 hV ?_;simp only[go_sem];refine vDq ?_;simp only[go_sem,GX,e1,e2,e3,e4,e5,e6,n1,n0,nl,nI,h6,Zr,List.length_drop,hg,opv];refine vc6 hO ?_;simp only[go_sem,opc,opv]
theorem ZjB {t:Tg}:F5 [0,0,0,0,0,0] t=false:=by
 cases h:Wy t;simp[F5,h];have h1:=h;simp only[Wy,Jb,decide_eq_true_eq]at h1;obtain⟨_,_,_,e4,_⟩:=Zce h;have:([0,0,0,0,0,0]:List Int).getD (t.r-1).toNat 0=0:=by
  generalize (t.r-1).toNat=i at e4;match i,e4 with
  |0,_=>rfl
  |1,_=>rfl
  |2,_=>rfl
  |3,_=>rfl
  |4,_=>rfl
  |5,_=>rfl
 simp only[F5,h,this,JD,decide_eq_false_iff_not];omega
theorem Zey (m:List Opn) (hm:PoolOk m) (ho:∀o∈m,OkOp o):Pp 63 [.rptr (m6 m),FW [0,0,0,0,0,0],.int .i64 400] (Zr (X6 m)):=by
 have hl:=hm.l;have hlen:∀k,k<6-> ∀j,j<=(Yl m k).length->(Zc1 m k++(Yl m k).take j).length<=400:=λk hk j hj=>by
  have:=Zjd hm (k:=k+1) (by omega);rw[Sl,Jc]at this;rw[Jc,JK];omega
 refine ZM func63 rfl ntmps63 results63 (U1 _) ?_;simp only[go_sem,FW,GX,ZfH];refine Y6 7 41 15 48 rfl rfl ?_;refine Zz (ι:= { k:Nat // k<=6 }) 45 (λx=> [(2,.int .i64 400),(4,.ptr 4 0),(7,.sl (.row 41) ((Zc1 m x.1).map opv)),(17,.agg (m6 m)),(18,.int .i64 (x.1:Int))]) (λx=> [(4,[.int .i64 0,.int .i64 0,.int .i64 0,.int .i64 0,.int .i64 0,.int .i64 0],Hf)]) (λx=> [(41,.live (Zc1 m x.1).length 15 48)]) (λx=>6-x.1) ⟨0,by omega⟩
  ⟨rfl,Fc5 rfl rfl rfl rfl rfl,fcs ⟨rfl,rfl⟩ fnl,(fcs rfl fnl)⟩ (λx=>⟨Fc5 rfl rfl (by simp[Jn,ZN]) (by rw[Jn,ZbM];rfl) rfl,fcs rfl fnl⟩) (λx=> ?_)
 obtain⟨k,hk⟩:=x;simp only;by_cases h:(k:Int)<6;have k6:k<6:=by omega
 have k0:=Jj k
 have k5:k<=5:=by omega
 have w1:=wk9 (k:=k) (by omega)
 have hlk:=hlen k k6;have hor:∀o∈Yl m k,OkOp o:=λo h=>ho o (Uj.1 h).1
 have h6:=ZbI m k6;have hcs:=Sl m k;generalize hR:Yl m k=R at *;generalize hC:Zc1 m k=C at *;simp only[go_sem,h,k0,k5,GX,h6,Zr];refine Zz (ι:= { j:Nat // j<=R.length }) 45 (λx=> [(2,.int .i64 400),(4,.ptr 4 0),(7,.sl (.row 41) ((C++R.take x.1).map opv)),(17,.agg (m6 m)),(18,.int .i64 (k:Int)),(21,Zr R),(22,.int .i64 (R.length:Int)),(23,.int .i64 (x.1:Int))]) (λx=> [(4,[.int .i64 0,.int .i64 0,.int .i64 0,.int .i64 0,.int .i64 0,.int .i64 0],Hf)]) (λx=> [(41,.live (C++R.take x.1).length 15 48)]) (λx=>R.length-x.1) ⟨0,Jl _⟩
  ⟨rfl,by simp only[JM,Ji];exact(Fc8 rfl rfl rfl rfl rfl rfl rfl rfl),fcs ⟨rfl,rfl⟩ fnl,by simp only[JM,Ji];exact(fcs rfl fnl)⟩ (λx=>⟨Fc8 rfl rfl (by simp[Jn,ZN]) (by rw[Jn,ZbM];rfl) rfl rfl rfl rfl,fcs rfl fnl⟩) (λx=> ?_)
 obtain⟨j,hj⟩:=x;simp only;by_cases h2:(j:Int)<(R.length:Int);have hja:j<R.length:=by omega
 have j0:=Jj j
 have w2:IntKind.i64.wrap ((j:Int)+1)=((j+1:Nat):Int):=by
  have:=hlk (j+1) hja;rw[Jc,JK]at this;rw[w64 (by omega)];rfl
 have hO:=T9 _ (hor _ (Zy (d:=Jd) hja));have hH:=ZcP [0,0,0,0,0,0] rfl (R.getD j Jd).id;rw[ZjB]at hH;have hgd:=ZI hja;have hsn:=ZT (d:=Jd) hja;have hlt:¬(400:Int)<=((C++R.take j).length:Int):=by
  have:=hlk (j+1) hja;rw[hsn,<-JI,Jc]at this;simp only[List.length_cons,List.length_nil]at this;omega
 have hrm:=YV (show(C++R.take j).length+1<=1000000 by have:=hlk j hj;omega) (show 176<=1000 by omega);have hml:((C++R.take j).map opv).length=(C++R.take j).length:=Jr _;have hsz:=Yt (C++R.take j);generalize hx:R.getD j Jd=x at *;have hsx:Sized 15 [opv x]:=Yt [x];have hax:XQ [opv x]:=Wj [x];generalize hT:R.take j=T at *;have e2:C++R.take (j+1)=(C++T)++ [x]:=by rw[hsn,JI]
 generalize C++T=CT at *;simp only[opv]at hsx hax;simp only[go_sem,h2,Zr,hgd,opv,j0,hlt,hml];refine vc9 hH ?_;simp only[go_sem,opv];refine vc6 hO ?_;simp only[go_sem,opv,hml,hrm,hsz,hsx,hax,w2];exact⟨⟨j+1,by omega⟩,nx9 (by omega),⟨rfl,by simp only;rw[e2,Js];exact(Fc8 rfl rfl rfl rfl rfl rfl rfl rfl),fcs ⟨rfl,rfl⟩ fnl,by simp only;rw[e2,Jc];exact(fcs rfl fnl)⟩⟩;obtain rfl:j=R.length:=by omega
 simp only[go_sem,h2,JL,w1];exact⟨⟨k+1,k6⟩,by show 6-(k+1)<6-k;omega,⟨rfl,by simp only;rw[hcs];exact(Fc5 rfl rfl rfl rfl rfl),fcs ⟨rfl,rfl⟩ fnl,by simp only;rw[hcs];exact(fcs rfl fnl)⟩⟩;obtain rfl:k=6:=by omega
 simp only[go_sem,h,Zr];rfl
theorem DD (m:List Opn) (hm:PoolOk m) (ho:∀o∈m,OkOp o):Pp 22 [.rptr (m6 m)] (Zr (X6 m)):=by
 have hS:=Zey m hm ho;refine ZM func22 rfl ntmps22 results22 (U1 _) ?_;simp only[go_sem];refine vc9 hS ?_;simp only[go_sem,Zr]
open Go.PL
structure RAtS (l:List Opn) where
 k:Nat
 hk:k<=l.length
 id:Nat
 hid:id=27
def ixO (l:List Opn) (t:Tg):Int:=(l.findIdx? λo=>decide (o.id=t)).elim (-1) Int.ofNat
theorem Zar (l:List Opn) (t:Tg) (hl:l.length<=100000):Pp 84 [Zr l,tg t] (.int .i64 (ixO l t)):=by
 have hlm:l.length<=maxLen:=by rw[Zd];omega
 refine ZF func84 rfl ntmps84 results84 ?_;simp only[go_sem,Zr,tg];refine Zz (ι:= { x:Nat // x<=(l).length/\(∀j,j<x-> ¬(l.getD j Jd).id=t) }) 20 (λx=> [(0,Zr l),(3,.ptr 3 0),(5,.int .i64 (x.1:Int))]) (λx=> [(3,[.int .i64 t.r,.int .i64 t.n],Hf)]) (λx=> []) (λx=>(l).length-x.1) ⟨0,Jl _,λj hj=>absurd hj (Nat.not_lt_zero j)⟩ ⟨rfl,(Fc3 rfl rfl rfl),(fcs ⟨rfl,rfl⟩ fnl),fnl⟩ (λx=>⟨(Fc3 rfl rfl rfl),(fcs rfl fnl)⟩) (λx=> ?_);obtain⟨k,hk,hI⟩:=x;simp only at hk hI ⊢;by_cases h:(k:Int)<(l.length:Int)
 (have hka:k<(l).length:=by omega);(have w1:=Vt hka (hlm));(have i1:=Jj k)
 by_cases he:(l.getD k Jd).id=t;have hix:ixO l t=(k:Int):=by
  unfold ixO;rw[show l.findIdx? (λo=>decide (o.id=t))=some k from Jm.2 ⟨hka,by rw[<-getD_lt (d:=Jd) hka];simpa using he,λj hj=>by rw[<-getD_lt (d:=Jd) (by omega)];simpa using hI j hj⟩];rfl
 simp only[go_sem,Zr,h];refine vDq ?_;simp only[go_sem,Zr,h,ZI hka,opv,i1,tg,ZB,he,hix]
 ·simp only[go_sem,Zr,h];refine vDq ?_;simp only[go_sem,Zr,h,ZI hka,opv,i1,tg,ZB,he,w1];exact⟨⟨k+1,by(try simp only);omega,Zn hI he⟩,by show(l).length-(k+1)<(l).length-k;omega,⟨rfl,(Fc3 rfl rfl rfl),(fcs ⟨rfl,rfl⟩ fnl),fnl⟩⟩
 have hix:ixO l t= -1:=by
  unfold ixO;rw[List.findIdx?_eq_none_iff.2 λo ho=> ?_];rfl;obtain⟨j,hj,rfl⟩:=JA ho;have:=hI j (by omega);rw[getD_lt hj]at this;simpa using this
 simp only[go_sem,Zr,h,hix]
open Go.PL Go.PL.Srt
def six (m:List Opn):List (List PV):=(List.range 6).map λi=>(Yl m i).map opv
theorem ZoL (m:List Opn):(six m).length=6:=rfl
theorem Yo (m:List Opn):∀l∈six m,∀p∈l,p.ids= []:=λl hl=>by
 obtain⟨i,_,rfl⟩:=Jh.1 hl;exact YX XF _
theorem Zb6 (m:List Opn) {i:Nat} (h:i<6):(six m).getD i []=(Yl m i).map opv:=by
 unfold six;rw[getD_lt (by simpa using h)];simp
theorem ZoM (m:List Opn) {o:Opn} {i:Nat} (h:i<6) (ho:o.id.r=(i:Int)+1):(six m).set i ((Yl m i).map opv++ [opv o])=six (m++ [o]):=by
 refine List.ext_getElem (by rw[List.length_set];rfl) λj h1 h2=> ?_
 have hj:j<6:=h2;rw[<-getD_lt (d:= []),<-getD_lt (d:= []),Zb6 _ hj,ZdR,Js];by_cases e:i=j;subst e;rw[VW (by rw[ZoL];exact h),if_pos ho];rfl;rw[Xl e,Zb6 _ hj,if_neg (by omega)];simp
theorem ZG (m:List Opn):ZJ 2000 (six m)= [.sl (.row 2000) ((Yl m 0).map opv),.sl (.row 2001) ((Yl m 1).map opv),.sl (.row 2002) ((Yl m 2).map opv),.sl (.row 2003) ((Yl m 3).map opv),.sl (.row 2004) ((Yl m 4).map opv),.sl (.row 2005) ((Yl m 5).map opv)]:=rfl
theorem Zh (m:List Opn):ZO 15 48 2000 (six m)= [(2000,.live (Yl m 0).length 15 48),(2001,.live (Yl m 1).length 15 48),(2002,.live (Yl m 2).length 15 48),(2003,.live (Yl m 3).length 15 48),(2004,.live (Yl m 4).length 15 48),(2005,.live (Yl m 5).length 15 48)]:=by
 show [(2000,Row.live ((Yl m 0).map opv).length 15 _),(2001,.live ((Yl m 1).map opv).length 15 _),(2002,.live ((Yl m 2).map opv).length 15 _),(2003,.live ((Yl m 3).map opv).length 15 _),(2004,.live ((Yl m 4).map opv).length 15 _),(2005,.live ((Yl m 5).map opv).length 15 _)]=_;simp only[Jr]
abbrev Vj (m:List Opn):MemL:=YE 15 48 (six m)
theorem Zme (l:List Tg):((l.map tg).all λe=>e.cells.all PV.leaf)=true:=by
 rw[Jo];intro e he;obtain⟨t,_,rfl⟩:=Jh.1 he;rfl
theorem Zgh (x:Opn×Int):(opc x).flat=true:=by
 simp only[opc,opv,PV.flat,PV.flatL,tgs,Zme,Bool.and_self]
theorem Zlx (m:List Opn) (t:Tg) (ho:∀o∈m,OkOp o):Eff prog 57 [.ptr 1000 0,tg t] (Vj m) (opc (findP m t)) (Vj m):=
 .lend (Zhf m t ho) (Zgh _) (Yo m) (by simp[tg,Jn,Jz])
theorem Zn4 (m:List Opn) (hm:PoolOk m):Eff prog 15 [.ptr 1000 0] (Vj m) (.int .i64 (m.length:Int)) (Vj m):=
 .lend (ZcE m hm) rfl (Yo m) (by simp)
theorem Zb1 {s:St} {m:List Opn} {n:Int} {rs:List ResultVar} {ph:Nat->Nat} {pq:Nat->Option (Nat×Nat×Nat)} (hr:V9 prog (.int .i64 n) s [] rs) (hh:s.m.h 1000=some (ZJ 2000 (six m))) (hz:s.m.z 1000=Hf)
  (hq:∀x∈ZO 15 48 2000 (six m),s.m.q x.1=some x.2) (hph:s.m.ph 1000=some (ph 1000)) (hpq:∀x∈ZO 15 48 2000 (six m),s.m.pq x.1=pq x.1):
  ERet prog rs (.int .i64 n) (Vj m) (Vj m) ph pq s:=Zoi (Yo m) hr (.clean rfl) hh hz hq hph hpq
theorem ZjG {m:List Opn} {i:Nat} (o:Opn):∀p∈(Yl m i).map opv++ [opv o],p.ids= []:=λp hp=>by
 rcases List.mem_append.1 hp with hp|hp;exact YX XF _ p hp;rw[JG.1 hp];exact XF o
theorem i0c:((0:Nat):Int)=0:=rfl
theorem i1c:((1:Nat):Int)=1:=rfl
theorem i2c:((2:Nat):Int)=2:=rfl
theorem i3c:((3:Nat):Int)=3:=rfl
theorem i4c:((4:Nat):Int)=4:=rfl
theorem i5c:((5:Nat):Int)=5:=rfl
theorem DE (m:List Opn) (o:Opn) (hm:PoolOk m) (hom:∀x∈m,OkOp x) (ho:OkOp o):Eff prog 18 [.ptr 1000 0,opv o] (Vj m) (.int .i64 (X7 m o).2) (Vj (X7 m o).1):=by
 have hR:=Ua o (by rw[Zd];have:=ho.d;omega);rw[Du hm o];cases hr:Yk o;rw[hr]at hR;refine Eff.pl [] func18 (by decide) rfl ntmps18 results18 (by simp) (Yo m) (Yo m) rfl (by simp[Jn,XF]) rfl λph pq=> ?_
 simp only[go_sem,ZG,Zh,opv];refine vc6 hR ?_;simp only[go_sem];exact Zb1 rfl rfl rfl (by rw[Zh];exact(Fc6 rfl rfl rfl rfl rfl rfl)) rfl (by rw[Zh];exact(Fc6 rfl rfl rfl rfl rfl rfl));rw[hr]at hR;have ht:=SJ hr;have ht':=ht;simp only[Wy,Jb,decide_eq_true_eq]at ht';have hF:=Zlx m o.id hom;cases hb:F5 (VM m) o.id;have hf:findP m o.id=(Jd,6):=by simp[findP,hb]
 rw[hf]at hF;have hL:=Zn4 m hm;have hml:=hm.l;obtain⟨i,hi,hri⟩:∃i:Nat,i<6/\o.id.r=(i:Int)+1:=⟨(o.id.r-1).toNat,by omega,by omega⟩;have hi':(o.id.r-1).toNat=i:=by omega
 have e1:IntKind.i64.wrap (o.id.r-1)=(i:Int):=by rw[w64 (by omega)];omega
 have hrl:=SL m i;have w2:IntKind.i64.wrap (((Yl m i).length:Int)+1)=((Yl m i).length:Int)+1:=w64 (by omega);rw[hi'];by_cases hn:o.id.n=((Yl m i).length:Int)+1;have hne:(o.id.n !=((Yl m i).length:Int)+1)=false:=by rw[hn];simp
 by_cases hc:400<=m.length
 ·have hc':(400:Int)<=(m.length:Int):=by omega
  have hq:¬o.id.n≠((Yl m i).length:Int)+1:=λh=>h hn
  simp only[hq,hc,if_true,if_false,Je,Ja];obtain rfl|rfl|rfl|rfl|rfl|rfl:i=0\/i=1\/i=2\/i=3\/i=4\/i=5:=by omega
  all_goals
   refine Eff.pl [] func18 (by decide) rfl ntmps18 results18 (by simp) (Yo m) (Yo m) rfl (by simp[Jn,XF]) rfl λph pq=> ?_
   simp only[go_sem,ZG,Zh,opv];refine vc6 hR ?_;simp only[go_sem];refine YI hF rfl rfl (by rw[Zh];exact Fc6 ⟨rfl,rfl⟩ ⟨rfl,rfl⟩ ⟨rfl,rfl⟩ ⟨rfl,rfl⟩ ⟨rfl,rfl⟩ ⟨rfl,rfl⟩) (by simp only[go_sem,tg]) ?_;simp only[go_sem,opc,Zi];refine vDq ?_;simp only[go_sem,ZG,Zh,e1,i0c,i1c,i2c,i3c,i4c,i5c,w2,hne];refine YI hL rfl rfl (by rw[Zh];exact Fc6 ⟨rfl,rfl⟩ ⟨rfl,rfl⟩ ⟨rfl,rfl⟩ ⟨rfl,rfl⟩ ⟨rfl,rfl⟩ ⟨rfl,rfl⟩) (by simp only[go_sem]) ?_;simp only[go_sem,hc'];exact Zb1 rfl rfl rfl (by rw[Zh];exact(Fc6 rfl rfl rfl rfl rfl rfl)) rfl (by rw[Zh];exact(Fc6 rfl rfl rfl rfl rfl rfl))
 ·have hc':¬(400:Int)<=(m.length:Int):=by omega
  have hq:¬o.id.n≠((Yl m i).length:Int)+1:=λh=>h hn
  simp only[hq,hc,if_false,Je,Ja];have hO:=T9 o ho;have hrm:=YV (show(Yl m i).length+1<=1000000 by omega) (show 176<=1000 by omega);have hsz:=Yt (Yl m i);have hsx:Sized 15 [opv o]:=Yt [o];have hax:XQ [opv o]:=Wj [o];have hlt:((six m).getD i []).length<((Yl m i).map opv++ [opv o]).length:=by rw[Zb6 m hi];simp
  simp only[opv]at hsx hax;show Eff _ _ _ _ _ (YE 15 _ (six (m++ [o])));rw[<-ZoM m hi hri];obtain rfl|rfl|rfl|rfl|rfl|rfl:i=0\/i=1\/i=2\/i=3\/i=4\/i=5:=by omega
  all_goals
   refine Eff.plX _ 55 _ [] func18 (by decide) rfl ntmps18 results18 (by simp) hi (by decide) hlt (Yo m) (ZjG o) (by simp[Jn,XF]) rfl λph pq=> ?_
   simp only[go_sem,ZG,Zh,opv];refine vc6 hR ?_;simp only[go_sem];refine YI hF rfl rfl (by rw[Zh];exact Fc6 ⟨rfl,rfl⟩ ⟨rfl,rfl⟩ ⟨rfl,rfl⟩ ⟨rfl,rfl⟩ ⟨rfl,rfl⟩ ⟨rfl,rfl⟩) (by simp only[go_sem,tg]) ?_;simp only[go_sem,opc,Zi];refine vDq ?_;simp only[go_sem,ZG,Zh,e1,i0c,i1c,i2c,i3c,i4c,i5c,w2,hne];refine YI hL rfl rfl (by rw[Zh];exact Fc6 ⟨rfl,rfl⟩ ⟨rfl,rfl⟩ ⟨rfl,rfl⟩ ⟨rfl,rfl⟩ ⟨rfl,rfl⟩ ⟨rfl,rfl⟩) (by simp only[go_sem]) ?_;simp only[go_sem,hc'];refine vDq ?_;simp only[go_sem,ZG,Zh,opv];refine vc6 hO ?_;simp only[go_sem,opv,hrm,hsz,hsx,hax];exact Zmb (r0:= .int .i64 0) hi rfl (.clean rfl) rfl rfl (by simp only[Jc,Jr];rfl) (by rw[Zh];exact(Fc6 rfl rfl rfl rfl rfl rfl)) rfl (by rw[Zh];exact(Fc6 rfl rfl rfl rfl rfl rfl))
 ·have hne:(o.id.n !=((Yl m i).length:Int)+1)=true:=by simpa using hn
  have hq:o.id.n≠((Yl m i).length:Int)+1:=hn;rw[if_neg (by simp),if_neg (by simp),if_pos hq];obtain rfl|rfl|rfl|rfl|rfl|rfl:i=0\/i=1\/i=2\/i=3\/i=4\/i=5:=by omega
  all_goals
   refine Eff.pl [] func18 (by decide) rfl ntmps18 results18 (by simp) (Yo m) (Yo m) rfl (by simp[Jn,XF]) rfl λph pq=> ?_
   simp only[go_sem,ZG,Zh,opv];refine vc6 hR ?_;simp only[go_sem];refine YI hF rfl rfl (by rw[Zh];exact Fc6 ⟨rfl,rfl⟩ ⟨rfl,rfl⟩ ⟨rfl,rfl⟩ ⟨rfl,rfl⟩ ⟨rfl,rfl⟩ ⟨rfl,rfl⟩) (by simp only[go_sem,tg]) ?_;simp only[go_sem,opc,Zi];refine vDq ?_;simp only[go_sem,ZG,Zh,e1,i0c,i1c,i2c,i3c,i4c,i5c,w2,hne];exact Zb1 rfl rfl rfl (by rw[Zh];exact(Fc6 rfl rfl rfl rfl rfl rfl)) rfl (by rw[Zh];exact(Fc6 rfl rfl rfl rfl rfl rfl))
 have hf:findP m o.id=((Yl m (o.id.r-1).toNat).getD (o.id.n-1).toNat Jd,0):=by simp[findP,hb]
 rw[hf]at hF;have hxm:=(Sq (hm.found hb)).1;have hS:=Zaq ((Yl m (o.id.r-1).toNat).getD (o.id.n-1).toNat Jd) o (by rw[Zd];have:=(hom _ hxm).d;omega) (by rw[Zd];have:=ho.d;omega);rw[if_neg (by simp),if_pos rfl];generalize (Yl m (o.id.r-1).toNat).getD (o.id.n-1).toNat Jd=x at *;by_cases hx:x=o
 all_goals
  simp only[hx,if_true,if_false,decide_true,decide_false]at hS ⊢;refine Eff.pl [] func18 (by decide) rfl ntmps18 results18 (by simp) (Yo m) (Yo m) rfl (by simp[Jn,XF]) rfl λph pq=> ?_
  simp only[go_sem,ZG,Zh,opv];refine vc6 hR ?_;simp only[go_sem];refine YI hF rfl rfl (by rw[Zh];exact Fc6 ⟨rfl,rfl⟩ ⟨rfl,rfl⟩ ⟨rfl,rfl⟩ ⟨rfl,rfl⟩ ⟨rfl,rfl⟩ ⟨rfl,rfl⟩) (by simp only[go_sem,tg]) ?_;simp only[go_sem,opc,opv,hx];refine vc6 hS ?_;simp only[go_sem];exact Zb1 rfl rfl rfl (by rw[Zh];exact(Fc6 rfl rfl rfl rfl rfl rfl)) rfl (by rw[Zh];exact(Fc6 rfl rfl rfl rfl rfl rfl))
open Go.PL
def opE (o:Opn) (b:Bool):List PV:= [.int .i64 o.id.r,.int .i64 o.id.n,.int .i64 o.sch.r,.int .i64 o.sch.n,.int .i64 o.time,.str o.cart,.int .i64 o.kind,.str o.item,.int .i64 o.at'.sc,.str o.at'.gr,.str o.at'.nm,.int .i64 o.delta,.bool o.has,.str o.text,if b=Ht then .sl .no (o.drops.map tg)else .sl .nil []]
theorem Zv (o:Opn) (b:Bool):∀p∈opE o b,p.ids= []:=by cases b<;>simp[opE,Jn]
theorem Zgo (g:List Eg) (x:Mkr):Jz (YK g x)= []:=by simp[YK,Jz,Jn,tr,Zp,Zr]
theorem XZ (g:List Eg) (x:Mkr):∀p∈ [mkr g x,.ptr 1000 0],∀i∈p.ids,i= .b 1000:=by
 intro p hp i hi;simp only[JE,List.not_mem_nil,or_false]at hp;rcases hp with rfl|rfl;simp only[mkr,Jn,Zgo]at hi;cases hi;simpa[Jn]using hi
def GC (x:Mkr) (o:Opn):Opn:= { o with kind:=4,at':=x.d.at',item:=if(x.d.at'.sc==1)=Ht then x.d.item else o.item }
def WG (g:List Eg) (x:Mkr) (o:Opn):(Opn×Bool)×Int:=
 if(Z1 x).2≠0 then((o,Hf),(Z1 x).2)
 else if(x.d.kind==3)=Ht then(if(decide (1048576<x.d.n)||decide (x.d.n < -1048576))=Ht then((GC x o,Hf),3)else(({ GC x o with kind:=3,delta:=x.d.n },Hf),0))
 else if(x.d.kind==6)=Ht then(({ GC x o with drops:=Yp x.al (Zcf g x) },Ht),if(Yp x.al (Zcf g x)).isEmpty=Ht then 12 else 0)
 else if Da (Z1 x).1 x.d.text=Hf then((GC x o,Hf),5)
 else if(x.d.kind==4)=Ht then(({ GC x o with has:=Ht,text:=x.d.text,drops:=Yp x.al λq=>(GP g x q).2 },Ht),0)else(({ GC x o with has:=Ht,text:=x.d.text },Hf),0)
theorem Ze1 {l:List Fd} {r:Rf} {n:Nat} (h:∀f∈l,f.cases'.length<=n):(ZC l r).1.cases'.length<=n:=by
 unfold ZC;split;exact Jl _;by_cases hi:(idx (atF r) l).toNat<l.length;exact h _ (Zy hi);rw[Jt,List.getElem?_eq_none (by omega)];exact Jl _
theorem ZbA (cs:List PV):(∀m,JR m [.rptr cs])/\(∀m,PV.giveL m [.rptr cs]= [.rptr cs])/\Jz [.rptr cs]= []:=⟨λm=>⟨trivial,trivial⟩,λm=>rfl,rfl⟩
theorem Zh2 (g:List Eg) (x:Mkr) (o:Opn) (hm:OkM g) (hr:RightM g) (hl:x.al.length<=100000) (ho:∀q∈x.al,OkOp q) (hF:x.F.length<=100000) (hc:∀f∈x.F,f.cases'.length<=1000000):
  Eff prog 89 [mkr g x,.ptr 1000 0] (Zer (opE o Hf)) (.int .i64 (WG g x o).2) (Zer (opE (WG g x o).1.1 (WG g x o).1.2)):=by
 have hf:=ZhD g x (by rw[Zd];omega) hF hc;have hD1:=Tl g x 141 [.rptr (YK g x)] (Zcf g x) hl (λq hq=>ZdE g x q hm hr (ho q hq)) (ZbA _).1 (ZbA _).2.1 (ZbA _).2.2;have hD2:=Tl g x 143 [.rptr (YK g x)] (λq=>(GP g x q).2) hl (λq hq=>ZdF g x q hm hr (ho q hq)) (ZbA _).1 (ZbA _).2.1 (ZbA _).2.2;have hff:(Z1 x).1.cases'.length<=maxLen:=by
  unfold Z1;rw[Zd];have hfi:(ZC x.F x.d.at').1.cases'.length<=1000000:=Ze1 hc;repeat' split
  all_goals first|omega|exact Jl _|(simp only;omega)
 have hT:=Zam (Z1 x).1 x.d.text hff;unfold WG;generalize Z1 x=y at *;obtain⟨yf,yc⟩:=y;by_cases h0:yc=0
 ·subst h0;simp only[ne_eq,not_true_eq_false,if_false];generalize Yp x.al (Zcf g x)=D1 at *;generalize (Yp x.al λq=>(GP g x q).2)=D2 at *;have hz:((D1.length:Int)==0)=D1.isEmpty:=by cases D1<;>simp;omega
  cases hs:(x.d.at'.sc==1)<;>simp only[GC,hs,if_true,if_false,Ja]
  all_goals
   cases k3:(x.d.kind==3)
   ·cases k6:(x.d.kind==6)
    ·cases kf:Da yf x.d.text<;>rw[kf]at hT<;>simp only[if_true,if_false,Ja,Je]
     ·refine Eff.wb0 [] func89 (by decide) rfl ntmps89 results89 (by simp) (Zv _ _) (Zv _ _) (XZ g x) rfl λph pq=> ?_
      simp only[go_sem,mkr,YK,tr,Zp,Zr,opE];refine Zk hf ?_ ?_ ?_;iterate 2 simp only[go_sem,mkr,YK,tr,Zp,Zr]
      simp only[go_sem,VO,fld,mkr,YK,tr,Zp,Zr,hs,k3,k6];refine vc2 hT ?_;simp only[go_sem,VO,fld,mkr,YK,tr,Zp,Zr,hs,k3,k6,tgs];exact XV (Zv _ _) rfl (.clean rfl) rfl rfl rfl
     ·cases k4:(x.d.kind==4)<;>simp only[if_true,if_false,Ja]
      ·refine Eff.wb0 [] func89 (by decide) rfl ntmps89 results89 (by simp) (Zv _ _) (Zv _ _) (XZ g x) rfl λph pq=> ?_
       simp only[go_sem,mkr,YK,tr,Zp,Zr,opE];refine Zk hf ?_ ?_ ?_;iterate 2 simp only[go_sem,mkr,YK,tr,Zp,Zr]
       simp only[go_sem,VO,fld,mkr,YK,tr,Zp,Zr,hs,k3,k6,k4];refine vc2 hT ?_;simp only[go_sem,VO,fld,mkr,YK,tr,Zp,Zr,hs,k3,k6,k4,tgs];exact XV (Zv _ _) rfl (.clean rfl) rfl rfl rfl
      ·refine Eff.wb0 [] func89 (by decide) rfl ntmps89 results89 (by simp) (Zv _ _) (Zv _ _) (XZ g x) rfl λph pq=> ?_
       simp only[go_sem,mkr,YK,tr,Zp,Zr,opE];refine Zk hf ?_ ?_ ?_;iterate 2 simp only[go_sem,mkr,YK,tr,Zp,Zr]
       simp only[go_sem,VO,fld,mkr,YK,tr,Zp,Zr,hs,k3,k6,k4];refine vc2 hT ?_;simp only[go_sem,VO,fld,mkr,YK,tr,Zp,Zr,hs,k3,k6,k4,tgs];refine Zk hD2 ?_ ?_ ?_;iterate 2 simp only[go_sem,mkr,YK,tr,Zp,Zr]
       simp only[go_sem,VO,fld,mkr,YK,tr,Zp,Zr,hs,k3,k6,k4,tgs];exact XV (Zv _ _) rfl (.clean rfl) rfl rfl rfl
    ·cases ke:D1.isEmpty<;>rw[ke]at hz<;>simp only[if_true,if_false,Ja]
     ·refine Eff.wb0 [] func89 (by decide) rfl ntmps89 results89 (by simp) (Zv _ _) (Zv _ _) (XZ g x) rfl λph pq=> ?_
      simp only[go_sem,mkr,YK,tr,Zp,Zr,opE];refine Zk hf ?_ ?_ ?_;iterate 2 simp only[go_sem,mkr,YK,tr,Zp,Zr]
      simp only[go_sem,VO,fld,mkr,YK,tr,Zp,Zr,hs,k3,k6,hz];refine Zk hD1 ?_ ?_ ?_;iterate 2 simp only[go_sem,mkr,YK,tr,Zp,Zr]
      simp only[go_sem,VO,fld,mkr,YK,tr,Zp,Zr,hs,k3,k6,hz,tgs];exact XV (Zv _ _) rfl (.clean rfl) rfl rfl rfl
     ·refine Eff.wb0 [] func89 (by decide) rfl ntmps89 results89 (by simp) (Zv _ _) (Zv _ _) (XZ g x) rfl λph pq=> ?_
      simp only[go_sem,mkr,YK,tr,Zp,Zr,opE];refine Zk hf ?_ ?_ ?_;iterate 2 simp only[go_sem,mkr,YK,tr,Zp,Zr]
      simp only[go_sem,VO,fld,mkr,YK,tr,Zp,Zr,hs,k3,k6,hz];refine Zk hD1 ?_ ?_ ?_;iterate 2 simp only[go_sem,mkr,YK,tr,Zp,Zr]
      simp only[go_sem,VO,fld,mkr,YK,tr,Zp,Zr,hs,k3,k6,hz,tgs];exact XV (Zv _ _) rfl (.clean rfl) rfl rfl rfl
   ·cases v1:decide (1048576<x.d.n)<;>cases v2:decide (x.d.n < -1048576)<;>simp only[JN,JO,JF,JP,if_true,if_false,Ja]
    all_goals
     refine Eff.wb0 [] func89 (by decide) rfl ntmps89 results89 (by simp) (Zv _ _) (Zv _ _) (XZ g x) rfl λph pq=> ?_
     simp only[go_sem,mkr,YK,tr,Zp,Zr,opE];refine Zk hf ?_ ?_ ?_;iterate 2 simp only[go_sem,mkr,YK,tr,Zp,Zr]
     simp only[go_sem,VO,fld,mkr,YK,tr,Zp,Zr,hs,k3,v1,v2];exact XV (Zv _ _) rfl (.clean rfl) rfl rfl rfl
 simp only[ne_eq,h0,not_false_eq_true,if_true];have h0':(yc !=0)=true:=by simpa using h0
 refine Eff.wb0 [] func89 (by decide) rfl ntmps89 results89 (by simp) (Zv _ _) (Zv _ _) (XZ g x) rfl λph pq=> ?_
 simp only[go_sem,mkr,YK,tr,Zp,Zr,opE];refine Zk hf ?_ ?_ ?_;iterate 2 simp only[go_sem,mkr,YK,tr,Zp,Zr]
 simp only[go_sem,VO,fld,h0'];exact XV (Zv _ _) rfl (.clean rfl) rfl rfl rfl
open Go.PL
def Y9 (g:List Eg) (x:Mkr) (o:Opn):(Opn×Bool)×Int:=
 if(x.d.kind==1)=Ht then(if x.al.any (Vv x.d.item)=Ht then((o,Hf),7)else(({ o with kind:=1,item:=x.d.item },Hf),0))
 else if(x.d.kind==2)=Ht then(if x.al.any (Vv x.d.item)=Hf then((o,Hf),12)else(({ o with kind:=2,item:=x.d.item,drops:=Yp x.al λq=>q.item==x.d.item },Ht),0))
 else if(x.d.kind==7)=Ht then(({ o with kind:=5,drops:=Yp x.al λq=>q.item != [] },Ht),if(Yp x.al λq=>q.item != []).isEmpty=Ht then 12 else 0)
 else WG g x o
theorem Zod:(∀m,JR m [])/\(∀m,PV.giveL m []= [])/\Jz []= []:=⟨λm=>trivial,λm=>rfl,rfl⟩
theorem ZjZ (g:List Eg) (x:Mkr):(mkr g x).ids= []:=by rw[mkr,Jn,Zgo]
theorem Zmh (g:List Eg) (x:Mkr) (o:Opn) (hm:OkM g) (hr:RightM g) (hl:x.al.length<=100000) (ho:∀q∈x.al,OkOp q) (hF:x.F.length<=100000) (hc:∀f∈x.F,f.cases'.length<=1000000):
  Eff prog 38 [mkr g x,.ptr 1000 0] (Zer (opE o Hf)) (.int .i64 (Y9 g x o).2) (Zer (opE (Y9 g x o).1.1 (Y9 g x o).1.2)):=by
 have hH:=Zgm g x (by rw[Zd];omega);have hD1:=Tl g x 87 [.rptr (YK g x)] (λq=>q.item==x.d.item) hl (λq hq=>ZhM g x q) (ZbA _).1 (ZbA _).2.1 (ZbA _).2.2;have hD2:=Tl g x 88 [] (λq=>q.item != []) hl (λq hq=>ZhN q) Zod.1 Zod.2.1 Zod.2.2;have hP:=Zh2 g x o hm hr hl ho hF hc;unfold Y9;generalize (Yp x.al λq=>q.item==x.d.item)=D1 at *;generalize (Yp x.al λq=>q.item != [])=D2 at *;generalize x.al.any (Vv x.d.item)=hs at *;generalize WG g x o=pm at *;have hz:((D2.length:Int)==0)=D2.isEmpty:=by cases D2<;>simp;omega
 cases k1:(x.d.kind==1);simp only[Ja,if_false];cases k2:(x.d.kind==2);simp only[Ja,if_false];cases k7:(x.d.kind==7);simp only[Ja,if_false];refine Eff.wb0 [] func38 (by decide) rfl ntmps38 results38 (by simp) (Zv _ _) (Zv _ _) (XZ g x) rfl λph pq=> ?_
 simp only[go_sem,mkr,YK,tr,Zp,Zr,opE,k1,k2,k7];refine Zg0 1000 hP rfl (Zv _ _) (Zv _ _) rfl rfl (by rw[Jq,Vk _ (ZjZ g x)];simp only[go_sem,mkr,YK,tr,Zp,Zr,PV.ren,id]) ?_;simp only[go_sem];exact XV (Zv _ _) rfl (.clean rfl) rfl rfl rfl;cases ke:D2.isEmpty<;>rw[ke]at hz<;>simp only[if_true,if_false,Ja]
 ·refine Eff.wb0 [] func38 (by decide) rfl ntmps38 results38 (by simp) (Zv _ _) (Zv _ _) (XZ g x) rfl λph pq=> ?_
  simp only[go_sem,mkr,YK,tr,Zp,Zr,opE,k1,k2,k7,hz];refine Zk hD2 ?_ ?_ ?_;iterate 2 simp only[go_sem,mkr,YK,tr,Zp,Zr]
  simp only[go_sem,mkr,YK,tr,Zp,Zr,k1,k2,k7,hz,tgs];exact XV (Zv _ _) rfl (.clean rfl) rfl rfl rfl
 ·refine Eff.wb0 [] func38 (by decide) rfl ntmps38 results38 (by simp) (Zv _ _) (Zv _ _) (XZ g x) rfl λph pq=> ?_
  simp only[go_sem,mkr,YK,tr,Zp,Zr,opE,k1,k2,k7,hz];refine Zk hD2 ?_ ?_ ?_;iterate 2 simp only[go_sem,mkr,YK,tr,Zp,Zr]
  simp only[go_sem,mkr,YK,tr,Zp,Zr,k1,k2,k7,hz,tgs];exact XV (Zv _ _) rfl (.clean rfl) rfl rfl rfl
 cases hs<;>simp only[if_true,if_false,Ja,Je]
 ·refine Eff.wb0 [] func38 (by decide) rfl ntmps38 results38 (by simp) (Zv _ _) (Zv _ _) (XZ g x) rfl λph pq=> ?_
  simp only[go_sem,mkr,YK,tr,Zp,Zr,opE,k1,k2];refine Zk hH ?_ ?_ ?_;iterate 2 simp only[go_sem,mkr,YK,tr,Zp,Zr]
  simp only[go_sem,mkr,YK,tr,Zp,Zr,k1,k2,tgs];exact XV (Zv _ _) rfl (.clean rfl) rfl rfl rfl
 ·refine Eff.wb0 [] func38 (by decide) rfl ntmps38 results38 (by simp) (Zv _ _) (Zv _ _) (XZ g x) rfl λph pq=> ?_
  simp only[go_sem,mkr,YK,tr,Zp,Zr,opE,k1,k2];refine Zk hH ?_ ?_ ?_;iterate 2 simp only[go_sem,mkr,YK,tr,Zp,Zr]
  simp only[go_sem,mkr,YK,tr,Zp,Zr,k1,k2,tgs];refine Zk hD1 ?_ ?_ ?_;iterate 2 simp only[go_sem,mkr,YK,tr,Zp,Zr]
  simp only[go_sem,mkr,YK,tr,Zp,Zr,k1,k2,tgs];exact XV (Zv _ _) rfl (.clean rfl) rfl rfl rfl
 cases hs<;>simp only[if_true,if_false,Ja]
 ·refine Eff.wb0 [] func38 (by decide) rfl ntmps38 results38 (by simp) (Zv _ _) (Zv _ _) (XZ g x) rfl λph pq=> ?_
  simp only[go_sem,mkr,YK,tr,Zp,Zr,opE,k1];refine Zk hH ?_ ?_ ?_;iterate 2 simp only[go_sem,mkr,YK,tr,Zp,Zr]
  simp only[go_sem,mkr,YK,tr,Zp,Zr,k1,tgs];exact XV (Zv _ _) rfl (.clean rfl) rfl rfl rfl
 refine Eff.wb0 [] func38 (by decide) rfl ntmps38 results38 (by simp) (Zv _ _) (Zv _ _) (XZ g x) rfl λph pq=> ?_
 simp only[go_sem,mkr,YK,tr,Zp,Zr,opE,k1];refine Zk hH ?_ ?_ ?_;iterate 2 simp only[go_sem,mkr,YK,tr,Zp,Zr]
 simp only[go_sem,mkr,YK,tr,Zp,Zr,k1,tgs];exact XV (Zv _ _) rfl (.clean rfl) rfl rfl rfl
open Go.PL
def alC (g:List Eg) (m:List Opn) (cart:Str):List Opn:=(UE g (X6 m)).filter λo=>o.cart==cart
def Xo (g:List Eg) (m:List Opn) (own:Tg) (d:De):Mkr:=⟨own,(Y0 (Zc g) own).1,alC g m d.cart,d⟩
def mk0 (m:List Opn) (me:Int) (own:Tg) (d:De):Opn:=⟨⟨me,((Yl m (me-1).toNat).length:Int)+1⟩,own,clk (X6 m)+1,d.cart,0,[],⟨0,[],[]⟩,0,Hf,[],[]⟩
def Zoa (me:Int) (d:De):Bool:=decide (me<1)||(decide (6<me)||(decide (d.kind<1)||decide (7<d.kind)))
def Wt (g:List Eg) (m:List Opn) (me:Int) (own:Tg) (d:De):Opn×Int:=
 if Zoa me d=Ht then(Jd,2)
 else if(Y0 (Zc g) own).2≠0 then(Jd,(Y0 (Zc g) own).2)
 else if ZL d.cart=Hf then(Jd,5)
 else if((d.kind==1||d.kind==2)&& !ZL d.item)=Ht then(Jd,5)
 else if 400<=(m.length:Int)then(Jd,9)
 else if 1099511627776<=clk (X6 m)then(Jd,3)
 else if(Y9 g (Xo g m own d) (mk0 m me own d)).2≠0 then(Jd,(Y9 g (Xo g m own d) (mk0 m me own d)).2)
 else if 60<((Y9 g (Xo g m own d) (mk0 m me own d)).1.1.drops.length:Int)then(Jd,14)else((Y9 g (Xo g m own d) (mk0 m me own d)).1.1,0)
theorem Zly (g:List Eg) (m:List Opn) (me:Int) (own:Tg) (d:De) (h:Zoa me d=Ht):Pp 12 [tr (Zc g),.rptr (m6 m),.int .i64 me,tg own,ded d] (opc (Jd,2)):=by
 unfold Zoa at h;cases v1:decide (me<1)<;>cases v2:decide (6<me)<;>cases v3:decide (d.kind<1)<;>cases v4:decide (7<d.kind)<;>rw[v1,v2,v3,v4]at h<;>first|(cases h;done)|skip
 all_goals
  refine ZM func12 rfl ntmps12 results12 (Ds _) ?_;simp only[go_sem,tr,tg,ded,GS,v1,v2,v3,v4,opc,Zi]
def opZ:List PV:= [.int .i64 0,.int .i64 0,.int .i64 0,.int .i64 0,.int .i64 0,.str [],.int .i64 0,.str [],.int .i64 0,.str [],.str [],.int .i64 0,.bool Hf,.str [],.sl .nil []]
def ZnI (g:List Eg) (own:Tg) (F:List Fd) (l:List Opn) (d:De):List PV:= [tr (Zc g),.int .i64 own.r,.int .i64 own.n,Zp F,.sl (.row 116) (l.map opv),
 .int .i64 d.kind,.str d.cart,.str d.item,.int .i64 d.at'.sc,.str d.at'.gr,.str d.at'.nm,.int .i64 d.n,.str d.text,.int .i64 d.tag.r,.int .i64 d.tag.n,
 .int .i64 d.ln.kind,.int .i64 d.ln.at'.sc,.str d.ln.at'.gr,.str d.ln.at'.nm,.str d.ln.nm,.str d.ln.ot,.int .i64 d.ln.fac,.int .i64 d.ln.fd.at'.sc,.str d.ln.fd.at'.gr,.str d.ln.fd.at'.nm,.int .i64 d.ln.fd.kind,.str d.ln.fd.df,.sl .no (d.ln.fd.cases'.map .str),.int .i64 d.ln.fd.worth,.sl .no (d.ln.fo.map pr),.sl .no (d.ln.ba.map pr)]
theorem Zgn (d:De):Jz (GS d)= []:=rfl
theorem ZjF (g:List Eg) (own:Tg) (F:List Fd) (l:List Opn) (d:De):Jz (ZnI g own F l d)= [.r 116]:=rfl
theorem ZjY (g:List Eg) (own:Tg) (F:List Fd) (l:List Opn) (x:Opn) (d:De):ZnI g own F (l++ [x]) d=(ZnI g own F l d).set 4 (.sl (.row 116) (l.map opv++ [opv x])):=by
 simp only[ZnI,Js,Jq,JQ,List.set]
theorem ZaB (l:List Opn):0<=clk l:=by
 unfold clk
 suffices h:∀(a:Int),0<=a->0<=l.foldl (λa o=>max a o.time) a from h 0 (Int.le_refl _)
 induction l with
 |nil=>exact λa h=>h
 |cons o l ih=>exact λa h=>ih _ (Int.le_trans h (Int.le_max_left _ _))
theorem Zjy (g:List Eg) (x:Mkr) (o:Opn):(Y9 g x o).1.2=Hf->(Y9 g x o).1.1.drops=o.drops:=by
 unfold Y9 WG GC;repeat' split
 all_goals simp
theorem ZlM (l:List Opn) (c:Str) {k:Nat} (h:k<l.length):(l.take (k+1)).filter (λo=>o.cart==c)=(l.take k).filter (λo=>o.cart==c)++(if((l.getD k Jd).cart==c)=Ht then [l.getD k Jd]else []):=by
 rw[ZT (d:=Jd) h,Jk];congr 1;generalize l.getD k Jd=x;cases hr:x.cart==c;rw[List.filter_cons_of_neg (by simp[hr]),if_neg (by simp)];rfl;rw[List.filter_cons_of_pos (by simpa using hr),if_pos rfl];rfl
theorem ZiH (g:List Eg) (m:List Opn) (me:Int) (own:Tg) (d:De) (hm:OkM g) (hr:RightM g) (hk:PoolOk m) (ho:∀o∈m,OkOp o):Pp 12 [tr (Zc g),.rptr (m6 m),.int .i64 me,tg own,ded d] (opc (Wt g m me own d)):=by
 by_cases hbad:Zoa me d=Ht;rw[Wt,if_pos hbad];exact Zly g m me own d hbad;have hb:1<=me/\me<=6/\1<=d.kind/\d.kind<=7:=by simp[Zoa]at hbad;omega
 have v1:decide (me<1)=false:=by simp;omega
 have v2:decide (6<me)=false:=by simp;omega
 have v3:decide (d.kind<1)=false:=by simp;omega
 have v4:decide (7<d.kind)=false:=by simp;omega
 have hS:=XB g own hm;have hN1:=YA d.cart;have hN2:=YA d.item;have hL:=ZcE m hk;have hC:=Zex m hk;have hH:=S6 m;have hv:=VX m;have hO:=DD m hk ho;have hop:∀o∈X6 m,OkOp o:=λo h=>ho o ((SC hk).1 h)
 have hkl:=hk.l;have hol:=Dt hk;have hA:=Zg8 g (X6 m) hm (by omega) hop hk.nodup;have hrow:=Xa m (show(me-1).toNat<6 by omega);have hrl:=SL m (me-1).toNat;have hR:SH (VM m)=true:=Fz λj hj=>by rw[hv]at hj;rw[Xa m hj];have:=SL m j;omega
 have hG:(Y0 (Zc g) own).2=0->_:=λh0=>Zmh g (Xo g m own d) (mk0 m me own d) hm hr (by
  show(alC g m d.cart).length<=_;have h1:=Jw (λo:Opn=>o.cart==d.cart) (UE g (X6 m));have h2:=Sy g (X6 m);unfold alC;omega) (λq hq=>hop q (Dq (Jf.1 hq).1)) (by have:=(Za4 hm h0).n;show(Y0 (Zc g) own).1.length<=_;omega) (Za4 hm h0).c
 generalize hy:Wt g m me own d=y;unfold Wt at hy;rw[if_neg hbad]at hy;have hll:=Sy g (X6 m);unfold Xo alC mk0 at hy hG;generalize UE g (X6 m)=A at *;generalize X6 m=OP at *;generalize Y0 (Zc g) own=sy at *;obtain⟨S,c⟩:=sy;simp only at hy hG;refine ZM func12 rfl ntmps12 results12 (Ds _) ?_;simp only[go_sem,tr,tg,ded,GS,v1,v2,v3,v4];refine vc5 hS ?_;simp only[go_sem,YJ,Zp];refine Zs (λh=> ?_) (λh=> ?_);rw[if_pos (by simpa using h)]at hy;subst hy;simp only[go_sem,opc,Zi];have hc0:c=0:=by simpa using h
 subst hc0;rw[if_neg (by simp)]at hy;have hG:=hG rfl;simp only[go_sem];refine vc1 hN1 ?_;simp only[go_sem];refine Zs (λh=> ?_) (λh=> ?_);rw[if_pos (by simpa using h)]at hy;subst hy;simp only[go_sem,opc,Zi];rw[if_neg (by simpa using h)]at hy;cases k1:(d.kind==1)<;>cases k2:(d.kind==2)<;>cases hn2:ZL d.item<;>rw[hn2]at hN2<;>simp only[k1,k2,hn2,JN,JO,JP,JF,Bool.not_false,Bool.not_true,Bool.and_true,Bool.and_false,Bool.false_and,JD,if_true,if_false,Ja]at hy
 all_goals simp only[go_sem,k1,k2]
 all_goals try refine vc1 hN2 ?_
 all_goals try simp only[go_sem,k1,k2]
 all_goals try(subst hy;simp only[go_sem,opc,Zi];done)
 all_goals
  refine vc1 hL ?_;simp only[go_sem];refine Zs (λh=> ?_) (λh=> ?_)
  ·rw[if_pos (by simpa using h)]at hy;subst hy;simp only[go_sem,opc,Zi]
  have h400:¬400<=(m.length:Int):=by simpa using h
  rw[if_neg h400]at hy;simp only[go_sem];refine vc1 hC ?_;simp only[go_sem];refine Zs (λh=> ?_) (λh=> ?_)
  ·rw[if_pos (by simpa using h)]at hy;subst hy;simp only[go_sem,opc,Zi]
  have hck:¬1099511627776<=clk OP:=by simpa using h
  rw[if_neg hck]at hy;have hN:=Zho (VM m) me hv hR hb.1 hb.2.1 (by rw[hrow];omega);rw[hrow]at hN;simp only[go_sem];refine vc1 hH ?_;simp only[go_sem,FW];refine vc9 hN ?_;simp only[go_sem,tgc,tg];refine vc1 hO ?_;simp only[go_sem,Zr];refine vc7 hA ?_;simp only[go_sem,Zr];refine W6 (Gh.nilRowB (b:=15) (j:=4) (d:=116) (sz:=15) (e:=48) rfl rfl (by simp) rfl rfl) ?_;refine Zz (ι:= { k:Nat // k<=A.length }) 139 (λx=> [(1,.rptr (m6 m)),(8,.ptr 8 0),(9,.ptr 9 0),(10,.ptr 10 0),(14,.ptr 14 0),(15,.ptr 15 0),(101,Zr A),(102,.int .i64 (A.length:Int)),(103,.int .i64 (x.1:Int))]) (λx=> [(8,[.int .i64 own.r,.int .i64 own.n],Hf),(9,GS d,Hf),(10,opZ,Hf),(14,[.int .i64 me,.int .i64 (((Yl m (me-1).toNat).length:Int)+1)],Hf),(15,ZnI g own S ((A.take x.1).filter λo=>o.cart==d.cart) d,Hf)]) (λx=> [(116,.live ((A.take x.1).filter λo=>o.cart==d.cart).length 15 48)]) (λx=>A.length-x.1) ⟨0,Jl _⟩
   ⟨rfl,(Fc9 rfl rfl rfl rfl rfl rfl rfl rfl rfl),Fc5 ⟨rfl,rfl⟩ ⟨rfl,rfl⟩ ⟨rfl,rfl⟩ ⟨rfl,rfl⟩ ⟨rfl,rfl⟩,(fcs rfl fnl)⟩ (λx=>⟨(Fc9 rfl rfl rfl rfl rfl rfl rfl rfl rfl),Fc5 rfl (by rw[Zgn];rfl) rfl rfl (by rw[ZjF];rfl)⟩) (λx=> ?_)
  obtain⟨k,hka0⟩:=x;simp only
  by_cases hlt:(k:Int)<(A.length:Int)
  ·have hka:k<A.length:=by omega
   have i1:=Jj k
   have w1:=wk9 (k:=k) (by omega)
   have hgd:=ZI hka;have hs:=ZlM A d.cart hka;have hfl:=Jw (λo:Opn=>o.cart==d.cart) (A.take k);have htl:(A.take k).length<=k:=List.length_take_le _ _;generalize A.getD k Jd=x at *;generalize hW:(A.take k).filter (λo=>o.cart==d.cart)=W at *;have hrm:=YV (show W.length+1<=1000000 by omega) (show 176<=1000 by omega);have hml:(W.map opv).length=W.length:=Jr _;have hsz:=Yt W;have hsx:Sized 15 [opv x]:=Yt [x];have hax:XQ [opv x]:=Wj [x];simp only[opv]at hsx hax;cases hcq:(x.cart==d.cart)
   ·rw[hcq,if_neg (by simp),Ji]at hs;simp only[go_sem,hlt,Zr,hgd,opv,i1,GS,hcq,w1];exact⟨⟨k+1,by omega⟩,nx9 (by omega),⟨rfl,(Fc9 rfl rfl rfl rfl rfl rfl rfl rfl rfl),by simp only;rw[hs];exact Fc5 ⟨rfl,rfl⟩ ⟨rfl,rfl⟩ ⟨rfl,rfl⟩ ⟨rfl,rfl⟩ ⟨rfl,rfl⟩,by simp only;rw[hs];exact(fcs rfl fnl)⟩⟩
   ·rw[hcq,if_pos rfl]at hs;simp only[go_sem,hlt,Zr,hgd,opv,i1,GS,ZnI,hcq,hml,hrm,hsz,hsx,hax,w1];exact⟨⟨k+1,by omega⟩,nx9 (by omega),⟨rfl,(Fc9 rfl rfl rfl rfl rfl rfl rfl rfl rfl),by simp only;rw[hs];exact Fc5 ⟨rfl,rfl⟩ ⟨rfl,rfl⟩ ⟨rfl,rfl⟩ ⟨rfl,rfl⟩ ⟨by show _=some (ZnI g own S (W++ [x]) d);rw[ZjY];rfl,rfl⟩,by simp only;rw[hs,Jc];exact(fcs rfl fnl)⟩⟩
  ·obtain rfl:k=A.length:=by omega
   have hc0:=ZaB OP;have w2:IntKind.i64.wrap (clk OP+1)=clk OP+1:=w64 (by omega);have hnd:=Zjy g ⟨own,S,A.filter λo=>o.cart==d.cart,d⟩ ⟨⟨me,((Yl m (me-1).toNat).length:Int)+1⟩,own,clk OP+1,d.cart,0,[],⟨0,[],[]⟩,0,Hf,[],[]⟩;generalize Y9 g ⟨own,S,A.filter λo=>o.cart==d.cart,d⟩ ⟨⟨me,((Yl m (me-1).toNat).length:Int)+1⟩,own,clk OP+1,d.cart,0,[],⟨0,[],[]⟩,0,Hf,[],[]⟩=gm at *;obtain⟨⟨go,gb⟩,gc⟩:=gm;simp only at hy hG hnd;simp only[go_sem,hlt,JL];refine vDq ?_;simp only[go_sem,GS,ZnI,opZ];refine vc1 hC ?_;simp only[go_sem,w2];refine Zg0 18 hG rfl (Zv _ _) (Zv _ _) rfl rfl (by rw[Jq,Vk _ (ZjZ _ _)];simp only[go_sem,mkr,YK,tr,Zp,Zr,PV.ren,id]) ?_;simp only[go_sem];refine Zs (λh=> ?_) (λh=> ?_)
   ·rw[if_pos (by simpa using h)]at hy;subst hy;simp only[go_sem,opc,Zi,opZ]
   rw[if_neg (by simpa using h)]at hy;cases gb
   ·have hd0:=hnd rfl;simp only[go_sem,opE,opZ];rw[hd0,if_neg (by simp)]at hy;subst hy;simp only[go_sem,opc,opv,hd0]
   ·simp only[go_sem,opE,opZ];refine Zs (λh=> ?_) (λh=> ?_)
    ·rw[if_pos (by simpa using h)]at hy;subst hy;simp only[go_sem,opc,Zi,opZ]
    ·rw[if_neg (by simpa using h)]at hy;subst hy;simp only[go_sem,opc,opv]
open Go.PL Go.PL.Srt
open Go.PL
end Go.Proofs.YtepchngegclagaaGreat
namespace Go.PL
end Go.PL
namespace Go.Proofs.YtepchngegclagaaGreat
open Go.PL
structure ClS (v:List Int) (A:List Opn) where
 k:Nat
 ks:List Tg
 hk:k<=A.length
 h:∀t,t∈ks↔t∈(A.take k).map Opn.id
 hd:∀j,j<k-> ∀t∈(A.getD j Jd).drops,F5 v t=Ht
open Go.PL Go.PL.Srt
open Go.PL
theorem ZoC {g:List Eg} {a:Tg} (hr:RightM g) (hu:(Y0 (Zc g) a).2=0):a=Jd\/Wy a=true:=by
 have hu:upC g a=0:=hu;obtain⟨w,_,_⟩:=Xx hu;generalize UC g a=W at w;cases w with
 |root=>exact .inl rfl
 |step hn he hw=>
  obtain⟨e1,e2⟩:=Xv he;right;have:=hr.r _ e2;rw[Zp9]at this;simp only[Jb]at this;rw[e1];exact this.1
theorem ZgS {l:List Tg} {t:Tg}:t∈GH l↔t∈l:=(JB l leT).mem_iff
theorem Zmz {a b:Tg} (h:leT a b=Ht) (hn:a≠b):ZW a b=true:=by
 rw[Gr]at h;rw[FN];obtain⟨x,y⟩:=a;obtain⟨z,w⟩:=b;simp only[ne_eq,Tg.mk.injEq]at *;omega
theorem Zl7 {A:List Opn} (p:Opn->Bool) (hnd:(A.map Opn.id).Nodup):(Yp A p).Pairwise λa b=>ZW a b=true:=by
 unfold Yp GH;have h1:=List.pairwise_mergeSort Sv Zdq ((A.filter p).map Opn.id);have h2:(((A.filter p).map Opn.id).mergeSort leT).Nodup:=(JB _ leT).nodup_iff.2 (Jg.sublist (JC.map _) hnd);exact(h1.and h2).imp λh=>Zmz h.1 h.2
theorem W7 {o:Opn} (h60:o.drops.length<=60) (hm:∀t∈o.drops,Wy t=Ht/\t≠o.id) (hp:o.drops.Pairwise λa b=>ZW a b=Ht):Wp o=true:=by
 unfold Wp;rw[Jb];refine⟨by simp;omega,Jo.2 λi hi=> ?_⟩;have hi:=Jy.1 hi;have hg:=hm _ (Zy (d:=Jd) hi);unfold Yw;rw[hg.1,decide_eq_false hg.2];by_cases h0:i=0;simp[h0];have:=List.pairwise_iff_getElem.1 hp (i-1) i (by omega) hi (by omega);rw[<-getD_lt (d:=Jd),<-getD_lt (d:=Jd)]at this;rw[this];simp
theorem Un {o:Opn} (h1:Z6 o=(o,Ht)) (h2:Wy o.id=Ht) (h3:o.sch=Jd\/Wy o.sch=Ht) (h4:1<=o.time) (h5:o.time<=1099511627776) (h6:ZL o.cart=Ht) (h7:Ye o=Ht->YY o.at'=Ht)
  (h8:VZ o=Ht->ZL o.item=Ht) (h9: -1048576<=o.delta) (h10:o.delta<=1048576) (h11:(o.text.length:Int)<=40) (h12:Wp o=Ht):Yk o=true:=by
 have e3:(!decide (o.sch=Jd)&& !Wy o.sch)=false:=by rcases h3 with h|h<;>simp[h]
 have e4:decide (o.time<1)=false:=by simp;omega
 have e5:decide (1099511627776<o.time)=false:=by simp;omega
 have e7:(Ye o&& !YY o.at')=false:=by
  cases h:Ye o;rfl;rw[h7 h];rfl
 have e8:(VZ o&& !ZL o.item)=false:=by
  cases h:VZ o;rfl;rw[h8 h];rfl
 have e9:decide (o.delta < -1048576)=false:=by simp;omega
 have e10:decide (1048576<o.delta)=false:=by simp;omega
 have e11:decide ((o.text.length:Int)<=40)=true:=by simpa using h11
 unfold Yk;rw[h1,h2,e3,e4,e5,h6,e7,e8,e9,e10,e11,h12];simp
theorem Zqf {α:Type} [Inhabited α] (p:α->Bool) (l:List α):idx p l= -1\/ ∃i,i<l.length/\idx p l=(i:Int)/\p (l.getD i Jd)=true:=by
 rcases Fb p l with h|⟨k,hk,h⟩;exact .inl h;refine .inr ⟨k,hk,h,?_⟩;cases hp:p (l.getD k Jd);exfalso;unfold idx at h;cases hf:l.findIdx? p with
 |none=>rw[hf]at h;simp at h
 |some j=>
  rw[hf]at h;have:j=k:=by
   have h':(j:Int)=(k:Int):=h;omega
  subst this;obtain⟨h1,h2,_⟩:=Jm.1 hf;rw[getD_lt hk]at hp;rw[hp]at h2;cases h2
 rfl
theorem Dl {g:List Eg} {a:Tg} {r:Rf} (hr:RightM g) (hu:(Y0 (Zc g) a).2=0) (hf:(ZC (Y0 (Zc g) a).1 r).2=0):YY r=true:=by
 have hl:=Zkz hr hu;generalize (Y0 (Zc g) a).1=S at *;rcases Zqf (atF r) S with h|⟨i,hi,h,hp⟩;rw[ZC,h]at hf;simp at hf;simp only[Yj,Jb,Jo]at hl;have:=hl.2 i (Jy.2 hi);simp only[So,Yi,Jb]at this;have e:(S.getD i Jd).at'=r:=by simpa[atF]using hp
 rw[<-e];exact this.1.1
theorem ZeM {g:List Eg} {m:List Opn} {c:Str} (hk:PoolOk m) {o:Opn} (h:o∈alC g m c):o∈m:=(SC hk).1 (Dq (Jf.1 h).1)
theorem ZiU {g:List Eg} {m:List Opn} {c:Str} (hk:PoolOk m):((alC g m c).map Opn.id).Nodup:=by
 have h1:((WJ g (X6 m)).map Opn.id).Nodup:=Jg.sublist ((XI g (X6 m)).map _) hk.nodup;have h2:((UE g (X6 m)).map Opn.id).Nodup:=((Fg g (X6 m)).map Opn.id).nodup_iff.2 h1;exact Jg.sublist (JC.map _) h2
theorem ZlJ {g:List Eg} {m:List Opn} {c it:Str} (hk:PoolOk m) (h:(alC g m c).any (Vv it)=Ht):ZL it=true:=by
 obtain⟨o,ho,ha⟩:=Jp.1 h;have hr:=hk.r o (ZeM hk ho);simp only[Vv,Jb,beq_iff_eq]at ha;have hi:VZ o=true:=by simp[VZ,ha.1]
 simp only[Yk,Jb,JJ,hi,JD]at hr;have:=hr.2.2.2.2.1;rw[<-ha.2];simpa using this
theorem Gt {g:List Eg} {m:List Opn} {me:Int} {own:Tg} {d:De} (h:(Wt g m me own d).2=0):(1<=me/\me<=6)/\(d.kind=1\/d.kind=2\/d.kind=3\/d.kind=4\/d.kind=5\/d.kind=6\/d.kind=7)/\(Y0 (Zc g) own).2=0/\ZL d.cart=Ht/\(d.kind=1\/d.kind=2->ZL d.item=Ht)/\m.length<400/\clk (X6 m)<1099511627776/\
  (Y9 g (Xo g m own d) (mk0 m me own d)).2=0/\(Y9 g (Xo g m own d) (mk0 m me own d)).1.1.drops.length<=60/\(Wt g m me own d).1=(Y9 g (Xo g m own d) (mk0 m me own d)).1.1:=by
 unfold Wt at h ⊢;by_cases h1:Zoa me d=Ht;rw[if_pos h1]at h;simp at h;rw[if_neg h1]at h ⊢;by_cases h2:(Y0 (Zc g) own).2≠0;rw[if_pos h2]at h;exact absurd h h2;rw[if_neg h2]at h ⊢;by_cases h3:ZL d.cart=Hf;rw[if_pos h3]at h;simp at h;rw[if_neg h3]at h ⊢;by_cases h4:((d.kind==1||d.kind==2)&& !ZL d.item)=Ht;rw[if_pos h4]at h;simp at h;rw[if_neg h4]at h ⊢;by_cases h5:400<=(m.length:Int);rw[if_pos h5]at h;simp at h;rw[if_neg h5]at h ⊢;by_cases h6:1099511627776<=clk (X6 m);rw[if_pos h6]at h;simp at h;rw[if_neg h6]at h ⊢;generalize Y9 g (Xo g m own d) (mk0 m me own d)=G at *;by_cases h7:G.2≠0;rw[if_pos h7]at h;exact absurd h h7;rw[if_neg h7]at h ⊢;by_cases h8:60<(G.1.1.drops.length:Int);rw[if_pos h8]at h;simp at h;rw[if_neg h8];simp only[Zoa,Bool.or_eq_true,decide_eq_true_eq]at h1;refine⟨by omega,by omega,by simpa using h2,by simpa using h3,λhk=> ?_,by omega,by omega,by simpa using h7,by omega,rfl⟩;cases hn:ZL d.item;exfalso;apply h4;rw[hn];rcases hk with e|e<;>rw[e]<;>rfl
 rfl
theorem Tn {x:Mkr} (h:(Z1 x).2=0):(ZC x.F x.d.at').2=0/\(Z1 x).1=(ZC x.F x.d.at').1/\F4 x.d.kind (ZC x.F x.d.at').1=Ht/\(x.d.at'.sc=1->x.al.any (Vv x.d.item)=Ht):=by
 unfold Z1 at h ⊢;by_cases h1:(ZC x.F x.d.at').2≠0;rw[if_pos h1]at h;exact absurd h h1;rw[if_neg h1]at h ⊢;by_cases h2:F4 x.d.kind (ZC x.F x.d.at').1=Hf;rw[if_pos h2]at h;simp at h;rw[if_neg h2]at h ⊢;by_cases h3:x.d.at'.sc=1/\x.al.any (Vv x.d.item)=Hf;rw[if_pos h3]at h;simp at h;rw[if_neg h3];refine⟨by simpa using h1,rfl,by simpa using h2,λhs=> ?_⟩;cases ha:x.al.any (Vv x.d.item);exact absurd ⟨hs,ha⟩ h3;rfl
theorem Zhw {l:List Str} (h:Sj l=Ht) {s:Str} (hs:s∈l):s.length<=12:=by
 simp only[Sj,Jo,Jy]at h;obtain⟨i,hi,rfl⟩:=JA hs;have:=h i hi;simp only[Vy,Jb]at this;have e:l.getD i []=l[i]:=by rw[Jt,List.getElem?_eq_getElem hi];rfl
 rw[e]at this;simp only[ZL,Jb,decide_eq_true_eq]at this;exact this.1.1.2
theorem DX {f:Fd} {s:Str} (h:Da f s=Ht):(s.length:Int)<=40:=by
 simp only[Da,Jb,JJ,decide_eq_false_iff_not]at h;obtain⟨⟨h1,h2⟩,h3⟩:=h;split at h3;rename_i hk;simp only[Yi,Jb]at h1;rw[if_neg h2,if_pos hk,Jb]at h1;have h4:=h1.2.2;simp only[Zac,Jb]at h4;simp only[Jp,beq_iff_eq]at h3;obtain⟨x,hx,rfl⟩:=h3;have:=Zhw h4.1 hx;omega;simp only[decide_eq_true_eq]at h3;omega
theorem Zqz {o:Opn} (hk:o.kind=3) (hi:o.at'.sc≠1->o.item= []) (hh:o.has=Hf) (ht:o.text= []) (hd:o.drops= []):Z6 o=(o,Ht):=by
 obtain⟨id,sch,time,cart,kind,item,at',delta,has,text,drops⟩:=o;simp only at hk hi hh ht hd;subst hk hh ht hd;by_cases hs:at'.sc=1;simp[Z6,hs];simp[Z6,hs,hi hs]
theorem Zkj {o:Opn} (hk:o.kind=4) (hi:o.at'.sc≠1->o.item= []) (hd:o.delta=0) (ht:o.has=Hf->o.text= []):Z6 o=(o,Ht):=by
 obtain⟨id,sch,time,cart,kind,item,at',delta,has,text,drops⟩:=o;simp only at hk hi hd ht;subst hk hd;cases has;have:=ht rfl;subst this;by_cases hs:at'.sc=1;simp[Z6,hs];simp[Z6,hs,hi hs];by_cases hs:at'.sc=1;simp[Z6,hs];simp[Z6,hs,hi hs]
theorem ZbG {S:List Fd} {o:Opn} (hR:Yk o=Ht) (h1:(ZC S o.at').2=0) (h2:(o.kind=3/\(ZC S o.at').1.kind=1)\/(o.kind≠3/\o.has=Ht/\Da (ZC S o.at').1 o.text=Ht)\/(o.kind≠3/\o.has=Hf/\(ZC S o.at').1.kind=4)):DY S o=true:=by
 unfold DY;rw[hR,h1];cases hp:Ye o;simp;rcases h2 with ⟨k,h⟩|⟨k,hh,h⟩|⟨k,hh,h⟩;rw[if_pos k,h];simp;rw[if_neg k,hh,h];simp;rw[if_neg k,hh,h];simp
theorem ZhV {g:List Eg} {m:List Opn} {me:Int} {own:Tg} {d:De} (hr:RightM g) (hk:PoolOk m) (h:(Wt g m me own d).2=0):
  Yk (Wt g m me own d).1=Ht/\DY (Y0 (Zc g) own).1 (Wt g m me own d).1=Ht/\(Wt g m me own d).1.id=⟨me,((Yl m (me-1).toNat).length:Int)+1⟩/\(Wt g m me own d).1.drops.length<=60:=by
 obtain⟨⟨a1,a2⟩,a3,a4,a5,a6,a7,a8,a9,a10,a11⟩:=Gt h;rw[a11];have hown:=ZoC hr a4;have hrl:=SL m (me-1).toNat;have hcn:=ZaB (X6 m);have hid:Wy ⟨me,((Yl m (me-1).toNat).length:Int)+1⟩=true:=by
  simp only[Wy,Jb,decide_eq_true_eq];omega
 have hD:∀p,(Yp (alC g m d.cart) p).Pairwise (λa b=>ZW a b=Ht):=λp=>Zl7 p (ZiU hk)
 have hM:∀p,∀t∈Yp (alC g m d.cart) p,Wy t=Ht/\t≠⟨me,((Yl m (me-1).toNat).length:Int)+1⟩:=λp t ht=>by
  rw[Yp,ZgS]at ht;obtain⟨o,ho,rfl⟩:=Jh.1 ht;have hom:=ZeM hk (Jf.1 ho).1;refine⟨hk.t o hom,λe=> ?_⟩;obtain⟨i,j,hi,hj,e2,_⟩:=hk.at' hom;rw[e2]at e;simp only[Tg.mk.injEq]at e;have:i=(me-1).toNat:=by omega
  subst this;omega
 have hit:(alC g m d.cart).any (Vv d.item)=Ht->ZL d.item=true:=ZlJ hk;rcases a3 with k|k|k|k|k|k|k;have e:Y9 g (Xo g m own d) (mk0 m me own d)=if(alC g m d.cart).any (Vv d.item)=Ht then((mk0 m me own d,Hf),7)else(({ mk0 m me own d with kind:=1,item:=d.item },Hf),0):=by
  unfold Y9;simp only[Xo,k];rfl
 rw[e]at a9 a10 ⊢;cases hs:(alC g m d.cart).any (Vv d.item);rw[hs]at a9 a10;simp only[hs,Ja,if_false]at a10 ⊢;have hR:Yk ({ mk0 m me own d with kind:=1,item:=d.item }:Opn)=true:=
  Un rfl hid hown (by show 1<=clk (X6 m)+1;omega) (by show clk (X6 m)+1<=_;omega) a5 (λh=>by cases h) (λ_=>a6 (.inl k)) (by show(-1048576:Int)<=0;decide) (by show(0:Int)<=1048576;decide) (by show((0:Nat):Int)<=40;decide) (W7 a10 (by simp[mk0]) (by simp[mk0]))
 exact⟨hR,by unfold DY;rw[hR];rfl,rfl,a10⟩;simp[hs]at a9;have e:Y9 g (Xo g m own d) (mk0 m me own d)=if(alC g m d.cart).any (Vv d.item)=Hf then((mk0 m me own d,Hf),12)else(({ mk0 m me own d with kind:=2,item:=d.item,drops:=Yp (alC g m d.cart) λq=>q.item==d.item },Ht),0):=by
  unfold Y9;simp only[Xo,k];rfl
 rw[e]at a9 a10 ⊢;cases hs:(alC g m d.cart).any (Vv d.item);simp[hs]at a9;rw[hs]at a9 a10;simp only[hs,Je,if_false]at a10 ⊢;have hR:Yk ({ mk0 m me own d with kind:=2,item:=d.item,drops:=Yp (alC g m d.cart) λq=>q.item==d.item }:Opn)=true:=
  Un rfl hid hown (by show 1<=clk (X6 m)+1;omega) (by show clk (X6 m)+1<=_;omega) a5 (λh=>by cases h) (λ_=>a6 (.inr k)) (by show(-1048576:Int)<=0;decide) (by show(0:Int)<=1048576;decide) (by show((0:Nat):Int)<=40;decide) (W7 a10 (hM _) (hD _))
 exact⟨hR,by unfold DY;rw[hR];rfl,rfl,a10⟩;have e:Y9 g (Xo g m own d) (mk0 m me own d)=if(Z1 (Xo g m own d)).2≠0 then((mk0 m me own d,Hf),(Z1 (Xo g m own d)).2)else if(decide (1048576<d.n)||decide (d.n < -1048576))=Ht then(({ mk0 m me own d with kind:=4,at':=d.at',item:=if(d.at'.sc==1)=Ht then d.item else(mk0 m me own d).item },Hf),3)else(({ ({ mk0 m me own d with kind:=4,at':=d.at',item:=if(d.at'.sc==1)=Ht then d.item else(mk0 m me own d).item }:Opn)with kind:=3,delta:=d.n },Hf),0):=by
  unfold Y9 WG GC;simp only[show(Xo g m own d).d=d from rfl,show(Xo g m own d).al=alC g m d.cart from rfl,k,Ju,Ja,if_false,if_true]
 obtain⟨f1,f2,f3,f4⟩:=Tn (show(Z1 (Xo g m own d)).2=0 from by
  rw[e]at a9;by_cases hf:(Z1 (Xo g m own d)).2=0;exact hf;rw[if_pos hf]at a9;exact a9)
 have hpl:=Dl hr a4 f1;have hgo:F4 d.kind (ZC (Y0 (Zc g) own).1 d.at').1=true:=f3;rw[k]at hgo;have hf0:(Z1 (Xo g m own d)).2=0:=by
  rw[e]at a9;by_cases hf:(Z1 (Xo g m own d)).2=0;exact hf;rw[if_pos hf]at a9;exact a9
 rw[e,if_neg (by rw[hf0];simp)]at a9 a10 ⊢;have hi0:∀it:Str,d.at'.sc≠1->(if(d.at'.sc==1)=Ht then d.item else it)=it:=λit h=>by rw[if_neg (by simpa using h)]
 have hi1:d.at'.sc=1->ZL (if(d.at'.sc==1)=Ht then d.item else(mk0 m me own d).item)=true:=λh=>by rw[if_pos (by simpa using h)];exact hit (f4 h)
 cases hz:(decide (1048576<d.n)||decide (d.n < -1048576));rw[hz]at a10;simp only[Ja,if_false]at a10 ⊢;simp only[Bool.or_eq_false_iff,decide_eq_false_iff_not]at hz;have hR:Yk ({ ({ mk0 m me own d with kind:=4,at':=d.at',item:=if(d.at'.sc==1)=Ht then d.item else(mk0 m me own d).item }:Opn)with kind:=3,delta:=d.n }:Opn)=true:=
  Un (Zqz rfl (hi0 _) rfl rfl rfl) hid hown (by show 1<=clk (X6 m)+1;omega) (by show clk (X6 m)+1<=_;omega) a5 (λ_=>hpl) (λh=>hi1 (by simpa[VZ,Ye]using h)) (by show-1048576<=d.n;omega) (by show d.n<=1048576;omega) (by show((0:Nat):Int)<=40;decide) (W7 a10 (by simp[mk0]) (by simp[mk0]))
 exact⟨hR,ZbG hR f1 (.inl ⟨rfl,by simpa[F4]using hgo⟩),rfl,a10⟩;simp[hz]at a9;have e:Y9 g (Xo g m own d) (mk0 m me own d)=if(Z1 (Xo g m own d)).2≠0 then((mk0 m me own d,Hf),(Z1 (Xo g m own d)).2)else if Da (Z1 (Xo g m own d)).1 d.text=Hf then(({ mk0 m me own d with kind:=4,at':=d.at',item:=if(d.at'.sc==1)=Ht then d.item else(mk0 m me own d).item },Hf),5)else(({ ({ mk0 m me own d with kind:=4,at':=d.at',item:=if(d.at'.sc==1)=Ht then d.item else(mk0 m me own d).item }:Opn)with has:=Ht,text:=d.text,drops:=Yp (alC g m d.cart) λq=>(GP g (Xo g m own d) q).2 },Ht),0):=by
  unfold Y9 WG GC;simp only[show(Xo g m own d).d=d from rfl,show(Xo g m own d).al=alC g m d.cart from rfl,k,Ju,Ja,if_false,if_true]
 obtain⟨f1,f2,f3,f4⟩:=Tn (show(Z1 (Xo g m own d)).2=0 from by
  rw[e]at a9;by_cases hf:(Z1 (Xo g m own d)).2=0;exact hf;rw[if_pos hf]at a9;exact a9)
 have hpl:=Dl hr a4 f1;have hgo:F4 d.kind (ZC (Y0 (Zc g) own).1 d.at').1=true:=f3;rw[k]at hgo;have hf0:(Z1 (Xo g m own d)).2=0:=by
  rw[e]at a9;by_cases hf:(Z1 (Xo g m own d)).2=0;exact hf;rw[if_pos hf]at a9;exact a9
 rw[e,if_neg (by rw[hf0];simp)]at a9 a10 ⊢;have hi0:∀it:Str,d.at'.sc≠1->(if(d.at'.sc==1)=Ht then d.item else it)=it:=λit h=>by rw[if_neg (by simpa using h)]
 have hi1:d.at'.sc=1->ZL (if(d.at'.sc==1)=Ht then d.item else(mk0 m me own d).item)=true:=λh=>by rw[if_pos (by simpa using h)];exact hit (f4 h)
 rw[f2]at a9 a10 ⊢;have f1':(ZC (Y0 (Zc g) own).1 d.at').2=0:=f1;cases hz:Da (ZC (Xo g m own d).F (Xo g m own d).d.at').1 d.text;simp[hz]at a9;rw[hz]at a10;simp only[Je,if_false]at a10 ⊢;have hR:Yk ({ ({ mk0 m me own d with kind:=4,at':=d.at',item:=if(d.at'.sc==1)=Ht then d.item else(mk0 m me own d).item }:Opn)with has:=Ht,text:=d.text,drops:=Yp (alC g m d.cart) λq=>(GP g (Xo g m own d) q).2 }:Opn)=true:=
  Un (Zkj rfl (hi0 _) rfl (λh=>by cases h)) hid hown (by show 1<=clk (X6 m)+1;omega) (by show clk (X6 m)+1<=_;omega) a5 (λ_=>hpl) (λh=>hi1 (by simpa[VZ,Ye]using h)) (by show(-1048576:Int)<=0;decide) (by show(0:Int)<=1048576;decide) (DX hz) (W7 a10 (hM _) (hD _))
 exact⟨hR,ZbG hR f1 (.inr (.inl ⟨by show(4:Int)≠3;decide,rfl,hz⟩)),rfl,a10⟩;have e:Y9 g (Xo g m own d) (mk0 m me own d)=if(Z1 (Xo g m own d)).2≠0 then((mk0 m me own d,Hf),(Z1 (Xo g m own d)).2)else if Da (Z1 (Xo g m own d)).1 d.text=Hf then(({ mk0 m me own d with kind:=4,at':=d.at',item:=if(d.at'.sc==1)=Ht then d.item else(mk0 m me own d).item },Hf),5)else(({ ({ mk0 m me own d with kind:=4,at':=d.at',item:=if(d.at'.sc==1)=Ht then d.item else(mk0 m me own d).item }:Opn)with has:=Ht,text:=d.text },Hf),0):=by
  unfold Y9 WG GC;simp only[show(Xo g m own d).d=d from rfl,show(Xo g m own d).al=alC g m d.cart from rfl,k,Ju,Ja,if_false,if_true]
 obtain⟨f1,f2,f3,f4⟩:=Tn (show(Z1 (Xo g m own d)).2=0 from by
  rw[e]at a9;by_cases hf:(Z1 (Xo g m own d)).2=0;exact hf;rw[if_pos hf]at a9;exact a9)
 have hpl:=Dl hr a4 f1;have hgo:F4 d.kind (ZC (Y0 (Zc g) own).1 d.at').1=true:=f3;rw[k]at hgo;have hf0:(Z1 (Xo g m own d)).2=0:=by
  rw[e]at a9;by_cases hf:(Z1 (Xo g m own d)).2=0;exact hf;rw[if_pos hf]at a9;exact a9
 rw[e,if_neg (by rw[hf0];simp)]at a9 a10 ⊢;have hi0:∀it:Str,d.at'.sc≠1->(if(d.at'.sc==1)=Ht then d.item else it)=it:=λit h=>by rw[if_neg (by simpa using h)]
 have hi1:d.at'.sc=1->ZL (if(d.at'.sc==1)=Ht then d.item else(mk0 m me own d).item)=true:=λh=>by rw[if_pos (by simpa using h)];exact hit (f4 h)
 rw[f2]at a9 a10 ⊢;have f1':(ZC (Y0 (Zc g) own).1 d.at').2=0:=f1;cases hz:Da (ZC (Xo g m own d).F (Xo g m own d).d.at').1 d.text;simp[hz]at a9;rw[hz]at a10;simp only[Je,if_false]at a10 ⊢;have hR:Yk ({ ({ mk0 m me own d with kind:=4,at':=d.at',item:=if(d.at'.sc==1)=Ht then d.item else(mk0 m me own d).item }:Opn)with has:=Ht,text:=d.text }:Opn)=true:=
  Un (Zkj rfl (hi0 _) rfl (λh=>by cases h)) hid hown (by show 1<=clk (X6 m)+1;omega) (by show clk (X6 m)+1<=_;omega) a5 (λ_=>hpl) (λh=>hi1 (by simpa[VZ,Ye]using h)) (by show(-1048576:Int)<=0;decide) (by show(0:Int)<=1048576;decide) (DX hz) (W7 a10 (by simp[mk0]) (by simp[mk0]))
 exact⟨hR,ZbG hR f1 (.inr (.inl ⟨by show(4:Int)≠3;decide,rfl,hz⟩)),rfl,a10⟩;have e:Y9 g (Xo g m own d) (mk0 m me own d)=if(Z1 (Xo g m own d)).2≠0 then((mk0 m me own d,Hf),(Z1 (Xo g m own d)).2)else(({ ({ mk0 m me own d with kind:=4,at':=d.at',item:=if(d.at'.sc==1)=Ht then d.item else(mk0 m me own d).item }:Opn)with drops:=Yp (alC g m d.cart) (Zcf g (Xo g m own d)) },Ht),if(Yp (alC g m d.cart) (Zcf g (Xo g m own d))).isEmpty=Ht then 12 else 0):=by
  unfold Y9 WG GC;simp only[show(Xo g m own d).d=d from rfl,show(Xo g m own d).al=alC g m d.cart from rfl,k,Ju,Ja,if_false,if_true]
 obtain⟨f1,f2,f3,f4⟩:=Tn (show(Z1 (Xo g m own d)).2=0 from by
  rw[e]at a9;by_cases hf:(Z1 (Xo g m own d)).2=0;exact hf;rw[if_pos hf]at a9;exact a9)
 have hpl:=Dl hr a4 f1;have hgo:F4 d.kind (ZC (Y0 (Zc g) own).1 d.at').1=true:=f3;rw[k]at hgo;have hf0:(Z1 (Xo g m own d)).2=0:=by
  rw[e]at a9;by_cases hf:(Z1 (Xo g m own d)).2=0;exact hf;rw[if_pos hf]at a9;exact a9
 rw[e,if_neg (by rw[hf0];simp)]at a9 a10 ⊢;have hi0:∀it:Str,d.at'.sc≠1->(if(d.at'.sc==1)=Ht then d.item else it)=it:=λit h=>by rw[if_neg (by simpa using h)]
 have hi1:d.at'.sc=1->ZL (if(d.at'.sc==1)=Ht then d.item else(mk0 m me own d).item)=true:=λh=>by rw[if_pos (by simpa using h)];exact hit (f4 h)
 have hR:Yk ({ ({ mk0 m me own d with kind:=4,at':=d.at',item:=if(d.at'.sc==1)=Ht then d.item else(mk0 m me own d).item }:Opn)with drops:=Yp (alC g m d.cart) (Zcf g (Xo g m own d)) }:Opn)=true:=
  Un (Zkj rfl (hi0 _) rfl (λ_=>rfl)) hid hown (by show 1<=clk (X6 m)+1;omega) (by show clk (X6 m)+1<=_;omega) a5 (λ_=>hpl) (λh=>hi1 (by simpa[VZ,Ye]using h)) (by show(-1048576:Int)<=0;decide) (by show(0:Int)<=1048576;decide) (by show((0:Nat):Int)<=40;decide) (W7 a10 (hM _) (hD _))
 exact⟨hR,ZbG hR f1 (.inr (.inr ⟨by show(4:Int)≠3;decide,rfl,by simpa[F4]using hgo⟩)),rfl,a10⟩;have e:Y9 g (Xo g m own d) (mk0 m me own d)=(({ mk0 m me own d with kind:=5,drops:=Yp (alC g m d.cart) λq=>q.item != [] },Ht),if(Yp (alC g m d.cart) λq=>q.item != []).isEmpty=Ht then 12 else 0):=by
  unfold Y9;simp only[Xo,k];rfl
 rw[e]at a10 ⊢;have hR:Yk ({ mk0 m me own d with kind:=5,drops:=Yp (alC g m d.cart) λq=>q.item != [] }:Opn)=true:=
  Un rfl hid hown (by show 1<=clk (X6 m)+1;omega) (by show clk (X6 m)+1<=_;omega) a5 (λh=>by cases h) (λh=>by cases h) (by show(-1048576:Int)<=0;decide) (by show(0:Int)<=1048576;decide) (by show((0:Nat):Int)<=40;decide) (W7 a10 (hM _) (hD _))
 exact⟨hR,by unfold DY;rw[hR];rfl,rfl,a10⟩
open Go.PL Go.PL.Srt
theorem ZdK {m:List Opn} {o:Opn} (h:(m.map Opn.id).Nodup):((X7 m o).1.map Opn.id).Nodup:=by
 unfold X7;split;exact h;split;exact h;split;exact h;rename_i hn;split;exact h;split;exact h;rw[Js,List.nodup_append];refine⟨h,by simp,λa ha b hb e=> ?_⟩;simp only[Jq,JQ,JG]at hb;obtain⟨x,hx,rfl⟩:=Jh.1 ha;apply hn;rw[UT,List.find?_isSome];exact⟨x,hx,by simpa using e.trans hb⟩
theorem ZeZ (l:List Opn):((Vu l).map Opn.id).Nodup:=by
 unfold Vu
 suffices g:∀(l acc:List Opn),(acc.map Opn.id).Nodup->((l.foldl (λm o=>(X7 m o).1) acc).map Opn.id).Nodup from g l [] (by simp)
 intro l;induction l with
 |nil=>exact λacc h=>h
 |cons o l ih=>exact λacc h=>ih _ (ZdK h)
theorem ZmB {g:List Eg} {m:List Opn} {me:Int} {own:Tg} {d:De} (hr:RightM g) (hk:PoolOk m) (h:(Wt g m me own d).2=0):(X7 m (Wt g m me own d).1).2=0:=by
 obtain⟨r1,r2,r3,r4⟩:=ZhV hr hk h;obtain⟨⟨a1,a2⟩,_,_,_,_,a7,_⟩:=Gt h;generalize (Wt g m me own d).1=o at *;rw[Du hk,if_neg (by rw[r1];simp)];have hv:F5 (VM m) o.id=false:=by
  rw[r3];unfold F5;simp only;rw[Xa m (by omega)];simp;intro _;omega
 rw[if_neg (by rw[hv];simp),if_neg (by rw[r3];simp),if_neg (by omega)]
theorem ZmA {g:List Eg} {m:List Opn} {me:Int} {own:Tg} {d:De}:(Wt g m me own d).1.drops.length<=60:=by
 unfold Wt;repeat' split
 all_goals first|exact Jl _|(simp only;omega)
open Go.PL Go.PL.Srt
theorem GZ {l:List Opn} (h:(l.map Opn.id).Nodup):l.Nodup:=by
 rw[Jg,List.pairwise_map]at h;exact h.imp λh e=>h (congrArg _ e)
theorem ZdC {m:List Opn} (h:PoolOk m) (hn:(m.map Opn.id).Nodup):(X6 m).Perm m:=by
 have h1:(X6 m).Nodup:=GZ h.nodup;have h2:m.Nodup:=GZ hn;exact(List.perm_ext_iff_of_nodup h1 h2).2 λo=>SC h
theorem Zgx {g:List Eg} {l l':List Opn} (p:l.Perm l') (hn:(l.map Opn.id).Nodup):UE g l=UE g l':=by
 unfold UE;have hr:(YU g l).Perm (YU g l'):=p.filter _;have hd:∀t,XD (YU g l) t=XD (YU g l') t:=λt=>by
  rw[Bool.eq_iff_iff];unfold XD;rw[Jp,Jp];exact⟨λ⟨o,h1,h2⟩=>⟨o,hr.mem_iff.1 h1,h2⟩,λ⟨o,h1,h2⟩=>⟨o,hr.mem_iff.2 h1,h2⟩⟩
 have ha:(WJ g l).Perm (WJ g l'):=by
  unfold WJ;have:(λo:Opn=> !XD (YU g l') o.id)=λo:Opn=> !XD (YU g l) o.id:=by funext o;rw[hd]
  rw[this];exact hr.filter _
 exact FJ Ty (Zcl (Jg.sublist ((XI g l).map _) hn)) ha
open Go.PL Go.PL.Srt
theorem Zqe {m:List Opn} (h:(m.map Opn.id).Nodup) {x y:Opn} (hx:x∈m) (hy:y∈m) (e:x.id=y.id):x=y:=by
 induction m with
 |nil=>cases hx
 |cons a m ih=>
  rw[Jq,List.nodup_cons]at h;rcases JE.1 hx with rfl|hx'<;>rcases JE.1 hy with rfl|hy'
  rfl;exact(h.1 (Jh.2 ⟨y,hy',e.symm⟩)).elim;exact(h.1 (Jh.2 ⟨x,hx',e⟩)).elim;exact ih h.2 hx' hy'
theorem ZhY {g:List Eg} {m:List Opn} {o:Opn} {c:Str} (hnd:((m++ [o]).map Opn.id).Nodup) (hc:o.cart≠c) (hd:∀t∈o.drops,∃x∈m,x.id=t/\x.cart≠c):Xh (UE g (m++ [o])) c=Xh (UE g m) c:=by
 have hnd':(m.map Opn.id).Nodup:=Jg.sublist ((Jv m [o]).map _) hnd;have h1:Unl XM (WJ g (m++ [o])):=Zcl (Jg.sublist ((XI g _).map _) hnd);have h2:Unl XM (WJ g m):=Zcl (Jg.sublist ((XI g _).map _) hnd');have e:(WJ g (m++ [o])).filter (λx=>x.cart==c)=(WJ g m).filter (λx=>x.cart==c):=by
  have hro:∀x∈YU g [o],x=o:=λx hx=>by simpa using(Jf.1 hx).1
  have hr:YU g (m++ [o])=YU g m++YU g [o]:=by unfold YU;rw[Jk]
  unfold WJ;rw[hr,Jk,Jk];have z:((YU g [o]).filter λx=> !XD (YU g m++YU g [o]) x.id).filter (λx=>x.cart==c)= []:=by
   rw[List.filter_eq_nil_iff];intro x hx;rw[hro x (Jf.1 hx).1];simpa using hc
  rw[z,Ji,JH,JH];refine List.filter_congr λx hx=> ?_
  cases hxc:x.cart==c;simp;have hx':x∈m:=(SG g m).mem hx;have:XD (YU g m++YU g [o]) x.id=XD (YU g m) x.id:=by
   unfold XD;rw[List.any_append];have:((YU g [o]).any λo=>decide (x.id∈o.drops))=false:=by
    rw[List.any_eq_false];intro y hy;rw[hro y hy];simp only[decide_eq_true_eq];intro hm;obtain⟨w,hw,e1,e2⟩:=hd _ hm;have:=Zqe hnd' hw hx' e1;subst this;exact e2 (by simpa using hxc)
   rw[this,JF]
  rw[this]
 unfold Xh UE;rw[Zbg Ty h1,Zbg Ty h2,e]
theorem ZiA {g:List Eg} {m:List Opn} {o:Opn} {c:Str} {b:Tg} (hk:PoolOk m) (hk':PoolOk (m++ [o])) (hnd:((m++ [o]).map Opn.id).Nodup) (hc:o.cart≠c) (hd:∀t∈o.drops,∃x∈m,x.id=t/\x.cart≠c):Zak g (X6 (m++ [o])) c b=Zak g (X6 m) c b:=by
 have hnd':(m.map Opn.id).Nodup:=Jg.sublist ((Jv m [o]).map _) hnd;have p1:=ZdC hk hnd';have p2:=ZdC hk' hnd;have l1:=Dt hk;have l2:=Dt hk';have e:Xh (UE g (X6 (m++ [o]))) c=Xh (UE g (X6 m)) c:=by
  rw[Zgx p2 hk'.nodup,Zgx p1 hk.nodup];exact ZhY hnd hc hd
 have n1:¬400<((X6 (m++ [o])).length:Int):=by have:=hk'.l;omega
 have n2:¬400<((X6 m).length:Int):=by have:=hk.l;omega
 unfold Zak;rw[if_neg n1,if_neg n2,e]
theorem ZjX {g:List Eg} {m:List Opn} {me:Int} {own:Tg} {d:De} (hk:PoolOk m) (h:(Wt g m me own d).2=0):(Wt g m me own d).1.cart=d.cart/\ ∀t∈(Wt g m me own d).1.drops,∃x∈m,x.id=t/\x.cart=d.cart:=by
 obtain⟨_,a3,_,_,_,_,_,_,_,a11⟩:=Gt h;rw[a11];have hD:∀p,∀t∈Yp (alC g m d.cart) p,∃x∈m,x.id=t/\x.cart=d.cart:=λp t ht=>by
  rw[Yp,ZgS]at ht;obtain⟨x,hx,rfl⟩:=Jh.1 ht;have hx:=(Jf.1 hx).1;exact⟨x,ZeM hk hx,rfl,by simpa using(Jf.1 hx).2⟩
 have h0:∀t∈(mk0 m me own d).drops,∃x∈m,x.id=t/\x.cart=d.cart:=λt ht=>by cases ht
 generalize hG:Y9 g (Xo g m own d) (mk0 m me own d)=G;unfold Y9 WG GC at hG;repeat' split at hG
 all_goals subst hG;first|exact⟨rfl,h0⟩|exact⟨rfl,hD _⟩
end Go.Proofs.YtepchngegclagaaGreat
