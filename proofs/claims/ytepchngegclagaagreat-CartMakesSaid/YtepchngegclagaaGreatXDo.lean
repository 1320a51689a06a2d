/- Lemmas of the proof. -/
import Derived.Test.YtepchngegclagaaGreatPlH
import Derived.Test.YtepchngegclagaaGreatXAa
import Derived.Test.YtepchngegclagaaGreatXAi
import Derived.Test.YtepchngegclagaaGreatXAo
import Derived.Test.YtepchngegclagaaGreatXBd
import Derived.Test.YtepchngegclagaaGreatXBr
import Derived.Test.YtepchngegclagaaGreatXDy
import Derived.Test.YtepchngegclagaaGreatXEp
set_option maxHeartbeats 64000000
set_option maxRecDepth 20000
set_option linter.unusedVariables false
set_option linter.unusedSimpArgs false
open Inhabited renaming default→Jd
open Bool renaming true→Ht,false→Hf
open Go.Proofs.Tryz
open Go Go.PL
open Bool renaming and_eq_true→Ja,true_eq_false→Jc,false_eq_true→Je,true_and→Ji,false_and→Jo,not_eq_true'→Jp,or_eq_false_iff→Js,eq_iff_iff→Jt
open Gh renaming nilRowB→Jf,nilPlainB→JS
open Int renaming natCast_nonneg→Jb,reduceBEq→Jw,le_refl→JD,reduceEq→JR
open List renaming findIdx?_eq_some_iff_getElem→Jg,map_append→Jh,mem_singleton→Jj,length_append→Jk,getElem_of_mem→Jn,all_eq_true→Jq,any_eq_true→Jr,findIdx?_eq_none_iff→Ju,pairwise_iff_getElem→Jv,take_length→Jy,length_take→Jz,length_drop→JA,mem_filter→JC,mem_range→JE,takeWhile_cons→JF,mergeSort_perm→JG,filter_sublist→JH,length_take_le→JI,foldl_append→JJ,mem_map→JK,perm_middle→JL,mem_append→JM,length_map→JN,Nodup→JO,map_cons→JP,mem_cons→JQ
open Nat renaming zero_le→Jm
open PV renaming ids→Jl,idsL→JB,int→JU
open Prod renaming ext→JT
namespace Go.Proofs.YtepchngegclagaaGreat
open Go.PL
structure OkDd (d:Dc):Prop where
 h:d.head.length<=100000
 r:d.rows.length<=100000
 e:∀e∈d.head,e.l.length<=1000000
 s:∀r∈d.rows,r.l.length<=100000/\ ∀e∈r.l,e.l.length<=1000000
structure DiX (p q:List Rw) (h0:List Cg) where
 P:List Rw
 Q:List Rw
 acc:List Cg
 id:Nat
 hP:∀r∈P,r∈p
 hQ:∀r∈Q,r∈q
 hl:acc.length+16*(P.length+Q.length)<=16+16*(p.length+q.length)
 h:acc++ZcA P Q=h0++ZcA p q
 hid:id=25\/id=91\/id=121\/id=44
open Go.PL
def V8 (l:List Opn):List Opn:=l.foldl (λm o=>(WQ m o).1) []
theorem Sc (l:List Opn):PoolOk (V8 l):=by
 unfold V8
 suffices h:∀m,PoolOk m->PoolOk (l.foldl (λm o=>(WQ m o).1) m)from h [] ZiH
 induction l with
 |nil=>intro m h;exact h
 |cons o l ih=>intro m h;exact ih _ (h.put o)
theorem Zik {l:List Opn} {k:Nat} (h:k<l.length):V8 (l.take (k+1))=(WQ (V8 (l.take k)) (l.getD k Jd)).1:=by
 unfold V8;rw[Yx (d:=Jd) h,JJ];rfl
theorem ZkS {m:List Opn} {o x:Opn} (h:x∈(WQ m o).1):x∈m\/x=o:=by
 unfold WQ at h;repeat' split at h
 all_goals first|exact .inl h|exact(JM.1 h).imp id (λh=>Jj.1 h)
theorem Zd8 {l:List Opn} {x:Opn} (h:x∈V8 l):x∈l:=by
 unfold V8 at h
 suffices g:∀m,x∈l.foldl (λm o=>(WQ m o).1) m->x∈m\/x∈l from(g [] h).resolve_left (by simp)
 clear h;induction l with
 |nil=>intro m h;exact .inl h
 |cons o l ih=>
  intro m h;rcases ih _ h with h|h;rcases ZkS h with h|rfl;exact .inl h;exact .inr (by simp);exact .inr (by simp[h])
open Go.PL
theorem Zki (m:List Opn) (t:Tg):(ixO m t<0/\TK m t=none)\/ ∃k,k<m.length/\ixO m t=(k:Int)/\TK m t=some (m.getD k Jd):=by
 unfold ixO TK;cases h:m.findIdx? λo=>decide (o.id=t)with
 |none=>exact .inl ⟨by decide,List.find?_eq_none.2 λo ho=>by rw[Ju]at h;simpa using h o ho⟩
 |some k=>
  obtain⟨h1,h2,h3⟩:=Jg.1 h;refine .inr ⟨k,h1,rfl,?_⟩;rw[getD_lt h1];exact List.find?_eq_some_iff_getElem.2 ⟨h2,k,h1,rfl,λj hj=>by simpa using h3 j hj⟩
def opi (x:List Opn×Int):PV:= .tup [Zr x.1,.int .i64 x.2]
theorem Zc1 (x:List Opn×Int):(opi x).dids= []:=by simp only[opi,PV.dids,PV.didsL,TS,List.append_nil]
theorem Zfu (m:List Opn) (o:Opn) (hl:m.length<=100000) (ho:OkOp o) (hm:∀x∈m,OkOp x):Pp 33 [Zr m,opv o] (opi (WQ m o)):=by
 have hR:=Tz o;cases hr:Yd o;rw[hr]at hR;have e:WQ m o=(m,5):=by simp[WQ,hr]
 rw[e];refine ZB func33 rfl ntmps33 results33 (Zc1 _) ?_;simp only[go_sem,Zr,opv];refine vc6 hR ?_;simp only[go_sem,opi,Zr];rw[hr]at hR;have hA:=Zbi m o.id hl;rcases Zki m o.id with ⟨h1,h2⟩|⟨k,hk,h1,h2⟩
 ·have h1':¬(0:Int)<=ixO m o.id:=by omega
  have hB:=Zbi m ⟨o.id.r,o.id.n-1⟩ hl;have ht:=GM hr;simp only[W6,Ja,decide_eq_true_eq]at ht;have wn:IntKind.i64.wrap (o.id.n-1)=o.id.n-1:=w64 (by omega);have hrm1:=YX (show m.length<=1000000 by omega) (show 176<=1000 by omega);have hrm2:=YX (show m.length+1<=1000000 by omega) (show 176<=1000 by omega);have hsx:Sized 15 [opv o]:=Xr [o];have hax:Vo [opv o]:=Vq [o];simp only[opv]at hsx hax;have e:WQ m o=if 1<o.id.n/\ixO m ⟨o.id.r,o.id.n-1⟩<0 then(m,17)else if(399:Int)<(m.length:Int)then(m,9)else(m++ [o],0):=by
   have hg:(TK m ⟨o.id.r,o.id.n-1⟩).isSome= !decide (ixO m ⟨o.id.r,o.id.n-1⟩<0):=by
    rcases Zki m ⟨o.id.r,o.id.n-1⟩with ⟨g1,g2⟩|⟨k,hk,g1,g2⟩;rw[g2,decide_eq_true g1];rfl;rw[g2,decide_eq_false (by omega)];rfl
   have hc:((399:Int)<(m.length:Int))=(399<m.length):=by simp only[eq_iff_iff];omega
   unfold WQ;rw[hr,h2,hg];simp only[hc];simp
  rw[e];by_cases hn:1<o.id.n<;>by_cases hg:ixO m ⟨o.id.r,o.id.n-1⟩<0<;>by_cases hc:(399:Int)<(m.length:Int)
  all_goals
   simp only[hn,hg,hc,and_self,and_true,and_false,if_true,if_false];refine ZB func33 rfl ntmps33 results33 (Zc1 _) ?_;simp only[go_sem,Zr,opv];refine vc6 hR ?_;simp only[go_sem];refine vc7 hA ?_;simp only[go_sem];refine vDq ?_;simp only[go_sem,h1',hn,wn,hc,Xr,Vq,hrm1,hrm2,hsx,hax,opi,Zr,Jh,opv];try refine vc7 hB ?_
   try simp only[go_sem,hg,hc,Xr,Vq,hrm1,hrm2,hsx,hax,opi,Zr,Jh,opv]
 have h1':(0:Int)<=ixO m o.id:=by omega
 have hko:=hm _ (ZF (d:=Jd) hk);have hS:=SJ (m.getD k Jd) o (by rw[Zc];have:=hko.d;omega) (by rw[Zc];have:=ho.d;omega);have hgd:=ZZ hk;have k0:=Jb k
 have kI:(k:Int)<(m.length:Int):=by omega
 have e:WQ m o=if m.getD k Jd=o then(m,7)else(m,15):=by simp[WQ,hr,h2]
 rw[e];generalize m.getD k Jd=x at *;by_cases hx:x=o
 all_goals
  simp only[hx,if_true,if_false,decide_true,decide_false]at hS ⊢;refine ZB func33 rfl ntmps33 results33 (Zc1 _) ?_;simp only[go_sem,Zr,opv];refine vc6 hR ?_;simp only[go_sem];refine vc7 hA ?_;simp only[go_sem];refine vDq ?_;simp only[go_sem,h1,k0,kI,hk,hgd,hx,opv];refine vc6 hS ?_;simp only[go_sem,h1,k0,opi,Zr]
open Go.PL Go.PL.Srt
def six (m:List Opn):List (List PV):=(List.range 6).map λi=>(Yn m i).map opv
theorem Zpp (m:List Opn):(six m).length=6:=rfl
theorem YD (m:List Opn):∀l∈six m,∀p∈l,p.ids= []:=λl hl=>by
 obtain⟨i,_,rfl⟩:=JK.1 hl;exact XE WP _
theorem Zdd (m:List Opn) {i:Nat} (h:i<6):(six m).getD i []=(Yn m i).map opv:=by
 unfold six;rw[getD_lt (by simpa using h)];simp
theorem Zpq (m:List Opn) {o:Opn} {i:Nat} (h:i<6) (ho:o.id.r=(i:Int)+1):(six m).set i ((Yn m i).map opv++ [opv o])=six (m++ [o]):=by
 refine List.ext_getElem (by rw[List.length_set];rfl) λj h1 h2=> ?_
 have hj:j<6:=h2;rw[<-getD_lt (d:= []),<-getD_lt (d:= []),Zdd _ hj,Zaw,Jh];by_cases e:i=j;subst e;rw[getD_setE (by rw[Zpp];exact h),if_pos ho];rfl;rw[getD_setN e,Zdd _ hj,if_neg (by omega)];simp
theorem ZX (m:List Opn):ZY 2000 (six m)= [.sl (.row 2000) ((Yn m 0).map opv),.sl (.row 2001) ((Yn m 1).map opv),.sl (.row 2002) ((Yn m 2).map opv),.sl (.row 2003) ((Yn m 3).map opv),.sl (.row 2004) ((Yn m 4).map opv),.sl (.row 2005) ((Yn m 5).map opv)]:=rfl
theorem Zq (m:List Opn):Z1 15 48 2000 (six m)= [(2000,.live (Yn m 0).length 15 48),(2001,.live (Yn m 1).length 15 48),(2002,.live (Yn m 2).length 15 48),(2003,.live (Yn m 3).length 15 48),(2004,.live (Yn m 4).length 15 48),(2005,.live (Yn m 5).length 15 48)]:=by
 show [(2000,Row.live ((Yn m 0).map opv).length 15 _),(2001,.live ((Yn m 1).map opv).length 15 _),(2002,.live ((Yn m 2).map opv).length 15 _),(2003,.live ((Yn m 3).map opv).length 15 _),(2004,.live ((Yn m 4).map opv).length 15 _),(2005,.live ((Yn m 5).map opv).length 15 _)]=_;simp only[JN]
abbrev V2 (m:List Opn):MemL:=Y7 15 48 (six m)
theorem ZmF (l:List Tg):((l.map tg).all λe=>e.cells.all PV.leaf)=true:=by
 rw[Jq];intro e he;obtain⟨t,_,rfl⟩:=JK.1 he;rfl
theorem ZcF (x:Opn×Int):(opc x).flat=true:=by
 simp only[opc,opv,PV.flat,PV.flatL,tgs,ZmF,Bool.and_self]
theorem ZlZ (m:List Opn) (t:Tg) (ho:∀o∈m,OkOp o):Eff prog 57 [.ptr 1000 0,tg t] (V2 m) (opc (findP m t)) (V2 m):=
 .lend (ZhP m t ho) (ZcF _) (YD m) (by simp[tg,Jl,JB])
theorem Zjf (m:List Opn) (hm:PoolOk m):Eff prog 15 [.ptr 1000 0] (V2 m) (.int .i64 (m.length:Int)) (V2 m):=
 .lend (ZdF m hm) rfl (YD m) (by simp)
theorem Zc7 {s:St} {m:List Opn} {n:Int} {rs:List ResultVar} {ph:Nat->Nat} {pq:Nat->Option (Nat×Nat×Nat)} (hr:UR prog (.int .i64 n) s [] rs) (hh:s.m.h 1000=some (ZY 2000 (six m))) (hz:s.m.z 1000=Hf)
  (hq:∀x∈Z1 15 48 2000 (six m),s.m.q x.1=some x.2) (hph:s.m.ph 1000=some (ph 1000)) (hpq:∀x∈Z1 15 48 2000 (six m),s.m.pq x.1=pq x.1):
  ERet prog rs (.int .i64 n) (V2 m) (V2 m) ph pq s:=ZoQ (YD m) hr (.clean rfl) hh hz hq hph hpq
theorem Zkc {m:List Opn} {i:Nat} (o:Opn):∀p∈(Yn m i).map opv++ [opv o],p.ids= []:=λp hp=>by
 rcases JM.1 hp with hp|hp;exact XE WP _ p hp;rw[Jj.1 hp];exact WP o
theorem i0c:((0:Nat):Int)=0:=rfl
theorem i1c:((1:Nat):Int)=1:=rfl
theorem i2c:((2:Nat):Int)=2:=rfl
theorem i3c:((3:Nat):Int)=3:=rfl
theorem i4c:((4:Nat):Int)=4:=rfl
theorem i5c:((5:Nat):Int)=5:=rfl
theorem Fy (m:List Opn) (o:Opn) (hm:PoolOk m) (hom:∀x∈m,OkOp x) (ho:OkOp o):Eff prog 18 [.ptr 1000 0,opv o] (V2 m) (.int .i64 (WQ m o).2) (V2 (WQ m o).1):=by
 have hR:=UT o (by rw[Zc];have:=ho.d;omega);rw[Zc6 hm o];cases hr:Yd o;rw[hr]at hR;refine Eff.pl [] func18 (by decide) rfl ntmps18 results18 (by simp) (YD m) (YD m) rfl (by simp[Jl,WP]) rfl λph pq=> ?_
 simp only[go_sem,ZX,Zq,opv];refine vc6 hR ?_;simp only[go_sem];exact Zc7 rfl rfl rfl (by rw[Zq];exact(Fc6 rfl rfl rfl rfl rfl rfl)) rfl (by rw[Zq];exact(Fc6 rfl rfl rfl rfl rfl rfl));rw[hr]at hR;have ht:=GM hr;have ht':=ht;simp only[W6,Ja,decide_eq_true_eq]at ht';have hF:=ZlZ m o.id hom;cases hb:Za0 (Y2 m) o.id;have hf:findP m o.id=(Jd,6):=by simp[findP,hb]
 rw[hf]at hF;have hL:=Zjf m hm;have hml:=hm.l;obtain⟨i,hi,hri⟩:∃i:Nat,i<6/\o.id.r=(i:Int)+1:=⟨(o.id.r-1).toNat,by omega,by omega⟩;have hi':(o.id.r-1).toNat=i:=by omega
 have e1:IntKind.i64.wrap (o.id.r-1)=(i:Int):=by rw[w64 (by omega)];omega
 have hrl:=XG m i;have w2:IntKind.i64.wrap (((Yn m i).length:Int)+1)=((Yn m i).length:Int)+1:=w64 (by omega);rw[hi'];by_cases hn:o.id.n=((Yn m i).length:Int)+1;have hne:(o.id.n !=((Yn m i).length:Int)+1)=false:=by rw[hn];simp
 by_cases hc:400<=m.length
 ·have hc':(400:Int)<=(m.length:Int):=by omega
  have hq:¬o.id.n≠((Yn m i).length:Int)+1:=λh=>h hn
  simp only[hq,hc,if_true,if_false,Jc,Je];obtain rfl|rfl|rfl|rfl|rfl|rfl:i=0\/i=1\/i=2\/i=3\/i=4\/i=5:=by omega
  all_goals
   refine Eff.pl [] func18 (by decide) rfl ntmps18 results18 (by simp) (YD m) (YD m) rfl (by simp[Jl,WP]) rfl λph pq=> ?_
   simp only[go_sem,ZX,Zq,opv];refine vc6 hR ?_;simp only[go_sem];refine YP hF rfl rfl (by rw[Zq];exact Fc6 ⟨rfl,rfl⟩ ⟨rfl,rfl⟩ ⟨rfl,rfl⟩ ⟨rfl,rfl⟩ ⟨rfl,rfl⟩ ⟨rfl,rfl⟩) (by simp only[go_sem,tg]) ?_;simp only[go_sem,opc,Za];refine vDq ?_;simp only[go_sem,ZX,Zq,e1,i0c,i1c,i2c,i3c,i4c,i5c,w2,hne];refine YP hL rfl rfl (by rw[Zq];exact Fc6 ⟨rfl,rfl⟩ ⟨rfl,rfl⟩ ⟨rfl,rfl⟩ ⟨rfl,rfl⟩ ⟨rfl,rfl⟩ ⟨rfl,rfl⟩) (by simp only[go_sem]) ?_;simp only[go_sem,hc'];exact Zc7 rfl rfl rfl (by rw[Zq];exact(Fc6 rfl rfl rfl rfl rfl rfl)) rfl (by rw[Zq];exact(Fc6 rfl rfl rfl rfl rfl rfl))
 ·have hc':¬(400:Int)<=(m.length:Int):=by omega
  have hq:¬o.id.n≠((Yn m i).length:Int)+1:=λh=>h hn
  simp only[hq,hc,if_false,Jc,Je];have hO:=Ge o ho;have hrm:=YX (show(Yn m i).length+1<=1000000 by omega) (show 176<=1000 by omega);have hsz:=Xr (Yn m i);have hsx:Sized 15 [opv o]:=Xr [o];have hax:Vo [opv o]:=Vq [o];have hlt:((six m).getD i []).length<((Yn m i).map opv++ [opv o]).length:=by rw[Zdd m hi];simp
  simp only[opv]at hsx hax;show Eff _ _ _ _ _ (Y7 15 _ (six (m++ [o])));rw[<-Zpq m hi hri];obtain rfl|rfl|rfl|rfl|rfl|rfl:i=0\/i=1\/i=2\/i=3\/i=4\/i=5:=by omega
  all_goals
   refine Eff.plX _ 55 _ [] func18 (by decide) rfl ntmps18 results18 (by simp) hi (by decide) hlt (YD m) (Zkc o) (by simp[Jl,WP]) rfl λph pq=> ?_
   simp only[go_sem,ZX,Zq,opv];refine vc6 hR ?_;simp only[go_sem];refine YP hF rfl rfl (by rw[Zq];exact Fc6 ⟨rfl,rfl⟩ ⟨rfl,rfl⟩ ⟨rfl,rfl⟩ ⟨rfl,rfl⟩ ⟨rfl,rfl⟩ ⟨rfl,rfl⟩) (by simp only[go_sem,tg]) ?_;simp only[go_sem,opc,Za];refine vDq ?_;simp only[go_sem,ZX,Zq,e1,i0c,i1c,i2c,i3c,i4c,i5c,w2,hne];refine YP hL rfl rfl (by rw[Zq];exact Fc6 ⟨rfl,rfl⟩ ⟨rfl,rfl⟩ ⟨rfl,rfl⟩ ⟨rfl,rfl⟩ ⟨rfl,rfl⟩ ⟨rfl,rfl⟩) (by simp only[go_sem]) ?_;simp only[go_sem,hc'];refine vDq ?_;simp only[go_sem,ZX,Zq,opv];refine vc6 hO ?_;simp only[go_sem,opv,hrm,hsz,hsx,hax];exact ZmD (r0:= .int .i64 0) hi rfl (.clean rfl) rfl rfl (by simp only[Jk,JN];rfl) (by rw[Zq];exact(Fc6 rfl rfl rfl rfl rfl rfl)) rfl (by rw[Zq];exact(Fc6 rfl rfl rfl rfl rfl rfl))
 ·have hne:(o.id.n !=((Yn m i).length:Int)+1)=true:=by simpa using hn
  have hq:o.id.n≠((Yn m i).length:Int)+1:=hn;rw[if_neg (by simp),if_neg (by simp),if_pos hq];obtain rfl|rfl|rfl|rfl|rfl|rfl:i=0\/i=1\/i=2\/i=3\/i=4\/i=5:=by omega
  all_goals
   refine Eff.pl [] func18 (by decide) rfl ntmps18 results18 (by simp) (YD m) (YD m) rfl (by simp[Jl,WP]) rfl λph pq=> ?_
   simp only[go_sem,ZX,Zq,opv];refine vc6 hR ?_;simp only[go_sem];refine YP hF rfl rfl (by rw[Zq];exact Fc6 ⟨rfl,rfl⟩ ⟨rfl,rfl⟩ ⟨rfl,rfl⟩ ⟨rfl,rfl⟩ ⟨rfl,rfl⟩ ⟨rfl,rfl⟩) (by simp only[go_sem,tg]) ?_;simp only[go_sem,opc,Za];refine vDq ?_;simp only[go_sem,ZX,Zq,e1,i0c,i1c,i2c,i3c,i4c,i5c,w2,hne];exact Zc7 rfl rfl rfl (by rw[Zq];exact(Fc6 rfl rfl rfl rfl rfl rfl)) rfl (by rw[Zq];exact(Fc6 rfl rfl rfl rfl rfl rfl))
 have hf:findP m o.id=((Yn m (o.id.r-1).toNat).getD (o.id.n-1).toNat Jd,0):=by simp[findP,hb]
 rw[hf]at hF;have hxm:=(Gx (hm.found hb)).1;have hS:=Zbh ((Yn m (o.id.r-1).toNat).getD (o.id.n-1).toNat Jd) o (by rw[Zc];have:=(hom _ hxm).d;omega) (by rw[Zc];have:=ho.d;omega);rw[if_neg (by simp),if_pos rfl];generalize (Yn m (o.id.r-1).toNat).getD (o.id.n-1).toNat Jd=x at *;by_cases hx:x=o
 all_goals
  simp only[hx,if_true,if_false,decide_true,decide_false]at hS ⊢;refine Eff.pl [] func18 (by decide) rfl ntmps18 results18 (by simp) (YD m) (YD m) rfl (by simp[Jl,WP]) rfl λph pq=> ?_
  simp only[go_sem,ZX,Zq,opv];refine vc6 hR ?_;simp only[go_sem];refine YP hF rfl rfl (by rw[Zq];exact Fc6 ⟨rfl,rfl⟩ ⟨rfl,rfl⟩ ⟨rfl,rfl⟩ ⟨rfl,rfl⟩ ⟨rfl,rfl⟩ ⟨rfl,rfl⟩) (by simp only[go_sem,tg]) ?_;simp only[go_sem,opc,opv,hx];refine vc6 hS ?_;simp only[go_sem];exact Zc7 rfl rfl rfl (by rw[Zq];exact(Fc6 rfl rfl rfl rfl rfl rfl)) rfl (by rw[Zq];exact(Fc6 rfl rfl rfl rfl rfl rfl))
open Go.PL Go.PL.Srt
theorem Zjj:Eff prog 28 [] noV (.ptr 2 0) (ZnU 2 [.sl .nil [],.sl .nil [],.sl .nil [],.sl .nil [],.sl .nil [],.sl .nil []]):=by
 refine Eff.bn [] func28 (by decide) rfl ntmps28 results28 (by simp) (by simp[Jl]) (by simp) (by simp[Jl]) λph pq=> ?_
 simp only[go_sem];exact ZoP (r0:= .ptr 2 0) (by simp[Jl]) rfl (.keep _ (by intro i hi;simp[Jl]at hi;subst hi;exact⟨_,Jj.2 rfl,rfl⟩)) rfl rfl
section
variable {s:St} {n:Nat} {L:List (Nat×PV)} {m:List Opn}
theorem Zek (h0:s.n=n) (hL:∀x∈L,s.fr x.1=x.2) (hb:s.m.h 1000=some (ZY 2000 (six m))) (hz:s.m.z 1000=Hf) (hq:∀x∈Z1 15 48 2000 (six m),s.m.q x.1=some x.2):
  HasX n L [(1000,ZY 2000 (six m),Hf)] (Z1 15 48 2000 (six m)) [] [] [] [] [] [] s:=
 ⟨⟨h0,hL,by simp[hb,hz],hq⟩,by simp,by simp,by simp,by simp,by simp,by simp⟩
theorem ZgJ (hL:∀x∈L,x.2.ids.all (ZV [(1000,ZY 2000 (six m),Hf)] (Z1 15 48 2000 (six m)))=Ht):
  WholeX L [(1000,ZY 2000 (six m),Hf)] (Z1 15 48 2000 (six m)) [] [] [] []:=
 ⟨⟨hL,by simp[ZX,Zq,JB,Jl,ZV]⟩,by simp,by simp,by simp,by simp,by simp⟩
end
open Go.PL Go.PL.Srt
def ZqF (m:List Opn):PV:= .tup [.ptr 1000 0,Zr m,.bool Ht]
theorem Zg1 (m:List Opn):∀j∈(ZqF m).ids,j= .b 1000:=λj hj=>by
 have:(ZqF m).ids= [.b 1000]:=by simp[ZqF,Jl,JB,Zr]
 rw[this]at hj;simpa using hj
theorem ZhM (l:List Opn) (hl:l.length<=100000) (ho:∀o∈l,OkOp o):Eff prog 11 [Zr l] noV (ZqF (V8 l)) (V2 (V8 l)):=by
 have hlm:l.length<=maxLen:=by rw[Zc];omega
 refine Eff.pn [] func11 (by decide) rfl ntmps11 results11 (by simp) (YD _) (by simp[Zr,Jl]) (Zg1 _) λph pq=> ?_
 simp only[go_sem,Zr];refine ZhB 1000 Zjj (by simp[Jl]) (by simp) rfl (by simp only[go_sem]) ?_;simp only[go_sem,PV.ren];refine ZdV 6 11 [] rfl ?_;refine Wj (Jf (b:=1000) (j:=0) (d:=2000) (sz:=15) (e:=48) rfl rfl (by decide) rfl rfl) ?_;refine Wj (Jf (b:=1000) (j:=1) (d:=2001) (sz:=15) (e:=48) rfl rfl (by decide) rfl rfl) ?_;refine Wj (Jf (b:=1000) (j:=2) (d:=2002) (sz:=15) (e:=48) rfl rfl (by decide) rfl rfl) ?_;refine Wj (Jf (b:=1000) (j:=3) (d:=2003) (sz:=15) (e:=48) rfl rfl (by decide) rfl rfl) ?_;refine Wj (Jf (b:=1000) (j:=4) (d:=2004) (sz:=15) (e:=48) rfl rfl (by decide) rfl rfl) ?_;refine Wj (Jf (b:=1000) (j:=5) (d:=2005) (sz:=15) (e:=48) rfl rfl (by decide) rfl rfl) ?_;refine Wx (ι:= { k:Nat // k<=l.length }) 40 (λx=> [(0,Zr l),(5,.ptr 1000 0),(6,Zr (V8 (l.take x.1))),(7,.int .i64 (x.1:Int))]) (λx=> [(1000,ZY 2000 (six (V8 (l.take x.1))),Hf)]) (λx=>Z1 15 48 2000 (six (V8 (l.take x.1)))) (λ_=> []) (λ_=> []) (λ_=> []) (λ_=> []) [] [] [] (λx=>l.length-x.1) ⟨0,Jm _⟩
  (Zek rfl (Fc4 rfl rfl rfl rfl) rfl rfl (by rw[Zq];exact(Fc6 rfl rfl rfl rfl rfl rfl))) (λx=>ZgJ (by simp[Jl,Zr,ZV])) (λx=> ?_)
 obtain⟨k,hk⟩:=x;simp only;have hko:=Sc (l.take k);have hkl:=hko.l;have hfo:∀o∈V8 (l.take k),OkOp o:=λo h=>ho o (List.mem_of_mem_take (Zd8 h))
 by_cases h:(k:Int)<(l.length:Int);have hka:k<l.length:=by omega
 have i1:=Jb k
 have w1:=WD hka hlm;have hxo:=ho _ (ZF (d:=Jd) hka);have hsn:=Zik hka;generalize V8 (l.take k)=m at *;have hP:=Zfu m (l.getD k Jd) (by omega) hxo hfo;have hE:=Fy m (l.getD k Jd) hko hfo hxo;generalize hx:l.getD k Jd=x at *;generalize WQ m x=pm at *;obtain⟨m',c⟩:=pm;simp only[go_sem,Zr,h,ZZ hka,hx,opv,i1,ZX,Zq];refine vc7 hP ?_;simp only[go_sem,opi,Zr,h,ZZ hka,hx,opv,i1,ZX,Zq];refine Su hE rfl rfl rfl (by rw[Zq];exact(Fc6 rfl rfl rfl rfl rfl rfl)) (by simp only[go_sem,opv]) ?_;rw[U5];simp only[go_sem,ZX,Zq,w1];exact⟨⟨k+1,by omega⟩,nx9 (by omega),by simp only[hsn];rw[<-ZX m',<-Zq m'];exact Zek rfl (Fc4 rfl rfl rfl rfl) rfl rfl (by rw[Zq];exact(Fc6 rfl rfl rfl rfl rfl rfl))⟩;obtain rfl:k=l.length:=by omega
 simp only[go_sem,Zr,h,ZX,Zq,Jy];refine ZoR (YD _) (r0:= .tup [.ptr 1000 0,Zr (V8 l),.bool Ht]) rfl (.keep _ λj hj=> ?_) rfl rfl (by rw[Zq];exact(Fc6 rfl rfl rfl rfl rfl rfl));rw[Zg1 (V8 l) j hj];exact⟨_,Jj.2 rfl,rfl⟩
end Go.Proofs.YtepchngegclagaaGreat
namespace Go.PL
end Go.PL
namespace Go.Proofs.YtepchngegclagaaGreat
open Go.PL
structure ClS (v:List Int) (A:List Opn) where
 k:Nat
 ks:List Tg
 hk:k<=A.length
 h:∀t,t∈ks↔t∈(A.take k).map Opn.id
 hd:∀j,j<k-> ∀t∈(A.getD j Jd).drops,Za0 v t=Ht
open Go.PL
theorem Zfs (l:List Fd) (o:Opn) (hl:OkFs l):Pp 191 [Zh l,opv o] (.bool (Sv l o)):=by
 have hR:=Tz o;have hlm:l.length<=maxLen:=by have:=hl.n;rw[Zc];omega
 have hI:Pp 45 [Zh l,ref o.at'] (.int .i64 (idx (atF o.at') l)):=Ua l o.at' hlm;unfold Sv;obtain⟨id,sch,time,cart,kind,item,at',delta,has,text,drops⟩:=o;simp only at hI ⊢;generalize hq:Yd ⟨id,sch,time,cart,kind,item,at',delta,has,text,drops⟩=q at *;cases q;refine ZM func191 rfl ntmps191 results191 ?_;simp only[go_sem,Zh,opv];refine vc6 hR ?_;simp only[go_sem,Jo];simp only[Ji,Yv];by_cases k3:kind=3;have e3:(kind==3)=true:=by simpa using k3
 have e3':(kind !=3)=false:=by simpa using k3
 simp only[e3,Bool.true_or,Jc,if_false,if_pos k3];rcases Xj (atF at') l with h2|⟨g,hg,h2⟩;rw[h2]at hI;have hf:Zv l at'=(Jd,6):=by unfold Zv;rw[h2];rfl
 rw[hf];refine ZM func191 rfl ntmps191 results191 ?_;simp only[go_sem,Zh,opv];refine vc6 hR ?_;simp only[go_sem,e3'];refine vc2 hI ?_;simp only[go_sem,JR,Jo];rw[h2]at hI;have n1:¬(g:Int)<0:=by omega
 have n2:=Jb g
 have n3:(g:Int)<(l.length:Int):=by omega
 have hf:Zv l at'=(l.getD g Jd,0):=by unfold Zv;rw[h2,if_neg (by omega)];simp
 rw[hf];have ek:((l.getD g Jd).kind==1)=decide ((l.getD g Jd).kind=1):=by rw[Jt];simp
 refine ZM func191 rfl ntmps191 results191 ?_;simp only[go_sem,Zh,opv];refine vc6 hR ?_;simp only[go_sem,e3'];refine vc2 hI ?_;simp only[go_sem,e3,n1,n2,n3,Zx hg,fld,ek,Ji];have e3:(kind==3)=false:=by simpa using k3
 have e3':(kind !=3)=true:=by simpa using k3
 by_cases k4:kind=4;have e4:(kind==4)=true:=by simpa using k4
 have e4':(kind !=4)=false:=by simpa using k4
 simp only[e3,e4,Bool.or_true,Jc,if_false,if_neg k3];rcases Xj (atF at') l with h2|⟨g,hg,h2⟩;rw[h2]at hI;have hf:Zv l at'=(Jd,6):=by unfold Zv;rw[h2];rfl
 rw[hf];refine ZM func191 rfl ntmps191 results191 ?_;simp only[go_sem,Zh,opv];refine vc6 hR ?_;simp only[go_sem,e3',e4'];refine vc2 hI ?_;simp only[go_sem,JR,Jo];rw[h2]at hI;have n1:¬(g:Int)<0:=by omega
 have n2:=Jb g
 have n3:(g:Int)<(l.length:Int):=by omega
 have hf:Zv l at'=(l.getD g Jd,0):=by unfold Zv;rw[h2,if_neg (by omega)];simp
 rw[hf];have hcs:=hl.c _ (Zf (d:=Jd) hg);have hT:=Uv (l.getD g Jd) text (by rw[Zc];omega);have ek:((l.getD g Jd).kind==4)=decide ((l.getD g Jd).kind=4):=by rw[Jt];simp
 cases has;refine ZM func191 rfl ntmps191 results191 ?_;simp only[go_sem,Zh,opv];refine vc6 hR ?_;simp only[go_sem,e3',e4'];refine vc2 hI ?_;simp only[go_sem,e3,n1,n2,n3,Zx hg,fld,ek,Ji,if_false];refine ZM func191 rfl ntmps191 results191 ?_;simp only[go_sem,Zh,opv];refine vc6 hR ?_;simp only[go_sem,e3',e4'];refine vc2 hI ?_;simp only[go_sem,e3,n1];refine vDq ?_;simp only[go_sem,n1,n2,n3,Zx hg,fld];refine vc2 hT ?_;simp only[go_sem,Ji,if_true];have e4:(kind==4)=false:=by simpa using k4
 have e4':(kind !=4)=true:=by simpa using k4
 refine ZM func191 rfl ntmps191 results191 ?_;simp only[go_sem,Zh,opv];refine vc6 hR ?_;simp only[go_sem,e3',e4',e3,e4,if_true]
open Go.PL
theorem FA (m:List Eg) (o:Opn) (b:Tg) (hm:OkM m):Pp 147 [egs m,opv o,tg b] (.int .i64 (Xi m o b)):=by
 have hR:=Tz o;have hSa:=YG m o.sch hm;have hSb:=YG m b hm;cases h1:Yd o;rw[h1]at hR;have ht:Xi m o b=5:=by simp[ Xi,h1]
 rw[ht];refine ZM func147 rfl ntmps147 results147 ?_;simp only[go_sem,egs,tg,opv];refine vc6 hR ?_;simp only[go_sem];rw[h1]at hR;by_cases h2:upC m o.sch=0;have okA:=SE hm h2;have hF:=Zfs (Yk (Zd m) o.sch).1 o okA;have v2:(Yk (Zd m) o.sch).2=0:=h2;by_cases h3:upC m b=0;have v3:(Yk (Zd m) b).2=0:=h3;cases h4:Sv (Yk (Zd m) o.sch).1 o;rw[h4]at hF;have ht:Xi m o b=16:=by simp[ Xi,h1,h2,h3,h4]
 rw[ht];clear ht h4 h2 h3 okA;generalize Yk (Zd m) o.sch=ya at *;obtain⟨A,ca⟩:=ya;generalize Yk (Zd m) b=yb at *;obtain⟨B,cb⟩:=yb;simp only at v2 v3 hF;subst v2 v3;refine ZM func147 rfl ntmps147 results147 ?_;simp only[go_sem,egs,tg,opv];refine vc6 hR ?_;simp only[go_sem];refine vc3 hSa ?_;simp only[go_sem,ZC,Zh];refine vc3 hSb ?_;simp only[go_sem,ZC,Zh];refine vc6 hF ?_;simp only[go_sem];rw[h4]at hF;have ht:Xi m o b=0:=by simp[Xi,h1,h2,h3,h4]
 rw[ht];clear ht h4 h2 h3 okA;generalize Yk (Zd m) o.sch=ya at *;obtain⟨A,ca⟩:=ya;generalize Yk (Zd m) b=yb at *;obtain⟨B,cb⟩:=yb;simp only at v2 v3 hF;subst v2 v3;refine ZM func147 rfl ntmps147 results147 ?_;simp only[go_sem,egs,tg,opv];refine vc6 hR ?_;simp only[go_sem];refine vc3 hSa ?_;simp only[go_sem,ZC,Zh];refine vc3 hSb ?_;simp only[go_sem,ZC,Zh];refine vc6 hF ?_;simp only[go_sem];have v3:((Yk (Zd m) b).2 !=0)=true:=by have h':(Yk (Zd m) b).2≠0:=h3;simpa using h'
 have ht:Xi m o b=(Yk (Zd m) b).2:=by
  have e:upC m b=(Yk (Zd m) b).2:=rfl;rw[<-e];simp[Xi,h1,h2,h3]
 rw[ht];clear ht h2 h3 okA;generalize Yk (Zd m) o.sch=ya at *;obtain⟨A,ca⟩:=ya;generalize Yk (Zd m) b=yb at *;obtain⟨B,cb⟩:=yb;simp only at v2 v3 hF;subst v2;refine ZM func147 rfl ntmps147 results147 ?_;simp only[go_sem,egs,tg,opv];refine vc6 hR ?_;simp only[go_sem];refine vc3 hSa ?_;simp only[go_sem,ZC,Zh];refine vc3 hSb ?_;simp only[go_sem,ZC,Zh,v3];have v2:((Yk (Zd m) o.sch).2 !=0)=true:=by have h':(Yk (Zd m) o.sch).2≠0:=h2;simpa using h'
 have ht:Xi m o b=(Yk (Zd m) o.sch).2:=by
  have e:upC m o.sch=(Yk (Zd m) o.sch).2:=rfl;rw[<-e];simp[Xi,h1,h2]
 rw[ht];clear ht h2;generalize Yk (Zd m) o.sch=ya at *;obtain⟨A,ca⟩:=ya;simp only at v2;refine ZM func147 rfl ntmps147 results147 ?_;simp only[go_sem,egs,tg,opv];refine vc6 hR ?_;simp only[go_sem];refine vc3 hSa ?_;simp only[go_sem,ZC,Zh,v2]
theorem ZhZ (m:List Eg) (o:Opn) (b:Tg) (hm:OkM m) (hr:RightM m):Pp 96 [egs m,opv o,tg b] (TY (toT m o b)):=by
 have hK:=FA m o b hm;have hA:=Zh0 m o o.sch b hm hr;unfold toT;by_cases hc:Xi m o b=0;rw[hc]at hK;rw[hc,if_neg (λh=>h rfl)];generalize Zfh m o.sch b o=y at *;obtain⟨q,ok⟩:=y;refine ZB func96 rfl ntmps96 results96 (WT _) ?_;simp only[go_sem,egs,tg,opv];refine vc6 hK ?_;simp only[go_sem];refine vc6 hA ?_;simp only[go_sem,opb,opv,TY];rw[if_pos hc];have hc':(Xi m o b !=0)=true:=by simpa using hc
 refine ZB func96 rfl ntmps96 results96 (WT _) ?_;simp only[go_sem,egs,tg,opv];refine vc6 hK ?_;simp only[go_sem,hc',TY,Za];try rfl
theorem Zbn (m:List Eg) (o:Opn) (hm:OkM m):Pp 91 [egs m,opv o] (.bool (Sx m o)):=by
 have hK:=FA m o Jd hm;have e:(Xi m o Jd==0)=Sx m o:=by
  rw[Jt,beq_iff_eq];exact Zif
 refine ZM func91 rfl ntmps91 results91 ?_;simp only[go_sem,egs,opv];refine Zl hK ?_ ?_ ?_;iterate 2 simp only[go_sem,egs,opv,Sr]
 simp only[go_sem,e]
open Go.PL Go.PL.Srt
theorem Zft (a b:Opn):Pp 93 [opv a,opv b] (.bool (Yu a b)):=by
 have hT:=SL a.id b.id;unfold Yu;by_cases h:a.time=b.time;have e1:¬a.time<b.time:=by omega
 have e2:(a.time==b.time)=true:=by simpa using h
 rw[if_pos h];refine ZM func93 rfl ntmps93 results93 ?_;simp only[go_sem,opv,e1,e2];refine vc3 hT ?_;simp only[go_sem];have e2:(a.time==b.time)=false:=by simpa using h
 rw[if_neg h];by_cases e1:a.time<b.time;refine ZM func93 rfl ntmps93 results93 ?_;simp only[go_sem,opv,e1,e2];refine ZM func93 rfl ntmps93 results93 ?_;simp only[go_sem,opv,e1,e2]
theorem Zo1 {l:List Tg} {t:Tg}:0<=idx (λx=>decide (x=t)) l↔t∈l:=by
 unfold idx;cases h:l.findIdx? λx=>decide (x=t)with
 |none=>
  rw[Ju]at h;refine⟨λhh=>absurd hh (by decide),λhm=> ?_⟩;simpa using h t hm
 |some i=>
  obtain⟨h1,h2,_⟩:=Jg.1 h;refine⟨λ_=> ?_,λ_=>Jb i⟩;have:l[i]=t:=by simpa using h2
  rw[<-this];exact List.getElem_mem h1
def drO (m:List Eg) (o:Opn) (t:Tg):Bool:=decide (t∈o.drops)&&Sx m o
theorem ZjW (m:List Eg) (l:List Opn) (t:Tg):XJ (XV m l) t=l.any λo=>drO m o t:=by
 rw[Jt];simp only[XJ,XV,Jr,JC,drO,Ja,decide_eq_true_eq];exact⟨λ⟨o,⟨h1,h2⟩,h3⟩=>⟨o,h1,h3,h2⟩,λ⟨o,h1,h3,h2⟩=>⟨o,⟨h1,h2⟩,h3⟩⟩
theorem Zck (m:List Eg) (l:List Opn) (t:Tg) (hm:OkM m) (hl:l.length<=100000) (ho:∀o∈l,OkOp o):Pp 92 [egs m,Zr l,tg t] (.bool (XJ (XV m l) t)):=by
 have hlm:l.length<=maxLen:=by rw[Zc];omega
 rw[ZjW];refine ZM func92 rfl ntmps92 results92 ?_;simp only[go_sem,egs,Zr,tg];refine ZA (ι:= { x:Nat // x<=(l).length/\(∀j,j<x->drO m (l.getD j Jd) t=Hf) }) 30 (λx=> [(0,egs m),(1,Zr l),(5,.ptr 5 0),(7,.int .i64 (x.1:Int))]) (λx=> [(5,[.int .i64 t.r,.int .i64 t.n],Hf)]) (λx=> []) (λx=>(l).length-x.1) ⟨0,Jm _,λj hj=>absurd hj (Nat.not_lt_zero j)⟩ ⟨rfl,(Fc4 rfl rfl rfl rfl),(fcs ⟨rfl,rfl⟩ fnl),fnl⟩ (λx=>⟨(Fc4 rfl rfl rfl rfl),(fcs rfl fnl)⟩) (λx=> ?_);obtain⟨k,hk,hI⟩:=x;simp only at hk hI ⊢;by_cases h:(k:Int)<(l.length:Int)
 (have hka:k<(l).length:=by omega);(have w1:=WD hka (hlm));(have i1:=Jb k)
 have hR:=Zbn m (l.getD k Jd) hm;have hH:=Zbl (l.getD k Jd).drops t (by have:=(ho _ (ZF (d:=Jd) hka)).d;rw[Zc];omega);have hmem:=Zo1 (l:=(l.getD k Jd).drops) (t:=t);have hdr:drO m (l.getD k Jd) t=(decide (t∈(l.getD k Jd).drops)&&Sx m (l.getD k Jd)):=rfl;have hat:drO m (l.getD k Jd) t=Ht->(l.any λo=>drO m o t)=true:=λhh=>Jr.2 ⟨_,Zf hka,hh⟩
 generalize hx:l.getD k Jd=x at *;generalize idx (λy=>decide (y=t)) x.drops=q at *;by_cases hq:0<=q;rw[decide_eq_true (hmem.1 hq),Ji]at hdr;cases hrd:Sx m x
 ·rw[hrd]at hR hdr;simp only[go_sem,egs,Zr,h];refine vDq ?_;simp only[go_sem,Zr,h,ZZ hka,hx,opv,i1];refine vc3 hH ?_;simp only[go_sem,hq,Zr,h,ZZ hka,hx,opv,i1];refine vc6 hR ?_;simp only[go_sem,w1];exact⟨⟨k+1,by(try simp only);omega,Zu hI (by rw[hx];exact hdr)⟩,by show(l).length-(k+1)<(l).length-k;omega,⟨rfl,(Fc4 rfl rfl rfl rfl),(fcs ⟨rfl,rfl⟩ fnl),fnl⟩⟩
 rw[hrd]at hR hdr;have hz:=hat hdr;simp only[go_sem,egs,Zr,h];refine vDq ?_;simp only[go_sem,Zr,h,ZZ hka,hx,opv,i1];refine vc3 hH ?_;simp only[go_sem,hq,Zr,h,ZZ hka,hx,opv,i1];refine vc6 hR ?_;simp only[go_sem,hz]
 ·rw[decide_eq_false λhh=>hq (hmem.2 hh),Jo]at hdr;simp only[go_sem,egs,Zr,h];refine vDq ?_;simp only[go_sem,Zr,h,ZZ hka,hx,opv,i1];refine vc3 hH ?_;simp only[go_sem,hq,w1];exact⟨⟨k+1,by(try simp only);omega,Zu hI (by rw[hx];exact hdr)⟩,by show(l).length-(k+1)<(l).length-k;omega,⟨rfl,(Fc4 rfl rfl rfl rfl),(fcs ⟨rfl,rfl⟩ fnl),fnl⟩⟩
 have hz:(l.any λo=>drO m o t)=false:=by
  rw[List.any_eq_false];intro o ho';obtain⟨j,hj,rfl⟩:=Jn ho';have:=hI j (by omega);rw[getD_lt hj]at this;rw[this];simp
 simp only[go_sem,Zr,h,hz]
end Go.Proofs.YtepchngegclagaaGreat
namespace Go.PL
open Srt
end Go.PL
namespace Go.Proofs.YtepchngegclagaaGreat
open Go.PL Go.PL.Srt
theorem X2 (m:List Eg) (l:List Opn) (hm:OkM m) (hl:l.length<=100000) (ho:∀o∈l,OkOp o) (hU:(l.map Opn.id).Nodup):Pp 42 [egs m,Zr l] (Zr (VY m l)):=by
 have hL:=λa b=>Zft a b
 rw[<-Zmf];refine ZB func42 rfl ntmps42 results42 (TS _) ?_;simp only[go_sem,egs,Zr];refine Zoq (ι:= { k:Nat // k<=l.length }) 69 (λx=> [(0,egs m),(1,Zr l),(5,Zr (ZgO m l x.1)),(6,.int .i64 (x.1:Int))]) (λx=> []) (λx=> []) (λx=>l.length-x.1) ⟨0,Jm _⟩
  ⟨rfl,Fc4 (.same rfl) (.same rfl) (.row 9 []) (.same rfl),fnl,fnl⟩ (λx=>⟨(Fc4 rfl rfl rfl rfl),fnl⟩) (λx=> ?_)
 obtain⟨k,hk⟩:=x;simp only;have hlen:=Zmg m l k;by_cases hlt:(k:Int)<(l.length:Int);have hka:k<l.length:=by omega
 have i0:=Jb k
 have w1:=wk9 (k:=k) (by omega)
 have hs:=Zjz m hU hka;have hgd:=ZZ hka;have hR:=Zbn m (l.getD k Jd) hm;have hD:=Zck m l (l.getD k Jd).id hm hl ho;have hab:Zqx m l (l.getD k Jd)=(Sx m (l.getD k Jd)&& !XJ (XV m l) (l.getD k Jd).id):=rfl;generalize ZgO m l k=out at *;generalize hs2:ZgO m l (k+1)=out2 at *;generalize he:l.getD k Jd=e at *;generalize XJ (XV m l) e.id=dr at *;cases hr:Sx m e;rw[hr]at hR hab;rw[hab,Jo,if_neg (by simp)]at hs;simp only[go_sem,egs,Zr,hlt,hgd,i0,opv];refine vc6 hR ?_;simp only[go_sem,w1];refine⟨⟨k+1,by omega⟩,nx9 (by omega),?_⟩;simp only[hs2,hs];exact⟨rfl,Fc4 (.same rfl) (.same rfl) (.same rfl) (.same rfl),fnl,fnl⟩;rw[hr]at hR hab;cases hdr:dr;rw[hdr]at hD hab;rw[hab,if_pos (by rfl)]at hs;have hpl:=ZkQ out e;have hX:out2.map opv=(out.take (Um out e)).map opv++ [opv e]++(out.drop (Um out e)).map opv:=by
  rw[hs];simp only[Jh,JP,List.map_nil]
 have hpI:((Um out e:Nat):Int)<=(out.length:Int):=by omega
 have hlp:(out.take (Um out e)).length=Um out e:=by rw[Jz];omega
 have hld:(out.drop (Um out e)).length=out.length-Um out e:=by rw[JA]
 have hrm1:=YX (show Um out e<=1000000 by omega) (show 176<=1000 by omega);have hrm2:=YX (show Um out e+1<=1000000 by omega) (show 176<=1000 by omega);have hrm3:=YX (show Um out e+1+(out.length-Um out e)<=1000000 by omega) (show 176<=1000 by omega);have hs1:∀(a:List Opn),Sized 15 (a.map opv++ [opv e]):=λa=>by have:=Xr (a++ [e]);rwa[Jh]at this
 simp only[go_sem,egs,Zr,hlt,hgd,i0,opv];refine vc6 hR ?_;simp only[go_sem,hgd,i0,hlt,opv];refine vc7 hD ?_;simp only[go_sem];refine ZA (ι:= { j:Nat // j<=Um out e }) 69 (λx=> [(0,egs m),(1,Zr l),(5,Zr out),(6,.int .i64 (k:Int)),(7,.int .i64 (x.1:Int))]) (λx=> []) (λx=> []) (λx=>Um out e-x.1) ⟨0,Jm _⟩ ⟨rfl,(Fc5 rfl rfl rfl rfl rfl),fnl,fnl⟩ (λx=>⟨(Fc5 rfl rfl rfl rfl rfl),fnl⟩) (λx=> ?_);obtain⟨j,hj⟩:=x;simp only;by_cases hjl:(j:Int)<(out.length:Int);have hja:j<out.length:=by omega
 have j0:=Jb j
 have hgj:=ZZ hja;by_cases hjp:j<Um out e;have ht:=Zgb out e j hjp;have w2:=wk9 (k:=j) (by omega)
 simp only[go_sem,Zr,hjl];refine vDq ?_;simp only[go_sem,Zr,hjl,hgd,hgj,opv,i0,j0,hlt];refine vc6 (hL e (out.getD j Jd)) ?_;simp only[go_sem,ht,w2];exact⟨⟨j+1,by omega⟩,by show Um out e-(j+1)<Um out e-j;omega,⟨rfl,(Fc5 rfl rfl rfl rfl rfl),fnl,fnl⟩⟩;obtain rfl:j=Um out e:=by omega
 have ht:=Zal out e hja;simp only[go_sem,Zr,hjl];refine vDq ?_;simp only[go_sem,Zr,hjl,hgd,hgj,opv,i0,j0,hlt];refine vc6 (hL e (out.getD (Um out e) Jd)) ?_;simp only[go_sem,ht,hgd,i0,j0,hpI,hlt,Zd2,Zd0,Xr,hs1,Vq,hrm1,hrm2,hrm3,hlp,hld,Jk,w1,opv];refine⟨JD _,hs1 _,⟨k+1,by omega⟩,nx9 (by omega),?_⟩;simp only[hs2,Zr,hX];exact⟨rfl,Fc4 (.same rfl) (.same rfl) (.row 67 _) (.same rfl),fnl,fnl⟩;obtain rfl:j=Um out e:=by omega
 have j0:(0:Int)<=((Um out e:Nat):Int):=by omega
 simp only[go_sem,Zr,hjl];refine vDq ?_;simp only[go_sem,Zr,hjl,hgd,i0,j0,hpI,hlt,Zd2,Zd0,Xr,hs1,Vq,hrm1,hrm2,hrm3,hlp,hld,Jk,w1,opv];refine⟨JD _,hs1 _,⟨k+1,by omega⟩,nx9 (by omega),?_⟩;simp only[hs2,Zr,hX];exact⟨rfl,Fc4 (.same rfl) (.same rfl) (.row 67 _) (.same rfl),fnl,fnl⟩;rw[hdr]at hD hab;rw[hab,if_neg (by simp)]at hs;simp only[go_sem,egs,Zr,hlt,hgd,i0,opv];refine vc6 hR ?_;simp only[go_sem,hgd,i0,hlt,opv];refine vc7 hD ?_;simp only[go_sem,w1];refine⟨⟨k+1,by omega⟩,nx9 (by omega),?_⟩;simp only[hs2,hs];exact⟨rfl,Fc4 (.same rfl) (.same rfl) (.same rfl) (.same rfl),fnl,fnl⟩;obtain rfl:k=l.length:=by omega
 simp only[go_sem,Zr,hlt]
open Go.PL Go.PL.Srt
def Tw (g:List Eg) (o:Opn) (own:Tg) (d:De) (item:Str):Bool:=
 if(o.cart==d.cart)=Hf then Hf else if(d.kind==2)=Ht then o.item==d.item else if(d.kind==7)=Ht then o.item != []
 else(toT g o own).ok&&(((toT g o own).o.kind==4)&&(decide ((toT g o own).o.at'=d.at')&&(((toT g o own).o.item==item)&&((d.kind==4)||((d.kind==6)&&((toT g o own).o.has&&((toT g o own).o.text==d.text)))))))
theorem Ud (g:List Eg) (o:Opn) (own:Tg) (d:De) (item:Str) (hm:OkM g) (hr:RightM g):Pp 48 [egs g,opv o,tg own,ded d,.str item] (.bool (Tw g o own d item)):=by
 have hT:=ZhZ g o own hm hr;unfold Tw;generalize toT g o own=y at *;obtain⟨yo,yk,yc⟩:=y;cases hc:(o.cart==d.cart);have hc':(o.cart !=d.cart)=true:=by rw[bne,hc];rfl
 refine ZM func48 rfl ntmps48 results48 ?_;simp only[go_sem,egs,opv,tg,ded,Yq,hc];have hc':(o.cart !=d.cart)=false:=by rw[bne,hc];rfl
 cases k2:(d.kind==2);cases k7:(d.kind==7)
 ·refine ZM func48 rfl ntmps48 results48 ?_;simp only[go_sem,egs,opv,tg,ded,Yq,hc,k2,k7];refine vc6 hT ?_;simp only[go_sem,TY,opv,ZN];repeat' ((first|(first|apply Zt|apply Zs|apply Zm)<;>intro h|refine vDq ?_)<;>first|simp only[go_sem,h,TY,opv,ZN]|simp only[go_sem,TY,opv,ZN]|skip)
  all_goals simp_all
 refine ZM func48 rfl ntmps48 results48 ?_;simp only[go_sem,egs,opv,tg,ded,Yq,hc,k2,k7];rfl;refine ZM func48 rfl ntmps48 results48 ?_;simp only[go_sem,egs,opv,tg,ded,Yq,hc,k2]
open Go.PL Go.PL.Srt
def TT (l:List Tg) (t:Tg):Nat:=(l.takeWhile λx=>Ye x t).length
def U4 (l:List Tg) (t:Tg):List Tg:=l.take (TT l t)++(t::l.drop (TT l t))
theorem Zpl (l:List Tg) (t:Tg):TT l t<=l.length:=(List.takeWhile_prefix _).length_le
theorem Zgc:∀(l:List Tg) (t:Tg) (k:Nat),k<TT l t->Ye (l.getD k Jd) t=Ht
 | [],t,k,h=>by simp[TT]at h
 |a::l,t,k,h=>by
  unfold TT at h;rw[JF]at h;split at h;rename_i ha;cases k with
  |zero=>simpa using ha
  |succ k=>simpa using Zgc l t k (by simpa[TT]using h)
  simp at h
theorem Zam:∀(l:List Tg) (t:Tg),TT l t<l.length->Ye (l.getD (TT l t) Jd) t=Hf
 | [],t,h=>by simp at h
 |a::l,t,h=>by
  unfold TT at h ⊢;rw[JF]at h ⊢;split;rename_i ha;rw[if_pos ha]at h;have:=Zam l t (by simpa[TT]using h);unfold TT at this;simpa using this;rename_i ha;simpa using ha
theorem Zd3 (l:List Tg) (k:Nat):cut (l.map tg) 0 (k:Int)=(l.take k).map tg:=by simp[cut,List.map_take]
theorem Zd1 (l:List Tg) (k:Nat):cut (l.map tg) (k:Int) (l.length:Int)=(l.drop k).map tg:=by simp[cut,List.map_drop,List.take_of_length_le]
theorem Vx (l:List Tg) (t:Tg) (hl:l.length<=100000):Pp 49 [tgs l,tg t] (tgs (U4 l t)):=by
 have hL:=λa b=>SL a b
 have hpl:=Zpl l t;have hpI:((TT l t:Nat):Int)<=(l.length:Int):=by omega
 have hX:(U4 l t).map tg=(l.take (TT l t)).map tg++ [tg t]++(l.drop (TT l t)).map tg:=by
  unfold U4;simp only[Jh,JP,List.append_assoc,List.singleton_append]
 have hlp:(l.take (TT l t)).length=TT l t:=by rw[Jz];omega
 have hld:(l.drop (TT l t)).length=l.length-TT l t:=by rw[JA]
 have hrm1:=YX (show TT l t<=1000000 by omega) (show 16<=1000 by omega);have hrm2:=YX (show TT l t+1<=1000000 by omega) (show 16<=1000 by omega);have hrm3:=YX (show TT l t+1+(l.length-TT l t)<=1000000 by omega) (show 16<=1000 by omega);have hs1:∀(a:List Tg),Sized 2 (a.map tg++ [tg t]):=λa=>by have:=W5 (a++ [t]);rwa[Jh]at this
 have p0:(0:Int)<=((TT l t:Nat):Int):=by omega
 refine ZB func49 rfl ntmps49 results49 (Fr _) ?_;simp only[go_sem,tgs,tg];refine ZA (ι:= { k:Nat // k<=TT l t }) 35 (λx=> [(0,tgs l),(3,.ptr 3 0),(5,.int .i64 (x.1:Int))]) (λx=> [(3,[.int .i64 t.r,.int .i64 t.n],Hf)]) (λx=> []) (λx=>TT l t-x.1) ⟨0,Jm _⟩ ⟨rfl,(Fc3 rfl rfl rfl),fcs ⟨rfl,rfl⟩ fnl,fnl⟩ (λx=>⟨(Fc3 rfl rfl rfl),fcs rfl fnl⟩) (λx=> ?_);obtain⟨k,hk⟩:=x;simp only;by_cases h:(k:Int)<(l.length:Int);have hka:k<l.length:=by omega
 have k0:=Jb k
 have hgd:=ZO hka;by_cases hkp:k<TT l t;have ht:=Zgc l t k hkp;have w2:=wk9 (k:=k) (by omega)
 simp only[go_sem,tgs];refine vDq ?_;simp only[go_sem,tgs,h,hgd,tg,k0];refine vc3 (hL (l.getD k Jd) t) ?_;simp only[go_sem,ht,w2];exact⟨⟨k+1,by omega⟩,by show TT l t-(k+1)<TT l t-k;omega,⟨rfl,(Fc3 rfl rfl rfl),fcs ⟨rfl,rfl⟩ fnl,fnl⟩⟩;obtain rfl:k=TT l t:=by omega
 have ht:=Zam l t hka;simp only[go_sem,tgs];refine vDq ?_;simp only[go_sem,tgs,h,hgd,tg,k0];refine vc3 (hL (l.getD (TT l t) Jd) t) ?_;simp only[go_sem,ht,tgs,k0,hpI,Zd3,Zd1,W5,hs1,Gp,hrm1,hrm2,hrm3,hlp,hld,Jk,hX];exact⟨JD _,hs1 _,rfl⟩;obtain rfl:k=TT l t:=by omega
 simp only[go_sem,tgs];refine vDq ?_;simp only[go_sem,tgs,h,p0,hpI,Zd3,Zd1,W5,hs1,Gp,hrm1,hrm2,hrm3,hlp,hld,Jk,hX];exact⟨JD _,hs1 _,rfl⟩
open Go.PL Go.PL.Srt
theorem ZkN {x:Ln} {o p:Opn} (h:Ut x o=(p,Ht)):p.kind=o.kind/\p.item=o.item/\p.at'.sc=o.at'.sc:=by
 have key:∀q:Opn×Bool,q=Ut x o->q.2=Ht->q.1.kind=o.kind/\q.1.item=o.item/\q.1.at'.sc=o.at'.sc:=by
  intro q hq hq2;by_cases hp:Xw (ZE x) o.at'<0
  ·subst hq;revert hq2;unfold Ut;rw[if_pos hp];repeat' split
   all_goals first|(intro _;exact⟨rfl,rfl,rfl⟩)|(intro h;exact absurd h (by simp))
  obtain⟨g,_,hg2,hg3⟩:=ZiF hp;by_cases h3:x.kind=3
  ·have hb0:ZQ x o=(o,Hf):=by
    unfold ZQ;rw[if_neg (by omega),if_neg (by omega),if_neg (by omega),if_neg (by omega),if_neg (by omega)]
   subst hq;revert hq2;unfold Ut;rw[if_neg hp,hb0];repeat' split
   all_goals first|(intro _;exact⟨rfl,rfl,rfl⟩)|(intro h;cases h;done)|(rename_i h;exact absurd rfl h)
  by_cases h2:x.kind=2;rw[show ZE x= []by simp[ZE,h2]]at hg2;simp at hg2;have hs:o.at'.sc=x.at'.sc:=by
   rw[<-hg3];unfold ZE at hg2 ⊢;rw[if_neg h2,if_neg h3]at hg2 ⊢;split at hg2;rename_i h9;rw[if_pos h9];match g,hg2 with
   |0,_=>rfl
   |1,_=>rfl
   rename_i h9;rw[if_neg h9];match g,hg2 with
   |0,_=>rfl
  have hc:((Ze x).getD 0 Jd).sc=x.at'.sc:=by
   unfold Ze;rw[if_neg h2,if_neg h3];repeat' split
   all_goals rfl
  have hb:(ZQ x o).1.kind=o.kind/\(ZQ x o).1.item=o.item:=by
   unfold ZQ;repeat' split
   all_goals exact⟨rfl,rfl⟩
  subst hq;revert hq2;unfold Ut;rw[if_neg hp];repeat' split
  intro h;cases h;intro _;exact⟨rfl,rfl,rfl⟩;intro h;cases h;intro _;exact⟨hb.1,hb.2,hc.trans hs.symm⟩
 exact key (p,Ht) h.symm rfl
theorem Zbt:∀(xs:List Ln) {o:Opn},(XO xs o).2=Ht->(XO xs o).1.kind=o.kind/\(XO xs o).1.item=o.item/\(XO xs o).1.at'.sc=o.at'.sc
 | [],o,_=>⟨rfl,rfl,rfl⟩
 |x::xs,o,h=>by
  rw[SO]at h ⊢;cases h1:(Ut x o).2;rw[if_pos h1]at h;cases h;rw[if_neg (by rw[h1];simp)]at h;rw[if_neg (by simp)];obtain⟨a1,a2,a3⟩:=Zbt xs h;obtain⟨b1,b2,b3⟩:=ZkN (x:=x) (o:=o) (p:=(Ut x o).1) (JT rfl h1);exact⟨a1.trans b1,a2.trans b2,a3.trans b3⟩
theorem Zpy {m:List Eg} {o:Opn} {b:Tg} (h:(toT m o b).ok=Ht):Yd o=Ht/\(toT m o b).o.kind=o.kind/\(toT m o b).o.item=o.item/\(toT m o b).o.at'.sc=o.at'.sc:=by
 unfold toT at h ⊢;split at h;cases h;rename_i hc;have hc:Xi m o b=0:=by simpa using hc
 rw[if_neg (by simpa using hc)];simp only at h ⊢;have hr:=(Zbw.1 hc).1;obtain⟨q,h1,h2⟩:=ZnO (p:=(Zfh m o.sch b o).1) (JT rfl h);rw[h2];have:=Zbt (Zb6 m o.sch b).1 (o:=o) (by rw[h1]);rw[h1]at this;exact⟨hr,this.1,this.2.1,this.2.2⟩
theorem ZiN {o:Opn} (h:Yd o=Ht) (hk:o.kind=4) (hs:o.at'.sc≠1):o.item= []:=by
 have hp:o=(Yj o).1:=by
  simp only[Yd,Ja,Jp,Js]at h;simpa using h.1.2
 have:=congrArg Opn.item hp;unfold Yj at this;rw[if_neg (by omega),if_neg (by omega),if_neg (by omega),if_pos hk]at this;simpa[hs]using this
theorem ZeL {m:List Eg} {o:Opn} {b:Tg} (h:(toT m o b).ok=Ht) (hk:(toT m o b).o.kind=4) (hs:(toT m o b).o.at'.sc≠1):(toT m o b).o.item= []:=by
 obtain⟨h1,h2,h3,h4⟩:=Zpy h;rw[h3];exact ZiN h1 (h2▸hk) (h4▸hs)
theorem Zt1 (g:List Eg) (x:Mkr) (o:Opn) (hk:x.d.kind=4):Tw g o x.own x.d (if(x.d.at'.sc==1)=Ht then x.d.item else [])=((o.cart==x.d.cart)&&(US g x o).2):=by
 have hf:=Zhw (m:=g) (o:=o) (b:=x.own);have hi:=ZeL (m:=g) (o:=o) (b:=x.own);unfold Tw US;generalize toT g o x.own=y at *;obtain⟨yo,yk,yc⟩:=y;simp only at hf hi ⊢;cases hc:(o.cart==x.d.cart);simp;simp only[hk,Jc,if_false,Ji];by_cases h0:yc=0;cases yk;simp[h0];by_cases h4:yo.kind=4;by_cases ha:yo.at'=x.d.at';by_cases hs:x.d.at'.sc=1;by_cases hit:yo.item=x.d.item<;>simp[h0,h4,ha,hs,hit]
 have:=hi rfl h4 (by rw[ha];exact hs);simp[h0,h4,ha,hs,this];simp[h0,h4,ha];simp[h0,h4];have:=(hf (.inl h0)).2;simp[h0,this]
theorem Zt2 (g:List Eg) (x:Mkr) (o:Opn) (hk:x.d.kind=6):Tw g o x.own x.d (if(x.d.at'.sc==1)=Ht then x.d.item else [])=((o.cart==x.d.cart)&&Sy g x o):=by
 have hf:=Zhw (m:=g) (o:=o) (b:=x.own);have hi:=ZeL (m:=g) (o:=o) (b:=x.own);unfold Tw Sy US;generalize toT g o x.own=y at *;obtain⟨yo,yk,yc⟩:=y;simp only at hf hi ⊢;cases hc:(o.cart==x.d.cart);simp;simp only[hk,Jc,if_false,Ji];by_cases h0:yc=0;cases yk;simp[h0];by_cases h4:yo.kind=4;by_cases ha:yo.at'=x.d.at';by_cases hs:x.d.at'.sc=1;by_cases hit:yo.item=x.d.item<;>simp[h0,h4,ha,hs,hit]
 have:=hi rfl h4 (by rw[ha];exact hs);simp[h0,h4,ha,hs,this];simp[h0,h4,ha];simp[h0,h4];have:=(hf (.inl h0)).2;simp[h0,this]
theorem Zt0 (g:List Eg) (x:Mkr) (o:Opn) (it:Str) (hk:x.d.kind=2):Tw g o x.own x.d it=((o.cart==x.d.cart)&&(o.item==x.d.item)):=by
 unfold Tw;cases hc:(o.cart==x.d.cart)<;>simp[hk]
theorem Zt3 (g:List Eg) (x:Mkr) (o:Opn) (it:Str) (hk:x.d.kind=7):Tw g o x.own x.d it=((o.cart==x.d.cart)&&(o.item != [])):=by
 unfold Tw;cases hc:(o.cart==x.d.cart)<;>simp[hk]
theorem ins_perm (l:List Tg) (t:Tg):(U4 l t).Perm (t::l):=by
 unfold U4;refine JL.trans ?_;rw[List.take_append_drop]
theorem Ziy {l:List Tg} (h:l.Pairwise λa b=>leT a b=Ht) (t:Tg):(U4 l t).Pairwise λa b=>leT a b=true:=by
 have hA:∀a∈l.take (TT l t),leT a t=true:=λa ha=>by
  obtain⟨k,hk,rfl⟩:=Jn ha;rw[Jz]at hk;have:=Zgc l t k (by omega);rw[getD_lt (by omega)]at this;rw[List.getElem_take];exact Zkm this
 have hB:∀b∈l.drop (TT l t),leT t b=true:=λb hb=>by
  obtain⟨k,hk,rfl⟩:=Jn hb;rw[JA]at hk;rw[List.getElem_drop];have h0:=Zam l t (by omega);rw[getD_lt (by omega)]at h0;have h1:leT t l[TT l t]=true:=by simp[leT,h0]
  cases k with
  |zero=>simpa using h1
  |succ k=>exact GA _ _ _ h1 (Jv.1 h _ _ _ _ (by omega))
 unfold U4;rw[List.pairwise_append,List.pairwise_cons];refine⟨h.sublist (List.take_sublist _ _),⟨hB,h.sublist (List.drop_sublist _ _)⟩,λa ha b hb=> ?_⟩;rcases JQ.1 hb with rfl|hb;exact hA a ha;exact GA _ _ _ (hA a ha) (hB b hb)
theorem Zg3:∀(l acc:List Tg),(acc.Pairwise λa b=>leT a b=Ht)->(l.foldl U4 acc).Perm (acc++l)/\(l.foldl U4 acc).Pairwise λa b=>leT a b=Ht
 | [],acc,h=>⟨by simp,h⟩
 |t::l,acc,h=>by
  obtain⟨h1,h2⟩:=Zg3 l (U4 acc t) (Ziy h t);refine⟨h1.trans ?_,h2⟩;exact((ins_perm acc t).append_right l).trans (JL.symm)
theorem ZaA (l:List Tg):l.foldl U4 []=GS l:=by
 obtain⟨h1,h2⟩:=Zg3 l [] List.Pairwise.nil;exact Zno (by simpa using h1) h2
theorem ZcC (A:List Opn) (c:Str) (p q:Opn->Bool) (h:∀o,q o=((o.cart==c)&&p o)):(Xh A q).foldl U4 []=Z2 (A.filter λo=>o.cart==c) p:=by
 rw[ZaA,Z2,List.filter_filter];unfold Xh;congr 2;exact List.filter_congr λo _=>by rw[h o,Bool.and_comm]
open Go.PL Go.PL.Srt
theorem Zjr:Pp 27 [] (tr (Zd [])):=
 PL.Pure.of_mk Zn6 (λb=>by simp[PV.seal,PV.sealL,upd,tr,Zd,kts,nds,mc]) (Zgu _)
theorem ZqN {p:PV} (h:p.dids= []):p.ids= []:=List.eq_nil_iff_forall_not_mem.2 λi hi=>by
 have:=Uj _ hi;rw[h]at this;cases this
theorem Fb (g:List Eg) (m:List Opn) (me:Int) (own:Tg) (d:De) (hm:OkM g) (hr:RightM g) (hk:PoolOk m) (ho:∀o∈m,OkOp o):Eff prog 12 [tr (Zd g),.ptr 1000 0,.int .i64 me,tg own,ded d] (V2 m) (opc (YJ g m me own d)) (V2 m):=
 Eff.lendP [tr (Zd g)] (Zji g m me own d hm hr hk ho) (ZcF _) (YD m) (λp hp=>by rw[Jj.1 hp];exact ZqN (Zgu _)) (λp hp=>by
  simp only[JQ,List.not_mem_nil,or_false]at hp;rcases hp with rfl|rfl|rfl;rfl;simp[tg,Jl,JB];show JB (Yq d)= [];exact Vs d)
def cA:Str:= [97]
def ZlV:Str:= [112,101,97,114]
def dd1:De:=⟨1,cA,ZlV,Jd,0,[],Jd,Jd⟩
def dd2:De:=⟨3,cA,ZlV,⟨1,[],[113,116,121]⟩,3,[],Jd,Jd⟩
def dd3:De:=⟨2,cA,ZlV,Jd,0,[],Jd,Jd⟩
def oo1:Opn:=⟨⟨1,1⟩,Jd,1,cA,1,ZlV,⟨0,[],[]⟩,0,Hf,[],[]⟩
def oo2:Opn:=⟨⟨1,2⟩,Jd,2,cA,3,ZlV,⟨1,[],[113,116,121]⟩,3,Hf,[],[]⟩
def oo3:Opn:=⟨⟨1,3⟩,Jd,3,cA,2,ZlV,⟨0,[],[]⟩,0,Hf,[],[⟨1,1⟩,⟨1,2⟩]⟩
theorem aw1:YJ [] [] 1 Jd dd1=(oo1,0):=by decide+kernel
theorem aw2:YJ [] [oo1] 1 Jd dd2=(oo2,0):=by decide+kernel
theorem awD:Z2 (alC [] [oo1,oo2] cA) (λq=>q.item==ZlV)= [⟨1,1⟩,⟨1,2⟩]:=by
 rw[Z2,<-ZaA];decide+kernel
theorem awG:YN [] (Ym [] [oo1,oo2] Jd dd3) (mk0 [oo1,oo2] 1 Jd dd3)=(({ mk0 [oo1,oo2] 1 Jd dd3 with kind:=2,item:=ZlV,drops:= [⟨1,1⟩,⟨1,2⟩] },Ht),0):=by
 rw[<-awD];have h:(alC [] [oo1,oo2] cA).any (YT ZlV)=true:=by decide+kernel
 unfold YN;show(if(dd3.kind==1)=Ht then _ else _)=_;rw[if_neg (by decide),if_pos (by decide)];show(if(alC [] [oo1,oo2] cA).any (YT ZlV)=Hf then _ else _)=_;rw[h,if_neg (by decide)];rfl
theorem aw3:YJ [] [oo1,oo2] 1 Jd dd3=(oo3,0):=by
 unfold YJ;rw[awG];decide+kernel
theorem ap1:WQ [] oo1=([oo1],0):=by decide+kernel
theorem ap2:WQ [oo1] oo2=([oo1,oo2],0):=by decide+kernel
theorem ap3:WQ [oo1,oo2] oo3=([oo1,oo2,oo3],0):=by decide+kernel
open Go.PL
theorem Zpg {g:List Eg} {a:Tg} (hr:RightM g) (hu:(Yk (Zd g) a).2=0):a=Jd\/W6 a=true:=by
 have hu:upC g a=0:=hu;obtain⟨w,_,_⟩:=YU hu;generalize Vm g a=W at w;cases w with
 |root=>exact .inl rfl
 |step hn he hw=>
  obtain⟨e1,e2⟩:=XD he;right;have:=hr.r _ e2;rw[ZqE]at this;simp only[Ja]at this;rw[e1];exact this.1
theorem Znp {l:List Tg} {t:Tg}:t∈GS l↔t∈l:=(JG l leT).mem_iff
theorem Zm2 {a b:Tg} (h:leT a b=Ht) (hn:a≠b):Ye a b=true:=by
 rw[Dm]at h;rw[ZaJ];obtain⟨x,y⟩:=a;obtain⟨z,w⟩:=b;simp only[ne_eq,Tg.mk.injEq]at *;omega
theorem Zmz {A:List Opn} (p:Opn->Bool) (hnd:(A.map Opn.id).Nodup):(Z2 A p).Pairwise λa b=>Ye a b=true:=by
 unfold Z2 GS;have h1:=List.pairwise_mergeSort GA Zen ((A.filter p).map Opn.id);have h2:(((A.filter p).map Opn.id).mergeSort leT).Nodup:=(JG _ leT).nodup_iff.2 (JO.sublist (JH.map _) hnd);exact(h1.and h2).imp λh=>Zm2 h.1 h.2
theorem VO {o:Opn} (h60:o.drops.length<=60) (hm:∀t∈o.drops,W6 t=Ht/\t≠o.id) (hp:o.drops.Pairwise λa b=>Ye a b=Ht):W9 o=true:=by
 unfold W9;rw[Ja];refine⟨by simp;omega,Jq.2 λi hi=> ?_⟩;have hi:=JE.1 hi;have hg:=hm _ (ZF (d:=Jd) hi);unfold Y1;rw[hg.1,decide_eq_false hg.2];by_cases h0:i=0;simp[h0];have:=Jv.1 hp (i-1) i (by omega) hi (by omega);rw[<-getD_lt (d:=Jd),<-getD_lt (d:=Jd)]at this;rw[this];simp
theorem Tb {o:Opn} (h1:Yj o=(o,Ht)) (h2:W6 o.id=Ht) (h3:o.sch=Jd\/W6 o.sch=Ht) (h4:1<=o.time) (h5:o.time<=1099511627776) (h6:ZU o.cart=Ht) (h7:Yv o=Ht->Xq o.at'=Ht)
  (h8:UF o=Ht->ZU o.item=Ht) (h9: -1048576<=o.delta) (h10:o.delta<=1048576) (h11:(o.text.length:Int)<=40) (h12:W9 o=Ht):Yd o=true:=by
 have e3:(!decide (o.sch=Jd)&& !W6 o.sch)=false:=by rcases h3 with h|h<;>simp[h]
 have e4:decide (o.time<1)=false:=by simp;omega
 have e5:decide (1099511627776<o.time)=false:=by simp;omega
 have e7:(Yv o&& !Xq o.at')=false:=by
  cases h:Yv o;rfl;rw[h7 h];rfl
 have e8:(UF o&& !ZU o.item)=false:=by
  cases h:UF o;rfl;rw[h8 h];rfl
 have e9:decide (o.delta < -1048576)=false:=by simp;omega
 have e10:decide (1048576<o.delta)=false:=by simp;omega
 have e11:decide ((o.text.length:Int)<=40)=true:=by simpa using h11
 unfold Yd;rw[h1,h2,e3,e4,e5,h6,e7,e8,e9,e10,e11,h12];simp
theorem ZqI {α:Type} [Inhabited α] (p:α->Bool) (l:List α):idx p l= -1\/ ∃i,i<l.length/\idx p l=(i:Int)/\p (l.getD i Jd)=true:=by
 rcases Xj p l with h|⟨k,hk,h⟩;exact .inl h;refine .inr ⟨k,hk,h,?_⟩;cases hp:p (l.getD k Jd);exfalso;unfold idx at h;cases hf:l.findIdx? p with
 |none=>rw[hf]at h;simp at h
 |some j=>
  rw[hf]at h;have:j=k:=by
   have h':(j:Int)=(k:Int):=h;omega
  subst this;obtain⟨h1,h2,_⟩:=Jg.1 hf;rw[getD_lt hk]at hp;rw[hp]at h2;cases h2
 rfl
theorem Fh {g:List Eg} {a:Tg} {r:Rf} (hr:RightM g) (hu:(Yk (Zd g) a).2=0) (hf:(Zv (Yk (Zd g) a).1 r).2=0):Xq r=true:=by
 have hl:=Zk4 hr hu;generalize (Yk (Zd g) a).1=S at *;rcases ZqI (atF r) S with h|⟨i,hi,h,hp⟩;rw[Zv,h]at hf;simp at hf;simp only[Z7,Ja,Jq]at hl;have:=hl.2 i (JE.2 hi);simp only[Vh,Yc,Ja]at this;have e:(S.getD i Jd).at'=r:=by simpa[atF]using hp
 rw[<-e];exact this.1.1
theorem Zjx {g:List Eg} {m:List Opn} {c:Str} (hk:PoolOk m) {o:Opn} (h:o∈alC g m c):o∈m:=(YV hk).1 (W4 (JC.1 h).1)
theorem Zjy {g:List Eg} {m:List Opn} {c:Str} (hk:PoolOk m):((alC g m c).map Opn.id).Nodup:=by
 have h1:((Tn g (Yh m)).map Opn.id).Nodup:=JO.sublist ((Vz g (Yh m)).map _) hk.nodup;have h2:((VY g (Yh m)).map Opn.id).Nodup:=((Zaa g (Yh m)).map Opn.id).nodup_iff.2 h1;exact JO.sublist (JH.map _) h2
theorem Zmb {g:List Eg} {m:List Opn} {c it:Str} (hk:PoolOk m) (h:(alC g m c).any (YT it)=Ht):ZU it=true:=by
 obtain⟨o,ho,ha⟩:=Jr.1 h;have hr:=hk.r o (Zjx hk ho);simp only[YT,Ja,beq_iff_eq]at ha;have hi:UF o=true:=by simp[UF,ha.1]
 simp only[Yd,Ja,Jp,hi,Ji]at hr;have:=hr.2.2.2.2.1;rw[<-ha.2];simpa using this
theorem Do {g:List Eg} {m:List Opn} {me:Int} {own:Tg} {d:De} (h:(YJ g m me own d).2=0):(1<=me/\me<=6)/\(d.kind=1\/d.kind=2\/d.kind=3\/d.kind=4\/d.kind=5\/d.kind=6\/d.kind=7)/\(Yk (Zd g) own).2=0/\ZU d.cart=Ht/\(d.kind=1\/d.kind=2->ZU d.item=Ht)/\m.length<400/\clk (Yh m)<1099511627776/\
  (YN g (Ym g m own d) (mk0 m me own d)).2=0/\(YN g (Ym g m own d) (mk0 m me own d)).1.1.drops.length<=60/\(YJ g m me own d).1=(YN g (Ym g m own d) (mk0 m me own d)).1.1:=by
 unfold YJ at h ⊢;by_cases h1:DI me d=Ht;rw[if_pos h1]at h;simp at h;rw[if_neg h1]at h ⊢;by_cases h2:(Yk (Zd g) own).2≠0;rw[if_pos h2]at h;exact absurd h h2;rw[if_neg h2]at h ⊢;by_cases h3:ZU d.cart=Hf;rw[if_pos h3]at h;simp at h;rw[if_neg h3]at h ⊢;by_cases h4:((d.kind==1||d.kind==2)&& !ZU d.item)=Ht;rw[if_pos h4]at h;simp at h;rw[if_neg h4]at h ⊢;by_cases h5:400<=(m.length:Int);rw[if_pos h5]at h;simp at h;rw[if_neg h5]at h ⊢;by_cases h6:1099511627776<=clk (Yh m);rw[if_pos h6]at h;simp at h;rw[if_neg h6]at h ⊢;generalize YN g (Ym g m own d) (mk0 m me own d)=G at *;by_cases h7:G.2≠0;rw[if_pos h7]at h;exact absurd h h7;rw[if_neg h7]at h ⊢;by_cases h8:60<(G.1.1.drops.length:Int);rw[if_pos h8]at h;simp at h;rw[if_neg h8];simp only[DI,Bool.or_eq_true,decide_eq_true_eq]at h1;refine⟨by omega,by omega,by simpa using h2,by simpa using h3,λhk=> ?_,by omega,by omega,by simpa using h7,by omega,rfl⟩;cases hn:ZU d.item;exfalso;apply h4;rw[hn];rcases hk with e|e<;>rw[e]<;>rfl
 rfl
theorem Sb {x:Mkr} (h:(ZP x).2=0):(Zv x.F x.d.at').2=0/\(ZP x).1=(Zv x.F x.d.at').1/\UE x.d.kind (Zv x.F x.d.at').1=Ht/\(x.d.at'.sc=1->x.al.any (YT x.d.item)=Ht):=by
 unfold ZP at h ⊢;by_cases h1:(Zv x.F x.d.at').2≠0;rw[if_pos h1]at h;exact absurd h h1;rw[if_neg h1]at h ⊢;by_cases h2:UE x.d.kind (Zv x.F x.d.at').1=Hf;rw[if_pos h2]at h;simp at h;rw[if_neg h2]at h ⊢;by_cases h3:x.d.at'.sc=1/\x.al.any (YT x.d.item)=Hf;rw[if_pos h3]at h;simp at h;rw[if_neg h3];refine⟨by simpa using h1,rfl,by simpa using h2,λhs=> ?_⟩;cases ha:x.al.any (YT x.d.item);exact absurd ⟨hs,ha⟩ h3;rfl
theorem Zie {l:List Str} (h:Gs l=Ht) {s:Str} (hs:s∈l):s.length<=12:=by
 simp only[Gs,Jq,JE]at h;obtain⟨i,hi,rfl⟩:=Jn hs;have:=h i hi;simp only[Ug,Ja]at this;have e:l.getD i []=l[i]:=by rw[List.getD_eq_getElem?_getD,List.getElem?_eq_getElem hi];rfl
 rw[e]at this;simp only[ZU,Ja,decide_eq_true_eq]at this;exact this.1.1.2
theorem FT {f:Fd} {s:Str} (h:UC f s=Ht):(s.length:Int)<=40:=by
 simp only[UC,Ja,Jp,decide_eq_false_iff_not]at h;obtain⟨⟨h1,h2⟩,h3⟩:=h;split at h3;rename_i hk;simp only[Yc,Ja]at h1;rw[if_neg h2,if_pos hk,Ja]at h1;have h4:=h1.2.2;simp only[Za6,Ja]at h4;simp only[Jr,beq_iff_eq]at h3;obtain⟨x,hx,rfl⟩:=h3;have:=Zie h4.1 hx;omega;simp only[decide_eq_true_eq]at h3;omega
theorem Zq0 {o:Opn} (hk:o.kind=3) (hi:o.at'.sc≠1->o.item= []) (hh:o.has=Hf) (ht:o.text= []) (hd:o.drops= []):Yj o=(o,Ht):=by
 obtain⟨id,sch,time,cart,kind,item,at',delta,has,text,drops⟩:=o;simp only at hk hi hh ht hd;subst hk hh ht hd;by_cases hs:at'.sc=1;simp[Yj,hs];simp[Yj,hs,hi hs]
theorem ZkO {o:Opn} (hk:o.kind=4) (hi:o.at'.sc≠1->o.item= []) (hd:o.delta=0) (ht:o.has=Hf->o.text= []):Yj o=(o,Ht):=by
 obtain⟨id,sch,time,cart,kind,item,at',delta,has,text,drops⟩:=o;simp only at hk hi hd ht;subst hk hd;cases has;have:=ht rfl;subst this;by_cases hs:at'.sc=1;simp[Yj,hs];simp[Yj,hs,hi hs];by_cases hs:at'.sc=1;simp[Yj,hs];simp[Yj,hs,hi hs]
theorem ZcE {S:List Fd} {o:Opn} (hR:Yd o=Ht) (h1:(Zv S o.at').2=0) (h2:(o.kind=3/\(Zv S o.at').1.kind=1)\/(o.kind≠3/\o.has=Ht/\UC (Zv S o.at').1 o.text=Ht)\/(o.kind≠3/\o.has=Hf/\(Zv S o.at').1.kind=4)):Sv S o=true:=by
 unfold Sv;rw[hR,h1];cases hp:Yv o;simp;rcases h2 with ⟨k,h⟩|⟨k,hh,h⟩|⟨k,hh,h⟩;rw[if_pos k,h];simp;rw[if_neg k,hh,h];simp;rw[if_neg k,hh,h];simp
theorem ZbT {g:List Eg} {m:List Opn} {me:Int} {own:Tg} {d:De} (hr:RightM g) (hk:PoolOk m) (h:(YJ g m me own d).2=0):
  Yd (YJ g m me own d).1=Ht/\Sv (Yk (Zd g) own).1 (YJ g m me own d).1=Ht/\(YJ g m me own d).1.id=⟨me,((Yn m (me-1).toNat).length:Int)+1⟩/\(YJ g m me own d).1.drops.length<=60:=by
 obtain⟨⟨a1,a2⟩,a3,a4,a5,a6,a7,a8,a9,a10,a11⟩:=Do h;rw[a11];have hown:=Zpg hr a4;have hrl:=XG m (me-1).toNat;have hcn:=XC (Yh m);have hid:W6 ⟨me,((Yn m (me-1).toNat).length:Int)+1⟩=true:=by
  simp only[W6,Ja,decide_eq_true_eq];omega
 have hD:∀p,(Z2 (alC g m d.cart) p).Pairwise (λa b=>Ye a b=Ht):=λp=>Zmz p (Zjy hk)
 have hM:∀p,∀t∈Z2 (alC g m d.cart) p,W6 t=Ht/\t≠⟨me,((Yn m (me-1).toNat).length:Int)+1⟩:=λp t ht=>by
  rw[Z2,Znp]at ht;obtain⟨o,ho,rfl⟩:=JK.1 ht;have hom:=Zjx hk (JC.1 ho).1;refine⟨hk.t o hom,λe=> ?_⟩;obtain⟨i,j,hi,hj,e2,_⟩:=hk.at' hom;rw[e2]at e;simp only[Tg.mk.injEq]at e;have:i=(me-1).toNat:=by omega
  subst this;omega
 have hit:(alC g m d.cart).any (YT d.item)=Ht->ZU d.item=true:=Zmb hk;rcases a3 with k|k|k|k|k|k|k;have e:YN g (Ym g m own d) (mk0 m me own d)=if(alC g m d.cart).any (YT d.item)=Ht then((mk0 m me own d,Hf),7)else(({ mk0 m me own d with kind:=1,item:=d.item },Hf),0):=by
  unfold YN;simp only[Ym,k];rfl
 rw[e]at a9 a10 ⊢;cases hs:(alC g m d.cart).any (YT d.item);rw[hs]at a9 a10;simp only[hs,Je,if_false]at a10 ⊢;have hR:Yd ({ mk0 m me own d with kind:=1,item:=d.item }:Opn)=true:=
  Tb rfl hid hown (by show 1<=clk (Yh m)+1;omega) (by show clk (Yh m)+1<=_;omega) a5 (λh=>by cases h) (λ_=>a6 (.inl k)) (by show(-1048576:Int)<=0;decide) (by show(0:Int)<=1048576;decide) (by show((0:Nat):Int)<=40;decide) (VO a10 (by simp[mk0]) (by simp[mk0]))
 exact⟨hR,by unfold Sv;rw[hR];rfl,rfl,a10⟩;simp[hs]at a9;have e:YN g (Ym g m own d) (mk0 m me own d)=if(alC g m d.cart).any (YT d.item)=Hf then((mk0 m me own d,Hf),12)else(({ mk0 m me own d with kind:=2,item:=d.item,drops:=Z2 (alC g m d.cart) λq=>q.item==d.item },Ht),0):=by
  unfold YN;simp only[Ym,k];rfl
 rw[e]at a9 a10 ⊢;cases hs:(alC g m d.cart).any (YT d.item);simp[hs]at a9;rw[hs]at a9 a10;simp only[hs,Jc,if_false]at a10 ⊢;have hR:Yd ({ mk0 m me own d with kind:=2,item:=d.item,drops:=Z2 (alC g m d.cart) λq=>q.item==d.item }:Opn)=true:=
  Tb rfl hid hown (by show 1<=clk (Yh m)+1;omega) (by show clk (Yh m)+1<=_;omega) a5 (λh=>by cases h) (λ_=>a6 (.inr k)) (by show(-1048576:Int)<=0;decide) (by show(0:Int)<=1048576;decide) (by show((0:Nat):Int)<=40;decide) (VO a10 (hM _) (hD _))
 exact⟨hR,by unfold Sv;rw[hR];rfl,rfl,a10⟩;have e:YN g (Ym g m own d) (mk0 m me own d)=if(ZP (Ym g m own d)).2≠0 then((mk0 m me own d,Hf),(ZP (Ym g m own d)).2)else if(decide (1048576<d.n)||decide (d.n < -1048576))=Ht then(({ mk0 m me own d with kind:=4,at':=d.at',item:=if(d.at'.sc==1)=Ht then d.item else(mk0 m me own d).item },Hf),3)else(({ ({ mk0 m me own d with kind:=4,at':=d.at',item:=if(d.at'.sc==1)=Ht then d.item else(mk0 m me own d).item }:Opn)with kind:=3,delta:=d.n },Hf),0):=by
  unfold YN X7 Sw;simp only[show(Ym g m own d).d=d from rfl,show(Ym g m own d).al=alC g m d.cart from rfl,k,Jw,Je,if_false,if_true]
 obtain⟨f1,f2,f3,f4⟩:=Sb (show(ZP (Ym g m own d)).2=0 from by
  rw[e]at a9;by_cases hf:(ZP (Ym g m own d)).2=0;exact hf;rw[if_pos hf]at a9;exact a9)
 have hpl:=Fh hr a4 f1;have hgo:UE d.kind (Zv (Yk (Zd g) own).1 d.at').1=true:=f3;rw[k]at hgo;have hf0:(ZP (Ym g m own d)).2=0:=by
  rw[e]at a9;by_cases hf:(ZP (Ym g m own d)).2=0;exact hf;rw[if_pos hf]at a9;exact a9
 rw[e,if_neg (by rw[hf0];simp)]at a9 a10 ⊢;have hi0:∀it:Str,d.at'.sc≠1->(if(d.at'.sc==1)=Ht then d.item else it)=it:=λit h=>by rw[if_neg (by simpa using h)]
 have hi1:d.at'.sc=1->ZU (if(d.at'.sc==1)=Ht then d.item else(mk0 m me own d).item)=true:=λh=>by rw[if_pos (by simpa using h)];exact hit (f4 h)
 cases hz:(decide (1048576<d.n)||decide (d.n < -1048576));rw[hz]at a10;simp only[Je,if_false]at a10 ⊢;simp only[Js,decide_eq_false_iff_not]at hz;have hR:Yd ({ ({ mk0 m me own d with kind:=4,at':=d.at',item:=if(d.at'.sc==1)=Ht then d.item else(mk0 m me own d).item }:Opn)with kind:=3,delta:=d.n }:Opn)=true:=
  Tb (Zq0 rfl (hi0 _) rfl rfl rfl) hid hown (by show 1<=clk (Yh m)+1;omega) (by show clk (Yh m)+1<=_;omega) a5 (λ_=>hpl) (λh=>hi1 (by simpa[UF,Yv]using h)) (by show-1048576<=d.n;omega) (by show d.n<=1048576;omega) (by show((0:Nat):Int)<=40;decide) (VO a10 (by simp[mk0]) (by simp[mk0]))
 exact⟨hR,ZcE hR f1 (.inl ⟨rfl,by simpa[UE]using hgo⟩),rfl,a10⟩;simp[hz]at a9;have e:YN g (Ym g m own d) (mk0 m me own d)=if(ZP (Ym g m own d)).2≠0 then((mk0 m me own d,Hf),(ZP (Ym g m own d)).2)else if UC (ZP (Ym g m own d)).1 d.text=Hf then(({ mk0 m me own d with kind:=4,at':=d.at',item:=if(d.at'.sc==1)=Ht then d.item else(mk0 m me own d).item },Hf),5)else(({ ({ mk0 m me own d with kind:=4,at':=d.at',item:=if(d.at'.sc==1)=Ht then d.item else(mk0 m me own d).item }:Opn)with has:=Ht,text:=d.text,drops:=Z2 (alC g m d.cart) λq=>(US g (Ym g m own d) q).2 },Ht),0):=by
  unfold YN X7 Sw;simp only[show(Ym g m own d).d=d from rfl,show(Ym g m own d).al=alC g m d.cart from rfl,k,Jw,Je,if_false,if_true]
 obtain⟨f1,f2,f3,f4⟩:=Sb (show(ZP (Ym g m own d)).2=0 from by
  rw[e]at a9;by_cases hf:(ZP (Ym g m own d)).2=0;exact hf;rw[if_pos hf]at a9;exact a9)
 have hpl:=Fh hr a4 f1;have hgo:UE d.kind (Zv (Yk (Zd g) own).1 d.at').1=true:=f3;rw[k]at hgo;have hf0:(ZP (Ym g m own d)).2=0:=by
  rw[e]at a9;by_cases hf:(ZP (Ym g m own d)).2=0;exact hf;rw[if_pos hf]at a9;exact a9
 rw[e,if_neg (by rw[hf0];simp)]at a9 a10 ⊢;have hi0:∀it:Str,d.at'.sc≠1->(if(d.at'.sc==1)=Ht then d.item else it)=it:=λit h=>by rw[if_neg (by simpa using h)]
 have hi1:d.at'.sc=1->ZU (if(d.at'.sc==1)=Ht then d.item else(mk0 m me own d).item)=true:=λh=>by rw[if_pos (by simpa using h)];exact hit (f4 h)
 rw[f2]at a9 a10 ⊢;have f1':(Zv (Yk (Zd g) own).1 d.at').2=0:=f1;cases hz:UC (Zv (Ym g m own d).F (Ym g m own d).d.at').1 d.text;simp[hz]at a9;rw[hz]at a10;simp only[Jc,if_false]at a10 ⊢;have hR:Yd ({ ({ mk0 m me own d with kind:=4,at':=d.at',item:=if(d.at'.sc==1)=Ht then d.item else(mk0 m me own d).item }:Opn)with has:=Ht,text:=d.text,drops:=Z2 (alC g m d.cart) λq=>(US g (Ym g m own d) q).2 }:Opn)=true:=
  Tb (ZkO rfl (hi0 _) rfl (λh=>by cases h)) hid hown (by show 1<=clk (Yh m)+1;omega) (by show clk (Yh m)+1<=_;omega) a5 (λ_=>hpl) (λh=>hi1 (by simpa[UF,Yv]using h)) (by show(-1048576:Int)<=0;decide) (by show(0:Int)<=1048576;decide) (FT hz) (VO a10 (hM _) (hD _))
 exact⟨hR,ZcE hR f1 (.inr (.inl ⟨by show(4:Int)≠3;decide,rfl,hz⟩)),rfl,a10⟩;have e:YN g (Ym g m own d) (mk0 m me own d)=if(ZP (Ym g m own d)).2≠0 then((mk0 m me own d,Hf),(ZP (Ym g m own d)).2)else if UC (ZP (Ym g m own d)).1 d.text=Hf then(({ mk0 m me own d with kind:=4,at':=d.at',item:=if(d.at'.sc==1)=Ht then d.item else(mk0 m me own d).item },Hf),5)else(({ ({ mk0 m me own d with kind:=4,at':=d.at',item:=if(d.at'.sc==1)=Ht then d.item else(mk0 m me own d).item }:Opn)with has:=Ht,text:=d.text },Hf),0):=by
  unfold YN X7 Sw;simp only[show(Ym g m own d).d=d from rfl,show(Ym g m own d).al=alC g m d.cart from rfl,k,Jw,Je,if_false,if_true]
 obtain⟨f1,f2,f3,f4⟩:=Sb (show(ZP (Ym g m own d)).2=0 from by
  rw[e]at a9;by_cases hf:(ZP (Ym g m own d)).2=0;exact hf;rw[if_pos hf]at a9;exact a9)
 have hpl:=Fh hr a4 f1;have hgo:UE d.kind (Zv (Yk (Zd g) own).1 d.at').1=true:=f3;rw[k]at hgo;have hf0:(ZP (Ym g m own d)).2=0:=by
  rw[e]at a9;by_cases hf:(ZP (Ym g m own d)).2=0;exact hf;rw[if_pos hf]at a9;exact a9
 rw[e,if_neg (by rw[hf0];simp)]at a9 a10 ⊢;have hi0:∀it:Str,d.at'.sc≠1->(if(d.at'.sc==1)=Ht then d.item else it)=it:=λit h=>by rw[if_neg (by simpa using h)]
 have hi1:d.at'.sc=1->ZU (if(d.at'.sc==1)=Ht then d.item else(mk0 m me own d).item)=true:=λh=>by rw[if_pos (by simpa using h)];exact hit (f4 h)
 rw[f2]at a9 a10 ⊢;have f1':(Zv (Yk (Zd g) own).1 d.at').2=0:=f1;cases hz:UC (Zv (Ym g m own d).F (Ym g m own d).d.at').1 d.text;simp[hz]at a9;rw[hz]at a10;simp only[Jc,if_false]at a10 ⊢;have hR:Yd ({ ({ mk0 m me own d with kind:=4,at':=d.at',item:=if(d.at'.sc==1)=Ht then d.item else(mk0 m me own d).item }:Opn)with has:=Ht,text:=d.text }:Opn)=true:=
  Tb (ZkO rfl (hi0 _) rfl (λh=>by cases h)) hid hown (by show 1<=clk (Yh m)+1;omega) (by show clk (Yh m)+1<=_;omega) a5 (λ_=>hpl) (λh=>hi1 (by simpa[UF,Yv]using h)) (by show(-1048576:Int)<=0;decide) (by show(0:Int)<=1048576;decide) (FT hz) (VO a10 (by simp[mk0]) (by simp[mk0]))
 exact⟨hR,ZcE hR f1 (.inr (.inl ⟨by show(4:Int)≠3;decide,rfl,hz⟩)),rfl,a10⟩;have e:YN g (Ym g m own d) (mk0 m me own d)=if(ZP (Ym g m own d)).2≠0 then((mk0 m me own d,Hf),(ZP (Ym g m own d)).2)else(({ ({ mk0 m me own d with kind:=4,at':=d.at',item:=if(d.at'.sc==1)=Ht then d.item else(mk0 m me own d).item }:Opn)with drops:=Z2 (alC g m d.cart) (Sy g (Ym g m own d)) },Ht),if(Z2 (alC g m d.cart) (Sy g (Ym g m own d))).isEmpty=Ht then 12 else 0):=by
  unfold YN X7 Sw;simp only[show(Ym g m own d).d=d from rfl,show(Ym g m own d).al=alC g m d.cart from rfl,k,Jw,Je,if_false,if_true]
 obtain⟨f1,f2,f3,f4⟩:=Sb (show(ZP (Ym g m own d)).2=0 from by
  rw[e]at a9;by_cases hf:(ZP (Ym g m own d)).2=0;exact hf;rw[if_pos hf]at a9;exact a9)
 have hpl:=Fh hr a4 f1;have hgo:UE d.kind (Zv (Yk (Zd g) own).1 d.at').1=true:=f3;rw[k]at hgo;have hf0:(ZP (Ym g m own d)).2=0:=by
  rw[e]at a9;by_cases hf:(ZP (Ym g m own d)).2=0;exact hf;rw[if_pos hf]at a9;exact a9
 rw[e,if_neg (by rw[hf0];simp)]at a9 a10 ⊢;have hi0:∀it:Str,d.at'.sc≠1->(if(d.at'.sc==1)=Ht then d.item else it)=it:=λit h=>by rw[if_neg (by simpa using h)]
 have hi1:d.at'.sc=1->ZU (if(d.at'.sc==1)=Ht then d.item else(mk0 m me own d).item)=true:=λh=>by rw[if_pos (by simpa using h)];exact hit (f4 h)
 have hR:Yd ({ ({ mk0 m me own d with kind:=4,at':=d.at',item:=if(d.at'.sc==1)=Ht then d.item else(mk0 m me own d).item }:Opn)with drops:=Z2 (alC g m d.cart) (Sy g (Ym g m own d)) }:Opn)=true:=
  Tb (ZkO rfl (hi0 _) rfl (λ_=>rfl)) hid hown (by show 1<=clk (Yh m)+1;omega) (by show clk (Yh m)+1<=_;omega) a5 (λ_=>hpl) (λh=>hi1 (by simpa[UF,Yv]using h)) (by show(-1048576:Int)<=0;decide) (by show(0:Int)<=1048576;decide) (by show((0:Nat):Int)<=40;decide) (VO a10 (hM _) (hD _))
 exact⟨hR,ZcE hR f1 (.inr (.inr ⟨by show(4:Int)≠3;decide,rfl,by simpa[UE]using hgo⟩)),rfl,a10⟩;have e:YN g (Ym g m own d) (mk0 m me own d)=(({ mk0 m me own d with kind:=5,drops:=Z2 (alC g m d.cart) λq=>q.item != [] },Ht),if(Z2 (alC g m d.cart) λq=>q.item != []).isEmpty=Ht then 12 else 0):=by
  unfold YN;simp only[Ym,k];rfl
 rw[e]at a10 ⊢;have hR:Yd ({ mk0 m me own d with kind:=5,drops:=Z2 (alC g m d.cart) λq=>q.item != [] }:Opn)=true:=
  Tb rfl hid hown (by show 1<=clk (Yh m)+1;omega) (by show clk (Yh m)+1<=_;omega) a5 (λh=>by cases h) (λh=>by cases h) (by show(-1048576:Int)<=0;decide) (by show(0:Int)<=1048576;decide) (by show((0:Nat):Int)<=40;decide) (VO a10 (hM _) (hD _))
 exact⟨hR,by unfold Sv;rw[hR];rfl,rfl,a10⟩
open Go.PL Go.PL.Srt
def cwM:Nat->List Opn
 |0=> []
 |1=> [oo1]
 |2=> [oo1,oo2]
 |_=> [oo1,oo2,oo3]
def cwO:Nat->Opn
 |0=>Jd
 |1=>oo1
 |2=>oo2
 |_=>oo3
theorem Zt5:PoolOk [oo1]:=by
 have h:=Sc [oo1];rwa[show V8 [oo1]= [oo1]by decide+kernel]at h
theorem Zt6:PoolOk [oo1,oo2]:=by
 have h:=Sc [oo1,oo2];rwa[show V8 [oo1,oo2]= [oo1,oo2]by decide+kernel]at h
theorem ZqD:OkOp oo1:=by constructor<;>decide
theorem ZsW:OkOp oo2:=by constructor<;>decide
theorem Zvb:OkOp oo3:=by constructor<;>decide
theorem Zu5:Eff prog 12 [tr (Zd []),.ptr 1000 0,.int .i64 1,tg Jd,ded dd1] (V2 []) (opc (oo1,0)) (V2 []):=by
 have h:=Fb [] [] 1 Jd dd1 Dt GL (Sc []) (by simp);rwa[aw1]at h
theorem Zu6:Eff prog 12 [tr (Zd []),.ptr 1000 0,.int .i64 1,tg Jd,ded dd2] (V2 [oo1]) (opc (oo2,0)) (V2 [oo1]):=by
 have h:=Fb [] [oo1] 1 Jd dd2 Dt GL Zt5 (fcs ZqD fnl);rwa[aw2]at h
theorem Zu7:Eff prog 12 [tr (Zd []),.ptr 1000 0,.int .i64 1,tg Jd,ded dd3] (V2 [oo1,oo2]) (opc (oo3,0)) (V2 [oo1,oo2]):=by
 have h:=Fb [] [oo1,oo2] 1 Jd dd3 Dt GL Zt6 (Fc2 ZqD ZsW);rwa[aw3]at h
theorem Zu8:Eff prog 18 [.ptr 1000 0,opv oo1] (V2 []) (.int .i64 0) (V2 [oo1]):=by
 have h:=Fy [] oo1 (Sc []) (by simp) ZqD;rwa[ap1]at h
theorem Zu9:Eff prog 18 [.ptr 1000 0,opv oo2] (V2 [oo1]) (.int .i64 0) (V2 [oo1,oo2]):=by
 have h:=Fy [oo1] oo2 Zt5 (fcs ZqD fnl) ZsW;rwa[ap2]at h
theorem Zva:Eff prog 18 [.ptr 1000 0,opv oo3] (V2 [oo1,oo2]) (.int .i64 0) (V2 [oo1,oo2,oo3]):=by
 have h:=Fy [oo1,oo2] oo3 Zt6 (Fc2 ZqD ZsW) Zvb;rwa[ap3]at h
theorem Ue:Pp 6 [] (.bool Ht):=by
 refine ZM func6 rfl ntmps6 results6 ?_;simp only[go_sem];refine vc1 Zjr ?_;simp only[go_sem];refine ZhB 1000 Zjj (by simp[Jl]) (by simp) rfl (by simp only[go_sem]) ?_;simp only[go_sem,PV.ren];refine Wj (Jf (b:=1000) (j:=0) (d:=2000) (sz:=15) (e:=48) rfl rfl (by decide) rfl rfl) ?_;refine Wj (Jf (b:=1000) (j:=1) (d:=2001) (sz:=15) (e:=48) rfl rfl (by decide) rfl rfl) ?_;refine Wj (Jf (b:=1000) (j:=2) (d:=2002) (sz:=15) (e:=48) rfl rfl (by decide) rfl rfl) ?_;refine Wj (Jf (b:=1000) (j:=3) (d:=2003) (sz:=15) (e:=48) rfl rfl (by decide) rfl rfl) ?_;refine Wj (Jf (b:=1000) (j:=4) (d:=2004) (sz:=15) (e:=48) rfl rfl (by decide) rfl rfl) ?_;refine Wj (Jf (b:=1000) (j:=5) (d:=2005) (sz:=15) (e:=48) rfl rfl (by decide) rfl rfl) ?_;refine Wx (ι:= { k:Nat // k<=3 }) 48 (λx=> [(1,tr (Zd [])),(2,.ptr 1000 0),(3,.ptr 3 0),(15,.sl (.row 15) [ded dd1,ded dd2,ded dd3]),(16,.int .i64 3),(17,.int .i64 (x.1:Int))]) (λx=> [(1000,ZY 2000 (six (cwM x.1)),Hf),(3,opE (cwO x.1) (decide (0<x.1)),Hf)]) (λx=>Z1 15 48 2000 (six (cwM x.1))++ [(15,.live 3 26 35)]) (λ_=> []) (λ_=> []) (λ_=> []) (λ_=> []) [] [] [] (λx=>3-x.1) ⟨0,Jm _⟩
  ⟨⟨rfl,(Fc6 rfl rfl rfl rfl rfl rfl),Fc2 ⟨rfl,rfl⟩ ⟨rfl,rfl⟩,by rw[Zq];exact Fc7 rfl rfl rfl rfl rfl rfl rfl⟩,by simp,by simp,by simp,by simp,by simp,by simp⟩ (λx=> ?_) (λx=> ?_)
 obtain⟨k,hk⟩:=x;have hk':k=0\/k=1\/k=2\/k=3:=by omega
 have e1:(ded dd1).ids= []:=rfl;have e2:(ded dd2).ids= []:=rfl;have e3:(ded dd3).ids= []:=rfl;have e4:(tr (Zd [])).ids= []:=rfl;refine⟨⟨?_,?_⟩,by simp,by simp,by simp,by simp,by simp⟩;simp only[Zq];exact Fc6 rfl rfl rfl rfl rfl rfl;simp only[Zq,ZX];refine fcs ?_ (fcs ?_ fnl);simp[JB,Jl,ZV];have:JB (opE (cwO k) (decide (0<k)))= []:=by
  cases decide (0<k)<;>simp[opE,JB,Jl]
 simp[this];obtain⟨k,hk⟩:=x;simp only;have hk':k=0\/k=1\/k=2\/k=3:=by omega
 rcases hk' with rfl|rfl|rfl|rfl;have w1:IntKind.i64.wrap ((0:Int)+1)=((1:Nat):Int):=by decide
 simp only[go_sem,cwM,cwO,ZX,Zq,i0c,ded,Yq,opE];refine YP Zu5 rfl rfl (by rw[Zq];exact(Fc6 ⟨rfl,rfl⟩ ⟨rfl,rfl⟩ ⟨rfl,rfl⟩ ⟨rfl,rfl⟩ ⟨rfl,rfl⟩ ⟨rfl,rfl⟩)) (by simp only[go_sem,tg,ded,Yq];rfl) ?_;simp only[go_sem,opc,opv];refine Su Zu8 rfl rfl rfl (by rw[Zq];exact(Fc6 rfl rfl rfl rfl rfl rfl)) (by simp only[go_sem,opv]) ?_;rw[U5];simp only[go_sem,ZX,Zq,i0c,w1,opE];exact⟨⟨1,by omega⟩,by show 3-(0+1)<3-0;omega,⟨⟨rfl,(Fc6 rfl rfl rfl rfl rfl rfl),Fc2 ⟨rfl,rfl⟩ ⟨rfl,rfl⟩,Fc7 rfl rfl rfl rfl rfl rfl rfl⟩,by simp,by simp,by simp,by simp,by simp,by simp⟩⟩;have w1:IntKind.i64.wrap ((1:Int)+1)=((2:Nat):Int):=by decide
 simp only[go_sem,cwM,cwO,ZX,Zq,i1c,ded,Yq,opE];refine YP Zu6 rfl rfl (by rw[Zq];exact(Fc6 ⟨rfl,rfl⟩ ⟨rfl,rfl⟩ ⟨rfl,rfl⟩ ⟨rfl,rfl⟩ ⟨rfl,rfl⟩ ⟨rfl,rfl⟩)) (by simp only[go_sem,tg,ded,Yq];rfl) ?_;simp only[go_sem,opc,opv];refine Su Zu9 rfl rfl rfl (by rw[Zq];exact(Fc6 rfl rfl rfl rfl rfl rfl)) (by simp only[go_sem,opv]) ?_;rw[U5];simp only[go_sem,ZX,Zq,i1c,w1,opE];exact⟨⟨2,by omega⟩,by show 3-(1+1)<3-1;omega,⟨⟨rfl,(Fc6 rfl rfl rfl rfl rfl rfl),Fc2 ⟨rfl,rfl⟩ ⟨rfl,rfl⟩,Fc7 rfl rfl rfl rfl rfl rfl rfl⟩,by simp,by simp,by simp,by simp,by simp,by simp⟩⟩;have w1:IntKind.i64.wrap ((2:Int)+1)=((3:Nat):Int):=by decide
 simp only[go_sem,cwM,cwO,ZX,Zq,i2c,ded,Yq,opE];refine YP Zu7 rfl rfl (by rw[Zq];exact(Fc6 ⟨rfl,rfl⟩ ⟨rfl,rfl⟩ ⟨rfl,rfl⟩ ⟨rfl,rfl⟩ ⟨rfl,rfl⟩ ⟨rfl,rfl⟩)) (by simp only[go_sem,tg,ded,Yq];rfl) ?_;simp only[go_sem,opc,opv];refine Su Zva rfl rfl rfl (by rw[Zq];exact(Fc6 rfl rfl rfl rfl rfl rfl)) (by simp only[go_sem,opv]) ?_;rw[U5];simp only[go_sem,ZX,Zq,i2c,w1,opE];exact⟨⟨3,by omega⟩,by show 3-(2+1)<3-2;omega,⟨⟨rfl,(Fc6 rfl rfl rfl rfl rfl rfl),Fc2 ⟨rfl,rfl⟩ ⟨rfl,rfl⟩,Fc7 rfl rfl rfl rfl rfl rfl rfl⟩,by simp,by simp,by simp,by simp,by simp,by simp⟩⟩;have i3:((3:Nat):Int)=3:=rfl;have hl:oo3.drops.length=2:=rfl;have hk:oo3.kind=2:=rfl;simp only[go_sem,cwM,cwO,ZX,Zq,i3,opE,hl,hk]
open Go.PL Go.PL.Srt
theorem FN {l:List Opn} {b:Int} (h:∀o∈l,o.time<=b) (hb:0<=b:=by decide):clk l<=b:=by
 unfold clk
 suffices g:∀(a:Int),a<=b->l.foldl (λa o=>max a o.time) a<=b from g 0 hb
 induction l with
 |nil=>exact λa h=>h
 |cons o l ih=>exact λa ha=>ih (λx hx=>h x (List.mem_cons_of_mem _ hx)) _ (Int.max_le.2 ⟨ha,h o (List.mem_cons_self ..)⟩)
theorem VE (W:Opn->Bool) {l:List Opn} {k:Nat} (h:k<l.length):(Xh (l.take (k+1)) W).foldl U4 []=if W (l.getD k Jd)=Ht then U4 ((Xh (l.take k) W).foldl U4 []) (l.getD k Jd).id else(Xh (l.take k) W).foldl U4 []:=by
 rw[Zcg W h,JJ];split<;>rfl
theorem UD (l:List Opn) (W:Opn->Bool):((Xh l W).foldl U4 []).length<=l.length:=by
 rw[ZaA];unfold GS;rw[List.length_mergeSort];exact ZaR l W
theorem WR {o:Opn} (h:Yd o=Ht):o.time<=1099511627776:=by
 simp only[Yd,Ja,Jp,Js,decide_eq_false_iff_not]at h;omega
theorem Zjn (g:List Eg) (m:List Opn) (me:Int) (own:Tg) (d:De) (h:DI me d=Ht):Pp 13 [egs g,Zr m,.int .i64 me,tg own,ded d] (opc (Jd,2)):=by
 unfold DI at h;cases v1:decide (me<1)<;>cases v2:decide (6<me)<;>cases v3:decide (d.kind<1)<;>cases v4:decide (7<d.kind)<;>rw[v1,v2,v3,v4]at h<;>first|(cases h;done)|skip
 all_goals
  refine ZB func13 rfl ntmps13 results13 (Xp _) ?_;simp only[go_sem,egs,Zr,tg,ded,Yq,v1,v2,v3,v4,opc,Za]
theorem Zoy (g:List Eg) (m:List Opn) (me:Int) (own:Tg) (d:De) (hm:OkM g) (hr:RightM g) (hk:PoolOk m) (ho:∀o∈m,OkOp o) (hnd:(m.map Opn.id).Nodup) (hb1:1<=me) (hb2:me<=6) (hkd:d.kind=1):Pp 13 [egs g,Zr m,.int .i64 me,tg own,ded d] (opc (YJ g m me own d)):=by
 have hbad:DI me d=false:=by simp[DI,hkd];omega
 have v1:decide (me<1)=false:=by simp;omega
 have v2:decide (6<me)=false:=by simp;omega
 have hS:=YG g own hm;have hN1:=ZT d.cart;have hN2:=ZT d.item;have hkl:=hk.l;have hlm:m.length<=100000:=by omega
 have hC:=X3 m hlm;have hp:=V0 hk hnd;have hA:=X2 g m hm hlm ho hnd;rw[<-U6 hp hk.nodup]at hA;rw[<-U0 hp]at hC;have hll:=W0 g (Yh m);have hol:=Vu hk;have hH:=X4 (VY g (Yh m)) d.cart d.item (by omega);rw[SP]at hH;change PL.Pure _ _ _ (.bool ((alC g m d.cart).any (YT d.item)))at hH;have hV:=WG m hk;have hv:=YC m;have hrow:=Z0 m (show(me-1).toNat<6 by omega);have hrl:=XG m (me-1).toNat;have hge:((Y2 m).map (JU .i64)).getD (me-1).toNat .any= .int .i64 (((Yn m (me-1).toNat).length:Int)):=by rw[XZ (by rw[hv];omega),hrow]
 have e1:IntKind.i64.wrap (me-1)=me-1:=w64 (by omega);have e2:0<=me-1:=by omega
 have e3:me-1<6:=by omega
 have e4:(me-1).toNat<6:=by omega
 have e5:(me-1).toNat<=5:=by omega
 have e6:IntKind.i64.wrap (((Yn m (me-1).toNat).length:Int)+1)=((Yn m (me-1).toNat).length:Int)+1:=w64 (by omega);have hcn:=XC (Yh m);have hck:clk (Yh m)<=1099511627776:=FN λo h=>WR (hk.r o ((YV hk).1 h))
 have e7:IntKind.i64.wrap (clk (Yh m)+1)=clk (Yh m)+1:=w64 (by omega);have hao:∀o∈VY g (Yh m),OkOp o:=λo h=>ho o ((YV hk).1 (W4 h))
 have hG:YN g (Ym g m own d) (mk0 m me own d)=if(alC g m d.cart).any (YT d.item)=Ht then((mk0 m me own d,Hf),7)else(({ mk0 m me own d with kind:=1,item:=d.item },Hf),0):=by
  unfold YN;simp only[Ym,hkd];rfl
 generalize hy:YJ g m me own d=y;rw[YJ,if_neg (by rw[hbad];simp),hG]at hy;generalize (alC g m d.cart).any (YT d.item)=hs at *;generalize VY g (Yh m)=A at *;unfold mk0 at hy;generalize Yk (Zd g) own=sy at *;obtain⟨S,c⟩:=sy;simp only at hy;refine ZB func13 rfl ntmps13 results13 (Xp _) ?_;simp only[go_sem,egs,Zr,tg,ded,Yq,hkd,v1,v2];refine vc3 hS ?_;simp only[go_sem,ZC,Zh];refine Zm (λh=> ?_) (λh=> ?_);rw[if_pos (by simpa using h)]at hy;subst hy;simp only[go_sem,opc,Za];have hc0:c=0:=by simpa using h
 subst hc0;rw[if_neg (by simp)]at hy;simp only[go_sem];refine vc1 hN1 ?_;cases hn1:ZU d.cart;rw[if_pos hn1]at hy;subst hy;simp only[go_sem,hn1,opc,Za];rw[if_neg (by rw[hn1];simp)]at hy;simp only[go_sem,hn1,hkd];refine vc1 hN2 ?_;cases hn2:ZU d.item;rw[if_pos (by simp[hkd,hn2])]at hy;subst hy;simp only[go_sem,hn2,opc,Za];rw[if_neg (by simp[hkd,hn2])]at hy;simp only[go_sem,hn2];refine Zm (λh=> ?_) (λh=> ?_);have h4:(m.length:Int)=400:=by simpa using h
 rw[if_pos (by omega)]at hy;subst hy;simp only[go_sem,opc,Za];have h4:¬(m.length:Int)=400:=by simpa using h
 rw[if_neg (by omega)]at hy;simp only[go_sem];refine vc7 hC ?_;simp only[go_sem,e7];refine Zm (λh=> ?_) (λh=> ?_);have h5:1099511627776<clk (Yh m)+1:=by simpa using h
 rw[if_pos (by omega)]at hy;subst hy;simp only[go_sem,opc,Za];have h5:¬1099511627776<clk (Yh m)+1:=by simpa using h
 rw[if_neg (by omega)]at hy;simp only[go_sem];refine vc7 hA ?_;simp only[go_sem,Zr];refine vc7 hH ?_;simp only[go_sem];refine vDq ?_;simp only[go_sem];refine vc7 hV ?_;simp only[go_sem,Gc,hv,e1,e2,e3,e4,e5,e6,hge,hkd];cases hs;simp only[Je,if_false,ne_eq,not_true_eq_false,List.length_nil]at hy;rw[if_neg (by omega)]at hy;subst hy;simp only[go_sem,hkd,opc,opv];simp only[if_true,ne_eq]at hy;rw[if_pos (by omega)]at hy;subst hy;simp only[go_sem,hkd,opc,Za]
theorem Zoz (g:List Eg) (m:List Opn) (me:Int) (own:Tg) (d:De) (hm:OkM g) (hr:RightM g) (hk:PoolOk m) (ho:∀o∈m,OkOp o) (hnd:(m.map Opn.id).Nodup) (hb1:1<=me) (hb2:me<=6) (hkd:d.kind=2):Pp 13 [egs g,Zr m,.int .i64 me,tg own,ded d] (opc (YJ g m me own d)):=by
 have hbad:DI me d=false:=by simp[DI,hkd];omega
 have v1:decide (me<1)=false:=by simp;omega
 have v2:decide (6<me)=false:=by simp;omega
 have hS:=YG g own hm;have hN1:=ZT d.cart;have hN2:=ZT d.item;have hkl:=hk.l;have hlm:m.length<=100000:=by omega
 have hC:=X3 m hlm;have hp:=V0 hk hnd;have hA:=X2 g m hm hlm ho hnd;rw[<-U6 hp hk.nodup]at hA;rw[<-U0 hp]at hC;have hll:=W0 g (Yh m);have hol:=Vu hk;have hH:=X4 (VY g (Yh m)) d.cart d.item (by omega);rw[SP]at hH;change PL.Pure _ _ _ (.bool ((alC g m d.cart).any (YT d.item)))at hH;have hV:=WG m hk;have hv:=YC m;have hrow:=Z0 m (show(me-1).toNat<6 by omega);have hrl:=XG m (me-1).toNat;have hge:((Y2 m).map (JU .i64)).getD (me-1).toNat .any= .int .i64 (((Yn m (me-1).toNat).length:Int)):=by rw[XZ (by rw[hv];omega),hrow]
 have e1:IntKind.i64.wrap (me-1)=me-1:=w64 (by omega);have e2:0<=me-1:=by omega
 have e3:me-1<6:=by omega
 have e4:(me-1).toNat<6:=by omega
 have e5:(me-1).toNat<=5:=by omega
 have e6:IntKind.i64.wrap (((Yn m (me-1).toNat).length:Int)+1)=((Yn m (me-1).toNat).length:Int)+1:=w64 (by omega);have hcn:=XC (Yh m);have hck:clk (Yh m)<=1099511627776:=FN λo h=>WR (hk.r o ((YV hk).1 h))
 have e7:IntKind.i64.wrap (clk (Yh m)+1)=clk (Yh m)+1:=w64 (by omega);have hao:∀o∈VY g (Yh m),OkOp o:=λo h=>ho o ((YV hk).1 (W4 h))
 have hW:=λo=>Ud g o own d d.item hm hr
 have hD:(Xh (VY g (Yh m)) λo=>Tw g o own d d.item).foldl U4 []=Z2 (alC g m d.cart) (λq=>q.item==d.item):=ZcC _ d.cart _ _ λo=>Zt0 g (Ym g m own d) o d.item hkd
 generalize hWd:(λo=>Tw g o own d d.item)=W at *;have hW:∀o,PL.Pure _ _ _ (.bool (W o)):=λo=>by rw[<-hWd];exact hW o
 have hG:YN g (Ym g m own d) (mk0 m me own d)=if(alC g m d.cart).any (YT d.item)=Hf then((mk0 m me own d,Hf),12)else(({ mk0 m me own d with kind:=2,item:=d.item,drops:=Z2 (alC g m d.cart) λq=>q.item==d.item },Ht),0):=by
  unfold YN;simp only[Ym,hkd];rfl
 generalize hy:YJ g m me own d=y;rw[YJ,if_neg (by rw[hbad];simp),hG]at hy;generalize (alC g m d.cart).any (YT d.item)=hs at *;generalize VY g (Yh m)=A at *;unfold mk0 at hy;generalize Yk (Zd g) own=sy at *;obtain⟨S,c⟩:=sy;simp only at hy;refine ZB func13 rfl ntmps13 results13 (Xp _) ?_;simp only[go_sem,egs,Zr,tg,ded,Yq,hkd,v1,v2];refine vc3 hS ?_;simp only[go_sem,ZC,Zh];refine Zm (λh=> ?_) (λh=> ?_);rw[if_pos (by simpa using h)]at hy;subst hy;simp only[go_sem,opc,Za];have hc0:c=0:=by simpa using h
 subst hc0;rw[if_neg (by simp)]at hy;simp only[go_sem];refine vc1 hN1 ?_;cases hn1:ZU d.cart;rw[if_pos hn1]at hy;subst hy;simp only[go_sem,hn1,opc,Za];rw[if_neg (by rw[hn1];simp)]at hy;simp only[go_sem,hn1,hkd];refine vc1 hN2 ?_;cases hn2:ZU d.item;rw[if_pos (by simp[hkd,hn2])]at hy;subst hy;simp only[go_sem,hn2,opc,Za];rw[if_neg (by simp[hkd,hn2])]at hy;simp only[go_sem,hn2];refine Zm (λh=> ?_) (λh=> ?_);have h4:(m.length:Int)=400:=by simpa using h
 rw[if_pos (by omega)]at hy;subst hy;simp only[go_sem,opc,Za];have h4:¬(m.length:Int)=400:=by simpa using h
 rw[if_neg (by omega)]at hy;simp only[go_sem];refine vc7 hC ?_;simp only[go_sem,e7];refine Zm (λh=> ?_) (λh=> ?_);have h5:1099511627776<clk (Yh m)+1:=by simpa using h
 rw[if_pos (by omega)]at hy;subst hy;simp only[go_sem,opc,Za];have h5:¬1099511627776<clk (Yh m)+1:=by simpa using h
 rw[if_neg (by omega)]at hy;simp only[go_sem];refine vc7 hA ?_;simp only[go_sem,Zr];refine vc7 hH ?_;simp only[go_sem];refine vDq ?_;simp only[go_sem];refine vc7 hV ?_;simp only[go_sem,Gc,hv,e1,e2,e3,e4,e5,e6,hge,hkd];cases hs;simp only[if_true,ne_eq]at hy;rw[if_pos (by decide)]at hy;subst hy;simp only[go_sem,hkd,opc,Za];simp only[Jc,if_false]at hy;simp only[go_sem,hkd,Zr];refine Wj (JS (b:=18) (j:=14) rfl rfl (by simp) rfl) ?_;refine ZA (ι:= { k:Nat // k<=A.length }) 290 (λx=> [(0,egs g),(8,.ptr 8 0),(9,.ptr 9 0),(10,.ptr 10 0),(12,.ptr 12 0),(16,Zr A),(18,.ptr 18 0),(20,.int .i64 (x.1:Int))]) (λx=> [(8,[.int .i64 own.r,.int .i64 own.n],Hf),(9,Yq d,Hf),(10,opZ,Hf),(12,opZ,Hf),(18,opE { (⟨⟨me,((Yn m (me-1).toNat).length:Int)+1⟩,own,clk (Yh m)+1,d.cart,2,d.item,⟨0,[],[]⟩,0,Hf,[],[]⟩:Opn)with drops:=(Xh (A.take x.1) W).foldl U4 [] } Ht,Hf)]) (λx=> []) (λx=>A.length-x.1) ⟨0,Jm _⟩
  ⟨rfl,(Fc8 rfl rfl rfl rfl rfl rfl rfl rfl),(Fc5 ⟨rfl,rfl⟩ ⟨by first|rfl|(rw[Yq,hkd];rfl),rfl⟩ ⟨rfl,rfl⟩ ⟨rfl,rfl⟩ ⟨rfl,rfl⟩),fnl⟩ (λx=>⟨(Fc8 rfl rfl rfl rfl rfl rfl rfl rfl),Fc5 rfl (by rw[Vs];rfl) rfl rfl rfl⟩) (λx=> ?_)
 obtain⟨k,hka0⟩:=x;simp only;by_cases hlt:(k:Int)<(A.length:Int);have hka:k<A.length:=by omega
 have i1:=Jb k
 have w1:=wk9 (k:=k) (by omega)
 have hgd:=ZZ hka;have hWk:=hW (A.getD k Jd);have hsn:=VE W hka;have hfl:=UD (A.take k) W;have htl:(A.take k).length<=k:=JI _ _;have hIn:=Vx ((Xh (A.take k) W).foldl U4 []) (A.getD k Jd).id (by omega);generalize A.getD k Jd=x at *;generalize hT:(Xh (A.take k) W).foldl U4 []=T at *;cases hw:W x
 ·rw[hw]at hWk;rw[hw,if_neg (by simp)]at hsn;simp only[go_sem,hlt,Zr];refine vDq ?_;simp only[go_sem,hlt,Zr,hgd,opv,i1,Yq,opE,hkd,if_true];refine Zl hWk ?_ ?_ ?_;iterate 2 simp only[go_sem,egs,opv,tg,ded,Yq,hkd]
  simp only[go_sem,w1];exact⟨⟨k+1,by omega⟩,nx9 (by omega),⟨rfl,(Fc8 rfl rfl rfl rfl rfl rfl rfl rfl),by simp only;rw[hsn];exact(Fc5 ⟨rfl,rfl⟩ ⟨by first|rfl|(rw[Yq,hkd];rfl),rfl⟩ ⟨rfl,rfl⟩ ⟨rfl,rfl⟩ ⟨rfl,rfl⟩),fnl⟩⟩
 ·rw[hw]at hWk;rw[hw,if_pos rfl]at hsn;simp only[go_sem,hlt,Zr];refine vDq ?_;simp only[go_sem,hlt,Zr,hgd,opv,i1,Yq,opE,hkd,if_true];refine Zl hWk ?_ ?_ ?_;iterate 2 simp only[go_sem,egs,opv,tg,ded,Yq,hkd]
  simp only[go_sem];refine vDq ?_;simp only[go_sem,hlt,Zr,hgd,opv,i1,opE,if_true];refine vc3 hIn ?_;simp only[go_sem,tgs,w1];exact⟨⟨k+1,by omega⟩,nx9 (by omega),⟨rfl,(Fc8 rfl rfl rfl rfl rfl rfl rfl rfl),by simp only;rw[hsn];exact(Fc5 ⟨rfl,rfl⟩ ⟨by first|rfl|(rw[Yq,hkd];rfl),rfl⟩ ⟨rfl,rfl⟩ ⟨rfl,rfl⟩ ⟨rfl,rfl⟩),fnl⟩⟩
 obtain rfl:k=A.length:=by omega
 simp only[Jy,hD];generalize Z2 (alC g m d.cart) (λq=>q.item==d.item)=D at *;rw[if_neg (by simp)]at hy;simp only[go_sem,hlt,Zr,Yq,opE,opZ,hkd,if_true];refine Zm (λh=> ?_) (λh=> ?_);rw[if_pos (by simpa using h)]at hy;subst hy;simp only[go_sem,opc,Za,opZ];rw[if_neg (by simpa using h)]at hy;subst hy;simp only[go_sem,opc,opv,opZ]
theorem ZoE (g:List Eg) (m:List Opn) (me:Int) (own:Tg) (d:De) (hm:OkM g) (hr:RightM g) (hk:PoolOk m) (ho:∀o∈m,OkOp o) (hnd:(m.map Opn.id).Nodup) (hb1:1<=me) (hb2:me<=6) (hkd:d.kind=7):Pp 13 [egs g,Zr m,.int .i64 me,tg own,ded d] (opc (YJ g m me own d)):=by
 have hbad:DI me d=false:=by simp[DI,hkd];omega
 have v1:decide (me<1)=false:=by simp;omega
 have v2:decide (6<me)=false:=by simp;omega
 have hS:=YG g own hm;have hN1:=ZT d.cart;have hN2:=ZT d.item;have hkl:=hk.l;have hlm:m.length<=100000:=by omega
 have hC:=X3 m hlm;have hp:=V0 hk hnd;have hA:=X2 g m hm hlm ho hnd;rw[<-U6 hp hk.nodup]at hA;rw[<-U0 hp]at hC;have hll:=W0 g (Yh m);have hol:=Vu hk;have hH:=X4 (VY g (Yh m)) d.cart d.item (by omega);rw[SP]at hH;change PL.Pure _ _ _ (.bool ((alC g m d.cart).any (YT d.item)))at hH;have hV:=WG m hk;have hv:=YC m;have hrow:=Z0 m (show(me-1).toNat<6 by omega);have hrl:=XG m (me-1).toNat;have hge:((Y2 m).map (JU .i64)).getD (me-1).toNat .any= .int .i64 (((Yn m (me-1).toNat).length:Int)):=by rw[XZ (by rw[hv];omega),hrow]
 have e1:IntKind.i64.wrap (me-1)=me-1:=w64 (by omega);have e2:0<=me-1:=by omega
 have e3:me-1<6:=by omega
 have e4:(me-1).toNat<6:=by omega
 have e5:(me-1).toNat<=5:=by omega
 have e6:IntKind.i64.wrap (((Yn m (me-1).toNat).length:Int)+1)=((Yn m (me-1).toNat).length:Int)+1:=w64 (by omega);have hcn:=XC (Yh m);have hck:clk (Yh m)<=1099511627776:=FN λo h=>WR (hk.r o ((YV hk).1 h))
 have e7:IntKind.i64.wrap (clk (Yh m)+1)=clk (Yh m)+1:=w64 (by omega);have hao:∀o∈VY g (Yh m),OkOp o:=λo h=>ho o ((YV hk).1 (W4 h))
 have hW:=λo=>Ud g o own d [] hm hr
 have hD:(Xh (VY g (Yh m)) λo=>Tw g o own d []).foldl U4 []=Z2 (alC g m d.cart) (λq=>q.item != []):=ZcC _ d.cart _ _ λo=>Zt3 g (Ym g m own d) o [] hkd
 generalize hWd:(λo=>Tw g o own d [])=W at *;have hW:∀o,PL.Pure _ _ _ (.bool (W o)):=λo=>by rw[<-hWd];exact hW o
 have hG:YN g (Ym g m own d) (mk0 m me own d)=(({ mk0 m me own d with kind:=5,drops:=Z2 (alC g m d.cart) λq=>q.item != [] },Ht),if(Z2 (alC g m d.cart) λq=>q.item != []).isEmpty=Ht then 12 else 0):=by
  unfold YN;simp only[Ym,hkd];rfl
 generalize hy:YJ g m me own d=y;rw[YJ,if_neg (by rw[hbad];simp),hG]at hy;generalize (alC g m d.cart).any (YT d.item)=hs at *;generalize VY g (Yh m)=A at *;unfold mk0 at hy;generalize Yk (Zd g) own=sy at *;obtain⟨S,c⟩:=sy;simp only at hy;refine ZB func13 rfl ntmps13 results13 (Xp _) ?_;simp only[go_sem,egs,Zr,tg,ded,Yq,hkd,v1,v2];refine vc3 hS ?_;simp only[go_sem,ZC,Zh];refine Zm (λh=> ?_) (λh=> ?_);rw[if_pos (by simpa using h)]at hy;subst hy;simp only[go_sem,opc,Za];have hc0:c=0:=by simpa using h
 subst hc0;rw[if_neg (by simp)]at hy;simp only[go_sem];refine vc1 hN1 ?_;cases hn1:ZU d.cart;rw[if_pos hn1]at hy;subst hy;simp only[go_sem,hn1,opc,Za];rw[if_neg (by rw[hn1];simp)]at hy;simp only[go_sem,hn1,hkd];rw[if_neg (by simp[hkd])]at hy;refine Zm (λh=> ?_) (λh=> ?_);have h4:(m.length:Int)=400:=by simpa using h
 rw[if_pos (by omega)]at hy;subst hy;simp only[go_sem,opc,Za];have h4:¬(m.length:Int)=400:=by simpa using h
 rw[if_neg (by omega)]at hy;simp only[go_sem];refine vc7 hC ?_;simp only[go_sem,e7];refine Zm (λh=> ?_) (λh=> ?_);have h5:1099511627776<clk (Yh m)+1:=by simpa using h
 rw[if_pos (by omega)]at hy;subst hy;simp only[go_sem,opc,Za];have h5:¬1099511627776<clk (Yh m)+1:=by simpa using h
 rw[if_neg (by omega)]at hy;simp only[go_sem];refine vc7 hA ?_;simp only[go_sem,Zr];refine vc7 hH ?_;simp only[go_sem];refine vDq ?_;simp only[go_sem];refine vc7 hV ?_;simp only[go_sem,Gc,hv,e1,e2,e3,e4,e5,e6,hge,hkd];refine Wj (JS (b:=18) (j:=14) rfl rfl (by simp) rfl) ?_;refine ZA (ι:= { k:Nat // k<=A.length }) 290 (λx=> [(0,egs g),(8,.ptr 8 0),(9,.ptr 9 0),(10,.ptr 10 0),(12,.ptr 12 0),(16,Zr A),(18,.ptr 18 0),(20,.int .i64 (x.1:Int))]) (λx=> [(8,[.int .i64 own.r,.int .i64 own.n],Hf),(9,Yq d,Hf),(10,opZ,Hf),(12,opZ,Hf),(18,opE { (⟨⟨me,((Yn m (me-1).toNat).length:Int)+1⟩,own,clk (Yh m)+1,d.cart,5,[],⟨0,[],[]⟩,0,Hf,[],[]⟩:Opn)with drops:=(Xh (A.take x.1) W).foldl U4 [] } Ht,Hf)]) (λx=> []) (λx=>A.length-x.1) ⟨0,Jm _⟩
  ⟨rfl,(Fc8 rfl rfl rfl rfl rfl rfl rfl rfl),(Fc5 ⟨rfl,rfl⟩ ⟨by first|rfl|(rw[Yq,hkd];rfl),rfl⟩ ⟨rfl,rfl⟩ ⟨rfl,rfl⟩ ⟨rfl,rfl⟩),fnl⟩ (λx=>⟨(Fc8 rfl rfl rfl rfl rfl rfl rfl rfl),Fc5 rfl (by rw[Vs];rfl) rfl rfl rfl⟩) (λx=> ?_)
 obtain⟨k,hka0⟩:=x;simp only;by_cases hlt:(k:Int)<(A.length:Int);have hka:k<A.length:=by omega
 have i1:=Jb k
 have w1:=wk9 (k:=k) (by omega)
 have hgd:=ZZ hka;have hWk:=hW (A.getD k Jd);have hsn:=VE W hka;have hfl:=UD (A.take k) W;have htl:(A.take k).length<=k:=JI _ _;have hIn:=Vx ((Xh (A.take k) W).foldl U4 []) (A.getD k Jd).id (by omega);generalize A.getD k Jd=x at *;generalize hT:(Xh (A.take k) W).foldl U4 []=T at *;cases hw:W x
 ·rw[hw]at hWk;rw[hw,if_neg (by simp)]at hsn;simp only[go_sem,hlt,Zr];refine vDq ?_;simp only[go_sem,hlt,Zr,hgd,opv,i1,Yq,opE,hkd,if_true];refine Zl hWk ?_ ?_ ?_;iterate 2 simp only[go_sem,egs,opv,tg,ded,Yq,hkd]
  simp only[go_sem,w1];exact⟨⟨k+1,by omega⟩,nx9 (by omega),⟨rfl,(Fc8 rfl rfl rfl rfl rfl rfl rfl rfl),by simp only;rw[hsn];exact(Fc5 ⟨rfl,rfl⟩ ⟨by first|rfl|(rw[Yq,hkd];rfl),rfl⟩ ⟨rfl,rfl⟩ ⟨rfl,rfl⟩ ⟨rfl,rfl⟩),fnl⟩⟩
 ·rw[hw]at hWk;rw[hw,if_pos rfl]at hsn;simp only[go_sem,hlt,Zr];refine vDq ?_;simp only[go_sem,hlt,Zr,hgd,opv,i1,Yq,opE,hkd,if_true];refine Zl hWk ?_ ?_ ?_;iterate 2 simp only[go_sem,egs,opv,tg,ded,Yq,hkd]
  simp only[go_sem];refine vDq ?_;simp only[go_sem,hlt,Zr,hgd,opv,i1,opE,if_true];refine vc3 hIn ?_;simp only[go_sem,tgs,w1];exact⟨⟨k+1,by omega⟩,nx9 (by omega),⟨rfl,(Fc8 rfl rfl rfl rfl rfl rfl rfl rfl),by simp only;rw[hsn];exact(Fc5 ⟨rfl,rfl⟩ ⟨by first|rfl|(rw[Yq,hkd];rfl),rfl⟩ ⟨rfl,rfl⟩ ⟨rfl,rfl⟩ ⟨rfl,rfl⟩),fnl⟩⟩
 obtain rfl:k=A.length:=by omega
 simp only[Jy,hD];generalize Z2 (alC g m d.cart) (λq=>q.item != [])=D at *;have hz:((D.length:Int)==0)=D.isEmpty:=by cases D<;>simp;omega
 cases hE:D.isEmpty<;>rw[hE]at hz hy
 simp only[Je,if_false,ne_eq,not_true_eq_false]at hy;simp only[go_sem,hlt,Zr,Yq,opE,opZ,hkd,hz,if_true];refine Zm (λh=> ?_) (λh=> ?_);rw[if_pos (by simpa using h)]at hy;subst hy;simp only[go_sem,opc,Za,opZ];rw[if_neg (by simpa using h)]at hy;subst hy;simp only[go_sem,opc,opv,opZ];simp only[if_true,ne_eq]at hy;rw[if_pos (by decide)]at hy;subst hy;simp only[go_sem,hlt,Zr,Yq,opE,opZ,hkd,hz,if_true,opc,Za]
open Go.PL
open Go.ChangeShapes Go.WideShapes Go.ChangeAt Go.RowKit
theorem ZqY {p:PV} (h:PA prog 35 p):∃d:De,p=ded d:=by
 obtain⟨cs,rfl,h1⟩:=PA.agg Zpt h;have h1:PTs prog [3,9,9,27,2,9,25,33] cs:=h1.struct_inv underlying35;obtain⟨a1,b1,rfl,h2,r1⟩:=h1.cons_inv;obtain⟨a2,b2,rfl,h3,r2⟩:=r1.cons_inv;obtain⟨a3,b3,rfl,h4,r3⟩:=r2.cons_inv;obtain⟨a4,b4,rfl,h5,r4⟩:=r3.cons_inv;obtain⟨a5,b5,rfl,h6,r5⟩:=r4.cons_inv;obtain⟨a6,b6,rfl,h7,r6⟩:=r5.cons_inv;obtain⟨a7,b7,rfl,h8,r7⟩:=r6.cons_inv;obtain⟨a8,b8,rfl,h9,r8⟩:=r7.cons_inv;obtain⟨x1,rfl,_⟩:=h2.int_inv underlying3;obtain⟨x2,rfl,_⟩:=h3.string_inv underlying9;obtain⟨x3,rfl,_⟩:=h4.string_inv underlying9;obtain⟨x4,rfl⟩:=Zhk h5;obtain⟨x5,rfl,_⟩:=h6.int_inv underlying2;obtain⟨x6,rfl,_⟩:=h7.string_inv underlying9;obtain⟨x7,rfl⟩:=Zb1 h8;obtain⟨x8,rfl,_⟩:=ZkR h9;rw[r8.nil_inv];exact⟨⟨x1,x2,x3,x4,x5,x6,x7,x8⟩,rfl⟩
end Go.Proofs.YtepchngegclagaaGreat
