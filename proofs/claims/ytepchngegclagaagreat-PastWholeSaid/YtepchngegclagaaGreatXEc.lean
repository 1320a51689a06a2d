/- Lemmas of the proof. -/
import Derived.Test.YtepchngegclagaaGreatPlH
import Derived.Test.YtepchngegclagaaGreatXAa
import Derived.Test.YtepchngegclagaaGreatXAi
import Derived.Test.YtepchngegclagaaGreatXAy
import Derived.Test.YtepchngegclagaaGreatXBd
import Derived.Test.YtepchngegclagaaGreatXBq
import Derived.Test.YtepchngegclagaaGreatXCc
import Derived.Test.YtepchngegclagaaGreatXDy
open Inhabited renaming default→Jd
open Go.Proofs.Tryz
open Go Go.PL
open Bool renaming true_eq_false→Jh,false_eq_true→Ji,and_eq_true→Jl
open Gh renaming nilRowB→Je
open Int renaming natCast_nonneg→Ja
open List renaming append_nil→Jb,map_append→Jf,mem_singleton→Jg,mem_map→Jk,take_length→Jm,length_map→Jo,all_append→Jp
open Nat renaming zero_le→Jn
open PV renaming ids→Jc,didsL→Jj
namespace Go.Proofs.YtepchngegclagaaGreat
set_option maxHeartbeats 64000000
set_option maxRecDepth 20000
set_option linter.unusedVariables false
set_option linter.unusedSimpArgs false
open Go.PL
theorem ZjI (m:List Opn) (t:Tg):(ixO m t<0/\TH m t=none)\/ ∃k,k<m.length/\ixO m t=(k:Int)/\TH m t=some (m.getD k Jd):=by
 unfold ixO TH;cases h:m.findIdx? λo=>decide (o.id=t)with
 |none=>exact .inl ⟨by decide,List.find?_eq_none.2 λo ho=>by rw[List.findIdx?_eq_none_iff]at h;simpa using h o ho⟩
 |some k=>
  obtain⟨h1,h2,h3⟩:=List.findIdx?_eq_some_iff_getElem.1 h;refine .inr ⟨k,h1,rfl,?_⟩;rw[getD_lt h1];exact List.find?_eq_some_iff_getElem.2 ⟨h2,k,h1,rfl,λj hj=>by simpa using h3 j hj⟩
def opi (x:List Opn×Int):PV:= .tup [Zt x.1,.int .i64 x.2]
theorem ZbM (x:List Opn×Int):(opi x).dids= []:=by simp only[opi,PV.dids,Jj,Wn,Jb]
theorem Zem (m:List Opn) (o:Opn) (hl:m.length<=100000) (ho:OkOp o) (hm:∀x∈m,OkOp x):Pp 33 [Zt m,opv o] (opi (Um m o)):=by
 have hR:=Zcq o;cases hr:XJ o;rw[hr]at hR;have e:Um m o=(m,5):=by simp[Um,hr]
 rw[e];refine ZF func33 rfl ntmps33 results33 (ZbM _) ?_;simp only[go_sem,Zt,opv];refine vc6 hR ?_;simp only[go_sem,opi,Zt];rw[hr]at hR;have hA:=Zad m o.id hl;rcases ZjI m o.id with ⟨h1,h2⟩|⟨k,hk,h1,h2⟩
 ·have h1':¬(0:Int)<=ixO m o.id:=by omega
  have hB:=Zad m ⟨o.id.r,o.id.n-1⟩ hl;have ht:=SL hr;simp only[Vl,Jl,decide_eq_true_eq]at ht;have wn:IntKind.i64.wrap (o.id.n-1)=o.id.n-1:=w64 (by omega);have hrm1:=Ym (show m.length<=1000000 by omega) (show 176<=1000 by omega);have hrm2:=Ym (show m.length+1<=1000000 by omega) (show 176<=1000 by omega);have hsx:Sized 15 [opv o]:=Yb [o];have hax:YZ [opv o]:=Xr [o];simp only[opv]at hsx hax;have e:Um m o=if 1<o.id.n/\ixO m ⟨o.id.r,o.id.n-1⟩<0 then(m,17)else if(399:Int)<(m.length:Int)then(m,9)else(m++ [o],0):=by
   have hg:(TH m ⟨o.id.r,o.id.n-1⟩).isSome= !decide (ixO m ⟨o.id.r,o.id.n-1⟩<0):=by
    rcases ZjI m ⟨o.id.r,o.id.n-1⟩with ⟨g1,g2⟩|⟨k,hk,g1,g2⟩;rw[g2,decide_eq_true g1];rfl;rw[g2,decide_eq_false (by omega)];rfl
   have hc:((399:Int)<(m.length:Int))=(399<m.length):=by simp only[eq_iff_iff];omega
   unfold Um;rw[hr,h2,hg];simp only[hc];simp
  rw[e];by_cases hn:1<o.id.n<;>by_cases hg:ixO m ⟨o.id.r,o.id.n-1⟩<0<;>by_cases hc:(399:Int)<(m.length:Int)
  all_goals
   simp only[hn,hg,hc,and_self,and_true,and_false,if_true,if_false];refine ZF func33 rfl ntmps33 results33 (ZbM _) ?_;simp only[go_sem,Zt,opv];refine vc6 hR ?_;simp only[go_sem];refine vc7 hA ?_;simp only[go_sem];refine vDq ?_;simp only[go_sem,h1',hn,wn,hc,Yb,Xr,hrm1,hrm2,hsx,hax,opi,Zt,Jf,opv];try refine vc7 hB ?_
   try simp only[go_sem,hg,hc,Yb,Xr,hrm1,hrm2,hsx,hax,opi,Zt,Jf,opv]
 have h1':(0:Int)<=ixO m o.id:=by omega
 have hko:=hm _ (Zh (d:=Jd) hk);have hS:=Zel (m.getD k Jd) o (by rw[Zb];have:=hko.d;omega) (by rw[Zb];have:=ho.d;omega);have hgd:=ZC hk;have k0:=Ja k
 have kI:(k:Int)<(m.length:Int):=by omega
 have e:Um m o=if m.getD k Jd=o then(m,7)else(m,15):=by simp[Um,hr,h2]
 rw[e];generalize m.getD k Jd=x at *;by_cases hx:x=o
 all_goals
  simp only[hx,if_true,if_false,decide_true,decide_false]at hS ⊢;refine ZF func33 rfl ntmps33 results33 (ZbM _) ?_;simp only[go_sem,Zt,opv];refine vc6 hR ?_;simp only[go_sem];refine vc7 hA ?_;simp only[go_sem];refine vDq ?_;simp only[go_sem,h1,k0,kI,hk,hgd,hx,opv];refine vc6 hS ?_;simp only[go_sem,h1,k0,opi,Zt]
open Go.PL Go.PL.Srt
def six (m:List Opn):List (List PV):=(List.range 6).map λi=>(Yp m i).map opv
theorem Zou (m:List Opn):(six m).length=6:=rfl
theorem YN (m:List Opn):∀l∈six m,∀p∈l,p.ids= []:=λl hl=>by
 obtain⟨i,_,rfl⟩:=Jk.1 hl;exact Yo YU _
theorem Dg (m:List Opn) {i:Nat} (h:i<6):(six m).getD i []=(Yp m i).map opv:=by
 unfold six;rw[getD_lt (by simpa using h)];simp
theorem Zov (m:List Opn) {o:Opn} {i:Nat} (h:i<6) (ho:o.id.r=(i:Int)+1):(six m).set i ((Yp m i).map opv++ [opv o])=six (m++ [o]):=by
 refine List.ext_getElem (by rw[List.length_set];rfl) λj h1 h2=> ?_
 have hj:j<6:=h2;rw[<-getD_lt (d:= []),<-getD_lt (d:= []),Dg _ hj,ZdB,Jf];by_cases e:i=j;subst e;rw[VU (by rw[Zou];exact h),if_pos ho];rfl;rw[Xj e,Dg _ hj,if_neg (by omega)];simp
theorem Yk (m:List Opn):ZJ 2000 (six m)= [.sl (.row 2000) ((Yp m 0).map opv),.sl (.row 2001) ((Yp m 1).map opv),.sl (.row 2002) ((Yp m 2).map opv),.sl (.row 2003) ((Yp m 3).map opv),.sl (.row 2004) ((Yp m 4).map opv),.sl (.row 2005) ((Yp m 5).map opv)]:=rfl
theorem ZA (m:List Opn):ZS 15 48 2000 (six m)= [(2000,.live (Yp m 0).length 15 48),(2001,.live (Yp m 1).length 15 48),(2002,.live (Yp m 2).length 15 48),(2003,.live (Yp m 3).length 15 48),(2004,.live (Yp m 4).length 15 48),(2005,.live (Yp m 5).length 15 48)]:=by
 show [(2000,Row.live ((Yp m 0).map opv).length 15 _),(2001,.live ((Yp m 1).map opv).length 15 _),(2002,.live ((Yp m 2).map opv).length 15 _),(2003,.live ((Yp m 3).map opv).length 15 _),(2004,.live ((Yp m 4).map opv).length 15 _),(2005,.live ((Yp m 5).map opv).length 15 _)]=_;simp only[Jo]
abbrev Zdp (m:List Opn):MemL:=Xe 15 48 (six m)
theorem Zmc (l:List Tg):((l.map tg).all λe=>e.cells.all PV.leaf)=true:=by
 rw[List.all_eq_true];intro e he;obtain⟨t,_,rfl⟩:=Jk.1 he;rfl
theorem Zmb (x:Opn×Int):(opc x).flat=true:=by
 simp only[opc,opv,PV.flat,PV.flatL,tgs,Zmc,Bool.and_self]
theorem Zlr (m:List Opn) (t:Tg) (ho:∀o∈m,OkOp o):Eff prog 57 [.ptr 1000 0,tg t] (Zdp m) (opc (findP m t)) (Zdp m):=
 .lend (Zg9 m t ho) (Zmb _) (YN m) (by simp[tg,Jc,PV.idsL])
theorem ZnP (m:List Opn) (hm:PoolOk m):Eff prog 15 [.ptr 1000 0] (Zdp m) (.int .i64 (m.length:Int)) (Zdp m):=
 .lend (ZiB m hm) rfl (YN m) (by simp)
theorem ZbP {s:St} {m:List Opn} {n:Int} {rs:List ResultVar} {ph:Nat->Nat} {pq:Nat->Option (Nat×Nat×Nat)} (hr:Uu prog (.int .i64 n) s [] rs) (hh:s.m.h 1000=some (ZJ 2000 (six m))) (hz:s.m.z 1000=false)
  (hq:∀x∈ZS 15 48 2000 (six m),s.m.q x.1=some x.2) (hph:s.m.ph 1000=some (ph 1000)) (hpq:∀x∈ZS 15 48 2000 (six m),s.m.pq x.1=pq x.1):
  ERet prog rs (.int .i64 n) (Zdp m) (Zdp m) ph pq s:=Zn1 (YN m) hr (.clean rfl) hh hz hq hph hpq
theorem ZjC {m:List Opn} {i:Nat} (o:Opn):∀p∈(Yp m i).map opv++ [opv o],p.ids= []:=λp hp=>by
 rcases List.mem_append.1 hp with hp|hp;exact Yo YU _ p hp;rw[Jg.1 hp];exact YU o
theorem i0c:((0:Nat):Int)=0:=rfl
theorem i1c:((1:Nat):Int)=1:=rfl
theorem i2c:((2:Nat):Int)=2:=rfl
theorem i3c:((3:Nat):Int)=3:=rfl
theorem i4c:((4:Nat):Int)=4:=rfl
theorem i5c:((5:Nat):Int)=5:=rfl
theorem ZnS (m:List Opn) (o:Opn) (hm:PoolOk m) (hom:∀x∈m,OkOp x) (ho:OkOp o):Eff prog 18 [.ptr 1000 0,opv o] (Zdp m) (.int .i64 (Um m o).2) (Zdp (Um m o).1):=by
 have hR:=V8 o (by rw[Zb];have:=ho.d;omega);rw[Zgw hm o];cases hr:XJ o;rw[hr]at hR;refine Eff.pl [] func18 (by decide) rfl ntmps18 results18 (by simp) (YN m) (YN m) rfl (by simp[Jc,YU]) rfl λph pq=> ?_
 simp only[go_sem,Yk,ZA,opv];refine vc6 hR ?_;simp only[go_sem];exact ZbP rfl rfl rfl (by rw[ZA];exact(Fc6 rfl rfl rfl rfl rfl rfl)) rfl (by rw[ZA];exact(Fc6 rfl rfl rfl rfl rfl rfl));rw[hr]at hR;have ht:=SL hr;have ht':=ht;simp only[Vl,Jl,decide_eq_true_eq]at ht';have hF:=Zlr m o.id hom;cases hb:VG (YX m) o.id;have hf:findP m o.id=(Jd,6):=by simp[findP,hb]
 rw[hf]at hF;have hL:=ZnP m hm;have hml:=hm.l;obtain⟨i,hi,hri⟩:∃i:Nat,i<6/\o.id.r=(i:Int)+1:=⟨(o.id.r-1).toNat,by omega,by omega⟩;have hi':(o.id.r-1).toNat=i:=by omega
 have e1:IntKind.i64.wrap (o.id.r-1)=(i:Int):=by rw[w64 (by omega)];omega
 have hrl:=ZgB m i;have w2:IntKind.i64.wrap (((Yp m i).length:Int)+1)=((Yp m i).length:Int)+1:=w64 (by omega);rw[hi'];by_cases hn:o.id.n=((Yp m i).length:Int)+1;have hne:(o.id.n !=((Yp m i).length:Int)+1)=false:=by rw[hn];simp
 by_cases hc:400<=m.length
 ·have hc':(400:Int)<=(m.length:Int):=by omega
  have hq:¬o.id.n≠((Yp m i).length:Int)+1:=λh=>h hn
  simp only[hq,hc,if_true,if_false,Jh,Ji];obtain rfl|rfl|rfl|rfl|rfl|rfl:i=0\/i=1\/i=2\/i=3\/i=4\/i=5:=by omega
  all_goals
   refine Eff.pl [] func18 (by decide) rfl ntmps18 results18 (by simp) (YN m) (YN m) rfl (by simp[Jc,YU]) rfl λph pq=> ?_
   simp only[go_sem,Yk,ZA,opv];refine vc6 hR ?_;simp only[go_sem];refine WR hF rfl rfl (by rw[ZA];exact Fc6 ⟨rfl,rfl⟩ ⟨rfl,rfl⟩ ⟨rfl,rfl⟩ ⟨rfl,rfl⟩ ⟨rfl,rfl⟩ ⟨rfl,rfl⟩) (by simp only[go_sem,tg]) ?_;simp only[go_sem,opc,Zw];refine vDq ?_;simp only[go_sem,Yk,ZA,e1,i0c,i1c,i2c,i3c,i4c,i5c,w2,hne];refine WR hL rfl rfl (by rw[ZA];exact Fc6 ⟨rfl,rfl⟩ ⟨rfl,rfl⟩ ⟨rfl,rfl⟩ ⟨rfl,rfl⟩ ⟨rfl,rfl⟩ ⟨rfl,rfl⟩) (by simp only[go_sem]) ?_;simp only[go_sem,hc'];exact ZbP rfl rfl rfl (by rw[ZA];exact(Fc6 rfl rfl rfl rfl rfl rfl)) rfl (by rw[ZA];exact(Fc6 rfl rfl rfl rfl rfl rfl))
 ·have hc':¬(400:Int)<=(m.length:Int):=by omega
  have hq:¬o.id.n≠((Yp m i).length:Int)+1:=λh=>h hn
  simp only[hq,hc,if_false,Jh,Ji];have hO:=Sa o ho;have hrm:=Ym (show(Yp m i).length+1<=1000000 by omega) (show 176<=1000 by omega);have hsz:=Yb (Yp m i);have hsx:Sized 15 [opv o]:=Yb [o];have hax:YZ [opv o]:=Xr [o];have hlt:((six m).getD i []).length<((Yp m i).map opv++ [opv o]).length:=by rw[Dg m hi];simp
  simp only[opv]at hsx hax;show Eff _ _ _ _ _ (Xe 15 _ (six (m++ [o])));rw[<-Zov m hi hri];obtain rfl|rfl|rfl|rfl|rfl|rfl:i=0\/i=1\/i=2\/i=3\/i=4\/i=5:=by omega
  all_goals
   refine Eff.plX _ 55 _ [] func18 (by decide) rfl ntmps18 results18 (by simp) hi (by decide) hlt (YN m) (ZjC o) (by simp[Jc,YU]) rfl λph pq=> ?_
   simp only[go_sem,Yk,ZA,opv];refine vc6 hR ?_;simp only[go_sem];refine WR hF rfl rfl (by rw[ZA];exact Fc6 ⟨rfl,rfl⟩ ⟨rfl,rfl⟩ ⟨rfl,rfl⟩ ⟨rfl,rfl⟩ ⟨rfl,rfl⟩ ⟨rfl,rfl⟩) (by simp only[go_sem,tg]) ?_;simp only[go_sem,opc,Zw];refine vDq ?_;simp only[go_sem,Yk,ZA,e1,i0c,i1c,i2c,i3c,i4c,i5c,w2,hne];refine WR hL rfl rfl (by rw[ZA];exact Fc6 ⟨rfl,rfl⟩ ⟨rfl,rfl⟩ ⟨rfl,rfl⟩ ⟨rfl,rfl⟩ ⟨rfl,rfl⟩ ⟨rfl,rfl⟩) (by simp only[go_sem]) ?_;simp only[go_sem,hc'];refine vDq ?_;simp only[go_sem,Yk,ZA,opv];refine vc6 hO ?_;simp only[go_sem,opv,hrm,hsz,hsx,hax];exact Zl8 (r0:= .int .i64 0) hi rfl (.clean rfl) rfl rfl (by simp only[List.length_append,Jo];rfl) (by rw[ZA];exact(Fc6 rfl rfl rfl rfl rfl rfl)) rfl (by rw[ZA];exact(Fc6 rfl rfl rfl rfl rfl rfl))
 ·have hne:(o.id.n !=((Yp m i).length:Int)+1)=true:=by simpa using hn
  have hq:o.id.n≠((Yp m i).length:Int)+1:=hn;rw[if_neg (by simp),if_neg (by simp),if_pos hq];obtain rfl|rfl|rfl|rfl|rfl|rfl:i=0\/i=1\/i=2\/i=3\/i=4\/i=5:=by omega
  all_goals
   refine Eff.pl [] func18 (by decide) rfl ntmps18 results18 (by simp) (YN m) (YN m) rfl (by simp[Jc,YU]) rfl λph pq=> ?_
   simp only[go_sem,Yk,ZA,opv];refine vc6 hR ?_;simp only[go_sem];refine WR hF rfl rfl (by rw[ZA];exact Fc6 ⟨rfl,rfl⟩ ⟨rfl,rfl⟩ ⟨rfl,rfl⟩ ⟨rfl,rfl⟩ ⟨rfl,rfl⟩ ⟨rfl,rfl⟩) (by simp only[go_sem,tg]) ?_;simp only[go_sem,opc,Zw];refine vDq ?_;simp only[go_sem,Yk,ZA,e1,i0c,i1c,i2c,i3c,i4c,i5c,w2,hne];exact ZbP rfl rfl rfl (by rw[ZA];exact(Fc6 rfl rfl rfl rfl rfl rfl)) rfl (by rw[ZA];exact(Fc6 rfl rfl rfl rfl rfl rfl))
 have hf:findP m o.id=((Yp m (o.id.r-1).toNat).getD (o.id.n-1).toNat Jd,0):=by simp[findP,hb]
 rw[hf]at hF;have hxm:=(Sw (hm.found hb)).1;have hS:=Zac ((Yp m (o.id.r-1).toNat).getD (o.id.n-1).toNat Jd) o (by rw[Zb];have:=(hom _ hxm).d;omega) (by rw[Zb];have:=ho.d;omega);rw[if_neg (by simp),if_pos rfl];generalize (Yp m (o.id.r-1).toNat).getD (o.id.n-1).toNat Jd=x at *;by_cases hx:x=o
 all_goals
  simp only[hx,if_true,if_false,decide_true,decide_false]at hS ⊢;refine Eff.pl [] func18 (by decide) rfl ntmps18 results18 (by simp) (YN m) (YN m) rfl (by simp[Jc,YU]) rfl λph pq=> ?_
  simp only[go_sem,Yk,ZA,opv];refine vc6 hR ?_;simp only[go_sem];refine WR hF rfl rfl (by rw[ZA];exact Fc6 ⟨rfl,rfl⟩ ⟨rfl,rfl⟩ ⟨rfl,rfl⟩ ⟨rfl,rfl⟩ ⟨rfl,rfl⟩ ⟨rfl,rfl⟩) (by simp only[go_sem,tg]) ?_;simp only[go_sem,opc,opv,hx];refine vc6 hS ?_;simp only[go_sem];exact ZbP rfl rfl rfl (by rw[ZA];exact(Fc6 rfl rfl rfl rfl rfl rfl)) rfl (by rw[ZA];exact(Fc6 rfl rfl rfl rfl rfl rfl))
open Go.PL Go.PL.Srt
theorem ZnQ:Eff prog 28 [] noV (.ptr 2 0) (Zno 2 [.sl .nil [],.sl .nil [],.sl .nil [],.sl .nil [],.sl .nil [],.sl .nil []]):=by
 refine Eff.bn [] func28 (by decide) rfl ntmps28 results28 (by simp) (by simp[Jc]) (by simp) (by simp[Jc]) λph pq=> ?_
 simp only[go_sem];exact Zn0 (r0:= .ptr 2 0) (by simp[Jc]) rfl (.keep _ (by intro i hi;simp[Jc]at hi;subst hi;exact⟨_,Jg.2 rfl,rfl⟩)) rfl rfl
section
variable {s:St} {n:Nat} {L:List (Nat×PV)} {m:List Opn}
theorem Zc0 (h0:s.n=n) (hL:∀x∈L,s.fr x.1=x.2) (hb:s.m.h 1000=some (ZJ 2000 (six m))) (hz:s.m.z 1000=false) (hq:∀x∈ZS 15 48 2000 (six m),s.m.q x.1=some x.2):
  HasX n L [(1000,ZJ 2000 (six m),false)] (ZS 15 48 2000 (six m)) [] [] [] [] [] [] s:=
 ⟨⟨h0,hL,by simp[hb,hz],hq⟩,by simp,by simp,by simp,by simp,by simp,by simp⟩
theorem ZfO (hL:∀x∈L,x.2.ids.all (Zy [(1000,ZJ 2000 (six m),false)] (ZS 15 48 2000 (six m)))=true):
  WholeX L [(1000,ZJ 2000 (six m),false)] (ZS 15 48 2000 (six m)) [] [] [] []:=
 ⟨⟨hL,by simp[Yk,ZA,PV.idsL,Jc,Zy]⟩,by simp,by simp,by simp,by simp,by simp⟩
end
def Zrw (m:List Opn):PV:= .tup [.rptr (m6 m),Zt m,.bool true]
theorem ZlZ (m:List Opn):Jj (m6 m)= []:=by
 show Jj [Zt (Yp m 0),Zt (Yp m 1),Zt (Yp m 2),Zt (Yp m 3),Zt (Yp m 4),Zt (Yp m 5)]= [];simp only[Jj,Wn,Jb]
theorem Zjm (m:List Opn):(Zrw m).dids= []:=by simp only[Zrw,PV.dids,Jj,Wn,ZlZ,Jb]
theorem Zec (l:List Opn) (hl:l.length<=100000) (ho:∀o∈l,OkOp o):Pp 11 [Zt l] (Zrw (VT l)):=by
 have hlm:l.length<=maxLen:=by rw[Zb];omega
 refine PL.Pure.of_p [] func11 (by decide) rfl ntmps11 results11 (by simp) (Zjm _) ?_;simp only[go_sem,Zt];refine Znd 1000 ZnQ (by simp[Jc]) (by simp) rfl (by simp only[go_sem]) ?_;simp only[go_sem,PV.ren];refine Zcz 6 11 [] rfl ?_;refine GO (Je (b:=1000) (j:=0) (d:=2000) (sz:=15) (e:=48) rfl rfl (by decide) rfl rfl) ?_;refine GO (Je (b:=1000) (j:=1) (d:=2001) (sz:=15) (e:=48) rfl rfl (by decide) rfl rfl) ?_;refine GO (Je (b:=1000) (j:=2) (d:=2002) (sz:=15) (e:=48) rfl rfl (by decide) rfl rfl) ?_;refine GO (Je (b:=1000) (j:=3) (d:=2003) (sz:=15) (e:=48) rfl rfl (by decide) rfl rfl) ?_;refine GO (Je (b:=1000) (j:=4) (d:=2004) (sz:=15) (e:=48) rfl rfl (by decide) rfl rfl) ?_;refine GO (Je (b:=1000) (j:=5) (d:=2005) (sz:=15) (e:=48) rfl rfl (by decide) rfl rfl) ?_;refine YO (ι:= { k:Nat // k<=l.length }) 40 (λx=> [(0,Zt l),(5,.ptr 1000 0),(6,Zt (VT (l.take x.1))),(7,.int .i64 (x.1:Int))]) (λx=> [(1000,ZJ 2000 (six (VT (l.take x.1))),false)]) (λx=>ZS 15 48 2000 (six (VT (l.take x.1)))) (λ_=> []) (λ_=> []) (λ_=> []) (λ_=> []) [] [] [] (λx=>l.length-x.1) ⟨0,Jn _⟩
  (Zc0 rfl (Fc4 rfl rfl rfl rfl) rfl rfl (by rw[ZA];exact(Fc6 rfl rfl rfl rfl rfl rfl))) (λx=>ZfO (by simp[Jc,Zt,Zy])) (λx=> ?_)
 obtain⟨k,hk⟩:=x;simp only;have hko:=Zf5 (l.take k);have hkl:=hko.l;have hfo:∀o∈VT (l.take k),OkOp o:=λo h=>ho o (List.mem_of_mem_take (ZcJ h))
 by_cases h:(k:Int)<(l.length:Int);have hka:k<l.length:=by omega
 have i1:=Ja k
 have w1:=We hka hlm;have hxo:=ho _ (Zh (d:=Jd) hka);have hsn:=ZhB hka;generalize VT (l.take k)=m at *;have hP:=Zem m (l.getD k Jd) (by omega) hxo hfo;have hE:=ZnS m (l.getD k Jd) hko hfo hxo;generalize hx:l.getD k Jd=x at *;generalize Um m x=pm at *;obtain⟨m',c⟩:=pm;simp only[go_sem,Zt,h,ZC hka,hx,opv,i1,Yk,ZA];refine vc7 hP ?_;simp only[go_sem,opi,Zt,h,ZC hka,hx,opv,i1,Yk,ZA];refine ZgR hE rfl rfl rfl (by rw[ZA];exact(Fc6 rfl rfl rfl rfl rfl rfl)) (by simp only[go_sem,opv]) ?_;rw[Zgh];simp only[go_sem,Yk,ZA,w1];exact⟨⟨k+1,by omega⟩,nx9 (by omega),by simp only[hsn];rw[<-Yk m',<-ZA m'];exact Zc0 rfl (Fc4 rfl rfl rfl rfl) rfl rfl (by rw[ZA];exact(Fc6 rfl rfl rfl rfl rfl rfl))⟩;obtain rfl:k=l.length:=by omega
 simp only[go_sem,Zt,h,Yk,ZA,Jm];refine⟨_,rfl,.tup [.ptr 1000 0,Zt (VT l),.bool true] [.rptr (m6 (VT l)),Zt (VT l),.bool true] rfl λi hi=> ?_⟩;match i,hi with
 |0,_=>
  refine .blk 1000 0 (ZJ 2000 (six (VT l))) (m6 (VT l)) (by simp) rfl rfl rfl (λp hp=> ?_) (λj hj=> ?_);obtain⟨i,_,rfl⟩:=Jk.1 hp;rfl;have hj:j<6:=hj;rw[YK hj,Dg _ hj,ZbA _ hj];exact .row _ _
 |1,_=>exact .clean rfl
 |2,_=>exact .clean rfl
open Go.PL Go.PL.Srt
theorem Zha (m:List Eg) (l:List Opn) (v:List Int) (cart:Str) (b:Tg) (hm:OkM m) (hr:RightM m) (hl:l.length<=100000) (hv:v.length=6) (ho:∀o∈l,OkOp o) (hU:(l.map Opn.id).Nodup):
  Pp 21 [tr (Ze m),Zt l,UG v,.str cart,tg b] (Zap (Yf m (atM v l) cart b)):=by
 have hT:=Zaj l v hl hv;have hV:=WS m (atM v l) cart b hm hr (λo h=>ho o ((Zey v l).mem h)) (List.Nodup.sublist ((Zey v l).map _) hU);generalize Yf m (atM v l) cart b=Y at *;generalize atM v l=A at *;obtain⟨⟨hd,rws⟩,c⟩:=Y;refine ZF func21 rfl ntmps21 results21 (UN _) ?_;simp only[go_sem,tr,Zt,UG,tg,hv,ZY hv];refine ZdZ [(7,10),(9,10)] (by kernel_rfl) (by kernel_rfl) (by exact rfl) ?_;simp only[go_sem,hv,ZY hv];refine vc9 hT ?_;simp only[go_sem,Zt];refine vc7 hV ?_;simp only[go_sem,Zap,doc]
def Vk (h:Tg->Bool) (m:List Opn) (i j:Nat):Bool:=((m.take i).all λo=>o.drops.all h)&&((m.getD i Jd).drops.take j).all h
theorem ZfM {h:Tg->Bool} {m:List Opn} {i j:Nat} (hj:j<(m.getD i Jd).drops.length):Vk h m i (j+1)=(Vk h m i j&&h ((m.getD i Jd).drops.getD j Jd)):=by
 unfold Vk;rw[ZI (d:=Jd) hj,Jp,Bool.and_assoc];simp
theorem Zlc {h:Tg->Bool} {m:List Opn} {i:Nat} (hi:i<m.length):Vk h m (i+1) 0=Vk h m i (m.getD i Jd).drops.length:=by
 unfold Vk;rw[ZI (d:=Jd) hi,Jp,Jm];simp
theorem ZfN {h:Tg->Bool} {m:List Opn}:Vk h m 0 0=true:=by simp[Vk]
theorem Zir {h:Tg->Bool} {m:List Opn}:Vk h m m.length 0=m.all λo=>o.drops.all h:=by simp[Vk]
theorem PastWhole_pure (l:List Eg) (ops:List Opn) (cart:Str) (b:Tg) (hl:l.length<=maxLen) (hx:∀e∈l,LenLn e.ln) (hol:ops.length<=maxLen):Pp 4 [egs l,Zt ops,.str cart,tg b] (.bool true):=by
 have hH:=Zck l 50 hl hx;have hJ:=FG ops 30 hol;cases hh:DU l 50;rw[hh]at hH;cases hj:Ug ops 30;rw[hj]at hJ;obtain⟨o1,o2⟩:=okL hh;obtain⟨p1,p2⟩:=Zsp (most:=30) hj;have hG:=Zg7 l (by omega) o2;have hm:OkM (W6 l):=Zfd _ T1 o2;have hr:RightM (W6 l):=ZaY _ Fl;generalize W6 l=g at *;have hF:=Zec ops (by omega) p2;have hk:=Zf5 ops;have hfo:∀o∈VT ops,OkOp o:=λo h=>p2 o (ZcJ h)
 generalize VT ops=m at *;have hop:∀o∈Zcb m,OkOp o:=λo h=>hfo o ((SF hk).1 h)
 have hv:=VV m;have hkl:=hk.l;have hol2:=Zgs hk;have hP:=S5 m;have hO:=ZiC m hk hfo;have hV:=Zha g (Zcb m) (YX m) cart b hm hr (by omega) hv hop hk.nodup;rw[ZiS hk]at hV;have hW:=WS g (Zcb m) cart b hm hr hop hk.nodup;have hfi:Zli (Yf g (Zcb m) cart b).1:=Zk5 hm;have hS:=Zeo _ _ hfi hfi;rw[decide_eq_true rfl]at hS;have hC:=Zeb (Zcb m) (YX m) (by omega) hv hop;rw[ZeH hk]at hC;have hD:=Zhe (YX m) hv;generalize Yf g (Zcb m) cart b=Y at *;generalize Zcb m=A at *;obtain⟨⟨hd,rws⟩,c⟩:=Y;refine Zz func4 rfl ntmps4 results4 ?_;simp only[go_sem,egs,Zt,tg];refine vc1 UJ ?_;simp only[go_sem];refine vc3 hH ?_;simp only[go_sem];refine vc7 hJ ?_;simp only[go_sem];refine vc3 hG ?_;simp only[go_sem,grv];refine vc7 hF ?_;simp only[go_sem,Zrw];refine vc1 hP ?_;simp only[go_sem,UG,hv,ZY hv,Zd7,Jb];refine vDq ?_;simp only[go_sem,hv,ZY hv];refine vc1 hO ?_;simp only[go_sem,Zt,hv,ZY hv];refine vc9 hV ?_;simp only[go_sem,Zap,doc];refine vDq ?_;simp only[go_sem];refine vc1 hO ?_;simp only[go_sem,Zt];refine vc7 hW ?_;simp only[go_sem,Zap,doc];refine vc1 hS ?_;simp only[go_sem];refine Zr (ι:= { i:Nat // i<=m.length }) 114 (λx=> [(12,.rptr (m6 m)),(13,Zt m),(15,.ptr 15 0),(20,.bool (Vk (VG (YX m)) m x.1 0)),(21,.int .i64 (x.1:Int))]) (λ_=> [(15,(YX m).map (.int .i64),false)]) (λ_=> []) (λx=>m.length-x.1) ⟨0,Jn _⟩
  ⟨rfl,Fc5 rfl rfl rfl (by show _=PV.bool (Vk (VG (YX m)) m 0 0);rw[ZfN];rfl) rfl,fcs ⟨rfl,rfl⟩ fnl,fnl⟩ (λx=>⟨(Fc5 rfl rfl rfl rfl rfl),fcs (by rw[XW];rfl) fnl⟩) (λx=> ?_)
 obtain⟨i,hi⟩:=x;simp only;by_cases h:(i:Int)<(m.length:Int);have hia:i<m.length:=by omega
 have i0:=Ja i
 have w1:=wk9 (k:=i) (by omega)
 have hup:=Zlc (h:=VG (YX m)) hia;have hxd:=(hfo _ (Zh (d:=Jd) hia)).d;have hgd:=ZC hia;simp only[go_sem,Zt,h];refine Zr (ι:= { j:Nat // j<=(m.getD i Jd).drops.length }) 114 (λx=> [(12,.rptr (m6 m)),(13,Zt m),(15,.ptr 15 0),(20,.bool (Vk (VG (YX m)) m i x.1)),(21,.int .i64 (i:Int)),(22,.int .i64 (x.1:Int))]) (λ_=> [(15,(YX m).map (.int .i64),false)]) (λ_=> []) (λx=>(m.getD i Jd).drops.length-x.1) ⟨0,Jn _⟩
  ⟨rfl,(Fc6 rfl rfl rfl rfl rfl rfl),fcs ⟨rfl,rfl⟩ fnl,fnl⟩ (λx=>⟨(Fc6 rfl rfl rfl rfl rfl rfl),fcs (by rw[XW];rfl) fnl⟩) (λx=> ?_)
 obtain⟨j,hj⟩:=x;simp only;by_cases h2:(j:Int)<((m.getD i Jd).drops.length:Int);have hja:j<(m.getD i Jd).drops.length:=by omega
 have j0:=Ja j
 have w2:=wk9 (k:=j) (by omega)
 have hnx:=ZfM (h:=VG (YX m)) hja;have hD2:=hD ((m.getD i Jd).drops.getD j Jd);have hgt:=ZE hja;cases hw:Vk (VG (YX m)) m i j;rw[hw,Bool.false_and]at hnx;simp only[go_sem,Zt,h,hgd,i0,opv,tgs,h2];refine vDq ?_;simp only[go_sem,Zt,h,hgd,i0,opv,tgs,h2,w2];exact⟨⟨j+1,by omega⟩,by show(m.getD i Jd).drops.length-(j+1)<(m.getD i Jd).drops.length-j;omega,⟨rfl,by simp only;rw[hnx];exact(Fc6 rfl rfl rfl rfl rfl rfl),fcs ⟨rfl,rfl⟩ fnl,fnl⟩⟩;rw[hw,Bool.true_and]at hnx;rw[<-hnx]at hD2;simp only[go_sem,Zt,h,hgd,i0,opv,tgs,h2];refine vDq ?_;simp only[go_sem,Zt,h,hgd,i0,j0,opv,tgs,tg,hgt,h2,hv,ZY hv];refine vc9 hD2 ?_;simp only[go_sem,w2];exact⟨⟨j+1,by omega⟩,by show(m.getD i Jd).drops.length-(j+1)<(m.getD i Jd).drops.length-j;omega,⟨rfl,(Fc6 rfl rfl rfl rfl rfl rfl),fcs ⟨rfl,rfl⟩ fnl,fnl⟩⟩;obtain rfl:j=(m.getD i Jd).drops.length:=by omega
 simp only[go_sem,Zt,h,hgd,i0,opv,tgs,h2,w1];exact⟨⟨i+1,by omega⟩,nx9 (by omega),⟨rfl,by simp only;rw[hup];exact(Fc5 rfl rfl rfl rfl rfl),fcs ⟨rfl,rfl⟩ fnl,fnl⟩⟩;obtain rfl:i=m.length:=by omega
 rw[<-Zir]at hC;have hbb:∀b:Bool,(b==b)=true:=λb=>by simp
 generalize Vk (VG (YX m)) m m.length 0=wb at *;simp only[go_sem,Zt,h];refine vDq ?_;simp only[go_sem,hv,ZY hv];refine vc1 hO ?_;simp only[go_sem,Zt,hv,ZY hv];refine vc9 hC ?_;simp only[go_sem,hbb];rw[hj]at hJ;refine Zz func4 rfl ntmps4 results4 ?_;simp only[go_sem,egs,Zt,tg];refine vc1 UJ ?_;simp only[go_sem];refine vc3 hH ?_;simp only[go_sem];refine vc7 hJ ?_;simp only[go_sem];rw[hh]at hH;refine Zz func4 rfl ntmps4 results4 ?_;simp only[go_sem,egs,Zt,tg];refine vc1 UJ ?_;simp only[go_sem];refine vc3 hH ?_;simp only[go_sem]
end Go.Proofs.YtepchngegclagaaGreat
