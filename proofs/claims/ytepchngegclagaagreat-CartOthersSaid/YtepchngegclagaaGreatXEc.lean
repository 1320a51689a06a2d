/- Lemmas of the proof. -/
import Derived.Test.YtepchngegclagaaGreatPlH
import Derived.Test.YtepchngegclagaaGreatXAa
import Derived.Test.YtepchngegclagaaGreatXAh
import Derived.Test.YtepchngegclagaaGreatXAn
import Derived.Test.YtepchngegclagaaGreatXAz
import Derived.Test.YtepchngegclagaaGreatXBd
import Derived.Test.YtepchngegclagaaGreatXCc
import Derived.Test.YtepchngegclagaaGreatXDo
import Derived.Test.YtepchngegclagaaGreatXDy
import Derived.Test.YtepchngegclagaaGreatXEz
set_option maxHeartbeats 64000000
set_option maxRecDepth 20000
set_option linter.unusedVariables false
set_option linter.unusedSimpArgs false
open Inhabited renaming default→Jd
open Go.Proofs.Tryz
open Go Go.PL
open Bool renaming and_self→Jh
open Gh renaming nilRowB→Ja
open Int renaming natCast_nonneg→Ji
open List renaming mem_singleton→Jb,getElem_of_mem→Jg,perm_middle→Jj,all_eq_true→Jk,map_append→Jl,mem_cons→Jm,map_cons→Jn,mem_map→Jo
open Nat renaming zero_le→Jp
open PV renaming ids→Jc,idsL→Je,flatSL→Jf
namespace Go.Proofs.YtepchngegclagaaGreat
open Go.PL
theorem ZjO (m:List Opn) (t:Tg):(ixO m t<0/\UT m t=none)\/ ∃k,k<m.length/\ixO m t=(k:Int)/\UT m t=some (m.getD k Jd):=by
 unfold ixO UT;cases h:m.findIdx? λo=>decide (o.id=t)with
 |none=>exact .inl ⟨by decide,List.find?_eq_none.2 λo ho=>by rw[List.findIdx?_eq_none_iff]at h;simpa using h o ho⟩
 |some k=>
  obtain⟨h1,h2,h3⟩:=List.findIdx?_eq_some_iff_getElem.1 h;refine .inr ⟨k,h1,rfl,?_⟩;rw[getD_lt h1];exact List.find?_eq_some_iff_getElem.2 ⟨h2,k,h1,rfl,λj hj=>by simpa using h3 j hj⟩
def opi (x:List Opn×Int):PV:= .tup [Zr x.1,.int .i64 x.2]
theorem ZbX (x:List Opn×Int):(opi x).dids= []:=by simp only[opi,PV.dids,PV.didsL,U1,List.append_nil]
theorem ZeC (m:List Opn) (o:Opn) (hl:m.length<=100000) (ho:OkOp o) (hm:∀x∈m,OkOp x):Pp 33 [Zr m,opv o] (opi (X7 m o)):=by
 have hR:=ZcL o;cases hr:Yk o;rw[hr]at hR;have e:X7 m o=(m,5):=by simp[X7,hr]
 rw[e];refine ZM func33 rfl ntmps33 results33 (ZbX _) ?_;simp only[go_sem,Zr,opv];refine vc6 hR ?_;simp only[go_sem,opi,Zr];rw[hr]at hR;have hA:=Zar m o.id hl;rcases ZjO m o.id with ⟨h1,h2⟩|⟨k,hk,h1,h2⟩
 ·have h1':¬(0:Int)<=ixO m o.id:=by omega
  have hB:=Zar m ⟨o.id.r,o.id.n-1⟩ hl;have ht:=SJ hr;simp only[Wy,Bool.and_eq_true,decide_eq_true_eq]at ht;have wn:IntKind.i64.wrap (o.id.n-1)=o.id.n-1:=w64 (by omega);have hrm1:=YV (show m.length<=1000000 by omega) (show 176<=1000 by omega);have hrm2:=YV (show m.length+1<=1000000 by omega) (show 176<=1000 by omega);have hsx:Sized 15 [opv o]:=Yt [o];have hax:XQ [opv o]:=Wj [o];simp only[opv]at hsx hax;have e:X7 m o=if 1<o.id.n/\ixO m ⟨o.id.r,o.id.n-1⟩<0 then(m,17)else if(399:Int)<(m.length:Int)then(m,9)else(m++ [o],0):=by
   have hg:(UT m ⟨o.id.r,o.id.n-1⟩).isSome= !decide (ixO m ⟨o.id.r,o.id.n-1⟩<0):=by
    rcases ZjO m ⟨o.id.r,o.id.n-1⟩with ⟨g1,g2⟩|⟨k,hk,g1,g2⟩;rw[g2,decide_eq_true g1];rfl;rw[g2,decide_eq_false (by omega)];rfl
   have hc:((399:Int)<(m.length:Int))=(399<m.length):=by simp only[eq_iff_iff];omega
   unfold X7;rw[hr,h2,hg];simp only[hc];simp
  rw[e];by_cases hn:1<o.id.n<;>by_cases hg:ixO m ⟨o.id.r,o.id.n-1⟩<0<;>by_cases hc:(399:Int)<(m.length:Int)
  all_goals
   simp only[hn,hg,hc,and_self,and_true,and_false,if_true,if_false];refine ZM func33 rfl ntmps33 results33 (ZbX _) ?_;simp only[go_sem,Zr,opv];refine vc6 hR ?_;simp only[go_sem];refine vc7 hA ?_;simp only[go_sem];refine vDq ?_;simp only[go_sem,h1',hn,wn,hc,Yt,Wj,hrm1,hrm2,hsx,hax,opi,Zr,Jl,opv];try refine vc7 hB ?_
   try simp only[go_sem,hg,hc,Yt,Wj,hrm1,hrm2,hsx,hax,opi,Zr,Jl,opv]
 have h1':(0:Int)<=ixO m o.id:=by omega
 have hko:=hm _ (Zy (d:=Jd) hk);have hS:=ZeB (m.getD k Jd) o (by rw[Zd];have:=hko.d;omega) (by rw[Zd];have:=ho.d;omega);have hgd:=ZI hk;have k0:=Ji k
 have kI:(k:Int)<(m.length:Int):=by omega
 have e:X7 m o=if m.getD k Jd=o then(m,7)else(m,15):=by simp[X7,hr,h2]
 rw[e];generalize m.getD k Jd=x at *;by_cases hx:x=o
 all_goals
  simp only[hx,if_true,if_false,decide_true,decide_false]at hS ⊢;refine ZM func33 rfl ntmps33 results33 (ZbX _) ?_;simp only[go_sem,Zr,opv];refine vc6 hR ?_;simp only[go_sem];refine vc7 hA ?_;simp only[go_sem];refine vDq ?_;simp only[go_sem,h1,k0,kI,hk,hgd,hx,opv];refine vc6 hS ?_;simp only[go_sem,h1,k0,opi,Zr]
open Go.PL Go.PL.Srt
theorem ZiI:Eff prog 28 [] noV (.ptr 2 0) (Znv 2 [.sl .nil [],.sl .nil [],.sl .nil [],.sl .nil [],.sl .nil [],.sl .nil []]):=by
 refine Eff.bn [] func28 (by decide) rfl ntmps28 results28 (by simp) (by simp[Jc]) (by simp) (by simp[Jc]) λph pq=> ?_
 simp only[go_sem];exact Zoh (r0:= .ptr 2 0) (by simp[Jc]) rfl (.keep _ (by intro i hi;simp[Jc]at hi;subst hi;exact⟨_,Jb.2 rfl,rfl⟩)) rfl rfl
section
variable {s:St} {n:Nat} {L:List (Nat×PV)} {m:List Opn}
theorem Zdl (h0:s.n=n) (hL:∀x∈L,s.fr x.1=x.2) (hb:s.m.h 1000=some (ZJ 2000 (six m))) (hz:s.m.z 1000=false) (hq:∀x∈ZO 15 48 2000 (six m),s.m.q x.1=some x.2):
  HasX n L [(1000,ZJ 2000 (six m),false)] (ZO 15 48 2000 (six m)) [] [] [] [] [] [] s:=
 ⟨⟨h0,hL,by simp[hb,hz],hq⟩,by simp,by simp,by simp,by simp,by simp,by simp⟩
theorem Zf1 (hL:∀x∈L,x.2.ids.all (ZN [(1000,ZJ 2000 (six m),false)] (ZO 15 48 2000 (six m)))=true):
  WholeX L [(1000,ZJ 2000 (six m),false)] (ZO 15 48 2000 (six m)) [] [] [] []:=
 ⟨⟨hL,by simp[ZG,Zh,Je,Jc,ZN]⟩,by simp,by simp,by simp,by simp,by simp⟩
end
open Go.PL Go.PL.Srt
def Zqb (m:List Opn):PV:= .tup [.ptr 1000 0,Zr m,.bool true]
theorem Zgf (m:List Opn):∀j∈(Zqb m).ids,j= .b 1000:=λj hj=>by
 have:(Zqb m).ids= [.b 1000]:=by simp[Zqb,Jc,Je,Zr]
 rw[this]at hj;simpa using hj
theorem Zhc (l:List Opn) (hl:l.length<=100000) (ho:∀o∈l,OkOp o):Eff prog 11 [Zr l] noV (Zqb (Vu l)) (Vj (Vu l)):=by
 have hlm:l.length<=maxLen:=by rw[Zd];omega
 refine Eff.pn [] func11 (by decide) rfl ntmps11 results11 (by simp) (Yo _) (by simp[Zr,Jc]) (Zgf _) λph pq=> ?_
 simp only[go_sem,Zr];refine ZgY 1000 ZiI (by simp[Jc]) (by simp) rfl (by simp only[go_sem]) ?_;simp only[go_sem,PV.ren];refine ZcX 6 11 [] rfl ?_;refine W6 (Ja (b:=1000) (j:=0) (d:=2000) (sz:=15) (e:=48) rfl rfl (by decide) rfl rfl) ?_;refine W6 (Ja (b:=1000) (j:=1) (d:=2001) (sz:=15) (e:=48) rfl rfl (by decide) rfl rfl) ?_;refine W6 (Ja (b:=1000) (j:=2) (d:=2002) (sz:=15) (e:=48) rfl rfl (by decide) rfl rfl) ?_;refine W6 (Ja (b:=1000) (j:=3) (d:=2003) (sz:=15) (e:=48) rfl rfl (by decide) rfl rfl) ?_;refine W6 (Ja (b:=1000) (j:=4) (d:=2004) (sz:=15) (e:=48) rfl rfl (by decide) rfl rfl) ?_;refine W6 (Ja (b:=1000) (j:=5) (d:=2005) (sz:=15) (e:=48) rfl rfl (by decide) rfl rfl) ?_;refine XP (ι:= { k:Nat // k<=l.length }) 40 (λx=> [(0,Zr l),(5,.ptr 1000 0),(6,Zr (Vu (l.take x.1))),(7,.int .i64 (x.1:Int))]) (λx=> [(1000,ZJ 2000 (six (Vu (l.take x.1))),false)]) (λx=>ZO 15 48 2000 (six (Vu (l.take x.1)))) (λ_=> []) (λ_=> []) (λ_=> []) (λ_=> []) [] [] [] (λx=>l.length-x.1) ⟨0,Jp _⟩
  (Zdl rfl (Fc4 rfl rfl rfl rfl) rfl rfl (by rw[Zh];exact(Fc6 rfl rfl rfl rfl rfl rfl))) (λx=>Zf1 (by simp[Jc,Zr,ZN])) (λx=> ?_)
 obtain⟨k,hk⟩:=x;simp only;have hko:=To (l.take k);have hkl:=hko.l;have hfo:∀o∈Vu (l.take k),OkOp o:=λo h=>ho o (List.mem_of_mem_take (Zc7 h))
 by_cases h:(k:Int)<(l.length:Int);have hka:k<l.length:=by omega
 have i1:=Ji k
 have w1:=Vt hka hlm;have hxo:=ho _ (Zy (d:=Jd) hka);have hsn:=ZhE hka;generalize Vu (l.take k)=m at *;have hP:=ZeC m (l.getD k Jd) (by omega) hxo hfo;have hE:=DE m (l.getD k Jd) hko hfo hxo;generalize hx:l.getD k Jd=x at *;generalize X7 m x=pm at *;obtain⟨m',c⟩:=pm;simp only[go_sem,Zr,h,ZI hka,hx,opv,i1,ZG,Zh];refine vc7 hP ?_;simp only[go_sem,opi,Zr,h,ZI hka,hx,opv,i1,ZG,Zh];refine TI hE rfl rfl rfl (by rw[Zh];exact(Fc6 rfl rfl rfl rfl rfl rfl)) (by simp only[go_sem,opv]) ?_;rw[Ui];simp only[go_sem,ZG,Zh,w1];exact⟨⟨k+1,by omega⟩,nx9 (by omega),by simp only[hsn];rw[<-ZG m',<-Zh m'];exact Zdl rfl (Fc4 rfl rfl rfl rfl) rfl rfl (by rw[Zh];exact(Fc6 rfl rfl rfl rfl rfl rfl))⟩;obtain rfl:k=l.length:=by omega
 simp only[go_sem,Zr,h,ZG,Zh,List.take_length];refine Zoj (Yo _) (r0:= .tup [.ptr 1000 0,Zr (Vu l),.bool true]) rfl (.keep _ λj hj=> ?_) rfl rfl (by rw[Zh];exact(Fc6 rfl rfl rfl rfl rfl rfl));rw[Zgf (Vu l) j hj];exact⟨_,Jb.2 rfl,rfl⟩
open Go.PL
open Go.PL
open Go.PL Go.PL.Srt
end Go.Proofs.YtepchngegclagaaGreat
namespace Go.PL
open Srt
end Go.PL
namespace Go.Proofs.YtepchngegclagaaGreat
open Go.PL Go.PL.Srt
open Go.PL Go.PL.Srt
open Go.PL Go.PL.Srt
theorem ins_perm (l:List Tg) (t:Tg):(ZnC l t).Perm (t::l):=by
 unfold ZnC;refine Jj.trans ?_;rw[List.take_append_drop]
theorem ZhQ {l:List Tg} (h:l.Pairwise λa b=>leT a b=true) (t:Tg):(ZnC l t).Pairwise λa b=>leT a b=true:=by
 have hA:∀a∈l.take (ZgH l t),leT a t=true:=λa ha=>by
  obtain⟨k,hk,rfl⟩:=Jg ha;rw[List.length_take]at hk;have:=Zkm l t k (by omega);rw[getD_lt (by omega)]at this;rw[List.getElem_take];exact ZjV this
 have hB:∀b∈l.drop (ZgH l t),leT t b=true:=λb hb=>by
  obtain⟨k,hk,rfl⟩:=Jg hb;rw[List.length_drop]at hk;rw[List.getElem_drop];have h0:=ZdG l t (by omega);rw[getD_lt (by omega)]at h0;have h1:leT t l[ZgH l t]=true:=by simp[leT,h0]
  cases k with
  |zero=>simpa using h1
  |succ k=>exact Sv _ _ _ h1 (List.pairwise_iff_getElem.1 h _ _ _ _ (by omega))
 unfold ZnC;rw[List.pairwise_append,List.pairwise_cons];refine⟨h.sublist (List.take_sublist _ _),⟨hB,h.sublist (List.drop_sublist _ _)⟩,λa ha b hb=> ?_⟩;rcases Jm.1 hb with rfl|hb;exact hA a ha;exact Sv _ _ _ (hA a ha) (hB b hb)
theorem Zgj:∀(l acc:List Tg),(acc.Pairwise λa b=>leT a b=true)->(l.foldl ZnC acc).Perm (acc++l)/\(l.foldl ZnC acc).Pairwise λa b=>leT a b=true
 | [],acc,h=>⟨by simp,h⟩
 |t::l,acc,h=>by
  obtain⟨h1,h2⟩:=Zgj l (ZnC acc t) (ZhQ h t);refine⟨h1.trans ?_,h2⟩;exact((ins_perm acc t).append_right l).trans (Jj.symm)
theorem ZkH (l:List Tg):l.foldl ZnC []=GH l:=by
 obtain⟨h1,h2⟩:=Zgj l [] List.Pairwise.nil;exact Zm1 (by simpa using h1) h2
open Go.PL Go.PL.Srt
theorem ZiO:Pp 27 [] (tr (Zc [])):=
 PL.Pure.of_mk ZnH (λb=>by simp[PV.shut,PV.sealL,upd,tr,Zc,kts,nds,mc]) (ZfM _)
theorem Zqn {p:PV} (h:p.dids= []):p.ids= []:=List.eq_nil_iff_forall_not_mem.2 λi hi=>by
 have:=VD _ hi;rw[h]at this;cases this
theorem Dh (g:List Eg) (m:List Opn) (me:Int) (own:Tg) (d:De) (hm:OkM g) (hr:RightM g) (hk:PoolOk m) (ho:∀o∈m,OkOp o):Eff prog 12 [tr (Zc g),.ptr 1000 0,.int .i64 me,tg own,ded d] (Vj m) (opc (Wt g m me own d)) (Vj m):=
 Eff.lendP [tr (Zc g)] (ZiH g m me own d hm hr hk ho) (Zgh _) (Yo m) (λp hp=>by rw[Jb.1 hp];exact Zqn (ZfM _)) (λp hp=>by
  simp only[Jm,List.not_mem_nil,or_false]at hp;rcases hp with rfl|rfl|rfl;rfl;simp[tg,Jc,Je];show Je (GS d)= [];exact Zgn d)
def cA:Str:= [97]
def Zlt:Str:= [112,101,97,114]
def dd1:De:=⟨1,cA,Zlt,Jd,0,[],Jd,Jd⟩
def dd2:De:=⟨3,cA,Zlt,⟨1,[],[113,116,121]⟩,3,[],Jd,Jd⟩
def dd3:De:=⟨2,cA,Zlt,Jd,0,[],Jd,Jd⟩
def oo1:Opn:=⟨⟨1,1⟩,Jd,1,cA,1,Zlt,⟨0,[],[]⟩,0,false,[],[]⟩
def oo2:Opn:=⟨⟨1,2⟩,Jd,2,cA,3,Zlt,⟨1,[],[113,116,121]⟩,3,false,[],[]⟩
def oo3:Opn:=⟨⟨1,3⟩,Jd,3,cA,2,Zlt,⟨0,[],[]⟩,0,false,[],[⟨1,1⟩,⟨1,2⟩]⟩
theorem aw1:Wt [] [] 1 Jd dd1=(oo1,0):=by decide+kernel
theorem aw2:Wt [] [oo1] 1 Jd dd2=(oo2,0):=by decide+kernel
theorem awD:Yp (alC [] [oo1,oo2] cA) (λq=>q.item==Zlt)= [⟨1,1⟩,⟨1,2⟩]:=by
 rw[Yp,<-ZkH];decide+kernel
theorem awG:Y9 [] (Xo [] [oo1,oo2] Jd dd3) (mk0 [oo1,oo2] 1 Jd dd3)=(({ mk0 [oo1,oo2] 1 Jd dd3 with kind:=2,item:=Zlt,drops:= [⟨1,1⟩,⟨1,2⟩] },true),0):=by
 rw[<-awD];have h:(alC [] [oo1,oo2] cA).any (Vv Zlt)=true:=by decide+kernel
 unfold Y9;show(if(dd3.kind==1)=true then _ else _)=_;rw[if_neg (by decide),if_pos (by decide)];show(if(alC [] [oo1,oo2] cA).any (Vv Zlt)=false then _ else _)=_;rw[h,if_neg (by decide)];rfl
theorem aw3:Wt [] [oo1,oo2] 1 Jd dd3=(oo3,0):=by
 unfold Wt;rw[awG];decide+kernel
theorem ap1:X7 [] oo1=([oo1],0):=by decide+kernel
theorem ap2:X7 [oo1] oo2=([oo1,oo2],0):=by decide+kernel
theorem ap3:X7 [oo1,oo2] oo3=([oo1,oo2,oo3],0):=by decide+kernel
open Go.PL Go.PL.Srt
def cwM:Nat->List Opn
 |0=> []
 |1=> [oo1]
 |2=> [oo1,oo2]
 |_=> [oo1,oo2,oo3]
def cwO:Nat->Opn
 |0=>Jd
 |1=>oo1
 |2=>oo2
 |_=>oo3
theorem Zt2:PoolOk [oo1]:=by
 have h:=To [oo1];rwa[show Vu [oo1]= [oo1]by decide+kernel]at h
theorem Zt3:PoolOk [oo1,oo2]:=by
 have h:=To [oo1,oo2];rwa[show Vu [oo1,oo2]= [oo1,oo2]by decide+kernel]at h
theorem Zp7:OkOp oo1:=by constructor<;>decide
theorem ZsJ:OkOp oo2:=by constructor<;>decide
theorem Zvj:OkOp oo3:=by constructor<;>decide
theorem Zvd:Eff prog 12 [tr (Zc []),.ptr 1000 0,.int .i64 1,tg Jd,ded dd1] (Vj []) (opc (oo1,0)) (Vj []):=by
 have h:=Dh [] [] 1 Jd dd1 Gy SI (To []) (by simp);rwa[aw1]at h
theorem Zve:Eff prog 12 [tr (Zc []),.ptr 1000 0,.int .i64 1,tg Jd,ded dd2] (Vj [oo1]) (opc (oo2,0)) (Vj [oo1]):=by
 have h:=Dh [] [oo1] 1 Jd dd2 Gy SI Zt2 (fcs Zp7 fnl);rwa[aw2]at h
theorem Zvf:Eff prog 12 [tr (Zc []),.ptr 1000 0,.int .i64 1,tg Jd,ded dd3] (Vj [oo1,oo2]) (opc (oo3,0)) (Vj [oo1,oo2]):=by
 have h:=Dh [] [oo1,oo2] 1 Jd dd3 Gy SI Zt3 (Fc2 Zp7 ZsJ);rwa[aw3]at h
theorem Zvg:Eff prog 18 [.ptr 1000 0,opv oo1] (Vj []) (.int .i64 0) (Vj [oo1]):=by
 have h:=DE [] oo1 (To []) (by simp) Zp7;rwa[ap1]at h
theorem Zvh:Eff prog 18 [.ptr 1000 0,opv oo2] (Vj [oo1]) (.int .i64 0) (Vj [oo1,oo2]):=by
 have h:=DE [oo1] oo2 Zt2 (fcs Zp7 fnl) ZsJ;rwa[ap2]at h
theorem Zvi:Eff prog 18 [.ptr 1000 0,opv oo3] (Vj [oo1,oo2]) (.int .i64 0) (Vj [oo1,oo2,oo3]):=by
 have h:=DE [oo1,oo2] oo3 Zt3 (Fc2 Zp7 ZsJ) Zvj;rwa[ap3]at h
theorem Wn:Pp 6 [] (.bool true):=by
 refine ZF func6 rfl ntmps6 results6 ?_;simp only[go_sem];refine vc1 ZiO ?_;simp only[go_sem];refine ZgY 1000 ZiI (by simp[Jc]) (by simp) rfl (by simp only[go_sem]) ?_;simp only[go_sem,PV.ren];refine W6 (Ja (b:=1000) (j:=0) (d:=2000) (sz:=15) (e:=48) rfl rfl (by decide) rfl rfl) ?_;refine W6 (Ja (b:=1000) (j:=1) (d:=2001) (sz:=15) (e:=48) rfl rfl (by decide) rfl rfl) ?_;refine W6 (Ja (b:=1000) (j:=2) (d:=2002) (sz:=15) (e:=48) rfl rfl (by decide) rfl rfl) ?_;refine W6 (Ja (b:=1000) (j:=3) (d:=2003) (sz:=15) (e:=48) rfl rfl (by decide) rfl rfl) ?_;refine W6 (Ja (b:=1000) (j:=4) (d:=2004) (sz:=15) (e:=48) rfl rfl (by decide) rfl rfl) ?_;refine W6 (Ja (b:=1000) (j:=5) (d:=2005) (sz:=15) (e:=48) rfl rfl (by decide) rfl rfl) ?_;refine XP (ι:= { k:Nat // k<=3 }) 48 (λx=> [(1,tr (Zc [])),(2,.ptr 1000 0),(3,.ptr 3 0),(15,.sl (.row 15) [ded dd1,ded dd2,ded dd3]),(16,.int .i64 3),(17,.int .i64 (x.1:Int))]) (λx=> [(1000,ZJ 2000 (six (cwM x.1)),false),(3,opE (cwO x.1) (decide (0<x.1)),false)]) (λx=>ZO 15 48 2000 (six (cwM x.1))++ [(15,.live 3 26 35)]) (λ_=> []) (λ_=> []) (λ_=> []) (λ_=> []) [] [] [] (λx=>3-x.1) ⟨0,Jp _⟩
  ⟨⟨rfl,(Fc6 rfl rfl rfl rfl rfl rfl),Fc2 ⟨rfl,rfl⟩ ⟨rfl,rfl⟩,by rw[Zh];exact Fc7 rfl rfl rfl rfl rfl rfl rfl⟩,by simp,by simp,by simp,by simp,by simp,by simp⟩ (λx=> ?_) (λx=> ?_)
 obtain⟨k,hk⟩:=x;have hk':k=0\/k=1\/k=2\/k=3:=by omega
 have e1:(ded dd1).ids= []:=rfl;have e2:(ded dd2).ids= []:=rfl;have e3:(ded dd3).ids= []:=rfl;have e4:(tr (Zc [])).ids= []:=rfl;refine⟨⟨?_,?_⟩,by simp,by simp,by simp,by simp,by simp⟩;simp only[Zh];exact Fc6 rfl rfl rfl rfl rfl rfl;simp only[Zh,ZG];refine fcs ?_ (fcs ?_ fnl);simp[Je,Jc,ZN];have:Je (opE (cwO k) (decide (0<k)))= []:=by
  cases decide (0<k)<;>simp[opE,Je,Jc]
 simp[this];obtain⟨k,hk⟩:=x;simp only;have hk':k=0\/k=1\/k=2\/k=3:=by omega
 rcases hk' with rfl|rfl|rfl|rfl;have w1:IntKind.i64.wrap ((0:Int)+1)=((1:Nat):Int):=by decide
 simp only[go_sem,cwM,cwO,ZG,Zh,i0c,ded,GS,opE];refine YI Zvd rfl rfl (by rw[Zh];exact(Fc6 ⟨rfl,rfl⟩ ⟨rfl,rfl⟩ ⟨rfl,rfl⟩ ⟨rfl,rfl⟩ ⟨rfl,rfl⟩ ⟨rfl,rfl⟩)) (by simp only[go_sem,tg,ded,GS];rfl) ?_;simp only[go_sem,opc,opv];refine TI Zvg rfl rfl rfl (by rw[Zh];exact(Fc6 rfl rfl rfl rfl rfl rfl)) (by simp only[go_sem,opv]) ?_;rw[Ui];simp only[go_sem,ZG,Zh,i0c,w1,opE];exact⟨⟨1,by omega⟩,by show 3-(0+1)<3-0;omega,⟨⟨rfl,(Fc6 rfl rfl rfl rfl rfl rfl),Fc2 ⟨rfl,rfl⟩ ⟨rfl,rfl⟩,Fc7 rfl rfl rfl rfl rfl rfl rfl⟩,by simp,by simp,by simp,by simp,by simp,by simp⟩⟩;have w1:IntKind.i64.wrap ((1:Int)+1)=((2:Nat):Int):=by decide
 simp only[go_sem,cwM,cwO,ZG,Zh,i1c,ded,GS,opE];refine YI Zve rfl rfl (by rw[Zh];exact(Fc6 ⟨rfl,rfl⟩ ⟨rfl,rfl⟩ ⟨rfl,rfl⟩ ⟨rfl,rfl⟩ ⟨rfl,rfl⟩ ⟨rfl,rfl⟩)) (by simp only[go_sem,tg,ded,GS];rfl) ?_;simp only[go_sem,opc,opv];refine TI Zvh rfl rfl rfl (by rw[Zh];exact(Fc6 rfl rfl rfl rfl rfl rfl)) (by simp only[go_sem,opv]) ?_;rw[Ui];simp only[go_sem,ZG,Zh,i1c,w1,opE];exact⟨⟨2,by omega⟩,by show 3-(1+1)<3-1;omega,⟨⟨rfl,(Fc6 rfl rfl rfl rfl rfl rfl),Fc2 ⟨rfl,rfl⟩ ⟨rfl,rfl⟩,Fc7 rfl rfl rfl rfl rfl rfl rfl⟩,by simp,by simp,by simp,by simp,by simp,by simp⟩⟩;have w1:IntKind.i64.wrap ((2:Int)+1)=((3:Nat):Int):=by decide
 simp only[go_sem,cwM,cwO,ZG,Zh,i2c,ded,GS,opE];refine YI Zvf rfl rfl (by rw[Zh];exact(Fc6 ⟨rfl,rfl⟩ ⟨rfl,rfl⟩ ⟨rfl,rfl⟩ ⟨rfl,rfl⟩ ⟨rfl,rfl⟩ ⟨rfl,rfl⟩)) (by simp only[go_sem,tg,ded,GS];rfl) ?_;simp only[go_sem,opc,opv];refine TI Zvi rfl rfl rfl (by rw[Zh];exact(Fc6 rfl rfl rfl rfl rfl rfl)) (by simp only[go_sem,opv]) ?_;rw[Ui];simp only[go_sem,ZG,Zh,i2c,w1,opE];exact⟨⟨3,by omega⟩,by show 3-(2+1)<3-2;omega,⟨⟨rfl,(Fc6 rfl rfl rfl rfl rfl rfl),Fc2 ⟨rfl,rfl⟩ ⟨rfl,rfl⟩,Fc7 rfl rfl rfl rfl rfl rfl rfl⟩,by simp,by simp,by simp,by simp,by simp,by simp⟩⟩;have i3:((3:Nat):Int)=3:=rfl;have hl:oo3.drops.length=2:=rfl;have hk:oo3.kind=2:=rfl;simp only[go_sem,cwM,cwO,ZG,Zh,i3,opE,hl,hk]
open Go.PL Go.PL.Srt
def Zkl (m:List Opn):List (Nat×List PV):= [(2000,(Yl m 0).map opv),(2001,(Yl m 1).map opv),(2002,(Yl m 2).map opv),(2003,(Yl m 3).map opv),(2004,(Yl m 4).map opv),(2005,(Yl m 5).map opv)]
theorem Zmd (o:Opn):(opv o).flatS=true:=by
 have:Jf (o.drops.map tg)=true:=by
  induction o.drops with
  |nil=>rfl
  |cons t l ih=>simp only[Jn,Jf,ih,Bool.and_true];rfl
 have h2:((o.drops.map tg).all λe=>e.cells.any PV.leaf)=true:=by
  rw[Jk];intro e he;obtain⟨t,_,rfl⟩:=Jo.1 he;rfl
 simp only[opv,PV.flatS,Jf,tgs,this,h2,Jh]
theorem Zdf (l:List Opn):(Zr l).flatS=true:=by
 have h1:Jf (l.map opv)=true:=by
  induction l with
  |nil=>rfl
  |cons o l ih=>simp only[Jn,Jf,ih,Zmd,Jh]
 have h2:((l.map opv).all λe=>e.cells.any PV.leaf)=true:=by
  rw[Jk];intro e he;obtain⟨t,_,rfl⟩:=Jo.1 he;rfl
 simp only[Zr,PV.flatS,h1,h2,Jh]
theorem ZmP {m:List Opn} {o:Opn} (hk:PoolOk m) (h:(X7 m o).2=0):(X7 m o).1=m++ [o]:=by
 rw[Du hk]at h ⊢;repeat' split at h
 all_goals first|(exfalso;simp at h;done)|skip
 rename_i h1 h2 h3 h4;rw[if_neg h1,if_neg h2,if_neg h3,if_neg h4]
theorem Dy (l:List Eg) (ops:List Opn) (own:Tg) (d:De) (other:Str) (b:Tg) (hl:l.length<=maxLen) (hx:∀e∈l,LenLn e.ln) (hol:ops.length<=maxLen):Pp 5 [egs l,Zr ops,tg own,ded d,.str other,tg b] (.bool true):=by
 have hH:=ZcF l 50 hl hx;have hJ:=FX ops 80 hol;have hD:=DH d;cases hh:Fa l 50;rw[hh]at hH;cases hj:Uh ops 80;rw[hj]at hJ;cases hd:Ze6 d;rw[hd]at hD;cases hc:(other==d.cart)
 ·obtain⟨o1,o2⟩:=okL hh;obtain⟨p1,p2⟩:=ZsP (most:=80) hj;have hG:=Zhd l (by omega) o2;have hm:OkM (Vd l):=Zfp _ Gy o2;have hr:RightM (Vd l):=Za9 _ SI;generalize Vd l=g at *;have hF:=Zhc ops (by omega) p2;have hk:=To ops;have hnd:=ZeZ ops;have hfo:∀o∈Vu ops,OkOp o:=λo h=>p2 o (Zc7 h)
  generalize Vu ops=m at *;have hop:∀o∈X6 m,OkOp o:=λo h=>hfo o ((SC hk).1 h)
  have hV:=ZcQ g (X6 m) other b hm hr hop hk.nodup;have hO:Pp 22 ([]++ .rptr ((Zkl m).map λx=> .sl .no x.2):: []) (Zr (X6 m)):=DD m hk hfo;have hfl:=Zdf (X6 m);have hM:=Dh g m 2 own d hm hr hk hfo;have hP:=@ZmB g m 2 own d hr hk;have hlen:=@ZmA g m 2 own d;have hQ:=@ZjX g m 2 own d hk;have hfi:ZpY (Zak g (X6 m) other b).1:=Zld hm;have hS:=ZeE _ _ hfi hfi;rw[decide_eq_true rfl]at hS;generalize Wt g m 2 own d=y at *;obtain⟨o,c⟩:=y;simp only at hP hlen hQ;refine ZF func5 rfl ntmps5 results5 ?_;simp only[go_sem,egs,Zr,tg,ded,GS];refine vc1 Wn ?_;simp only[go_sem];refine vc3 hH ?_;simp only[go_sem];refine vc7 hJ ?_;simp only[go_sem];refine Zk hD ?_ ?_ ?_;iterate 2 simp only[go_sem,ded,GS]
  simp only[go_sem,hc];refine vc3 hG ?_;simp only[go_sem,grv];refine Znk hF (by simp[Zr,Jc]) rfl (by rw[Zh];exact(Fc6 rfl rfl rfl rfl rfl rfl)) (by simp only[go_sem,Zr]) ?_;rw[Ui];simp only[go_sem,Zqb,ZG,Zh];refine Zk3 [] [(11,19)] (by kernel_rfl) (by kernel_rfl) (by exact rfl) (by exact rfl) ?_;simp only[go_sem];refine Zco [] [] 1000 (Zkl m) hO hfl (by simp) (by simp) rfl rfl rfl ?_;simp only[go_sem,Zr];by_cases hc0:c=0;subst hc0;have hPu:=DE m o hk hfo ⟨by omega⟩;have hp0:=hP rfl;obtain⟨q1,q2⟩:=hQ rfl;have hne:o.cart≠other:=λe=>by rw[q1]at e;rw[e]at hc;simp at hc
  have hk2:=hk.put o;have hnd2:=ZdK (o:=o) hnd;rw[ZmP hk hp0]at hPu hk2 hnd2;rw[hp0]at hPu;have hfo2:∀x∈m++ [o],OkOp x:=λx hx=>by
   rcases List.mem_append.1 hx with hx|hx;exact hfo x hx;rw[Jb.1 hx];exact⟨by omega⟩
  have hV2:=ZcQ g (X6 (m++ [o])) other b hm hr (λx hx=>hfo2 x ((SC hk2).1 hx)) hk2.nodup;rw[ZiA hk hk2 hnd2 hne λt ht=>by
   obtain⟨x,hx,e1,e2⟩:=q2 t ht;exact⟨x,hx,e1,by rw[e2,<-q1];exact hne⟩]at hV2
  have hO2:Pp 22 ([]++ .rptr ((Zkl (m++ [o])).map λx=> .sl .no x.2):: []) (Zr (X6 (m++ [o]))):=DD (m++ [o]) hk2 hfo2;have hfl2:=Zdf (X6 (m++ [o]));generalize Zak g (X6 m) other b=y at *;obtain⟨⟨hd1,rws⟩,c1⟩:=y;refine vc7 hV ?_;simp only[go_sem,Zjj,doc];refine YI hM rfl rfl (by rw[Zh];exact(Fc6 ⟨rfl,rfl⟩ ⟨rfl,rfl⟩ ⟨rfl,rfl⟩ ⟨rfl,rfl⟩ ⟨rfl,rfl⟩ ⟨rfl,rfl⟩)) (by simp only[go_sem,tr,tg,ded,GS]) ?_;simp only[go_sem,opc,opv];refine TI hPu rfl rfl rfl (by rw[Zh];exact(Fc6 rfl rfl rfl rfl rfl rfl)) (by simp only[go_sem,opv]) ?_;rw[Ui];simp only[go_sem,ZG,Zh];refine Zk3 [] [(11,23)] (by kernel_rfl) (by kernel_rfl) (by exact rfl) (by exact rfl) ?_;simp only[go_sem];refine Zco [] [] 1000 (Zkl (m++ [o])) hO2 hfl2 (by simp) (by simp) rfl rfl rfl ?_;simp only[go_sem,Zr];refine vc7 hV2 ?_;simp only[go_sem,Zjj,doc];refine vc1 hS ?_;simp only[go_sem];have hne:(c==0)=false:=by simpa using hc0
  generalize Zak g (X6 m) other b=y at *;obtain⟨⟨hd1,rws⟩,c1⟩:=y;refine vc7 hV ?_;simp only[go_sem,Zjj,doc];refine YI hM rfl rfl (by rw[Zh];exact(Fc6 ⟨rfl,rfl⟩ ⟨rfl,rfl⟩ ⟨rfl,rfl⟩ ⟨rfl,rfl⟩ ⟨rfl,rfl⟩ ⟨rfl,rfl⟩)) (by simp only[go_sem,tr,tg,ded,GS]) ?_;simp only[go_sem,opc,opv,hne];refine Zk3 [] [(11,23)] (by kernel_rfl) (by kernel_rfl) (by exact rfl) (by exact rfl) ?_;simp only[go_sem];refine Zco [] [] 1000 (Zkl m) hO hfl (by simp) (by simp) rfl rfl rfl ?_;simp only[go_sem,Zr];refine vc7 hV ?_;simp only[go_sem,Zjj,doc];refine vc1 hS ?_;simp only[go_sem]
 ·refine ZF func5 rfl ntmps5 results5 ?_;simp only[go_sem,egs,Zr,tg,ded,GS];refine vc1 Wn ?_;simp only[go_sem];refine vc3 hH ?_;simp only[go_sem];refine vc7 hJ ?_;simp only[go_sem];refine Zk hD ?_ ?_ ?_;iterate 2 simp only[go_sem,ded,GS]
  simp only[go_sem,hc]
 ·rw[hd]at hD;refine ZF func5 rfl ntmps5 results5 ?_;simp only[go_sem,egs,Zr,tg,ded,GS];refine vc1 Wn ?_;simp only[go_sem];refine vc3 hH ?_;simp only[go_sem];refine vc7 hJ ?_;simp only[go_sem];refine Zk hD ?_ ?_ ?_;iterate 2 simp only[go_sem,ded,GS]
  simp only[go_sem]
 rw[hj]at hJ;refine ZF func5 rfl ntmps5 results5 ?_;simp only[go_sem,egs,Zr,tg,ded,GS];refine vc1 Wn ?_;simp only[go_sem];refine vc3 hH ?_;simp only[go_sem];refine vc7 hJ ?_;simp only[go_sem];rw[hh]at hH;refine ZF func5 rfl ntmps5 results5 ?_;simp only[go_sem,egs,Zr,tg,ded,GS];refine vc1 Wn ?_;simp only[go_sem];refine vc3 hH ?_;simp only[go_sem]
end Go.Proofs.YtepchngegclagaaGreat
