/- Lemmas of the proof. -/
import Derived.Test.YtadgngamdofhiaaGreatPlH
import Derived.Test.YtadgngamdofhiaaGreatXAa
import Derived.Test.YtadgngamdofhiaaGreatXAe
import Derived.Test.YtadgngamdofhiaaGreatXCk
import Derived.Laws.LoneSync
import Derived.RangeFuncBox
import Derived.WalkKit
import Derived.OwnWalkIn
import Derived.TacticsInMore
import Derived.LoopNIn
import Derived.LoopIn
import Derived.Test.YtadgngamdofhiaaGreatRows
import Derived.ProofKit
set_option maxHeartbeats 64000000
set_option maxRecDepth 20000
set_option linter.unusedVariables false
set_option linter.unusedSectionVars false
set_option linter.unusedSimpArgs false
open Inhabited renaming default→Jd
open Go.Proofs.Tryz
open Go Go.PL
open Bool renaming eq_iff_iff→Je,false_and→Jg,and_eq_true→Jk,and_self→Jp,or_eq_true→Jq,and_false→Jt,false_eq_true→Jw,or_eq_false_iff→JA,true_and→JE,not_false→JJ,not_eq_true'→JV,false_or→J3,true_or→J6,not_true→Ka,true_eq_false→Kb,or_true→Kd,or_self→Kk
open Decidable renaming byContradiction→Kh
open Int renaming natCast_nonneg→Ja,lt_trichotomy→JW,compare_eq_lt→JX,compare_eq_eq→JY,compare_eq_gt→JZ
open List renaming append_nil→Jc,getD_eq_getElem?_getD→Jh,length_append→Ji,length_take→Jl,getElem?_eq_getElem→Jm,getElem_of_mem→Jn,range→Js,take_length→Jv,length_map→Jy,map_cons→Jz,findIdx?_eq_none_iff→JB,pairwise_iff_getElem→JC,sublist_append_right→JD,filter_append→JG,pairwise_cons→JH,findIdx?_eq_some_iff_getElem→JI,mem_map→JL,append_assoc→JM,all_eq_true→JN,filter_cons→JO,find?_eq_some_iff_getElem→JP,mem_cons→JQ,eq_nil_of_length_eq_zero→JR,filter_nil→JS,find?_eq_none→JT,eraseIdx_of_length_le→JU,sublist_append_left→J4,any_eq_true→J5,length_filter_le→J7,mem_range→J8,all_eq_false→Kc,any_eq_false→Ke,length_nil→Kg,Pairwise→Ki,finRange→Kj,Sublist→Km,length→Kq
open Nat renaming zero_le→Jb,not_lt_zero→Jf,sub_zero→JK,lt_trichotomy→Kf,le_trans→Kl,le_refl→Kr
open Op renaming bytesLess→Jo,negFloat→J2
open PV renaming didsL→Jj,dids→Jr,ids→Ju,idsL→JF,nomapL→J9,givableL→Ko,sl→Ks,vsl→Kt
open Sem renaming run_bind→Kn
namespace Go.Proofs.YtadgngamdofhiaaGreat
open Go.PL
theorem UG (l:List Str):(Yq l).dids= []:=by simp only[Yq,Jr,Wj]
open Go.PL
theorem Zoe {α:Type} {p:α->Bool} {l:List α} {d:α} (h:∀j,j<l.length->p (l.getD j d)=true):l.all p=true:=by
 rw[JN];intro x hx;obtain⟨j,hj,rfl⟩:=Jn hx;have:=h j hj;simpa[Jh,hj]using this
theorem ZkZ {α:Type} {p:α->Bool} {l:List α} {k:Nat} {d:α} (hk:k<l.length) (h:p (l.getD k d)=false):l.all p=false:=by
 rw[Kc];exact⟨l.getD k d,Zs hk,by rw[h];simp⟩
theorem Z0 {p:Nat->Bool} {n k:Nat} (hk:k<n) (h:p k=false):(Js n).all p=false:=by
 rw[Kc];exact⟨k,by simpa using hk,by simp[h]⟩
theorem W9 {p:Nat->Bool} {n:Nat} (h:∀j,j<n->p j=true):(Js n).all p=true:=by
 rw[JN];intro j hj;exact h j (J8.1 hj)
def ZqL (e:En):Bool:=decide (-4503599627370497<e.n)&&(decide (e.n<4503599627370497)&&((e.l.length:Int)==0))
def ZgK (f:Fd) (e:En):Bool:=if f.kind=4 then !decide (400<(e.l.length:Int))else decide ((e.l.length:Int)=1)
def ZeW (f:Fd) (e:En):Bool:=e.l.all (WN f)&&decide (e.n=0)
def Gs (f:Fd) (e:En):Bool:=(ZY f&&decide (e.at'=f.at'))&&(if f.kind=1 then ZqL e else ZgK f e&&ZeW f e)
open Go.PL
def Vp (l:List Fd) (i:Nat):Bool:=ZY (l.getD i Jd)&&(decide (i=0)||WQ (l.getD (i-1) Jd).at' (l.getD i Jd).at')
def Z2 (l:List Fd):Bool:= !decide (16<(l.length:Int))&&(Js l.length).all (Vp l)
theorem To (l:List Fd) (hl:l.length<=maxLen) (hl':∀f∈l,f.cases'.length<=maxLen):Pp 130 [Zi l] (.bool (Z2 l)):=by
 by_cases h16:16<(l.length:Int);refine ZH func130 rfl ntmps130 results130 ?_;simp only[go_sem,Zi,h16,Z2,Jg];have hx:Z2 l=(Js l.length).all (Vp l):=by simp only[Z2,h16,decide_false,JJ,JE]
 rw[hx];refine ZH func130 rfl ntmps130 results130 ?_;simp only[go_sem,Zi,h16];refine Zt (ι:= { k:Nat // k<=l.length/\ ∀j,j<k->Vp l j=true }) 38 (λx=> [(0,Zi l),(3,.int .i64 (x.1:Int))]) (λx=> []) (λx=> []) (λx=>l.length-x.1) ⟨0,by omega,λj hj=>by omega⟩
  ⟨rfl,(Fc2 rfl rfl),fnl,fnl⟩ (λx=>⟨(Fc2 rfl rfl),fnl⟩) (λx=> ?_)
 obtain⟨k,hk,hall⟩:=x;simp only;by_cases h:(k:Int)<(l.length:Int);have hka:k<l.length:=by omega
 have w1:=Xb hka hl;have i1:=Ja k
 have hR:=UM (l.getD k Jd) (hl' _ (Zs hka));cases hr:ZY (l.getD k Jd);rw[hr]at hR;have hz:=Z0 (p:=Vp l) hka (by simp only[Vp,hr,Jg]);simp only[go_sem,Zi,h];refine vDq ?_;simp only[go_sem,Zx hka,fld,h,i1];refine vc2 hR ?_;simp only[go_sem,hz];rw[hr]at hR;by_cases h0:0<(k:Int);have hk1:k-1<l.length:=by omega
 have w2:IntKind.i64.wrap ((k:Int)-1)=((k-1:Nat):Int):=by
  rw[Zb]at hl;rw[w64 (by omega)];omega
 have j1:(0:Int)<=((k-1:Nat):Int):=by omega
 have j2:((k-1:Nat):Int)<(l.length:Int):=by omega
 have hL:=Zbx (l.getD (k-1) Jd).at' (l.getD k Jd).at';cases hb:WQ (l.getD (k-1) Jd).at' (l.getD k Jd).at';rw[hb]at hL;have hz:=Z0 (p:=Vp l) hka (by simp only[Vp,hb,decide_eq_false (show ¬k=0 by omega),Kk,Jt]);simp only[go_sem,Zi,h];refine vDq ?_;simp only[go_sem,Zx hka,fld,h,i1];refine vc2 hR ?_;simp only[go_sem,h0,w2,Zx hk1,Zx hka,fld,h,i1,j1,j2];refine vc1 hL ?_;simp only[go_sem,hz];rw[hb]at hL;have ok:Vp l k=true:=by simp only[Vp,hr,hb,Kd,Jp]
 simp only[go_sem,Zi,h];refine vDq ?_;simp only[go_sem,Zx hka,fld,h,i1];refine vc2 hR ?_;simp only[go_sem,h0,w2,Zx hk1,Zx hka,fld,h,i1,j1,j2];refine vc1 hL ?_;simp only[go_sem,w1];exact⟨⟨k+1,by omega,Zm hall ok⟩,nx9 (by omega),⟨rfl,(Fc2 rfl rfl),fnl,fnl⟩⟩;have ok:Vp l k=true:=by simp only[Vp,hr,decide_eq_true (show k=0 by omega),J6,Jp]
 simp only[go_sem,Zi,h];refine vDq ?_;simp only[go_sem,Zx hka,fld,h,i1];refine vc2 hR ?_;simp only[go_sem,h0,w1];exact⟨⟨k+1,by omega,Zm hall ok⟩,nx9 (by omega),⟨rfl,(Fc2 rfl rfl),fnl,fnl⟩⟩;have hz:=W9 (p:=Vp l) (n:=l.length) (λj hj=>hall j (by omega));simp only[go_sem,Zi,h,hz]
def Z8 (l:List Fd) (sc:Int):List Fd:=l.filter λf=>f.at'.sc==sc
theorem ZqZ (l:List Fd) (f:Fd):l.map fld++ [PV.agg [.int .i64 f.at'.sc,.str f.at'.gr,.str f.at'.nm,.int .i64 f.kind,.str f.df,.sl .no (f.cases'.map .str),.int .i64 f.worth]]=(l++ [f]).map fld:=by simp[fld]
theorem Zgt (l:List Fd) (sc:Int) (hl:l.length<=1000000):Pp 49 [Zi l,.int .i64 sc] (Zi (Z8 l sc)):=by
 have hm:l.length<=maxLen:=by rw[Zb];omega
 refine ZA func49 rfl ntmps49 results49 (W5 _) ?_;simp only[go_sem,Zi];refine ZL 5 7 28 0 7 73 [] rfl rfl rfl ?_;refine Zt (ι:= { k:Nat // k<=l.length }) 30 (λx=> [(0,Zi l),(1,.int .i64 sc),(5,.sl (.row 28) ((Z8 (l.take x.1) sc).map fld)),(6,.int .i64 (x.1:Int))]) (λx=> []) (λx=> [(28,.live (Z8 (l.take x.1) sc).length 7 73)]) (λx=>l.length-x.1) ⟨0,by omega⟩
  ⟨rfl,(Fc4 rfl rfl rfl rfl),fnl,(fcs rfl fnl)⟩ (λx=>⟨Fc4 rfl rfl (by simp[Ju,ZG]) rfl,fnl⟩) (λx=> ?_)
 obtain⟨k,hk⟩:=x;simp only;by_cases h:(k:Int)<(l.length:Int);have hka:k<l.length:=by omega
 have w1:=Xb hka hm;have i1:=Ja k
 have hlen:(Z8 (l.take k) sc).length<=(l.take k).length:=J7 _ _;have hlen2:(l.take k).length<=k:=List.length_take_le _ _;have hr:=Yr (show(Z8 (l.take k) sc).length+1<=100000000000 by omega) (show 96<=1000 by omega);cases he:((l.getD k Jd).at'.sc==sc);have hs:Z8 (l.take (k+1)) sc=Z8 (l.take k) sc:=by
  rw[ZW hka (d:=Jd)];simp only[Z8,JG,JO,he,Jw,if_false,JS,Jc]
 simp only[go_sem,Zi,h,Zx hka,fld,i1,he,w1];exact⟨⟨k+1,by omega⟩,nx9 (by omega),⟨rfl,Fc4 rfl rfl (by show Ks _ _=Ks _ _;rw[hs]) rfl,fnl,fcs (by show some _=some _;rw[hs]) fnl⟩⟩;have hs:Z8 (l.take (k+1)) sc=Z8 (l.take k) sc++ [l.getD k Jd]:=by
  rw[ZW hka (d:=Jd)];simp only[Z8,JG,JO,he,if_true,JS]
 simp only[go_sem,Zi,h,Zx hka,fld,i1,he,YJ,hr,w1];exact⟨⟨k+1,by omega⟩,nx9 (by omega),⟨rfl,Fc4 rfl rfl (by show Ks _ _=Ks _ _;rw[hs,<-ZqZ]) rfl,fnl,fcs (by show some _=some _;rw[hs,Ji];rfl) fnl⟩⟩;obtain rfl:k=l.length:=by omega
 simp only[go_sem,h,Zi,Jv]
def XV (l:List Fd) (es:List En):Bool:=decide (l.length=es.length)&&(Js l.length).all (λi=>Gs (l.getD i Jd) (es.getD i Jd))
open Go.PL
theorem Zs6 {a b:Rw} (h1:a.item=b.item) (h2:a.l=b.l):a=b:=by cases a;cases b;simp_all
theorem ZsE {a b:Dc} (h1:a.head=b.head) (h2:a.rows=b.rows):a=b:=by cases a;cases b;simp_all
theorem Zgs (a b:Dc) (ha:ZnP a) (hb:ZnP b):Pp 22 [doc a,doc b] (.bool (decide (a=b))):=by
 obtain⟨a1,a2,a3,a4⟩:=ha;obtain⟨b1,b2,b3,b4⟩:=hb;have hH:=Tc a.head b.head a1 b1 a3 b3;by_cases hl:a.rows.length=b.rows.length;have hl':((a.rows.length:Int) !=(b.rows.length:Int))=false:=by rw[hl];exact bne_self_eq_false _
 by_cases hh:a.head=b.head;rw[decide_eq_true hh]at hH;refine ZH func22 rfl ntmps22 results22 ?_;simp only[go_sem,doc,hl'];refine vc1 hH ?_;simp only[go_sem];refine Zt (ι:= { k:Nat // k<=a.rows.length/\ ∀j,j<k->a.rows.getD j Jd=b.rows.getD j Jd }) 57 (λx=> [(2,.ptr 2 0),(3,.ptr 3 0),(5,.int .i64 (x.1:Int))]) (λx=> [(2,[.sl .no (a.head.map ent),.sl .no (a.rows.map row)],false),(3,[.sl .no (b.head.map ent),.sl .no (b.rows.map row)],false)]) (λx=> []) (λx=>a.rows.length-x.1) ⟨0,by omega,λj hj=>by omega⟩
  ⟨rfl,(Fc3 rfl rfl rfl),Fc2 ⟨rfl,rfl⟩ ⟨rfl,rfl⟩,fnl⟩ (λx=>⟨(Fc3 rfl rfl rfl),(Fc2 rfl rfl)⟩) (λx=> ?_)
 obtain⟨k,hk,hall⟩:=x;simp only;by_cases h:(k:Int)<(a.rows.length:Int);have hka:k<a.rows.length:=by omega
 have hkb:k<b.rows.length:=by omega
 have w1:=Xb hka a2;have i1:=Ja k
 have i2:(k:Int)<(b.rows.length:Int):=by omega
 have ra:=a4 _ (Zs (d:=Jd) hka);have rb:=b4 _ (Zs (d:=Jd) hkb);have hc:=Tc _ _ ra.1 rb.1 ra.2 rb.2;by_cases e1:(a.rows.getD k Jd).item=(b.rows.getD k Jd).item;have e1':((a.rows.getD k Jd).item==(b.rows.getD k Jd).item)=true:=beq_iff_eq.2 e1;by_cases e2:(a.rows.getD k Jd).l=(b.rows.getD k Jd).l;rw[decide_eq_true e2]at hc;simp only[go_sem,h];refine vDq ?_;simp only[go_sem,WX hka,WX hkb,row,h,i1,i2,e1'];refine vc1 hc ?_;simp only[go_sem,w1];exact⟨⟨k+1,by omega,Zm hall (Zs6 e1 e2)⟩,nx9 (by omega),⟨rfl,(Fc3 rfl rfl rfl),Fc2 ⟨rfl,rfl⟩ ⟨rfl,rfl⟩,fnl⟩⟩;rw[decide_eq_false e2]at hc;have hab:¬a=b:=λe=>e2 (by rw[e])
 simp only[go_sem,h];refine vDq ?_;simp only[go_sem,WX hka,WX hkb,row,h,i1,i2,e1'];refine vc1 hc ?_;simp only[go_sem,hab];have e1':((a.rows.getD k Jd).item==(b.rows.getD k Jd).item)=false:=beq_eq_false_iff_ne.2 e1;have hab:¬a=b:=λe=>e1 (by rw[e])
 simp only[go_sem,h];refine vDq ?_;simp only[go_sem,WX hka,WX hkb,row,h,i1,i2,e1',hab];have hab:decide (a=b)=true:=decide_eq_true (ZsE hh (X7 (d:=Jd) hl λj hj=>hall j (by omega)));simp only[go_sem,h,hab];rw[decide_eq_false hh]at hH;have hab:¬a=b:=λe=>hh (by rw[e])
 refine ZH func22 rfl ntmps22 results22 ?_;simp only[go_sem,doc,hl'];refine vc1 hH ?_;simp only[go_sem,hab];have hl':((a.rows.length:Int) !=(b.rows.length:Int))=true:=bne_iff_ne.2 (by omega);have hab:¬a=b:=λe=>hl (by rw[e])
 refine ZH func22 rfl ntmps22 results22 ?_;simp only[go_sem,doc,hl',hab]
def ZbW (f:Fd):Bool:=Wt 200 f.at'.gr||(Wt 200 f.at'.nm||(Wt 200 f.df||decide (20<(f.cases'.length:Int))))
def DO (f:Fd):Bool:=ZbW f||f.cases'.any (Wt 200)
theorem Zed (f:Fd) (hl:f.cases'.length<=maxLen):Pp 58 [fld f] (.bool (DO f)):=by
 have top:∀b,ZbW f=b->(∀(_:b=true),DO f=true):=λb hb h=>by simp only[DO,hb,h,J6]
 cases ht:ZbW f;have hx:DO f=f.cases'.any (Wt 200):=by simp only[DO,ht,J3]
 rw[hx];simp only[ZbW,Wt,JA,decide_eq_false_iff_not]at ht;obtain⟨t1,t2,t3,t4⟩:=ht;have t1:¬(200:Int)<(f.at'.gr.length:Int):=by omega
 have t2:¬(200:Int)<(f.at'.nm.length:Int):=by omega
 have t3:¬(200:Int)<(f.df.length:Int):=by omega
 refine ZH func58 rfl ntmps58 results58 ?_;simp only[go_sem,fld,t1,t2,t3,t4];refine Zt (ι:= { k:Nat // k<=f.cases'.length/\ ∀j,j<k->Wt 200 (f.cases'.getD j [])=false }) 42 (λx=> [(1,.ptr 1 0),(3,.int .i64 (x.1:Int))]) (λx=> [(1,[.int .i64 f.at'.sc,.str f.at'.gr,.str f.at'.nm,.int .i64 f.kind,.str f.df,.sl .no (f.cases'.map .str),.int .i64 f.worth],false)]) (λx=> []) (λx=>f.cases'.length-x.1) ⟨0,by omega,λj hj=>by omega⟩
  ⟨rfl,(Fc2 rfl rfl),fcs ⟨rfl,rfl⟩ fnl,fnl⟩ (λx=>⟨(Fc2 rfl rfl),(fcs rfl fnl)⟩) (λx=> ?_)
 obtain⟨k,hk,hall⟩:=x;simp only;by_cases h:(k:Int)<(f.cases'.length:Int);have hka:k<f.cases'.length:=by omega
 have w1:=Xb hka hl;have i1:=Ja k
 by_cases g:(200:Int)<((f.cases'.getD k []).length:Int);have hz:=UR (p:=Wt 200) hka (d:= []) (by simp only[Wt,decide_eq_true_eq];omega);simp only[go_sem,h,ZV hka,i1,g,hz];simp only[go_sem,h,ZV hka,i1,g,w1];exact⟨⟨k+1,by omega,Zm hall (by simp only[Wt,decide_eq_false_iff_not];omega)⟩,nx9 (by omega),⟨rfl,(Fc2 rfl rfl),fcs ⟨rfl,rfl⟩ fnl,fnl⟩⟩;have hz:=Uo (p:=Wt 200) (d:= []) (l:=f.cases') (λj hj=>hall j (by omega));simp only[go_sem,h,hz];have hx:=top _ ht rfl;rw[hx];simp only[ZbW,Wt,Jq,decide_eq_true_eq]at ht;by_cases t1:(200:Int)<(f.at'.gr.length:Int);refine ZH func58 rfl ntmps58 results58 ?_;simp only[go_sem,fld,t1];by_cases t2:(200:Int)<(f.at'.nm.length:Int);refine ZH func58 rfl ntmps58 results58 ?_;simp only[go_sem,fld,t1,t2];by_cases t3:(200:Int)<(f.df.length:Int);refine ZH func58 rfl ntmps58 results58 ?_;simp only[go_sem,fld,t1,t2,t3];have t4:(20:Int)<(f.cases'.length:Int):=by omega
 refine ZH func58 rfl ntmps58 results58 ?_;simp only[go_sem,fld,t1,t2,t3,t4]
open Go.PL
def TL (l:List Fd) (rs:List Rw) (i:Nat):Bool:=
 (Ym (rs.getD i Jd).item&&(decide (i=0)||ZS (rs.getD (i-1) Jd).item (rs.getD i Jd).item))&&XV (Z8 l 1) (rs.getD i Jd).l
def Zb4 (l:List Fd) (d:Dc):Bool:=Z2 l&&(!decide (400<(d.rows.length:Int))&&XV (Z8 l 0) d.head)
def WI (l:List Fd) (d:Dc):Bool:=Zb4 l d&&(Js d.rows.length).all (TL l d.rows)
theorem Zcp {l:List Fd} (h:Z2 l=true):l.length<=16:=by
 simp only[Z2,Jk,JV,decide_eq_false_iff_not]at h;omega
open Go.PL
structure Pr where
 fr':Str
 to':Str
 deriving DecidableEq,Inhabited
structure Ln where
 kind:Int
 at':Rf
 nm:Str
 ot:Str
 fac:Int
 fd:Fd
 fo:List Pr
 ba:List Pr
 deriving DecidableEq,Inhabited
structure Tg where
 r:Int
 n:Int
 deriving DecidableEq,Inhabited
structure Eg where
 id:Tg
 par:Tg
 ln:Ln
 deriving DecidableEq,Inhabited
structure Lg where
 id:Tg
 down:Bool
 deriving DecidableEq,Inhabited
def pr (p:Pr):PV:= .agg [.str p.fr',.str p.to']
def prs (l:List Pr):PV:= .sl .no (l.map pr)
def refs (l:List Rf):PV:= .sl .no (l.map ref)
def lns (x:Ln):PV:= .agg [.int .i64 x.kind,.int .i64 x.at'.sc,.str x.at'.gr,.str x.at'.nm,.str x.nm,.str x.ot,.int .i64 x.fac,.int .i64 x.fd.at'.sc,.str x.fd.at'.gr,.str x.fd.at'.nm,.int .i64 x.fd.kind,.str x.fd.df,.sl .no (x.fd.cases'.map .str),.int .i64 x.fd.worth,.sl .no (x.fo.map pr),.sl .no (x.ba.map pr)]
def tg (t:Tg):PV:= .agg [.int .i64 t.r,.int .i64 t.n]
def tgs (l:List Tg):PV:= .sl .no (l.map tg)
def lg (t:Lg):PV:= .agg [.int .i64 t.id.r,.int .i64 t.id.n,.bool t.down]
def lgs (l:List Lg):PV:= .sl .no (l.map lg)
def eg (e:Eg):PV:= .agg [.int .i64 e.id.r,.int .i64 e.id.n,.int .i64 e.par.r,.int .i64 e.par.n,.int .i64 e.ln.kind,.int .i64 e.ln.at'.sc,.str e.ln.at'.gr,.str e.ln.at'.nm,.str e.ln.nm,.str e.ln.ot,.int .i64 e.ln.fac,.int .i64 e.ln.fd.at'.sc,.str e.ln.fd.at'.gr,.str e.ln.fd.at'.nm,.int .i64 e.ln.fd.kind,.str e.ln.fd.df,.sl .no (e.ln.fd.cases'.map .str),.int .i64 e.ln.fd.worth,.sl .no (e.ln.fo.map pr),.sl .no (e.ln.ba.map pr)]
def egs (l:List Eg):PV:= .sl .no (l.map eg)
theorem vc3 {x:Bool} {M:KH} {g:FuncId} {args args':List PV} {K:KR} {r:PV} (h1:Pp g args' r) (h2:K.k r M.m) (h0:Ko M.m args:=by first|(simp only[go_sem,ref,ent,YG,doc,Yq,row,Zi,fld,lns,tg,refs,prs,pr,eg,egs,tgs,lg,lgs];done)|exact rfl) (he:PV.giveL M.m args=args':=by first|(simp only[go_sem,ref,ent,YG,doc,Yq,row,Zi,fld,lns,tg,refs,prs,pr,eg,egs,tgs,lg,lgs];done)|exact rfl):@UJ prog x M (some (g,args)) K:=Yh h1 h0 he h2
theorem XE {α:Type} {enc:α->PV} {l:List α} {i:Nat} {d:α} (h:i<l.length):(l.map enc).getD i .any=enc (l.getD i d):=by
 simp[Jh,h]
theorem Yj {l:List Pr} {i:Nat} (h:i<l.length):(l.map pr).getD i .any=pr (l.getD i Jd):=XE h
theorem Yf {l:List Rf} {i:Nat} (h:i<l.length):(l.map ref).getD i .any=ref (l.getD i Jd):=XE h
theorem ZK {l:List Tg} {i:Nat} (h:i<l.length):(l.map tg).getD i .any=tg (l.getD i Jd):=XE h
theorem ZlJ {l:List Lg} {i:Nat} (h:i<l.length):(l.map lg).getD i .any=lg (l.getD i Jd):=XE h
theorem XI {l:List Eg} {i:Nat} (h:i<l.length):(l.map eg).getD i .any=eg (l.getD i Jd):=XE h
theorem Zdy (a b:Pr):(a.fr'==b.fr'&&a.to'==b.to')=decide (a=b):=by
 cases a;cases b;rw[Je];simp
theorem ZN (a b:Tg):(a.r==b.r&&a.n==b.n)=decide (a=b):=by
 cases a;cases b;rw[Je];simp
theorem Zbq (a b:List Str) (ha:a.length<=maxLen) (hb:b.length<=maxLen):Pp 172 [Yq a,Yq b] (.bool (decide (a=b))):=by
 by_cases hl:a.length=b.length;have hl':((a.length:Int) !=(b.length:Int))=false:=by rw[hl];exact bne_self_eq_false _
 refine ZH func172 rfl ntmps172 results172 ?_;simp only[go_sem,Yq,hl'];refine Zt (ι:= { x:Nat // x<=(a).length/\(∀j,j<x->a.getD j []=b.getD j []) }) 26 (λx=> [(0,Yq a),(1,Yq b),(12,.int .i64 (a.length:Int)),(13,.int .i64 (x.1:Int))]) (λx=> []) (λx=> []) (λx=>(a).length-x.1) ⟨0,Jb _,λj hj=>absurd hj (Jf j)⟩ ⟨rfl,(Fc4 rfl rfl rfl rfl),fnl,fnl⟩ (λx=>⟨(Fc4 rfl rfl rfl rfl),fnl⟩) (λx=> ?_);obtain⟨k,hk,hI⟩:=x;simp only at hk hI ⊢;by_cases h:(k:Int)<(a.length:Int)
 (have hka:k<(a).length:=by omega);(have w1:=Xb hka (ha));(have i1:=Ja k)
 have hkb:k<b.length:=by omega
 have i2:(k:Int)<(b.length:Int):=by omega
 by_cases he:a.getD k []=b.getD k []
 ·have he':(a.getD k []==b.getD k [])=true:=beq_iff_eq.2 he;simp only[go_sem,Yq,h];refine vDq ?_;simp only[go_sem,ZV hka,ZV hkb,h,i1,i2,he',w1];exact⟨⟨k+1,by(try simp only);omega,Zm hI he⟩,by show(a).length-(k+1)<(a).length-k;omega,⟨rfl,(Fc4 rfl rfl rfl rfl),fnl,fnl⟩⟩
 have he':(a.getD k []==b.getD k [])=false:=beq_eq_false_iff_ne.2 he;have hab:¬a=b:=Vv he;simp only[go_sem,Yq,h];refine vDq ?_;simp only[go_sem,ZV hka,ZV hkb,h,i1,i2,he',hab];have hab:decide (a=b)=true:=decide_eq_true (X7 (d:= []) hl λj hj=>hI j (by omega));simp only[go_sem,Yq,h,hab];have hl':((a.length:Int) !=(b.length:Int))=true:=bne_iff_ne.2 (by omega);have hab:¬a=b:=λe=>hl (by rw[e])
 refine ZH func172 rfl ntmps172 results172 ?_;simp only[go_sem,Yq,hl',hab]
theorem ZkJ (a b:List Tg) (ha:a.length<=maxLen) (hb:b.length<=maxLen):Pp 230 [tgs a,tgs b] (.bool (decide (a=b))):=by
 by_cases hl:a.length=b.length;have hl':((a.length:Int) !=(b.length:Int))=false:=by rw[hl];exact bne_self_eq_false _
 refine ZH func230 rfl ntmps230 results230 ?_;simp only[go_sem,tgs,hl'];refine Zt (ι:= { x:Nat // x<=(a).length/\(∀j,j<x->a.getD j Jd=b.getD j Jd) }) 26 (λx=> [(0,tgs a),(1,tgs b),(12,.int .i64 (a.length:Int)),(13,.int .i64 (x.1:Int))]) (λx=> []) (λx=> []) (λx=>(a).length-x.1) ⟨0,Jb _,λj hj=>absurd hj (Jf j)⟩ ⟨rfl,(Fc4 rfl rfl rfl rfl),fnl,fnl⟩ (λx=>⟨(Fc4 rfl rfl rfl rfl),fnl⟩) (λx=> ?_);obtain⟨k,hk,hI⟩:=x;simp only at hk hI ⊢;by_cases h:(k:Int)<(a.length:Int)
 (have hka:k<(a).length:=by omega);(have w1:=Xb hka (ha));(have i1:=Ja k)
 have hkb:k<b.length:=by omega
 have i2:(k:Int)<(b.length:Int):=by omega
 by_cases he:a.getD k Jd=b.getD k Jd
 ·have he':decide (a.getD k Jd=b.getD k Jd)=true:=decide_eq_true he;simp only[go_sem,tgs,h];refine vDq ?_;simp only[go_sem,ZK hka,ZK hkb,h,i1,i2,tg,ZN,he',w1];exact⟨⟨k+1,by(try simp only);omega,Zm hI he⟩,by show(a).length-(k+1)<(a).length-k;omega,⟨rfl,(Fc4 rfl rfl rfl rfl),fnl,fnl⟩⟩
 have he':decide (a.getD k Jd=b.getD k Jd)=false:=decide_eq_false he;have hab:¬a=b:=Vv he;simp only[go_sem,tgs,h];refine vDq ?_;simp only[go_sem,ZK hka,ZK hkb,h,i1,i2,tg,ZN,he',hab];have hab:decide (a=b)=true:=decide_eq_true (X7 (d:=Jd) hl λj hj=>hI j (by omega));simp only[go_sem,tgs,h,hab];have hl':((a.length:Int) !=(b.length:Int))=true:=bne_iff_ne.2 (by omega);have hab:¬a=b:=λe=>hl (by rw[e])
 refine ZH func230 rfl ntmps230 results230 ?_;simp only[go_sem,tgs,hl',hab]
theorem Zd3 (a b:List Pr) (ha:a.length<=maxLen) (hb:b.length<=maxLen):Pp 156 [prs a,prs b] (.bool (decide (a=b))):=by
 by_cases hl:a.length=b.length;have hl':((a.length:Int) !=(b.length:Int))=false:=by rw[hl];exact bne_self_eq_false _
 refine ZH func156 rfl ntmps156 results156 ?_;simp only[go_sem,prs,hl'];refine Zt (ι:= { x:Nat // x<=(a).length/\(∀j,j<x->a.getD j Jd=b.getD j Jd) }) 26 (λx=> [(0,prs a),(1,prs b),(12,.int .i64 (a.length:Int)),(13,.int .i64 (x.1:Int))]) (λx=> []) (λx=> []) (λx=>(a).length-x.1) ⟨0,Jb _,λj hj=>absurd hj (Jf j)⟩ ⟨rfl,(Fc4 rfl rfl rfl rfl),fnl,fnl⟩ (λx=>⟨(Fc4 rfl rfl rfl rfl),fnl⟩) (λx=> ?_);obtain⟨k,hk,hI⟩:=x;simp only at hk hI ⊢;by_cases h:(k:Int)<(a.length:Int)
 (have hka:k<(a).length:=by omega);(have w1:=Xb hka (ha));(have i1:=Ja k)
 have hkb:k<b.length:=by omega
 have i2:(k:Int)<(b.length:Int):=by omega
 by_cases he:a.getD k Jd=b.getD k Jd
 ·have he':decide (a.getD k Jd=b.getD k Jd)=true:=decide_eq_true he;simp only[go_sem,prs,h];refine vDq ?_;simp only[go_sem,Yj hka,Yj hkb,h,i1,i2,pr,Zdy,he',w1];exact⟨⟨k+1,by(try simp only);omega,Zm hI he⟩,by show(a).length-(k+1)<(a).length-k;omega,⟨rfl,(Fc4 rfl rfl rfl rfl),fnl,fnl⟩⟩
 have he':decide (a.getD k Jd=b.getD k Jd)=false:=decide_eq_false he;have hab:¬a=b:=Vv he;simp only[go_sem,prs,h];refine vDq ?_;simp only[go_sem,Yj hka,Yj hkb,h,i1,i2,pr,Zdy,he',hab];have hab:decide (a=b)=true:=decide_eq_true (X7 (d:=Jd) hl λj hj=>hI j (by omega));simp only[go_sem,prs,h,hab];have hl':((a.length:Int) !=(b.length:Int))=true:=bne_iff_ne.2 (by omega);have hab:¬a=b:=λe=>hl (by rw[e])
 refine ZH func156 rfl ntmps156 results156 ?_;simp only[go_sem,prs,hl',hab]
theorem Zbu (a b:List Pr) (ha:a.length<=maxLen) (hb:b.length<=maxLen):Pp 148 [prs a,prs b] (.bool (decide (a=b))):=by
 by_cases hl:a.length=b.length;have hl':((a.length:Int) !=(b.length:Int))=false:=by rw[hl];exact bne_self_eq_false _
 refine ZH func148 rfl ntmps148 results148 ?_;simp only[go_sem,prs,hl'];refine Zt (ι:= { x:Nat // x<=(a).length/\(∀j,j<x->a.getD j Jd=b.getD j Jd) }) 26 (λx=> [(0,prs a),(1,prs b),(5,.int .i64 (x.1:Int))]) (λx=> []) (λx=> []) (λx=>(a).length-x.1) ⟨0,Jb _,λj hj=>absurd hj (Jf j)⟩ ⟨rfl,(Fc3 rfl rfl rfl),fnl,fnl⟩ (λx=>⟨(Fc3 rfl rfl rfl),fnl⟩) (λx=> ?_);obtain⟨k,hk,hI⟩:=x;simp only at hk hI ⊢;by_cases h:(k:Int)<(a.length:Int)
 (have hka:k<(a).length:=by omega);(have w1:=Xb hka (ha));(have i1:=Ja k)
 have hkb:k<b.length:=by omega
 have i2:(k:Int)<(b.length:Int):=by omega
 by_cases he:a.getD k Jd=b.getD k Jd
 ·have he':decide (a.getD k Jd=b.getD k Jd)=true:=decide_eq_true he;simp only[go_sem,prs,h];refine vDq ?_;simp only[go_sem,Yj hka,Yj hkb,h,i1,i2,pr,Zdy,he',w1];exact⟨⟨k+1,by(try simp only);omega,Zm hI he⟩,by show(a).length-(k+1)<(a).length-k;omega,⟨rfl,(Fc3 rfl rfl rfl),fnl,fnl⟩⟩
 have he':decide (a.getD k Jd=b.getD k Jd)=false:=decide_eq_false he;have hab:¬a=b:=Vv he;simp only[go_sem,prs,h];refine vDq ?_;simp only[go_sem,Yj hka,Yj hkb,h,i1,i2,pr,Zdy,he',hab];have hab:decide (a=b)=true:=decide_eq_true (X7 (d:=Jd) hl λj hj=>hI j (by omega));simp only[go_sem,prs,h,hab];have hl':((a.length:Int) !=(b.length:Int))=true:=bne_iff_ne.2 (by omega);have hab:¬a=b:=λe=>hl (by rw[e])
 refine ZH func148 rfl ntmps148 results148 ?_;simp only[go_sem,prs,hl',hab]
theorem Zjb (a b:List Tg) (ha:a.length<=maxLen) (hb:b.length<=maxLen):Pp 99 [tgs a,tgs b] (.bool (decide (a=b))):=by
 by_cases hl:a.length=b.length;have hl':((a.length:Int) !=(b.length:Int))=false:=by rw[hl];exact bne_self_eq_false _
 refine ZH func99 rfl ntmps99 results99 ?_;simp only[go_sem,tgs,hl'];refine Zt (ι:= { x:Nat // x<=(a).length/\(∀j,j<x->a.getD j Jd=b.getD j Jd) }) 26 (λx=> [(0,tgs a),(1,tgs b),(5,.int .i64 (x.1:Int))]) (λx=> []) (λx=> []) (λx=>(a).length-x.1) ⟨0,Jb _,λj hj=>absurd hj (Jf j)⟩ ⟨rfl,(Fc3 rfl rfl rfl),fnl,fnl⟩ (λx=>⟨(Fc3 rfl rfl rfl),fnl⟩) (λx=> ?_);obtain⟨k,hk,hI⟩:=x;simp only at hk hI ⊢;by_cases h:(k:Int)<(a.length:Int)
 (have hka:k<(a).length:=by omega);(have w1:=Xb hka (ha));(have i1:=Ja k)
 have hkb:k<b.length:=by omega
 have i2:(k:Int)<(b.length:Int):=by omega
 by_cases he:a.getD k Jd=b.getD k Jd
 ·have he':decide (a.getD k Jd=b.getD k Jd)=true:=decide_eq_true he;simp only[go_sem,tgs,h];refine vDq ?_;simp only[go_sem,ZK hka,ZK hkb,h,i1,i2,tg,ZN,he',w1];exact⟨⟨k+1,by(try simp only);omega,Zm hI he⟩,by show(a).length-(k+1)<(a).length-k;omega,⟨rfl,(Fc3 rfl rfl rfl),fnl,fnl⟩⟩
 have he':decide (a.getD k Jd=b.getD k Jd)=false:=decide_eq_false he;have hab:¬a=b:=Vv he;simp only[go_sem,tgs,h];refine vDq ?_;simp only[go_sem,ZK hka,ZK hkb,h,i1,i2,tg,ZN,he',hab];have hab:decide (a=b)=true:=decide_eq_true (X7 (d:=Jd) hl λj hj=>hI j (by omega));simp only[go_sem,tgs,h,hab];have hl':((a.length:Int) !=(b.length:Int))=true:=bne_iff_ne.2 (by omega);have hab:¬a=b:=λe=>hl (by rw[e])
 refine ZH func99 rfl ntmps99 results99 ?_;simp only[go_sem,tgs,hl',hab]
theorem Zge (l:List Str) (s:Str) (hl:l.length<=maxLen):Pp 229 [Yq l,.str s] (.int .i64 (idx (λx=>s==x) l)):=by
 refine ZH func229 rfl ntmps229 results229 ?_;simp only[go_sem,Yq];refine Zt (ι:= { x:Nat // x<=(l).length/\(∀j,j<x->(λx=>s==x) (l.getD j [])=false) }) 19 (λx=> [(0,Yq l),(1,.str s),(7,.int .i64 (l.length:Int)),(8,.int .i64 (x.1:Int))]) (λx=> []) (λx=> []) (λx=>(l).length-x.1) ⟨0,Jb _,λj hj=>absurd hj (Jf j)⟩ ⟨rfl,(Fc4 rfl rfl rfl rfl),fnl,fnl⟩ (λx=>⟨(Fc4 rfl rfl rfl rfl),fnl⟩) (λx=> ?_);obtain⟨k,hk,hI⟩:=x;simp only at hk hI ⊢;by_cases h:(k:Int)<(l.length:Int)
 (have hka:k<(l).length:=by omega);(have w1:=Xb hka (hl));(have i1:=Ja k)
 cases he:(λx=>s==x) (l.getD k [])
 ·have he0:=he;simp only at he;simp only[go_sem,Yq,h];simp only[go_sem,ZV hka,h,i1,he,w1];exact⟨⟨k+1,by(try simp only);omega,Zm hI he0⟩,by show(l).length-(k+1)<(l).length-k;omega,⟨rfl,(Fc4 rfl rfl rfl rfl),fnl,fnl⟩⟩
 have hx:=XN (p:=λx=>s==x) hka hI he;simp only at he;simp only[go_sem,Yq,h];simp only[go_sem,ZV hka,h,i1,he,hx];have hx:=WY (p:=λx=>s==x) (d:= []) (l:=l) (λj hj=>hI j (by omega));simp only[go_sem,Yq,h,hx]
theorem Zgd (l:List Rf) (r:Rf) (hl:l.length<=maxLen):Pp 250 [refs l,ref r] (.int .i64 (idx (λx=>decide (r=x)) l)):=by
 refine ZH func250 rfl ntmps250 results250 ?_;simp only[go_sem,refs,ref];refine Zt (ι:= { x:Nat // x<=(l).length/\(∀j,j<x->(λx=>decide (r=x)) (l.getD j Jd)=false) }) 19 (λx=> [(0,refs l),(3,.ptr 3 0),(7,.int .i64 (l.length:Int)),(8,.int .i64 (x.1:Int))]) (λx=> [(3,[.int .i64 r.sc,.str r.gr,.str r.nm],false)]) (λx=> []) (λx=>(l).length-x.1) ⟨0,Jb _,λj hj=>absurd hj (Jf j)⟩ ⟨rfl,(Fc4 rfl rfl rfl rfl),(fcs ⟨rfl,rfl⟩ fnl),fnl⟩ (λx=>⟨(Fc4 rfl rfl rfl rfl),(fcs rfl fnl)⟩) (λx=> ?_);obtain⟨k,hk,hI⟩:=x;simp only at hk hI ⊢;by_cases h:(k:Int)<(l.length:Int)
 (have hka:k<(l).length:=by omega);(have w1:=Xb hka (hl));(have i1:=Ja k)
 cases he:(λx=>decide (r=x)) (l.getD k Jd)
 ·have he0:=he;simp only at he;simp only[go_sem,refs,h];refine vDq ?_;simp only[go_sem,Yf hka,h,i1,ref,Zr,he,w1];exact⟨⟨k+1,by(try simp only);omega,Zm hI he0⟩,by show(l).length-(k+1)<(l).length-k;omega,⟨rfl,(Fc4 rfl rfl rfl rfl),(fcs ⟨rfl,rfl⟩ fnl),fnl⟩⟩
 have hx:=XN (p:=λx=>decide (r=x)) hka hI he;simp only at he;simp only[go_sem,refs,h];refine vDq ?_;simp only[go_sem,Yf hka,h,i1,ref,Zr,he,hx];have hx:=WY (p:=λx=>decide (r=x)) (d:=Jd) (l:=l) (λj hj=>hI j (by omega));simp only[go_sem,refs,h,hx]
theorem GZ (l:List Fd) (r:Rf) (hl:l.length<=maxLen):Pp 198 [Zi l,ref r] (.int .i64 (idx (λx=>decide (x.at'=r)) l)):=by
 refine ZH func198 rfl ntmps198 results198 ?_;simp only[go_sem,Zi,ref];refine Zt (ι:= { x:Nat // x<=(l).length/\(∀j,j<x->(λx=>decide (x.at'=r)) (l.getD j Jd)=false) }) 20 (λx=> [(3,.ptr 3 0),(7,Zi l),(8,.int .i64 (l.length:Int)),(9,.int .i64 (x.1:Int))]) (λx=> [(3,[.int .i64 r.sc,.str r.gr,.str r.nm],false)]) (λx=> []) (λx=>(l).length-x.1) ⟨0,Jb _,λj hj=>absurd hj (Jf j)⟩ ⟨rfl,(Fc4 rfl rfl rfl rfl),(fcs ⟨rfl,rfl⟩ fnl),fnl⟩ (λx=>⟨(Fc4 rfl rfl rfl rfl),(fcs rfl fnl)⟩) (λx=> ?_);obtain⟨k,hk,hI⟩:=x;simp only at hk hI ⊢;by_cases h:(k:Int)<(l.length:Int)
 (have hka:k<(l).length:=by omega);(have w1:=Xb hka (hl));(have i1:=Ja k)
 cases he:(λx=>decide (x.at'=r)) (l.getD k Jd)
 ·have he0:=he;simp only at he;simp only[go_sem,Zi,h];simp only[go_sem,Zx hka,h,i1,fld,Zr,he,w1];exact⟨⟨k+1,by(try simp only);omega,Zm hI he0⟩,by show(l).length-(k+1)<(l).length-k;omega,⟨rfl,(Fc4 rfl rfl rfl rfl),(fcs ⟨rfl,rfl⟩ fnl),fnl⟩⟩
 have hx:=XN (p:=λx=>decide (x.at'=r)) hka hI he;simp only at he;simp only[go_sem,Zi,h];simp only[go_sem,Zx hka,h,i1,fld,Zr,he,hx];have hx:=WY (p:=λx=>decide (x.at'=r)) (d:=Jd) (l:=l) (λj hj=>hI j (by omega));simp only[go_sem,Zi,h,hx]
theorem Fb (l:List Fd) (r:Rf) (hl:l.length<=maxLen):Pp 175 [Zi l,ref r] (.int .i64 (idx (λx=>decide (x.at'=r)) l)):=by
 refine ZH func175 rfl ntmps175 results175 ?_;simp only[go_sem,Zi,ref];refine Zt (ι:= { x:Nat // x<=(l).length/\(∀j,j<x->(λx=>decide (x.at'=r)) (l.getD j Jd)=false) }) 20 (λx=> [(0,Zi l),(3,.ptr 3 0),(5,.int .i64 (x.1:Int))]) (λx=> [(3,[.int .i64 r.sc,.str r.gr,.str r.nm],false)]) (λx=> []) (λx=>(l).length-x.1) ⟨0,Jb _,λj hj=>absurd hj (Jf j)⟩ ⟨rfl,(Fc3 rfl rfl rfl),(fcs ⟨rfl,rfl⟩ fnl),fnl⟩ (λx=>⟨(Fc3 rfl rfl rfl),(fcs rfl fnl)⟩) (λx=> ?_);obtain⟨k,hk,hI⟩:=x;simp only at hk hI ⊢;by_cases h:(k:Int)<(l.length:Int)
 (have hka:k<(l).length:=by omega);(have w1:=Xb hka (hl));(have i1:=Ja k)
 cases he:(λx=>decide (x.at'=r)) (l.getD k Jd)
 ·have he0:=he;simp only at he;simp only[go_sem,Zi,h];refine vDq ?_;simp only[go_sem,Zx hka,h,i1,fld,Zr,he,w1];exact⟨⟨k+1,by(try simp only);omega,Zm hI he0⟩,by show(l).length-(k+1)<(l).length-k;omega,⟨rfl,(Fc3 rfl rfl rfl),(fcs ⟨rfl,rfl⟩ fnl),fnl⟩⟩
 have hx:=XN (p:=λx=>decide (x.at'=r)) hka hI he;simp only at he;simp only[go_sem,Zi,h];refine vDq ?_;simp only[go_sem,Zx hka,h,i1,fld,Zr,he,hx];have hx:=WY (p:=λx=>decide (x.at'=r)) (d:=Jd) (l:=l) (λj hj=>hI j (by omega));simp only[go_sem,Zi,h,hx]
theorem S7 (l:List Eg) (t:Tg) (hl:l.length<=maxLen):Pp 61 [egs l,tg t] (.int .i64 (idx (λx=>decide (x.id=t)) l)):=by
 refine ZH func61 rfl ntmps61 results61 ?_;simp only[go_sem,egs,tg];refine Zt (ι:= { x:Nat // x<=(l).length/\(∀j,j<x->(λx=>decide (x.id=t)) (l.getD j Jd)=false) }) 20 (λx=> [(0,egs l),(3,.ptr 3 0),(5,.int .i64 (x.1:Int))]) (λx=> [(3,[.int .i64 t.r,.int .i64 t.n],false)]) (λx=> []) (λx=>(l).length-x.1) ⟨0,Jb _,λj hj=>absurd hj (Jf j)⟩ ⟨rfl,(Fc3 rfl rfl rfl),(fcs ⟨rfl,rfl⟩ fnl),fnl⟩ (λx=>⟨(Fc3 rfl rfl rfl),(fcs rfl fnl)⟩) (λx=> ?_);obtain⟨k,hk,hI⟩:=x;simp only at hk hI ⊢;by_cases h:(k:Int)<(l.length:Int)
 (have hka:k<(l).length:=by omega);(have w1:=Xb hka (hl));(have i1:=Ja k)
 cases he:(λx=>decide (x.id=t)) (l.getD k Jd)
 ·have he0:=he;simp only at he;simp only[go_sem,egs,h];refine vDq ?_;simp only[go_sem,XI hka,h,i1,eg,ZN,he,w1];exact⟨⟨k+1,by(try simp only);omega,Zm hI he0⟩,by show(l).length-(k+1)<(l).length-k;omega,⟨rfl,(Fc3 rfl rfl rfl),(fcs ⟨rfl,rfl⟩ fnl),fnl⟩⟩
 have hx:=XN (p:=λx=>decide (x.id=t)) hka hI he;simp only at he;simp only[go_sem,egs,h];refine vDq ?_;simp only[go_sem,XI hka,h,i1,eg,ZN,he,hx];have hx:=WY (p:=λx=>decide (x.id=t)) (d:=Jd) (l:=l) (λj hj=>hI j (by omega));simp only[go_sem,egs,h,hx]
theorem Zbw (l:List Tg) (t:Tg) (hl:l.length<=maxLen):Pp 138 [tgs l,tg t] (.int .i64 (idx (λx=>decide (x=t)) l)):=by
 refine ZH func138 rfl ntmps138 results138 ?_;simp only[go_sem,tgs,tg];refine Zt (ι:= { x:Nat // x<=(l).length/\(∀j,j<x->(λx=>decide (x=t)) (l.getD j Jd)=false) }) 19 (λx=> [(0,tgs l),(3,.ptr 3 0),(5,.int .i64 (x.1:Int))]) (λx=> [(3,[.int .i64 t.r,.int .i64 t.n],false)]) (λx=> []) (λx=>(l).length-x.1) ⟨0,Jb _,λj hj=>absurd hj (Jf j)⟩ ⟨rfl,(Fc3 rfl rfl rfl),(fcs ⟨rfl,rfl⟩ fnl),fnl⟩ (λx=>⟨(Fc3 rfl rfl rfl),(fcs rfl fnl)⟩) (λx=> ?_);obtain⟨k,hk,hI⟩:=x;simp only at hk hI ⊢;by_cases h:(k:Int)<(l.length:Int)
 (have hka:k<(l).length:=by omega);(have w1:=Xb hka (hl));(have i1:=Ja k)
 cases he:(λx=>decide (x=t)) (l.getD k Jd)
 ·have he0:=he;simp only at he;simp only[go_sem,tgs,h];refine vDq ?_;simp only[go_sem,ZK hka,h,i1,tg,ZN,he,w1];exact⟨⟨k+1,by(try simp only);omega,Zm hI he0⟩,by show(l).length-(k+1)<(l).length-k;omega,⟨rfl,(Fc3 rfl rfl rfl),(fcs ⟨rfl,rfl⟩ fnl),fnl⟩⟩
 have hx:=XN (p:=λx=>decide (x=t)) hka hI he;simp only at he;simp only[go_sem,tgs,h];refine vDq ?_;simp only[go_sem,ZK hka,h,i1,tg,ZN,he,hx];have hx:=WY (p:=λx=>decide (x=t)) (d:=Jd) (l:=l) (λj hj=>hI j (by omega));simp only[go_sem,tgs,h,hx]
open Go.PL
theorem Zdb (f:Fd):(fld f).dids= []:=by simp only[fld,Jr,Jj,Wj,Jc]
theorem ZqR {α:Type} (p:α->Bool) (l:List α):decide ((0:Int)<=idx p l)=l.any p:=by
 unfold idx;cases h:l.findIdx? p with
 |none=>
  have:l.any p=false:=by
   rw[Ke];intro x hx;have:=JB.1 h x hx;simp[this]
  rw[this];rfl
 |some i=>
  rw[JI]at h;obtain⟨hi,hp,_⟩:=h;have:l.any p=true:=J5.2 ⟨_,List.getElem_mem hi,hp⟩;rw[this];exact decide_eq_true (show(0:Int)<=(i:Int)by omega)
theorem Zof (l:List Str) (s:Str):l.any (λx=>s==x)=l.any (· == s):=by
 congr 1;funext x;rw[Je];simp only[beq_iff_eq];exact eq_comm
theorem Yb {n b:Nat} (hn:n<=1000000) (hb:b<=1000):Zjl n b:=Yr (by omega) hb
theorem Wf (f:Fd) (hf:f.cases'.length<=1000000):Pp 112 [fld f] (fld f):=by
 have hr:=Yb hf (show 16<=1000 by omega);refine ZA func112 rfl ntmps112 results112 (Zdb _) ?_;simp only[go_sem,fld,Z6,Xl,hr]
theorem Zd7 (a b:Rf):Pp 170 [ref a,ref b] (.bool (WQ a b)):=by
 refine ZH func170 rfl ntmps170 results170 ?_;simp only[go_sem,ref];repeat' ((first|(first|apply Zw|apply Zu|apply ZF)<;>intro h|refine vDq ?_)<;>first|simp only[go_sem,h]|simp only[go_sem]|skip)
 all_goals (simp_all[WQ])
theorem Sz (l:List Str) (s:Str) (hl:l.length<=maxLen):Pp 190 [Yq l,.str s] (.bool (l.any (· == s))):=by
 have hI:=Zge l s hl;refine ZH func190 rfl ntmps190 results190 ?_;simp only[go_sem,Yq];refine vc1 hI ?_;simp only[go_sem,ZqR,Zof]
def Gn (l:List Str):Bool:=decide (1<=l.length/\l.length<=6)&&FM l
theorem ZiZ (l:List Str):Pp 189 [Yq l] (.bool (Gn l)):=by
 by_cases h1:(l.length:Int)<1;have hx:Gn l=false:=by simp only[Gn,show ¬(1<=l.length/\l.length<=6)by omega,decide_false,Jg]
 refine ZH func189 rfl ntmps189 results189 ?_;simp only[go_sem,Yq,h1,hx];by_cases h2:(6:Int)<(l.length:Int);have hx:Gn l=false:=by simp only[Gn,show ¬(1<=l.length/\l.length<=6)by omega,decide_false,Jg]
 refine ZH func189 rfl ntmps189 results189 ?_;simp only[go_sem,Yq,h1,h2,hx];have hm:l.length<=maxLen:=by rw[Zb];omega
 have hx:Gn l=FM l:=by simp only[Gn,show(1<=l.length/\l.length<=6)by omega,and_self,decide_true,JE]
 rw[hx];refine ZH func189 rfl ntmps189 results189 ?_;simp only[go_sem,Yq,h1,h2];refine Zt (ι:= { x:Nat // x<=(l).length/\(∀j,j<x->Ur l j=true) }) 31 (λx=> [(0,Yq l),(13,Yq l),(14,.int .i64 (l.length:Int)),(15,.int .i64 (x.1:Int))]) (λx=> []) (λx=> []) (λx=>(l).length-x.1) ⟨0,Jb _,λj hj=>absurd hj (Jf j)⟩ ⟨rfl,(Fc4 rfl rfl rfl rfl),fnl,fnl⟩ (λx=>⟨(Fc4 rfl rfl rfl rfl),fnl⟩) (λx=> ?_);obtain⟨k,hk,hI⟩:=x;simp only at hk hI ⊢;by_cases h:(k:Int)<(l.length:Int)
 (have hka:k<(l).length:=by omega);(have w1:=Xb hka (hm));(have i1:=Ja k)
 have i2:(k:Int)<=(l.length:Int):=by omega
 have hN:=Xk (l.getD k []);have hT:(l.take k).length<=maxLen:=by rw[Jl];omega
 have hH:=Sz (l.take k) (l.getD k []) hT;cases hn:Ym (l.getD k []);rw[hn]at hN;have hz:=V3 hka (by simp only[Ur,hn,Jg]);simp only[go_sem,Yq,h,i1,ZV hka];refine vc1 hN ?_;simp only[go_sem,hz];rw[hn]at hN;cases hh:(l.take k).any (· == l.getD k [])
 ·rw[hh]at hH;have ok:Ur l k=true:=by simp only[Ur,hn,hh,JJ,Jp]
  simp only[go_sem,Yq,h,i1,ZV hka];refine vc1 hN ?_;simp only[go_sem,i1,i2,Z6,cut,JK,Fo];refine vc1 hH ?_;simp only[go_sem,w1];exact⟨⟨k+1,by(try simp only);omega,Zm hI ok⟩,by show(l).length-(k+1)<(l).length-k;omega,⟨rfl,(Fc4 rfl rfl rfl rfl),fnl,fnl⟩⟩
 rw[hh]at hH;have hz:=V3 hka (by simp only[Ur,hn,hh,Ka,Jt]);simp only[go_sem,Yq,h,i1,ZV hka];refine vc1 hN ?_;simp only[go_sem,i1,i2,Z6,cut,JK,Fo];refine vc1 hH ?_;simp only[go_sem,hz];have hz:=FN (l:=l) (λj hj=>hI j (by omega));simp only[go_sem,Yq,h,hz]
theorem Zjr {l:List Str} {s:Str} (h:l.any (· == s)=true):1<=l.length:=by
 cases l with
 |nil=>simp at h
 |cons a l=>simp
theorem Uk (f:Fd) (hl:f.cases'.length<=maxLen):Pp 150 [fld f] (.bool (ZY f)):=by
 have hP:=G0 f.at';have hT:=S8 f.df;have hC:=ZiZ f.cases';have hK:=Sz f.cases' f.df hl;have key:ZY f=(XS f.at'&&(if f.kind=1 then(f.df== [])&&(((f.cases'.length:Int)==0)&&(decide (1<=f.worth)&&decide (f.worth<=1048576)))
   else if f.kind=2 then decide ((f.df.length:Int)<=40)&&(((f.cases'.length:Int)==0)&&(f.worth==0))
   else if f.kind=3 then Gn f.cases'&&(f.cases'.any (· == f.df)&&(f.worth==0))
   else if f.kind=4 then(f.df== [])&&(((f.cases'.length:Int)==0)&&(f.worth==0))else false)):=by
  unfold ZY;congr 1
  by_cases h1:f.kind=1
  ·rw[if_pos h1,if_pos h1,Je];simp;omega
  ·rw[if_neg h1,if_neg h1]
   by_cases h3:f.kind=3
   ·rw[if_pos h3,if_neg (by omega),if_pos h3];unfold ZdL Gn;cases ha:f.cases'.any (· == f.df)
    ·simp
    ·have:=Zjr ha;rw[Je];simp;constructor
     ·rintro ⟨a,b,c⟩;exact⟨⟨⟨this,by omega⟩,b⟩,a⟩
     ·rintro ⟨⟨⟨a,b⟩,c⟩,d⟩;exact⟨d,c,by omega⟩
   ·rw[if_neg h3,if_neg h3];unfold Zkm
    by_cases h2:f.kind=2
    ·rw[if_pos h2,Je];simp[h2];constructor<;>rintro ⟨a,b,c⟩<;>refine⟨?_,?_,?_⟩<;>first|assumption|omega
    ·rw[if_neg h2]
     by_cases h4:f.kind=4
     ·rw[if_pos h4,Je];simp[h4];constructor
      ·rintro ⟨a,b,c⟩;exact⟨c,b,a⟩
      ·rintro ⟨a,b,c⟩;exact⟨c,b,a⟩
     ·rw[if_neg h4];simp[h2,h4]
 rw[key];cases hp:XS f.at';rw[hp]at hP;refine ZH func150 rfl ntmps150 results150 ?_;simp only[go_sem,fld];refine vc1 hP ?_;simp only[go_sem,Jg];rw[hp]at hP;rw[JE];by_cases h1:f.kind=1
 ·have k1:(f.kind==1)=true:=by rw[h1];rfl
  rw[if_pos h1];refine ZH func150 rfl ntmps150 results150 ?_;simp only[go_sem,fld];refine vc1 hP ?_;simp only[go_sem,k1];repeat' ((first|(first|apply Zw|apply Zu|apply ZF)<;>intro h|refine vDq ?_)<;>first|simp only[go_sem,h]|simp only[go_sem]|skip)
  all_goals simp_all
 have k1:(f.kind==1)=false:=beq_eq_false_iff_ne.2 h1;rw[if_neg h1];by_cases h2:f.kind=2
 ·have k2:(f.kind==2)=true:=by rw[h2];rfl
  rw[if_pos h2];refine ZH func150 rfl ntmps150 results150 ?_;simp only[go_sem,fld];refine vc1 hP ?_;simp only[go_sem,k1,k2];refine vc1 hT ?_;simp only[go_sem,k1,k2];repeat' ((first|(first|apply Zw|apply Zu|apply ZF)<;>intro h|refine vDq ?_)<;>first|simp only[go_sem,h]|simp only[go_sem]|skip)
  all_goals simp_all
 have k2:(f.kind==2)=false:=beq_eq_false_iff_ne.2 h2;rw[if_neg h2];by_cases h3:f.kind=3
 ·have k3:(f.kind==3)=true:=by rw[h3];rfl
  rw[if_pos h3];refine ZH func150 rfl ntmps150 results150 ?_;simp only[go_sem,fld];refine vc1 hP ?_;simp only[go_sem,k1,k2,k3];refine vc1 hC ?_;simp only[go_sem,k1,k2,k3];repeat' ((first|(first|apply Zw|apply Zu|apply ZF)<;>intro h|refine vc1 hK ?_|refine vDq ?_)<;>first|simp only[go_sem,h]|simp only[go_sem]|skip)
  all_goals simp_all
 have k3:(f.kind==3)=false:=beq_eq_false_iff_ne.2 h3;rw[if_neg h3];by_cases h4:f.kind=4
 ·have k4:(f.kind==4)=true:=by rw[h4];rfl
  rw[if_pos h4];refine ZH func150 rfl ntmps150 results150 ?_;simp only[go_sem,fld];refine vc1 hP ?_;simp only[go_sem,k1,k2,k3,k4];repeat' ((first|(first|apply Zw|apply Zu|apply ZF)<;>intro h|refine vDq ?_)<;>first|simp only[go_sem,h]|simp only[go_sem]|skip)
  all_goals simp_all
 have k4:(f.kind==4)=false:=beq_eq_false_iff_ne.2 h4;rw[if_neg h4];refine ZH func150 rfl ntmps150 results150 ?_;simp only[go_sem,fld];refine vc1 hP ?_;simp only[go_sem,k1,k2,k3,k4]
theorem GY (a b:Fd) (ha:a.cases'.length<=maxLen) (hb:b.cases'.length<=maxLen):Pp 155 [fld a,fld b] (.bool (decide (a=b))):=by
 have hE:=Zbq a.cases' b.cases' ha hb;refine ZH func155 rfl ntmps155 results155 ?_;simp only[go_sem,fld,Zr];repeat' ((first|(first|apply Zw|apply Zu|apply ZF)<;>intro h|refine vc1 hE ?_|refine vDq ?_)<;>first|simp only[go_sem,h,Zr]|simp only[go_sem,Zr]|skip)
 all_goals ((cases a;cases b;simp_all)<;>rfl)
theorem FD (a b:List Str) (ha:a.length<=maxLen) (hb:b.length<=maxLen):Pp 188 [Yq a,Yq b] (.bool (decide (a=b))):=by
 have hE:=G2 a b ha hb;refine ZH func188 rfl ntmps188 results188 ?_;simp only[go_sem,Yq];refine vc1 hE ?_;simp only[go_sem]
theorem SB (a b:Fd) (ha:a.cases'.length<=maxLen) (hb:b.cases'.length<=maxLen):Pp 147 [fld a,fld b] (.bool (decide (a=b))):=by
 have hE:=FD a.cases' b.cases' ha hb;refine ZH func147 rfl ntmps147 results147 ?_;simp only[go_sem,fld,Zr];repeat' ((first|(first|apply Zw|apply Zu|apply ZF)<;>intro h|refine vc1 hE ?_|refine vDq ?_)<;>first|simp only[go_sem,h,Zr]|simp only[go_sem,Zr]|skip)
 all_goals ((cases a;cases b;simp_all)<;>rfl)
open Go.PL
def Xr (l:List Pr) (s:Str):Str×Bool:=match l.find? (λp=>p.fr'==s)with|some p=>(p.to',true)|none=>([],false)
def Za4 (x:Str×Bool):PV:= .tup [.str x.1,.bool x.2]
theorem ZbS {α:Type} {p:α->Bool} {l:List α} {k:Nat} {d:α} (hk:k<l.length) (h:∀j,j<k->p (l.getD j d)=false) (hp:p (l.getD k d)=true):l.find? p=some (l.getD k d):=by
 have h1:=XN hk h hp;rw[JP];refine⟨hp,k,hk,by rw[Jh,Jm hk];rfl,λj hj=> ?_⟩;have:=h j hj;rw[Jh,Jm (by omega)]at this;simpa using this
theorem ZeT {α:Type} {p:α->Bool} {l:List α} {d:α} (h:∀j,j<l.length->p (l.getD j d)=false):l.find? p=none:=by
 rw[JT];intro x hx;obtain⟨j,hj,rfl⟩:=Jn hx;have:=h j hj;rw[Jh,Jm hj]at this;simpa using this
theorem S4 (l:List Pr) (s:Str) (hl:l.length<=maxLen):Pp 192 [prs l,.str s] (Za4 (Xr l s)):=by
 refine ZH func192 rfl ntmps192 results192 ?_;simp only[go_sem,prs];refine Zt (ι:= { x:Nat // x<=(l).length/\(∀j,j<x->((l.getD j Jd).fr'==s)=false) }) 21 (λx=> [(1,.str s),(8,prs l),(9,.int .i64 (l.length:Int)),(10,.int .i64 (x.1:Int))]) (λx=> []) (λx=> []) (λx=>(l).length-x.1) ⟨0,Jb _,λj hj=>absurd hj (Jf j)⟩ ⟨rfl,(Fc4 rfl rfl rfl rfl),fnl,fnl⟩ (λx=>⟨(Fc4 rfl rfl rfl rfl),fnl⟩) (λx=> ?_);obtain⟨k,hk,hI⟩:=x;simp only at hk hI ⊢;by_cases h:(k:Int)<(l.length:Int)
 (have hka:k<(l).length:=by omega);(have w1:=Xb hka (hl));(have i1:=Ja k)
 cases he:((l.getD k Jd).fr'==s)
 ·simp only[go_sem,prs,h,Yj hka,pr,i1,he,w1];exact⟨⟨k+1,by(try simp only);omega,Zm hI he⟩,by show(l).length-(k+1)<(l).length-k;omega,⟨rfl,(Fc4 rfl rfl rfl rfl),fnl,fnl⟩⟩
 have hx:=ZbS (p:=λp:Pr=>p.fr'==s) hka hI he;simp only[go_sem,prs,h,Yj hka,pr,i1,he,Za4,Xr,hx];have hx:=ZeT (p:=λp:Pr=>p.fr'==s) (d:=Jd) (l:=l) (λj hj=>hI j (by omega));simp only[go_sem,prs,h,Za4,Xr,hx]
theorem G1 (l:List Pr) (s:Str) (hl:l.length<=maxLen):Pp 145 [prs l,.str s] (Za4 (Xr l s)):=by
 refine ZH func145 rfl ntmps145 results145 ?_;simp only[go_sem,prs];refine Zt (ι:= { x:Nat // x<=(l).length/\(∀j,j<x->((l.getD j Jd).fr'==s)=false) }) 25 (λx=> [(0,prs l),(1,.str s),(6,.int .i64 (x.1:Int))]) (λx=> []) (λx=> []) (λx=>(l).length-x.1) ⟨0,Jb _,λj hj=>absurd hj (Jf j)⟩ ⟨rfl,(Fc3 rfl rfl rfl),fnl,fnl⟩ (λx=>⟨(Fc3 rfl rfl rfl),fnl⟩) (λx=> ?_);obtain⟨k,hk,hI⟩:=x;simp only at hk hI ⊢;by_cases h:(k:Int)<(l.length:Int)
 (have hka:k<(l).length:=by omega);(have w1:=Xb hka (hl));(have i1:=Ja k)
 cases he:((l.getD k Jd).fr'==s)
 ·simp only[go_sem,prs,h,Yj hka,pr,i1,he,w1];exact⟨⟨k+1,by(try simp only);omega,Zm hI he⟩,by show(l).length-(k+1)<(l).length-k;omega,⟨rfl,(Fc3 rfl rfl rfl),fnl,fnl⟩⟩
 have hx:=ZbS (p:=λp:Pr=>p.fr'==s) hka hI he;simp only[go_sem,prs,h,Yj hka,pr,i1,he,Za4,Xr,hx];have hx:=ZeT (p:=λp:Pr=>p.fr'==s) (d:=Jd) (l:=l) (λj hj=>hI j (by omega));simp only[go_sem,prs,h,Za4,Xr,hx]
theorem Zip {α β:Type} [Inhabited α] (f:α->β) {l:List α} {k:Nat} (h:k<l.length):(l.take (k+1)).map f=(l.take k).map f++ [f (l.getD k Jd)]:=by
 rw[ZW h (d:=Jd),List.map_append];rfl
theorem WV {α:Type} (l:List α) (k:Nat):(l.take k).length<=l.length:=by rw[Jl];omega
def Yn (l:List Pr):List Str:=l.map (·.fr')
theorem Zb1 (l:List Pr) (hl:l.length<=1000000):Pp 196 [prs l] (Yq (Yn l)):=by
 have hm:l.length<=maxLen:=by rw[Zb];omega
 have hr0:=Yb hl (show 16<=1000 by omega);refine ZA func196 rfl ntmps196 results196 (UG _) ?_;simp only[go_sem,prs,hr0,hm];refine⟨by omega,?_⟩;refine ZL 3 8 19 0 1 9 [] rfl rfl rfl ?_;refine Zt (ι:= { x:Nat×(List Str) // x.1<=(l).length/\(x.2=(l.take x.1).map (·.fr')) }) 22 (λx=> [(3,.sl (.row 19) (x.1.2.map .str)),(9,prs l),(10,.int .i64 (l.length:Int)),(11,.int .i64 (x.1.1:Int))]) (λx=> []) (λx=> [(19,.live (x.1.2.length) (1) (9))]) (λx=>(l).length-x.1.1) ⟨(0,[]),Jb _,rfl⟩ ⟨rfl,(Fc4 rfl rfl rfl rfl),fnl,(fcs rfl fnl)⟩ (λx=>⟨(Fc4 (by simp[Ju,ZG]) rfl rfl rfl),fnl⟩) (λx=> ?_);obtain⟨⟨k,acc⟩,hk,hI⟩:=x;simp only at hk hI ⊢;have hacc:acc.length<=l.length:=by rw[hI,Jy];exact WV _ _
 by_cases h:(k:Int)<(l.length:Int)
 ·(have hka:k<(l).length:=by omega);(have w1:=Xb hka (hm));(have i1:=Ja k)
  have hr:=Yb (show acc.length+1<=1000000 by rw[hI,Jy,Jl];omega) (show 16<=1000 by omega);simp only[go_sem,prs,h,Yj hka,pr,i1,Z6,hr,w1];exact⟨⟨(k+1,acc++ [(l.getD k Jd).fr']),by(try simp only);omega,by simp only;rw[Zip _ hka,hI]⟩,by show(l).length-(k+1)<(l).length-k;omega,⟨rfl,(Fc4 (by simp[upd]) rfl rfl rfl),fnl,(fcs (by simp[upd]) fnl)⟩⟩
 obtain rfl:k=l.length:=by omega
 rw[Jv]at hI;subst hI;simp only[go_sem,prs,h,Yq,Yn]
theorem UL (l:List Pr) (hl:l.length<=1000000):Pp 180 [prs l] (Yq (Yn l)):=by
 have hm:l.length<=maxLen:=by rw[Zb];omega
 refine ZA func180 rfl ntmps180 results180 (UG _) ?_;simp only[go_sem,prs];refine ZL 3 5 19 0 1 9 [] rfl rfl rfl ?_;refine Zt (ι:= { x:Nat×(List Str) // x.1<=(l).length/\(x.2=(l.take x.1).map (·.fr')) }) 21 (λx=> [(0,prs l),(3,.sl (.row 19) (x.1.2.map .str)),(4,.int .i64 (x.1.1:Int))]) (λx=> []) (λx=> [(19,.live (x.1.2.length) (1) (9))]) (λx=>(l).length-x.1.1) ⟨(0,[]),Jb _,rfl⟩ ⟨rfl,(Fc3 rfl rfl rfl),fnl,(fcs rfl fnl)⟩ (λx=>⟨(Fc3 rfl (by simp[Ju,ZG]) rfl),fnl⟩) (λx=> ?_);obtain⟨⟨k,acc⟩,hk,hI⟩:=x;simp only at hk hI ⊢;have hacc:acc.length<=l.length:=by rw[hI,Jy];exact WV _ _
 by_cases h:(k:Int)<(l.length:Int)
 ·(have hka:k<(l).length:=by omega);(have w1:=Xb hka (hm));(have i1:=Ja k)
  have hr:=Yb (show acc.length+1<=1000000 by rw[hI,Jy,Jl];omega) (show 16<=1000 by omega);simp only[go_sem,prs,h,Yj hka,pr,i1,Z6,hr,w1];exact⟨⟨(k+1,acc++ [(l.getD k Jd).fr']),by(try simp only);omega,by simp only;rw[Zip _ hka,hI]⟩,by show(l).length-(k+1)<(l).length-k;omega,⟨rfl,(Fc3 rfl (by simp[upd]) rfl),fnl,(fcs (by simp[upd]) fnl)⟩⟩
 obtain rfl:k=l.length:=by omega
 rw[Jv]at hI;subst hI;simp only[go_sem,prs,h,Yq,Yn]
theorem Zeo (l:List Fd) (hl:l.length<=100000) (hc:∀f∈l,f.cases'.length<=1000000):Pp 75 [Zi l] (Zi l):=by
 have hm:l.length<=maxLen:=by rw[Zb];omega
 have hr0:=Yb (show l.length<=1000000 by omega) (show 96<=1000 by omega);refine ZA func75 rfl ntmps75 results75 (W5 _) ?_;simp only[go_sem,Zi,hr0,hm];refine⟨by omega,?_⟩;refine ZL 3 8 19 0 7 73 [] rfl rfl rfl ?_;refine Zt (ι:= { x:Nat×(List Fd) // x.1<=(l).length/\(x.2=l.take x.1) }) 22 (λx=> [(3,.sl (.row 19) (x.1.2.map fld)),(9,Zi l),(10,.int .i64 (l.length:Int)),(11,.int .i64 (x.1.1:Int))]) (λx=> []) (λx=> [(19,.live (x.1.2.length) (7) (73))]) (λx=>(l).length-x.1.1) ⟨(0,[]),Jb _,rfl⟩ ⟨rfl,(Fc4 rfl rfl rfl rfl),fnl,(fcs rfl fnl)⟩ (λx=>⟨(Fc4 (by simp[Ju,ZG]) rfl rfl rfl),fnl⟩) (λx=> ?_);obtain⟨⟨k,acc⟩,hk,hI⟩:=x;simp only at hk hI ⊢;have hacc:acc.length<=l.length:=by rw[hI];exact WV _ _
 by_cases h:(k:Int)<(l.length:Int)
 ·(have hka:k<(l).length:=by omega);(have w1:=Xb hka (hm));(have i1:=Ja k)
  have hr:=Yb (show acc.length+1<=1000000 by omega) (show 96<=1000 by omega);have hO:=Wf (l.getD k Jd) (hc _ (Zs hka));simp only[go_sem,Zi,h,Zx hka,fld,i1];refine vc2 hO ?_;simp only[go_sem,fld,YJ,hr,w1];exact⟨⟨(k+1,acc++ [l.getD k Jd]),by(try simp only);omega,by simp only;rw[ZW hka (d:=Jd),hI]⟩,by show(l).length-(k+1)<(l).length-k;omega,⟨rfl,(Fc4 (by simp[upd,fld]) rfl rfl rfl),fnl,(fcs (by simp[upd]) fnl)⟩⟩
 obtain rfl:k=l.length:=by omega
 rw[Jv]at hI;subst hI;simp only[go_sem,h,Zi]
open Go.PL
theorem G4 (l:List Fd) (sc:Int) (hl:l.length<=100000) (hc:∀f∈l,f.cases'.length<=1000000):Pp 71 [Zi l,.int .i64 sc] (Zi (Z8 l sc)):=by
 have hm:l.length<=maxLen:=by rw[Zb];omega
 refine ZA func71 rfl ntmps71 results71 (W5 _) ?_;simp only[go_sem,Zi];refine YO 5 23 7 73 rfl rfl ?_;refine Zt (ι:= { x:Nat×(List Fd) // x.1<=(l).length/\(x.2=Z8 (l.take x.1) sc) }) 26 (λx=> [(1,.int .i64 sc),(5,.sl (.row 23) (x.1.2.map fld)),(8,Zi l),(9,.int .i64 (l.length:Int)),(10,.int .i64 (x.1.1:Int))]) (λx=> []) (λx=> [(23,.live (x.1.2.length) (7) (73))]) (λx=>(l).length-x.1.1) ⟨(0,[]),Jb _,rfl⟩ ⟨rfl,(Fc5 rfl rfl rfl rfl rfl),fnl,(fcs rfl fnl)⟩ (λx=>⟨(Fc5 rfl (by simp[Ju,ZG]) rfl rfl rfl),fnl⟩) (λx=> ?_);obtain⟨⟨k,acc⟩,hk,hI⟩:=x;simp only at hk hI ⊢;have hacc:acc.length<=l.length:=by
  rw[hI];exact Kl (J7 _ _) (WV _ _)
 by_cases h:(k:Int)<(l.length:Int)
 (have hka:k<(l).length:=by omega);(have w1:=Xb hka (hm));(have i1:=Ja k)
 have hr:=Yb (show acc.length+1<=1000000 by omega) (show 96<=1000 by omega);have hO:=Wf (l.getD k Jd) (hc _ (Zs hka));cases he:((l.getD k Jd).at'.sc==sc)
 ·have hs:Z8 (l.take (k+1)) sc=Z8 (l.take k) sc:=by
   rw[ZW hka (d:=Jd)];simp only[Z8,JG,JO,he,Jw,if_false,JS,Jc]
  simp only[go_sem,Zi,h,Zx hka,fld,i1,he,w1];exact⟨⟨(k+1,acc),by(try simp only);omega,by simp only;rw[hs,hI]⟩,by show(l).length-(k+1)<(l).length-k;omega,⟨rfl,(Fc5 rfl (by simp[upd,fld]) rfl rfl rfl),fnl,(fcs (by simp[upd]) fnl)⟩⟩
 ·have hs:Z8 (l.take (k+1)) sc=Z8 (l.take k) sc++ [l.getD k Jd]:=by
   rw[ZW hka (d:=Jd)];simp only[Z8,JG,JO,he,if_true,JS]
  simp only[go_sem,Zi,h,Zx hka,fld,i1,he];refine vc2 hO ?_;simp only[go_sem,fld,YJ,hr,w1];exact⟨⟨(k+1,acc++ [l.getD k Jd]),by(try simp only);omega,by simp only;rw[hs,hI]⟩,by show(l).length-(k+1)<(l).length-k;omega,⟨rfl,(Fc5 rfl (by simp[upd,fld]) rfl rfl rfl),fnl,(fcs (by simp[upd]) fnl)⟩⟩
 obtain rfl:k=l.length:=by omega
 rw[Jv]at hI;subst hI;simp only[go_sem,h,Zi]
def atF (r:Rf):Fd->Bool:=λx=>decide (x.at'=r)
def ZJ (l:List Fd) (r:Rf):Fd×Int:=if idx (atF r) l<0 then(Jd,6)else(l.getD (idx (atF r) l).toNat Jd,0)
def Zbb (x:Fd×Int):PV:= .tup [fld x.1,.int .i64 x.2]
def ZM (x:List Fd×Int):PV:= .tup [Zi x.1,.int .i64 x.2]
theorem ZeZ (x:Fd×Int):(Zbb x).dids= []:=by simp only[Zbb,Jr,Jj,Zdb,Jc]
theorem ZI (x:List Fd×Int):(ZM x).dids= []:=by simp only[ZM,Jr,Jj,W5,Jc]
theorem ZgU:fld Jd= .agg [.int .i64 0,.str [],.str [],.int .i64 0,.str [],.sl .no [],.int .i64 0]:=rfl
theorem Ul (l:List Fd) (r:Rf) (hl:l.length<=100000) (hc:∀f∈l,f.cases'.length<=1000000):Pp 193 [Zi l,ref r] (Zbb (ZJ l r)):=by
 have hm:l.length<=maxLen:=by rw[Zb];omega
 have hI:Pp 198 [Zi l,ref r] (.int .i64 (idx (atF r) l)):=GZ l r hm;unfold ZJ;rcases Xy (atF r) l with h2|⟨k,hk,h2⟩;rw[h2]at hI ⊢;refine ZA func193 rfl ntmps193 results193 (ZeZ _) ?_;simp only[go_sem,Zi,ref];refine vc2 hI ?_;simp only[go_sem,Zbb,ZgU];have i1:=Ja k
 have i2:(k:Int)<(l.length:Int):=by omega
 have i3:¬(k:Int)<0:=by omega
 have hO:=Wf (l.getD k Jd) (hc _ (Zs hk));rw[h2]at hI;rw[h2,if_neg i3];refine ZA func193 rfl ntmps193 results193 (ZeZ _) ?_;simp only[go_sem,Zi,ref];refine vc2 hI ?_;simp only[go_sem,i1,i2,i3,Zx hk,fld];refine vc2 hO ?_;simp only[go_sem,Zbb,fld]
theorem UO (l:List Fd) (hl:l.length<=maxLen) (hl':∀f∈l,f.cases'.length<=maxLen):Pp 121 [Zi l] (.bool (Z2 l)):=by
 by_cases h16:16<(l.length:Int);refine ZH func121 rfl ntmps121 results121 ?_;simp only[go_sem,Zi,h16,Z2,Jg];have hx:Z2 l=(Js l.length).all (Vp l):=by simp only[Z2,h16,decide_false,JJ,JE]
 rw[hx];refine ZH func121 rfl ntmps121 results121 ?_;simp only[go_sem,Zi,h16];refine Zt (ι:= { x:Nat // x<=(l).length/\(∀j,j<x->Vp l j=true) }) 33 (λx=> [(0,Zi l),(8,Zi l),(9,.int .i64 (l.length:Int)),(10,.int .i64 (x.1:Int))]) (λx=> []) (λx=> []) (λx=>(l).length-x.1) ⟨0,Jb _,λj hj=>absurd hj (Jf j)⟩ ⟨rfl,(Fc4 rfl rfl rfl rfl),fnl,fnl⟩ (λx=>⟨(Fc4 rfl rfl rfl rfl),fnl⟩) (λx=> ?_);obtain⟨k,hk,hI⟩:=x;simp only at hk hI ⊢;by_cases h:(k:Int)<(l.length:Int)
 (have hka:k<(l).length:=by omega);(have w1:=Xb hka (hl));(have i1:=Ja k)
 have hR:=Uk (l.getD k Jd) (hl' _ (Zs hka));cases hr:ZY (l.getD k Jd);rw[hr]at hR;have hz:=Z0 (p:=Vp l) hka (by simp only[Vp,hr,Jg]);simp only[go_sem,Zi,h,Zx hka,fld,i1];refine vc2 hR ?_;simp only[go_sem,hz];rw[hr]at hR;by_cases h0:0<(k:Int);have hk1:k-1<l.length:=by omega
 have w2:IntKind.i64.wrap ((k:Int)-1)=((k-1:Nat):Int):=by
  rw[Zb]at hl;rw[w64 (by omega)];omega
 have j1:(0:Int)<=((k-1:Nat):Int):=by omega
 have j2:((k-1:Nat):Int)<(l.length:Int):=by omega
 have hL:=Zd7 (l.getD (k-1) Jd).at' (l.getD k Jd).at';cases hb:WQ (l.getD (k-1) Jd).at' (l.getD k Jd).at';rw[hb]at hL;have hz:=Z0 (p:=Vp l) hka (by simp only[Vp,hb,decide_eq_false (show ¬k=0 by omega),Kk,Jt]);simp only[go_sem,Zi,h,Zx hka,fld,i1];refine vc2 hR ?_;simp only[go_sem];refine vDq ?_;simp only[go_sem,h0,w2,Zx hk1,Zx hka,fld,h,i1,j1,j2];refine vc1 hL ?_;simp only[go_sem,hz]
 ·rw[hb]at hL;have ok:Vp l k=true:=by simp only[Vp,hr,hb,Kd,Jp]
  simp only[go_sem,Zi,h,Zx hka,fld,i1];refine vc2 hR ?_;simp only[go_sem];refine vDq ?_;simp only[go_sem,h0,w2,Zx hk1,Zx hka,fld,h,i1,j1,j2];refine vc1 hL ?_;simp only[go_sem,w1];exact⟨⟨k+1,by(try simp only);omega,Zm hI ok⟩,by show(l).length-(k+1)<(l).length-k;omega,⟨rfl,(Fc4 rfl rfl rfl rfl),fnl,fnl⟩⟩
 ·have ok:Vp l k=true:=by simp only[Vp,hr,decide_eq_true (show k=0 by omega),J6,Jp]
  simp only[go_sem,Zi,h,Zx hka,fld,i1];refine vc2 hR ?_;simp only[go_sem];refine vDq ?_;simp only[go_sem,h0,w1];exact⟨⟨k+1,by(try simp only);omega,Zm hI ok⟩,by show(l).length-(k+1)<(l).length-k;omega,⟨rfl,(Fc4 rfl rfl rfl rfl),fnl,fnl⟩⟩
 have hz:=W9 (p:=Vp l) (n:=l.length) (λj hj=>hI j (by omega));simp only[go_sem,Zi,h,hz]
theorem ZbP {α:Type} {l:List α} {k g:Nat} {d:α} (h:k<l.length):(l.take (k+1)).eraseIdx g=(l.take k).eraseIdx g++(if k=g then []else [l.getD k d]):=by
 have hlen:(l.take k).length=k:=by rw[Jl];omega
 rw[ZW h (d:=d)];rcases Nat.lt_or_ge g k with h1|h1;rw[List.eraseIdx_append_of_lt_length (by omega),if_neg (by omega)];have e2:(l.take k).eraseIdx g=l.take k:=JU (by omega);rw[List.eraseIdx_append_of_length_le (by omega),e2,hlen];by_cases e:k=g;subst e;simp;rw[if_neg e,JU (by simp;omega)]
def YE (l:List Fd) (r:Rf):List Fd×Int:=if Z2 l=false then([],5)else if idx (atF r) l<0 then([],6)else(l.eraseIdx (idx (atF r) l).toNat,0)
theorem Zep (l:List Fd) (r:Rf) (hl:l.length<=100000) (hc:∀f∈l,f.cases'.length<=1000000):Pp 159 [Zi l,ref r] (ZM (YE l r)):=by
 have hm:l.length<=maxLen:=by rw[Zb];omega
 have hR:=UO l hm (λf hf=>by have:=hc f hf;rw[Zb];omega);have hI:Pp 198 [Zi l,ref r] (.int .i64 (idx (atF r) l)):=GZ l r hm;unfold YE;cases hr:Z2 l;rw[hr]at hR;refine ZA func159 rfl ntmps159 results159 (ZI _) ?_;simp only[go_sem,Zi,ref];refine vc2 hR ?_;simp only[go_sem,ZM,Zi];rw[hr]at hR;rcases Xy (atF r) l with h2|⟨g,hg,h2⟩;rw[h2]at hI ⊢;refine ZA func159 rfl ntmps159 results159 (ZI _) ?_;simp only[go_sem,Zi,ref];refine vc2 hR ?_;simp only[go_sem,Zi];refine vc2 hI ?_;simp only[go_sem,ZM,Zi];have i3:¬(g:Int)<0:=by omega
 have w2:IntKind.i64.wrap ((l.length:Int)-1)=((l.length-1:Nat):Int):=by rw[w64 (by omega)];omega
 rw[h2]at hI;rw[h2,if_neg i3];simp only[Kb,if_false,Int.toNat_natCast];refine ZA func159 rfl ntmps159 results159 (ZI _) ?_;simp only[go_sem,Zi,ref];refine vc2 hR ?_;simp only[go_sem,Zi];refine vc2 hI ?_;simp only[go_sem,Zi,i3,w2];refine⟨by omega,?_⟩;refine ZL 7 21 36 0 7 73 [] rfl rfl rfl ?_;refine Zt (ι:= { x:Nat×(List Fd) // x.1<=(l).length/\(x.2=(l.take x.1).eraseIdx g) }) 39 (λx=> [(6,.int .i64 (g:Int)),(7,.sl (.row 36) (x.1.2.map fld)),(22,Zi l),(23,.int .i64 (l.length:Int)),(24,.int .i64 (x.1.1:Int))]) (λx=> []) (λx=> [(36,.live (x.1.2.length) (7) (73))]) (λx=>(l).length-x.1.1) ⟨(0,[]),Jb _,rfl⟩ ⟨rfl,(Fc5 rfl rfl rfl rfl rfl),fnl,(fcs rfl fnl)⟩ (λx=>⟨(Fc5 rfl (by simp[Ju,ZG]) rfl rfl rfl),fnl⟩) (λx=> ?_);obtain⟨⟨k,acc⟩,hk,hI⟩:=x;simp only at hk hI ⊢;have hacc:acc.length<=l.length:=by
  rw[hI];exact Kl (List.length_eraseIdx_le _ _) (WV _ _)
 by_cases h:(k:Int)<(l.length:Int)
 (have hka:k<(l).length:=by omega);(have w1:=Xb hka (hm));(have i1:=Ja k)
 have hr:=Yb (show acc.length+1<=1000000 by omega) (show 96<=1000 by omega);have hO:=Wf (l.getD k Jd) (hc _ (Zs hka));have hs:=ZbP (l:=l) (k:=k) (g:=g) (d:=Jd) hka;by_cases he:k=g
 ·have he':((k:Int) !=(g:Int))=false:=by rw[he];exact bne_self_eq_false _
  rw[if_pos he,Jc]at hs;simp only[go_sem,Zi,h,Zx hka,fld,i1,he',w1];exact⟨⟨(k+1,acc),by(try simp only);omega,by simp only;rw[hs,hI]⟩,by show(l).length-(k+1)<(l).length-k;omega,⟨rfl,(Fc5 rfl (by simp[upd,fld]) rfl rfl rfl),fnl,(fcs (by simp[upd]) fnl)⟩⟩
 ·have he':((k:Int) !=(g:Int))=true:=bne_iff_ne.2 (by omega);rw[if_neg he]at hs;simp only[go_sem,Zi,h,Zx hka,fld,i1,he'];refine vc2 hO ?_;simp only[go_sem,fld,YJ,hr,w1];exact⟨⟨(k+1,acc++ [l.getD k Jd]),by(try simp only);omega,by simp only;rw[hs,hI]⟩,by show(l).length-(k+1)<(l).length-k;omega,⟨rfl,(Fc5 rfl (by simp[upd,fld]) rfl rfl rfl),fnl,(fcs (by simp[upd]) fnl)⟩⟩
 obtain rfl:k=l.length:=by omega
 rw[Jv]at hI;subst hI;simp only[go_sem,h,Zi,ZM]
open Go.PL
def ZjW (r:Rf):Fd->Bool:=λf=>WQ f.at' r
def Zbd (l:List Fd) (f:Fd):List Fd:=l.takeWhile (ZjW f.at')++f::l.dropWhile (ZjW f.at')
def Vm (l:List Fd) (f:Fd):List Fd×Int:=if Z2 l=false\/ZY f=false then([],5)else if 0<=idx (atF f.at') l then([],7)else if 16<=(l.length:Int)then([],14)else(Zbd l f,0)
structure WA (l:List Fd) (f:Fd) where
 k:Nat
 acc:List Fd
 hk:k<=l.length
 h:acc++Zbd (l.drop k) f=Zbd l f
structure WB (l:List Fd) (f:Fd) where
 k:Nat
 acc:List Fd
 hk:k<=l.length
 h:acc++l.drop k=Zbd l f
theorem Y0 {α:Type} {l:List α} {k:Nat} {d:α} (h:k<l.length):l.drop k=l.getD k d::l.drop (k+1):=by
 rw[Jh,Jm h];exact List.drop_eq_getElem_cons h
theorem ZqU {l:List Fd} {f x:Fd} (h:WQ x.at' f.at'=true):Zbd (x::l) f=x::Zbd l f:=by
 simp[Zbd,ZjW,h]
theorem ZqT {l:List Fd} {f x:Fd} (h:WQ x.at' f.at'=false):Zbd (x::l) f=f::x::l:=by
 simp[Zbd,ZjW,h]
theorem SP (l:List Fd) (f:Fd):(Zbd l f).length=l.length+1:=by
 unfold Zbd;have:=congrArg Kq (List.takeWhile_append_dropWhile (p:=ZjW f.at') (l:=l));simp only[Ji,List.length_cons]at *;omega
def Tu (f:Fd):List PV:= [.int .i64 f.at'.sc,.str f.at'.gr,.str f.at'.nm,.int .i64 f.kind,.str f.df,.sl .no (f.cases'.map .str),.int .i64 f.worth]
theorem ZkW (l:List Fd) (f:Fd) (hl:l.length<=100000) (hc:∀f∈l,f.cases'.length<=1000000) (hf:f.cases'.length<=1000000):Pp 160 [Zi l,fld f] (ZM (Vm l f)):=by
 have hm:l.length<=maxLen:=by rw[Zb];omega
 have hR:=UO l hm (λf hf=>by have:=hc f hf;rw[Zb];omega);have hF:=Uk f (by rw[Zb];omega);have hI:Pp 198 [Zi l,ref f.at'] (.int .i64 (idx (atF f.at') l)):=GZ l f.at' hm;have hOf:=Wf f hf;unfold Vm;cases hr:Z2 l;rw[hr]at hR;simp only[true_or,if_true];refine ZA func160 rfl ntmps160 results160 (ZI _) ?_;simp only[go_sem,Zi,fld];refine U9 ?_;simp only[go_sem];refine vc2 hR ?_;simp only[go_sem,ZM,Zi];rw[hr]at hR;cases hrf:ZY f;rw[hrf]at hF;simp only[or_true,if_true];refine ZA func160 rfl ntmps160 results160 (ZI _) ?_;simp only[go_sem,Zi,fld];refine U9 ?_;simp only[go_sem];refine vc2 hR ?_;simp only[go_sem];refine vc2 hF ?_;simp only[go_sem,ZM,Zi];rw[hrf]at hF;simp only[Kb,or_self,if_false];by_cases h2:(0:Int)<=idx (atF f.at') l;rw[if_pos h2];refine ZA func160 rfl ntmps160 results160 (ZI _) ?_;simp only[go_sem,Zi,fld];refine U9 ?_;simp only[go_sem];refine vc2 hR ?_;simp only[go_sem];refine vc2 hF ?_;simp only[go_sem];refine vc2 hI ?_;simp only[go_sem,h2,ZM,Zi];rw[if_neg h2];by_cases h3:(16:Int)<=(l.length:Int);rw[if_pos h3];refine ZA func160 rfl ntmps160 results160 (ZI _) ?_;simp only[go_sem,Zi,fld];refine U9 ?_;simp only[go_sem];refine vc2 hR ?_;simp only[go_sem];refine vc2 hF ?_;simp only[go_sem];refine vc2 hI ?_;simp only[go_sem,h2,h3,ZM,Zi];rw[if_neg h3];have w0:IntKind.i64.wrap ((l.length:Int)+1)=((l.length+1:Nat):Int):=by rw[w64 (by omega)];rfl
 refine ZA func160 rfl ntmps160 results160 (ZI _) ?_;simp only[go_sem,Zi,fld];refine ZrS (ι0:=WA l f) (ι1:=WB l f) 72
  (λx=> [(0,Zi l),(3,.ptr 3 0),(6,.sl (.row 49) (x.acc.map fld)),(7,.int .i64 (x.k:Int))]) (λx=> [(3,Tu f,false)]) (λx=> [(49,.live x.acc.length 7 73)]) (λx=>l.length-x.k)
  (λx=> [(0,Zi l),(6,.sl (.row 68) (x.acc.map fld)),(7,.int .i64 (x.k:Int))]) (λx=> []) (λx=> [(68,.live x.acc.length 7 73)]) (λx=>l.length-x.k) (l.length+1) (λj=>by show l.length-j.k<l.length+1;omega)
  0 1 _ _ (by exact rfl) (by exact rfl)
  (λx=>⟨Fc4 rfl rfl (by simp[Ju,ZG]) rfl,(fcs rfl fnl)⟩)
  (λx=>⟨Fc3 rfl (by simp[Ju,ZG]) rfl,fnl⟩)
  (λx cut=> ?_) (λx=> ?_) (λcut=> ?_)
 obtain⟨k,acc,hk,hx⟩:=x;simp only at cut ⊢;have hacc:acc.length<=l.length+1:=by rw[<-SP l f,<-hx,Ji];omega
 have hrm:=Yb (show acc.length+1<=1000000 by omega) (show 96<=1000 by omega);by_cases h:(k:Int)<(l.length:Int);have hka:k<l.length:=by omega
 have w1:=Xb hka hm;have i1:=Ja k
 have hL:=Zd7 (l.getD k Jd).at' f.at';have hO:=Wf (l.getD k Jd) (hc _ (Zs hka));rw[Y0 hka (d:=Jd)]at hx;cases hb:WQ (l.getD k Jd).at' f.at';rw[hb]at hL;rw[ZqT hb]at hx;simp only[go_sem,Zi,Tu];refine vDq ?_;simp only[go_sem,h,i1,Zx hka,fld];refine vc1 hL ?_;simp only[go_sem];refine vc2 hOf ?_;simp only[go_sem,fld,YJ,hrm];refine ZL 6 56 68 (acc.length+1) 7 73 ((acc++ [f]).map fld) (by simp[upd,fld]) rfl rfl ?_;refine YQ (cut ⟨k,acc++ [f],hk,by rw[Y0 hka (d:=Jd),<-hx];simp⟩ _ ⟨rfl,Fc3 rfl rfl rfl,fnl,fcs (by simp[upd,Hp.setq,St.with]) fnl⟩);rw[hb]at hL;rw[ZqU hb]at hx;simp only[go_sem,Zi,Tu];refine vDq ?_;simp only[go_sem,h,i1,Zx hka,fld];refine vc1 hL ?_;simp only[go_sem,h,i1,Zx hka,fld];refine vc2 hO ?_;simp only[go_sem,fld,YJ,hrm,w1];exact Or.inl ⟨rfl,⟨k+1,acc++ [l.getD k Jd],by omega,by rw[<-hx];simp⟩,nx9 (by omega),⟨rfl,Fc4 rfl rfl (by simp[upd,fld]) rfl,fcs ⟨rfl,rfl⟩ fnl,fcs (by simp[upd]) fnl⟩⟩;obtain rfl:k=l.length:=by omega
 simp only[go_sem,Zi,Tu];refine vDq ?_;simp only[go_sem,h];refine vc2 hOf ?_;simp only[go_sem,fld,YJ,hrm];refine ZL 6 56 68 (acc.length+1) 7 73 ((acc++ [f]).map fld) (by simp[upd,fld]) rfl rfl ?_;refine YQ (cut ⟨l.length,acc++ [f],hk,by rw[<-hx];simp[Zbd]⟩ _ ⟨rfl,Fc3 rfl rfl rfl,fnl,fcs (by simp[upd,Hp.setq,St.with]) fnl⟩);obtain⟨k,acc,hk,hx⟩:=x;simp only;have hacc:acc.length<=l.length+1:=by rw[<-SP l f,<-hx,Ji];omega
 have hrm:=Yb (show acc.length+1<=1000000 by omega) (show 96<=1000 by omega);by_cases h:(k:Int)<(l.length:Int);have hka:k<l.length:=by omega
 have w1:=Xb hka hm;have i1:=Ja k
 have hO:=Wf (l.getD k Jd) (hc _ (Zs hka));rw[Y0 hka (d:=Jd)]at hx;simp only[go_sem,Zi,h,i1,Zx hka,fld];refine vc2 hO ?_;simp only[go_sem,fld,YJ,hrm,w1];exact⟨⟨k+1,acc++ [l.getD k Jd],by omega,by rw[<-hx];simp⟩,nx9 (by omega),⟨rfl,Fc3 rfl (by simp[upd,fld]) rfl,fnl,fcs (by simp[upd]) fnl⟩⟩;obtain rfl:k=l.length:=by omega
 rw[List.drop_length,Jc]at hx;subst hx;simp only[go_sem,Zi,h,ZM];simp only[go_sem];refine vc2 hR ?_;simp only[go_sem];refine vc2 hF ?_;simp only[go_sem];refine vc2 hI ?_;simp only[go_sem,h2,h3,w0];refine⟨by omega,?_⟩;refine ZL 6 27 49 0 7 73 [] rfl rfl rfl ?_;exact YQ (cut ⟨0,[],Jb _,rfl⟩ _ ⟨rfl,(Fc4 rfl rfl rfl rfl),fcs ⟨rfl,rfl⟩ fnl,fcs rfl fnl⟩)
open Go.PL
def UX (l:List Pr) (s:Str):Bool:=l.any λq=>q.fr'==s
theorem Zez (l:List Pr) (s:Str):(Xr l s).2=UX l s:=by
 unfold Xr UX;cases h:l.find? (λp=>p.fr'==s)with
 |none=>
  symm
  rw[Ke];intro x hx;exact JT.1 h x hx
 |some p=>
  symm
  exact J5.2 ⟨p,List.mem_of_find?_eq_some h,List.find?_some (p:=λp:Pr=>p.fr'==s) h⟩
theorem ZlO (l:List Pr) (s:Str):(Yn l).any (· == s)=UX l s:=by
 simp[Yn,UX,List.any_map,Function.comp_def]
def Vl (t o:List Pr) (i:Nat):Bool:=Ym (t.getD i Jd).fr'&&(!(UX (t.take i) (t.getD i Jd).fr')&&UX o (t.getD i Jd).to')
def Xv (t o:List Pr):Bool:=decide (1<=t.length/\t.length<=6)&&(Js t.length).all (Vl t o)
theorem ZdM (l:List Pr) (k:Nat):List.take k (l.map pr)=(l.take k).map pr:=by rw[List.map_take]
theorem GL (l:List Pr):Sized 2 (l.map pr):=λe he=>by
 obtain⟨x,_,rfl⟩:=JL.1 he;rfl
theorem Zok (l:List Pr):Xw (l.map pr):=λe he=>by
 obtain⟨x,_,rfl⟩:=JL.1 he;rfl
theorem ZjQ {l:List Pr} {s:Str} {k:Nat} (hk:k<l.length) (h:((l.getD k Jd).fr'==s)=true):UX l s=true:=UR (p:=λq:Pr=>q.fr'==s) hk h
theorem ZgX {l:List Pr} {s:Str} (h:∀j,j<l.length->((l.getD j Jd).fr'==s)=false):UX l s=false:=Uo (p:=λq:Pr=>q.fr'==s) (d:=Jd) h
theorem TK (t o:List Pr) (ho:o.length<=maxLen):Pp 191 [prs t,prs o] (.bool (Xv t o)):=by
 by_cases h1:(t.length:Int)<1;have hx:Xv t o=false:=by simp only[Xv,show ¬(1<=t.length/\t.length<=6)by omega,decide_false,Jg]
 refine ZH func191 rfl ntmps191 results191 ?_;simp only[go_sem,prs,h1,hx];by_cases h2:(6:Int)<(t.length:Int);have hx:Xv t o=false:=by simp only[Xv,show ¬(1<=t.length/\t.length<=6)by omega,decide_false,Jg]
 refine ZH func191 rfl ntmps191 results191 ?_;simp only[go_sem,prs,h1,h2,hx];have hm:t.length<=maxLen:=by rw[Zb];omega
 have hx:Xv t o=(Js t.length).all (Vl t o):=by simp only[Xv,show(1<=t.length/\t.length<=6)by omega,and_self,decide_true,JE]
 rw[hx];refine ZH func191 rfl ntmps191 results191 ?_;simp only[go_sem,prs,h1,h2];refine Zt (ι:= { x:Nat // x<=(t).length/\(∀j,j<x->Vl t o j=true) }) 54 (λx=> [(0,prs t),(1,prs o),(19,prs t),(20,.int .i64 (t.length:Int)),(21,.int .i64 (x.1:Int))]) (λx=> []) (λx=> []) (λx=>(t).length-x.1) ⟨0,Jb _,λj hj=>absurd hj (Jf j)⟩ ⟨rfl,(Fc5 rfl rfl rfl rfl rfl),fnl,fnl⟩ (λx=>⟨(Fc5 rfl rfl rfl rfl rfl),fnl⟩) (λx=> ?_);obtain⟨k,hk,hI⟩:=x;simp only at hk hI ⊢;by_cases h:(k:Int)<(t.length:Int)
 (have hka:k<(t).length:=by omega);(have w1:=Xb hka (hm));(have i1:=Ja k)
 have i2:(k:Int)<=(t.length:Int):=by omega
 have hN:=Xk (t.getD k Jd).fr';cases hn:Ym (t.getD k Jd).fr';rw[hn]at hN;have hz:=Z0 (p:=Vl t o) hka (by simp only[Vl,hn,Jg]);simp only[go_sem,prs,h,i1,Yj hka,pr];refine vc1 hN ?_;simp only[go_sem,hz];rw[hn]at hN;have hT:(t.take k).length<=maxLen:=by rw[Jl];omega
 simp only[go_sem,prs,h,i1,Yj hka,pr];refine vc1 hN ?_;simp only[go_sem,i1,i2,GL,cut,JK,ZdM];refine Zt (ι:= { x:Nat // x<=(t.take k).length/\(∀j,j<x->(((t.take k).getD j Jd).fr'==(t.getD k Jd).fr')=false) }) 54 (λx=> [(0,prs t),(1,prs o),(6,.ptr 6 0),(19,prs t),(20,.int .i64 (t.length:Int)),(21,.int .i64 (k:Int)),(32,.sl .no ((t.take k).map pr)),(33,.int .i64 ((t.take k).length:Int)),(34,.int .i64 (x.1:Int))]) (λx=> [(6,[.str (t.getD k Jd).fr',.str (t.getD k Jd).to'],false)]) (λx=> []) (λx=>(t.take k).length-x.1) ⟨0,Jb _,λj hj=>absurd hj (Jf j)⟩ ⟨rfl,(Fc9 rfl rfl rfl rfl rfl rfl rfl rfl rfl),(fcs ⟨rfl,rfl⟩ fnl),fnl⟩ (λx=>⟨(Fc9 rfl rfl rfl rfl rfl rfl rfl rfl rfl),(fcs rfl fnl)⟩) (λx=> ?_);obtain⟨kb,hkb,hIb⟩:=x;simp only at hkb hIb ⊢;by_cases hb:(kb:Int)<((t.take k).length:Int)
 (have hkab:kb<(t.take k).length:=by omega);(have w1b:=Xb hkab (hT));(have i1b:=Ja kb)
 cases he:(((t.take k).getD kb Jd).fr'==(t.getD k Jd).fr')
 ·simp only[go_sem,prs,hb,Yj hkab,pr,i1b,he,w1b];exact⟨⟨kb+1,by(try simp only);omega,Zm hIb he⟩,by show(t.take k).length-(kb+1)<(t.take k).length-kb;omega,⟨rfl,(Fc9 rfl rfl rfl rfl rfl rfl rfl rfl rfl),(fcs ⟨rfl,rfl⟩ fnl),fnl⟩⟩
 have hz:=Z0 (p:=Vl t o) hka (by simp only[Vl,ZjQ hkab he,Ka,Jg,Jt]);simp only[go_sem,prs,hb,Yj hkab,pr,i1b,he,hz];have hf:=ZgX (l:=t.take k) (s:=(t.getD k Jd).fr') (λj hj=>hIb j (by omega));have hC:=S4 o (t.getD k Jd).to' ho;have hs:=Zez o (t.getD k Jd).to';cases hh:UX o (t.getD k Jd).to';have hz:=Z0 (p:=Vl t o) hka (by simp only[Vl,hh,Jt]);rw[hh]at hs;simp only[go_sem,prs,hb];refine vc3 hC ?_;simp only[go_sem,Za4,hs,hz]
 ·have ok:Vl t o k=true:=by simp only[Vl,hn,hf,hh,JJ,Jp]
  rw[hh]at hs;simp only[go_sem,prs,hb];refine vc3 hC ?_;simp only[go_sem,Za4,hs,w1];exact⟨⟨k+1,by(try simp only);omega,Zm hI ok⟩,by show(t).length-(k+1)<(t).length-k;omega,⟨rfl,(Fc5 rfl rfl rfl rfl rfl),fnl,fnl⟩⟩
 have hz:=W9 (p:=Vl t o) (n:=t.length) (λj hj=>hI j (by omega));simp only[go_sem,prs,h,hz]
theorem FF (t o:List Pr) (ho:o.length<=1000000):Pp 146 [prs t,prs o] (.bool (Xv t o)):=by
 by_cases h1:(t.length:Int)=0;have hx:Xv t o=false:=by simp only[Xv,show ¬(1<=t.length/\t.length<=6)by omega,decide_false,Jg]
 have h1':((t.length:Int)==0)=true:=by rw[h1];rfl
 refine ZH func146 rfl ntmps146 results146 ?_;simp only[go_sem,prs,h1',hx];have h1':((t.length:Int)==0)=false:=beq_eq_false_iff_ne.2 h1;by_cases h2:(6:Int)<(t.length:Int);have hx:Xv t o=false:=by simp only[Xv,show ¬(1<=t.length/\t.length<=6)by omega,decide_false,Jg]
 refine ZH func146 rfl ntmps146 results146 ?_;simp only[go_sem,prs,h1',h2,hx];have hm:t.length<=maxLen:=by rw[Zb];omega
 have hx:Xv t o=(Js t.length).all (Vl t o):=by simp only[Xv,show(1<=t.length/\t.length<=6)by omega,and_self,decide_true,JE]
 rw[hx];refine ZH func146 rfl ntmps146 results146 ?_;simp only[go_sem,prs,h1',h2];refine Zt (ι:= { x:Nat // x<=(t).length/\(∀j,j<x->Vl t o j=true) }) 50 (λx=> [(0,prs t),(1,prs o),(5,.int .i64 (x.1:Int))]) (λx=> []) (λx=> []) (λx=>(t).length-x.1) ⟨0,Jb _,λj hj=>absurd hj (Jf j)⟩ ⟨rfl,(Fc3 rfl rfl rfl),fnl,fnl⟩ (λx=>⟨(Fc3 rfl rfl rfl),fnl⟩) (λx=> ?_);obtain⟨k,hk,hI⟩:=x;simp only at hk hI ⊢;by_cases h:(k:Int)<(t.length:Int)
 (have hka:k<(t).length:=by omega);(have w1:=Xb hka (hm));(have i1:=Ja k)
 have i2:(k:Int)<=(t.length:Int):=by omega
 have hN:=Xo (t.getD k Jd).fr';have hT:(t.take k).length<=1000000:=by rw[Jl];omega
 have hF1:=UL (t.take k) hT;have hF2:=UL o ho;have hH1:=Tn (Yn (t.take k)) (t.getD k Jd).fr' (by rw[Yn,Jy,Zb];omega);have hH2:=Tn (Yn o) (t.getD k Jd).to' (by rw[Yn,Jy,Zb];omega);rw[ZlO]at hH1 hH2;cases hn:Ym (t.getD k Jd).fr';rw[hn]at hN;have hz:=Z0 (p:=Vl t o) hka (by simp only[Vl,hn,Jg]);simp only[go_sem,prs,h,i1];refine vDq ?_;simp only[go_sem,prs,h,i1,Yj hka,pr];refine vc1 hN ?_;simp only[go_sem,hz];rw[hn]at hN;cases hf:UX (t.take k) (t.getD k Jd).fr';rw[hf]at hH1;cases hh:UX o (t.getD k Jd).to';rw[hh]at hH2;have hz:=Z0 (p:=Vl t o) hka (by simp only[Vl,hh,Jt]);simp only[go_sem,prs,h,i1];refine vDq ?_;simp only[go_sem,prs,h,i1,Yj hka,pr];refine vc1 hN ?_;simp only[go_sem,prs,h,i1,i2,GL,cut,JK,ZdM];refine vc3 hF1 ?_;simp only[go_sem,prs,h,i1,i2,Yj hka,pr];refine vc1 hH1 ?_;simp only[go_sem,prs];refine vc3 hF2 ?_;simp only[go_sem,prs,h,i1,i2,Yj hka,pr];refine vc1 hH2 ?_;simp only[go_sem,hz]
 ·rw[hh]at hH2;have ok:Vl t o k=true:=by simp only[Vl,hn,hf,hh,JJ,Jp]
  simp only[go_sem,prs,h,i1];refine vDq ?_;simp only[go_sem,prs,h,i1,Yj hka,pr];refine vc1 hN ?_;simp only[go_sem,prs,h,i1,i2,GL,cut,JK,ZdM];refine vc3 hF1 ?_;simp only[go_sem,prs,h,i1,i2,Yj hka,pr];refine vc1 hH1 ?_;simp only[go_sem,prs];refine vc3 hF2 ?_;simp only[go_sem,prs,h,i1,i2,Yj hka,pr];refine vc1 hH2 ?_;simp only[go_sem,w1];exact⟨⟨k+1,by(try simp only);omega,Zm hI ok⟩,by show(t).length-(k+1)<(t).length-k;omega,⟨rfl,(Fc3 rfl rfl rfl),fnl,fnl⟩⟩
 rw[hf]at hH1;have hz:=Z0 (p:=Vl t o) hka (by simp only[Vl,hf,Ka,Jg,Jt]);simp only[go_sem,prs,h,i1];refine vDq ?_;simp only[go_sem,prs,h,i1,Yj hka,pr];refine vc1 hN ?_;simp only[go_sem,prs,h,i1,i2,GL,cut,JK,ZdM];refine vc3 hF1 ?_;simp only[go_sem,prs,h,i1,i2,Yj hka,pr];refine vc1 hH1 ?_;simp only[go_sem,hz];have hz:=W9 (p:=Vl t o) (n:=t.length) (λj hj=>hI j (by omega));simp only[go_sem,prs,h,hz]
theorem Fk (x:Ln):(lns x).dids= []:=by
 have:∀l:List Pr,Jj (l.map pr)= []:=λl=>by
  induction l with
  |nil=>rfl
  |cons t l ih=>simp only[Jz,Jj,ih,pr,Jr,Jc]
 simp only[lns,Jr,Jj,Wj,this,Jc]
structure OkLn (x:Ln):Prop where
 c:x.fd.cases'.length<=1000000
 f:x.fo.length<=1000000
 b:x.ba.length<=1000000
theorem Fx (x:Ln) (hx:OkLn x):Pp 107 [lns x] (lns x):=by
 have hF:=Wf x.fd hx.c;have r1:=Yb hx.f (show 32<=1000 by omega);have r2:=Yb hx.b (show 32<=1000 by omega);refine ZA func107 rfl ntmps107 results107 (Fk _) ?_;simp only[go_sem,lns];refine vc2 hF ?_;simp only[go_sem,fld,lns,GL,Zok,r1,r2]
theorem Zbs (a b:Ln) (ha:OkLn a) (hb:OkLn b):Pp 106 [lns a,lns b] (.bool (decide (a=b))):=by
 have hF:=GY a.fd b.fd (by have:=ha.c;rw[Zb];omega) (by have:=hb.c;rw[Zb];omega);have h1:=Zd3 a.fo b.fo (by have:=ha.f;rw[Zb];omega) (by have:=hb.f;rw[Zb];omega);have h2:=Zd3 a.ba b.ba (by have:=ha.b;rw[Zb];omega) (by have:=hb.b;rw[Zb];omega);clear ha hb;refine ZH func106 rfl ntmps106 results106 ?_;simp only[go_sem,lns,Zr];repeat' ((first|(first|apply Zw|apply Zu|apply ZF)<;>intro h|refine vc3 hF ?_|refine vc3 h1 ?_|refine vc3 h2 ?_|refine vDq ?_)<;>first|simp only[go_sem,h,Zr]|simp only[go_sem,Zr]|skip)
 all_goals (clear hF h1 h2;(cases a;cases b;simp_all)<;>rfl)
theorem Zgn (a b:Ln) (ha:OkLn a) (hb:OkLn b):Pp 103 [lns a,lns b] (.bool (decide (a=b))):=by
 have hF:=SB a.fd b.fd (by have:=ha.c;rw[Zb];omega) (by have:=hb.c;rw[Zb];omega);have h1:=Zbu a.fo b.fo (by have:=ha.f;rw[Zb];omega) (by have:=hb.f;rw[Zb];omega);have h2:=Zbu a.ba b.ba (by have:=ha.b;rw[Zb];omega) (by have:=hb.b;rw[Zb];omega);clear ha hb;refine ZH func103 rfl ntmps103 results103 ?_;simp only[go_sem,lns,Zr];repeat' ((first|(first|apply Zw|apply Zu|apply ZF)<;>intro h|refine vc3 hF ?_|refine vc3 h1 ?_|refine vc3 h2 ?_|refine vDq ?_)<;>first|simp only[go_sem,h,Zr]|simp only[go_sem,Zr]|skip)
 all_goals (clear hF h1 h2;(cases a;cases b;simp_all)<;>rfl)
open Go.PL
def W8 (x:Ln):Ln×Bool:=
 if x.kind=1\/x.kind=5 then(⟨x.kind,x.at',x.nm,[],0,Jd,[],[]⟩,true)
 else if x.kind=2\/x.kind=3 then(⟨x.kind,Jd,[],[],0,x.fd,[],[]⟩,true)
 else if x.kind=4 then(⟨x.kind,x.at',[],[],0,Jd,[],[]⟩,true)
 else if x.kind=6\/x.kind=9 then(⟨x.kind,x.at',x.nm,x.ot,x.fac,Jd,[],[]⟩,true)
 else if x.kind=7\/x.kind=10 then(⟨x.kind,x.at',[],x.ot,0,Jd,[],[]⟩,true)
 else if x.kind=8 then(⟨x.kind,x.at',x.nm,x.ot,0,Jd,x.fo,x.ba⟩,true)
 else(Jd,false)
def lnb (x:Ln×Bool):PV:= .tup [lns x.1,.bool x.2]
theorem Zo1 (x:Ln×Bool):(lnb x).dids= []:=by simp only[lnb,Jr,Jj,Fk,Jc]
theorem U1:lns Jd= .agg [.int .i64 0,.int .i64 0,.str [],.str [],.str [],.str [],.int .i64 0,.int .i64 0,.str [],.str [],.int .i64 0,.str [],.sl .no [],.int .i64 0,.sl .no [],.sl .no []]:=rfl
theorem Zj5 (x:Ln):Pp 149 [lns x] (lnb (W8 x)):=by
 refine ZA func149 rfl ntmps149 results149 (Zo1 _) ?_;simp only[go_sem,lns];repeat' ((first|(first|apply Zw|apply Zu|apply ZF)<;>intro h|refine Zf1 [(1,4)] (by kernel_rfl) (by kernel_rfl) (by exact rfl) ?_|refine vDq ?_)<;>first|simp only[go_sem,h]|simp only[go_sem]|skip)
 all_goals (simp only[beq_iff_eq,beq_eq_false_iff_ne,ne_eq]at *;simp[W8,lnb,lns, *];try decide)
theorem Zq6 {x:Ln} (hx:OkLn x):OkLn (W8 x).1:=by
 unfold W8;repeat' split
 all_goals exact⟨by first|exact hx.c|exact Jb _,by first|exact hx.f|exact Jb _,by first|exact hx.b|exact Jb _⟩
def rtM (x:Ln):Bool:=Ym x.nm&&(Xv x.fo x.ba&&(Xv x.ba x.fo&&(((Xr x.fo x.nm).2&&((Xr x.fo x.nm).1==x.ot))&&((Xr x.ba x.ot).2&&((Xr x.ba x.ot).1==x.nm)))))
theorem D7 (x:Ln) (hx:OkLn x):Pp 154 [lns x] (.bool (rtM x)):=by
 have mf:x.fo.length<=maxLen:=by have:=hx.f;rw[Zb];omega
 have mb:x.ba.length<=maxLen:=by have:=hx.b;rw[Zb];omega
 have hN:=Xk x.nm;have h1:=TK x.fo x.ba mb;have h2:=TK x.ba x.fo mf;have h3:=S4 x.fo x.nm mf;have h4:=S4 x.ba x.ot mb;unfold rtM;generalize Xr x.fo x.nm=c at *;generalize Xr x.ba x.ot=d at *;obtain⟨c1,c2⟩:=c;obtain⟨d1,d2⟩:=d;refine ZH func154 rfl ntmps154 results154 ?_;simp only[go_sem,lns];repeat' ((first|(first|apply Zw|apply Zu|apply ZF)<;>intro h|refine vc3 hN ?_|refine vc3 h1 ?_|refine vc3 h2 ?_|refine vc3 h3 ?_|refine vc3 h4 ?_|refine vDq ?_)<;>first|simp only[go_sem,h,Za4]|simp only[go_sem,Za4]|skip)
 all_goals (clear hN h1 h2 h3 h4 mf mb hx;simp_all)
theorem Fv (n:Int):Pp 152 [.int .i64 n] (.bool (decide (2<=n)&&decide (n<=1000))):=by
 refine ZH func152 rfl ntmps152 results152 ?_;simp only[go_sem];repeat' ((first|(first|apply Zw|apply Zu|apply ZF)<;>intro h|refine vDq ?_)<;>first|simp only[go_sem,h]|simp only[go_sem]|skip)
 all_goals simp_all
def XY (x:Ln):Bool:=
 if(W8 x).2=false\/ ¬x=(W8 x).1 then false
 else if x.kind=2\/x.kind=3 then ZY x.fd
 else if XS x.at'=false then false
 else if x.kind=1 then Ym x.nm
 else if x.kind=4 then !(x.at'.gr== [])
 else if x.kind=5 then(x.at'.gr== [])&&Ym x.nm
 else if x.kind=6\/x.kind=9 then Ym x.nm&&(Ym x.ot&&(!(x.nm==x.ot)&&(decide (2<=x.fac)&&decide (x.fac<=1000))))
 else if x.kind=7\/x.kind=10 then decide ((x.ot.length:Int)<=40)
 else rtM x
theorem Zd6 (x:Ln) (hx:OkLn x):Pp 105 [lns x] (.bool (XY x)):=by
 have hP:=Zj5 x;have hS:=Zbs x (W8 x).1 hx (Zq6 hx);have hF:=Uk x.fd (by have:=hx.c;rw[Zb];omega);have hA:=G0 x.at';have hN:=Xk x.nm;have hO:=Xk x.ot;have hT:=S8 x.ot;have hK:=Fv x.fac;have hR:=D7 x hx;unfold XY;generalize W8 x=y at *;obtain⟨y,b⟩:=y;refine ZH func105 rfl ntmps105 results105 ?_;simp only[go_sem,lns];repeat' ((first|(first|apply Zw|apply Zu|apply ZF)<;>intro h|refine vc3 hP ?_|refine vc3 hS ?_|refine vc3 hF ?_|refine vc3 hA ?_|refine vc3 hN ?_|refine vc3 hO ?_|refine vc3 hT ?_|refine vc3 hK ?_|refine vc3 hR ?_|refine vDq ?_)<;>first|simp only[go_sem,h,lnb,lns]|simp only[go_sem,lnb,lns]|skip)
 all_goals (clear hP hS hF hA hN hO hT hK hR hx;simp_all)
open Go.PL
def SX (x:Ln):Bool:=decide (0<(x.fo.length:Int))||decide (0<(x.ba.length:Int))
def ZE (x:Ln):Bool:=
 if x.kind=2\/x.kind=3 then decide (x.at'=Jd)&&(decide (x.nm= [])&&(decide (x.ot= [])&&(decide (x.fac=0)&&(!SX x&&ZY x.fd))))
 else(XS x.at'&&decide (x.fd=Jd))&&(if x.kind=8 then decide (x.fac=0)&&(Xv x.fo x.ba&&(Xv x.ba x.fo&&((Xr x.fo x.nm).2&&((Xr x.ba x.ot).2&&(((Xr x.fo x.nm).1==x.ot)&&((Xr x.ba x.ot).1==x.nm))))))
  else !SX x&&(if x.kind=6\/x.kind=9 then Ym x.nm&&(Ym x.ot&&(!(x.nm==x.ot)&&(decide (1<x.fac)&&decide (x.fac<1001))))
   else decide (x.fac=0)&&(if x.kind=7\/x.kind=10 then decide (x.nm= [])&&decide ((x.ot.length:Int)<41)
    else decide (x.ot= [])&&(if x.kind=1 then Ym x.nm else if x.kind=4 then decide (x.nm= [])&& !(x.at'.gr== [])else decide (x.kind=5)&&(decide (x.at'.gr= [])&&Ym x.nm)))))
theorem ZpA {t o:List Pr} {s:Str} (h:Xv t o=true) (hs:UX t s=true):Ym s=true:=by
 simp only[UX,J5,beq_iff_eq]at hs;obtain⟨p,hp,rfl⟩:=hs;obtain⟨i,hi,rfl⟩:=Jn hp;simp only[Xv,Jk,JN,J8]at h;have:=h.2 i hi;simp only[Vl,Jk]at this;have h1:=this.1;rw[Jh,Jm hi]at h1;exact h1
theorem U8 {x:Ln}:SX x=false↔x.fo= []/\x.ba= []:=by
 simp only[SX,JA,decide_eq_false_iff_not];constructor;rintro ⟨a,b⟩;exact⟨JR (by omega),JR (by omega)⟩;rintro ⟨a,b⟩;rw[a,b];exact⟨by decide,by decide⟩
theorem Zpp (x:Ln):XY x=ZE x:=by
 obtain⟨kind,at',nm,ot,fac,fd,fo,ba⟩:=x;have ht:=U8 (x:=⟨kind,at',nm,ot,fac,fd,fo,ba⟩);simp only at ht;have d1:(Jd:Ln)=⟨0,Jd,[],[],0,Jd,[],[]⟩:=rfl;by_cases k1:kind=1;subst k1;rw[Je];simp[XY,ZE,W8,ht];constructor;rintro ⟨⟨a,b,c,d,e⟩,f,g⟩;exact⟨⟨f,c⟩,⟨d,e⟩,b,a,g⟩;rintro ⟨⟨f,c⟩,⟨d,e⟩,b,a,g⟩;exact⟨⟨a,b,c,d,e⟩,f,g⟩;by_cases k2:kind=2;subst k2;rw[Je];simp[XY,ZE,W8,ht,and_assoc];by_cases k3:kind=3;subst k3;rw[Je];simp[XY,ZE,W8,ht,and_assoc];by_cases k4:kind=4;subst k4;rw[Je];simp[XY,ZE,W8,ht];constructor;rintro ⟨⟨n,a,b,c,d,e⟩,f,g⟩;exact⟨⟨f,c⟩,⟨d,e⟩,b,a,n,g⟩;rintro ⟨⟨f,c⟩,⟨d,e⟩,b,a,n,g⟩;exact⟨⟨n,a,b,c,d,e⟩,f,g⟩;by_cases k5:kind=5;subst k5;rw[Je];simp[XY,ZE,W8,ht];constructor;rintro ⟨⟨a,b,c,d,e⟩,f,g⟩;exact⟨⟨f,c⟩,⟨d,e⟩,b,a,g⟩;rintro ⟨⟨f,c⟩,⟨d,e⟩,b,a,g⟩;exact⟨⟨a,b,c,d,e⟩,f,g⟩;by_cases k69:kind=6\/kind=9;have e1:¬(kind=2\/kind=3):=by omega
 have e3:¬(kind=1\/kind=5):=by omega
 have e8:¬kind=8:=by omega
 rw[Je];simp[XY,ZE,W8,ht,e1,e3,k69,k1,k4,k5,e8];constructor;rintro ⟨⟨a,b,c⟩,f,g,h,i,j,k⟩;exact⟨⟨f,a⟩,⟨b,c⟩,g,h,i,by omega,by omega⟩;rintro ⟨⟨f,a⟩,⟨b,c⟩,g,h,i,j,k⟩;exact⟨⟨a,b,c⟩,f,g,h,i,by omega,by omega⟩;by_cases k7:kind=7\/kind=10;have e1:¬(kind=2\/kind=3):=by omega
 have e3:¬(kind=1\/kind=5):=by omega
 have e8:¬kind=8:=by omega
 rw[Je];simp[XY,ZE,W8,ht,e1,e3,k69,k7,k1,k4,k5,e8];constructor;rintro ⟨⟨n,b,c,d,e⟩,f,g⟩;exact⟨⟨f,c⟩,⟨d,e⟩,b,n,by omega⟩;rintro ⟨⟨f,c⟩,⟨d,e⟩,b,n,g⟩;exact⟨⟨n,b,c,d,e⟩,f,by omega⟩;by_cases k8:kind=8;subst k8;rw[Je];have hn:Xv fo ba=true->(Xr fo nm).2=true->Ym nm=true:=λh h'=>ZpA h (by rw[<-Zez];exact h')
 simp[XY,ZE,W8,ht,rtM];constructor;rintro ⟨⟨a,b⟩,f,g,h,i,⟨j,k⟩,l,m⟩;exact⟨⟨f,b⟩,a,h,i,j,l,k,m⟩;rintro ⟨⟨f,b⟩,a,h,i,j,l,k,m⟩;exact⟨⟨a,b⟩,f,hn h j,h,i,⟨j,k⟩,l,m⟩;have e1:¬(kind=2\/kind=3):=by omega
 have e3:¬(kind=1\/kind=5):=by omega
 simp[XY,ZE,W8,e1,e3,k69,k7,k1,k4,k5,k8]
theorem WJ (x:Ln) (hx:OkLn x):Pp 105 [lns x] (.bool (ZE x)):=by
 rw[<-Zpp];exact Zd6 x hx
theorem Zen (x:Ln):Pp 141 [lns x] (.bool (SX x)):=by
 refine ZH func141 rfl ntmps141 results141 ?_;simp only[go_sem,lns];repeat' ((first|(first|apply Zw|apply Zu|apply ZF)<;>intro h|refine vDq ?_)<;>first|simp only[go_sem,h]|simp only[go_sem]|skip)
 all_goals simp_all[SX]
theorem Zjk (x:Ln) (hx:OkLn x):Pp 144 [lns x] (.bool (decide (x.fd=Jd))):=by
 have h:=SB x.fd Jd (by have:=hx.c;rw[Zb];omega) (Jb _);refine ZH func144 rfl ntmps144 results144 ?_;simp only[go_sem,lns];refine Yh h ?_ ?_ ?_;simp only[go_sem];rfl;simp only[go_sem]
theorem V0 (x:Ln) (hx:OkLn x):Pp 102 [lns x] (.bool (ZE x)):=by
 have mf:x.fo.length<=maxLen:=by have:=hx.f;rw[Zb];omega
 have mb:x.ba.length<=maxLen:=by have:=hx.b;rw[Zb];omega
 have hF:=UM x.fd (by have:=hx.c;rw[Zb];omega);have hT:=Zen x;have hA:=SC x.at';have hO:=Zjk x hx;have h1:=G1 x.fo x.nm mf;have h2:=G1 x.ba x.ot mb;have h3:=FF x.fo x.ba hx.b;have h4:=FF x.ba x.fo hx.f;have h5:=Xo x.nm;have h6:=Xo x.ot;unfold ZE;generalize Xr x.fo x.nm=c at *;generalize Xr x.ba x.ot=d at *;obtain⟨c1,c2⟩:=c;obtain⟨d1,d2⟩:=d;have rd:∀a:Rf,(a.sc==0&&(a.gr== []&&a.nm== []))=decide (a=Jd):=λa=>Zr a Jd
 refine ZH func102 rfl ntmps102 results102 ?_;simp only[go_sem,lns,rd];repeat' ((first|(first|apply Zw|apply Zu|apply ZF)<;>intro h|refine vc3 hF ?_|refine vc3 hT ?_|refine vc3 hA ?_|refine vc3 hO ?_|refine vc3 h1 ?_|refine vc3 h2 ?_|refine vc3 h3 ?_|refine vc3 h4 ?_|refine vc3 h5 ?_|refine vc3 h6 ?_|refine vDq ?_)<;>first|simp only[go_sem,h,Za4,rd]|simp only[go_sem,Za4,rd]|skip)
 all_goals (clear hF hT hA hO h1 h2 h3 h4 h5 h6 hx mf mb rd;simp_all)
open Go.PL
theorem ZdA (r:Rf):(ref r).dids= []:=by simp only[ref,Jr,Jj,Jc]
theorem Zlt (l:List Rf):Jj (l.map ref)= []:=by
 induction l with
 |nil=>rfl
 |cons t l ih=>simp only[Jz,Jj,ih,ZdA,Jc]
theorem GG (l:List Rf):(refs l).dids= []:=by simp only[refs,Jr,Zlt]
def Zh (r:Rf) (s:Str):Rf:=⟨r.sc,r.gr,s⟩
theorem US (r:Rf) (s:Str):Pp 197 [ref r,.str s] (ref (Zh r s)):=by
 refine ZA func197 rfl ntmps197 results197 (ZdA _) ?_;simp only[go_sem,ref,Zh]
def Zy (x:Ln):List Rf:=if x.kind=2 then []else if x.kind=3 then [x.fd.at']else if x.kind=9 then [Zh x.at' x.nm,Zh x.at' x.ot]else [x.at']
def Zc (x:Ln):List Rf:=
 if x.kind=1 then [Zh x.at' x.nm]else if x.kind=2 then [x.fd.at']else if x.kind=3 then []else if x.kind=4 then [⟨x.at'.sc,[],x.at'.nm⟩]
 else if x.kind=5 then [⟨x.at'.sc,x.nm,x.at'.nm⟩]else if x.kind=6 then [Zh x.at' x.nm,Zh x.at' x.ot]else [x.at']
def Ze4 (x:Ln):List Rf:=if ZE x=true then Zy x else []
def ZbJ (x:Ln):List Rf:=if ZE x=true then Zc x else []
theorem ob {x y:Int}:((x==y)=true)↔x=y:=beq_iff_eq
theorem Fw (x:Ln) (hx:OkLn x):Pp 158 [lns x] (refs (Ze4 x)):=by
 have hR:=WJ x hx;have h1:=US x.at' x.nm;have h2:=US x.at' x.ot;unfold Ze4;refine ZA func158 rfl ntmps158 results158 (GG _) ?_;simp only[go_sem,lns];repeat' ((first|(first|apply Zw|apply Zu|apply ZF)<;>intro h|refine vc3 hR ?_|refine vc3 h1 ?_|refine vc3 h2 ?_|refine vDq ?_)<;>first|simp only[go_sem,h,ref]|simp only[go_sem,ref]|skip)
 all_goals (clear hR h1 h2 hx;simp_all[Zy,refs,Zh,ref])
theorem Zbp (x:Ln) (hx:OkLn x):Pp 195 [lns x] (refs (ZbJ x)):=by
 have hR:=WJ x hx;have h1:=US x.at' x.nm;have h2:=US x.at' x.ot;unfold ZbJ;refine ZA func195 rfl ntmps195 results195 (GG _) ?_;simp only[go_sem,lns];repeat' ((first|(first|apply Zw|apply Zu|apply ZF)<;>intro h|refine vc3 hR ?_|refine vc3 h1 ?_|refine vc3 h2 ?_|refine vDq ?_)<;>first|simp only[go_sem,h,ref]|simp only[go_sem,ref]|skip)
 all_goals (clear hR h1 h2 hx;simp_all[Zc,refs,Zh,ref])
structure OkFs (l:List Fd):Prop where
 n:l.length<=1000
 c:∀f∈l,f.cases'.length<=1000000
theorem ZgW {α:Type} {l:List α} {k:Nat} {d:α}:l.getD k d∈l\/l.getD k d=d:=by
 by_cases h:k<l.length;exact .inl (Zs h);right;rw[Jh,List.getElem?_eq_none (by omega)];rfl
theorem Zfk {l:List Fd} (h:OkFs l) (r:Rf):(ZJ l r).1.cases'.length<=1000000:=by
 unfold ZJ;split;exact Jb _;rcases ZgW (l:=l) (k:=(idx (atF r) l).toNat) (d:=Jd)with h'|h';exact h.c _ h';rw[h'];exact Jb _
def U2 (l:List Fd) (x:Ln):List Fd×Bool:=
 if(ZJ l (Zh x.at' x.nm)).2≠0\/(ZJ l (Zh x.at' x.nm)).1.kind≠1 then([],false)
 else if(ZJ l (Zh x.at' x.ot)).2≠0\/(ZJ l (Zh x.at' x.ot)).1.kind≠1\/(ZJ l (Zh x.at' x.ot)).1.worth≠IntKind.i64.wrap ((ZJ l (Zh x.at' x.nm)).1.worth*x.fac)then([],false)
 else([⟨x.at',1,[],[],(ZJ l (Zh x.at' x.nm)).1.worth⟩],true)
def YS (x:List Fd×Bool):PV:= .tup [Zi x.1,.bool x.2]
theorem YH (x:List Fd×Bool):(YS x).dids= []:=by simp only[YS,Jr,Jj,W5,Jc]
theorem Zg6 (l:List Fd) (x:Ln) (hl:OkFs l) (hx:OkLn x) (hr:ZE x=true) (h9:x.kind=9):Pp 194 [Zi l,lns x] (YS (U2 l x)):=by
 have hG:=Fw x hx;have hg:Ze4 x= [Zh x.at' x.nm,Zh x.at' x.ot]:=by simp[Ze4,Zy,hr,h9]
 rw[hg]at hG;have f1:=Ul l (Zh x.at' x.nm) (by have:=hl.n;omega) hl.c;have f2:=Ul l (Zh x.at' x.ot) (by have:=hl.n;omega) hl.c;unfold U2;generalize ZJ l (Zh x.at' x.nm)=a at *;generalize ZJ l (Zh x.at' x.ot)=b at *;obtain⟨a,a0⟩:=a;obtain⟨b,b0⟩:=b;have o1:((0:Int)<1+1)=True:=by simp
 refine ZA func194 rfl ntmps194 results194 (YH _) ?_;simp only[go_sem,Zi,lns];refine vc3 hG ?_;simp only[go_sem,refs,ref];refine vc2 f1 ?_;simp only[go_sem,Zbb,fld];repeat' ((first|(first|apply Zw|apply Zu|apply ZF)<;>intro h|refine vc2 f2 ?_|refine vDq ?_)<;>first|simp only[go_sem,h,refs,ref,Zbb,fld,Zi]|simp only[go_sem,refs,ref,Zbb,fld,Zi]|skip)
 all_goals (clear hG f1 f2 hl hx;simp_all[YS,Zi,fld])
open Go.PL
def Vn (l:List Fd) (x:Ln):List Fd×Bool:=
 if x.kind=2 then([x.fd],true)
 else if x.kind=3 then([],decide ((ZJ l x.fd.at').2=0)&&decide ((ZJ l x.fd.at').1=x.fd))
 else if x.kind=9 then U2 l x
 else if(ZJ l x.at').2≠0 then([],false)
 else if x.kind=6 then([⟨Zh x.at' x.nm,1,[],[],(ZJ l x.at').1.worth⟩,⟨Zh x.at' x.ot,1,[],[],IntKind.i64.wrap ((ZJ l x.at').1.worth*x.fac)⟩],decide ((ZJ l x.at').1.kind=1))
 else if x.kind=7 then([⟨x.at',4,[],[],0⟩],decide ((ZJ l x.at').1.kind=2)&&decide ((ZJ l x.at').1.df=x.ot))
 else if x.kind=10 then([⟨x.at',2,x.ot,[],0⟩],decide ((ZJ l x.at').1.kind=4))
 else if x.kind=8 then([⟨x.at',3,x.ot,Yn x.ba,0⟩],decide ((ZJ l x.at').1=⟨x.at',3,x.nm,Yn x.fo,0⟩))
 else([⟨(Zc x).getD 0 Jd,(ZJ l x.at').1.kind,(ZJ l x.at').1.df,(ZJ l x.at').1.cases',(ZJ l x.at').1.worth⟩],true)
theorem WO (l:List Pr):(Yn l).length=l.length:=by simp[Yn]
theorem Zc1 (l:List Fd) (x:Ln) (hl:OkFs l) (hx:OkLn x) (hr:ZE x=true):Pp 157 [Zi l,lns x] (YS (Vn l x)):=by
 have hn:=hl.n;have hO:=Wf x.fd hx.c;have okA:=Zfk hl x.at';have okF:=Zfk hl x.fd.at';have f1:=Ul l x.fd.at' (by omega) hl.c;have f2:=Ul l x.at' (by omega) hl.c;have s1:=GY (ZJ l x.fd.at').1 x.fd (by rw[Zb];omega) (by have:=hx.c;rw[Zb];omega);have s2:=GY (ZJ l x.at').1 ⟨x.at',3,x.nm,Yn x.fo,0⟩ (by rw[Zb];omega) (by have:=hx.f;simp only[WO];rw[Zb];omega);have r1:=Zb1 x.fo hx.f;have r2:=Zb1 x.ba hx.b;have hC:=Zbp x hx;have hc:ZbJ x=Zc x:=by simp[ZbJ,hr]
 rw[hc]at hC;unfold Vn;by_cases k9:x.kind=9;have hM:=Zg6 l x hl hx hr k9;rw[if_neg (by omega),if_neg (by omega),if_pos k9];generalize U2 l x=y at *;obtain⟨y,b⟩:=y;have e2:(x.kind==2)=false:=by rw[k9];rfl
 have e3:(x.kind==3)=false:=by rw[k9];rfl
 have e9:(x.kind==9)=true:=by rw[k9];rfl
 refine ZA func157 rfl ntmps157 results157 (YH _) ?_;simp only[go_sem,Zi,lns,e2,e3,e9];refine vc3 hM ?_;simp only[go_sem,YS,Zi];have e9:(x.kind==9)=false:=beq_eq_false_iff_ne.2 k9;rw[if_neg k9];generalize ZJ l x.fd.at'=a at *;generalize ZJ l x.at'=b at *;obtain⟨a,a0⟩:=a;obtain⟨b,b0⟩:=b;simp only at *;by_cases k2:x.kind=2;have e2:(x.kind==2)=true:=by rw[k2];rfl
 rw[if_pos k2];refine ZA func157 rfl ntmps157 results157 (YH _) ?_;simp only[go_sem,Zi,lns,e2];refine vc2 hO ?_;simp only[go_sem,YS,Zi,fld];have e2:(x.kind==2)=false:=beq_eq_false_iff_ne.2 k2;rw[if_neg k2];by_cases k3:x.kind=3
 ·have e3:(x.kind==3)=true:=by rw[k3];rfl
  rw[if_pos k3];refine ZA func157 rfl ntmps157 results157 (YH _) ?_;simp only[go_sem,Zi,lns,e2,e3];refine vc2 f1 ?_;simp only[go_sem,Zbb,fld];repeat' ((first|(first|apply Zw|apply Zu|apply ZF)<;>intro h|refine vc2 s1 ?_|refine vDq ?_)<;>first|simp only[go_sem,h,Zbb,fld,Zi]|simp only[go_sem,Zbb,fld,Zi]|skip)
  all_goals (clear hO f1 f2 s1 s2 r1 r2 hC hl hx okA okF;simp_all[YS,Zi,fld])
 have e3:(x.kind==3)=false:=beq_eq_false_iff_ne.2 k3;rw[if_neg k3];by_cases hb:b0=0;subst hb;simp only[ne_eq,not_true_eq_false,if_false];by_cases k6:x.kind=6
 ·have e6:(x.kind==6)=true:=by rw[k6];rfl
  have hcc:Zc x= [Zh x.at' x.nm,Zh x.at' x.ot]:=by simp[Zc,k6]
  rw[hcc]at hC;rw[if_pos k6];refine ZA func157 rfl ntmps157 results157 (YH _) ?_;simp only[go_sem,Zi,lns,e2,e3,e9];refine vc2 f2 ?_;simp only[go_sem,Zbb,fld];refine vc3 hC ?_;simp only[go_sem,refs,ref,e6];repeat' ((first|(first|apply Zw|apply Zu|apply ZF)<;>intro h|refine vDq ?_)<;>first|simp only[go_sem,h,refs,ref,fld]|simp only[go_sem,refs,ref,fld]|skip)
  all_goals (clear hO f1 f2 s1 s2 r1 r2 hC hl hx okA okF;simp_all[YS,Zi,fld]<;>(first|rfl|(rw[Je];simp)))
 have e6:(x.kind==6)=false:=beq_eq_false_iff_ne.2 k6;rw[if_neg k6];by_cases k7:x.kind=7
 ·have e7:(x.kind==7)=true:=by rw[k7];rfl
  rw[if_pos k7];refine ZA func157 rfl ntmps157 results157 (YH _) ?_;simp only[go_sem,Zi,lns,e2,e3,e9];refine vc2 f2 ?_;simp only[go_sem,Zbb,fld];refine vc3 hC ?_;simp only[go_sem,refs,e6,e7];repeat' ((first|(first|apply Zw|apply Zu|apply ZF)<;>intro h|refine vDq ?_)<;>first|simp only[go_sem,h]|simp only[go_sem]|skip)
  all_goals (clear hO f1 f2 s1 s2 r1 r2 hC hl hx okA okF;simp_all[YS,Zi,fld]<;>(first|rfl|(rw[Je];simp)))
 have e7:(x.kind==7)=false:=beq_eq_false_iff_ne.2 k7;rw[if_neg k7];by_cases k10:x.kind=10
 ·have e10:(x.kind==10)=true:=by rw[k10];rfl
  rw[if_pos k10];refine ZA func157 rfl ntmps157 results157 (YH _) ?_;simp only[go_sem,Zi,lns,e2,e3,e9];refine vc2 f2 ?_;simp only[go_sem,Zbb,fld];refine vc3 hC ?_;simp only[go_sem,refs,e6,e7,e10];repeat' ((first|(first|apply Zw|apply Zu|apply ZF)<;>intro h|refine vDq ?_)<;>first|simp only[go_sem,h]|simp only[go_sem]|skip)
  all_goals (clear hO f1 f2 s1 s2 r1 r2 hC hl hx okA okF;simp_all[YS,Zi,fld]<;>(first|rfl|(rw[Je];simp)))
 have e10:(x.kind==10)=false:=beq_eq_false_iff_ne.2 k10;rw[if_neg k10];by_cases k8:x.kind=8
 ·have e8:(x.kind==8)=true:=by rw[k8];rfl
  rw[if_pos k8];refine ZA func157 rfl ntmps157 results157 (YH _) ?_;simp only[go_sem,Zi,lns,e2,e3,e9];refine vc2 f2 ?_;simp only[go_sem,Zbb,fld];refine vc3 hC ?_;simp only[go_sem,refs,e6,e7,e10,e8];repeat' ((first|(first|apply Zw|apply Zu|apply ZF)<;>intro h|refine vc3 r1 ?_|refine vc3 r2 ?_|refine vc3 s2 ?_|refine vDq ?_)<;>first|simp only[go_sem,h,Yq,fld]|simp only[go_sem,Yq,fld]|skip)
  all_goals (clear hO f1 f2 s1 s2 r1 r2 hC hl hx okA okF;simp_all[YS,Zi,fld])
 have e8:(x.kind==8)=false:=beq_eq_false_iff_ne.2 k8;rw[if_neg k8];have hk:x.kind=1\/x.kind=4\/x.kind=5:=by
  refine Kh λhne=> ?_
  simp[ZE,k2,k3,k6,k7,k8,k9,k10,show ¬x.kind=1 by omega,show ¬x.kind=4 by omega,show ¬x.kind=5 by omega]at hr
 obtain⟨c,hcc⟩:∃c,Zc x= [c]:=by
  rcases hk with h|h|h<;>simp[Zc,h]
 rw[hcc]at hC ⊢;refine ZA func157 rfl ntmps157 results157 (YH _) ?_;simp only[go_sem,Zi,lns,e2,e3,e9];refine vc2 f2 ?_;simp only[go_sem,Zbb,fld];refine vc3 hC ?_;simp only[go_sem,refs,ref,e6,e7,e10,e8,YS,Zi,fld];have hb':(b0 !=0)=true:=bne_iff_ne.2 hb;rw[if_pos hb];refine ZA func157 rfl ntmps157 results157 (YH _) ?_;simp only[go_sem,Zi,lns,e2,e3,e9];refine vc2 f2 ?_;simp only[go_sem,Zbb,fld,hb',YS,Zi]
open Go.PL
def Zs3 (fo ba:List Pr) (p:Pr):Bool:=(Xr fo p.fr').2&&((Xr ba (Xr fo p.fr').1).2&&((Xr ba (Xr fo p.fr').1).1==p.fr'))
def Zqq (fo ba:List Pr):Bool:=fo.all (Zs3 fo ba)
def Zvd (x:Ln) (r:Rf):Bool:=
 if ZE x=false then false else if idx (λa=>decide (r=a)) (Zy x)<0 then true
 else if x.kind=1\/x.kind=4\/x.kind=5\/x.kind=6\/x.kind=7\/x.kind=10 then true
 else if x.kind=9 then idx (λa=>decide (r=a)) (Zy x)==0
 else if x.kind=8 then Zqq x.fo x.ba else false
theorem F8 (x:Ln):(Zy x).length<=2:=by
 unfold Zy;split;simp;split;simp;split<;>simp
def ZiJ (x:Ln) (r:Rf):Rf×Bool:=
 if ZE x=false then(Jd,false)else if((Zy x).any λa=>decide (r=a))=false then(r,true)
 else if(Zc x).length=0 then(Jd,false)else((Zc x).getD 0 Jd,true)
def Zvl (x:Ln) (r:Rf):Bool:=
 if ZE x=false then false else if((Zc x).any λa=>decide (r=a))=false then true
 else if x.kind=1\/x.kind=4\/x.kind=5\/x.kind=9\/x.kind=10 then true else if x.kind=8 then Zqq x.ba x.fo else false
def Fj (x:Ln):Ln:=
 if x.kind=1 then⟨1,⟨x.at'.sc,x.at'.gr,x.nm⟩,x.at'.nm,x.ot,x.fac,x.fd,x.fo,x.ba⟩
 else if x.kind=2 then⟨3,x.at',x.nm,x.ot,x.fac,x.fd,x.fo,x.ba⟩
 else if x.kind=3 then⟨2,x.at',x.nm,x.ot,x.fac,x.fd,x.fo,x.ba⟩
 else if x.kind=4 then⟨5,⟨x.at'.sc,[],x.at'.nm⟩,x.at'.gr,x.ot,x.fac,x.fd,x.fo,x.ba⟩
 else if x.kind=5 then⟨4,⟨x.at'.sc,x.nm,x.at'.nm⟩,[],x.ot,x.fac,x.fd,x.fo,x.ba⟩
 else if x.kind=6 then⟨9,x.at',x.nm,x.ot,x.fac,x.fd,x.fo,x.ba⟩
 else if x.kind=9 then⟨6,x.at',x.nm,x.ot,x.fac,x.fd,x.fo,x.ba⟩
 else if x.kind=7 then⟨10,x.at',x.nm,x.ot,x.fac,x.fd,x.fo,x.ba⟩
 else if x.kind=10 then⟨7,x.at',x.nm,x.ot,x.fac,x.fd,x.fo,x.ba⟩
 else if x.kind=8 then⟨8,x.at',x.ot,x.nm,x.fac,x.fd,x.ba,x.fo⟩else x
def lnc (x:Ln×Int):PV:= .tup [lns x.1,.int .i64 x.2]
theorem Ws (x:Ln×Int):(lnc x).dids= []:=by simp only[lnc,Jr,Jj,Fk,Jc]
def Zqa (x:Ln):Ln×Int:=if ZE x=false then(Jd,5)else(Fj x,0)
theorem Zd5 (x:Ln) (hx:OkLn x):Pp 249 [lns x] (lnc (Zqa x)):=by
 have hR:=WJ x hx;have hO:=Fx x hx;unfold Zqa;cases hlr:ZE x;rw[hlr]at hR;refine ZA func249 rfl ntmps249 results249 (Ws _) ?_;simp only[go_sem,lns];refine vc3 hR ?_;simp only[go_sem,if_true,lnc,U1];rw[hlr]at hR;refine ZA func249 rfl ntmps249 results249 (Ws _) ?_;simp only[go_sem,lns];refine vc3 hR ?_;simp only[go_sem,lns];refine vc3 hO ?_;simp only[go_sem,lns];repeat' ((first|(first|apply Zw|apply Zu|apply ZF)<;>intro h|refine Zf1 [(1,4)] (by kernel_rfl) (by kernel_rfl) (by exact rfl) ?_|refine vDq ?_)<;>first|simp only[go_sem,h]|simp only[go_sem]|skip)
 all_goals (simp only[beq_iff_eq,beq_eq_false_iff_ne,ne_eq]at *;clear hR hO hx;simp[Fj,lnc,lns, *])
def Yw (l:List Rf) (r:Rf):Int:=idx (λa=>decide (r=a)) l
theorem DT (l:List Rf) (r:Rf):Yw l r= -1\/ ∃g:Nat,g<l.length/\Yw l r=(g:Int):=Xy _ _
open Go.PL
theorem Zh2 (l:List Tg):Jj (l.map tg)= []:=by
 induction l with
 |nil=>rfl
 |cons t l ih=>simp only[Jz,Jj,ih,tg,Jr,Jc]
theorem Sl (l:List Tg):Sized 2 (l.map tg):=λe he=>by
 obtain⟨x,_,rfl⟩:=JL.1 he;rfl
theorem ZhW (l:List Tg):Xw (l.map tg):=λe he=>by
 obtain⟨x,_,rfl⟩:=JL.1 he;rfl
def SZ (t:Tg):Bool:=decide (1<=t.r)&&(decide (t.r<=6)&&(decide (1<=t.n)&&decide (t.n<=1099511627776)))
theorem TY (t:Tg):Pp 100 [tg t] (.bool (SZ t)):=by
 refine ZH func100 rfl ntmps100 results100 ?_;simp only[go_sem,tg];repeat' ((first|(first|apply Zw|apply Zu|apply ZF)<;>intro h|refine vDq ?_)<;>first|simp only[go_sem,h]|simp only[go_sem]|skip)
 all_goals (simp_all[SZ]<;>(intros;omega))
def Vd (a b:Tg):Bool:=if a.r=b.r then decide (a.n<b.n)else decide (a.r<b.r)
theorem ZbA (a b:Tg):Pp 120 [tg a,tg b] (.bool (Vd a b)):=by
 refine ZH func120 rfl ntmps120 results120 ?_;simp only[go_sem,tg];repeat' ((first|(first|apply Zw|apply Zu|apply ZF)<;>intro h|refine vDq ?_)<;>first|simp only[go_sem,h]|simp only[go_sem]|skip)
 all_goals simp_all[Vd]
open Go.PL
@[go_sem] theorem ZwN:tcv prog 2 235= .flt .f64:=by kernel_rfl
@[go_sem] theorem ZwM:tcv prog 235 2= .int .i64:=by kernel_rfl
theorem Zp6 (a b:Int):((some (compare a b):Option Ordering)==some .gt||(some (compare a b):Option Ordering)==some .eq)=decide (b<=a):=by
 rcases JW a b with h|h|h;rw[JX.2 h,decide_eq_false (by omega)];rfl;subst h;rw[JY.2 rfl,decide_eq_true (by omega)];rfl;rw[JZ.2 h,decide_eq_true (by omega)];rfl
theorem Zqc (a b:Int):((some (compare a b):Option Ordering)==some .lt||(some (compare a b):Option Ordering)==some .eq)=decide (a<=b):=by
 rcases JW a b with h|h|h;rw[JX.2 h,decide_eq_true (by omega)];rfl;subst h;rw[JY.2 rfl,decide_eq_true (by omega)];rfl;rw[JZ.2 h,decide_eq_false (by omega)];rfl
theorem Zqf (a b:Int):((some (compare a b):Option Ordering) !=some .eq)=decide (a≠b):=by
 rcases JW a b with h|h|h;rw[JX.2 h,decide_eq_true (by omega)];rfl;subst h;rw[JY.2 rfl,decide_eq_false (by omega)];rfl;rw[JZ.2 h,decide_eq_true (by omega)];rfl
theorem Zmb:(4841369599423283200:Nat)=WC 4503599627370496:=by decide+kernel
theorem Zl9:J2 .f64 4841369599423283200=WC (-4503599627370496):=by decide+kernel
theorem Zr6:Extern.findNext f259=none:=by kernel_rfl
theorem Zr5:Extern.find f259=some (Extern.MathFloor.toIntegral "math.archTrunc" .zero):=by kernel_rfl
theorem Znk (n:Int) (h:n.natAbs<2 ^ 53) (P:Program) (w:World):(Extern.MathFloor.toIntegral "math.archTrunc" .zero #[.float .f64 (WC n)]).run P w= .ok (.float .f64 (WC n)) w:=by
 obtain⟨s,m,p,hp⟩:=Zmn n h;have ht:=ZpK n h;rw[hp]at ht;show(Extern.MathFloor.toIntegral.match_1 (λ_=>Sem Value) (FloatKind.f64.decode (WC n)) _ _:Sem Value).run P w=_;rw[hp];show Result.ok (Value.float .f64 (FloatKind.f64.encode ((Ieee.Datum.number s m p).integral .zero))) w=_;rw[ht]
theorem Zes (n:Int) (h:n.natAbs<2 ^ 53):PL.Xt prog 259 [.flt .f64 (WC n)] (.flt .f64 (WC n)):=by
 intro w S vs hl hr;match vs,hl with
 | [v],_=>
  have h0:=hr 0 (by simp);simp only[List.getD_cons_zero]at h0;cases h0;refine⟨.float .f64 (WC n),.flt _ _,?_⟩;rw[run_callFunc_extern func259 (by decide) rfl Zr6 Zr5];show((Extern.MathFloor.toIntegral "math.archTrunc" .zero #[.float .f64 (WC n)]).run prog w).andThen _=_;rw[Znk n h];rfl
theorem ZbC (n:Int) (h:n.natAbs<2 ^ 53):Pp 254 [.flt .f64 (WC n)] (.flt .f64 (WC n)):=by
 have hT:=Zes n h;refine ZH func254 rfl ntmps254 results254 ?_;simp only[go_sem];refine ZpT hT ?_ ?_ ?_;simp only[go_sem];simp only[go_sem];simp only[go_sem]
theorem ZhR (a b:Nat):Pp 253 [.cpx .f64 a b] (.agg [.flt .f64 a,.flt .f64 b]):=by
 refine ZH func253 rfl ntmps253 results253 ?_;simp only[go_sem]
def Lim (n:Int):Prop:= -4503599627370496<=n/\n<=4503599627370496
theorem Lim.abs {n:Int} (h:Lim n):n.natAbs<2 ^ 53:=by have:=h.1;have:=h.2;omega
theorem ZhP (a b:Int) (ha:Lim a) (hb:Lim b):Pp 235 [.cpx .f64 (WC a) (WC b),.flt .f64 4841369599423283200] (.bool true):=by
 have hZ:=ZhR (WC a) (WC b);have hTa:=ZbC a ha.abs;have hTb:=ZbC b hb.abs;have m1:(4503599627370496:Int).natAbs<2 ^ 53:=by decide
 have m2:(-4503599627370496:Int).natAbs<2 ^ 53:=by decide
 have ga:(FloatKind.f64.format.order (WC a) (J2 .f64 4841369599423283200)==some .gt||FloatKind.f64.format.order (WC a) (J2 .f64 4841369599423283200)==some .eq)=true:=by
  rw[Zl9,Sh _ _ ha.abs m2,Zp6];simpa using ha.1
 have gb:(FloatKind.f64.format.order (WC b) (J2 .f64 4841369599423283200)==some .gt||FloatKind.f64.format.order (WC b) (J2 .f64 4841369599423283200)==some .eq)=true:=by
  rw[Zl9,Sh _ _ hb.abs m2,Zp6];simpa using hb.1
 have la:(FloatKind.f64.format.order (WC a) 4841369599423283200==some .lt||FloatKind.f64.format.order (WC a) 4841369599423283200==some .eq)=true:=by
  rw[Zmb,Sh _ _ ha.abs m1,Zqc];simpa using ha.2
 have lb:(FloatKind.f64.format.order (WC b) 4841369599423283200==some .lt||FloatKind.f64.format.order (WC b) 4841369599423283200==some .eq)=true:=by
  rw[Zmb,Sh _ _ hb.abs m1,Zqc];simpa using hb.2
 have na:(FloatKind.f64.format.order (WC a) (WC a) !=some .eq)=false:=by rw[Sh _ _ ha.abs ha.abs,Zqf];simp
 have nb:(FloatKind.f64.format.order (WC b) (WC b) !=some .eq)=false:=by rw[Sh _ _ hb.abs hb.abs,Zqf];simp
 have c0:((0:Nat):Int)=0:=rfl;have c1:((1:Nat):Int)=1:=rfl;have c2:((2:Nat):Int)=2:=rfl;have w0:IntKind.i64.wrap (0+1)=((1:Nat):Int):=by decide
 have w1:IntKind.i64.wrap (1+1)=((2:Nat):Int):=by decide
 refine ZH func235 rfl ntmps235 results235 ?_;simp only[go_sem];refine vc1 hZ ?_;simp only[go_sem];refine Zt (ι:= { k:Nat // k<=2 }) 29 (λx=> [(1,.flt .f64 4841369599423283200),(8,.agg [.flt .f64 (WC a),.flt .f64 (WC b)]),(9,.int .i64 (x.1:Int))]) (λx=> []) (λx=> []) (λx=>2-x.1) ⟨0,by omega⟩
  ⟨rfl,(Fc3 rfl rfl rfl),fnl,fnl⟩ (λx=>⟨Fc3 rfl (by simp[Ju,JF]) rfl,fnl⟩) (λx=> ?_)
 obtain⟨k,hk⟩:=x;simp only;obtain rfl|rfl|rfl:k=0\/k=1\/k=2:=by omega
 simp only[go_sem,c0,ga,la];refine vc1 hTa ?_;simp only[go_sem,na,w0];exact⟨⟨1,by omega⟩,by show 2-1<2-0;omega,⟨rfl,(Fc3 rfl rfl rfl),fnl,fnl⟩⟩;simp only[go_sem,c1,gb,lb];refine vc1 hTb ?_;simp only[go_sem,nb,w1];exact⟨⟨2,by omega⟩,by show 2-2<2-1;omega,⟨rfl,(Fc3 rfl rfl rfl),fnl,fnl⟩⟩;simp only[go_sem,c2]
theorem G7 (a b:Int) (ha:Lim a) (hb:Lim b):Pp 207 [.cpx .f64 (WC a) (WC b)] (.bool true):=by
 have hW:=ZhP a b ha hb;refine ZH func207 rfl ntmps207 results207 ?_;simp only[go_sem];refine vc1 hW ?_;simp only[go_sem]
theorem TX (a b:Int) (ha:Lim a) (hb:Lim b):Pp 166 [.cpx .f64 (WC a) (WC b)] (.tup [.int .i64 a,.int .i64 b,.int .i64 0]):=by
 have hW:=G7 a b ha hb;have ta:=ZiI a ha.abs;have tb:=ZiI b hb.abs;have l1:IntKind.i64.min<=a:=by rw[show IntKind.i64.min= -9223372036854775808 by decide];have:=ha.1;omega
 have l2:a<=IntKind.i64.max:=by rw[show IntKind.i64.max=9223372036854775807 by decide];have:=ha.2;omega
 have l3:IntKind.i64.min<=b:=by rw[show IntKind.i64.min= -9223372036854775808 by decide];have:=hb.1;omega
 have l4:b<=IntKind.i64.max:=by rw[show IntKind.i64.max=9223372036854775807 by decide];have:=hb.2;omega
 refine ZA func166 rfl ntmps166 results166 (rfl) ?_;simp only[go_sem];refine vc1 hW ?_;simp only[go_sem,ta,tb,l1,l2,l3,l4]
def Y6 (n:Int):Bool:=decide (-4503599627370496<=n)&&decide (n<=4503599627370496)
theorem Wm {n:Int}:Y6 n=true↔Lim n:=by simp[Y6,Lim]
theorem ZeY (n:Int):Pp 206 [.int .i64 n] (.bool (Y6 n)):=by
 refine ZH func206 rfl ntmps206 results206 ?_;simp only[go_sem];repeat' ((first|(first|apply Zw|apply Zu|apply ZF)<;>intro h|refine vDq ?_)<;>first|simp only[go_sem,h]|simp only[go_sem]|skip)
 all_goals (simp_all[Y6];try omega)
theorem Zgg (a b:Int):Pp 164 [.int .i64 a,.int .i64 b] (if Y6 a=true/\Y6 b=true then .tup [.cpx .f64 (WC a) (WC b),.int .i64 0]else .tup [.cpx .f64 0 0,.int .i64 3]):=by
 have hA:=ZeY a;have hB:=ZeY b;have ea:FloatKind.f64.nearest a=WC a:=rfl;have eb:FloatKind.f64.nearest b=WC b:=rfl;cases h1:Y6 a;rw[h1]at hA;simp only[Jw,false_and,if_false];refine ZA func164 rfl ntmps164 results164 (rfl) ?_;simp only[go_sem];refine vc1 hA ?_;simp only[go_sem];rw[h1]at hA;cases h2:Y6 b;rw[h2]at hB;simp only[Jw,and_false,if_false];refine ZA func164 rfl ntmps164 results164 (rfl) ?_;simp only[go_sem];refine vc1 hA ?_;simp only[go_sem];refine vc1 hB ?_;simp only[go_sem];rw[h2]at hB;simp only[and_self,if_true];refine ZA func164 rfl ntmps164 results164 (rfl) ?_;simp only[go_sem];refine vc1 hA ?_;simp only[go_sem];refine vc1 hB ?_;simp only[go_sem,ea,eb]
theorem Zk7 (n:Int):Pp 261 [.int .i64 n] (.bool (!Y6 n)):=by
 refine ZH func261 rfl ntmps261 results261 ?_;simp only[go_sem];repeat' ((first|(first|apply Zw|apply Zu|apply ZF)<;>intro h|refine vDq ?_)<;>first|simp only[go_sem,h]|simp only[go_sem]|skip)
 all_goals (simp_all[Y6];try omega)
 all_goals (rw[<-decide_not];congr 1;simp only[eq_iff_iff];omega)
open Go.PL
theorem Up:∀(a:Str),ZS a a=false
 | []=>rfl
 |x::a=>by
  have:=Up a;unfold ZS at *;simp[Jo,this]
theorem Gl:∀ {a b c:Str},ZS a b=true->ZS b c=true->ZS a c=true
 | [],[],_,h,_=>by simp[ZS,Jo]at h
 | [],_::_,[],_,h=>by simp[ZS,Jo]at h
 | [],_::_,_::_,_,_=>by simp[ZS,Jo]
 |_::_,[],_,h,_=>by simp[ZS,Jo]at h
 |_::_,_::_,[],_,h=>by simp[ZS,Jo]at h
 |x::a,y::b,z::c,h1,h2=>by
  have ih:=Gl (a:=a) (b:=b) (c:=c);unfold ZS at *;simp only[Jo,Jq,decide_eq_true_eq,Jk,beq_iff_eq]at *;rcases h1 with h1|⟨rfl,h1⟩;rcases h2 with h2|⟨rfl,h2⟩;exact .inl (UInt8.lt_trans h1 h2);exact .inl h1;rcases h2 with h2|⟨rfl,h2⟩;exact .inl h2;exact .inr ⟨rfl,ih h1 h2⟩
theorem Gk:∀(a b:Str),ZS a b=true\/a=b\/ZS b a=true
 | [],[]=> .inr (.inl rfl)
 | [],_::_=> .inl (by simp[ZS,Jo])
 |_::_,[]=> .inr (.inr (by simp[ZS,Jo]))
 |x::a,y::b=>by
  have ih:=Gk a b;unfold ZS at *;simp only[Jo,Jq,decide_eq_true_eq,Jk,beq_iff_eq]at *;rcases Kf x.toNat y.toNat with h|h|h;exact .inl (.inl h);have e:x=y:=UInt8.toNat_inj.1 h;subst e;rcases ih with ih|rfl|ih;exact .inl (.inr ⟨rfl,ih⟩);exact .inr (.inl rfl);exact .inr (.inr (.inr ⟨rfl,ih⟩));exact .inr (.inr (.inl h))
theorem Wo (a:Rf):WQ a a=false:=by simp[WQ,Up]
theorem ZoY (a b:Rf):WQ a b=true\/a=b\/WQ b a=true:=by
 unfold WQ;by_cases h1:a.sc=b.sc;by_cases h2:a.gr=b.gr;simp only[h1,h2,ne_eq,not_true_eq_false,if_false];rcases Gk a.nm b.nm with h|h|h;exact .inl h;exact .inr (.inl (by cases a;cases b;simp_all));exact .inr (.inr h);have h2':b.gr≠a.gr:=λe=>h2 e.symm
 simp only[h1,h2,h2',ne_eq,not_true_eq_false,not_false_eq_true,if_false,if_true];rcases Gk a.gr b.gr with h|h|h;exact .inl h;exact absurd h h2;exact .inr (.inr h);have h1':b.sc≠a.sc:=λe=>h1 e.symm
 simp only[h1,h1',ne_eq,not_false_eq_true,if_true,decide_eq_true_eq];omega
theorem Zdj {a b c:Rf} (h1:WQ a b=true) (h2:WQ b c=true):WQ a c=true:=by
 unfold WQ at *;by_cases e1:a.sc=b.sc;by_cases e2:b.sc=c.sc;simp only[e1,e2,ne_eq,not_true_eq_false,if_false]at *;by_cases g1:a.gr=b.gr;by_cases g2:b.gr=c.gr;simp only[g1,g2,not_true_eq_false,if_false]at *;exact Gl h1 h2;simp only[g1,g2,not_true_eq_false,not_false_eq_true,if_false,if_true]at *;exact h2;by_cases g2:b.gr=c.gr;rw[<-g2];simp only[g1,not_false_eq_true,if_true]at *;exact h1;simp only[g1,g2,not_false_eq_true,if_true]at *;have:=Gl h1 h2;have hn:¬a.gr=c.gr:=λe=>by rw[e,Up]at this;cases this
 simp only[hn,not_false_eq_true,if_true];exact this;simp only[e1,e2,ne_eq,not_false_eq_true,if_true]at *;exact h2;by_cases e2:b.sc=c.sc;rw[<-e2];simp only[e1,ne_eq,not_false_eq_true,if_true]at *;exact h1;simp only[e1,e2,ne_eq,not_false_eq_true,if_true,decide_eq_true_eq]at *;have hn:¬a.sc=c.sc:=by omega
 simp only[hn,not_false_eq_true,if_true,decide_eq_true_eq];omega
def ZkS (l:List Fd):Prop:=l.Pairwise λa b=>WQ a.at' b.at'=true
theorem GI:∀ {l:List Fd},(∀i,i<l.length->i=0\/WQ (l.getD (i-1) Jd).at' (l.getD i Jd).at'=true)->ZkS l
 | [],_=>Ki.nil
 | [a],_=>List.pairwise_singleton _ _
 |a::b::l,h=>by
  have ih:ZkS (b::l):=GI λi hi=>by
   cases i with
   |zero=>exact .inl rfl
   |succ i=>
    have:=h (i+2) (by simp at hi ⊢;omega);right;simpa using this
  have hab:WQ a.at' b.at'=true:=by simpa using h 1 (by simp)
  refine JH.2 ⟨λx hx=> ?_,ih⟩;rcases JQ.1 hx with rfl|hx;exact hab;exact Zdj hab ((JH.1 ih).1 x hx)
theorem ZdI {l:List Fd} (h:ZkS l):∀i,i<l.length->i=0\/WQ (l.getD (i-1) Jd).at' (l.getD i Jd).at'=true:=λi hi=>by
 by_cases h0:i=0;exact .inl h0;right;rw[getD_lt (by omega),getD_lt hi];exact JC.1 h (i-1) i (by omega) hi (by omega)
theorem Ya {l:List Fd}:Z2 l=true↔l.length<=16/\ZkS l/\ ∀f∈l,ZY f=true:=by
 unfold Z2;simp only[Jk,JV,decide_eq_false_iff_not,JN,J8,Vp,Jq,decide_eq_true_eq];constructor;rintro ⟨h1,h2⟩;refine⟨by omega,GI λi hi=>(h2 i hi).2,λf hf=> ?_⟩;obtain⟨i,hi,rfl⟩:=Jn hf;have:=(h2 i hi).1;rwa[getD_lt hi]at this;rintro ⟨h1,h2,h3⟩;exact⟨by omega,λi hi=>⟨h3 _ (Ze hi),ZdI h2 i hi⟩⟩
theorem ZdB:∀ {l m:List Fd},ZkS l->ZkS m->(∀f,f∈l↔f∈m)->l=m
 | [],[],_,_,_=>rfl
 | [],b::m,_,_,h=>by have:=(h b).2 (by simp);cases this
 |a::l,[],_,_,h=>by have:=(h a).1 (by simp);cases this
 |a::l,b::m,h1,h2,h=>by
  obtain⟨p1,q1⟩:=JH.1 h1;obtain⟨p2,q2⟩:=JH.1 h2;have e:a=b:=by
   rcases JQ.1 ((h a).1 (by simp))with e|ha;exact e;rcases JQ.1 ((h b).2 (by simp))with e|hb;exact e.symm;have:=Zdj (p1 b hb) (p2 a ha);rw[Wo]at this;cases this
  subst e;congr 1;refine ZdB q1 q2 λf=>⟨λhf=> ?_,λhf=> ?_⟩
  rcases JQ.1 ((h f).1 (by simp[hf]))with e|hf';subst e;have:=p1 f hf;rw[Wo]at this;cases this;exact hf';rcases JQ.1 ((h f).2 (by simp[hf]))with e|hf';subst e;have:=p2 f hf;rw[Wo]at this;cases this;exact hf'
theorem Zhn {l:List Fd} (h:ZkS l) {f g:Fd} (hf:f∈l) (hg:g∈l) (e:f.at'=g.at'):f=g:=by
 obtain⟨i,hi,rfl⟩:=Jn hf;obtain⟨j,hj,rfl⟩:=Jn hg;rcases Kf i j with h1|h1|h1;have:=JC.1 h i j hi hj h1;rw[e,Wo]at this;cases this;subst h1;rfl;have:=JC.1 h j i hj hi h1;rw[e,Wo]at this;cases this
open Go.PL
structure Nd where
 e:Eg
 st:Int
 sch:List Fd
 dep:Int
 deriving DecidableEq,Inhabited
def nd (n:Nd):PV:= .agg [.int .i64 n.e.id.r,.int .i64 n.e.id.n,.int .i64 n.e.par.r,.int .i64 n.e.par.n,.int .i64 n.e.ln.kind,.int .i64 n.e.ln.at'.sc,.str n.e.ln.at'.gr,.str n.e.ln.at'.nm,.str n.e.ln.nm,.str n.e.ln.ot,.int .i64 n.e.ln.fac,.int .i64 n.e.ln.fd.at'.sc,.str n.e.ln.fd.at'.gr,.str n.e.ln.fd.at'.nm,.int .i64 n.e.ln.fd.kind,.str n.e.ln.fd.df,.sl .no (n.e.ln.fd.cases'.map .str),.int .i64 n.e.ln.fd.worth,.sl .no (n.e.ln.fo.map pr),.sl .no (n.e.ln.ba.map pr),.int .i64 n.st,.sl .no (n.sch.map fld),.int .i64 n.dep]
def kts (l:List Nd):List PV:=l.map λn=>tg n.e.id
def nds (l:List Nd):List PV:=l.map nd
def tr (l:List Nd):PV:= .rptr [.rmap (kts l) (nds l)]
theorem vc5 {x:Bool} {M:KH} {g:FuncId} {args args':List PV} {K:KR} {r:PV} (h1:Pp g args' r) (h2:K.k r M.m) (h0:Ko M.m args:=by first|(simp only[go_sem,ref,ent,YG,doc,Yq,row,Zi,fld,lns,tg,refs,prs,pr,eg,egs,tgs,lg,lgs,tr];done)|exact rfl) (he:PV.giveL M.m args=args':=by first|(simp only[go_sem,ref,ent,YG,doc,Yq,row,Zi,fld,lns,tg,refs,prs,pr,eg,egs,tgs,lg,lgs,tr];done)|exact rfl):@UJ prog x M (some (g,args)) K:=Yh h1 h0 he h2
def mc (l:List Nd):MapC:=⟨kts l,nds l⟩
theorem Zh1 (l:List Pr):Jj (l.map pr)= []:=by
 induction l with
 |nil=>rfl
 |cons t l ih=>simp only[Jz,Jj,ih,pr,Jr,Jc]
theorem ZgQ (e:Eg):(eg e).dids= []:=by simp only[eg,Jr,Jj,Zh1,Wj,Jc]
theorem Zg7 (n:Nd):(nd n).dids= []:=by simp only[nd,Jr,Jj,Zh1,ZeH,Wj,Jc]
theorem Znb (t:Tg):(tg t).dids= []:=by simp only[tg,Jr,Jj,Jc]
theorem Vw {α:Type} (f:α->PV) (h:∀x,(f x).nomap=true) (l:List α):J9 (l.map f)=true:=Dr.2 λc hc=>by
 obtain⟨x,_,rfl⟩:=JL.1 hc;exact h x
theorem Sf (l:List Str):J9 (l.map .str)=true:=Vw _ (λ_=>rfl) l
theorem Zmj (l:List Pr):J9 (l.map pr)=true:=Vw _ (λ_=>rfl) l
theorem Zmm (f:Fd):(fld f).nomap=true:=by simp only[fld,PV.nomap,J9,Sf,Jp]
theorem Zo6 (n:Nd):(nd n).nomap=true:=by simp only[nd,PV.nomap,J9,Zmj,Sf,Vw _ Zmm,Jp]
theorem ZbR (id:Tg):∀(l:List Nd) (i:Nat),UW [.int,.int] [.int .i64 id.r,.int .i64 id.n] (kts l) i=some ((l.findIdx? λn=>decide (id=n.e.id)).map (· + i))
 | [],i=>rfl
 |n::l,i=>by
  have ih:=ZbR id l (i+1);simp only[kts,tg]at ih;simp only[kts,Jz,tg,UW,ZO,Uw,if_true,List.findIdx?_cons,Bool.and_true,ZN];by_cases h:id=n.e.id;simp[h];simp only[h,decide_false,ih];simp only[Jw,if_false,Option.map_map];congr 2;funext x;simp;omega
theorem Yy (id:Tg) (l:List Nd):UW [.int,.int] [.int .i64 id.r,.int .i64 id.n] (kts l) 0=some (l.findIdx? λn=>decide (id=n.e.id)):=by
 rw[ZbR];congr 1;cases List.findIdx? (λn=>decide (id=n.e.id)) l<;>rfl
def Dk (l:List Nd) (id:Tg):Option Nd:=l.find? λn=>decide (id=n.e.id)
theorem Tw {l:List Nd} {id:Tg}:(l.findIdx? λn=>decide (id=n.e.id))=none↔Dk l id=none:=by
 unfold Dk;rw[JB,JT];simp
theorem Tx {l:List Nd} {id:Tg} {i:Nat} (h:(l.findIdx? λn=>decide (id=n.e.id))=some i):i<l.length/\Dk l id=some (l.getD i Jd):=by
 rw[JI]at h;obtain⟨h1,h2,h3⟩:=h;refine⟨h1,?_⟩;unfold Dk;rw[JP];exact⟨by rw[getD_lt h1];exact h2,i,h1,(getD_lt h1).symm,λj hj=>by simpa using h3 j hj⟩
theorem F6 {l:List Nd} {i:Nat} (h:i<l.length):(nds l).getD i .any=nd (l.getD i Jd):=XE h
theorem ZlI {l:List Nd} {i:Nat} (h:i<l.length):(kts l).getD i .any=tg (l.getD i Jd).e.id:=XE (d:=Jd) h
theorem G6:Pp 104 [] (tg Jd):=by
 refine ZA func104 rfl ntmps104 results104 (rfl) ?_;simp only[go_sem];rfl
theorem Zjm:Pp 117 [] (Zi U5):=by
 refine ZA func117 rfl ntmps117 results117 (W5 _) ?_;simp only[go_sem];repeat((with_reducible refine And.intro ?_ ?_);(focus((repeat' (with_reducible apply And.intro))<;>(first|omega|exact Yr (by omega) (by omega)|exact Yr (by simp;omega) (by omega)|exact Z6 _|(simp;done)|(simp;omega)))))
 rfl
def ZfE:Nd:=⟨Jd,2,U5,0⟩
def atN (l:List Nd) (id:Tg):Nd:=if id=Jd then ZfE else(Dk l id).getD Jd
theorem Zqe:PL.Mk prog 23 [] (λb=> .rptr [.mref b]) (mc []):=by
 refine PL.Mk.of_v func23 (by decide) rfl ntmps23 results23 (by simp) (λb=>rfl) ?_;simp only[go_sem];intro b;exact⟨b,3,[.mref b],rfl,by simp,rfl,by simp[mc,kts,nds],rfl⟩
theorem Zk4 (l:List Nd) (id:Tg):Pp 74 [tr l,tg id] (nd (atN l id)):=by
 unfold atN;by_cases h:id=Jd;rw[if_pos h];subst h;refine ZA func74 rfl ntmps74 results74 (Zg7 _) ?_;simp only[go_sem,tr,tg];refine vDq ?_;simp only[go_sem];refine vc3 G6 ?_;simp only[go_sem,tg];refine vc3 Zjm ?_;simp only[go_sem,Zi];rfl;rw[if_neg h];have hd:decide (id=Jd)=false:=by simpa using h
 refine ZA func74 rfl ntmps74 results74 (Zg7 _) ?_;simp only[go_sem,tr,tg];refine vDq ?_;simp only[go_sem];refine vc3 G6 ?_;simp only[go_sem,tg,ZN,hd];cases hf:l.findIdx? (λn=>decide (id=n.e.id))with
 |none=>
  have:=Tw.1 hf;refine vDq ?_;simp only[go_sem,Yy,hf,this,Option.getD_none];rfl
 |some i=>
  obtain⟨h1,h2⟩:=Tx hf;refine vDq ?_;simp only[go_sem,Yy,hf,h2,Option.getD_some,F6 h1,nd]
open Go.PL
def SF (e:Eg):Bool:=SZ e.id&&((decide (e.par=Jd)||(SZ e.par&& !decide (e.par=e.id)))&&(decide (1<=e.ln.kind)&&(decide (e.ln.kind<=8)&&ZE e.ln)))
theorem DX {t:Tg} (h:SZ t=true):t≠Jd:=λe=>by subst e;exact absurd h (by decide)
theorem Zhm {x:Ln} (h:ZE x=true):1<=x.kind:=by
 unfold ZE at h;split at h;rename_i hk;omega;split at h;omega;split at h;omega;split at h;omega;split at h;omega;split at h;omega;simp only[Jk,decide_eq_true_eq]at h;omega
theorem Zkn (e:Eg) (he:OkLn e.ln):Pp 63 [eg e] (.bool (SF e)):=by
 have hT:=TY e.id;have hU:=TY e.par;have hR:=WJ e.ln he;unfold SF;cases ht:SZ e.id;rw[ht]at hT;refine ZH func63 rfl ntmps63 results63 ?_;simp only[go_sem,eg];refine vc3 hT ?_;simp only[go_sem,Jg];rw[ht]at hT;generalize hdp:decide (e.par=Jd)=dp at *;generalize hde:decide (e.par=e.id)=de at *;generalize SZ e.par=tp at *;generalize ZE e.ln=rl at *;have hdp':(e.par.r==0&&e.par.n==0)=dp:=by rw[<-hdp];exact ZN e.par Jd
 refine ZH func63 rfl ntmps63 results63 ?_;simp only[go_sem,eg];refine vc3 hT ?_;simp only[go_sem];cases dp<;>cases tp<;>cases de
 all_goals
  refine vDq ?_;simp only[go_sem];refine vc3 G6 ?_;simp only[go_sem,tg,ZN,hdp,hde,hdp']
  (try refine vc3 hU ?_)
  (try simp only[go_sem,ZN,hde])
  (try repeat' ((first|(first|apply Zw|apply Zu|apply ZF)<;>intro h|refine vc3 hR ?_|refine vDq ?_)<;>first|simp only[go_sem,h]|simp only[go_sem]|skip))
  (try(all_goals simp_all))
open Go.PL
theorem Uj (t:Tg):Pp 93 [tg t] (.bool (SZ t)):=by
 refine ZH func93 rfl ntmps93 results93 ?_;simp only[go_sem,tg];repeat' ((first|(first|apply Zw|apply Zu|apply ZF)<;>intro h|refine vDq ?_)<;>first|simp only[go_sem,h]|simp only[go_sem]|skip)
 all_goals (simp only[decide_eq_true_eq,decide_eq_false_iff_not]at *;rw[Je];simp[SZ];omega)
theorem Zvb (e:Eg):SF e=(SZ e.id&&((decide (e.par=Jd)||SZ e.par)&&(!decide (e.id=e.par)&&(ZE e.ln&&decide (e.ln.kind<9))))):=by
 unfold SF;rw[Je];simp only[Jk,Jq,decide_eq_true_eq,JV,decide_eq_false_iff_not];constructor;rintro ⟨h1,h2,h3,h4,h5⟩;refine⟨h1,?_,?_,h5,by omega⟩;rcases h2 with h2|h2;exact .inl h2;exact .inr h2.1;rcases h2 with h2|h2;exact λe1=>DX h1 (e1.trans h2)
 exact λe1=>h2.2 e1.symm
 rintro ⟨h1,h2,h3,h4,h5⟩;refine⟨h1,?_,Zhm h4,by omega,h4⟩;rcases h2 with h2|h2;exact .inl h2;exact .inr ⟨h2,λe1=>h3 e1.symm⟩
theorem Zja (e:Eg) (he:OkLn e.ln):Pp 60 [eg e] (.bool (SF e)):=by
 have hT:=Uj e.id;have hU:=Uj e.par;have hR:=V0 e.ln he;rw[Zvb];generalize hdp:decide (e.par=Jd)=dp at *;generalize hde:decide (e.id=e.par)=de at *;generalize SZ e.par=tp at *;generalize SZ e.id=ti at *;generalize ZE e.ln=rl at *;have hdp':(e.par.r==0&&e.par.n==0)=dp:=by rw[<-hdp];exact ZN e.par Jd
 refine ZH func60 rfl ntmps60 results60 ?_;simp only[go_sem,eg,hdp',ZN,hde];repeat' ((first|(first|apply Zw|apply Zu|apply ZF)<;>intro h|refine vc3 hT ?_|refine vc3 hU ?_|refine vc3 hR ?_|refine vDq ?_)<;>first|simp only[go_sem,h,hdp',ZN,hde]|simp only[go_sem,hdp',ZN,hde]|skip)
 all_goals simp_all
theorem Zkq (a b:Eg) (ha:OkLn a.ln) (hb:OkLn b.ln):Pp 64 [eg a,eg b] (.bool (decide (a=b))):=by
 have hE:=Zbs a.ln b.ln ha hb;refine ZH func64 rfl ntmps64 results64 ?_;simp only[go_sem,eg,ZN];repeat' ((first|(first|apply Zw|apply Zu|apply ZF)<;>intro h|refine vc3 hE ?_|refine vDq ?_)<;>first|simp only[go_sem,h,ZN]|simp only[go_sem,ZN]|skip)
 all_goals (clear hE ha hb;cases a;cases b;simp_all)
theorem Zgm (a b:Eg) (ha:OkLn a.ln) (hb:OkLn b.ln):Pp 62 [eg a,eg b] (.bool (decide (a=b))):=by
 have hE:=Zgn a.ln b.ln ha hb;refine ZH func62 rfl ntmps62 results62 ?_;simp only[go_sem,eg,ZN];repeat' ((first|(first|apply Zw|apply Zu|apply ZF)<;>intro h|refine vc3 hE ?_|refine vDq ?_)<;>first|simp only[go_sem,h,ZN]|simp only[go_sem,ZN]|skip)
 all_goals (clear hE ha hb;cases a;cases b;simp_all)
theorem ZfV (e:Eg) (he:OkLn e.ln):Pp 65 [eg e] (eg e):=by
 have hO:=Fx e.ln he;refine ZA func65 rfl ntmps65 results65 (ZgQ _) ?_;simp only[go_sem,eg];refine vDq ?_;simp only[go_sem];refine vc3 hO ?_;simp only[go_sem,lns];rfl
def U4 (p:Pr):Bool:=Wt 200 p.fr'||Wt 200 p.to'
def Gt (l:List Pr):Bool:=decide (20<(l.length:Int))||l.any U4
theorem DF (l:List Pr) (hl:l.length<=maxLen):Pp 59 [prs l] (.bool (Gt l)):=by
 by_cases h20:(20:Int)<(l.length:Int);refine ZH func59 rfl ntmps59 results59 ?_;simp only[go_sem,prs,h20,Gt];have hx:Gt l=l.any U4:=by simp only[Gt,h20,decide_false,J3]
 rw[hx];refine ZH func59 rfl ntmps59 results59 ?_;simp only[go_sem,prs,h20];refine Zt (ι:= { x:Nat // x<=(l).length/\(∀j,j<x->U4 (l.getD j Jd)=false) }) 29 (λx=> [(0,prs l),(3,.int .i64 (x.1:Int))]) (λx=> []) (λx=> []) (λx=>(l).length-x.1) ⟨0,Jb _,λj hj=>absurd hj (Jf j)⟩ ⟨rfl,(Fc2 rfl rfl),fnl,fnl⟩ (λx=>⟨(Fc2 rfl rfl),fnl⟩) (λx=> ?_);obtain⟨k,hk,hI⟩:=x;simp only at hk hI ⊢;by_cases h:(k:Int)<(l.length:Int)
 (have hka:k<(l).length:=by omega);(have w1:=Xb hka (hl));(have i1:=Ja k)
 by_cases g1:(200:Int)<((l.getD k Jd).fr'.length:Int);have hz:=UR (p:=U4) hka (d:=Jd) (by simp only[U4,Wt,Jq,decide_eq_true_eq];omega);simp only[go_sem,prs,h,Yj hka,pr,i1,g1,hz];by_cases g2:(200:Int)<((l.getD k Jd).to'.length:Int);have hz:=UR (p:=U4) hka (d:=Jd) (by simp only[U4,Wt,Jq,decide_eq_true_eq];omega);simp only[go_sem,prs,h,Yj hka,pr,i1,g1,g2,hz]
 ·simp only[go_sem,prs,h,Yj hka,pr,i1,g1,g2,w1];exact⟨⟨k+1,by(try simp only);omega,Zm hI (by simp only[U4,Wt,JA,decide_eq_false_iff_not];omega)⟩,by show(l).length-(k+1)<(l).length-k;omega,⟨rfl,(Fc2 rfl rfl),fnl,fnl⟩⟩
 have hz:=Uo (p:=U4) (d:=Jd) (l:=l) (λj hj=>hI j (by omega));simp only[go_sem,prs,h,hz]
theorem Zve (s:Str):Wt 200 s=decide ((200:Int)<(s.length:Int)):=rfl
def Uh (x:Ln):Bool:=Wt 200 x.at'.gr||(Wt 200 x.at'.nm||(Wt 200 x.nm||(Wt 200 x.ot||(DO x.fd||(Gt x.fo||Gt x.ba)))))
structure LenLn (x:Ln):Prop where
 c:x.fd.cases'.length<=maxLen
 f:x.fo.length<=maxLen
 b:x.ba.length<=maxLen
theorem ZcQ (x:Ln) (hx:LenLn x):Pp 24 [lns x] (.bool (Uh x)):=by
 have hF:=Zed x.fd hx.c;have hP:=DF x.fo hx.f;have hQ:=DF x.ba hx.b;unfold Uh;generalize DO x.fd=a1 at *;generalize Gt x.fo=a2 at *;generalize Gt x.ba=a3 at *;refine ZH func24 rfl ntmps24 results24 ?_;simp only[go_sem,lns];repeat' ((first|(first|apply Zw|apply Zu|apply ZF)<;>intro h|refine vc3 hF ?_|refine vc3 hP ?_|refine vc3 hQ ?_|refine vDq ?_)<;>first|simp only[go_sem,h]|simp only[go_sem]|skip)
 all_goals (clear hF hP hQ hx;simp only[Zve, *,J6,Kd,J3,Bool.or_false])
def Zaa (l:List Eg) (most:Int):Bool:=decide (most<(l.length:Int))||l.any λe=>Uh e.ln
theorem Zec (l:List Eg) (most:Int) (hl:l.length<=maxLen) (hx:∀e∈l,LenLn e.ln):Pp 6 [egs l,.int .i64 most] (.bool (Zaa l most)):=by
 by_cases hm:most<(l.length:Int);refine ZH func6 rfl ntmps6 results6 ?_;simp only[go_sem,egs,hm,Zaa];have hz:Zaa l most=l.any λe=>Uh e.ln:=by simp only[Zaa,hm,decide_false,J3]
 rw[hz];refine ZH func6 rfl ntmps6 results6 ?_;simp only[go_sem,egs,hm];refine Zt (ι:= { x:Nat // x<=(l).length/\(∀j,j<x->Uh (l.getD j Jd).ln=false) }) 22 (λx=> [(0,egs l),(5,.int .i64 (x.1:Int))]) (λx=> []) (λx=> []) (λx=>(l).length-x.1) ⟨0,Jb _,λj hj=>absurd hj (Jf j)⟩ ⟨rfl,(Fc2 rfl rfl),fnl,fnl⟩ (λx=>⟨(Fc2 rfl rfl),fnl⟩) (λx=> ?_);obtain⟨k,hk,hI⟩:=x;simp only at hk hI ⊢;by_cases h:(k:Int)<(l.length:Int)
 (have hka:k<(l).length:=by omega);(have w1:=Xb hka (hl));(have i1:=Ja k)
 have hF:=ZcQ (l.getD k Jd).ln (hx _ (Zs hka));cases hf:Uh (l.getD k Jd).ln
 ·rw[hf]at hF;simp only[go_sem,egs,h,XI hka,eg,i1];refine vc3 hF ?_;simp only[go_sem,w1];exact⟨⟨k+1,by(try simp only);omega,Zm hI hf⟩,by show(l).length-(k+1)<(l).length-k;omega,⟨rfl,(Fc2 rfl rfl),fnl,fnl⟩⟩
 rw[hf]at hF;have hz:=UR (p:=λe:Eg=>Uh e.ln) hka hf;simp only[go_sem,egs,h,XI hka,eg,i1];refine vc3 hF ?_;simp only[go_sem,hz];have hz:=Uo (p:=λe:Eg=>Uh e.ln) (d:=Jd) (l:=l) (λj hj=>hI j (by omega));simp only[go_sem,egs,h,hz]
theorem Zmq {x:Ln} (h:Uh x=false):OkLn x:=by
 simp only[Uh,DO,ZbW,Gt,JA,decide_eq_false_iff_not]at h;obtain⟨_,_,_,_,⟨⟨_,_,_,h1⟩,_⟩,⟨h2,_⟩,h3,_⟩:=h;exact⟨by omega,by omega,by omega⟩
open Go.PL Go.PL.Srt
section
variable {α:Type} [Inhabited α] {pv:α->PV} {g:FuncId} {lt:α->α->Bool} {cv:α->α->Int}
inductive Blk (lt:α->α->Bool) (bs:Nat):List α->List α->Prop
 |last (l:List α) (h:l.length<=bs):Blk lt bs l (srt lt l)
 |more (l l' r':List α) (h:l.length=bs) (t:Blk lt bs l' r'):Blk lt bs (l++l') (srt lt l++r')
theorem Blk.small {bs:Nat} (hb:0<bs) {R C:List α} (h:Blk lt bs R C) (hR:R.length<=bs):C=srt lt R:=by
 cases h with
 |last l h=>rfl
 |more l l' r' h t=>
  simp only[Ji]at hR;have:l'= []:=List.length_eq_zero_iff.1 (by omega);subst this;have hr:r'= []:=by
   generalize hx:([]:List α)=x at t;cases t with
   |last l h=>subst hx;rfl
   |more l2 l3 r3 h t=>
    have:=congrArg Kq hx;simp only[Kg,Ji]at this;omega
  subst hr;simp
theorem Blk.first {bs:Nat} {R C:List α} (h:Blk lt bs R C) (hR:bs<R.length):∃l l' r',R=l++l'/\C=srt lt l++r'/\l.length=bs/\Blk lt bs l' r':=by
 cases h with
 |last l h=>omega
 |more l l' r' h t=>exact⟨l,l',r',rfl,rfl,h,t⟩
theorem Blk.len {bs:Nat} {R C:List α} (h:Blk lt bs R C):C.length=R.length:=by
 induction h with
 |last l h=>exact ZQ l
 |more l l' r' h t ih=>simp[ZQ,ih]
theorem Blk.nil (bs:Nat):Blk lt bs ([]:List α) []:= .last [] (Jb _)
theorem Blk.two {bs:Nat} (hb:0<bs) {R C:List α} (h:Blk lt bs R C) (hR:2*bs<=R.length):∃l1 l2 R2 C2,R=l1++(l2++R2)/\C=srt lt l1++(srt lt l2++C2)/\l1.length=bs/\l2.length=bs/\Blk lt bs R2 C2:=by
 obtain⟨l1,l',r',rfl,rfl,h1,t⟩:=h.first (by omega)
 simp only[Ji]at hR;by_cases h2:bs<l'.length;obtain⟨l2,l3,r3,rfl,rfl,h3,t3⟩:=t.first h2
 exact⟨l1,l2,l3,r3,rfl,rfl,h1,h3,t3⟩;have:=t.small hb (by omega);subst this;exact⟨l1,l',[],[],by simp,by simp,h1,by omega,Blk.nil bs⟩
theorem Zm6 (gd:Srt.Good lt) {l1 l2:List α} (h:Unl lt (l1++l2)):srt lt (srt lt l1++srt lt l2)=srt lt (l1++l2):=
 (ZfP gd h ((YU l1).append (YU l2)).symm).symm
theorem ZdP {A B:List α} (h:Unl lt B) (s:A.Sublist B):Unl lt A:=Ki.sublist s h
theorem DP (K:SortK pv g lt cv) (e:TypeId) (n:Nat) (X L Y:List α) (hU:Unl lt L) (hn:X.length+L.length+Y.length=n) (hm:n<=1000000000000) (l0 r:List PV) (hl0:l0=(X++(L++Y)).map pv) (hr:r=(X++(srt lt L++Y)).map pv) (ia ib:Int) (ha:ia=(X.length:Int)) (hb:ib=((X.length+L.length:Nat):Int)):
  Eff prog 118 [.vsl 1000 n 15,.int .i64 ia,.int .i64 ib,.fn g []] (VY n 15 e l0) (.tup []) (VY n 15 e r):=by
 subst ha hb hl0;exact Zdi K e n X L Y hU hn hm r hr
theorem Zkl (K:SortK pv g lt cv) (e:TypeId) (n:Nat) (hm:n<=1000000000000) (L:List α) (hU:Unl lt L) (hn:L.length=n) (r:List PV) (hr:r=(srt lt L).map pv):
  Eff prog 76 [.vsl 1000 n 15,.int .i64 (n:Int),.fn g []] (VY n 15 e (L.map pv)) (.tup []) (VY n 15 e r):=by
 subst hr;have hcl:∀l:List α,∀p∈l.map pv,p.ids= []:=λl=>YM K.ids l
 refine Eff.vw [] func76 (by decide) rfl ntmps76 results76 (by simp) (hcl _) (hcl _) (by simp[Ju,JF]) (by simp[Ju,JF]) λq=> ?_
 simp only[go_sem];refine Xa (ι:= { s:List α×List α // (∀C,Blk lt 20 s.2 C->Blk lt 20 L (s.1++C))/\s.1.length+s.2.length=n/\s.2.Sublist L }) 63 (λy=> [(0,.vsl 1000 n 15),(1,.int .i64 (n:Int)),(2,.fn g []),(6,.int .i64 20),(7,.int .i64 (y.1.1.length:Int)),(8,.int .i64 ((y.1.1.length+20:Nat):Int))]) (λ_=> []) (λ_=> [(1000,.vec n 15 e)]) (λ_=> []) (λ_=> []) (λy=> [(1000,(y.1.1++y.1.2).map pv)]) (λ_=> []) [] [(1000,q)] [] (λy=>y.1.2.length) ⟨([],L),λC h=>h,by simpa using hn,Km.refl L⟩
  (YC rfl (Fc6 rfl rfl rfl rfl rfl rfl) rfl rfl rfl) (λx=>XG (by simp[Ju,JF,ZG]) (Yk K.ids _)) (λy=> ?_)
 obtain⟨⟨D,R⟩,h1,h2,h3⟩:=y;simp only at h1 h2 h3 ⊢;by_cases hk:20<=R.length;have c1:((D.length+20:Nat):Int)<=(n:Int):=by omega
 have w1:IntKind.i64.wrap (((D.length+20:Nat):Int)+20)=((D.length+20+20:Nat):Int):=by rw[Uf (by omega) (by omega)];omega
 have e1:R.take 20++R.drop 20=R:=List.take_append_drop _ _;have l1:(R.take 20).length=20:=by rw[Jl];omega
 generalize R.take 20=l at e1 l1;generalize R.drop 20=R' at e1;subst e1;simp only[Ji]at h2;simp only[go_sem,c1];refine YY 1000 (DP K e n D l R' (ZdP hU ((J4 _ _).trans h3)) (by omega) hm _ ((D++(srt lt l++R')).map pv) rfl rfl _ _ rfl (by omega)) (by simp[Ju,JF]) (hcl _) (hcl _) rfl rfl rfl ?_;simp only[go_sem,w1];refine⟨⟨(D++srt lt l,R'),λC hC=>by rw[JM];exact h1 _ (.more l R' C l1 hC),by simp[ZQ];omega,(JD _ _).trans h3⟩,by show R'.length<(l++R').length;simp;omega,YC rfl ?_ rfl (by show some _=some _;simp) rfl⟩;show ∀x∈ [(0,Kt 1000 n 15),(1,.int .i64 (n:Int)),(2,.fn g []),(6,.int .i64 20),(7,.int .i64 ((D++srt lt l).length:Int)),(8,.int .i64 (((D++srt lt l).length+20:Nat):Int))],_;rw[show(D++srt lt l).length=D.length+20 by simp[ZQ,l1]];exact(Fc6 rfl rfl rfl rfl rfl rfl);have c1:¬((D.length+20:Nat):Int)<=(n:Int):=by omega
 simp only[go_sem,c1];refine YY 1000 (DP K e n D R [] (ZdP hU h3) (by simpa using h2) hm _ ((D++srt lt R).map pv) (by simp) (by simp) _ _ rfl (by omega)) (by simp[Ju,JF]) (hcl _) (hcl _) rfl rfl rfl ?_;have hB:=h1 _ (.last R (by omega));generalize D++srt lt R=C at hB;clear h1 h2 h3 hk c1;simp only[go_sem];refine Xa (ι:= { s:Nat×List α // Blk lt s.1 L s.2/\0<s.1/\(s.1=20\/s.1<=2*n) }) 63 (λy=> [(0,.vsl 1000 n 15),(1,.int .i64 (n:Int)),(2,.fn g []),(6,.int .i64 (y.1.1:Int))]) (λ_=> []) (λ_=> [(1000,.vec n 15 e)]) (λ_=> []) (λ_=> []) (λy=> [(1000,y.1.2.map pv)]) (λ_=> []) [] [(1000,q)] [] (λy=>n-y.1.1) ⟨(20,C),hB,by show 0<20;omega,.inl rfl⟩
  (YC rfl (Fc4 rfl rfl rfl rfl) rfl rfl rfl) (λx=>XG (by simp[Ju,JF,ZG]) (Yk K.ids _)) (λy=> ?_)
 clear hB C;obtain⟨⟨bs,C⟩,hB,hb0,hb1⟩:=y;simp only at hB hb0 hb1 ⊢;by_cases hk:bs<n;have c1:(bs:Int)<(n:Int):=by omega
 have w1:IntKind.i64.wrap (2*(bs:Int))=((2*bs:Nat):Int):=by rw[Uf (by omega) (by omega)];omega
 have w2:IntKind.i64.wrap ((bs:Int)*2)=((2*bs:Nat):Int):=by rw[Uf (by omega) (by omega)];omega
 simp only[go_sem,c1,w1];refine Xa (ι:= { s:List α×List α×List α // (∀C,Blk lt (2*bs) s.2.1 C->Blk lt (2*bs) L (s.1++C))/\Blk lt bs s.2.1 s.2.2/\s.1.length+s.2.1.length=n/\s.2.1.Sublist L }) 63 (λy=> [(0,.vsl 1000 n 15),(1,.int .i64 (n:Int)),(2,.fn g []),(6,.int .i64 (bs:Int)),(7,.int .i64 (y.1.1.length:Int)),(8,.int .i64 ((y.1.1.length+2*bs:Nat):Int))]) (λ_=> []) (λ_=> [(1000,.vec n 15 e)]) (λ_=> []) (λ_=> []) (λy=> [(1000,(y.1.1++y.1.2.2).map pv)]) (λ_=> []) [] [(1000,q)] [] (λy=>y.1.2.1.length) ⟨([],L,C),λC h=>h,hB,by simpa using hn,Km.refl L⟩
  (YC rfl (by show ∀x∈ [(0,Kt 1000 n 15),(1,.int .i64 (n:Int)),(2,.fn g []),(6,.int .i64 (bs:Int)),(7,.int .i64 0),(8,.int .i64 ((0+2*bs:Nat):Int))],_;rw[Nat.zero_add];exact(Fc6 rfl rfl rfl rfl rfl rfl)) rfl rfl rfl) (λx=>XG (by simp[Ju,JF,ZG]) (Yk K.ids _)) (λy=> ?_)
 obtain⟨⟨D,R,CR⟩,h1,h2,h3,h4⟩:=y;simp only at h1 h2 h3 h4 ⊢;by_cases hk2:2*bs<=R.length;have c2:((D.length+2*bs:Nat):Int)<=(n:Int):=by omega
 have w3:IntKind.i64.wrap ((D.length:Int)+(bs:Int))=((D.length+bs:Nat):Int):=by rw[Uf (by omega) (by omega)];omega
 have w4:IntKind.i64.wrap (((D.length+2*bs:Nat):Int)+((2*bs:Nat):Int))=((D.length+2*bs+2*bs:Nat):Int):=by rw[Uf (by omega) (by omega)];omega
 obtain⟨l1,l2,R2,C2,rfl,rfl,k1,k2,k3⟩:=h2.two hb0 hk2;have k4:=k3.len;simp only[Ji]at h3;have hU2:Unl lt (l1++l2):=ZdP hU ((by rw[<-JM];exact J4 _ _:(l1++l2).Sublist (l1++(l2++R2))).trans h4);obtain⟨u1,u2,u3⟩:=Unl.append.1 hU2;have hU3:Unl lt (srt lt l1++srt lt l2):=Unl.perm hU2 ((YU l1).append (YU l2)).symm;simp only[go_sem,c2,w1,w3];refine YY 1000 (DW K e n hm _ D (srt lt l1) (srt lt l2) C2 (Kr _) (VV K.good u1) (VV K.good u2) hU3 (by rw[ZQ];omega) (by rw[ZQ];omega) (by simp only[ZQ];omega) _ ((D++(srt lt (l1++l2)++C2)).map pv) (by simp) (by rw[Zm6 K.good hU2]) _ _ _ rfl (by simp only[ZQ];omega) (by simp only[ZQ];omega)) (by simp[Ju,JF]) (hcl _) (hcl _) rfl rfl rfl ?_;simp only[go_sem,w1,w4];have hx:(D++srt lt (l1++l2)).length=D.length+2*bs:=by simp[ZQ];omega
 refine⟨⟨(D++srt lt (l1++l2),R2,C2),λC hC=>by rw[JM];exact h1 _ (by rw[<-JM];exact .more (l1++l2) R2 C (by simp;omega) hC),k3,by show(D++srt lt (l1++l2)).length+R2.length=n;rw[hx];omega,((JD _ _).trans (JD _ _)).trans h4⟩,by show R2.length<(l1++(l2++R2)).length;simp;omega,YC rfl ?_ rfl (by show some _=some _;simp) rfl⟩;show ∀x∈ [(0,Kt 1000 n 15),(1,.int .i64 (n:Int)),(2,.fn g []),(6,.int .i64 (bs:Int)),(7,.int .i64 ((D++srt lt (l1++l2)).length:Int)),(8,.int .i64 (((D++srt lt (l1++l2)).length+2*bs:Nat):Int))],_;rw[hx];exact(Fc6 rfl rfl rfl rfl rfl rfl);have c2:¬((D.length+2*bs:Nat):Int)<=(n:Int):=by omega
 have w3:IntKind.i64.wrap ((D.length:Int)+(bs:Int))=((D.length+bs:Nat):Int):=by rw[Uf (by omega) (by omega)];omega
 by_cases hk3:bs<R.length;have c3:((D.length+bs:Nat):Int)<(n:Int):=by omega
 obtain⟨l1,R1,C1,rfl,rfl,k1,k2⟩:=h2.first hk3
 simp only[Ji]at h3 hk2 hk3;have:=k2.small hb0 (by omega);subst this;have hU2:Unl lt (l1++R1):=ZdP hU h4;obtain⟨u1,u2,u3⟩:=Unl.append.1 hU2;have hU3:Unl lt (srt lt l1++srt lt R1):=Unl.perm hU2 ((YU l1).append (YU R1)).symm;simp only[go_sem,c2,w3,c3];refine YY 1000 (DW K e n hm _ D (srt lt l1) (srt lt R1) [] (Kr _) (VV K.good u1) (VV K.good u2) hU3 (by rw[ZQ];omega) (by rw[ZQ];omega) (by simp only[ZQ,Kg];omega) _ ((D++srt lt (l1++R1)).map pv) (by simp) (by rw[Zm6 K.good hU2];simp) _ _ _ rfl (by simp only[ZQ];omega) (by simp only[ZQ];omega)) (by simp[Ju,JF]) (hcl _) (hcl _) rfl rfl rfl ?_;simp only[go_sem,w2];exact⟨⟨(2*bs,D++srt lt (l1++R1)),h1 _ (.last _ (by simp;omega)),by show 0<2*bs;omega,.inr (by show 2*bs<=2*n;omega)⟩,by show n-2*bs<n-bs;omega,YC rfl (Fc4 rfl rfl rfl rfl) rfl rfl rfl⟩;have c3:¬((D.length+bs:Nat):Int)<(n:Int):=by omega
 have:=h2.small hb0 (by omega);subst this;simp only[go_sem,c2,w3,c3,w2];exact⟨⟨(2*bs,D++srt lt R),h1 _ (.last _ (by omega)),by show 0<2*bs;omega,.inr (by show 2*bs<=2*n;omega)⟩,by show n-2*bs<n-bs;omega,YC rfl (Fc4 rfl rfl rfl rfl) rfl rfl rfl⟩;have c1:¬(bs:Int)<(n:Int):=by omega
 have:=hB.small hb0 (by omega);subst this;simp only[go_sem,c1];exact UV (r0:= .tup []) (hcl _) rfl (.clean rfl) rfl rfl rfl
theorem Sv (K:SortK pv g lt cv) (e:TypeId) (n:Nat) (hm:n<=1000000000000) (L:List α) (hU:Unl lt L) (hn:L.length=n) (r:List PV) (hr:r=(srt lt L).map pv):
  Eff prog 31 [.vsl 1000 n 15,.fn g []] (VY n 15 e (L.map pv)) (.tup []) (VY n 15 e r):=by
 subst hr;have hcl:∀l:List α,∀p∈l.map pv,p.ids= []:=λl=>YM K.ids l
 refine Eff.vw [] func31 (by decide) rfl ntmps31 results31 (by simp) (hcl _) (hcl _) (by simp[Ju,JF]) (by simp[Ju,JF]) λq=> ?_
 simp only[go_sem];refine YY 1000 (Zkl K e n hm L hU hn _ rfl) (by simp[Ju,JF]) (hcl _) (hcl _) rfl rfl rfl ?_;simp only[go_sem];exact UV (r0:= .tup []) (hcl _) rfl (.clean rfl) rfl rfl rfl
end
open Go.PL
theorem Zk6 (l:List Rw):Xw (l.map row):=λe he=>by
 obtain⟨t,_,rfl⟩:=JL.1 he;rfl
theorem Zpq (r:Rw):(row r).dids= []:=by simp only[row,Jr,Jj,Gq,Jc]
theorem Zlu (l:List Rw):Jj (l.map row)= []:=by
 induction l with
 |nil=>rfl
 |cons t l ih=>simp only[Jz,Jj,ih,Zpq,Jc]
theorem ZoA (d:Dc):(doc d).dids= []:=by simp only[doc,Jr,Jj,Gq,Zlu,Jc]
def ZkE (i:Nat) (l:List Rw):Nat->PV
 |0=> .sl .nil []
 |k+1=> .sl (.row i) ((l.take (k+1)).map row)
def ZkF (i:Nat):Nat->List (Nat×Row)
 |0=> []
 |k+1=> [(i,.live (k+1) 2 109)]
open Go.PL
theorem Ft (a b:En) (ha:a.l.length<=maxLen) (hb:b.l.length<=maxLen):Pp 123 [ent a,ent b] (.bool (decide (a=b))):=by
 have hE:=Zbq a.l b.l ha hb;refine ZH func123 rfl ntmps123 results123 ?_;simp only[go_sem,ent,Zr,List.append_eq,List.cons_append];repeat' ((first|(first|apply Zw|apply Zu|apply ZF)<;>intro h|refine vc1 hE ?_|refine vDq ?_)<;>first|simp only[go_sem,h,Zr]|simp only[go_sem,Zr]|skip)
 all_goals (clear hE ha hb;(cases a;cases b;simp_all)<;>rfl)
open Go.PL
theorem ZcL (l:List Str) (hl:l.length<=1000000):Pp 173 [Yq l] (Yq l):=by
 cases l with
 |nil=>
  refine ZA func173 rfl ntmps173 results173 (UG _) ?_;simp only[go_sem,Yq];intro b;cases b;simp only[go_sem,Yq];exact Yr (by omega) (by omega);simp only[go_sem,Yq]
 |cons x l=>
  have hr:=Yr (show(x::l).length<=100000000000 by omega) (show 16<=1000 by omega);have hs:=Z6 (x::l);have ha:=Xl (x::l);simp only[Jz]at hs ha;refine ZA func173 rfl ntmps173 results173 (UG _) ?_;simp only[go_sem,Yq,hs,ha];exact hr
theorem Ui (e:En) (he:e.l.length<=1000000):Pp 124 [ent e] (ent e):=by
 have hC:=ZcL e.l he;refine ZA func124 rfl ntmps124 results124 (Xe _) ?_;simp only[go_sem,ent];refine vc1 hC ?_;simp only[go_sem,ent,Yq]
open Go.PL
theorem ZcU (f:Fd):Pp 140 [fld f] (ent (YK f)):=by
 by_cases h1:f.kind=1;have k1:(f.kind==1)=true:=by rw[h1];rfl
 refine ZA func140 rfl ntmps140 results140 (Xe _) ?_;simp only[go_sem,fld,k1,YK,ent,h1,if_true];have k1:(f.kind==1)=false:=beq_eq_false_iff_ne.2 h1;by_cases h4:f.kind=4;have k4:(f.kind==4)=true:=by rw[h4];rfl
 refine ZA func140 rfl ntmps140 results140 (Xe _) ?_;simp only[go_sem,fld,k1,k4,YK,ent,h4,if_true];have k4:(f.kind==4)=false:=beq_eq_false_iff_ne.2 h4;refine ZA func140 rfl ntmps140 results140 (Xe _) ?_;simp only[go_sem,fld,k1,k4,YK,ent,h1,h4,or_self,if_false]
open Go.PL
end Go.Proofs.YtadgngamdofhiaaGreat
namespace Go.PL
open Go.RowKit
theorem Rep.cells_at {S:Stable} {v:Value} {es:List PV} {sz:Nat} (r:Rep S v (.sl .no es)) (hz:∀i,i<es.length->(es.getD i .any).cells.length=sz):
  ∃(A:Option Addr) (cap:Nat) (vs:Nat->Nat->Value),v= .slice A es.length cap/\(0<es.length-> ∃b o,A=some ⟨b,o,none⟩/\
   ∀i j,i<es.length->j<sz->S b (o+i*sz+j)=some (vs i j))/\(∀i j,i<es.length->j<sz->Rep S (vs i j) ((es.getD i .any).cells.getD j .any)):=by
 generalize hes:es=es' at r;cases r with
 |sl0 a cap=>subst hes;exact⟨a,cap,λ_ _=>undef,rfl,λh=>absurd h (by simp),λi j hi=>absurd hi (by simp)⟩
 |sl b o cap sz' es vals hsz hcap hS hR=>
  subst hes;refine⟨_,cap,vals,rfl,λh=>⟨b,o,rfl,λi j hi hj=> ?_⟩,λi j hi hj=> ?_⟩
  ·have:=(hsz i hi).symm.trans (hz i hi);subst this;exact hS i j hi hj
  ·have:=(hsz i hi).symm.trans (hz i hi);subst this;exact hR i j hi hj
theorem Gr {n k:Nat} (h:k<n):(Kj n).take (k+1)=(Kj n).take k++ [⟨k,h⟩]:=by
 rw[List.take_succ_eq_append_getElem (by simpa using h)];simp
section
variable {P:Program} {n:Nat} {ops:Array Oper} {rest:List Oper} {Q:Exit->Act->World->Prop} {a:Act} {w:World}
theorem ZhQ {dst:Option Nat} {t ty:TypeId} {x:Operand} {pos:String} {after:Array Edge} {A:Addr} {v:Value} (hx:a.eval x= .pointer (some A)) (hl:(loadVar t A).run P w= .ok v w) (h:wpListIn Fence.wide n P ops Q rest (a.put dst v) w):
  wpListIn Fence.wide n P ops Q (⟨dst,.load t x,ty,pos,after,none⟩::rest) a w:=by
 refine wpListIn_plain rfl λK hK'=> ?_
 unfold Oper.wpIn;refine⟨λ_ _=>trivial,?_⟩;rw[Oper.semAt_plain Fence.wide _ _ (by intro c hc';cases hc')];simp[execOp,Instr.loadAt,Instr.sureAddr,hx,hl,Result.andThen,Kn];exact hK' _ _ h
theorem ZmN {t:TypeId} {d:TypeDesc} (hu:P.underlying t=some d) {b o sz:Nat} {vals:Nat->Value} (hg:Yo P t=true) (hz:tsz P t=sz) (hc:∀j,j<sz->w.cell? ⟨b,o+j,none⟩=some (vals j)):
  (loadVar t ⟨b,o,none⟩).run P w= .ok (.agg ⟨(Js sz).map vals⟩) w:=by
 subst hz;obtain⟨i,hi⟩:=Xz hu;have hl:=run_loadCells (P:=P) (w:=w) (⟨b,o,none⟩:Addr) (tsz P t) vals (λj hj=>by rw[YL];exact hc _ hj);unfold loadVar;simp only[Kn,VS hu,Result.andThen_ok,hg,if_true,Yu hi,hl,Sem.run_pure]
end
end Go.PL
namespace Go.Proofs.YtadgngamdofhiaaGreat
open Go.PL Go.RowKit
open Go.PL
def Zp8 (l:List Tg) (t:Tg):Int:=idx (λx=>decide (x=t)) l
theorem FC (l:List Tg) (t:Tg) (hl:l.length<=maxLen):Pp 138 [tgs l,tg t] (.int .i64 (Zp8 l t)):=Zbw l t hl
theorem ZqQ {l:List Tg} {t:Tg} (h:t∉l):Zp8 l t= -1:=by
 unfold Zp8;apply WY (d:=Jd);intro j hj;rw[decide_eq_false_iff_not];intro e;exact h (e▸Ze hj)
theorem ZoN {l:List Tg} {t:Tg} (h:t∈l):0<=Zp8 l t:=by
 unfold Zp8 idx;cases hf:l.findIdx? λx=>decide (x=t)with
 |none=>rw[JB]at hf;have:=hf t h;simp at this
 |some i=>simp
open Go.PL
open Go.PL
open Go.ChangeShapes Go.WideShapes Go.ChangeAt Go.RowKit
theorem own:ownKnob prog.godebug=Option.none:=by kernel_rfl
theorem laidOut:laidOutB prog=true:=by kernel_rfl
theorem lays:Zb7 prog=true:=by kernel_rfl
theorem Zq5:Zds prog 63=false:=by kernel_rfl
theorem ZsP:Zds prog 74=false:=by kernel_rfl
theorem ZsN:Zds prog 22=false:=by kernel_rfl
structure LenLn' (x:Ln):Prop where
 c:x.fd.cases'.length<=maxLen
 f:x.fo.length<=maxLen
 b:x.ba.length<=maxLen
theorem Zrf {cs:List PV} (h:PT prog 63 cs):∃l:List Str,cs= [.sl .no (l.map .str)]/\l.length<=maxLen:=by
 obtain⟨l,rfl,h1,h2⟩:=h.slice_inv Zq5 underlying63;obtain⟨xs,rfl,_⟩:=T0 (enc:=PV.str) (Q:=λ_=>True) (λp hp=>by
  obtain⟨s,rfl,_⟩:=(h2 p hp).string underlying9;exact⟨s,rfl,trivial⟩)
 exact⟨xs,rfl,by simpa using h1⟩
theorem Zft {cs:List PV} (h:PT prog 25 cs):∃r:Tg,cs= [.int .i64 r.r,.int .i64 r.n]:=by
 have h1:PTs prog [3,3] cs:=h.struct_inv underlying25;obtain⟨a,b,rfl,h2,h3⟩:=h1.cons_inv;obtain⟨c,d,rfl,h4,h5⟩:=h3.cons_inv;obtain⟨x,rfl,_⟩:=h2.int_inv underlying3;obtain⟨y,rfl,_⟩:=h4.int_inv underlying3;rw[h5.nil_inv];exact⟨⟨x,y⟩,rfl⟩
theorem ZmC {cs:List PV} (h:PT prog 27 cs):∃r:Rf,cs= [.int .i64 r.sc,.str r.gr,.str r.nm]:=by
 have h1:PTs prog [3,9,9] cs:=h.struct_inv underlying27;obtain⟨a,b,rfl,h2,h3⟩:=h1.cons_inv;obtain⟨c,d,rfl,h4,h5⟩:=h3.cons_inv;obtain⟨e,f,rfl,h6,h7⟩:=h5.cons_inv;obtain⟨x,rfl,_⟩:=h2.int_inv underlying3;obtain⟨y,rfl,_⟩:=h4.string_inv underlying9;obtain⟨z,rfl,_⟩:=h6.string_inv underlying9;rw[h7.nil_inv];exact⟨⟨x,y,z⟩,rfl⟩
theorem ZsY {cs:List PV} (h:PT prog 73 cs):∃f:Fd,cs= [.int .i64 f.at'.sc,.str f.at'.gr,.str f.at'.nm,.int .i64 f.kind,.str f.df,.sl .no (f.cases'.map .str),.int .i64 f.worth]/\f.cases'.length<=maxLen:=by
 have h1:PTs prog [27,3,9,63,2] cs:=h.struct_inv underlying73;obtain⟨a1,b1,rfl,h2,h3⟩:=h1.cons_inv;obtain⟨a2,b2,rfl,h4,h5⟩:=h3.cons_inv;obtain⟨a3,b3,rfl,h6,h7⟩:=h5.cons_inv;obtain⟨a4,b4,rfl,h8,h9⟩:=h7.cons_inv;obtain⟨a5,b5,rfl,h10,h11⟩:=h9.cons_inv;obtain⟨r,rfl⟩:=ZmC h2;obtain⟨x,rfl,_⟩:=h4.int_inv underlying3;obtain⟨y,rfl,_⟩:=h6.string_inv underlying9;obtain⟨l,rfl,hl⟩:=Zrf h8;obtain⟨z,rfl,_⟩:=h10.int_inv underlying2;rw[h11.nil_inv];exact⟨⟨r,x,y,l,z⟩,rfl,hl⟩
theorem Zrb {p:PV} (h:PA prog 162 p):∃e:Pr,p=pr e:=by
 obtain⟨cs,rfl,h1⟩:=PA.agg ZpC h;have h1:PTs prog [9,9] cs:=h1.struct_inv underlying162;obtain⟨a,b,rfl,h2,h3⟩:=h1.cons_inv;obtain⟨c,d,rfl,h4,h5⟩:=h3.cons_inv;obtain⟨x,rfl,_⟩:=h2.string_inv underlying9;obtain⟨y,rfl,_⟩:=h4.string_inv underlying9;rw[h5.nil_inv];exact⟨⟨x,y⟩,rfl⟩
theorem Zqj {cs:List PV} (h:PT prog 74 cs):∃l:List Pr,cs= [.sl .no (l.map pr)]/\l.length<=maxLen:=by
 obtain⟨l,rfl,h1,h2⟩:=h.slice_inv ZsP underlying74;obtain⟨xs,rfl,_⟩:=T0 (enc:=pr) (Q:=λ_=>True) (λp hp=>by
  obtain⟨s,rfl⟩:=Zrb (h2 p hp);exact⟨s,rfl,trivial⟩)
 exact⟨xs,rfl,by simpa using h1⟩
def Zo2 (x:Ln):List PV:= [.int .i64 x.kind,.int .i64 x.at'.sc,.str x.at'.gr,.str x.at'.nm,.str x.nm,.str x.ot,.int .i64 x.fac,.int .i64 x.fd.at'.sc,.str x.fd.at'.gr,.str x.fd.at'.nm,.int .i64 x.fd.kind,.str x.fd.df,.sl .no (x.fd.cases'.map .str),.int .i64 x.fd.worth,.sl .no (x.fo.map pr),.sl .no (x.ba.map pr)]
theorem Zre {cs:List PV} (h:PT prog 76 cs):∃x:Ln,cs=Zo2 x/\LenLn' x:=by
 have h1:PTs prog [3,27,9,9,2,73,74,74] cs:=h.struct_inv underlying76;obtain⟨a1,b1,rfl,h2,h3⟩:=h1.cons_inv;obtain⟨a2,b2,rfl,h4,h5⟩:=h3.cons_inv;obtain⟨a3,b3,rfl,h6,h7⟩:=h5.cons_inv;obtain⟨a4,b4,rfl,h8,h9⟩:=h7.cons_inv;obtain⟨a5,b5,rfl,h10,h11⟩:=h9.cons_inv;obtain⟨a6,b6,rfl,h12,h13⟩:=h11.cons_inv;obtain⟨a7,b7,rfl,h14,h15⟩:=h13.cons_inv;obtain⟨a8,b8,rfl,h16,h17⟩:=h15.cons_inv;obtain⟨x1,rfl,_⟩:=h2.int_inv underlying3;obtain⟨x2,rfl⟩:=ZmC h4;obtain⟨x3,rfl,_⟩:=h6.string_inv underlying9;obtain⟨x4,rfl,_⟩:=h8.string_inv underlying9;obtain⟨x5,rfl,_⟩:=h10.int_inv underlying2;obtain⟨x6,rfl,k6⟩:=ZsY h12;obtain⟨x7,rfl,k7⟩:=Zqj h14;obtain⟨x8,rfl,k8⟩:=Zqj h16;rw[h17.nil_inv];exact⟨⟨x1,x2,x3,x4,x5,x6,x7,x8⟩,rfl,⟨k6,k7,k8⟩⟩
theorem Zra {p:PV} (h:PA prog 78 p):∃e:Eg,p=eg e/\LenLn' e.ln:=by
 obtain⟨cs,rfl,h1⟩:=PA.agg Zrr h;have h1:PTs prog [25,25,76] cs:=h1.struct_inv underlying78;obtain⟨a1,b1,rfl,h2,h3⟩:=h1.cons_inv;obtain⟨a2,b2,rfl,h4,h5⟩:=h3.cons_inv;obtain⟨a3,b3,rfl,h6,h7⟩:=h5.cons_inv;obtain⟨x1,rfl⟩:=Zft h2;obtain⟨x2,rfl⟩:=Zft h4;obtain⟨x3,rfl,k3⟩:=Zre h6;rw[h7.nil_inv];exact⟨⟨x1,x2,x3⟩,rfl,k3⟩
theorem pa_edges {p:PV} (h:PA prog 22 p):∃l:List Eg,p=egs l/\l.length<=maxLen/\ ∀e∈l,LenLn' e.ln:=by
 obtain⟨l,rfl,h1,h2⟩:=h.slice ZsN underlying22;obtain⟨xs,rfl,h3⟩:=T0 (λp hp=>Zra (h2 p hp));exact⟨xs,rfl,by simpa using h1,h3⟩
theorem pa_tag {p:PV} (h:PA prog 25 p):∃t:Tg,p=tg t:=by
 obtain⟨cs,rfl,h1⟩:=PA.agg Zro h;obtain⟨r,rfl⟩:=Zft h1;exact⟨r,rfl⟩
end Go.Proofs.YtadgngamdofhiaaGreat
