/- Lemmas of the proof. -/
import Derived.Test.YtepchngegclagaaGreatPlH
import Derived.Test.YtepchngegclagaaGreatXAa
import Derived.Laws.LoneSync
import Derived.Shelf.SlSortCmp.WholeK
import Derived.Shelf.SlSortCmp.NoneTotal
import Derived.Test.YtepchngegclagaaGreatRows
import Derived.ProofKit
open Inhabited renaming default→Jd
open Option renaming some→Hs
open Bool renaming true→Ht,false→Hf
open Go.Proofs.Tryz
open Go Go.PL
open _root_.Array renaming getElem?_eq_some_iff→Ki,getElem?_modify→KI,getElem?_push→KM
open Bool renaming eq_iff_iff→Je,false_and→Jg,and_eq_true→Jk,true_and→Jn,true_eq_false→Jp,and_self→Jw,and_false→JA,false_eq_true→JE,or_eq_true→JH,not_false→JO,not_eq_true'→JY,or_eq_false_iff→JZ,true_or→Kf,false_or→Kt,not_true→Ku,or_true→KD,or_self→KP
open Decidable renaming byContradiction→Kk
open Int renaming natCast_nonneg→Ja,reduceEq→JM,toNat_natCast→JW,lt_trichotomy→Km,compare_eq_lt→Kn,compare_eq_eq→Ko,compare_eq_gt→Kq
open List renaming append_nil→Jc,map_cons→Jh,pairwise_iff_getElem→Ji,length_append→Jj,getD_eq_getElem?_getD→Jl,getElem_of_mem→Jo,getD_cons_zero→Jq,mem_map→Jr,findIdx?_eq_some_iff_getElem→Js,getElem_mem→Jt,mem_cons→Ju,getElem_map→Jv,getElem?_eq_getElem→Jy,findIdx?_eq_none_iff→JB,mem_of_find?_eq_some→JC,length_take→JD,mem_singleton→JF,pairwise_cons→JG,mem_append→JI,map_nil→JL,take_length→JN,find?_eq_none→JP,nodup_iff_pairwise_ne→JQ,nodup_cons→JR,range→JS,find?_eq_some_iff_getElem→JT,length_cons→JU,length_map→JV,drop_length→J2,sublist_append_right→J4,length_eraseIdx_le→J7,append_assoc→J9,takeWhile_append_dropWhile→Ka,mem_append_right→Kb,cons_append→Kd,eq_nil_of_length_eq_zero→Ke,mem_range→Kg,eraseIdx_of_length_le→Kh,drop_eq_getElem_cons→Kj,nodup_append→Ks,sublist_append_left→Kv,all_eq_true→Kw,any_eq_true→Kx,not_mem_nil→Ky,pairwise_singleton→Kz,ext_getElem→KB,length_eq_zero_iff→KC,map_append→KF,length_nil→KG,length→KJ,mem_append_left→KK,Pairwise→KN,filter_append→KO,any_eq_false→KT,find?_append→KU,filter_cons→KW,filter_nil→KZ,find?_some→K0,append_eq→K1,find?_map→K2,map_map→K3,Sublist→K4
open Nat renaming zero_le→Jb,not_lt_zero→Jf,lt_trichotomy→JX,sub_zero→J8,le_trans→KE,le_refl→KY,zero_add→K5,mul_comm→K6,sub_sub→K7
open Op renaming bytesLess→JK,negFloat→Kr
open Option renaming getD_some→J3,map_some→J6,bind_some→Kc,bind_eq_some_iff→KA,some→KX
open PV renaming didsL→Jm,dids→Jz,ids→JJ,idsL→J5,givableL→Kl,nomapL→KL,giveL→KQ,vsl→K8
namespace Go.Proofs.YtepchngegclagaaGreat
set_option maxHeartbeats 64000000
set_option maxRecDepth 20000
set_option linter.unusedVariables false
set_option linter.unusedSectionVars false
set_option linter.unusedSimpArgs false
open Go.PL
theorem ZeX (l:List Str):(Y3 l).dids= []:=by simp only[Y3,Jz,UA]
open Go.PL
theorem Yl {p:Nat->Bool} {n k:Nat} (hk:k<n) (h:p k=Hf):(JS n).all p=false:=by
 rw[List.all_eq_false];exact⟨k,by simpa using hk,by simp[h]⟩
theorem UJ {p:Nat->Bool} {n:Nat} (h:∀j,j<n->p j=Ht):(JS n).all p=true:=by
 rw[Kw];intro j hj;exact h j (Kg.1 hj)
open Go.PL
def Vh (l:List Fd) (i:Nat):Bool:=Yc (l.getD i Jd)&&(decide (i=0)||WN (l.getD (i-1) Jd).at' (l.getD i Jd).at')
def Z7 (l:List Fd):Bool:= !decide (16<(l.length:Int))&&(JS l.length).all (Vh l)
theorem TA (l:List Fd) (hl:l.length<=maxLen) (hl':∀f∈l,f.cases'.length<=maxLen):Pp 184 [Zh l] (.bool (Z7 l)):=by
 by_cases h16:16<(l.length:Int);refine ZM func184 rfl ntmps184 results184 ?_;simp only[go_sem,Zh,h16,Z7,Jg];have hx:Z7 l=(JS l.length).all (Vh l):=by simp only[Z7,h16,decide_false,JO,Jn]
 rw[hx];refine ZM func184 rfl ntmps184 results184 ?_;simp only[go_sem,Zh,h16];refine ZA (ι:= { k:Nat // k<=l.length/\ ∀j,j<k->Vh l j=Ht }) 38 (λx=> [(0,Zh l),(3,.int .i64 (x.1:Int))]) (λx=> []) (λx=> []) (λx=>l.length-x.1) ⟨0,by omega,λj hj=>by omega⟩
  ⟨rfl,(Fc2 rfl rfl),fnl,fnl⟩ (λx=>⟨(Fc2 rfl rfl),fnl⟩) (λx=> ?_)
 obtain⟨k,hk,hall⟩:=x;simp only;by_cases h:(k:Int)<(l.length:Int);have hka:k<l.length:=by omega
 have w1:=WD hka hl;have i1:=Ja k
 have hR:=UV (l.getD k Jd) (hl' _ (ZF hka));cases hr:Yc (l.getD k Jd);rw[hr]at hR;have hz:=Yl (p:=Vh l) hka (by simp only[Vh,hr,Jg]);simp only[go_sem,Zh,h];refine vDq ?_;simp only[go_sem,Zx hka,fld,h,i1];refine vc2 hR ?_;simp only[go_sem,hz];rw[hr]at hR;by_cases h0:0<(k:Int);have hk1:k-1<l.length:=by omega
 have w2:IntKind.i64.wrap ((k:Int)-1)=((k-1:Nat):Int):=by
  rw[Zc]at hl;rw[w64 (by omega)];omega
 have j1:(0:Int)<=((k-1:Nat):Int):=by omega
 have j2:((k-1:Nat):Int)<(l.length:Int):=by omega
 have hL:=Zbm (l.getD (k-1) Jd).at' (l.getD k Jd).at';cases hb:WN (l.getD (k-1) Jd).at' (l.getD k Jd).at';rw[hb]at hL;have hz:=Yl (p:=Vh l) hka (by simp only[Vh,hb,decide_eq_false (show ¬k=0 by omega),KP,JA]);simp only[go_sem,Zh,h];refine vDq ?_;simp only[go_sem,Zx hka,fld,h,i1];refine vc2 hR ?_;simp only[go_sem,h0,w2,Zx hk1,Zx hka,fld,h,i1,j1,j2];refine vc1 hL ?_;simp only[go_sem,hz];rw[hb]at hL;have ok:Vh l k=true:=by simp only[Vh,hr,hb,KD,Jw]
 simp only[go_sem,Zh,h];refine vDq ?_;simp only[go_sem,Zx hka,fld,h,i1];refine vc2 hR ?_;simp only[go_sem,h0,w2,Zx hk1,Zx hka,fld,h,i1,j1,j2];refine vc1 hL ?_;simp only[go_sem,w1];exact⟨⟨k+1,by omega,Zu hall ok⟩,nx9 (by omega),⟨rfl,(Fc2 rfl rfl),fnl,fnl⟩⟩;have ok:Vh l k=true:=by simp only[Vh,hr,decide_eq_true (show k=0 by omega),Kf,Jw]
 simp only[go_sem,Zh,h];refine vDq ?_;simp only[go_sem,Zx hka,fld,h,i1];refine vc2 hR ?_;simp only[go_sem,h0,w1];exact⟨⟨k+1,by omega,Zu hall ok⟩,nx9 (by omega),⟨rfl,(Fc2 rfl rfl),fnl,fnl⟩⟩;have hz:=UJ (p:=Vh l) (n:=l.length) (λj hj=>hall j (by omega));simp only[go_sem,Zh,h,hz]
def DV (l:List Fd) (sc:Int):List Fd:=l.filter λf=>f.at'.sc==sc
open Go.PL
def ZbH (f:Fd):Bool:=Ws 200 f.at'.gr||(Ws 200 f.at'.nm||(Ws 200 f.df||decide (20<(f.cases'.length:Int))))
def DN (f:Fd):Bool:=ZbH f||f.cases'.any (Ws 200)
theorem ZdH (f:Fd) (hl:f.cases'.length<=maxLen):Pp 74 [fld f] (.bool (DN f)):=by
 have top:∀b,ZbH f=b->(∀(_:b=Ht),DN f=Ht):=λb hb h=>by simp only[DN,hb,h,Kf]
 cases ht:ZbH f;have hx:DN f=f.cases'.any (Ws 200):=by simp only[DN,ht,Kt]
 rw[hx];simp only[ZbH,Ws,JZ,decide_eq_false_iff_not]at ht;obtain⟨t1,t2,t3,t4⟩:=ht;have t1:¬(200:Int)<(f.at'.gr.length:Int):=by omega
 have t2:¬(200:Int)<(f.at'.nm.length:Int):=by omega
 have t3:¬(200:Int)<(f.df.length:Int):=by omega
 refine ZM func74 rfl ntmps74 results74 ?_;simp only[go_sem,fld,t1,t2,t3,t4];refine ZA (ι:= { k:Nat // k<=f.cases'.length/\ ∀j,j<k->Ws 200 (f.cases'.getD j [])=Hf }) 42 (λx=> [(1,.ptr 1 0),(3,.int .i64 (x.1:Int))]) (λx=> [(1,[.int .i64 f.at'.sc,.str f.at'.gr,.str f.at'.nm,.int .i64 f.kind,.str f.df,.sl .no (f.cases'.map .str),.int .i64 f.worth],Hf)]) (λx=> []) (λx=>f.cases'.length-x.1) ⟨0,by omega,λj hj=>by omega⟩
  ⟨rfl,(Fc2 rfl rfl),fcs ⟨rfl,rfl⟩ fnl,fnl⟩ (λx=>⟨(Fc2 rfl rfl),(fcs rfl fnl)⟩) (λx=> ?_)
 obtain⟨k,hk,hall⟩:=x;simp only;by_cases h:(k:Int)<(f.cases'.length:Int);have hka:k<f.cases'.length:=by omega
 have w1:=WD hka hl;have i1:=Ja k
 by_cases g:(200:Int)<((f.cases'.getD k []).length:Int);have hz:=UY (p:=Ws 200) hka (d:= []) (by simp only[Ws,decide_eq_true_eq];omega);simp only[go_sem,h,Yo hka,i1,g,hz];simp only[go_sem,h,Yo hka,i1,g,w1];exact⟨⟨k+1,by omega,Zu hall (by simp only[Ws,decide_eq_false_iff_not];omega)⟩,nx9 (by omega),⟨rfl,(Fc2 rfl rfl),fcs ⟨rfl,rfl⟩ fnl,fnl⟩⟩;have hz:=Ux (p:=Ws 200) (d:= []) (l:=f.cases') (λj hj=>hall j (by omega));simp only[go_sem,h,hz];have hx:=top _ ht rfl;rw[hx];simp only[ZbH,Ws,JH,decide_eq_true_eq]at ht;by_cases t1:(200:Int)<(f.at'.gr.length:Int);refine ZM func74 rfl ntmps74 results74 ?_;simp only[go_sem,fld,t1];by_cases t2:(200:Int)<(f.at'.nm.length:Int);refine ZM func74 rfl ntmps74 results74 ?_;simp only[go_sem,fld,t1,t2];by_cases t3:(200:Int)<(f.df.length:Int);refine ZM func74 rfl ntmps74 results74 ?_;simp only[go_sem,fld,t1,t2,t3];have t4:(20:Int)<(f.cases'.length:Int):=by omega
 refine ZM func74 rfl ntmps74 results74 ?_;simp only[go_sem,fld,t1,t2,t3,t4]
open Go.PL
structure Pr where
 fr':Str
 to':Str
 deriving DecidableEq,Inhabited
structure Ln where
 kind:Int
 at':Rf
 nm:Str
 ot:Str
 fac:Int
 fd:Fd
 fo:List Pr
 ba:List Pr
 deriving DecidableEq,Inhabited
structure Tg where
 r:Int
 n:Int
 deriving DecidableEq,Inhabited
structure Eg where
 id:Tg
 par:Tg
 ln:Ln
 deriving DecidableEq,Inhabited
structure Lg where
 id:Tg
 down:Bool
 deriving DecidableEq,Inhabited
def pr (p:Pr):PV:= .agg [.str p.fr',.str p.to']
def prs (l:List Pr):PV:= .sl .no (l.map pr)
def refs (l:List Rf):PV:= .sl .no (l.map ref)
def lns (x:Ln):PV:= .agg [.int .i64 x.kind,.int .i64 x.at'.sc,.str x.at'.gr,.str x.at'.nm,.str x.nm,.str x.ot,.int .i64 x.fac,.int .i64 x.fd.at'.sc,.str x.fd.at'.gr,.str x.fd.at'.nm,.int .i64 x.fd.kind,.str x.fd.df,.sl .no (x.fd.cases'.map .str),.int .i64 x.fd.worth,.sl .no (x.fo.map pr),.sl .no (x.ba.map pr)]
def tg (t:Tg):PV:= .agg [.int .i64 t.r,.int .i64 t.n]
def tgs (l:List Tg):PV:= .sl .no (l.map tg)
def lg (t:Lg):PV:= .agg [.int .i64 t.id.r,.int .i64 t.id.n,.bool t.down]
def lgs (l:List Lg):PV:= .sl .no (l.map lg)
def eg (e:Eg):PV:= .agg [.int .i64 e.id.r,.int .i64 e.id.n,.int .i64 e.par.r,.int .i64 e.par.n,.int .i64 e.ln.kind,.int .i64 e.ln.at'.sc,.str e.ln.at'.gr,.str e.ln.at'.nm,.str e.ln.nm,.str e.ln.ot,.int .i64 e.ln.fac,.int .i64 e.ln.fd.at'.sc,.str e.ln.fd.at'.gr,.str e.ln.fd.at'.nm,.int .i64 e.ln.fd.kind,.str e.ln.fd.df,.sl .no (e.ln.fd.cases'.map .str),.int .i64 e.ln.fd.worth,.sl .no (e.ln.fo.map pr),.sl .no (e.ln.ba.map pr)]
def egs (l:List Eg):PV:= .sl .no (l.map eg)
theorem vc3 {x:Bool} {M:KH} {g:FuncId} {args args':List PV} {K:KR} {r:PV} (h1:Pp g args' r) (h2:K.k r M.m) (h0:Kl M.m args:=by first|(simp only[go_sem,ref,ent,DK,doc,Y3,row,Zh,fld,lns,tg,refs,prs,pr,eg,egs,tgs,lg,lgs];done)|exact rfl) (he:KQ M.m args=args':=by first|(simp only[go_sem,ref,ent,DK,doc,Y3,row,Zh,fld,lns,tg,refs,prs,pr,eg,egs,tgs,lg,lgs];done)|exact rfl):@WX prog x M (Hs (g,args)) K:=Zl h1 h0 he h2
theorem Vr {α:Type} {enc:α->PV} {l:List α} {i:Nat} {d:α} (h:i<l.length):(l.map enc).getD i .any=enc (l.getD i d):=by
 simp[Jl,h]
theorem Yf {l:List Pr} {i:Nat} (h:i<l.length):(l.map pr).getD i .any=pr (l.getD i Jd):=Vr h
theorem Z9 {l:List Rf} {i:Nat} (h:i<l.length):(l.map ref).getD i .any=ref (l.getD i Jd):=Vr h
theorem ZO {l:List Tg} {i:Nat} (h:i<l.length):(l.map tg).getD i .any=tg (l.getD i Jd):=Vr h
theorem Zj4 {l:List Lg} {i:Nat} (h:i<l.length):(l.map lg).getD i .any=lg (l.getD i Jd):=Vr h
theorem XK {l:List Eg} {i:Nat} (h:i<l.length):(l.map eg).getD i .any=eg (l.getD i Jd):=Vr h
theorem Zc4 (a b:Pr):(a.fr'==b.fr'&&a.to'==b.to')=decide (a=b):=by
 cases a;cases b;rw[Je];simp
theorem ZL (a b:Tg):(a.r==b.r&&a.n==b.n)=decide (a=b):=by
 cases a;cases b;rw[Je];simp
theorem ZhL (a b:List Str) (ha:a.length<=maxLen) (hb:b.length<=maxLen):Pp 222 [Y3 a,Y3 b] (.bool (decide (a=b))):=by
 by_cases hl:a.length=b.length;have hl':((a.length:Int) !=(b.length:Int))=false:=by rw[hl];exact bne_self_eq_false _
 refine ZM func222 rfl ntmps222 results222 ?_;simp only[go_sem,Y3,hl'];refine ZA (ι:= { x:Nat // x<=(a).length/\(∀j,j<x->a.getD j []=b.getD j []) }) 26 (λx=> [(0,Y3 a),(1,Y3 b),(12,.int .i64 (a.length:Int)),(13,.int .i64 (x.1:Int))]) (λx=> []) (λx=> []) (λx=>(a).length-x.1) ⟨0,Jb _,λj hj=>absurd hj (Jf j)⟩ ⟨rfl,(Fc4 rfl rfl rfl rfl),fnl,fnl⟩ (λx=>⟨(Fc4 rfl rfl rfl rfl),fnl⟩) (λx=> ?_);obtain⟨k,hk,hI⟩:=x;simp only at hk hI ⊢;by_cases h:(k:Int)<(a.length:Int)
 (have hka:k<(a).length:=by omega);(have w1:=WD hka (ha));(have i1:=Ja k)
 have hkb:k<b.length:=by omega
 have i2:(k:Int)<(b.length:Int):=by omega
 by_cases he:a.getD k []=b.getD k []
 ·have he':(a.getD k []==b.getD k [])=true:=beq_iff_eq.2 he;simp only[go_sem,Y3,h];refine vDq ?_;simp only[go_sem,Yo hka,Yo hkb,h,i1,i2,he',w1];exact⟨⟨k+1,by(try simp only);omega,Zu hI he⟩,by show(a).length-(k+1)<(a).length-k;omega,⟨rfl,(Fc4 rfl rfl rfl rfl),fnl,fnl⟩⟩
 have he':(a.getD k []==b.getD k [])=false:=beq_eq_false_iff_ne.2 he;have hab:¬a=b:=VF he;simp only[go_sem,Y3,h];refine vDq ?_;simp only[go_sem,Yo hka,Yo hkb,h,i1,i2,he',hab];have hab:decide (a=b)=true:=decide_eq_true (VD (d:= []) hl λj hj=>hI j (by omega));simp only[go_sem,Y3,h,hab];have hl':((a.length:Int) !=(b.length:Int))=true:=bne_iff_ne.2 (by omega);have hab:¬a=b:=λe=>hl (by rw[e])
 refine ZM func222 rfl ntmps222 results222 ?_;simp only[go_sem,Y3,hl',hab]
theorem Zje (a b:List Tg) (ha:a.length<=maxLen) (hb:b.length<=maxLen):Pp 109 [tgs a,tgs b] (.bool (decide (a=b))):=by
 by_cases hl:a.length=b.length;have hl':((a.length:Int) !=(b.length:Int))=false:=by rw[hl];exact bne_self_eq_false _
 refine ZM func109 rfl ntmps109 results109 ?_;simp only[go_sem,tgs,hl'];refine ZA (ι:= { x:Nat // x<=(a).length/\(∀j,j<x->a.getD j Jd=b.getD j Jd) }) 26 (λx=> [(0,tgs a),(1,tgs b),(12,.int .i64 (a.length:Int)),(13,.int .i64 (x.1:Int))]) (λx=> []) (λx=> []) (λx=>(a).length-x.1) ⟨0,Jb _,λj hj=>absurd hj (Jf j)⟩ ⟨rfl,(Fc4 rfl rfl rfl rfl),fnl,fnl⟩ (λx=>⟨(Fc4 rfl rfl rfl rfl),fnl⟩) (λx=> ?_);obtain⟨k,hk,hI⟩:=x;simp only at hk hI ⊢;by_cases h:(k:Int)<(a.length:Int)
 (have hka:k<(a).length:=by omega);(have w1:=WD hka (ha));(have i1:=Ja k)
 have hkb:k<b.length:=by omega
 have i2:(k:Int)<(b.length:Int):=by omega
 by_cases he:a.getD k Jd=b.getD k Jd
 ·have he':decide (a.getD k Jd=b.getD k Jd)=true:=decide_eq_true he;simp only[go_sem,tgs,h];refine vDq ?_;simp only[go_sem,ZO hka,ZO hkb,h,i1,i2,tg,ZL,he',w1];exact⟨⟨k+1,by(try simp only);omega,Zu hI he⟩,by show(a).length-(k+1)<(a).length-k;omega,⟨rfl,(Fc4 rfl rfl rfl rfl),fnl,fnl⟩⟩
 have he':decide (a.getD k Jd=b.getD k Jd)=false:=decide_eq_false he;have hab:¬a=b:=VF he;simp only[go_sem,tgs,h];refine vDq ?_;simp only[go_sem,ZO hka,ZO hkb,h,i1,i2,tg,ZL,he',hab];have hab:decide (a=b)=true:=decide_eq_true (VD (d:=Jd) hl λj hj=>hI j (by omega));simp only[go_sem,tgs,h,hab];have hl':((a.length:Int) !=(b.length:Int))=true:=bne_iff_ne.2 (by omega);have hab:¬a=b:=λe=>hl (by rw[e])
 refine ZM func109 rfl ntmps109 results109 ?_;simp only[go_sem,tgs,hl',hab]
theorem ZdA (a b:List Pr) (ha:a.length<=maxLen) (hb:b.length<=maxLen):Pp 176 [prs a,prs b] (.bool (decide (a=b))):=by
 by_cases hl:a.length=b.length;have hl':((a.length:Int) !=(b.length:Int))=false:=by rw[hl];exact bne_self_eq_false _
 refine ZM func176 rfl ntmps176 results176 ?_;simp only[go_sem,prs,hl'];refine ZA (ι:= { x:Nat // x<=(a).length/\(∀j,j<x->a.getD j Jd=b.getD j Jd) }) 26 (λx=> [(0,prs a),(1,prs b),(12,.int .i64 (a.length:Int)),(13,.int .i64 (x.1:Int))]) (λx=> []) (λx=> []) (λx=>(a).length-x.1) ⟨0,Jb _,λj hj=>absurd hj (Jf j)⟩ ⟨rfl,(Fc4 rfl rfl rfl rfl),fnl,fnl⟩ (λx=>⟨(Fc4 rfl rfl rfl rfl),fnl⟩) (λx=> ?_);obtain⟨k,hk,hI⟩:=x;simp only at hk hI ⊢;by_cases h:(k:Int)<(a.length:Int)
 (have hka:k<(a).length:=by omega);(have w1:=WD hka (ha));(have i1:=Ja k)
 have hkb:k<b.length:=by omega
 have i2:(k:Int)<(b.length:Int):=by omega
 by_cases he:a.getD k Jd=b.getD k Jd
 ·have he':decide (a.getD k Jd=b.getD k Jd)=true:=decide_eq_true he;simp only[go_sem,prs,h];refine vDq ?_;simp only[go_sem,Yf hka,Yf hkb,h,i1,i2,pr,Zc4,he',w1];exact⟨⟨k+1,by(try simp only);omega,Zu hI he⟩,by show(a).length-(k+1)<(a).length-k;omega,⟨rfl,(Fc4 rfl rfl rfl rfl),fnl,fnl⟩⟩
 have he':decide (a.getD k Jd=b.getD k Jd)=false:=decide_eq_false he;have hab:¬a=b:=VF he;simp only[go_sem,prs,h];refine vDq ?_;simp only[go_sem,Yf hka,Yf hkb,h,i1,i2,pr,Zc4,he',hab];have hab:decide (a=b)=true:=decide_eq_true (VD (d:=Jd) hl λj hj=>hI j (by omega));simp only[go_sem,prs,h,hab];have hl':((a.length:Int) !=(b.length:Int))=true:=bne_iff_ne.2 (by omega);have hab:¬a=b:=λe=>hl (by rw[e])
 refine ZM func176 rfl ntmps176 results176 ?_;simp only[go_sem,prs,hl',hab]
theorem Zbj (a b:List Pr) (ha:a.length<=maxLen) (hb:b.length<=maxLen):Pp 171 [prs a,prs b] (.bool (decide (a=b))):=by
 by_cases hl:a.length=b.length;have hl':((a.length:Int) !=(b.length:Int))=false:=by rw[hl];exact bne_self_eq_false _
 refine ZM func171 rfl ntmps171 results171 ?_;simp only[go_sem,prs,hl'];refine ZA (ι:= { x:Nat // x<=(a).length/\(∀j,j<x->a.getD j Jd=b.getD j Jd) }) 26 (λx=> [(0,prs a),(1,prs b),(5,.int .i64 (x.1:Int))]) (λx=> []) (λx=> []) (λx=>(a).length-x.1) ⟨0,Jb _,λj hj=>absurd hj (Jf j)⟩ ⟨rfl,(Fc3 rfl rfl rfl),fnl,fnl⟩ (λx=>⟨(Fc3 rfl rfl rfl),fnl⟩) (λx=> ?_);obtain⟨k,hk,hI⟩:=x;simp only at hk hI ⊢;by_cases h:(k:Int)<(a.length:Int)
 (have hka:k<(a).length:=by omega);(have w1:=WD hka (ha));(have i1:=Ja k)
 have hkb:k<b.length:=by omega
 have i2:(k:Int)<(b.length:Int):=by omega
 by_cases he:a.getD k Jd=b.getD k Jd
 ·have he':decide (a.getD k Jd=b.getD k Jd)=true:=decide_eq_true he;simp only[go_sem,prs,h];refine vDq ?_;simp only[go_sem,Yf hka,Yf hkb,h,i1,i2,pr,Zc4,he',w1];exact⟨⟨k+1,by(try simp only);omega,Zu hI he⟩,by show(a).length-(k+1)<(a).length-k;omega,⟨rfl,(Fc3 rfl rfl rfl),fnl,fnl⟩⟩
 have he':decide (a.getD k Jd=b.getD k Jd)=false:=decide_eq_false he;have hab:¬a=b:=VF he;simp only[go_sem,prs,h];refine vDq ?_;simp only[go_sem,Yf hka,Yf hkb,h,i1,i2,pr,Zc4,he',hab];have hab:decide (a=b)=true:=decide_eq_true (VD (d:=Jd) hl λj hj=>hI j (by omega));simp only[go_sem,prs,h,hab];have hl':((a.length:Int) !=(b.length:Int))=true:=bne_iff_ne.2 (by omega);have hab:¬a=b:=λe=>hl (by rw[e])
 refine ZM func171 rfl ntmps171 results171 ?_;simp only[go_sem,prs,hl',hab]
theorem ZhT (a b:List Tg) (ha:a.length<=maxLen) (hb:b.length<=maxLen):Pp 50 [tgs a,tgs b] (.bool (decide (a=b))):=by
 by_cases hl:a.length=b.length;have hl':((a.length:Int) !=(b.length:Int))=false:=by rw[hl];exact bne_self_eq_false _
 refine ZM func50 rfl ntmps50 results50 ?_;simp only[go_sem,tgs,hl'];refine ZA (ι:= { x:Nat // x<=(a).length/\(∀j,j<x->a.getD j Jd=b.getD j Jd) }) 26 (λx=> [(0,tgs a),(1,tgs b),(5,.int .i64 (x.1:Int))]) (λx=> []) (λx=> []) (λx=>(a).length-x.1) ⟨0,Jb _,λj hj=>absurd hj (Jf j)⟩ ⟨rfl,(Fc3 rfl rfl rfl),fnl,fnl⟩ (λx=>⟨(Fc3 rfl rfl rfl),fnl⟩) (λx=> ?_);obtain⟨k,hk,hI⟩:=x;simp only at hk hI ⊢;by_cases h:(k:Int)<(a.length:Int)
 (have hka:k<(a).length:=by omega);(have w1:=WD hka (ha));(have i1:=Ja k)
 have hkb:k<b.length:=by omega
 have i2:(k:Int)<(b.length:Int):=by omega
 by_cases he:a.getD k Jd=b.getD k Jd
 ·have he':decide (a.getD k Jd=b.getD k Jd)=true:=decide_eq_true he;simp only[go_sem,tgs,h];refine vDq ?_;simp only[go_sem,ZO hka,ZO hkb,h,i1,i2,tg,ZL,he',w1];exact⟨⟨k+1,by(try simp only);omega,Zu hI he⟩,by show(a).length-(k+1)<(a).length-k;omega,⟨rfl,(Fc3 rfl rfl rfl),fnl,fnl⟩⟩
 have he':decide (a.getD k Jd=b.getD k Jd)=false:=decide_eq_false he;have hab:¬a=b:=VF he;simp only[go_sem,tgs,h];refine vDq ?_;simp only[go_sem,ZO hka,ZO hkb,h,i1,i2,tg,ZL,he',hab];have hab:decide (a=b)=true:=decide_eq_true (VD (d:=Jd) hl λj hj=>hI j (by omega));simp only[go_sem,tgs,h,hab];have hl':((a.length:Int) !=(b.length:Int))=true:=bne_iff_ne.2 (by omega);have hab:¬a=b:=λe=>hl (by rw[e])
 refine ZM func50 rfl ntmps50 results50 ?_;simp only[go_sem,tgs,hl',hab]
theorem Zfl (l:List Str) (s:Str) (hl:l.length<=maxLen):Pp 151 [Y3 l,.str s] (.int .i64 (idx (λx=>s==x) l)):=by
 refine ZM func151 rfl ntmps151 results151 ?_;simp only[go_sem,Y3];refine ZA (ι:= { x:Nat // x<=(l).length/\(∀j,j<x->(λx=>s==x) (l.getD j [])=Hf) }) 19 (λx=> [(0,Y3 l),(1,.str s),(7,.int .i64 (l.length:Int)),(8,.int .i64 (x.1:Int))]) (λx=> []) (λx=> []) (λx=>(l).length-x.1) ⟨0,Jb _,λj hj=>absurd hj (Jf j)⟩ ⟨rfl,(Fc4 rfl rfl rfl rfl),fnl,fnl⟩ (λx=>⟨(Fc4 rfl rfl rfl rfl),fnl⟩) (λx=> ?_);obtain⟨k,hk,hI⟩:=x;simp only at hk hI ⊢;by_cases h:(k:Int)<(l.length:Int)
 (have hka:k<(l).length:=by omega);(have w1:=WD hka (hl));(have i1:=Ja k)
 cases he:(λx=>s==x) (l.getD k [])
 ·have he0:=he;simp only at he;simp only[go_sem,Y3,h];simp only[go_sem,Yo hka,h,i1,he,w1];exact⟨⟨k+1,by(try simp only);omega,Zu hI he0⟩,by show(l).length-(k+1)<(l).length-k;omega,⟨rfl,(Fc4 rfl rfl rfl rfl),fnl,fnl⟩⟩
 have hx:=Wn (p:=λx=>s==x) hka hI he;simp only at he;simp only[go_sem,Y3,h];simp only[go_sem,Yo hka,h,i1,he,hx];have hx:=Vt (p:=λx=>s==x) (d:= []) (l:=l) (λj hj=>hI j (by omega));simp only[go_sem,Y3,h,hx]
theorem Zfk (l:List Rf) (r:Rf) (hl:l.length<=maxLen):Pp 269 [refs l,ref r] (.int .i64 (idx (λx=>decide (r=x)) l)):=by
 refine ZM func269 rfl ntmps269 results269 ?_;simp only[go_sem,refs,ref];refine ZA (ι:= { x:Nat // x<=(l).length/\(∀j,j<x->(λx=>decide (r=x)) (l.getD j Jd)=Hf) }) 19 (λx=> [(0,refs l),(3,.ptr 3 0),(7,.int .i64 (l.length:Int)),(8,.int .i64 (x.1:Int))]) (λx=> [(3,[.int .i64 r.sc,.str r.gr,.str r.nm],Hf)]) (λx=> []) (λx=>(l).length-x.1) ⟨0,Jb _,λj hj=>absurd hj (Jf j)⟩ ⟨rfl,(Fc4 rfl rfl rfl rfl),(fcs ⟨rfl,rfl⟩ fnl),fnl⟩ (λx=>⟨(Fc4 rfl rfl rfl rfl),(fcs rfl fnl)⟩) (λx=> ?_);obtain⟨k,hk,hI⟩:=x;simp only at hk hI ⊢;by_cases h:(k:Int)<(l.length:Int)
 (have hka:k<(l).length:=by omega);(have w1:=WD hka (hl));(have i1:=Ja k)
 cases he:(λx=>decide (r=x)) (l.getD k Jd)
 ·have he0:=he;simp only at he;simp only[go_sem,refs,h];refine vDq ?_;simp only[go_sem,Z9 hka,h,i1,ref,ZN,he,w1];exact⟨⟨k+1,by(try simp only);omega,Zu hI he0⟩,by show(l).length-(k+1)<(l).length-k;omega,⟨rfl,(Fc4 rfl rfl rfl rfl),(fcs ⟨rfl,rfl⟩ fnl),fnl⟩⟩
 have hx:=Wn (p:=λx=>decide (r=x)) hka hI he;simp only at he;simp only[go_sem,refs,h];refine vDq ?_;simp only[go_sem,Z9 hka,h,i1,ref,ZN,he,hx];have hx:=Vt (p:=λx=>decide (r=x)) (d:=Jd) (l:=l) (λj hj=>hI j (by omega));simp only[go_sem,refs,h,hx]
theorem G1 (l:List Fd) (r:Rf) (hl:l.length<=maxLen):Pp 106 [Zh l,ref r] (.int .i64 (idx (λx=>decide (x.at'=r)) l)):=by
 refine ZM func106 rfl ntmps106 results106 ?_;simp only[go_sem,Zh,ref];refine ZA (ι:= { x:Nat // x<=(l).length/\(∀j,j<x->(λx=>decide (x.at'=r)) (l.getD j Jd)=Hf) }) 20 (λx=> [(3,.ptr 3 0),(7,Zh l),(8,.int .i64 (l.length:Int)),(9,.int .i64 (x.1:Int))]) (λx=> [(3,[.int .i64 r.sc,.str r.gr,.str r.nm],Hf)]) (λx=> []) (λx=>(l).length-x.1) ⟨0,Jb _,λj hj=>absurd hj (Jf j)⟩ ⟨rfl,(Fc4 rfl rfl rfl rfl),(fcs ⟨rfl,rfl⟩ fnl),fnl⟩ (λx=>⟨(Fc4 rfl rfl rfl rfl),(fcs rfl fnl)⟩) (λx=> ?_);obtain⟨k,hk,hI⟩:=x;simp only at hk hI ⊢;by_cases h:(k:Int)<(l.length:Int)
 (have hka:k<(l).length:=by omega);(have w1:=WD hka (hl));(have i1:=Ja k)
 cases he:(λx=>decide (x.at'=r)) (l.getD k Jd)
 ·have he0:=he;simp only at he;simp only[go_sem,Zh,h];simp only[go_sem,Zx hka,h,i1,fld,ZN,he,w1];exact⟨⟨k+1,by(try simp only);omega,Zu hI he0⟩,by show(l).length-(k+1)<(l).length-k;omega,⟨rfl,(Fc4 rfl rfl rfl rfl),(fcs ⟨rfl,rfl⟩ fnl),fnl⟩⟩
 have hx:=Wn (p:=λx=>decide (x.at'=r)) hka hI he;simp only at he;simp only[go_sem,Zh,h];simp only[go_sem,Zx hka,h,i1,fld,ZN,he,hx];have hx:=Vt (p:=λx=>decide (x.at'=r)) (d:=Jd) (l:=l) (λj hj=>hI j (by omega));simp only[go_sem,Zh,h,hx]
theorem Ua (l:List Fd) (r:Rf) (hl:l.length<=maxLen):Pp 45 [Zh l,ref r] (.int .i64 (idx (λx=>decide (x.at'=r)) l)):=by
 refine ZM func45 rfl ntmps45 results45 ?_;simp only[go_sem,Zh,ref];refine ZA (ι:= { x:Nat // x<=(l).length/\(∀j,j<x->(λx=>decide (x.at'=r)) (l.getD j Jd)=Hf) }) 20 (λx=> [(0,Zh l),(3,.ptr 3 0),(5,.int .i64 (x.1:Int))]) (λx=> [(3,[.int .i64 r.sc,.str r.gr,.str r.nm],Hf)]) (λx=> []) (λx=>(l).length-x.1) ⟨0,Jb _,λj hj=>absurd hj (Jf j)⟩ ⟨rfl,(Fc3 rfl rfl rfl),(fcs ⟨rfl,rfl⟩ fnl),fnl⟩ (λx=>⟨(Fc3 rfl rfl rfl),(fcs rfl fnl)⟩) (λx=> ?_);obtain⟨k,hk,hI⟩:=x;simp only at hk hI ⊢;by_cases h:(k:Int)<(l.length:Int)
 (have hka:k<(l).length:=by omega);(have w1:=WD hka (hl));(have i1:=Ja k)
 cases he:(λx=>decide (x.at'=r)) (l.getD k Jd)
 ·have he0:=he;simp only at he;simp only[go_sem,Zh,h];refine vDq ?_;simp only[go_sem,Zx hka,h,i1,fld,ZN,he,w1];exact⟨⟨k+1,by(try simp only);omega,Zu hI he0⟩,by show(l).length-(k+1)<(l).length-k;omega,⟨rfl,(Fc3 rfl rfl rfl),(fcs ⟨rfl,rfl⟩ fnl),fnl⟩⟩
 have hx:=Wn (p:=λx=>decide (x.at'=r)) hka hI he;simp only at he;simp only[go_sem,Zh,h];refine vDq ?_;simp only[go_sem,Zx hka,h,i1,fld,ZN,he,hx];have hx:=Vt (p:=λx=>decide (x.at'=r)) (d:=Jd) (l:=l) (λj hj=>hI j (by omega));simp only[go_sem,Zh,h,hx]
theorem Gf (l:List Eg) (t:Tg) (hl:l.length<=maxLen):Pp 77 [egs l,tg t] (.int .i64 (idx (λx=>decide (x.id=t)) l)):=by
 refine ZM func77 rfl ntmps77 results77 ?_;simp only[go_sem,egs,tg];refine ZA (ι:= { x:Nat // x<=(l).length/\(∀j,j<x->(λx=>decide (x.id=t)) (l.getD j Jd)=Hf) }) 20 (λx=> [(0,egs l),(3,.ptr 3 0),(5,.int .i64 (x.1:Int))]) (λx=> [(3,[.int .i64 t.r,.int .i64 t.n],Hf)]) (λx=> []) (λx=>(l).length-x.1) ⟨0,Jb _,λj hj=>absurd hj (Jf j)⟩ ⟨rfl,(Fc3 rfl rfl rfl),(fcs ⟨rfl,rfl⟩ fnl),fnl⟩ (λx=>⟨(Fc3 rfl rfl rfl),(fcs rfl fnl)⟩) (λx=> ?_);obtain⟨k,hk,hI⟩:=x;simp only at hk hI ⊢;by_cases h:(k:Int)<(l.length:Int)
 (have hka:k<(l).length:=by omega);(have w1:=WD hka (hl));(have i1:=Ja k)
 cases he:(λx=>decide (x.id=t)) (l.getD k Jd)
 ·have he0:=he;simp only at he;simp only[go_sem,egs,h];refine vDq ?_;simp only[go_sem,XK hka,h,i1,eg,ZL,he,w1];exact⟨⟨k+1,by(try simp only);omega,Zu hI he0⟩,by show(l).length-(k+1)<(l).length-k;omega,⟨rfl,(Fc3 rfl rfl rfl),(fcs ⟨rfl,rfl⟩ fnl),fnl⟩⟩
 have hx:=Wn (p:=λx=>decide (x.id=t)) hka hI he;simp only at he;simp only[go_sem,egs,h];refine vDq ?_;simp only[go_sem,XK hka,h,i1,eg,ZL,he,hx];have hx:=Vt (p:=λx=>decide (x.id=t)) (d:=Jd) (l:=l) (λj hj=>hI j (by omega));simp only[go_sem,egs,h,hx]
theorem Zbl (l:List Tg) (t:Tg) (hl:l.length<=maxLen):Pp 148 [tgs l,tg t] (.int .i64 (idx (λx=>decide (x=t)) l)):=by
 refine ZM func148 rfl ntmps148 results148 ?_;simp only[go_sem,tgs,tg];refine ZA (ι:= { x:Nat // x<=(l).length/\(∀j,j<x->(λx=>decide (x=t)) (l.getD j Jd)=Hf) }) 19 (λx=> [(0,tgs l),(3,.ptr 3 0),(5,.int .i64 (x.1:Int))]) (λx=> [(3,[.int .i64 t.r,.int .i64 t.n],Hf)]) (λx=> []) (λx=>(l).length-x.1) ⟨0,Jb _,λj hj=>absurd hj (Jf j)⟩ ⟨rfl,(Fc3 rfl rfl rfl),(fcs ⟨rfl,rfl⟩ fnl),fnl⟩ (λx=>⟨(Fc3 rfl rfl rfl),(fcs rfl fnl)⟩) (λx=> ?_);obtain⟨k,hk,hI⟩:=x;simp only at hk hI ⊢;by_cases h:(k:Int)<(l.length:Int)
 (have hka:k<(l).length:=by omega);(have w1:=WD hka (hl));(have i1:=Ja k)
 cases he:(λx=>decide (x=t)) (l.getD k Jd)
 ·have he0:=he;simp only at he;simp only[go_sem,tgs,h];refine vDq ?_;simp only[go_sem,ZO hka,h,i1,tg,ZL,he,w1];exact⟨⟨k+1,by(try simp only);omega,Zu hI he0⟩,by show(l).length-(k+1)<(l).length-k;omega,⟨rfl,(Fc3 rfl rfl rfl),(fcs ⟨rfl,rfl⟩ fnl),fnl⟩⟩
 have hx:=Wn (p:=λx=>decide (x=t)) hka hI he;simp only at he;simp only[go_sem,tgs,h];refine vDq ?_;simp only[go_sem,ZO hka,h,i1,tg,ZL,he,hx];have hx:=Vt (p:=λx=>decide (x=t)) (d:=Jd) (l:=l) (λj hj=>hI j (by omega));simp only[go_sem,tgs,h,hx]
open Go.PL
theorem ZcG (f:Fd):(fld f).dids= []:=by simp only[fld,Jz,Jm,UA,Jc]
theorem Zkd {α:Type} (p:α->Bool) (l:List α):decide ((0:Int)<=idx p l)=l.any p:=by
 unfold idx;cases h:l.findIdx? p with
 |none=>
  have:l.any p=false:=by
   rw[KT];intro x hx;have:=JB.1 h x hx;simp[this]
  rw[this];rfl
 |some i=>
  rw[Js]at h;obtain⟨hi,hp,_⟩:=h;have:l.any p=true:=Kx.2 ⟨_,Jt hi,hp⟩;rw[this];exact decide_eq_true (show(0:Int)<=(i:Int)by omega)
theorem Zmh (l:List Str) (s:Str):l.any (λx=>s==x)=l.any (· == s):=by
 congr 1;funext x;rw[Je];simp only[beq_iff_eq];exact eq_comm
theorem YX {n b:Nat} (hn:n<=1000000) (hb:b<=1000):Zh3 n b:=Xm (by omega) hb
theorem Wg (f:Fd) (hf:f.cases'.length<=1000000):Pp 100 [fld f] (fld f):=by
 have hr:=YX hf (show 16<=1000 by omega);refine ZB func100 rfl ntmps100 results100 (ZcG _) ?_;simp only[go_sem,fld,Xy,ZjF,hr]
theorem ZdE (a b:Rf):Pp 223 [ref a,ref b] (.bool (WN a b)):=by
 refine ZM func223 rfl ntmps223 results223 ?_;simp only[go_sem,ref];repeat' ((first|(first|apply Zt|apply Zs|apply Zm)<;>intro h|refine vDq ?_)<;>first|simp only[go_sem,h]|simp only[go_sem]|skip)
 all_goals (simp_all[WN])
theorem SH (l:List Str) (s:Str) (hl:l.length<=maxLen):Pp 108 [Y3 l,.str s] (.bool (l.any (· == s))):=by
 have hI:=Zfl l s hl;refine ZM func108 rfl ntmps108 results108 ?_;simp only[go_sem,Y3];refine vc1 hI ?_;simp only[go_sem,Zkd,Zmh]
def Gt (l:List Str):Bool:=decide (1<=l.length/\l.length<=6)&&Gs l
theorem ZhK (l:List Str):Pp 150 [Y3 l] (.bool (Gt l)):=by
 by_cases h1:(l.length:Int)<1;have hx:Gt l=false:=by simp only[Gt,show ¬(1<=l.length/\l.length<=6)by omega,decide_false,Jg]
 refine ZM func150 rfl ntmps150 results150 ?_;simp only[go_sem,Y3,h1,hx];by_cases h2:(6:Int)<(l.length:Int);have hx:Gt l=false:=by simp only[Gt,show ¬(1<=l.length/\l.length<=6)by omega,decide_false,Jg]
 refine ZM func150 rfl ntmps150 results150 ?_;simp only[go_sem,Y3,h1,h2,hx];have hm:l.length<=maxLen:=by rw[Zc];omega
 have hx:Gt l=Gs l:=by simp only[Gt,show(1<=l.length/\l.length<=6)by omega,and_self,decide_true,Jn]
 rw[hx];refine ZM func150 rfl ntmps150 results150 ?_;simp only[go_sem,Y3,h1,h2];refine ZA (ι:= { x:Nat // x<=(l).length/\(∀j,j<x->Ug l j=Ht) }) 31 (λx=> [(0,Y3 l),(13,Y3 l),(14,.int .i64 (l.length:Int)),(15,.int .i64 (x.1:Int))]) (λx=> []) (λx=> []) (λx=>(l).length-x.1) ⟨0,Jb _,λj hj=>absurd hj (Jf j)⟩ ⟨rfl,(Fc4 rfl rfl rfl rfl),fnl,fnl⟩ (λx=>⟨(Fc4 rfl rfl rfl rfl),fnl⟩) (λx=> ?_);obtain⟨k,hk,hI⟩:=x;simp only at hk hI ⊢;by_cases h:(k:Int)<(l.length:Int)
 (have hka:k<(l).length:=by omega);(have w1:=WD hka (hm));(have i1:=Ja k)
 have i2:(k:Int)<=(l.length:Int):=by omega
 have hN:=Xs (l.getD k []);have hT:(l.take k).length<=maxLen:=by rw[JD];omega
 have hH:=SH (l.take k) (l.getD k []) hT;cases hn:ZU (l.getD k []);rw[hn]at hN;have hz:=Uh hka (by simp only[Ug,hn,Jg]);simp only[go_sem,Y3,h,i1,Yo hka];refine vc1 hN ?_;simp only[go_sem,hz];rw[hn]at hN;cases hh:(l.take k).any (· == l.getD k [])
 ·rw[hh]at hH;have ok:Ug l k=true:=by simp only[Ug,hn,hh,JO,Jw]
  simp only[go_sem,Y3,h,i1,Yo hka];refine vc1 hN ?_;simp only[go_sem,i1,i2,Xy,cut,J8,Fq];refine vc1 hH ?_;simp only[go_sem,w1];exact⟨⟨k+1,by(try simp only);omega,Zu hI ok⟩,by show(l).length-(k+1)<(l).length-k;omega,⟨rfl,(Fc4 rfl rfl rfl rfl),fnl,fnl⟩⟩
 rw[hh]at hH;have hz:=Uh hka (by simp only[Ug,hn,hh,Ku,JA]);simp only[go_sem,Y3,h,i1,Yo hka];refine vc1 hN ?_;simp only[go_sem,i1,i2,Xy,cut,J8,Fq];refine vc1 hH ?_;simp only[go_sem,hz];have hz:=FL (l:=l) (λj hj=>hI j (by omega));simp only[go_sem,Y3,h,hz]
theorem Zh8 {l:List Str} {s:Str} (h:l.any (· == s)=Ht):1<=l.length:=by
 cases l with
 |nil=>simp at h
 |cons a l=>simp
theorem T4 (f:Fd) (hl:f.cases'.length<=maxLen):Pp 107 [fld f] (.bool (Yc f)):=by
 have hP:=G4 f.at';have hT:=Gg f.df;have hC:=ZhK f.cases';have hK:=SH f.cases' f.df hl;have key:Yc f=(Xq f.at'&&(if f.kind=1 then(f.df== [])&&(((f.cases'.length:Int)==0)&&(decide (1<=f.worth)&&decide (f.worth<=1048576)))
   else if f.kind=2 then decide ((f.df.length:Int)<=40)&&(((f.cases'.length:Int)==0)&&(f.worth==0))
   else if f.kind=3 then Gt f.cases'&&(f.cases'.any (· == f.df)&&(f.worth==0))
   else if f.kind=4 then(f.df== [])&&(((f.cases'.length:Int)==0)&&(f.worth==0))else Hf)):=by
  unfold Yc;congr 1
  by_cases h1:f.kind=1
  ·rw[if_pos h1,if_pos h1,Je];simp;omega
  ·rw[if_neg h1,if_neg h1]
   by_cases h3:f.kind=3
   ·rw[if_pos h3,if_neg (by omega),if_pos h3];unfold Za6 Gt;cases ha:f.cases'.any (· == f.df)
    ·simp
    ·have:=Zh8 ha;rw[Je];simp;constructor
     ·rintro ⟨a,b,c⟩;exact⟨⟨⟨this,by omega⟩,b⟩,a⟩
     ·rintro ⟨⟨⟨a,b⟩,c⟩,d⟩;exact⟨d,c,by omega⟩
   ·rw[if_neg h3,if_neg h3];unfold ZiY
    by_cases h2:f.kind=2
    ·rw[if_pos h2,Je];simp[h2];constructor<;>rintro ⟨a,b,c⟩<;>refine⟨?_,?_,?_⟩<;>first|assumption|omega
    ·rw[if_neg h2]
     by_cases h4:f.kind=4
     ·rw[if_pos h4,Je];simp[h4];constructor
      ·rintro ⟨a,b,c⟩;exact⟨c,b,a⟩
      ·rintro ⟨a,b,c⟩;exact⟨c,b,a⟩
     ·rw[if_neg h4];simp[h2,h4]
 rw[key];cases hp:Xq f.at';rw[hp]at hP;refine ZM func107 rfl ntmps107 results107 ?_;simp only[go_sem,fld];refine vc1 hP ?_;simp only[go_sem,Jg];rw[hp]at hP;rw[Jn];by_cases h1:f.kind=1
 ·have k1:(f.kind==1)=true:=by rw[h1];rfl
  rw[if_pos h1];refine ZM func107 rfl ntmps107 results107 ?_;simp only[go_sem,fld];refine vc1 hP ?_;simp only[go_sem,k1];repeat' ((first|(first|apply Zt|apply Zs|apply Zm)<;>intro h|refine vDq ?_)<;>first|simp only[go_sem,h]|simp only[go_sem]|skip)
  all_goals simp_all
 have k1:(f.kind==1)=false:=beq_eq_false_iff_ne.2 h1;rw[if_neg h1];by_cases h2:f.kind=2
 ·have k2:(f.kind==2)=true:=by rw[h2];rfl
  rw[if_pos h2];refine ZM func107 rfl ntmps107 results107 ?_;simp only[go_sem,fld];refine vc1 hP ?_;simp only[go_sem,k1,k2];refine vc1 hT ?_;simp only[go_sem,k1,k2];repeat' ((first|(first|apply Zt|apply Zs|apply Zm)<;>intro h|refine vDq ?_)<;>first|simp only[go_sem,h]|simp only[go_sem]|skip)
  all_goals simp_all
 have k2:(f.kind==2)=false:=beq_eq_false_iff_ne.2 h2;rw[if_neg h2];by_cases h3:f.kind=3
 ·have k3:(f.kind==3)=true:=by rw[h3];rfl
  rw[if_pos h3];refine ZM func107 rfl ntmps107 results107 ?_;simp only[go_sem,fld];refine vc1 hP ?_;simp only[go_sem,k1,k2,k3];refine vc1 hC ?_;simp only[go_sem,k1,k2,k3];repeat' ((first|(first|apply Zt|apply Zs|apply Zm)<;>intro h|refine vc1 hK ?_|refine vDq ?_)<;>first|simp only[go_sem,h]|simp only[go_sem]|skip)
  all_goals simp_all
 have k3:(f.kind==3)=false:=beq_eq_false_iff_ne.2 h3;rw[if_neg h3];by_cases h4:f.kind=4
 ·have k4:(f.kind==4)=true:=by rw[h4];rfl
  rw[if_pos h4];refine ZM func107 rfl ntmps107 results107 ?_;simp only[go_sem,fld];refine vc1 hP ?_;simp only[go_sem,k1,k2,k3,k4];repeat' ((first|(first|apply Zt|apply Zs|apply Zm)<;>intro h|refine vDq ?_)<;>first|simp only[go_sem,h]|simp only[go_sem]|skip)
  all_goals simp_all
 have k4:(f.kind==4)=false:=beq_eq_false_iff_ne.2 h4;rw[if_neg h4];refine ZM func107 rfl ntmps107 results107 ?_;simp only[go_sem,fld];refine vc1 hP ?_;simp only[go_sem,k1,k2,k3,k4]
theorem G0 (a b:Fd) (ha:a.cases'.length<=maxLen) (hb:b.cases'.length<=maxLen):Pp 175 [fld a,fld b] (.bool (decide (a=b))):=by
 have hE:=ZhL a.cases' b.cases' ha hb;refine ZM func175 rfl ntmps175 results175 ?_;simp only[go_sem,fld,ZN];repeat' ((first|(first|apply Zt|apply Zs|apply Zm)<;>intro h|refine vc1 hE ?_|refine vDq ?_)<;>first|simp only[go_sem,h,ZN]|simp only[go_sem,ZN]|skip)
 all_goals ((cases a;cases b;simp_all)<;>rfl)
theorem FE (a b:List Str) (ha:a.length<=maxLen) (hb:b.length<=maxLen):Pp 219 [Y3 a,Y3 b] (.bool (decide (a=b))):=by
 have hE:=Zbo a b ha hb;refine ZM func219 rfl ntmps219 results219 ?_;simp only[go_sem,Y3];refine vc1 hE ?_;simp only[go_sem]
theorem SI (a b:Fd) (ha:a.cases'.length<=maxLen) (hb:b.cases'.length<=maxLen):Pp 170 [fld a,fld b] (.bool (decide (a=b))):=by
 have hE:=FE a.cases' b.cases' ha hb;refine ZM func170 rfl ntmps170 results170 ?_;simp only[go_sem,fld,ZN];repeat' ((first|(first|apply Zt|apply Zs|apply Zm)<;>intro h|refine vc1 hE ?_|refine vDq ?_)<;>first|simp only[go_sem,h,ZN]|simp only[go_sem,ZN]|skip)
 all_goals ((cases a;cases b;simp_all)<;>rfl)
open Go.PL
def Wf (l:List Pr) (s:Str):Str×Bool:=match l.find? (λp=>p.fr'==s)with|some p=>(p.to',Ht)|none=>([],Hf)
def ZaT (x:Str×Bool):PV:= .tup [.str x.1,.bool x.2]
theorem ZbF {α:Type} {p:α->Bool} {l:List α} {k:Nat} {d:α} (hk:k<l.length) (h:∀j,j<k->p (l.getD j d)=Hf) (hp:p (l.getD k d)=Ht):l.find? p=Hs (l.getD k d):=by
 have h1:=Wn hk h hp;rw[JT];refine⟨hp,k,hk,by rw[Jl,Jy hk];rfl,λj hj=> ?_⟩;have:=h j hj;rw[Jl,Jy (by omega)]at this;simpa using this
theorem Zec {α:Type} {p:α->Bool} {l:List α} {d:α} (h:∀j,j<l.length->p (l.getD j d)=Hf):l.find? p=none:=by
 rw[JP];intro x hx;obtain⟨j,hj,rfl⟩:=Jo hx;have:=h j hj;rw[Jl,Jy hj]at this;simpa using this
theorem Gd (l:List Pr) (s:Str) (hl:l.length<=maxLen):Pp 221 [prs l,.str s] (ZaT (Wf l s)):=by
 refine ZM func221 rfl ntmps221 results221 ?_;simp only[go_sem,prs];refine ZA (ι:= { x:Nat // x<=(l).length/\(∀j,j<x->((l.getD j Jd).fr'==s)=Hf) }) 21 (λx=> [(1,.str s),(8,prs l),(9,.int .i64 (l.length:Int)),(10,.int .i64 (x.1:Int))]) (λx=> []) (λx=> []) (λx=>(l).length-x.1) ⟨0,Jb _,λj hj=>absurd hj (Jf j)⟩ ⟨rfl,(Fc4 rfl rfl rfl rfl),fnl,fnl⟩ (λx=>⟨(Fc4 rfl rfl rfl rfl),fnl⟩) (λx=> ?_);obtain⟨k,hk,hI⟩:=x;simp only at hk hI ⊢;by_cases h:(k:Int)<(l.length:Int)
 (have hka:k<(l).length:=by omega);(have w1:=WD hka (hl));(have i1:=Ja k)
 cases he:((l.getD k Jd).fr'==s)
 ·simp only[go_sem,prs,h,Yf hka,pr,i1,he,w1];exact⟨⟨k+1,by(try simp only);omega,Zu hI he⟩,by show(l).length-(k+1)<(l).length-k;omega,⟨rfl,(Fc4 rfl rfl rfl rfl),fnl,fnl⟩⟩
 have hx:=ZbF (p:=λp:Pr=>p.fr'==s) hka hI he;simp only[go_sem,prs,h,Yf hka,pr,i1,he,ZaT,Wf,hx];have hx:=Zec (p:=λp:Pr=>p.fr'==s) (d:=Jd) (l:=l) (λj hj=>hI j (by omega));simp only[go_sem,prs,h,ZaT,Wf,hx]
theorem G5 (l:List Pr) (s:Str) (hl:l.length<=maxLen):Pp 168 [prs l,.str s] (ZaT (Wf l s)):=by
 refine ZM func168 rfl ntmps168 results168 ?_;simp only[go_sem,prs];refine ZA (ι:= { x:Nat // x<=(l).length/\(∀j,j<x->((l.getD j Jd).fr'==s)=Hf) }) 25 (λx=> [(0,prs l),(1,.str s),(6,.int .i64 (x.1:Int))]) (λx=> []) (λx=> []) (λx=>(l).length-x.1) ⟨0,Jb _,λj hj=>absurd hj (Jf j)⟩ ⟨rfl,(Fc3 rfl rfl rfl),fnl,fnl⟩ (λx=>⟨(Fc3 rfl rfl rfl),fnl⟩) (λx=> ?_);obtain⟨k,hk,hI⟩:=x;simp only at hk hI ⊢;by_cases h:(k:Int)<(l.length:Int)
 (have hka:k<(l).length:=by omega);(have w1:=WD hka (hl));(have i1:=Ja k)
 cases he:((l.getD k Jd).fr'==s)
 ·simp only[go_sem,prs,h,Yf hka,pr,i1,he,w1];exact⟨⟨k+1,by(try simp only);omega,Zu hI he⟩,by show(l).length-(k+1)<(l).length-k;omega,⟨rfl,(Fc3 rfl rfl rfl),fnl,fnl⟩⟩
 have hx:=ZbF (p:=λp:Pr=>p.fr'==s) hka hI he;simp only[go_sem,prs,h,Yf hka,pr,i1,he,ZaT,Wf,hx];have hx:=Zec (p:=λp:Pr=>p.fr'==s) (d:=Jd) (l:=l) (λj hj=>hI j (by omega));simp only[go_sem,prs,h,ZaT,Wf,hx]
theorem Zhe {α β:Type} [Inhabited α] (f:α->β) {l:List α} {k:Nat} (h:k<l.length):(l.take (k+1)).map f=(l.take k).map f++ [f (l.getD k Jd)]:=by
 rw[Yx h (d:=Jd),KF];rfl
theorem WV {α:Type} (l:List α) (k:Nat):(l.take k).length<=l.length:=by rw[JD];omega
def Yt (l:List Pr):List Str:=l.map (·.fr')
theorem ZbL (l:List Pr) (hl:l.length<=1000000):Pp 226 [prs l] (Y3 (Yt l)):=by
 have hm:l.length<=maxLen:=by rw[Zc];omega
 have hr0:=YX hl (show 16<=1000 by omega);refine ZB func226 rfl ntmps226 results226 (ZeX _) ?_;simp only[go_sem,prs,hr0,hm];refine⟨by omega,?_⟩;refine ZR 3 8 19 0 1 9 [] rfl rfl rfl ?_;refine ZA (ι:= { x:Nat×(List Str) // x.1<=(l).length/\(x.2=(l.take x.1).map (·.fr')) }) 22 (λx=> [(3,.sl (.row 19) (x.1.2.map .str)),(9,prs l),(10,.int .i64 (l.length:Int)),(11,.int .i64 (x.1.1:Int))]) (λx=> []) (λx=> [(19,.live (x.1.2.length) (1) (9))]) (λx=>(l).length-x.1.1) ⟨(0,[]),Jb _,rfl⟩ ⟨rfl,(Fc4 rfl rfl rfl rfl),fnl,(fcs rfl fnl)⟩ (λx=>⟨(Fc4 (by simp[JJ,ZV]) rfl rfl rfl),fnl⟩) (λx=> ?_);obtain⟨⟨k,acc⟩,hk,hI⟩:=x;simp only at hk hI ⊢;have hacc:acc.length<=l.length:=by rw[hI,JV];exact WV _ _
 by_cases h:(k:Int)<(l.length:Int)
 ·(have hka:k<(l).length:=by omega);(have w1:=WD hka (hm));(have i1:=Ja k)
  have hr:=YX (show acc.length+1<=1000000 by rw[hI,JV,JD];omega) (show 16<=1000 by omega);simp only[go_sem,prs,h,Yf hka,pr,i1,Xy,hr,w1];exact⟨⟨(k+1,acc++ [(l.getD k Jd).fr']),by(try simp only);omega,by simp only;rw[Zhe _ hka,hI]⟩,by show(l).length-(k+1)<(l).length-k;omega,⟨rfl,(Fc4 (by simp[upd]) rfl rfl rfl),fnl,(fcs (by simp[upd]) fnl)⟩⟩
 obtain rfl:k=l.length:=by omega
 rw[JN]at hI;subst hI;simp only[go_sem,prs,h,Y3,Yt]
theorem UU (l:List Pr) (hl:l.length<=1000000):Pp 190 [prs l] (Y3 (Yt l)):=by
 have hm:l.length<=maxLen:=by rw[Zc];omega
 refine ZB func190 rfl ntmps190 results190 (ZeX _) ?_;simp only[go_sem,prs];refine ZR 3 5 19 0 1 9 [] rfl rfl rfl ?_;refine ZA (ι:= { x:Nat×(List Str) // x.1<=(l).length/\(x.2=(l.take x.1).map (·.fr')) }) 21 (λx=> [(0,prs l),(3,.sl (.row 19) (x.1.2.map .str)),(4,.int .i64 (x.1.1:Int))]) (λx=> []) (λx=> [(19,.live (x.1.2.length) (1) (9))]) (λx=>(l).length-x.1.1) ⟨(0,[]),Jb _,rfl⟩ ⟨rfl,(Fc3 rfl rfl rfl),fnl,(fcs rfl fnl)⟩ (λx=>⟨(Fc3 rfl (by simp[JJ,ZV]) rfl),fnl⟩) (λx=> ?_);obtain⟨⟨k,acc⟩,hk,hI⟩:=x;simp only at hk hI ⊢;have hacc:acc.length<=l.length:=by rw[hI,JV];exact WV _ _
 by_cases h:(k:Int)<(l.length:Int)
 ·(have hka:k<(l).length:=by omega);(have w1:=WD hka (hm));(have i1:=Ja k)
  have hr:=YX (show acc.length+1<=1000000 by rw[hI,JV,JD];omega) (show 16<=1000 by omega);simp only[go_sem,prs,h,Yf hka,pr,i1,Xy,hr,w1];exact⟨⟨(k+1,acc++ [(l.getD k Jd).fr']),by(try simp only);omega,by simp only;rw[Zhe _ hka,hI]⟩,by show(l).length-(k+1)<(l).length-k;omega,⟨rfl,(Fc3 rfl (by simp[upd]) rfl),fnl,(fcs (by simp[upd]) fnl)⟩⟩
 obtain rfl:k=l.length:=by omega
 rw[JN]at hI;subst hI;simp only[go_sem,prs,h,Y3,Yt]
theorem ZdO (l:List Fd) (hl:l.length<=100000) (hc:∀f∈l,f.cases'.length<=1000000):Pp 52 [Zh l] (Zh l):=by
 have hm:l.length<=maxLen:=by rw[Zc];omega
 have hr0:=YX (show l.length<=1000000 by omega) (show 96<=1000 by omega);refine ZB func52 rfl ntmps52 results52 (VR _) ?_;simp only[go_sem,Zh,hr0,hm];refine⟨by omega,?_⟩;refine ZR 3 8 19 0 7 30 [] rfl rfl rfl ?_;refine ZA (ι:= { x:Nat×(List Fd) // x.1<=(l).length/\(x.2=l.take x.1) }) 22 (λx=> [(3,.sl (.row 19) (x.1.2.map fld)),(9,Zh l),(10,.int .i64 (l.length:Int)),(11,.int .i64 (x.1.1:Int))]) (λx=> []) (λx=> [(19,.live (x.1.2.length) (7) (30))]) (λx=>(l).length-x.1.1) ⟨(0,[]),Jb _,rfl⟩ ⟨rfl,(Fc4 rfl rfl rfl rfl),fnl,(fcs rfl fnl)⟩ (λx=>⟨(Fc4 (by simp[JJ,ZV]) rfl rfl rfl),fnl⟩) (λx=> ?_);obtain⟨⟨k,acc⟩,hk,hI⟩:=x;simp only at hk hI ⊢;have hacc:acc.length<=l.length:=by rw[hI];exact WV _ _
 by_cases h:(k:Int)<(l.length:Int)
 ·(have hka:k<(l).length:=by omega);(have w1:=WD hka (hm));(have i1:=Ja k)
  have hr:=YX (show acc.length+1<=1000000 by omega) (show 96<=1000 by omega);have hO:=Wg (l.getD k Jd) (hc _ (ZF hka));simp only[go_sem,Zh,h,Zx hka,fld,i1];refine vc2 hO ?_;simp only[go_sem,fld,YZ,hr,w1];exact⟨⟨(k+1,acc++ [l.getD k Jd]),by(try simp only);omega,by simp only;rw[Yx hka (d:=Jd),hI]⟩,by show(l).length-(k+1)<(l).length-k;omega,⟨rfl,(Fc4 (by simp[upd,fld]) rfl rfl rfl),fnl,(fcs (by simp[upd]) fnl)⟩⟩
 obtain rfl:k=l.length:=by omega
 rw[JN]at hI;subst hI;simp only[go_sem,h,Zh]
open Go.PL
theorem Zp9 (l:List Fd) (sc:Int) (hl:l.length<=100000) (hc:∀f∈l,f.cases'.length<=1000000):Pp 67 [Zh l,.int .i64 sc] (Zh (DV l sc)):=by
 have hm:l.length<=maxLen:=by rw[Zc];omega
 refine ZB func67 rfl ntmps67 results67 (VR _) ?_;simp only[go_sem,Zh];refine T8 5 23 7 30 rfl rfl ?_;refine ZA (ι:= { x:Nat×(List Fd) // x.1<=(l).length/\(x.2=DV (l.take x.1) sc) }) 26 (λx=> [(1,.int .i64 sc),(5,.sl (.row 23) (x.1.2.map fld)),(8,Zh l),(9,.int .i64 (l.length:Int)),(10,.int .i64 (x.1.1:Int))]) (λx=> []) (λx=> [(23,.live (x.1.2.length) (7) (30))]) (λx=>(l).length-x.1.1) ⟨(0,[]),Jb _,rfl⟩ ⟨rfl,(Fc5 rfl rfl rfl rfl rfl),fnl,(fcs rfl fnl)⟩ (λx=>⟨(Fc5 rfl (by simp[JJ,ZV]) rfl rfl rfl),fnl⟩) (λx=> ?_);obtain⟨⟨k,acc⟩,hk,hI⟩:=x;simp only at hk hI ⊢;have hacc:acc.length<=l.length:=by
  rw[hI];exact KE (List.length_filter_le _ _) (WV _ _)
 by_cases h:(k:Int)<(l.length:Int)
 (have hka:k<(l).length:=by omega);(have w1:=WD hka (hm));(have i1:=Ja k)
 have hr:=YX (show acc.length+1<=1000000 by omega) (show 96<=1000 by omega);have hO:=Wg (l.getD k Jd) (hc _ (ZF hka));cases he:((l.getD k Jd).at'.sc==sc)
 ·have hs:DV (l.take (k+1)) sc=DV (l.take k) sc:=by
   rw[Yx hka (d:=Jd)];simp only[DV,KO,KW,he,JE,if_false,KZ,Jc]
  simp only[go_sem,Zh,h,Zx hka,fld,i1,he,w1];exact⟨⟨(k+1,acc),by(try simp only);omega,by simp only;rw[hs,hI]⟩,by show(l).length-(k+1)<(l).length-k;omega,⟨rfl,(Fc5 rfl (by simp[upd,fld]) rfl rfl rfl),fnl,(fcs (by simp[upd]) fnl)⟩⟩
 ·have hs:DV (l.take (k+1)) sc=DV (l.take k) sc++ [l.getD k Jd]:=by
   rw[Yx hka (d:=Jd)];simp only[DV,KO,KW,he,if_true,KZ]
  simp only[go_sem,Zh,h,Zx hka,fld,i1,he];refine vc2 hO ?_;simp only[go_sem,fld,YZ,hr,w1];exact⟨⟨(k+1,acc++ [l.getD k Jd]),by(try simp only);omega,by simp only;rw[hs,hI]⟩,by show(l).length-(k+1)<(l).length-k;omega,⟨rfl,(Fc5 rfl (by simp[upd,fld]) rfl rfl rfl),fnl,(fcs (by simp[upd]) fnl)⟩⟩
 obtain rfl:k=l.length:=by omega
 rw[JN]at hI;subst hI;simp only[go_sem,h,Zh]
def atF (r:Rf):Fd->Bool:=λx=>decide (x.at'=r)
def Zv (l:List Fd) (r:Rf):Fd×Int:=if idx (atF r) l<0 then(Jd,6)else(l.getD (idx (atF r) l).toNat Jd,0)
def Uu (x:Fd×Int):PV:= .tup [fld x.1,.int .i64 x.2]
def ZC (x:List Fd×Int):PV:= .tup [Zh x.1,.int .i64 x.2]
theorem FV (x:Fd×Int):(Uu x).dids= []:=by simp only[Uu,Jz,Jm,ZcG,Jc]
theorem ZD (x:List Fd×Int):(ZC x).dids= []:=by simp only[ZC,Jz,Jm,VR,Jc]
theorem WK:fld Jd= .agg [.int .i64 0,.str [],.str [],.int .i64 0,.str [],.sl .no [],.int .i64 0]:=rfl
theorem Vy (l:List Fd) (r:Rf) (hl:l.length<=100000) (hc:∀f∈l,f.cases'.length<=1000000):Pp 55 [Zh l,ref r] (Uu (Zv l r)):=by
 have hm:l.length<=maxLen:=by rw[Zc];omega
 have hI:Pp 106 [Zh l,ref r] (.int .i64 (idx (atF r) l)):=G1 l r hm;unfold Zv;rcases Xj (atF r) l with h2|⟨k,hk,h2⟩;rw[h2]at hI ⊢;refine ZB func55 rfl ntmps55 results55 (FV _) ?_;simp only[go_sem,Zh,ref];refine vc2 hI ?_;simp only[go_sem,Uu,WK];have i1:=Ja k
 have i2:(k:Int)<(l.length:Int):=by omega
 have i3:¬(k:Int)<0:=by omega
 have hO:=Wg (l.getD k Jd) (hc _ (ZF hk));rw[h2]at hI;rw[h2,if_neg i3];refine ZB func55 rfl ntmps55 results55 (FV _) ?_;simp only[go_sem,Zh,ref];refine vc2 hI ?_;simp only[go_sem,i1,i2,i3,Zx hk,fld];refine vc2 hO ?_;simp only[go_sem,Uu,fld]
theorem SN (l:List Fd) (hl:l.length<=maxLen) (hl':∀f∈l,f.cases'.length<=maxLen):Pp 177 [Zh l] (.bool (Z7 l)):=by
 by_cases h16:16<(l.length:Int);refine ZM func177 rfl ntmps177 results177 ?_;simp only[go_sem,Zh,h16,Z7,Jg];have hx:Z7 l=(JS l.length).all (Vh l):=by simp only[Z7,h16,decide_false,JO,Jn]
 rw[hx];refine ZM func177 rfl ntmps177 results177 ?_;simp only[go_sem,Zh,h16];refine ZA (ι:= { x:Nat // x<=(l).length/\(∀j,j<x->Vh l j=Ht) }) 33 (λx=> [(0,Zh l),(8,Zh l),(9,.int .i64 (l.length:Int)),(10,.int .i64 (x.1:Int))]) (λx=> []) (λx=> []) (λx=>(l).length-x.1) ⟨0,Jb _,λj hj=>absurd hj (Jf j)⟩ ⟨rfl,(Fc4 rfl rfl rfl rfl),fnl,fnl⟩ (λx=>⟨(Fc4 rfl rfl rfl rfl),fnl⟩) (λx=> ?_);obtain⟨k,hk,hI⟩:=x;simp only at hk hI ⊢;by_cases h:(k:Int)<(l.length:Int)
 (have hka:k<(l).length:=by omega);(have w1:=WD hka (hl));(have i1:=Ja k)
 have hR:=T4 (l.getD k Jd) (hl' _ (ZF hka));cases hr:Yc (l.getD k Jd);rw[hr]at hR;have hz:=Yl (p:=Vh l) hka (by simp only[Vh,hr,Jg]);simp only[go_sem,Zh,h,Zx hka,fld,i1];refine vc2 hR ?_;simp only[go_sem,hz];rw[hr]at hR;by_cases h0:0<(k:Int);have hk1:k-1<l.length:=by omega
 have w2:IntKind.i64.wrap ((k:Int)-1)=((k-1:Nat):Int):=by
  rw[Zc]at hl;rw[w64 (by omega)];omega
 have j1:(0:Int)<=((k-1:Nat):Int):=by omega
 have j2:((k-1:Nat):Int)<(l.length:Int):=by omega
 have hL:=ZdE (l.getD (k-1) Jd).at' (l.getD k Jd).at';cases hb:WN (l.getD (k-1) Jd).at' (l.getD k Jd).at';rw[hb]at hL;have hz:=Yl (p:=Vh l) hka (by simp only[Vh,hb,decide_eq_false (show ¬k=0 by omega),KP,JA]);simp only[go_sem,Zh,h,Zx hka,fld,i1];refine vc2 hR ?_;simp only[go_sem];refine vDq ?_;simp only[go_sem,h0,w2,Zx hk1,Zx hka,fld,h,i1,j1,j2];refine vc1 hL ?_;simp only[go_sem,hz]
 ·rw[hb]at hL;have ok:Vh l k=true:=by simp only[Vh,hr,hb,KD,Jw]
  simp only[go_sem,Zh,h,Zx hka,fld,i1];refine vc2 hR ?_;simp only[go_sem];refine vDq ?_;simp only[go_sem,h0,w2,Zx hk1,Zx hka,fld,h,i1,j1,j2];refine vc1 hL ?_;simp only[go_sem,w1];exact⟨⟨k+1,by(try simp only);omega,Zu hI ok⟩,by show(l).length-(k+1)<(l).length-k;omega,⟨rfl,(Fc4 rfl rfl rfl rfl),fnl,fnl⟩⟩
 ·have ok:Vh l k=true:=by simp only[Vh,hr,decide_eq_true (show k=0 by omega),Kf,Jw]
  simp only[go_sem,Zh,h,Zx hka,fld,i1];refine vc2 hR ?_;simp only[go_sem];refine vDq ?_;simp only[go_sem,h0,w1];exact⟨⟨k+1,by(try simp only);omega,Zu hI ok⟩,by show(l).length-(k+1)<(l).length-k;omega,⟨rfl,(Fc4 rfl rfl rfl rfl),fnl,fnl⟩⟩
 have hz:=UJ (p:=Vh l) (n:=l.length) (λj hj=>hI j (by omega));simp only[go_sem,Zh,h,hz]
theorem ZbD {α:Type} {l:List α} {k g:Nat} {d:α} (h:k<l.length):(l.take (k+1)).eraseIdx g=(l.take k).eraseIdx g++(if k=g then []else [l.getD k d]):=by
 have hlen:(l.take k).length=k:=by rw[JD];omega
 rw[Yx h (d:=d)];rcases Nat.lt_or_ge g k with h1|h1;rw[List.eraseIdx_append_of_lt_length (by omega),if_neg (by omega)];have e2:(l.take k).eraseIdx g=l.take k:=Kh (by omega);rw[List.eraseIdx_append_of_length_le (by omega),e2,hlen];by_cases e:k=g;subst e;simp;rw[if_neg e,Kh (by simp;omega)]
def YF (l:List Fd) (r:Rf):List Fd×Int:=if Z7 l=Hf then([],5)else if idx (atF r) l<0 then([],6)else(l.eraseIdx (idx (atF r) l).toNat,0)
theorem ZdQ (l:List Fd) (r:Rf) (hl:l.length<=100000) (hc:∀f∈l,f.cases'.length<=1000000):Pp 180 [Zh l,ref r] (ZC (YF l r)):=by
 have hm:l.length<=maxLen:=by rw[Zc];omega
 have hR:=SN l hm (λf hf=>by have:=hc f hf;rw[Zc];omega);have hI:Pp 106 [Zh l,ref r] (.int .i64 (idx (atF r) l)):=G1 l r hm;unfold YF;cases hr:Z7 l;rw[hr]at hR;refine ZB func180 rfl ntmps180 results180 (ZD _) ?_;simp only[go_sem,Zh,ref];refine vc2 hR ?_;simp only[go_sem,ZC,Zh];rw[hr]at hR;rcases Xj (atF r) l with h2|⟨g,hg,h2⟩;rw[h2]at hI ⊢;refine ZB func180 rfl ntmps180 results180 (ZD _) ?_;simp only[go_sem,Zh,ref];refine vc2 hR ?_;simp only[go_sem,Zh];refine vc2 hI ?_;simp only[go_sem,ZC,Zh];have i3:¬(g:Int)<0:=by omega
 have w2:IntKind.i64.wrap ((l.length:Int)-1)=((l.length-1:Nat):Int):=by rw[w64 (by omega)];omega
 rw[h2]at hI;rw[h2,if_neg i3];simp only[Jp,if_false,JW];refine ZB func180 rfl ntmps180 results180 (ZD _) ?_;simp only[go_sem,Zh,ref];refine vc2 hR ?_;simp only[go_sem,Zh];refine vc2 hI ?_;simp only[go_sem,Zh,i3,w2];refine⟨by omega,?_⟩;refine ZR 7 21 36 0 7 30 [] rfl rfl rfl ?_;refine ZA (ι:= { x:Nat×(List Fd) // x.1<=(l).length/\(x.2=(l.take x.1).eraseIdx g) }) 39 (λx=> [(6,.int .i64 (g:Int)),(7,.sl (.row 36) (x.1.2.map fld)),(22,Zh l),(23,.int .i64 (l.length:Int)),(24,.int .i64 (x.1.1:Int))]) (λx=> []) (λx=> [(36,.live (x.1.2.length) (7) (30))]) (λx=>(l).length-x.1.1) ⟨(0,[]),Jb _,rfl⟩ ⟨rfl,(Fc5 rfl rfl rfl rfl rfl),fnl,(fcs rfl fnl)⟩ (λx=>⟨(Fc5 rfl (by simp[JJ,ZV]) rfl rfl rfl),fnl⟩) (λx=> ?_);obtain⟨⟨k,acc⟩,hk,hI⟩:=x;simp only at hk hI ⊢;have hacc:acc.length<=l.length:=by
  rw[hI];exact KE (J7 _ _) (WV _ _)
 by_cases h:(k:Int)<(l.length:Int)
 (have hka:k<(l).length:=by omega);(have w1:=WD hka (hm));(have i1:=Ja k)
 have hr:=YX (show acc.length+1<=1000000 by omega) (show 96<=1000 by omega);have hO:=Wg (l.getD k Jd) (hc _ (ZF hka));have hs:=ZbD (l:=l) (k:=k) (g:=g) (d:=Jd) hka;by_cases he:k=g
 ·have he':((k:Int) !=(g:Int))=false:=by rw[he];exact bne_self_eq_false _
  rw[if_pos he,Jc]at hs;simp only[go_sem,Zh,h,Zx hka,fld,i1,he',w1];exact⟨⟨(k+1,acc),by(try simp only);omega,by simp only;rw[hs,hI]⟩,by show(l).length-(k+1)<(l).length-k;omega,⟨rfl,(Fc5 rfl (by simp[upd,fld]) rfl rfl rfl),fnl,(fcs (by simp[upd]) fnl)⟩⟩
 ·have he':((k:Int) !=(g:Int))=true:=bne_iff_ne.2 (by omega);rw[if_neg he]at hs;simp only[go_sem,Zh,h,Zx hka,fld,i1,he'];refine vc2 hO ?_;simp only[go_sem,fld,YZ,hr,w1];exact⟨⟨(k+1,acc++ [l.getD k Jd]),by(try simp only);omega,by simp only;rw[hs,hI]⟩,by show(l).length-(k+1)<(l).length-k;omega,⟨rfl,(Fc5 rfl (by simp[upd,fld]) rfl rfl rfl),fnl,(fcs (by simp[upd]) fnl)⟩⟩
 obtain rfl:k=l.length:=by omega
 rw[JN]at hI;subst hI;simp only[go_sem,h,Zh,ZC]
open Go.PL
def Ziz (r:Rf):Fd->Bool:=λf=>WN f.at' r
def Za1 (l:List Fd) (f:Fd):List Fd:=l.takeWhile (Ziz f.at')++f::l.dropWhile (Ziz f.at')
def Vn (l:List Fd) (f:Fd):List Fd×Int:=if Z7 l=Hf\/Yc f=Hf then([],5)else if 0<=idx (atF f.at') l then([],7)else if 16<=(l.length:Int)then([],14)else(Za1 l f,0)
structure WA (l:List Fd) (f:Fd) where
 k:Nat
 acc:List Fd
 hk:k<=l.length
 h:acc++Za1 (l.drop k) f=Za1 l f
structure WB (l:List Fd) (f:Fd) where
 k:Nat
 acc:List Fd
 hk:k<=l.length
 h:acc++l.drop k=Za1 l f
theorem Y5 {α:Type} {l:List α} {k:Nat} {d:α} (h:k<l.length):l.drop k=l.getD k d::l.drop (k+1):=by
 rw[Jl,Jy h];exact Kj h
theorem Zo3 {l:List Fd} {f x:Fd} (h:WN x.at' f.at'=Ht):Za1 (x::l) f=x::Za1 l f:=by
 simp[Za1,Ziz,h]
theorem Zo2 {l:List Fd} {f x:Fd} (h:WN x.at' f.at'=Hf):Za1 (x::l) f=f::x::l:=by
 simp[Za1,Ziz,h]
theorem SY (l:List Fd) (f:Fd):(Za1 l f).length=l.length+1:=by
 unfold Za1;have:=congrArg KJ (Ka (p:=Ziz f.at') (l:=l));simp only[Jj,JU]at *;omega
def DL (f:Fd):List PV:= [.int .i64 f.at'.sc,.str f.at'.gr,.str f.at'.nm,.int .i64 f.kind,.str f.df,.sl .no (f.cases'.map .str),.int .i64 f.worth]
theorem Zju (l:List Fd) (f:Fd) (hl:l.length<=100000) (hc:∀f∈l,f.cases'.length<=1000000) (hf:f.cases'.length<=1000000):Pp 181 [Zh l,fld f] (ZC (Vn l f)):=by
 have hm:l.length<=maxLen:=by rw[Zc];omega
 have hR:=SN l hm (λf hf=>by have:=hc f hf;rw[Zc];omega);have hF:=T4 f (by rw[Zc];omega);have hI:Pp 106 [Zh l,ref f.at'] (.int .i64 (idx (atF f.at') l)):=G1 l f.at' hm;have hOf:=Wg f hf;unfold Vn;cases hr:Z7 l;rw[hr]at hR;simp only[true_or,if_true];refine ZB func181 rfl ntmps181 results181 (ZD _) ?_;simp only[go_sem,Zh,fld];refine Gb ?_;simp only[go_sem];refine vc2 hR ?_;simp only[go_sem,ZC,Zh];rw[hr]at hR;cases hrf:Yc f;rw[hrf]at hF;simp only[or_true,if_true];refine ZB func181 rfl ntmps181 results181 (ZD _) ?_;simp only[go_sem,Zh,fld];refine Gb ?_;simp only[go_sem];refine vc2 hR ?_;simp only[go_sem];refine vc2 hF ?_;simp only[go_sem,ZC,Zh];rw[hrf]at hF;simp only[Jp,or_self,if_false];by_cases h2:(0:Int)<=idx (atF f.at') l;rw[if_pos h2];refine ZB func181 rfl ntmps181 results181 (ZD _) ?_;simp only[go_sem,Zh,fld];refine Gb ?_;simp only[go_sem];refine vc2 hR ?_;simp only[go_sem];refine vc2 hF ?_;simp only[go_sem];refine vc2 hI ?_;simp only[go_sem,h2,ZC,Zh];rw[if_neg h2];by_cases h3:(16:Int)<=(l.length:Int);rw[if_pos h3];refine ZB func181 rfl ntmps181 results181 (ZD _) ?_;simp only[go_sem,Zh,fld];refine Gb ?_;simp only[go_sem];refine vc2 hR ?_;simp only[go_sem];refine vc2 hF ?_;simp only[go_sem];refine vc2 hI ?_;simp only[go_sem,h2,h3,ZC,Zh];rw[if_neg h3];have w0:IntKind.i64.wrap ((l.length:Int)+1)=((l.length+1:Nat):Int):=by rw[w64 (by omega)];rfl
 refine ZB func181 rfl ntmps181 results181 (ZD _) ?_;simp only[go_sem,Zh,fld];refine ZpV (ι0:=WA l f) (ι1:=WB l f) 72
  (λx=> [(0,Zh l),(3,.ptr 3 0),(6,.sl (.row 49) (x.acc.map fld)),(7,.int .i64 (x.k:Int))]) (λx=> [(3,DL f,Hf)]) (λx=> [(49,.live x.acc.length 7 30)]) (λx=>l.length-x.k)
  (λx=> [(0,Zh l),(6,.sl (.row 68) (x.acc.map fld)),(7,.int .i64 (x.k:Int))]) (λx=> []) (λx=> [(68,.live x.acc.length 7 30)]) (λx=>l.length-x.k) (l.length+1) (λj=>by show l.length-j.k<l.length+1;omega)
  0 1 _ _ (by exact rfl) (by exact rfl)
  (λx=>⟨Fc4 rfl rfl (by simp[JJ,ZV]) rfl,(fcs rfl fnl)⟩)
  (λx=>⟨Fc3 rfl (by simp[JJ,ZV]) rfl,fnl⟩)
  (λx cut=> ?_) (λx=> ?_) (λcut=> ?_)
 obtain⟨k,acc,hk,hx⟩:=x;simp only at cut ⊢;have hacc:acc.length<=l.length+1:=by rw[<-SY l f,<-hx,Jj];omega
 have hrm:=YX (show acc.length+1<=1000000 by omega) (show 96<=1000 by omega);by_cases h:(k:Int)<(l.length:Int);have hka:k<l.length:=by omega
 have w1:=WD hka hm;have i1:=Ja k
 have hL:=ZdE (l.getD k Jd).at' f.at';have hO:=Wg (l.getD k Jd) (hc _ (ZF hka));rw[Y5 hka (d:=Jd)]at hx;cases hb:WN (l.getD k Jd).at' f.at';rw[hb]at hL;rw[Zo2 hb]at hx;simp only[go_sem,Zh,DL];refine vDq ?_;simp only[go_sem,h,i1,Zx hka,fld];refine vc1 hL ?_;simp only[go_sem];refine vc2 hOf ?_;simp only[go_sem,fld,YZ,hrm];refine ZR 6 56 68 (acc.length+1) 7 30 ((acc++ [f]).map fld) (by simp[upd,fld]) rfl rfl ?_;refine Xe (cut ⟨k,acc++ [f],hk,by rw[Y5 hka (d:=Jd),<-hx];simp⟩ _ ⟨rfl,Fc3 rfl rfl rfl,fnl,fcs (by simp[upd,Hp.setq,St.with]) fnl⟩);rw[hb]at hL;rw[Zo3 hb]at hx;simp only[go_sem,Zh,DL];refine vDq ?_;simp only[go_sem,h,i1,Zx hka,fld];refine vc1 hL ?_;simp only[go_sem,h,i1,Zx hka,fld];refine vc2 hO ?_;simp only[go_sem,fld,YZ,hrm,w1];exact Or.inl ⟨rfl,⟨k+1,acc++ [l.getD k Jd],by omega,by rw[<-hx];simp⟩,nx9 (by omega),⟨rfl,Fc4 rfl rfl (by simp[upd,fld]) rfl,fcs ⟨rfl,rfl⟩ fnl,fcs (by simp[upd]) fnl⟩⟩;obtain rfl:k=l.length:=by omega
 simp only[go_sem,Zh,DL];refine vDq ?_;simp only[go_sem,h];refine vc2 hOf ?_;simp only[go_sem,fld,YZ,hrm];refine ZR 6 56 68 (acc.length+1) 7 30 ((acc++ [f]).map fld) (by simp[upd,fld]) rfl rfl ?_;refine Xe (cut ⟨l.length,acc++ [f],hk,by rw[<-hx];simp[Za1]⟩ _ ⟨rfl,Fc3 rfl rfl rfl,fnl,fcs (by simp[upd,Hp.setq,St.with]) fnl⟩);obtain⟨k,acc,hk,hx⟩:=x;simp only;have hacc:acc.length<=l.length+1:=by rw[<-SY l f,<-hx,Jj];omega
 have hrm:=YX (show acc.length+1<=1000000 by omega) (show 96<=1000 by omega);by_cases h:(k:Int)<(l.length:Int);have hka:k<l.length:=by omega
 have w1:=WD hka hm;have i1:=Ja k
 have hO:=Wg (l.getD k Jd) (hc _ (ZF hka));rw[Y5 hka (d:=Jd)]at hx;simp only[go_sem,Zh,h,i1,Zx hka,fld];refine vc2 hO ?_;simp only[go_sem,fld,YZ,hrm,w1];exact⟨⟨k+1,acc++ [l.getD k Jd],by omega,by rw[<-hx];simp⟩,nx9 (by omega),⟨rfl,Fc3 rfl (by simp[upd,fld]) rfl,fnl,fcs (by simp[upd]) fnl⟩⟩;obtain rfl:k=l.length:=by omega
 rw[J2,Jc]at hx;subst hx;simp only[go_sem,Zh,h,ZC];simp only[go_sem];refine vc2 hR ?_;simp only[go_sem];refine vc2 hF ?_;simp only[go_sem];refine vc2 hI ?_;simp only[go_sem,h2,h3,w0];refine⟨by omega,?_⟩;refine ZR 6 27 49 0 7 30 [] rfl rfl rfl ?_;exact Xe (cut ⟨0,[],Jb _,rfl⟩ _ ⟨rfl,(Fc4 rfl rfl rfl rfl),fcs ⟨rfl,rfl⟩ fnl,fcs rfl fnl⟩)
open Go.PL
def Dl (l:List Pr) (s:Str):Bool:=l.any λq=>q.fr'==s
theorem ZdX (l:List Pr) (s:Str):(Wf l s).2=Dl l s:=by
 unfold Wf Dl;cases h:l.find? (λp=>p.fr'==s)with
 |none=>
  symm
  rw[KT];intro x hx;exact JP.1 h x hx
 |some p=>
  symm
  exact Kx.2 ⟨p,JC h,K0 (p:=λp:Pr=>p.fr'==s) h⟩
theorem Zj9 (l:List Pr) (s:Str):(Yt l).any (· == s)=Dl l s:=by
 simp[Yt,Dl,List.any_map,Function.comp_def]
def Vw (t o:List Pr) (i:Nat):Bool:=ZU (t.getD i Jd).fr'&&(!(Dl (t.take i) (t.getD i Jd).fr')&&Dl o (t.getD i Jd).to')
def XY (t o:List Pr):Bool:=decide (1<=t.length/\t.length<=6)&&(JS t.length).all (Vw t o)
theorem Zdn (l:List Pr) (k:Nat):List.take k (l.map pr)=(l.take k).map pr:=by rw[List.map_take]
theorem GR (l:List Pr):Sized 2 (l.map pr):=λe he=>by
 obtain⟨x,_,rfl⟩:=Jr.1 he;rfl
theorem Zmk (l:List Pr):Vo (l.map pr):=λe he=>by
 obtain⟨x,_,rfl⟩:=Jr.1 he;rfl
theorem Ziw {l:List Pr} {s:Str} {k:Nat} (hk:k<l.length) (h:((l.getD k Jd).fr'==s)=Ht):Dl l s=true:=UY (p:=λq:Pr=>q.fr'==s) hk h
theorem ZfP {l:List Pr} {s:Str} (h:∀j,j<l.length->((l.getD j Jd).fr'==s)=Hf):Dl l s=false:=Ux (p:=λq:Pr=>q.fr'==s) (d:=Jd) h
theorem TW (t o:List Pr) (ho:o.length<=maxLen):Pp 220 [prs t,prs o] (.bool (XY t o)):=by
 by_cases h1:(t.length:Int)<1;have hx:XY t o=false:=by simp only[XY,show ¬(1<=t.length/\t.length<=6)by omega,decide_false,Jg]
 refine ZM func220 rfl ntmps220 results220 ?_;simp only[go_sem,prs,h1,hx];by_cases h2:(6:Int)<(t.length:Int);have hx:XY t o=false:=by simp only[XY,show ¬(1<=t.length/\t.length<=6)by omega,decide_false,Jg]
 refine ZM func220 rfl ntmps220 results220 ?_;simp only[go_sem,prs,h1,h2,hx];have hm:t.length<=maxLen:=by rw[Zc];omega
 have hx:XY t o=(JS t.length).all (Vw t o):=by simp only[XY,show(1<=t.length/\t.length<=6)by omega,and_self,decide_true,Jn]
 rw[hx];refine ZM func220 rfl ntmps220 results220 ?_;simp only[go_sem,prs,h1,h2];refine ZA (ι:= { x:Nat // x<=(t).length/\(∀j,j<x->Vw t o j=Ht) }) 54 (λx=> [(0,prs t),(1,prs o),(19,prs t),(20,.int .i64 (t.length:Int)),(21,.int .i64 (x.1:Int))]) (λx=> []) (λx=> []) (λx=>(t).length-x.1) ⟨0,Jb _,λj hj=>absurd hj (Jf j)⟩ ⟨rfl,(Fc5 rfl rfl rfl rfl rfl),fnl,fnl⟩ (λx=>⟨(Fc5 rfl rfl rfl rfl rfl),fnl⟩) (λx=> ?_);obtain⟨k,hk,hI⟩:=x;simp only at hk hI ⊢;by_cases h:(k:Int)<(t.length:Int)
 (have hka:k<(t).length:=by omega);(have w1:=WD hka (hm));(have i1:=Ja k)
 have i2:(k:Int)<=(t.length:Int):=by omega
 have hN:=Xs (t.getD k Jd).fr';cases hn:ZU (t.getD k Jd).fr';rw[hn]at hN;have hz:=Yl (p:=Vw t o) hka (by simp only[Vw,hn,Jg]);simp only[go_sem,prs,h,i1,Yf hka,pr];refine vc1 hN ?_;simp only[go_sem,hz];rw[hn]at hN;have hT:(t.take k).length<=maxLen:=by rw[JD];omega
 simp only[go_sem,prs,h,i1,Yf hka,pr];refine vc1 hN ?_;simp only[go_sem,i1,i2,GR,cut,J8,Zdn];refine ZA (ι:= { x:Nat // x<=(t.take k).length/\(∀j,j<x->(((t.take k).getD j Jd).fr'==(t.getD k Jd).fr')=Hf) }) 54 (λx=> [(0,prs t),(1,prs o),(6,.ptr 6 0),(19,prs t),(20,.int .i64 (t.length:Int)),(21,.int .i64 (k:Int)),(32,.sl .no ((t.take k).map pr)),(33,.int .i64 ((t.take k).length:Int)),(34,.int .i64 (x.1:Int))]) (λx=> [(6,[.str (t.getD k Jd).fr',.str (t.getD k Jd).to'],Hf)]) (λx=> []) (λx=>(t.take k).length-x.1) ⟨0,Jb _,λj hj=>absurd hj (Jf j)⟩ ⟨rfl,(Fc9 rfl rfl rfl rfl rfl rfl rfl rfl rfl),(fcs ⟨rfl,rfl⟩ fnl),fnl⟩ (λx=>⟨(Fc9 rfl rfl rfl rfl rfl rfl rfl rfl rfl),(fcs rfl fnl)⟩) (λx=> ?_);obtain⟨kb,hkb,hIb⟩:=x;simp only at hkb hIb ⊢;by_cases hb:(kb:Int)<((t.take k).length:Int)
 (have hkab:kb<(t.take k).length:=by omega);(have w1b:=WD hkab (hT));(have i1b:=Ja kb)
 cases he:(((t.take k).getD kb Jd).fr'==(t.getD k Jd).fr')
 ·simp only[go_sem,prs,hb,Yf hkab,pr,i1b,he,w1b];exact⟨⟨kb+1,by(try simp only);omega,Zu hIb he⟩,by show(t.take k).length-(kb+1)<(t.take k).length-kb;omega,⟨rfl,(Fc9 rfl rfl rfl rfl rfl rfl rfl rfl rfl),(fcs ⟨rfl,rfl⟩ fnl),fnl⟩⟩
 have hz:=Yl (p:=Vw t o) hka (by simp only[Vw,Ziw hkab he,Ku,Jg,JA]);simp only[go_sem,prs,hb,Yf hkab,pr,i1b,he,hz];have hf:=ZfP (l:=t.take k) (s:=(t.getD k Jd).fr') (λj hj=>hIb j (by omega));have hC:=Gd o (t.getD k Jd).to' ho;have hs:=ZdX o (t.getD k Jd).to';cases hh:Dl o (t.getD k Jd).to';have hz:=Yl (p:=Vw t o) hka (by simp only[Vw,hh,JA]);rw[hh]at hs;simp only[go_sem,prs,hb];refine vc3 hC ?_;simp only[go_sem,ZaT,hs,hz]
 ·have ok:Vw t o k=true:=by simp only[Vw,hn,hf,hh,JO,Jw]
  rw[hh]at hs;simp only[go_sem,prs,hb];refine vc3 hC ?_;simp only[go_sem,ZaT,hs,w1];exact⟨⟨k+1,by(try simp only);omega,Zu hI ok⟩,by show(t).length-(k+1)<(t).length-k;omega,⟨rfl,(Fc5 rfl rfl rfl rfl rfl),fnl,fnl⟩⟩
 have hz:=UJ (p:=Vw t o) (n:=t.length) (λj hj=>hI j (by omega));simp only[go_sem,prs,h,hz]
theorem FF (t o:List Pr) (ho:o.length<=1000000):Pp 169 [prs t,prs o] (.bool (XY t o)):=by
 by_cases h1:(t.length:Int)=0;have hx:XY t o=false:=by simp only[XY,show ¬(1<=t.length/\t.length<=6)by omega,decide_false,Jg]
 have h1':((t.length:Int)==0)=true:=by rw[h1];rfl
 refine ZM func169 rfl ntmps169 results169 ?_;simp only[go_sem,prs,h1',hx];have h1':((t.length:Int)==0)=false:=beq_eq_false_iff_ne.2 h1;by_cases h2:(6:Int)<(t.length:Int);have hx:XY t o=false:=by simp only[XY,show ¬(1<=t.length/\t.length<=6)by omega,decide_false,Jg]
 refine ZM func169 rfl ntmps169 results169 ?_;simp only[go_sem,prs,h1',h2,hx];have hm:t.length<=maxLen:=by rw[Zc];omega
 have hx:XY t o=(JS t.length).all (Vw t o):=by simp only[XY,show(1<=t.length/\t.length<=6)by omega,and_self,decide_true,Jn]
 rw[hx];refine ZM func169 rfl ntmps169 results169 ?_;simp only[go_sem,prs,h1',h2];refine ZA (ι:= { x:Nat // x<=(t).length/\(∀j,j<x->Vw t o j=Ht) }) 50 (λx=> [(0,prs t),(1,prs o),(5,.int .i64 (x.1:Int))]) (λx=> []) (λx=> []) (λx=>(t).length-x.1) ⟨0,Jb _,λj hj=>absurd hj (Jf j)⟩ ⟨rfl,(Fc3 rfl rfl rfl),fnl,fnl⟩ (λx=>⟨(Fc3 rfl rfl rfl),fnl⟩) (λx=> ?_);obtain⟨k,hk,hI⟩:=x;simp only at hk hI ⊢;by_cases h:(k:Int)<(t.length:Int)
 (have hka:k<(t).length:=by omega);(have w1:=WD hka (hm));(have i1:=Ja k)
 have i2:(k:Int)<=(t.length:Int):=by omega
 have hN:=ZT (t.getD k Jd).fr';have hT:(t.take k).length<=1000000:=by rw[JD];omega
 have hF1:=UU (t.take k) hT;have hF2:=UU o ho;have hH1:=Ty (Yt (t.take k)) (t.getD k Jd).fr' (by rw[Yt,JV,Zc];omega);have hH2:=Ty (Yt o) (t.getD k Jd).to' (by rw[Yt,JV,Zc];omega);rw[Zj9]at hH1 hH2;cases hn:ZU (t.getD k Jd).fr';rw[hn]at hN;have hz:=Yl (p:=Vw t o) hka (by simp only[Vw,hn,Jg]);simp only[go_sem,prs,h,i1];refine vDq ?_;simp only[go_sem,prs,h,i1,Yf hka,pr];refine vc1 hN ?_;simp only[go_sem,hz];rw[hn]at hN;cases hf:Dl (t.take k) (t.getD k Jd).fr';rw[hf]at hH1;cases hh:Dl o (t.getD k Jd).to';rw[hh]at hH2;have hz:=Yl (p:=Vw t o) hka (by simp only[Vw,hh,JA]);simp only[go_sem,prs,h,i1];refine vDq ?_;simp only[go_sem,prs,h,i1,Yf hka,pr];refine vc1 hN ?_;simp only[go_sem,prs,h,i1,i2,GR,cut,J8,Zdn];refine vc3 hF1 ?_;simp only[go_sem,prs,h,i1,i2,Yf hka,pr];refine vc1 hH1 ?_;simp only[go_sem,prs];refine vc3 hF2 ?_;simp only[go_sem,prs,h,i1,i2,Yf hka,pr];refine vc1 hH2 ?_;simp only[go_sem,hz]
 ·rw[hh]at hH2;have ok:Vw t o k=true:=by simp only[Vw,hn,hf,hh,JO,Jw]
  simp only[go_sem,prs,h,i1];refine vDq ?_;simp only[go_sem,prs,h,i1,Yf hka,pr];refine vc1 hN ?_;simp only[go_sem,prs,h,i1,i2,GR,cut,J8,Zdn];refine vc3 hF1 ?_;simp only[go_sem,prs,h,i1,i2,Yf hka,pr];refine vc1 hH1 ?_;simp only[go_sem,prs];refine vc3 hF2 ?_;simp only[go_sem,prs,h,i1,i2,Yf hka,pr];refine vc1 hH2 ?_;simp only[go_sem,w1];exact⟨⟨k+1,by(try simp only);omega,Zu hI ok⟩,by show(t).length-(k+1)<(t).length-k;omega,⟨rfl,(Fc3 rfl rfl rfl),fnl,fnl⟩⟩
 rw[hf]at hH1;have hz:=Yl (p:=Vw t o) hka (by simp only[Vw,hf,Ku,Jg,JA]);simp only[go_sem,prs,h,i1];refine vDq ?_;simp only[go_sem,prs,h,i1,Yf hka,pr];refine vc1 hN ?_;simp only[go_sem,prs,h,i1,i2,GR,cut,J8,Zdn];refine vc3 hF1 ?_;simp only[go_sem,prs,h,i1,i2,Yf hka,pr];refine vc1 hH1 ?_;simp only[go_sem,hz];have hz:=UJ (p:=Vw t o) (n:=t.length) (λj hj=>hI j (by omega));simp only[go_sem,prs,h,hz]
theorem Fm (x:Ln):(lns x).dids= []:=by
 have:∀l:List Pr,Jm (l.map pr)= []:=λl=>by
  induction l with
  |nil=>rfl
  |cons t l ih=>simp only[Jh,Jm,ih,pr,Jz,Jc]
 simp only[lns,Jz,Jm,UA,this,Jc]
structure OkLn (x:Ln):Prop where
 c:x.fd.cases'.length<=1000000
 f:x.fo.length<=1000000
 b:x.ba.length<=1000000
theorem Fx (x:Ln) (hx:OkLn x):Pp 130 [lns x] (lns x):=by
 have hF:=Wg x.fd hx.c;have r1:=YX hx.f (show 32<=1000 by omega);have r2:=YX hx.b (show 32<=1000 by omega);refine ZB func130 rfl ntmps130 results130 (Fm _) ?_;simp only[go_sem,lns];refine vc2 hF ?_;simp only[go_sem,fld,lns,GR,Zmk,r1,r2]
theorem Zbf (a b:Ln) (ha:OkLn a) (hb:OkLn b):Pp 129 [lns a,lns b] (.bool (decide (a=b))):=by
 have hF:=G0 a.fd b.fd (by have:=ha.c;rw[Zc];omega) (by have:=hb.c;rw[Zc];omega);have h1:=ZdA a.fo b.fo (by have:=ha.f;rw[Zc];omega) (by have:=hb.f;rw[Zc];omega);have h2:=ZdA a.ba b.ba (by have:=ha.b;rw[Zc];omega) (by have:=hb.b;rw[Zc];omega);clear ha hb;refine ZM func129 rfl ntmps129 results129 ?_;simp only[go_sem,lns,ZN];repeat' ((first|(first|apply Zt|apply Zs|apply Zm)<;>intro h|refine vc3 hF ?_|refine vc3 h1 ?_|refine vc3 h2 ?_|refine vDq ?_)<;>first|simp only[go_sem,h,ZN]|simp only[go_sem,ZN]|skip)
 all_goals (clear hF h1 h2;(cases a;cases b;simp_all)<;>rfl)
theorem Zfr (a b:Ln) (ha:OkLn a) (hb:OkLn b):Pp 127 [lns a,lns b] (.bool (decide (a=b))):=by
 have hF:=SI a.fd b.fd (by have:=ha.c;rw[Zc];omega) (by have:=hb.c;rw[Zc];omega);have h1:=Zbj a.fo b.fo (by have:=ha.f;rw[Zc];omega) (by have:=hb.f;rw[Zc];omega);have h2:=Zbj a.ba b.ba (by have:=ha.b;rw[Zc];omega) (by have:=hb.b;rw[Zc];omega);clear ha hb;refine ZM func127 rfl ntmps127 results127 ?_;simp only[go_sem,lns,ZN];repeat' ((first|(first|apply Zt|apply Zs|apply Zm)<;>intro h|refine vc3 hF ?_|refine vc3 h1 ?_|refine vc3 h2 ?_|refine vDq ?_)<;>first|simp only[go_sem,h,ZN]|simp only[go_sem,ZN]|skip)
 all_goals (clear hF h1 h2;(cases a;cases b;simp_all)<;>rfl)
open Go.PL
def Vc (x:Ln):Ln×Bool:=
 if x.kind=1\/x.kind=5 then(⟨x.kind,x.at',x.nm,[],0,Jd,[],[]⟩,Ht)
 else if x.kind=2\/x.kind=3 then(⟨x.kind,Jd,[],[],0,x.fd,[],[]⟩,Ht)
 else if x.kind=4 then(⟨x.kind,x.at',[],[],0,Jd,[],[]⟩,Ht)
 else if x.kind=6\/x.kind=9 then(⟨x.kind,x.at',x.nm,x.ot,x.fac,Jd,[],[]⟩,Ht)
 else if x.kind=7\/x.kind=10 then(⟨x.kind,x.at',[],x.ot,0,Jd,[],[]⟩,Ht)
 else if x.kind=8 then(⟨x.kind,x.at',x.nm,x.ot,0,Jd,x.fo,x.ba⟩,Ht)
 else(Jd,Hf)
def lnb (x:Ln×Bool):PV:= .tup [lns x.1,.bool x.2]
theorem ZmZ (x:Ln×Bool):(lnb x).dids= []:=by simp only[lnb,Jz,Jm,Fm,Jc]
theorem U7:lns Jd= .agg [.int .i64 0,.int .i64 0,.str [],.str [],.str [],.str [],.int .i64 0,.int .i64 0,.str [],.str [],.int .i64 0,.str [],.sl .no [],.int .i64 0,.sl .no [],.sl .no []]:=rfl
theorem ZiE (x:Ln):Pp 172 [lns x] (lnb (Vc x)):=by
 refine ZB func172 rfl ntmps172 results172 (ZmZ _) ?_;simp only[go_sem,lns];repeat' ((first|(first|apply Zt|apply Zs|apply Zm)<;>intro h|refine ZhE [(1,4)] (by kernel_rfl) (by kernel_rfl) (by exact rfl) ?_|refine vDq ?_)<;>first|simp only[go_sem,h]|simp only[go_sem]|skip)
 all_goals (simp only[beq_iff_eq,beq_eq_false_iff_ne,ne_eq]at *;simp[Vc,lnb,lns, *];try decide)
theorem Zpd {x:Ln} (hx:OkLn x):OkLn (Vc x).1:=by
 unfold Vc;repeat' split
 all_goals exact⟨by first|exact hx.c|exact Jb _,by first|exact hx.f|exact Jb _,by first|exact hx.b|exact Jb _⟩
def rtM (x:Ln):Bool:=ZU x.nm&&(XY x.fo x.ba&&(XY x.ba x.fo&&(((Wf x.fo x.nm).2&&((Wf x.fo x.nm).1==x.ot))&&((Wf x.ba x.ot).2&&((Wf x.ba x.ot).1==x.nm)))))
theorem D9 (x:Ln) (hx:OkLn x):Pp 174 [lns x] (.bool (rtM x)):=by
 have mf:x.fo.length<=maxLen:=by have:=hx.f;rw[Zc];omega
 have mb:x.ba.length<=maxLen:=by have:=hx.b;rw[Zc];omega
 have hN:=Xs x.nm;have h1:=TW x.fo x.ba mb;have h2:=TW x.ba x.fo mf;have h3:=Gd x.fo x.nm mf;have h4:=Gd x.ba x.ot mb;unfold rtM;generalize Wf x.fo x.nm=c at *;generalize Wf x.ba x.ot=d at *;obtain⟨c1,c2⟩:=c;obtain⟨d1,d2⟩:=d;refine ZM func174 rfl ntmps174 results174 ?_;simp only[go_sem,lns];repeat' ((first|(first|apply Zt|apply Zs|apply Zm)<;>intro h|refine vc3 hN ?_|refine vc3 h1 ?_|refine vc3 h2 ?_|refine vc3 h3 ?_|refine vc3 h4 ?_|refine vDq ?_)<;>first|simp only[go_sem,h,ZaT]|simp only[go_sem,ZaT]|skip)
 all_goals (clear hN h1 h2 h3 h4 mf mb hx;simp_all)
theorem Fv (n:Int):Pp 173 [.int .i64 n] (.bool (decide (2<=n)&&decide (n<=1000))):=by
 refine ZM func173 rfl ntmps173 results173 ?_;simp only[go_sem];repeat' ((first|(first|apply Zt|apply Zs|apply Zm)<;>intro h|refine vDq ?_)<;>first|simp only[go_sem,h]|simp only[go_sem]|skip)
 all_goals simp_all
def X0 (x:Ln):Bool:=
 if(Vc x).2=Hf\/ ¬x=(Vc x).1 then Hf
 else if x.kind=2\/x.kind=3 then Yc x.fd
 else if Xq x.at'=Hf then Hf
 else if x.kind=1 then ZU x.nm
 else if x.kind=4 then !(x.at'.gr== [])
 else if x.kind=5 then(x.at'.gr== [])&&ZU x.nm
 else if x.kind=6\/x.kind=9 then ZU x.nm&&(ZU x.ot&&(!(x.nm==x.ot)&&(decide (2<=x.fac)&&decide (x.fac<=1000))))
 else if x.kind=7\/x.kind=10 then decide ((x.ot.length:Int)<=40)
 else rtM x
theorem ZdD (x:Ln) (hx:OkLn x):Pp 128 [lns x] (.bool (X0 x)):=by
 have hP:=ZiE x;have hS:=Zbf x (Vc x).1 hx (Zpd hx);have hF:=T4 x.fd (by have:=hx.c;rw[Zc];omega);have hA:=G4 x.at';have hN:=Xs x.nm;have hO:=Xs x.ot;have hT:=Gg x.ot;have hK:=Fv x.fac;have hR:=D9 x hx;unfold X0;generalize Vc x=y at *;obtain⟨y,b⟩:=y;refine ZM func128 rfl ntmps128 results128 ?_;simp only[go_sem,lns];repeat' ((first|(first|apply Zt|apply Zs|apply Zm)<;>intro h|refine vc3 hP ?_|refine vc3 hS ?_|refine vc3 hF ?_|refine vc3 hA ?_|refine vc3 hN ?_|refine vc3 hO ?_|refine vc3 hT ?_|refine vc3 hK ?_|refine vc3 hR ?_|refine vDq ?_)<;>first|simp only[go_sem,h,lnb,lns]|simp only[go_sem,lnb,lns]|skip)
 all_goals (clear hP hS hF hA hN hO hT hK hR hx;simp_all)
open Go.PL
def Ga (x:Ln):Bool:=decide (0<(x.fo.length:Int))||decide (0<(x.ba.length:Int))
def ZG (x:Ln):Bool:=
 if x.kind=2\/x.kind=3 then decide (x.at'=Jd)&&(decide (x.nm= [])&&(decide (x.ot= [])&&(decide (x.fac=0)&&(!Ga x&&Yc x.fd))))
 else(Xq x.at'&&decide (x.fd=Jd))&&(if x.kind=8 then decide (x.fac=0)&&(XY x.fo x.ba&&(XY x.ba x.fo&&((Wf x.fo x.nm).2&&((Wf x.ba x.ot).2&&(((Wf x.fo x.nm).1==x.ot)&&((Wf x.ba x.ot).1==x.nm))))))
  else !Ga x&&(if x.kind=6\/x.kind=9 then ZU x.nm&&(ZU x.ot&&(!(x.nm==x.ot)&&(decide (1<x.fac)&&decide (x.fac<1001))))
   else decide (x.fac=0)&&(if x.kind=7\/x.kind=10 then decide (x.nm= [])&&decide ((x.ot.length:Int)<41)
    else decide (x.ot= [])&&(if x.kind=1 then ZU x.nm else if x.kind=4 then decide (x.nm= [])&& !(x.at'.gr== [])else decide (x.kind=5)&&(decide (x.at'.gr= [])&&ZU x.nm)))))
theorem Znt {t o:List Pr} {s:Str} (h:XY t o=Ht) (hs:Dl t s=Ht):ZU s=true:=by
 simp only[Dl,Kx,beq_iff_eq]at hs;obtain⟨p,hp,rfl⟩:=hs;obtain⟨i,hi,rfl⟩:=Jo hp;simp only[XY,Jk,Kw,Kg]at h;have:=h.2 i hi;simp only[Vw,Jk]at this;have h1:=this.1;rw[Jl,Jy hi]at h1;exact h1
theorem Ti {x:Ln}:Ga x=Hf↔x.fo= []/\x.ba= []:=by
 simp only[Ga,JZ,decide_eq_false_iff_not];constructor;rintro ⟨a,b⟩;exact⟨Ke (by omega),Ke (by omega)⟩;rintro ⟨a,b⟩;rw[a,b];exact⟨by decide,by decide⟩
theorem Znj (x:Ln):X0 x=ZG x:=by
 obtain⟨kind,at',nm,ot,fac,fd,fo,ba⟩:=x;have ht:=Ti (x:=⟨kind,at',nm,ot,fac,fd,fo,ba⟩);simp only at ht;have d1:(Jd:Ln)=⟨0,Jd,[],[],0,Jd,[],[]⟩:=rfl;by_cases k1:kind=1;subst k1;rw[Je];simp[X0,ZG,Vc,ht];constructor;rintro ⟨⟨a,b,c,d,e⟩,f,g⟩;exact⟨⟨f,c⟩,⟨d,e⟩,b,a,g⟩;rintro ⟨⟨f,c⟩,⟨d,e⟩,b,a,g⟩;exact⟨⟨a,b,c,d,e⟩,f,g⟩;by_cases k2:kind=2;subst k2;rw[Je];simp[X0,ZG,Vc,ht,and_assoc];by_cases k3:kind=3;subst k3;rw[Je];simp[X0,ZG,Vc,ht,and_assoc];by_cases k4:kind=4;subst k4;rw[Je];simp[X0,ZG,Vc,ht];constructor;rintro ⟨⟨n,a,b,c,d,e⟩,f,g⟩;exact⟨⟨f,c⟩,⟨d,e⟩,b,a,n,g⟩;rintro ⟨⟨f,c⟩,⟨d,e⟩,b,a,n,g⟩;exact⟨⟨n,a,b,c,d,e⟩,f,g⟩;by_cases k5:kind=5;subst k5;rw[Je];simp[X0,ZG,Vc,ht];constructor;rintro ⟨⟨a,b,c,d,e⟩,f,g⟩;exact⟨⟨f,c⟩,⟨d,e⟩,b,a,g⟩;rintro ⟨⟨f,c⟩,⟨d,e⟩,b,a,g⟩;exact⟨⟨a,b,c,d,e⟩,f,g⟩;by_cases k69:kind=6\/kind=9;have e1:¬(kind=2\/kind=3):=by omega
 have e3:¬(kind=1\/kind=5):=by omega
 have e8:¬kind=8:=by omega
 rw[Je];simp[X0,ZG,Vc,ht,e1,e3,k69,k1,k4,k5,e8];constructor;rintro ⟨⟨a,b,c⟩,f,g,h,i,j,k⟩;exact⟨⟨f,a⟩,⟨b,c⟩,g,h,i,by omega,by omega⟩;rintro ⟨⟨f,a⟩,⟨b,c⟩,g,h,i,j,k⟩;exact⟨⟨a,b,c⟩,f,g,h,i,by omega,by omega⟩;by_cases k7:kind=7\/kind=10;have e1:¬(kind=2\/kind=3):=by omega
 have e3:¬(kind=1\/kind=5):=by omega
 have e8:¬kind=8:=by omega
 rw[Je];simp[X0,ZG,Vc,ht,e1,e3,k69,k7,k1,k4,k5,e8];constructor;rintro ⟨⟨n,b,c,d,e⟩,f,g⟩;exact⟨⟨f,c⟩,⟨d,e⟩,b,n,by omega⟩;rintro ⟨⟨f,c⟩,⟨d,e⟩,b,n,g⟩;exact⟨⟨n,b,c,d,e⟩,f,by omega⟩;by_cases k8:kind=8;subst k8;rw[Je];have hn:XY fo ba=Ht->(Wf fo nm).2=Ht->ZU nm=true:=λh h'=>Znt h (by rw[<-ZdX];exact h')
 simp[X0,ZG,Vc,ht,rtM];constructor;rintro ⟨⟨a,b⟩,f,g,h,i,⟨j,k⟩,l,m⟩;exact⟨⟨f,b⟩,a,h,i,j,l,k,m⟩;rintro ⟨⟨f,b⟩,a,h,i,j,l,k,m⟩;exact⟨⟨a,b⟩,f,hn h j,h,i,⟨j,k⟩,l,m⟩;have e1:¬(kind=2\/kind=3):=by omega
 have e3:¬(kind=1\/kind=5):=by omega
 simp[X0,ZG,Vc,e1,e3,k69,k7,k1,k4,k5,k8]
theorem WE (x:Ln) (hx:OkLn x):Pp 128 [lns x] (.bool (ZG x)):=by
 rw[<-Znj];exact ZdD x hx
theorem ZdN (x:Ln):Pp 166 [lns x] (.bool (Ga x)):=by
 refine ZM func166 rfl ntmps166 results166 ?_;simp only[go_sem,lns];repeat' ((first|(first|apply Zt|apply Zs|apply Zm)<;>intro h|refine vDq ?_)<;>first|simp only[go_sem,h]|simp only[go_sem]|skip)
 all_goals simp_all[Ga]
theorem Zh2 (x:Ln) (hx:OkLn x):Pp 167 [lns x] (.bool (decide (x.fd=Jd))):=by
 have h:=SI x.fd Jd (by have:=hx.c;rw[Zc];omega) (Jb _);refine ZM func167 rfl ntmps167 results167 ?_;simp only[go_sem,lns];refine Zl h ?_ ?_ ?_;simp only[go_sem];rfl;simp only[go_sem]
theorem Uc (x:Ln) (hx:OkLn x):Pp 126 [lns x] (.bool (ZG x)):=by
 have mf:x.fo.length<=maxLen:=by have:=hx.f;rw[Zc];omega
 have mb:x.ba.length<=maxLen:=by have:=hx.b;rw[Zc];omega
 have hF:=UV x.fd (by have:=hx.c;rw[Zc];omega);have hT:=ZdN x;have hA:=SK x.at';have hO:=Zh2 x hx;have h1:=G5 x.fo x.nm mf;have h2:=G5 x.ba x.ot mb;have h3:=FF x.fo x.ba hx.b;have h4:=FF x.ba x.fo hx.f;have h5:=ZT x.nm;have h6:=ZT x.ot;unfold ZG;generalize Wf x.fo x.nm=c at *;generalize Wf x.ba x.ot=d at *;obtain⟨c1,c2⟩:=c;obtain⟨d1,d2⟩:=d;have rd:∀a:Rf,(a.sc==0&&(a.gr== []&&a.nm== []))=decide (a=Jd):=λa=>ZN a Jd
 refine ZM func126 rfl ntmps126 results126 ?_;simp only[go_sem,lns,rd];repeat' ((first|(first|apply Zt|apply Zs|apply Zm)<;>intro h|refine vc3 hF ?_|refine vc3 hT ?_|refine vc3 hA ?_|refine vc3 hO ?_|refine vc3 h1 ?_|refine vc3 h2 ?_|refine vc3 h3 ?_|refine vc3 h4 ?_|refine vc3 h5 ?_|refine vc3 h6 ?_|refine vDq ?_)<;>first|simp only[go_sem,h,ZaT,rd]|simp only[go_sem,ZaT,rd]|skip)
 all_goals (clear hF hT hA hO h1 h2 h3 h4 h5 h6 hx mf mb rd;simp_all)
open Go.PL
theorem Zc9 (r:Rf):(ref r).dids= []:=by simp only[ref,Jz,Jm,Jc]
theorem ZjU (l:List Rf):Jm (l.map ref)= []:=by
 induction l with
 |nil=>rfl
 |cons t l ih=>simp only[Jh,Jm,ih,Zc9,Jc]
theorem GJ (l:List Rf):(refs l).dids= []:=by simp only[refs,Jz,ZjU]
def Zk (r:Rf) (s:Str):Rf:=⟨r.sc,r.gr,s⟩
theorem vc4 {x:Bool} {M:KH} {g:FuncId} {args args':List PV} {K:KR} {r:PV} (h1:Pp g args' r) (h2:K.k r M.m) (h0:Kl M.m args:=by first|(simp only[go_sem,ref,ent,DK,doc,Y3,row,Zh,fld,lns,tg,refs,prs,pr,eg,egs,tgs,lg,lgs,Zk];done)|exact rfl) (he:KQ M.m args=args':=by first|(simp only[go_sem,ref,ent,DK,doc,Y3,row,Zh,fld,lns,tg,refs,prs,pr,eg,egs,tgs,lg,lgs,Zk];done)|exact rfl):@WX prog x M (Hs (g,args)) K:=Zl h1 h0 he h2
theorem UZ (r:Rf) (s:Str):Pp 227 [ref r,.str s] (ref (Zk r s)):=by
 refine ZB func227 rfl ntmps227 results227 (Zc9 _) ?_;simp only[go_sem,ref,Zk]
def ZE (x:Ln):List Rf:=if x.kind=2 then []else if x.kind=3 then [x.fd.at']else if x.kind=9 then [Zk x.at' x.nm,Zk x.at' x.ot]else [x.at']
def Ze (x:Ln):List Rf:=
 if x.kind=1 then [Zk x.at' x.nm]else if x.kind=2 then [x.fd.at']else if x.kind=3 then []else if x.kind=4 then [⟨x.at'.sc,[],x.at'.nm⟩]
 else if x.kind=5 then [⟨x.at'.sc,x.nm,x.at'.nm⟩]else if x.kind=6 then [Zk x.at' x.nm,Zk x.at' x.ot]else [x.at']
def Zej (x:Ln):List Rf:=if ZG x=Ht then ZE x else []
def Zbx (x:Ln):List Rf:=if ZG x=Ht then Ze x else []
theorem Fw (x:Ln) (hx:OkLn x):Pp 179 [lns x] (refs (Zej x)):=by
 have hR:=WE x hx;have h1:=UZ x.at' x.nm;have h2:=UZ x.at' x.ot;unfold Zej;refine ZB func179 rfl ntmps179 results179 (GJ _) ?_;simp only[go_sem,lns];repeat' ((first|(first|apply Zt|apply Zs|apply Zm)<;>intro h|refine vc3 hR ?_|refine vc3 h1 ?_|refine vc3 h2 ?_|refine vDq ?_)<;>first|simp only[go_sem,h,ref]|simp only[go_sem,ref]|skip)
 all_goals (clear hR h1 h2 hx;simp_all[ZE,refs,Zk,ref])
theorem Zbd (x:Ln) (hx:OkLn x):Pp 225 [lns x] (refs (Zbx x)):=by
 have hR:=WE x hx;have h1:=UZ x.at' x.nm;have h2:=UZ x.at' x.ot;unfold Zbx;refine ZB func225 rfl ntmps225 results225 (GJ _) ?_;simp only[go_sem,lns];repeat' ((first|(first|apply Zt|apply Zs|apply Zm)<;>intro h|refine vc3 hR ?_|refine vc3 h1 ?_|refine vc3 h2 ?_|refine vDq ?_)<;>first|simp only[go_sem,h,ref]|simp only[go_sem,ref]|skip)
 all_goals (clear hR h1 h2 hx;simp_all[Ze,refs,Zk,ref])
structure OkFs (l:List Fd):Prop where
 n:l.length<=1000
 c:∀f∈l,f.cases'.length<=1000000
theorem ZfO {α:Type} {l:List α} {k:Nat} {d:α}:l.getD k d∈l\/l.getD k d=d:=by
 by_cases h:k<l.length;exact .inl (ZF h);right;rw[Jl,List.getElem?_eq_none (by omega)];rfl
theorem Zew {l:List Fd} (h:OkFs l) (r:Rf):(Zv l r).1.cases'.length<=1000000:=by
 unfold Zv;split;exact Jb _;rcases ZfO (l:=l) (k:=(idx (atF r) l).toNat) (d:=Jd)with h'|h';exact h.c _ h';rw[h'];exact Jb _
def S4 (l:List Fd) (x:Ln):List Fd×Bool:=
 if(Zv l (Zk x.at' x.nm)).2≠0\/(Zv l (Zk x.at' x.nm)).1.kind≠1 then([],Hf)
 else if(Zv l (Zk x.at' x.ot)).2≠0\/(Zv l (Zk x.at' x.ot)).1.kind≠1\/(Zv l (Zk x.at' x.ot)).1.worth≠IntKind.i64.wrap ((Zv l (Zk x.at' x.nm)).1.worth*x.fac)then([],Hf)
 else([⟨x.at',1,[],[],(Zv l (Zk x.at' x.nm)).1.worth⟩],Ht)
def YS (x:List Fd×Bool):PV:= .tup [Zh x.1,.bool x.2]
theorem YI (x:List Fd×Bool):(YS x).dids= []:=by simp only[YS,Jz,Jm,VR,Jc]
theorem ZfY (l:List Fd) (x:Ln) (hl:OkFs l) (hx:OkLn x) (hr:ZG x=Ht) (h9:x.kind=9):Pp 224 [Zh l,lns x] (YS (S4 l x)):=by
 have hG:=Fw x hx;have hg:Zej x= [Zk x.at' x.nm,Zk x.at' x.ot]:=by simp[Zej,ZE,hr,h9]
 rw[hg]at hG;have f1:=Vy l (Zk x.at' x.nm) (by have:=hl.n;omega) hl.c;have f2:=Vy l (Zk x.at' x.ot) (by have:=hl.n;omega) hl.c;unfold S4;generalize Zv l (Zk x.at' x.nm)=a at *;generalize Zv l (Zk x.at' x.ot)=b at *;obtain⟨a,a0⟩:=a;obtain⟨b,b0⟩:=b;have o1:((0:Int)<1+1)=True:=by simp
 refine ZB func224 rfl ntmps224 results224 (YI _) ?_;simp only[go_sem,Zh,lns];refine vc3 hG ?_;simp only[go_sem,refs,ref];refine vc2 f1 ?_;simp only[go_sem,Uu,fld];repeat' ((first|(first|apply Zt|apply Zs|apply Zm)<;>intro h|refine vc2 f2 ?_|refine vDq ?_)<;>first|simp only[go_sem,h,refs,ref,Uu,fld,Zh]|simp only[go_sem,refs,ref,Uu,fld,Zh]|skip)
 all_goals (clear hG f1 f2 hl hx;simp_all[YS,Zh,fld])
open Go.PL
def Tt (l:List Fd) (x:Ln):List Fd×Bool:=
 if x.kind=2 then([x.fd],Ht)
 else if x.kind=3 then([],decide ((Zv l x.fd.at').2=0)&&decide ((Zv l x.fd.at').1=x.fd))
 else if x.kind=9 then S4 l x
 else if(Zv l x.at').2≠0 then([],Hf)
 else if x.kind=6 then([⟨Zk x.at' x.nm,1,[],[],(Zv l x.at').1.worth⟩,⟨Zk x.at' x.ot,1,[],[],IntKind.i64.wrap ((Zv l x.at').1.worth*x.fac)⟩],decide ((Zv l x.at').1.kind=1))
 else if x.kind=7 then([⟨x.at',4,[],[],0⟩],decide ((Zv l x.at').1.kind=2)&&decide ((Zv l x.at').1.df=x.ot))
 else if x.kind=10 then([⟨x.at',2,x.ot,[],0⟩],decide ((Zv l x.at').1.kind=4))
 else if x.kind=8 then([⟨x.at',3,x.ot,Yt x.ba,0⟩],decide ((Zv l x.at').1=⟨x.at',3,x.nm,Yt x.fo,0⟩))
 else([⟨(Ze x).getD 0 Jd,(Zv l x.at').1.kind,(Zv l x.at').1.df,(Zv l x.at').1.cases',(Zv l x.at').1.worth⟩],Ht)
theorem WL (l:List Pr):(Yt l).length=l.length:=by simp[Yt]
theorem Zct (l:List Fd) (x:Ln) (hl:OkFs l) (hx:OkLn x) (hr:ZG x=Ht):Pp 178 [Zh l,lns x] (YS (Tt l x)):=by
 have hn:=hl.n;have hO:=Wg x.fd hx.c;have okA:=Zew hl x.at';have okF:=Zew hl x.fd.at';have f1:=Vy l x.fd.at' (by omega) hl.c;have f2:=Vy l x.at' (by omega) hl.c;have s1:=G0 (Zv l x.fd.at').1 x.fd (by rw[Zc];omega) (by have:=hx.c;rw[Zc];omega);have s2:=G0 (Zv l x.at').1 ⟨x.at',3,x.nm,Yt x.fo,0⟩ (by rw[Zc];omega) (by have:=hx.f;simp only[WL];rw[Zc];omega);have r1:=ZbL x.fo hx.f;have r2:=ZbL x.ba hx.b;have hC:=Zbd x hx;have hc:Zbx x=Ze x:=by simp[Zbx,hr]
 rw[hc]at hC;unfold Tt;by_cases k9:x.kind=9;have hM:=ZfY l x hl hx hr k9;rw[if_neg (by omega),if_neg (by omega),if_pos k9];generalize S4 l x=y at *;obtain⟨y,b⟩:=y;have e2:(x.kind==2)=false:=by rw[k9];rfl
 have e3:(x.kind==3)=false:=by rw[k9];rfl
 have e9:(x.kind==9)=true:=by rw[k9];rfl
 refine ZB func178 rfl ntmps178 results178 (YI _) ?_;simp only[go_sem,Zh,lns,e2,e3,e9];refine vc3 hM ?_;simp only[go_sem,YS,Zh];have e9:(x.kind==9)=false:=beq_eq_false_iff_ne.2 k9;rw[if_neg k9];generalize Zv l x.fd.at'=a at *;generalize Zv l x.at'=b at *;obtain⟨a,a0⟩:=a;obtain⟨b,b0⟩:=b;simp only at *;by_cases k2:x.kind=2;have e2:(x.kind==2)=true:=by rw[k2];rfl
 rw[if_pos k2];refine ZB func178 rfl ntmps178 results178 (YI _) ?_;simp only[go_sem,Zh,lns,e2];refine vc2 hO ?_;simp only[go_sem,YS,Zh,fld];have e2:(x.kind==2)=false:=beq_eq_false_iff_ne.2 k2;rw[if_neg k2];by_cases k3:x.kind=3
 ·have e3:(x.kind==3)=true:=by rw[k3];rfl
  rw[if_pos k3];refine ZB func178 rfl ntmps178 results178 (YI _) ?_;simp only[go_sem,Zh,lns,e2,e3];refine vc2 f1 ?_;simp only[go_sem,Uu,fld];repeat' ((first|(first|apply Zt|apply Zs|apply Zm)<;>intro h|refine vc2 s1 ?_|refine vDq ?_)<;>first|simp only[go_sem,h,Uu,fld,Zh]|simp only[go_sem,Uu,fld,Zh]|skip)
  all_goals (clear hO f1 f2 s1 s2 r1 r2 hC hl hx okA okF;simp_all[YS,Zh,fld])
 have e3:(x.kind==3)=false:=beq_eq_false_iff_ne.2 k3;rw[if_neg k3];by_cases hb:b0=0;subst hb;simp only[ne_eq,not_true_eq_false,if_false];by_cases k6:x.kind=6
 ·have e6:(x.kind==6)=true:=by rw[k6];rfl
  have hcc:Ze x= [Zk x.at' x.nm,Zk x.at' x.ot]:=by simp[Ze,k6]
  rw[hcc]at hC;rw[if_pos k6];refine ZB func178 rfl ntmps178 results178 (YI _) ?_;simp only[go_sem,Zh,lns,e2,e3,e9];refine vc2 f2 ?_;simp only[go_sem,Uu,fld];refine vc3 hC ?_;simp only[go_sem,refs,ref,e6];repeat' ((first|(first|apply Zt|apply Zs|apply Zm)<;>intro h|refine vDq ?_)<;>first|simp only[go_sem,h,refs,ref,fld]|simp only[go_sem,refs,ref,fld]|skip)
  all_goals (clear hO f1 f2 s1 s2 r1 r2 hC hl hx okA okF;simp_all[YS,Zh,fld]<;>(first|rfl|(rw[Je];simp)))
 have e6:(x.kind==6)=false:=beq_eq_false_iff_ne.2 k6;rw[if_neg k6];by_cases k7:x.kind=7
 ·have e7:(x.kind==7)=true:=by rw[k7];rfl
  rw[if_pos k7];refine ZB func178 rfl ntmps178 results178 (YI _) ?_;simp only[go_sem,Zh,lns,e2,e3,e9];refine vc2 f2 ?_;simp only[go_sem,Uu,fld];refine vc3 hC ?_;simp only[go_sem,refs,e6,e7];repeat' ((first|(first|apply Zt|apply Zs|apply Zm)<;>intro h|refine vDq ?_)<;>first|simp only[go_sem,h]|simp only[go_sem]|skip)
  all_goals (clear hO f1 f2 s1 s2 r1 r2 hC hl hx okA okF;simp_all[YS,Zh,fld]<;>(first|rfl|(rw[Je];simp)))
 have e7:(x.kind==7)=false:=beq_eq_false_iff_ne.2 k7;rw[if_neg k7];by_cases k10:x.kind=10
 ·have e10:(x.kind==10)=true:=by rw[k10];rfl
  rw[if_pos k10];refine ZB func178 rfl ntmps178 results178 (YI _) ?_;simp only[go_sem,Zh,lns,e2,e3,e9];refine vc2 f2 ?_;simp only[go_sem,Uu,fld];refine vc3 hC ?_;simp only[go_sem,refs,e6,e7,e10];repeat' ((first|(first|apply Zt|apply Zs|apply Zm)<;>intro h|refine vDq ?_)<;>first|simp only[go_sem,h]|simp only[go_sem]|skip)
  all_goals (clear hO f1 f2 s1 s2 r1 r2 hC hl hx okA okF;simp_all[YS,Zh,fld]<;>(first|rfl|(rw[Je];simp)))
 have e10:(x.kind==10)=false:=beq_eq_false_iff_ne.2 k10;rw[if_neg k10];by_cases k8:x.kind=8
 ·have e8:(x.kind==8)=true:=by rw[k8];rfl
  rw[if_pos k8];refine ZB func178 rfl ntmps178 results178 (YI _) ?_;simp only[go_sem,Zh,lns,e2,e3,e9];refine vc2 f2 ?_;simp only[go_sem,Uu,fld];refine vc3 hC ?_;simp only[go_sem,refs,e6,e7,e10,e8];repeat' ((first|(first|apply Zt|apply Zs|apply Zm)<;>intro h|refine vc3 r1 ?_|refine vc3 r2 ?_|refine vc3 s2 ?_|refine vDq ?_)<;>first|simp only[go_sem,h,Y3,fld]|simp only[go_sem,Y3,fld]|skip)
  all_goals (clear hO f1 f2 s1 s2 r1 r2 hC hl hx okA okF;simp_all[YS,Zh,fld])
 have e8:(x.kind==8)=false:=beq_eq_false_iff_ne.2 k8;rw[if_neg k8];have hk:x.kind=1\/x.kind=4\/x.kind=5:=by
  refine Kk λhne=> ?_
  simp[ZG,k2,k3,k6,k7,k8,k9,k10,show ¬x.kind=1 by omega,show ¬x.kind=4 by omega,show ¬x.kind=5 by omega]at hr
 obtain⟨c,hcc⟩:∃c,Ze x= [c]:=by
  rcases hk with h|h|h<;>simp[Ze,h]
 rw[hcc]at hC ⊢;refine ZB func178 rfl ntmps178 results178 (YI _) ?_;simp only[go_sem,Zh,lns,e2,e3,e9];refine vc2 f2 ?_;simp only[go_sem,Uu,fld];refine vc3 hC ?_;simp only[go_sem,refs,ref,e6,e7,e10,e8,YS,Zh,fld];have hb':(b0 !=0)=true:=bne_iff_ne.2 hb;rw[if_pos hb];refine ZB func178 rfl ntmps178 results178 (YI _) ?_;simp only[go_sem,Zh,lns,e2,e3,e9];refine vc2 f2 ?_;simp only[go_sem,Uu,fld,hb',YS,Zh]
open Go.PL
def Tu:List Rf->List Fd->Option (List Fd)
 | [],l=>Hs l
 |r::rs,l=>if(YF l r).2≠0 then none else Tu rs (YF l r).1
def YE:List Fd->List Fd->Option (List Fd)
 | [],l=>Hs l
 |f::fs,l=>if(Vn l f).2≠0 then none else YE fs (Vn l f).1
def Gn (l:List Fd) (x:Ln):Option (List Fd):=if(Tt l x).2=Hf then none else(Tu (ZE x) l).bind (YE (Tt l x).1)
def Yb (l:List Fd) (x:Ln):List Fd×Int:=
 if Z7 l=Hf\/ZG x=Hf then([],5)else match Gn l x with|none=>([],16)|some m=>(m,0)
theorem Zah {l:List Fd} (h:OkFs l) (r:Rf):OkFs (YF l r).1:=by
 unfold YF;split;exact⟨Jb _,λf hf=>by cases hf⟩;split;exact⟨Jb _,λf hf=>by cases hf⟩;exact⟨KE (J7 _ _) h.n,λf hf=>h.c f (List.mem_of_mem_eraseIdx hf)⟩
theorem Zpb {l:List Fd} {f x:Fd} (h:x∈Za1 l f):x∈l\/x=f:=by
 unfold Za1 at h;rcases JI.1 h with h|h;exact .inl (List.takeWhile_subset _ h);rcases Ju.1 h with h|h;exact .inr h;exact .inl (List.dropWhile_subset _ h)
theorem ZkJ {l:List Fd} (h:OkFs l) {f:Fd} (hf:f.cases'.length<=1000000):OkFs (Vn l f).1:=by
 unfold Vn;split;exact⟨Jb _,λf hf=>by cases hf⟩;split;exact⟨Jb _,λf hf=>by cases hf⟩;split;exact⟨Jb _,λf hf=>by cases hf⟩;refine⟨by simp only[SY];omega,λg hg=> ?_⟩;rcases Zpb hg with h'|h';exact h.c g h';rw[h'];exact hf
theorem ZqS {l:List Fd} {x:Ln} (hl:OkFs l) (hx:OkLn x):OkFs (Tt l x).1:=by
 have o1:∀f:Fd,f.cases'.length<=1000000->OkFs [f]:=λf hf=>⟨by simp,λg hg=>by rw[JF.1 hg];exact hf⟩
 have o0:OkFs []:=⟨Jb _,λf hf=>by cases hf⟩;unfold Tt;split;exact o1 _ hx.c;split;exact o0;split;unfold S4;split;exact o0;split;exact o0;exact o1 _ (Jb _);split;exact o0;split;refine⟨by simp,λf hf=> ?_⟩;simp only[Ju,Ky,or_false]at hf;rcases hf with rfl|rfl<;>exact Jb _
 split;exact o1 _ (Jb _);split;exact o1 _ (Jb _);split;exact o1 _ (by simp only[WL];exact hx.b);exact o1 _ (Zew hl _)
theorem ZhJ (l:List Fd) (x:Ln) (hl:OkFs l) (hx:OkLn x):Pp 131 [Zh l,lns x] (ZC (Yb l x)):=by
 have hn:=hl.n;have hS:=SN l (by rw[Zc];omega) (λf hf=>by have:=hl.c f hf;rw[Zc];omega);have hR:=WE x hx;unfold Yb;cases hsr:Z7 l;rw[hsr]at hS;refine ZB func131 rfl ntmps131 results131 (ZD _) ?_;simp only[go_sem,Zh,lns];refine vc2 hS ?_;simp only[go_sem,if_true,ZC,Zh];rw[hsr]at hS;cases hlr:ZG x;rw[hlr]at hR;refine ZB func131 rfl ntmps131 results131 (ZD _) ?_;simp only[go_sem,Zh,lns];refine vc2 hS ?_;simp only[go_sem];refine vc3 hR ?_;simp only[go_sem,if_true,ZC,Zh];rw[hlr]at hR;simp only[Jp,or_self,if_false];have hA:=Zct l x hl hx hlr;have okA:=ZqS hl hx;unfold Gn;generalize Tt l x=y at *;obtain⟨come,ok⟩:=y;simp only at okA ⊢;cases ok;simp only[if_true];refine ZB func131 rfl ntmps131 results131 (ZD _) ?_;simp only[go_sem,Zh,lns];refine vc2 hS ?_;simp only[go_sem];refine vc3 hR ?_;simp only[go_sem];refine vc3 hA ?_;simp only[go_sem,YS,ZC,Zh];simp only[Jp,if_false];have hO:=ZdO l (by omega) hl.c;have hG:=Fw x hx;have hg:Zej x=ZE x:=by simp[Zej,hlr]
 rw[hg]at hG;have hgl:(ZE x).length<=maxLen:=by
  have:(ZE x).length<=2:=by
   unfold ZE;split;simp;split;simp;split<;>simp
  rw[Zc];omega
 generalize ZE x=goes at *;generalize hGo:Tu goes l=G;refine ZB func131 rfl ntmps131 results131 (ZD _) ?_;simp only[go_sem,Zh,lns];refine vc2 hS ?_;simp only[go_sem];refine vc3 hR ?_;simp only[go_sem];refine vc3 hA ?_;simp only[go_sem,YS,Zh];refine vc2 hO ?_;simp only[go_sem,Zh,lns];refine vc3 hG ?_;simp only[go_sem,refs];refine ZA (ι:= { x:Nat×(List Fd) // x.1<=(goes).length/\(OkFs x.2/\Tu (goes.drop x.1) x.2=G) }) 64 (λx=> [(6,Zh come),(8,Zh x.1.2),(33,refs goes),(34,.int .i64 (goes.length:Int)),(35,.int .i64 (x.1.1:Int))]) (λx=> []) (λx=> []) (λx=>(goes).length-x.1.1) ⟨(0,l),Jb _,⟨hl,hGo⟩⟩ ⟨rfl,(Fc5 rfl rfl rfl rfl rfl),fnl,fnl⟩ (λx=>⟨(Fc5 rfl rfl rfl rfl rfl),fnl⟩) (λx=> ?_);obtain⟨⟨k,out⟩,hk,hI⟩:=x;simp only at hk hI ⊢;obtain⟨okO,hI⟩:=hI;have hon:=okO.n;by_cases h:(k:Int)<(goes.length:Int)
 (have hka:k<(goes).length:=by omega);(have w1:=WD hka (hgl));(have i1:=Ja k)
 have hW:=ZdQ out (goes.getD k Jd) (by omega) okO.c;have okW:=Zah okO (goes.getD k Jd);rw[Y5 hka (d:=Jd),Tu]at hI;generalize YF out (goes.getD k Jd)=w at *;obtain⟨w,c⟩:=w;simp only at hI okW;by_cases hc:c=0
 ·subst hc;simp only[ne_eq,not_true_eq_false,if_false]at hI;simp only[go_sem,refs,h,i1,Z9 hka,ref];refine vc2 hW ?_;simp only[go_sem,ZC,Zh,w1];exact⟨⟨(k+1,w),by(try simp only);omega,⟨okW,hI⟩⟩,by show(goes).length-(k+1)<(goes).length-k;omega,⟨rfl,(Fc5 rfl rfl rfl rfl rfl),fnl,fnl⟩⟩
 have hc':(c !=0)=true:=bne_iff_ne.2 hc;simp only[ne_eq,hc,not_false_eq_true,if_true]at hI;subst hI;simp only[go_sem,refs,h,i1,Z9 hka,ref];refine vc2 hW ?_;simp only[go_sem,ZC,Zh,hc',Option.bind_none];obtain rfl:k=goes.length:=by omega
 rw[J2,Tu]at hI;subst hI;have hcl:come.length<=maxLen:=by have:=okA.n;rw[Zc];omega
 simp only[go_sem,h,Zh];refine ZA (ι:= { x:Nat×(List Fd) // x.1<=(come).length/\(OkFs x.2/\YE (come.drop x.1) x.2=YE come out) }) 64 (λx=> [(8,Zh x.1.2),(48,Zh come),(49,.int .i64 (come.length:Int)),(50,.int .i64 (x.1.1:Int))]) (λx=> []) (λx=> []) (λx=>(come).length-x.1.1) ⟨(0,out),Jb _,⟨okO,rfl⟩⟩ ⟨rfl,(Fc4 rfl rfl rfl rfl),fnl,fnl⟩ (λx=>⟨(Fc4 rfl rfl rfl rfl),fnl⟩) (λx=> ?_);obtain⟨⟨kb,o2⟩,hkb,hIb⟩:=x;simp only at hkb hIb ⊢;obtain⟨ok2,hIb⟩:=hIb;have hon2:=ok2.n;by_cases hb:(kb:Int)<(come.length:Int)
 (have hkab:kb<(come).length:=by omega);(have w1b:=WD hkab (hcl));(have i1b:=Ja kb)
 have hcf:=okA.c _ (ZF hkab (d:=Jd));have hW:=Zju o2 (come.getD kb Jd) (by omega) ok2.c hcf;have okW:=ZkJ ok2 hcf;rw[Y5 hkab (d:=Jd),YE]at hIb;generalize Vn o2 (come.getD kb Jd)=w at *;obtain⟨w,c⟩:=w;simp only at hIb okW;by_cases hc:c=0
 ·subst hc;simp only[ne_eq,not_true_eq_false,if_false]at hIb;simp only[go_sem,Zh,hb,i1b,Zx hkab,fld];refine vc2 hW ?_;simp only[go_sem,ZC,Zh,w1b];exact⟨⟨(kb+1,w),by(try simp only);omega,⟨okW,hIb⟩⟩,by show(come).length-(kb+1)<(come).length-kb;omega,⟨rfl,(Fc4 rfl rfl rfl rfl),fnl,fnl⟩⟩
 have hc':(c !=0)=true:=bne_iff_ne.2 hc;simp only[ne_eq,hc,not_false_eq_true,if_true]at hIb;simp only[go_sem,Zh,hb,i1b,Zx hkab,fld];refine vc2 hW ?_;simp only[go_sem,ZC,Zh,hc',<-hIb,Kc];obtain rfl:kb=come.length:=by omega
 rw[J2,YE]at hIb;simp only[go_sem,Zh,hb,<-hIb,ZC,Kc]
open Go.PL
def Zq7 (fo ba:List Pr) (p:Pr):Bool:=(Wf fo p.fr').2&&((Wf ba (Wf fo p.fr').1).2&&((Wf ba (Wf fo p.fr').1).1==p.fr'))
def Zq6 (fo ba:List Pr):Bool:=fo.all (Zq7 fo ba)
def ZsY (x:Ln) (r:Rf):Bool:=
 if ZG x=Hf then Hf else if idx (λa=>decide (r=a)) (ZE x)<0 then Ht
 else if x.kind=1\/x.kind=4\/x.kind=5\/x.kind=6\/x.kind=7\/x.kind=10 then Ht
 else if x.kind=9 then idx (λa=>decide (r=a)) (ZE x)==0
 else if x.kind=8 then Zq6 x.fo x.ba else Hf
theorem F4 (x:Ln):(ZE x).length<=2:=by
 unfold ZE;split;simp;split;simp;split<;>simp
def Zon (x:Ln) (r:Rf):Rf×Bool:=
 if ZG x=Hf then(Jd,Hf)else if((ZE x).any λa=>decide (r=a))=Hf then(r,Ht)
 else if(Ze x).length=0 then(Jd,Hf)else((Ze x).getD 0 Jd,Ht)
def ZbP (x:Ln):Ln:=
 if x.kind=1 then⟨1,⟨x.at'.sc,x.at'.gr,x.nm⟩,x.at'.nm,x.ot,x.fac,x.fd,x.fo,x.ba⟩
 else if x.kind=2 then⟨3,x.at',x.nm,x.ot,x.fac,x.fd,x.fo,x.ba⟩
 else if x.kind=3 then⟨2,x.at',x.nm,x.ot,x.fac,x.fd,x.fo,x.ba⟩
 else if x.kind=4 then⟨5,⟨x.at'.sc,[],x.at'.nm⟩,x.at'.gr,x.ot,x.fac,x.fd,x.fo,x.ba⟩
 else if x.kind=5 then⟨4,⟨x.at'.sc,x.nm,x.at'.nm⟩,[],x.ot,x.fac,x.fd,x.fo,x.ba⟩
 else if x.kind=6 then⟨9,x.at',x.nm,x.ot,x.fac,x.fd,x.fo,x.ba⟩
 else if x.kind=9 then⟨6,x.at',x.nm,x.ot,x.fac,x.fd,x.fo,x.ba⟩
 else if x.kind=7 then⟨10,x.at',x.nm,x.ot,x.fac,x.fd,x.fo,x.ba⟩
 else if x.kind=10 then⟨7,x.at',x.nm,x.ot,x.fac,x.fd,x.fo,x.ba⟩
 else if x.kind=8 then⟨8,x.at',x.ot,x.nm,x.fac,x.fd,x.ba,x.fo⟩else x
def lnc (x:Ln×Int):PV:= .tup [lns x.1,.int .i64 x.2]
theorem Wp (x:Ln×Int):(lnc x).dids= []:=by simp only[lnc,Jz,Jm,Fm,Jc]
def Zn2 (x:Ln):Ln×Int:=if ZG x=Hf then(Jd,5)else(ZbP x,0)
theorem ZdC (x:Ln) (hx:OkLn x):Pp 268 [lns x] (lnc (Zn2 x)):=by
 have hR:=WE x hx;have hO:=Fx x hx;unfold Zn2;cases hlr:ZG x;rw[hlr]at hR;refine ZB func268 rfl ntmps268 results268 (Wp _) ?_;simp only[go_sem,lns];refine vc3 hR ?_;simp only[go_sem,if_true,lnc,U7];rw[hlr]at hR;refine ZB func268 rfl ntmps268 results268 (Wp _) ?_;simp only[go_sem,lns];refine vc3 hR ?_;simp only[go_sem,lns];refine vc3 hO ?_;simp only[go_sem,lns];repeat' ((first|(first|apply Zt|apply Zs|apply Zm)<;>intro h|refine ZhE [(1,4)] (by kernel_rfl) (by kernel_rfl) (by exact rfl) ?_|refine vDq ?_)<;>first|simp only[go_sem,h]|simp only[go_sem]|skip)
 all_goals (simp only[beq_iff_eq,beq_eq_false_iff_ne,ne_eq]at *;clear hR hO hx;simp[ZbP,lnc,lns, *])
def Xw (l:List Rf) (r:Rf):Int:=idx (λa=>decide (r=a)) l
theorem DS (l:List Rf) (r:Rf):Xw l r= -1\/ ∃g:Nat,g<l.length/\Xw l r=(g:Int):=Xj _ _
open Go.PL
theorem ZgV (l:List Tg):Jm (l.map tg)= []:=by
 induction l with
 |nil=>rfl
 |cons t l ih=>simp only[Jh,Jm,ih,tg,Jz,Jc]
theorem W5 (l:List Tg):Sized 2 (l.map tg):=λe he=>by
 obtain⟨x,_,rfl⟩:=Jr.1 he;rfl
theorem Gp (l:List Tg):Vo (l.map tg):=λe he=>by
 obtain⟨x,_,rfl⟩:=Jr.1 he;rfl
def W6 (t:Tg):Bool:=decide (1<=t.r)&&(decide (t.r<=6)&&(decide (1<=t.n)&&decide (t.n<=1099511627776)))
theorem T5 (t:Tg):Pp 102 [tg t] (.bool (W6 t)):=by
 refine ZM func102 rfl ntmps102 results102 ?_;simp only[go_sem,tg];repeat' ((first|(first|apply Zt|apply Zs|apply Zm)<;>intro h|refine vDq ?_)<;>first|simp only[go_sem,h]|simp only[go_sem]|skip)
 all_goals (simp_all[W6]<;>(intros;omega))
def Ye (a b:Tg):Bool:=if a.r=b.r then decide (a.n<b.n)else decide (a.r<b.r)
theorem Zbr (a b:Tg):Pp 139 [tg a,tg b] (.bool (Ye a b)):=by
 refine ZM func139 rfl ntmps139 results139 ?_;simp only[go_sem,tg];repeat' ((first|(first|apply Zt|apply Zs|apply Zm)<;>intro h|refine vDq ?_)<;>first|simp only[go_sem,h]|simp only[go_sem]|skip)
 all_goals simp_all[Ye]
open Go.PL
structure Opn where
 id:Tg
 sch:Tg
 time:Int
 cart:Str
 kind:Int
 item:Str
 at':Rf
 delta:Int
 has:Bool
 text:Str
 drops:List Tg
 deriving DecidableEq,Inhabited
def opv (o:Opn):PV:= .agg [.int .i64 o.id.r,.int .i64 o.id.n,.int .i64 o.sch.r,.int .i64 o.sch.n,.int .i64 o.time,.str o.cart,.int .i64 o.kind,.str o.item,.int .i64 o.at'.sc,.str o.at'.gr,.str o.at'.nm,.int .i64 o.delta,.bool o.has,.str o.text,.sl .no (o.drops.map tg)]
theorem vc6 {x:Bool} {M:KH} {g:FuncId} {args args':List PV} {K:KR} {r:PV} (h1:Pp g args' r) (h2:K.k r M.m) (h0:Kl M.m args:=by first|(simp only[go_sem,ref,ent,DK,doc,Y3,row,Zh,fld,lns,tg,refs,prs,pr,eg,egs,tgs,lg,lgs,Zk,opv];done)|exact rfl) (he:KQ M.m args=args':=by first|(simp only[go_sem,ref,ent,DK,doc,Y3,row,Zh,fld,lns,tg,refs,prs,pr,eg,egs,tgs,lg,lgs,Zk,opv];done)|exact rfl):@WX prog x M (Hs (g,args)) K:=Zl h1 h0 he h2
theorem Sk (o:Opn):(opv o).dids= []:=by simp only[opv,Jz,Jm,ZgV,Jc]
theorem Za:opv Jd= .agg [.int .i64 0,.int .i64 0,.int .i64 0,.int .i64 0,.int .i64 0,.str [],.int .i64 0,.str [],.int .i64 0,.str [],.str [],.int .i64 0,.bool Hf,.str [],.sl .no []]:=rfl
theorem Zbh (a b:Opn) (ha:a.drops.length<=maxLen) (hb:b.drops.length<=maxLen):Pp 58 [opv a,opv b] (.bool (decide (a=b))):=by
 have hE:=Zje a.drops b.drops ha hb;refine ZM func58 rfl ntmps58 results58 ?_;simp only[go_sem,opv,ZN,ZL,K1,Kd];repeat' ((first|(first|apply Zt|apply Zs|apply Zm)<;>intro h|refine vc3 hE ?_|refine vDq ?_)<;>first|simp only[go_sem,h,ZN,ZL]|simp only[go_sem,ZN,ZL]|skip)
 all_goals (clear hE ha hb;(cases a;cases b;simp_all)<;>rfl)
theorem SJ (a b:Opn) (ha:a.drops.length<=maxLen) (hb:b.drops.length<=maxLen):Pp 14 [opv a,opv b] (.bool (decide (a=b))):=by
 have hE:=ZhT a.drops b.drops ha hb;refine ZM func14 rfl ntmps14 results14 ?_;simp only[go_sem,opv,ZN,ZL,K1,Kd];repeat' ((first|(first|apply Zt|apply Zs|apply Zm)<;>intro h|refine vc3 hE ?_|refine vDq ?_)<;>first|simp only[go_sem,h,ZN,ZL]|simp only[go_sem,ZN,ZL]|skip)
 all_goals (clear hE ha hb;(cases a;cases b;simp_all)<;>rfl)
def SB (o:Opn):Bool:=Ws 200 o.cart||(Ws 200 o.item||(Ws 200 o.at'.gr||(Ws 200 o.at'.nm||(Ws 200 o.text||decide (200<(o.drops.length:Int))))))
theorem ZdI (o:Opn):Pp 30 [opv o] (.bool (SB o)):=by
 refine ZM func30 rfl ntmps30 results30 ?_;simp only[go_sem,opv];repeat' ((first|(first|apply Zt|apply Zs|apply Zm)<;>intro h|refine vDq ?_)<;>first|simp only[go_sem,h]|simp only[go_sem]|skip)
 all_goals (first|(simp_all[SB,Ws];done)|(rw[Je];simp[SB,Ws]at *;omega))
def Yv (o:Opn):Bool:=(o.kind==3)||(o.kind==4)
theorem S6 (o:Opn):Pp 54 [opv o] (.bool (Yv o)):=by
 refine ZM func54 rfl ntmps54 results54 ?_;simp only[go_sem,opv];repeat' ((first|(first|apply Zt|apply Zs|apply Zm)<;>intro h|refine vDq ?_)<;>first|simp only[go_sem,h]|simp only[go_sem]|skip)
 all_goals simp_all[Yv]
def Y1 (o:Opn) (i:Nat):Bool:=W6 (o.drops.getD i Jd)&&(!(decide (o.drops.getD i Jd=o.id))&&(decide (i=0)||Ye (o.drops.getD (i-1) Jd) (o.drops.getD i Jd)))
def W9 (o:Opn):Bool:= !decide (60<(o.drops.length:Int))&&(JS o.drops.length).all (Y1 o)
def Xc (o:Opn):List PV:= [.int .i64 o.id.r,.int .i64 o.id.n,.int .i64 o.sch.r,.int .i64 o.sch.n,.int .i64 o.time,.str o.cart,.int .i64 o.kind,.str o.item,.int .i64 o.at'.sc,.str o.at'.gr,.str o.at'.nm,.int .i64 o.delta,.bool o.has,.str o.text,.sl .no (o.drops.map tg)]
theorem Zau (o:Opn):Pp 105 [opv o] (.bool (W9 o)):=by
 by_cases h60:60<(o.drops.length:Int);refine ZM func105 rfl ntmps105 results105 ?_;simp only[go_sem,opv,h60,W9,Jg];have hm:o.drops.length<=maxLen:=by rw[Zc];omega
 have hx:W9 o=(JS o.drops.length).all (Y1 o):=by simp only[W9,h60,decide_false,JO,Jn]
 rw[hx];refine ZM func105 rfl ntmps105 results105 ?_;simp only[go_sem,opv,h60];refine ZA (ι:= { x:Nat // x<=(o.drops).length/\(∀j,j<x->Y1 o j=Ht) }) 40 (λx=> [(1,.ptr 1 0),(10,.sl .no (o.drops.map tg)),(11,.int .i64 (o.drops.length:Int)),(12,.int .i64 (x.1:Int))]) (λx=> [(1,Xc o,Hf)]) (λx=> []) (λx=>(o.drops).length-x.1) ⟨0,Jb _,λj hj=>absurd hj (Jf j)⟩ ⟨rfl,(Fc4 rfl rfl rfl rfl),(fcs ⟨rfl,rfl⟩ fnl),fnl⟩ (λx=>⟨(Fc4 rfl rfl rfl rfl),(fcs rfl fnl)⟩) (λx=> ?_);obtain⟨k,hk,hI⟩:=x;simp only at hk hI ⊢;by_cases h:(k:Int)<(o.drops.length:Int)
 (have hka:k<(o.drops).length:=by omega);(have w1:=WD hka (hm));(have i1:=Ja k)
 have hT:=T5 (o.drops.getD k Jd);cases ht:W6 (o.drops.getD k Jd);rw[ht]at hT;have hz:=Yl (p:=Y1 o) hka (by simp only[Y1,ht,Jg]);simp only[go_sem,Xc,h,ZO hka,tg,i1];refine vc3 hT ?_;simp only[go_sem,hz];rw[ht]at hT;cases he:decide (o.drops.getD k Jd=o.id);by_cases h0:0<(k:Int);have hk1:k-1<o.drops.length:=by omega
 have w2:IntKind.i64.wrap ((k:Int)-1)=((k-1:Nat):Int):=by rw[w64 (by omega)];omega
 have j1:(0:Int)<=((k-1:Nat):Int):=by omega
 have j2:((k-1:Nat):Int)<(o.drops.length:Int):=by omega
 have hL:=Zbr (o.drops.getD (k-1) Jd) (o.drops.getD k Jd);cases hb:Ye (o.drops.getD (k-1) Jd) (o.drops.getD k Jd);rw[hb]at hL;have hz:=Yl (p:=Y1 o) hka (by simp only[Y1,hb,decide_eq_false (show ¬k=0 by omega),KP,JA]);simp only[go_sem,Xc,h,ZO hka,tg,i1];refine vc3 hT ?_;simp only[go_sem,ZL,he];refine vDq ?_;simp only[go_sem,h0,w2,ZO hk1,ZO hka,tg,h,i1,j1,j2];refine vc3 hL ?_;simp only[go_sem,hz]
 ·rw[hb]at hL;have ok:Y1 o k=true:=by simp only[Y1,ht,he,hb,KD,JO,Jw]
  simp only[go_sem,Xc,h,ZO hka,tg,i1];refine vc3 hT ?_;simp only[go_sem,ZL,he];refine vDq ?_;simp only[go_sem,h0,w2,ZO hk1,ZO hka,tg,h,i1,j1,j2];refine vc3 hL ?_;simp only[go_sem,w1];exact⟨⟨k+1,by(try simp only);omega,Zu hI ok⟩,by show(o.drops).length-(k+1)<(o.drops).length-k;omega,⟨rfl,(Fc4 rfl rfl rfl rfl),(fcs ⟨rfl,rfl⟩ fnl),fnl⟩⟩
 ·have ok:Y1 o k=true:=by simp only[Y1,ht,he,decide_eq_true (show k=0 by omega),Kf,JO,Jw]
  simp only[go_sem,Xc,h,ZO hka,tg,i1];refine vc3 hT ?_;simp only[go_sem,ZL,he];refine vDq ?_;simp only[go_sem,h0,w1];exact⟨⟨k+1,by(try simp only);omega,Zu hI ok⟩,by show(o.drops).length-(k+1)<(o.drops).length-k;omega,⟨rfl,(Fc4 rfl rfl rfl rfl),(fcs ⟨rfl,rfl⟩ fnl),fnl⟩⟩
 have hz:=Yl (p:=Y1 o) hka (by simp only[Y1,he,Ku,Jg,JA]);simp only[go_sem,Xc,h,ZO hka,tg,i1];refine vc3 hT ?_;simp only[go_sem,ZL,he,hz];have hz:=UJ (p:=Y1 o) (n:=o.drops.length) (λj hj=>hI j (by omega));simp only[go_sem,h,hz]
def Yj (o:Opn):Opn×Bool:=
 if o.kind=1 then(⟨o.id,o.sch,o.time,o.cart,o.kind,o.item,Jd,0,Hf,[],[]⟩,Ht)
 else if o.kind=2 then(⟨o.id,o.sch,o.time,o.cart,o.kind,o.item,Jd,0,Hf,[],o.drops⟩,Ht)
 else if o.kind=3 then(⟨o.id,o.sch,o.time,o.cart,o.kind,if o.at'.sc=1 then o.item else [],o.at',o.delta,Hf,[],[]⟩,Ht)
 else if o.kind=4 then(⟨o.id,o.sch,o.time,o.cart,o.kind,if o.at'.sc=1 then o.item else [],o.at',0,o.has,if o.has=Ht then o.text else [],o.drops⟩,Ht)
 else if o.kind=5 then(⟨o.id,o.sch,o.time,o.cart,o.kind,[],Jd,0,Hf,[],o.drops⟩,Ht)
 else(Jd,Hf)
def opb (x:Opn×Bool):PV:= .tup [opv x.1,.bool x.2]
theorem Zo (x:Opn×Bool):(opb x).dids= []:=by simp only[opb,Jz,Jm,Sk,Jc]
theorem Zez (o:Opn):Pp 101 [opv o] (opb (Yj o)):=by
 have hP:=S6 o;unfold Yv at hP;obtain⟨id,sch,time,cart,kind,item,at',delta,has,text,drops⟩:=o;cases has;all_goals
  refine ZB func101 rfl ntmps101 results101 (Zo _) ?_;simp only[go_sem,opv];repeat' ((first|(first|apply Zt|apply Zs|apply Zm)<;>intro h|refine vc6 hP ?_|refine ZhE [(1,4)] (by kernel_rfl) (by kernel_rfl) (by exact rfl) ?_|refine vDq ?_)<;>first|simp only[go_sem,h]|simp only[go_sem]|skip)
  all_goals (simp only[beq_iff_eq,beq_eq_false_iff_ne,ne_eq]at *;clear hP;simp_all[Yj,opb,opv];try decide)
open Go.PL
@[go_sem] theorem Zum:tcv prog 2 259= .flt .f64:=by kernel_rfl
@[go_sem] theorem Zul:tcv prog 259 2= .int .i64:=by kernel_rfl
theorem ZnY (a b:Int):((Hs (compare a b):Option Ordering)==Hs .gt||(Hs (compare a b):Option Ordering)==Hs .eq)=decide (b<=a):=by
 rcases Km a b with h|h|h;rw[Kn.2 h,decide_eq_false (by omega)];rfl;subst h;rw[Ko.2 rfl,decide_eq_true (by omega)];rfl;rw[Kq.2 h,decide_eq_true (by omega)];rfl
theorem Zn4 (a b:Int):((Hs (compare a b):Option Ordering)==Hs .lt||(Hs (compare a b):Option Ordering)==Hs .eq)=decide (a<=b):=by
 rcases Km a b with h|h|h;rw[Kn.2 h,decide_eq_true (by omega)];rfl;subst h;rw[Ko.2 rfl,decide_eq_true (by omega)];rfl;rw[Kq.2 h,decide_eq_false (by omega)];rfl
theorem Zn8 (a b:Int):((Hs (compare a b):Option Ordering) !=Hs .eq)=decide (a≠b):=by
 rcases Km a b with h|h|h;rw[Kn.2 h,decide_eq_true (by omega)];rfl;subst h;rw[Ko.2 rfl,decide_eq_false (by omega)];rfl;rw[Kq.2 h,decide_eq_true (by omega)];rfl
theorem Zkv:(4841369599423283200:Nat)=VQ 4503599627370496:=by decide+kernel
theorem Zku:Kr .f64 4841369599423283200=VQ (-4503599627370496):=by decide+kernel
theorem Zp8:Extern.findNext f279=none:=by kernel_rfl
theorem Zp7:Extern.find f279=Hs (Extern.MathFloor.toIntegral "math.archTrunc" .zero):=by kernel_rfl
theorem Zlr (n:Int) (h:n.natAbs<2 ^ 53) (P:Program) (w:World):(Extern.MathFloor.toIntegral "math.archTrunc" .zero #[.float .f64 (VQ n)]).run P w= .ok (.float .f64 (VQ n)) w:=by
 obtain⟨s,m,p,hp⟩:=ZkF n h;have ht:=Znz n h;rw[hp]at ht;show(Extern.MathFloor.toIntegral.match_1 (λ_=>Sem Value) (FloatKind.f64.decode (VQ n)) _ _:Sem Value).run P w=_;rw[hp];show Result.ok (Value.float .f64 (FloatKind.f64.encode ((Ieee.Datum.number s m p).integral .zero))) w=_;rw[ht]
theorem ZdR (n:Int) (h:n.natAbs<2 ^ 53):PL.Xt prog 279 [.flt .f64 (VQ n)] (.flt .f64 (VQ n)):=by
 intro w S vs hl hr;match vs,hl with
 | [v],_=>
  have h0:=hr 0 (by simp);simp only[Jq]at h0;cases h0;refine⟨.float .f64 (VQ n),.flt _ _,?_⟩;rw[run_callFunc_extern func279 (by decide) rfl Zp8 Zp7];show((Extern.MathFloor.toIntegral "math.archTrunc" .zero #[.float .f64 (VQ n)]).run prog w).andThen _=_;rw[Zlr n h];rfl
theorem Zbs (n:Int) (h:n.natAbs<2 ^ 53):Pp 273 [.flt .f64 (VQ n)] (.flt .f64 (VQ n)):=by
 have hT:=ZdR n h;refine ZM func273 rfl ntmps273 results273 ?_;simp only[go_sem];refine ZnL hT ?_ ?_ ?_;simp only[go_sem];simp only[go_sem];simp only[go_sem]
theorem ZgN (a b:Nat):Pp 272 [.cpx .f64 a b] (.agg [.flt .f64 a,.flt .f64 b]):=by
 refine ZM func272 rfl ntmps272 results272 ?_;simp only[go_sem]
def Lim (n:Int):Prop:= -4503599627370496<=n/\n<=4503599627370496
theorem Lim.abs {n:Int} (h:Lim n):n.natAbs<2 ^ 53:=by have:=h.1;have:=h.2;omega
theorem ZgK (a b:Int) (ha:Lim a) (hb:Lim b):Pp 249 [.cpx .f64 (VQ a) (VQ b),.flt .f64 4841369599423283200] (.bool Ht):=by
 have hZ:=ZgN (VQ a) (VQ b);have hTa:=Zbs a ha.abs;have hTb:=Zbs b hb.abs;have m1:(4503599627370496:Int).natAbs<2 ^ 53:=by decide
 have m2:(-4503599627370496:Int).natAbs<2 ^ 53:=by decide
 have ga:(FloatKind.f64.format.order (VQ a) (Kr .f64 4841369599423283200)==Hs .gt||FloatKind.f64.format.order (VQ a) (Kr .f64 4841369599423283200)==Hs .eq)=true:=by
  rw[Zku,Sl _ _ ha.abs m2,ZnY];simpa using ha.1
 have gb:(FloatKind.f64.format.order (VQ b) (Kr .f64 4841369599423283200)==Hs .gt||FloatKind.f64.format.order (VQ b) (Kr .f64 4841369599423283200)==Hs .eq)=true:=by
  rw[Zku,Sl _ _ hb.abs m2,ZnY];simpa using hb.1
 have la:(FloatKind.f64.format.order (VQ a) 4841369599423283200==Hs .lt||FloatKind.f64.format.order (VQ a) 4841369599423283200==Hs .eq)=true:=by
  rw[Zkv,Sl _ _ ha.abs m1,Zn4];simpa using ha.2
 have lb:(FloatKind.f64.format.order (VQ b) 4841369599423283200==Hs .lt||FloatKind.f64.format.order (VQ b) 4841369599423283200==Hs .eq)=true:=by
  rw[Zkv,Sl _ _ hb.abs m1,Zn4];simpa using hb.2
 have na:(FloatKind.f64.format.order (VQ a) (VQ a) !=Hs .eq)=false:=by rw[Sl _ _ ha.abs ha.abs,Zn8];simp
 have nb:(FloatKind.f64.format.order (VQ b) (VQ b) !=Hs .eq)=false:=by rw[Sl _ _ hb.abs hb.abs,Zn8];simp
 have c0:((0:Nat):Int)=0:=rfl;have c1:((1:Nat):Int)=1:=rfl;have c2:((2:Nat):Int)=2:=rfl;have w0:IntKind.i64.wrap (0+1)=((1:Nat):Int):=by decide
 have w1:IntKind.i64.wrap (1+1)=((2:Nat):Int):=by decide
 refine ZM func249 rfl ntmps249 results249 ?_;simp only[go_sem];refine vc1 hZ ?_;simp only[go_sem];refine ZA (ι:= { k:Nat // k<=2 }) 29 (λx=> [(1,.flt .f64 4841369599423283200),(8,.agg [.flt .f64 (VQ a),.flt .f64 (VQ b)]),(9,.int .i64 (x.1:Int))]) (λx=> []) (λx=> []) (λx=>2-x.1) ⟨0,by omega⟩
  ⟨rfl,(Fc3 rfl rfl rfl),fnl,fnl⟩ (λx=>⟨Fc3 rfl (by simp[JJ,J5]) rfl,fnl⟩) (λx=> ?_)
 obtain⟨k,hk⟩:=x;simp only;obtain rfl|rfl|rfl:k=0\/k=1\/k=2:=by omega
 simp only[go_sem,c0,ga,la];refine vc1 hTa ?_;simp only[go_sem,na,w0];exact⟨⟨1,by omega⟩,by show 2-1<2-0;omega,⟨rfl,(Fc3 rfl rfl rfl),fnl,fnl⟩⟩;simp only[go_sem,c1,gb,lb];refine vc1 hTb ?_;simp only[go_sem,nb,w1];exact⟨⟨2,by omega⟩,by show 2-2<2-1;omega,⟨rfl,(Fc3 rfl rfl rfl),fnl,fnl⟩⟩;simp only[go_sem,c2]
theorem Zh7 (a b:Int) (ha:Lim a) (hb:Lim b):Pp 207 [.cpx .f64 (VQ a) (VQ b)] (.bool Ht):=by
 have hW:=ZgK a b ha hb;refine ZM func207 rfl ntmps207 results207 ?_;simp only[go_sem];refine vc1 hW ?_;simp only[go_sem]
theorem ZhQ (a b:Int) (ha:Lim a) (hb:Lim b):Pp 163 [.cpx .f64 (VQ a) (VQ b)] (.tup [.int .i64 a,.int .i64 b,.int .i64 0]):=by
 have hW:=Zh7 a b ha hb;have ta:=Zhv a ha.abs;have tb:=Zhv b hb.abs;have l1:IntKind.i64.min<=a:=by rw[show IntKind.i64.min= -9223372036854775808 by decide];have:=ha.1;omega
 have l2:a<=IntKind.i64.max:=by rw[show IntKind.i64.max=9223372036854775807 by decide];have:=ha.2;omega
 have l3:IntKind.i64.min<=b:=by rw[show IntKind.i64.min= -9223372036854775808 by decide];have:=hb.1;omega
 have l4:b<=IntKind.i64.max:=by rw[show IntKind.i64.max=9223372036854775807 by decide];have:=hb.2;omega
 refine ZB func163 rfl ntmps163 results163 (rfl) ?_;simp only[go_sem];refine vc1 hW ?_;simp only[go_sem,ta,tb,l1,l2,l3,l4]
def WJ (n:Int):Bool:=decide (-4503599627370496<=n)&&decide (n<=4503599627370496)
theorem Gw {n:Int}:WJ n=Ht↔Lim n:=by simp[WJ,Lim]
theorem Zee (n:Int):Pp 206 [.int .i64 n] (.bool (WJ n)):=by
 refine ZM func206 rfl ntmps206 results206 ?_;simp only[go_sem];repeat' ((first|(first|apply Zt|apply Zs|apply Zm)<;>intro h|refine vDq ?_)<;>first|simp only[go_sem,h]|simp only[go_sem]|skip)
 all_goals (simp_all[WJ];try omega)
theorem Zox (a b:Int):Pp 161 [.int .i64 a,.int .i64 b] (if WJ a=Ht/\WJ b=Ht then .tup [.cpx .f64 (VQ a) (VQ b),.int .i64 0]else .tup [.cpx .f64 0 0,.int .i64 3]):=by
 have hA:=Zee a;have hB:=Zee b;have ea:FloatKind.f64.nearest a=VQ a:=rfl;have eb:FloatKind.f64.nearest b=VQ b:=rfl;cases h1:WJ a;rw[h1]at hA;simp only[JE,false_and,if_false];refine ZB func161 rfl ntmps161 results161 (rfl) ?_;simp only[go_sem];refine vc1 hA ?_;simp only[go_sem];rw[h1]at hA;cases h2:WJ b;rw[h2]at hB;simp only[JE,and_false,if_false];refine ZB func161 rfl ntmps161 results161 (rfl) ?_;simp only[go_sem];refine vc1 hA ?_;simp only[go_sem];refine vc1 hB ?_;simp only[go_sem];rw[h2]at hB;simp only[and_self,if_true];refine ZB func161 rfl ntmps161 results161 (rfl) ?_;simp only[go_sem];refine vc1 hA ?_;simp only[go_sem];refine vc1 hB ?_;simp only[go_sem,ea,eb]
theorem ZjG (n:Int):Pp 281 [.int .i64 n] (.bool (!WJ n)):=by
 refine ZM func281 rfl ntmps281 results281 ?_;simp only[go_sem];repeat' ((first|(first|apply Zt|apply Zs|apply Zm)<;>intro h|refine vDq ?_)<;>first|simp only[go_sem,h]|simp only[go_sem]|skip)
 all_goals (simp_all[WJ];try omega)
 all_goals (rw[<-decide_not];congr 1;simp only[eq_iff_iff];omega)
open Go.PL
theorem FJ:∀(a:Str),Yy a a=Hf
 | []=>rfl
 |x::a=>by
  have:=FJ a;unfold Yy at *;simp[JK,this]
theorem Zcw:∀ {a b c:Str},Yy a b=Ht->Yy b c=Ht->Yy a c=Ht
 | [],[],_,h,_=>by simp[Yy,JK]at h
 | [],_::_,[],_,h=>by simp[Yy,JK]at h
 | [],_::_,_::_,_,_=>by simp[Yy,JK]
 |_::_,[],_,h,_=>by simp[Yy,JK]at h
 |_::_,_::_,[],_,h=>by simp[Yy,JK]at h
 |x::a,y::b,z::c,h1,h2=>by
  have ih:=Zcw (a:=a) (b:=b) (c:=c);unfold Yy at *;simp only[JK,JH,decide_eq_true_eq,Jk,beq_iff_eq]at *;rcases h1 with h1|⟨rfl,h1⟩;rcases h2 with h2|⟨rfl,h2⟩;exact .inl (UInt8.lt_trans h1 h2);exact .inl h1;rcases h2 with h2|⟨rfl,h2⟩;exact .inl h2;exact .inr ⟨rfl,ih h1 h2⟩
theorem Zcv:∀(a b:Str),Yy a b=Ht\/a=b\/Yy b a=Ht
 | [],[]=> .inr (.inl rfl)
 | [],_::_=> .inl (by simp[Yy,JK])
 |_::_,[]=> .inr (.inr (by simp[Yy,JK]))
 |x::a,y::b=>by
  have ih:=Zcv a b;unfold Yy at *;simp only[JK,JH,decide_eq_true_eq,Jk,beq_iff_eq]at *;rcases JX x.toNat y.toNat with h|h|h;exact .inl (.inl h);have e:x=y:=UInt8.toNat_inj.1 h;subst e;rcases ih with ih|rfl|ih;exact .inl (.inr ⟨rfl,ih⟩);exact .inr (.inl rfl);exact .inr (.inr (.inr ⟨rfl,ih⟩));exact .inr (.inr (.inl h))
theorem Wo (a:Rf):WN a a=false:=by simp[WN,FJ]
theorem ZmV (a b:Rf):WN a b=Ht\/a=b\/WN b a=true:=by
 unfold WN;by_cases h1:a.sc=b.sc;by_cases h2:a.gr=b.gr;simp only[h1,h2,ne_eq,not_true_eq_false,if_false];rcases Zcv a.nm b.nm with h|h|h;exact .inl h;exact .inr (.inl (by cases a;cases b;simp_all));exact .inr (.inr h);have h2':b.gr≠a.gr:=λe=>h2 e.symm
 simp only[h1,h2,h2',ne_eq,not_true_eq_false,not_false_eq_true,if_false,if_true];rcases Zcv a.gr b.gr with h|h|h;exact .inl h;exact absurd h h2;exact .inr (.inr h);have h1':b.sc≠a.sc:=λe=>h1 e.symm
 simp only[h1,h1',ne_eq,not_false_eq_true,if_true,decide_eq_true_eq];omega
theorem ZcR {a b c:Rf} (h1:WN a b=Ht) (h2:WN b c=Ht):WN a c=true:=by
 unfold WN at *;by_cases e1:a.sc=b.sc;by_cases e2:b.sc=c.sc;simp only[e1,e2,ne_eq,not_true_eq_false,if_false]at *;by_cases g1:a.gr=b.gr;by_cases g2:b.gr=c.gr;simp only[g1,g2,not_true_eq_false,if_false]at *;exact Zcw h1 h2;simp only[g1,g2,not_true_eq_false,not_false_eq_true,if_false,if_true]at *;exact h2;by_cases g2:b.gr=c.gr;rw[<-g2];simp only[g1,not_false_eq_true,if_true]at *;exact h1;simp only[g1,g2,not_false_eq_true,if_true]at *;have:=Zcw h1 h2;have hn:¬a.gr=c.gr:=λe=>by rw[e,FJ]at this;cases this
 simp only[hn,not_false_eq_true,if_true];exact this;simp only[e1,e2,ne_eq,not_false_eq_true,if_true]at *;exact h2;by_cases e2:b.sc=c.sc;rw[<-e2];simp only[e1,ne_eq,not_false_eq_true,if_true]at *;exact h1;simp only[e1,e2,ne_eq,not_false_eq_true,if_true,decide_eq_true_eq]at *;have hn:¬a.sc=c.sc:=by omega
 simp only[hn,not_false_eq_true,if_true,decide_eq_true_eq];omega
def Zjq (l:List Fd):Prop:=l.Pairwise λa b=>WN a.at' b.at'=Ht
theorem GN:∀ {l:List Fd},(∀i,i<l.length->i=0\/WN (l.getD (i-1) Jd).at' (l.getD i Jd).at'=Ht)->Zjq l
 | [],_=>KN.nil
 | [a],_=>Kz _ _
 |a::b::l,h=>by
  have ih:Zjq (b::l):=GN λi hi=>by
   cases i with
   |zero=>exact .inl rfl
   |succ i=>
    have:=h (i+2) (by simp at hi ⊢;omega);right;simpa using this
  have hab:WN a.at' b.at'=true:=by simpa using h 1 (by simp)
  refine JG.2 ⟨λx hx=> ?_,ih⟩;rcases Ju.1 hx with rfl|hx;exact hab;exact ZcR hab ((JG.1 ih).1 x hx)
theorem Zdk {l:List Fd} (h:Zjq l):∀i,i<l.length->i=0\/WN (l.getD (i-1) Jd).at' (l.getD i Jd).at'=true:=λi hi=>by
 by_cases h0:i=0;exact .inl h0;right;rw[getD_lt (by omega),getD_lt hi];exact Ji.1 h (i-1) i (by omega) hi (by omega)
theorem YW {l:List Fd}:Z7 l=Ht↔l.length<=16/\Zjq l/\ ∀f∈l,Yc f=true:=by
 unfold Z7;simp only[Jk,JY,decide_eq_false_iff_not,Kw,Kg,Vh,JH,decide_eq_true_eq];constructor;rintro ⟨h1,h2⟩;refine⟨by omega,GN λi hi=>(h2 i hi).2,λf hf=> ?_⟩;obtain⟨i,hi,rfl⟩:=Jo hf;have:=(h2 i hi).1;rwa[getD_lt hi]at this;rintro ⟨h1,h2,h3⟩;exact⟨by omega,λi hi=>⟨h3 _ (Zf hi),Zdk h2 i hi⟩⟩
theorem Zda:∀ {l m:List Fd},Zjq l->Zjq m->(∀f,f∈l↔f∈m)->l=m
 | [],[],_,_,_=>rfl
 | [],b::m,_,_,h=>by have:=(h b).2 (by simp);cases this
 |a::l,[],_,_,h=>by have:=(h a).1 (by simp);cases this
 |a::l,b::m,h1,h2,h=>by
  obtain⟨p1,q1⟩:=JG.1 h1;obtain⟨p2,q2⟩:=JG.1 h2;have e:a=b:=by
   rcases Ju.1 ((h a).1 (by simp))with e|ha;exact e;rcases Ju.1 ((h b).2 (by simp))with e|hb;exact e.symm;have:=ZcR (p1 b hb) (p2 a ha);rw[Wo]at this;cases this
  subst e;congr 1;refine Zda q1 q2 λf=>⟨λhf=> ?_,λhf=> ?_⟩
  rcases Ju.1 ((h f).1 (by simp[hf]))with e|hf';subst e;have:=p1 f hf;rw[Wo]at this;cases this;exact hf';rcases Ju.1 ((h f).2 (by simp[hf]))with e|hf';subst e;have:=p2 f hf;rw[Wo]at this;cases this;exact hf'
theorem Zgg {l:List Fd} (h:Zjq l) {f g:Fd} (hf:f∈l) (hg:g∈l) (e:f.at'=g.at'):f=g:=by
 obtain⟨i,hi,rfl⟩:=Jo hf;obtain⟨j,hj,rfl⟩:=Jo hg;rcases JX i j with h1|h1|h1;have:=Ji.1 h i j hi hj h1;rw[e,Wo]at this;cases this;subst h1;rfl;have:=Ji.1 h j i hj hi h1;rw[e,Wo]at this;cases this
open Go.PL
theorem SQ (l:List Fd) (r:Rf):(idx (atF r) l= -1/\ ∀g∈l,g.at'≠r)\/ ∃i:Nat,∃h:i<l.length,idx (atF r) l=(i:Int)/\(l[i]).at'=r:=by
 unfold idx;cases hf:l.findIdx? (atF r)with
 |none=>
  left;refine⟨rfl,λg hg e=> ?_⟩;rw[JB]at hf;have:=hf g hg;simp[atF,e]at this
 |some i=>
  right;rw[Js]at hf;obtain⟨h1,h2,_⟩:=hf;exact⟨i,h1,rfl,by simpa[atF]using h2⟩
theorem WZ {l:List Fd} (h:Zjq l) {f:Fd} (hf:f∈l):Zv l f.at'=(f,0):=by
 unfold Zv;rcases SQ l f.at' with ⟨_,h2⟩|⟨i,hi,h1,h2⟩;exact absurd rfl (h2 f hf);rw[h1,if_neg (by omega)];simp only[JW];rw[getD_lt hi];rw[Zgg h (Jt hi) hf h2]
theorem Gv {l:List Fd} {r:Rf} (h:(Zv l r).2=0):(Zv l r).1∈l/\(Zv l r).1.at'=r:=by
 unfold Zv at *;rcases SQ l r with ⟨h1,_⟩|⟨i,hi,h1,h2⟩;rw[h1]at h;simp at h;rw[h1,if_neg (by omega)];simp only[JW];rw[getD_lt hi];exact⟨Jt hi,h2⟩
theorem ZlM {l:List Fd} {r:Rf} (h:(YF l r).2=0):Z7 l=Ht/\(∃f∈l,f.at'=r)/\Z7 (YF l r).1=Ht/\(∀g,g∈(YF l r).1↔g∈l/\g.at'≠r)/\(YF l r).1.length+1=l.length:=by
 unfold YF at *;cases hr:Z7 l with
 |false=>rw[hr]at h;simp at h
 |true=>
  rcases SQ l r with ⟨h1,_⟩|⟨i,hi,h1,h2⟩
  ·rw[hr,h1]at h;simp at h
  ·simp only[h1,Jp,if_false,show ¬(i:Int)<0 by omega,JW];obtain⟨k1,k2,k3⟩:=YW.1 hr;have hsub:(l.eraseIdx i).Sublist l:=List.eraseIdx_sublist _ _;have hlen:(l.eraseIdx i).length+1=l.length:=by rw[List.length_eraseIdx_of_lt hi];omega
   refine⟨trivial,⟨_,Jt hi,h2⟩,YW.2 ⟨by omega,KN.sublist hsub k2,λf hf=>k3 f (hsub.mem hf)⟩,λg=> ?_,hlen⟩;rw[List.mem_eraseIdx_iff_getElem];constructor
   ·rintro ⟨j,hj,hne,rfl⟩
    refine⟨Jt hj,λe=> ?_⟩;have e2:=Zgg k2 (Jt hj) (Jt hi) (e.trans h2.symm);rcases JX j i with q|q|q
    ·have:=Ji.1 k2 j i hj hi q;rw[e2,Wo]at this;cases this
    ·exact hne q
    ·have:=Ji.1 k2 i j hi hj q;rw[e2,Wo]at this;cases this
   ·rintro ⟨hg,hne⟩
    obtain⟨j,hj,rfl⟩:=Jo hg;exact⟨j,hj,λe=>hne (by subst e;exact h2),rfl⟩
theorem Zou {l:List Fd} {r:Rf} (hr:Z7 l=Ht) (h:∃f∈l,f.at'=r):(YF l r).2=0:=by
 obtain⟨f,hf,e⟩:=h;unfold YF;rcases SQ l r with ⟨_,h2⟩|⟨i,hi,h1,h2⟩;exact absurd e (h2 f hf);simp[hr,h1,show ¬(i:Int)<0 by omega]
theorem ZfU (l:List Fd) (f g:Fd):g∈Za1 l f↔g∈l\/g=f:=by
 unfold Za1;have:=Ka (p:=Ziz f.at') (l:=l);constructor;intro h;rcases JI.1 h with h|h;exact .inl (by rw[<-this];exact KK _ h);rcases Ju.1 h with h|h;exact .inr h;exact .inl (by rw[<-this];exact Kb _ h);rintro (h|h);rw[<-this]at h;rcases JI.1 h with h|h;exact KK _ h;exact Kb _ (List.mem_cons_of_mem _ h);exact Kb _ (by simp[h])
theorem Zg9:∀ {l:List Fd} {f:Fd},Zjq l->(∀g∈l,g.at'≠f.at')->Zjq (Za1 l f)
 | [],f,_,_=>Kz _ _
 |a::l,f,h,hn=>by
  obtain⟨p,q⟩:=JG.1 h;cases hb:WN a.at' f.at' with
  |true=>
   rw[Zo3 hb];refine JG.2 ⟨λx hx=> ?_,Zg9 q (λg hg=>hn g (by simp[hg]))⟩;rcases(ZfU l f x).1 hx with hx|hx
   ·exact p x hx
   ·rw[hx];exact hb
  |false=>
   rw[Zo2 hb];have hfa:WN f.at' a.at'=true:=by
    rcases ZmV a.at' f.at' with h1|h1|h1
    ·rw[hb]at h1;cases h1
    ·exact absurd h1 (hn a (by simp))
    ·exact h1
   refine JG.2 ⟨λx hx=> ?_,h⟩;rcases Ju.1 hx with rfl|hx
   ·exact hfa
   ·exact ZcR hfa (p x hx)
theorem Zot {l:List Fd} {f:Fd} (h:(Vn l f).2=0):Z7 l=Ht/\Yc f=Ht/\(∀g∈l,g.at'≠f.at')/\Z7 (Vn l f).1=Ht/\(∀g,g∈(Vn l f).1↔g∈l\/g=f)/\(Vn l f).1.length=l.length+1:=by
 unfold Vn at *;cases hr:Z7 l with
 |false=>rw[hr]at h;simp at h
 |true=>
  cases hf:Yc f with
  |false=>rw[hr,hf]at h;simp at h
  |true=>
   rcases SQ l f.at' with ⟨h1,h2⟩|⟨i,hi,h1,h2⟩
   ·by_cases hl:16<=(l.length:Int)
    ·rw[hr,hf,h1]at h;simp[hl]at h
    ·simp only[h1,Jp,or_self,if_false,hl,show ¬(0:Int)<= -1 by omega];obtain⟨k1,k2,k3⟩:=YW.1 hr;have hil:=SY l f;refine⟨trivial,trivial,h2,YW.2 ⟨by omega,Zg9 k2 h2,λg hg=> ?_⟩,λg=>ZfU l f g,hil⟩;rcases(ZfU l f g).1 hg with hg|hg
     ·exact k3 g hg
     ·rw[hg];exact hf
   ·rw[hr,hf,h1]at h;simp at h
theorem Zsj {l:List Fd} {f:Fd} (hr:Z7 l=Ht) (hf:Yc f=Ht) (hn:∀g∈l,g.at'≠f.at') (hl:l.length<16):(Vn l f).2=0:=by
 unfold Vn;rcases SQ l f.at' with ⟨h1,h2⟩|⟨i,hi,h1,h2⟩;simp[hr,hf,h1,show ¬16<=(l.length:Int)by omega];exact absurd h2 (hn _ (Jt hi))
theorem Zei:∀ {rs:List Rf} {l m:List Fd},Z7 l=Ht->Tu rs l=Hs m->Z7 m=Ht/\(∀g,g∈m↔g∈l/\g.at'∉rs)/\(∀r∈rs,∃f∈l,f.at'=r)/\rs.Nodup/\m.length+rs.length=l.length
 | [],l,m,hr,h=>by cases h;exact⟨hr,by simp,by simp,by simp,by simp⟩
 |r::rs,l,m,hr,h=>by
  unfold Tu at h;split at h;cases h;rename_i hz;obtain⟨a1,a2,a3,a4,a5⟩:=ZlM (by simpa using hz);obtain⟨b1,b2,b3,b4,b5⟩:=Zei a3 h;refine⟨b1,λg=> ?_,λq hq=> ?_,JR.2 ⟨λhin=> ?_,b4⟩,by simp only[JU];omega⟩;rw[b2,a4];simp only[Ju,not_or];exact⟨λh=>⟨h.1.1,h.1.2,h.2⟩,λh=>⟨⟨h.1,h.2.1⟩,h.2.2⟩⟩;rcases Ju.1 hq with rfl|hq;exact a2;obtain⟨f,hf,e⟩:=b3 q hq;exact⟨f,((a4 f).1 hf).1,e⟩;obtain⟨f,hf,e⟩:=b3 r hin;exact((a4 f).1 hf).2 e
theorem ZnZ:∀ {rs:List Rf} {l:List Fd},Z7 l=Ht->rs.Nodup->(∀r∈rs,∃f∈l,f.at'=r)-> ∃m,Tu rs l=Hs m
 | [],l,_,_,_=>⟨l,rfl⟩
 |r::rs,l,hr,hn,h=>by
  rw[JR]at hn;have hz:=Zou hr (h r (by simp));obtain⟨a1,a2,a3,a4,a5⟩:=ZlM hz;obtain⟨m,hm⟩:=ZnZ (rs:=rs) a3 hn.2 (λq hq=>by
   obtain⟨f,hf,e⟩:=h q (by simp[hq]);exact⟨f,(a4 f).2 ⟨hf,λe2=>hn.1 (by rw[<-e2,e];exact hq)⟩,e⟩)
  exact⟨m,by unfold Tu;rw[if_neg (by simp[hz])];exact hm⟩
theorem Fg:∀ {fs l m:List Fd},Z7 l=Ht->YE fs l=Hs m->Z7 m=Ht/\(∀g,g∈m↔g∈l\/g∈fs)/\(∀f∈fs,Yc f=Ht/\ ∀g∈l,g.at'≠f.at')/\(fs.map (·.at')).Nodup/\m.length=l.length+fs.length
 | [],l,m,hr,h=>by cases h;exact⟨hr,by simp,by simp,by simp,by simp⟩
 |f::fs,l,m,hr,h=>by
  unfold YE at h;split at h;cases h;rename_i hz;obtain⟨a1,a2,a3,a4,a5,a6⟩:=Zot (by simpa using hz);obtain⟨b1,b2,b3,b4,b5⟩:=Fg a4 h;refine⟨b1,λg=> ?_,λq hq=> ?_,?_,by simp only[JU];omega⟩;rw[b2,a5,Ju,or_assoc];rcases Ju.1 hq with rfl|hq;exact⟨a2,a3⟩;exact⟨(b3 q hq).1,λg hg=>(b3 q hq).2 g ((a5 g).2 (.inl hg))⟩;rw[Jh,JR];refine⟨λhin=> ?_,b4⟩;obtain⟨q,hq,e⟩:=Jr.1 hin;exact(b3 q hq).2 f ((a5 f).2 (.inr rfl)) e.symm
theorem ZgT:∀ {fs l:List Fd},Z7 l=Ht->(∀f∈fs,Yc f=Ht)->(∀f∈fs,∀g∈l,g.at'≠f.at')->(fs.map (·.at')).Nodup->l.length+fs.length<=16-> ∃m,YE fs l=Hs m
 | [],l,_,_,_,_,_=>⟨l,rfl⟩
 |f::fs,l,hr,hf,hp,hn,hl=>by
  rw[Jh,JR]at hn;simp only[JU]at hl;have hz:=Zsj hr (hf f (by simp)) (hp f (by simp)) (by omega);obtain⟨a1,a2,a3,a4,a5,a6⟩:=Zot hz;obtain⟨m,hm⟩:=ZgT (fs:=fs) a4 (λq hq=>hf q (by simp[hq])) (λq hq g hg e=>by
   rcases(a5 g).1 hg with hg|hg;exact hp q (by simp[hq]) g hg e;exact hn.1 (Jr.2 ⟨q,hq,by rw[<-e,hg]⟩)) hn.2 (by omega)
  exact⟨m,by unfold YE;rw[if_neg (by simp[hz])];exact hm⟩
theorem FH {l m:List Fd} {x:Ln} (h:Yb l x=(m,0)):Z7 l=Ht/\ZG x=Ht/\ ∃cs l1,Tt l x=(cs,Ht)/\Tu (ZE x) l=Hs l1/\YE cs l1=Hs m:=by
 unfold Yb at h;split at h;simp at h;rename_i hh;simp only[not_or,Bool.not_eq_false]at hh;refine⟨hh.1,hh.2,?_⟩;split at h;simp at h;rename_i k hk;simp only[Prod.mk.injEq,and_true]at h;subst h;unfold Gn at hk;split at hk;cases hk;rename_i ha;obtain⟨l1,h1,h2⟩:=KA.1 hk;refine⟨(Tt l x).1,l1,?_,h1,h2⟩;have:(Tt l x).2=true:=by simpa using ha
 rw[<-this]
theorem TL {l l1 m cs gs:List Fd} {x y:Ln} (hl:Z7 l=Ht) (h1:Tu (ZE x) l=Hs l1) (h2:YE cs l1=Hs m) (hy:ZG y=Ht) (k1:ZE y=cs.map (·.at')) (k2:Tt m y=(gs,Ht)) (k3:∀g∈gs,g∈l) (k4:gs.map (·.at')=ZE x):Yb m y=(l,0):=by
 obtain⟨a1,a2,a3,a4,a5⟩:=Zei hl h1;obtain⟨b1,b2,b3,b4,b5⟩:=Fg a1 h2;obtain⟨r1,r2,r3⟩:=YW.1 hl;obtain⟨m1,hm1⟩:=ZnZ (rs:=cs.map (·.at')) b1 b4 (λr hr=>by
  obtain⟨f,hf,e⟩:=Jr.1 hr;exact⟨f,(b2 f).2 (.inr hf),e⟩)
 obtain⟨c1,c2,c3,c4,c5⟩:=Zei b1 hm1;have e1:m1=l1:=Zda (YW.1 c1).2.1 (YW.1 a1).2.1 λf=>by
  rw[c2,b2];constructor;rintro ⟨hf|hf,hn⟩;exact hf;exact absurd (Jr.2 ⟨f,hf,rfl⟩) hn;intro hf;refine⟨.inl hf,λhin=> ?_⟩;obtain⟨q,hq,e⟩:=Jr.1 hin;exact(b3 q hq).2 f hf e.symm
 subst e1;have hgl:gs.length=(ZE x).length:=by rw[<-k4];simp
 obtain⟨l2,hl2⟩:=ZgT (fs:=gs) a1 (λf hf=>r3 f (k3 f hf)) (λf hf g hg e=>((a2 g).1 hg).2 (by rw[e,<-k4];exact Jr.2 ⟨f,hf,rfl⟩)) (by rw[k4];exact a4) (by omega);obtain⟨d1,d2,d3,d4,d5⟩:=Fg a1 hl2;have e2:l2=l:=Zda (YW.1 d1).2.1 r2 λf=>by
  rw[d2,a2];constructor;rintro (hf|hf);exact hf.1;exact k3 f hf;intro hf;by_cases hin:f.at'∈ZE x;right;rw[<-k4]at hin;obtain⟨q,hq,e⟩:=Jr.1 hin;rw[<-Zgg r2 (k3 q hq) hf e];exact hq;exact .inl ⟨hf,hin⟩
 subst e2;unfold Yb;rw[if_neg (by simp[b1,hy])];have:Gn m y=Hs l2:=by
  unfold Gn;rw[k2,if_neg (by simp),k1,hm1];exact hl2
 rw[this]
open Go.PL
structure Nd where
 e:Eg
 st:Int
 sch:List Fd
 dep:Int
 deriving DecidableEq,Inhabited
def nd (n:Nd):PV:= .agg [.int .i64 n.e.id.r,.int .i64 n.e.id.n,.int .i64 n.e.par.r,.int .i64 n.e.par.n,.int .i64 n.e.ln.kind,.int .i64 n.e.ln.at'.sc,.str n.e.ln.at'.gr,.str n.e.ln.at'.nm,.str n.e.ln.nm,.str n.e.ln.ot,.int .i64 n.e.ln.fac,.int .i64 n.e.ln.fd.at'.sc,.str n.e.ln.fd.at'.gr,.str n.e.ln.fd.at'.nm,.int .i64 n.e.ln.fd.kind,.str n.e.ln.fd.df,.sl .no (n.e.ln.fd.cases'.map .str),.int .i64 n.e.ln.fd.worth,.sl .no (n.e.ln.fo.map pr),.sl .no (n.e.ln.ba.map pr),.int .i64 n.st,.sl .no (n.sch.map fld),.int .i64 n.dep]
def kts (l:List Nd):List PV:=l.map λn=>tg n.e.id
def nds (l:List Nd):List PV:=l.map nd
def tr (l:List Nd):PV:= .rptr [.rmap (kts l) (nds l)]
theorem vc5 {x:Bool} {M:KH} {g:FuncId} {args args':List PV} {K:KR} {r:PV} (h1:Pp g args' r) (h2:K.k r M.m) (h0:Kl M.m args:=by first|(simp only[go_sem,ref,ent,DK,doc,Y3,row,Zh,fld,lns,tg,refs,prs,pr,eg,egs,tgs,lg,lgs,tr];done)|exact rfl) (he:KQ M.m args=args':=by first|(simp only[go_sem,ref,ent,DK,doc,Y3,row,Zh,fld,lns,tg,refs,prs,pr,eg,egs,tgs,lg,lgs,tr];done)|exact rfl):@WX prog x M (Hs (g,args)) K:=Zl h1 h0 he h2
def mc (l:List Nd):MapC:=⟨kts l,nds l⟩
theorem ZgU (l:List Pr):Jm (l.map pr)= []:=by
 induction l with
 |nil=>rfl
 |cons t l ih=>simp only[Jh,Jm,ih,pr,Jz,Jc]
theorem ZfI (e:Eg):(eg e).dids= []:=by simp only[eg,Jz,Jm,ZgU,UA,Jc]
theorem ZfZ (n:Nd):(nd n).dids= []:=by simp only[nd,Jz,Jm,ZgU,Zd4,UA,Jc]
theorem Zln (t:Tg):(tg t).dids= []:=by simp only[tg,Jz,Jm,Jc]
theorem Ds {α:Type} (f:α->PV) (h:∀x,(f x).nomap=Ht) (l:List α):KL (l.map f)=true:=Dr.2 λc hc=>by
 obtain⟨x,_,rfl⟩:=Jr.1 hc;exact h x
theorem ZbZ (l:List Str):KL (l.map .str)=true:=Ds _ (λ_=>rfl) l
theorem ZkD (l:List Pr):KL (l.map pr)=true:=Ds _ (λ_=>rfl) l
theorem ZkE (f:Fd):(fld f).nomap=true:=by simp only[fld,PV.nomap,KL,ZbZ,Jw]
theorem Zm5 (n:Nd):(nd n).nomap=true:=by simp only[nd,PV.nomap,KL,ZkD,ZbZ,Ds _ ZkE,Jw]
theorem ZbE (id:Tg):∀(l:List Nd) (i:Nat),findP [.int,.int] [.int .i64 id.r,.int .i64 id.n] (kts l) i=Hs ((l.findIdx? λn=>decide (id=n.e.id)).map (· + i))
 | [],i=>rfl
 |n::l,i=>by
  have ih:=ZbE id l (i+1);simp only[kts,tg]at ih;simp only[kts,Jh,tg,findP,ZH,To,if_true,List.findIdx?_cons,Bool.and_true,ZL];by_cases h:id=n.e.id;simp[h];simp only[h,decide_false,ih];simp only[JE,if_false,Option.map_map];congr 2;funext x;simp;omega
theorem Yz (id:Tg) (l:List Nd):findP [.int,.int] [.int .i64 id.r,.int .i64 id.n] (kts l) 0=Hs (l.findIdx? λn=>decide (id=n.e.id)):=by
 rw[ZbE];congr 1;cases List.findIdx? (λn=>decide (id=n.e.id)) l<;>rfl
def Di (l:List Nd) (id:Tg):Option Nd:=l.find? λn=>decide (id=n.e.id)
theorem TH {l:List Nd} {id:Tg}:(l.findIdx? λn=>decide (id=n.e.id))=none↔Di l id=none:=by
 unfold Di;rw[JB,JP];simp
theorem TI {l:List Nd} {id:Tg} {i:Nat} (h:(l.findIdx? λn=>decide (id=n.e.id))=Hs i):i<l.length/\Di l id=Hs (l.getD i Jd):=by
 rw[Js]at h;obtain⟨h1,h2,h3⟩:=h;refine⟨h1,?_⟩;unfold Di;rw[JT];exact⟨by rw[getD_lt h1];exact h2,i,h1,(getD_lt h1).symm,λj hj=>by simpa using h3 j hj⟩
theorem F3 {l:List Nd} {i:Nat} (h:i<l.length):(nds l).getD i .any=nd (l.getD i Jd):=Vr h
theorem Zj3 {l:List Nd} {i:Nat} (h:i<l.length):(kts l).getD i .any=tg (l.getD i Jd).e.id:=Vr (d:=Jd) h
theorem G7:Pp 98 [] (tg Jd):=by
 refine ZB func98 rfl ntmps98 results98 (rfl) ?_;simp only[go_sem];rfl
theorem Zh4:Pp 99 [] (Zh Tc):=by
 refine ZB func99 rfl ntmps99 results99 (VR _) ?_;simp only[go_sem];repeat((with_reducible refine And.intro ?_ ?_);(focus((repeat' (with_reducible apply And.intro))<;>(first|omega|exact Xm (by omega) (by omega)|exact Xm (by simp;omega) (by omega)|exact Xy _|(simp;done)|(simp;omega)))))
 rfl
def ZeK:Nd:=⟨Jd,2,Tc,0⟩
def atN (l:List Nd) (id:Tg):Nd:=if id=Jd then ZeK else(Di l id).getD Jd
theorem Zn6:PL.Mk prog 27 [] (λb=> .rptr [.mref b]) (mc []):=by
 refine PL.Mk.of_v func27 (by decide) rfl ntmps27 results27 (by simp) (λb=>rfl) ?_;simp only[go_sem];intro b;exact⟨b,3,[.mref b],rfl,by simp,rfl,by simp[mc,kts,nds],rfl⟩
theorem ZjE (l:List Nd) (id:Tg):Pp 51 [tr l,tg id] (nd (atN l id)):=by
 unfold atN;by_cases h:id=Jd;rw[if_pos h];subst h;refine ZB func51 rfl ntmps51 results51 (ZfZ _) ?_;simp only[go_sem,tr,tg];refine vDq ?_;simp only[go_sem];refine vc3 G7 ?_;simp only[go_sem,tg];refine vc3 Zh4 ?_;simp only[go_sem,Zh];rfl;rw[if_neg h];have hd:decide (id=Jd)=false:=by simpa using h
 refine ZB func51 rfl ntmps51 results51 (ZfZ _) ?_;simp only[go_sem,tr,tg];refine vDq ?_;simp only[go_sem];refine vc3 G7 ?_;simp only[go_sem,tg,ZL,hd];cases hf:l.findIdx? (λn=>decide (id=n.e.id))with
 |none=>
  have:=TH.1 hf;refine vDq ?_;simp only[go_sem,Yz,hf,this,Option.getD_none];rfl
 |some i=>
  obtain⟨h1,h2⟩:=TI hf;refine vDq ?_;simp only[go_sem,Yz,hf,h2,J3,F3 h1,nd]
open Go.PL
def Xo (m:List Eg) (id:Tg):Option Eg:=m.find? λe=>decide (id=e.id)
theorem XD {m:List Eg} {id:Tg} {e:Eg} (h:Xo m id=Hs e):id=e.id/\e∈m:=by
 unfold Xo at h;exact⟨by simpa using K0 h,JC h⟩
inductive Way (m:List Eg):Tg->List Eg->Prop
 |root:Way m Jd []
 |step {id:Tg} {e:Eg} {w:List Eg} (hn:id≠Jd) (he:Xo m id=Hs e) (hw:Way m e.par w):Way m id (w++ [e])
theorem Way.fn {m:List Eg} {id:Tg} {w w':List Eg} (h:Way m id w) (h':Way m id w'):w=w':=by
 induction h generalizing w' with
 |root=>cases h' with
  |root=>rfl
  |step hn he hw=>exact absurd rfl hn
 |step hn he hw ih=>
  cases h' with
  |root=>exact absurd rfl hn
  |step hn' he' hw'=>
   rw[he]at he';cases he';rw[ih hw']
theorem Way.mem {m:List Eg} {id:Tg} {w:List Eg} (h:Way m id w):∀e∈w,e∈m:=by
 induction h with
 |root=>intro e he;cases he
 |step hn he hw ih=>
  intro x hx;rcases JI.1 hx with hx|hx;exact ih x hx;rw[JF.1 hx];exact(XD he).2
theorem Way.take {m:List Eg} {id:Tg} {w:List Eg} (h:Way m id w):∀k (hk:k<w.length),Way m (w[k]).id (w.take (k+1)):=by
 induction h with
 |root=>intro k hk;simp at hk
 |step hn he hw ih=>
  rename_i id e w;intro k hk;by_cases hlt:k<w.length;rw[List.getElem_append_left hlt,List.take_append_of_le_length (by omega)];exact ih k hlt;have hk':k=w.length:=by simp at hk;omega
  subst hk';have e1:(w++ [e])[w.length]'hk=e:=by simp
  rw[e1,List.take_of_length_le (by simp)];have:=(XD he).1;rw[<-this];exact .step hn he hw
theorem Way.nodup {m:List Eg} {id:Tg} {w:List Eg} (h:Way m id w):w.Nodup:=by
 rw[JQ,Ji];intro i j hi hj hij e;have h1:=h.take i hi;have h2:=h.take j hj;rw[e]at h1;have:=congrArg KJ (h1.fn h2);simp at this;omega
theorem Zc0 {α:Type} [DecidableEq α]:∀ {l m:List α},l.Nodup->(∀x∈l,x∈m)->l.length<=m.length
 | [],_,_,_=>Jb _
 |a::l,m,hn,hs=>by
  rw[JR]at hn;have ha:a∈m:=hs a (by simp);have:=Zc0 (l:=l) (m:=m.erase a) hn.2 (λx hx=>(List.mem_erase_of_ne (λe:x=a=>hn.1 (e▸hx))).2 (hs x (by simp[hx])));rw[List.length_erase_of_mem ha]at this;have:0<m.length:=List.length_pos_of_mem ha;simp only[JU];omega
theorem Way.len {m:List Eg} {id:Tg} {w:List Eg} (h:Way m id w):w.length<=m.length:=Zc0 h.nodup h.mem
def ZlX (m:List Eg):Nat->Tg->List Eg->Option (List Eg)
 |0,_,_=>none
 |k+1,id,way=>if id=Jd then Hs way else match Xo m id with
  |none=>none
  |some e=>ZlX m k e.par (e::way)
def Zdz (m:List Eg) (id:Tg):Option (List Eg):=ZlX m (m.length+1) id []
theorem Zch {m:List Eg}:∀ {k:Nat} {id:Tg} {acc r:List Eg},ZlX m k id acc=Hs r-> ∃w,Way m id w/\r=w++acc
 |0,_,_,_,h=>by cases h
 |k+1,id,acc,r,h=>by
  unfold ZlX at h;split at h;rename_i hd;cases h;exact⟨[],hd▸ .root,rfl⟩;rename_i hd;split at h;cases h;rename_i e he;obtain⟨w,h1,h2⟩:=Zch h;exact⟨w++ [e],.step hd he h1,by rw[h2];simp⟩
theorem ZlE {m:List Eg} {id:Tg} {w:List Eg} (h:Way m id w):∀ {k:Nat} (acc:List Eg),w.length<k->ZlX m k id acc=Hs (w++acc):=by
 induction h with
 |root=>intro k acc hk;cases k with
  |zero=>simp at hk
  |succ k=>simp[ZlX]
 |step hn he hw ih=>
  intro k acc hk;cases k with
  |zero=>simp at hk
  |succ k=>
   simp only[Jj,JU,KG]at hk;simp only[ZlX,if_neg hn,he];rw[ih _ (by omega)];simp
theorem XH {m:List Eg} {id:Tg} {w:List Eg}:Zdz m id=Hs w↔Way m id w:=by
 constructor;intro h;obtain⟨w',h1,h2⟩:=Zch h;rw[h2,Jc];exact h1;intro h;have:=ZlE h (k:=m.length+1) [] (by have:=h.len;omega);simpa[Zdz]using this
def XQ:List Eg->List Fd->Option (List Fd)
 | [],fs=>Hs fs
 |e::es,fs=>if(Yb fs e.ln).2≠0 then none else XQ es (Yb fs e.ln).1
theorem Zef (w v:List Eg) (fs:List Fd):XQ (w++v) fs=(XQ w fs).bind (XQ v):=by
 induction w generalizing fs with
 |nil=>rfl
 |cons e w ih=>
  simp only[Kd,XQ];split;rfl;exact ih _
def Dq (e:Eg):Option (List Eg)->Nd
 |none=>⟨e,1,[],0⟩
 |some w=>match XQ w Tc with
  |none=>⟨e,3,[],0⟩
  |some fs=>⟨e,2,fs,w.length⟩
def Yp (m:List Eg) (e:Eg):Nd:=Dq e (Zdz m e.id)
def Zd (m:List Eg):List Nd:=m.map (Yp m)
def Zhi (e:Eg):Nd:=⟨e,1,[],0⟩
theorem Uk (m:List Eg) (e:Eg):(Yp m e).e=e:=by
 unfold Yp Dq;split;rfl;split<;>rfl
structure Apart (m:List Eg):Prop where
 d:(m.map (·.id)).Nodup
 n:∀e∈m,e.id≠Jd
theorem Apart.find {m:List Eg} (h:Apart m) {e:Eg} (he:e∈m):Xo m e.id=Hs e:=by
 obtain⟨l1,l2,rfl⟩:=List.append_of_mem he;have hd:=h.d;simp only[KF,Jh]at hd;unfold Xo;rw[KU];have hno:l1.find? (λx=>decide (e.id=x.id))=none:=by
  rw[JP];intro x hx hh;have hx':x.id∈l1.map (·.id):=Jr.2 ⟨x,hx,rfl⟩;have:=(Ks.1 hd).2.2 _ hx' e.id (by simp);exact this (by simpa using Eq.symm (by simpa using hh))
 rw[hno];simp
def Zfx (m:List Eg) (c:List Nd):Prop:=c.length=m.length/\ ∀i,i<m.length->c.getD i Jd=Zhi (m.getD i Jd)\/(c.getD i Jd=Yp m (m.getD i Jd)/\(c.getD i Jd).st≠1)
theorem UG {m:List Eg} {e:Eg}:(Yp m e).st=1↔Zdz m e.id=none:=by
 unfold Yp Dq;split;rename_i h;simp[h];rename_i w h;constructor;intro hh;split at hh<;>cases hh
 intro hh;rw[h]at hh;cases hh
theorem S5 {m:List Eg} {e:Eg} (h:Zdz m e.id=none):Yp m e=Zhi e:=by simp[Yp,Dq,h,Zhi]
theorem Zpk (e:Eg):(Zhi e).st=1:=rfl
theorem Zb7 {m:List Eg} {c:List Nd} (h:Zfx m c) {i:Nat} (hi:i<m.length):(c.getD i Jd).e=m.getD i Jd:=by
 rcases h.2 i hi with h|⟨h,_⟩;rw[h];rfl;rw[h,Uk]
theorem Zdc {m:List Eg} {c:List Nd} (h:Zfx m c):c.map (·.e)=m:=by
 apply KB;simp[h.1];intro i h1 h2;have:=Zb7 h h2;rw[getD_lt (by have:=h.1;omega),getD_lt h2]at this;simpa using this
theorem Zed {m:List Eg} {c:List Nd} (h:Zfx m c) (id:Tg):(Di c id).map (·.e)=Xo m id:=by
 rw[<-Zdc h];unfold Di Xo;rw[K2];rfl
theorem Zhf {m:List Eg} {c:List Nd} (h:Zfx m c) {n:Nd} (hn:n∈c):n.e∈m/\(n=Zhi n.e\/(n=Yp m n.e/\n.st≠1)):=by
 obtain⟨i,hi,rfl⟩:=Jo hn;have hi':i<m.length:=by have:=h.1;omega
 have e:=Zb7 h hi';have k:=h.2 i hi';rw[getD_lt hi]at e k;rw[e];exact⟨Zf hi',k⟩
def U9 (e:Eg) (up:Nd):Nd:=if up.st=2/\(Yb up.sch e.ln).2=0 then⟨e,2,(Yb up.sch e.ln).1,up.dep+1⟩else⟨e,3,[],0⟩
theorem Zf2 {m:List Eg} {e:Eg} {w:List Eg} (ha:Apart m) (he:e∈m) (hw:Way m e.par w):Yp m e=match XQ w Tc with
  |none=>⟨e,3,[],0⟩
  |some fs=>U9 e ⟨Jd,2,fs,w.length⟩:=by
 have h1:Way m e.id (w++ [e]):= .step (ha.n e he) (ha.find he) hw;have h2:=XH.2 h1;unfold Yp Dq;rw[h2];simp only[Zef];cases hf:XQ w Tc with
 |none=>rfl
 |some fs=>
  simp only[Kc,XQ,U9]
  by_cases hz:(Yb fs e.ln).2=0
  ·simp[hz]
  ·simp[hz]
theorem Zk7 {m:List Eg} {c:List Nd} (ha:Apart m) (h:Zfx m c) {e:Eg} (he:e∈m) (hu:(atN c e.par).st=2\/(atN c e.par).st=3):U9 e (atN c e.par)=Yp m e/\(Yp m e).st≠1:=by
 have key:∃w,Way m e.par w/\U9 e (atN c e.par)=(match XQ w Tc with|none=>⟨e,3,[],0⟩|some fs=>U9 e ⟨Jd,2,fs,w.length⟩):=by
  unfold atN at hu ⊢;by_cases hp:e.par=Jd;rw[if_pos hp];exact⟨[],hp▸ .root,by simp[XQ,U9,ZeK]⟩;rw[if_neg hp]at hu ⊢;cases hf:Di c e.par with
  |none=>rw[hf]at hu;simp at hu;rcases hu with hu|hu<;>cases hu
  |some n=>
   rw[hf]at hu;simp only[J3]at hu ⊢;have hn:n∈c:=JC hf;obtain⟨hm,hk⟩:=Zhf h hn;rcases hk with hk|⟨hk,hst⟩
   ·rw[hk]at hu;simp[Zhi]at hu
   ·have hid:e.par=n.e.id:=by
     have:=Zed h e.par;rw[hf]at this;exact(XD this.symm).1
    cases hw:Zdz m n.e.id with
    |none=>rw[hk]at hst;exact absurd (UG.2 hw) hst
    |some w=>
     refine⟨w,by rw[hid];exact XH.1 hw,?_⟩;have hnw:n=Dq n.e (Hs w):=by rw[<-hw];exact hk
     unfold Dq at hnw;cases hfa:XQ w Tc with
     |none=>
      simp only[hfa]at hnw;rw[hnw];simp[U9]
     |some fs=>
      simp only[hfa]at hnw;rw[hnw];simp[U9]
 obtain⟨w,hw,hk⟩:=key;refine⟨by rw[hk,Zf2 ha he hw],λhh=> ?_⟩;have:=UG.1 hh;have h2:=XH.2 (Way.step (ha.n e he) (ha.find he) hw);rw[this]at h2;cases h2
theorem Zk6 {m:List Eg} {c:List Nd} (ha:Apart m) (h:Zfx m c) (hd:∀i,i<m.length->(c.getD i Jd).st≠1\/((atN c (m.getD i Jd).par).st≠2/\(atN c (m.getD i Jd).par).st≠3)):c=Zd m:=by
 have hs:∀ {id w},Way m id w-> ∀e,Xo m id=Hs e->id≠Jd->Yp m e∈c:=by
  intro id w hw;induction hw with
  |root=>intro e _ hn;exact absurd rfl hn
  |step hn he hw ih=>
   rename_i id e w;intro e' he' _;rw[he]at he';cases he';obtain⟨hid,hem⟩:=XD he;obtain⟨i,hi,rfl⟩:=Jo hem;have hic:i<c.length:=by have:=h.1;omega
   rcases h.2 i hi with hk|⟨hk,_⟩;exfalso;rcases hd i hi with h1|⟨h1,h2⟩;rw[hk]at h1;exact h1 rfl;rw[getD_lt hi]at h1 h2;by_cases hp:(m[i]).par=Jd;simp[atN,hp,ZeK]at h1;cases hfe:Xo m (m[i]).par with
   |none=>
    generalize (m[i]).par=p at *;cases hw with
    |root=>exact hp rfl
    |step _ hq _=>rw[hfe]at hq;cases hq
   |some q=>
    have hq:=ih q hfe hp;obtain⟨hqid,hqm⟩:=XD hfe;have hfn:Di c (m[i]).par=Hs (Yp m q):=by
     have h3:=Zed h (m[i]).par;rw[hfe]at h3;cases hx:Di c (m[i]).par with
     |none=>rw[hx]at h3;cases h3
     |some n=>
      rw[hx]at h3;simp only[J6,KX.injEq]at h3;have hn:n∈c:=JC hx;have hcd:(c.map (·.e.id)).Nodup:=by
       have:=Zdc h;have h4:=ha.d;rw[<-this,K3]at h4;exact h4
      congr 1;obtain⟨a1,b1,ha1⟩:=Jo hn;obtain⟨a2,b2,ha2⟩:=Jo hq;have hee:n.e.id=(Yp m q).e.id:=by rw[Uk,h3]
      have:a1=a2:=by
       rw[JQ,Ji]at hcd;rcases JX a1 a2 with hlt|heq|hlt
       ·exact absurd (show(c.map (·.e.id))[a1]'(by simpa using b1)=(c.map (·.e.id))[a2]'(by simpa using b2)by rw[Jv,Jv,ha1,ha2];exact hee) (hcd a1 a2 (by simpa using b1) (by simpa using b2) hlt)
       ·exact heq
       ·exact absurd (show(c.map (·.e.id))[a2]'(by simpa using b2)=(c.map (·.e.id))[a1]'(by simpa using b1)by rw[Jv,Jv,ha1,ha2];exact hee.symm) (hcd a2 a1 (by simpa using b2) (by simpa using b1) hlt)
      subst this;rw[<-ha1,<-ha2]
    have hst:(Yp m q).st≠1:=λhh=>by
     have:=UG.1 hh;rw[<-hqid]at this;rw[XH.2 hw]at this;cases this
    have hst2:(Yp m q).st=2\/(Yp m q).st=3:=by
     revert hst;unfold Yp Dq;split;exact λh=>absurd rfl h
     split;exact λ_=> .inr rfl
     exact λ_=> .inl rfl
    have hat:atN c (m[i]).par=Yp m q:=by simp[atN,hp,hfn]
    rw[hat]at h1 h2;rcases hst2 with h5|h5;exact h1 h5;exact h2 h5
   rw[getD_lt hic,getD_lt hi]at hk;rw[<-hk];exact Jt hic
 apply KB;simp[Zd,h.1];intro i h1 h2;have hi:i<m.length:=by have:=h.1;omega
 have hk:=h.2 i hi;rw[getD_lt h1,getD_lt hi]at hk;simp only[Zd,Jv];rcases hk with hk|⟨hk,_⟩;rw[hk];cases hw:Zdz m (m[i]).id with
 |none=>exact(S5 hw).symm
 |some w=>
  exfalso;have hem:m[i]∈m:=Jt hi;have hmem:=hs (XH.1 hw) _ (ha.find hem) (ha.n _ hem);obtain⟨j,hj,hje⟩:=Jo hmem;have hjm:j<m.length:=by have:=h.1;omega
  have h3:=Zb7 h hjm;rw[getD_lt hj,getD_lt hjm,hje,Uk]at h3;have hij:i=j:=by
   have hd:=ha.d;rw[JQ,Ji]at hd;rcases JX i j with hlt|heq|hlt
   ·exact absurd (show(m.map (·.id))[i]'(by simpa using hi)=(m.map (·.id))[j]'(by simpa using hjm)by rw[Jv,Jv,h3]) (hd i j (by simpa using hi) (by simpa using hjm) hlt)
   ·exact heq
   ·exact absurd (show(m.map (·.id))[j]'(by simpa using hjm)=(m.map (·.id))[i]'(by simpa using hi)by rw[Jv,Jv,h3]) (hd j i (by simpa using hjm) (by simpa using hi) hlt)
  subst hij;rw[hk]at hje;have:=congrArg Nd.st hje;rw[Zpk]at this;have:=UG.1 this.symm;rw[hw]at this;cases this
 exact hk
open Go.PL
theorem ZkH:∀(rs:List Rf) {l m:List Fd},OkFs l->Tu rs l=Hs m->OkFs m
 | [],l,m,h,e=>by cases e;exact h
 |r::rs,l,m,h,e=>by
  unfold Tu at e;split at e;cases e;exact ZkH rs (Zah h r) e
theorem Zev:∀(fs:List Fd) {l m:List Fd},(∀f∈fs,f.cases'.length<=1000000)->OkFs l->YE fs l=Hs m->OkFs m
 | [],l,m,_,h,e=>by cases e;exact h
 |f::fs,l,m,hc,h,e=>by
  unfold YE at e;split at e;cases e;exact Zev fs (λg hg=>hc g (by simp[hg])) (ZkJ h (hc f (by simp))) e
theorem Zf6 {l:List Fd} {x:Ln} (hl:OkFs l) (hx:OkLn x):OkFs (Yb l x).1:=by
 have o0:OkFs []:=⟨Jb _,λf hf=>by cases hf⟩;unfold Yb;split;exact o0;split;exact o0;rename_i m hm;unfold Gn at hm;split at hm;cases hm;obtain⟨k,h1,h2⟩:=KA.1 hm;exact Zev _ (ZqS hl hx).c (ZkH _ hl h1) h2
theorem Zey:OkFs Tc:=⟨by decide,by decide⟩
theorem ZkG:∀(w:List Eg) {fs gs:List Fd},(∀e∈w,OkLn e.ln)->OkFs fs->XQ w fs=Hs gs->OkFs gs
 | [],fs,gs,_,h,e=>by cases e;exact h
 |e::w,fs,gs,hw,h,he=>by
  unfold XQ at he;split at he;cases he;exact ZkG w (λx hx=>hw x (by simp[hx])) (Zf6 h (hw e (by simp))) he
theorem ZqV {m:List Eg} (hm:∀e∈m,OkLn e.ln) (e:Eg):OkFs (Yp m e).sch/\0<=(Yp m e).dep/\(Yp m e).dep<=(m.length:Int):=by
 have o0:OkFs []:=⟨Jb _,λf hf=>by cases hf⟩;unfold Yp Dq;split;exact⟨o0,by simp,by simp⟩;rename_i w hw;have h1:=XH.1 hw;split;exact⟨o0,by simp,by simp⟩;rename_i fs hf;have:=h1.len;exact⟨ZkG w (λx hx=>hm x (h1.mem x hx)) Zey hf,by simp,by simp only;omega⟩
theorem ZqT {m:List Eg} {c:List Nd} (hm:∀e∈m,OkLn e.ln) (h:Zfx m c) (id:Tg):OkFs (atN c id).sch/\0<=(atN c id).dep/\(atN c id).dep<=(m.length:Int):=by
 have o0:OkFs []:=⟨Jb _,λf hf=>by cases hf⟩;unfold atN;split;exact⟨Zey,by simp[ZeK],by simp[ZeK]⟩;cases hf:Di c id with
 |none=>exact⟨o0,Int.le_refl _,by show(0:Int)<=_;omega⟩
 |some n=>
  simp only[J3];obtain⟨_,hk⟩:=Zhf h (JC hf);rcases hk with hk|⟨hk,_⟩;rw[hk];exact⟨o0,by simp[Zhi],by simp[Zhi]⟩;rw[hk];exact ZqV hm _
theorem Znk {m:List Eg} {c:List Nd} (ha:Apart m) (h:Zfx m c) {i:Nat} (hi:i<c.length):(c.findIdx? λn=>decide ((c.getD i Jd).e.id=n.e.id))=Hs i:=by
 rw[Js];refine⟨hi,by rw[getD_lt hi];simp,λj hj=> ?_⟩;have hd:=ha.d;rw[<-Zdc h,K3]at hd;rw[JQ,Ji]at hd;have:=hd j i (by simp;omega) (by simpa using hi) hj;simp only[Jv,Function.comp]at this;rw[getD_lt hi];simp only[decide_eq_true_eq];exact λe=>this e.symm
theorem Zhq {m:List Eg} {c:List Nd} (ha:Apart m) (h:Zfx m c) {i:Nat} (hi:i<c.length) (hu:(atN c (c.getD i Jd).e.par).st=2\/(atN c (c.getD i Jd).e.par).st=3):Zfx m (c.set i (U9 (c.getD i Jd).e (atN c (c.getD i Jd).e.par))):=by
 have him:i<m.length:=by have:=h.1;omega
 have he:=Zb7 h him;rw[he]at hu ⊢;obtain⟨k1,k2⟩:=Zk7 ha h (Zf him) hu;rw[k1];refine⟨by simp[h.1],λj hj=> ?_⟩;by_cases e:i=j;subst e;right;have:(c.set i (Yp m (m.getD i Jd))).getD i Jd=Yp m (m.getD i Jd):=by
  rw[getD_lt (by simpa using hi)];simp
 rw[this];exact⟨rfl,k2⟩;have:(c.set i (Yp m (m.getD i Jd))).getD j Jd=c.getD j Jd:=by
  simp only[Jl,List.getElem?_set_ne e]
 rw[this];exact h.2 j hj
def Znc (c:List Nd):Nat:=c.countP λn=>decide (n.st=1)
theorem Zak {c:List Nd} {i:Nat} {n:Nd} (hi:i<c.length) (h1:(c.getD i Jd).st=1) (h2:n.st≠1):Znc (c.set i n)<Znc c:=by
 unfold Znc;rw[getD_lt hi]at h1;rw[List.countP_set hi];have:0<c.countP λn=>decide (n.st=1):=List.countP_pos_iff.2 ⟨c[i],Jt hi,by simpa using h1⟩
 simp only[h1,decide_true,if_true,h2,decide_false,JE,if_false];omega
theorem ZfW (c:List Nd) (i:Nat) (n:Nd) (h:n.e=(c.getD i Jd).e):kts (c.set i n)=kts c:=by
 unfold kts;apply List.ext_getElem?;intro j;simp only[List.getElem?_map,List.getElem?_set];by_cases e:i=j;subst e;by_cases hi:i<c.length;simp[hi,h,getD_lt hi];simp[hi];simp[e]
theorem Zf0 (c:List Nd) (i:Nat) (n:Nd):nds (c.set i n)=(nds c).set i (nd n):=by simp[nds,List.map_set]
theorem Zf1 (e:Eg) (u:Nd):(U9 e u).e=e:=by unfold U9;split<;>rfl
theorem ZcY (e:Eg) (u:Nd):(U9 e u).st≠1:=by unfold U9;split<;>simp
theorem F9 (c:List Nd):(kts c).length=c.length:=by simp[kts]
structure Seen (n:Nat) (p:Nat->Prop) where
 l:List Nat
 d:l.Nodup
 h:∀i∈l,i<n/\p i
def Seen.next {n:Nat} {p:Nat->Prop} (s:Seen n p) (i:Nat) (hi:i<n) (hp:p i) (hn:i∉s.l):Seen n p:=
 ⟨s.l++ [i],by rw[Ks];exact⟨s.d,by simp,λa ha b hb=>by simp at hb;subst hb;exact λe=>hn (e▸ha)⟩,λj hj=>by
  rcases JI.1 hj with hj|hj
  ·exact s.h j hj
  ·simp at hj;subst hj;exact⟨hi,hp⟩⟩
theorem Seen.len {n:Nat} {p:Nat->Prop} (s:Seen n p):s.l.length<=n:=by
 have:=Zc0 (m:=JS n) s.d (λi hi=>Kg.2 (s.h i hi).1);simpa using this
open Go.PL
def ZsV (m:List Eg):Type:= { c:List Nd // Zfx m c }
def Znm (c:List Nd) (i:Nat):Prop:=(c.getD i Jd).st≠1\/((atN c (c.getD i Jd).e.par).st≠2/\(atN c (c.getD i Jd).e.par).st≠3)
theorem Zem (l:List Nat) (i:Nat):(l++ [i]).getLast? = Hs i:=by simp
theorem Zk8 {m:List Eg} {c:List Nd} (h:Zfx m c) {i:Nat} (hi:i<m.length) (h1:(c.getD i Jd).st=1):(c.getD i Jd).sch= []/\(c.getD i Jd).dep=0:=by
 rcases h.2 i hi with hk|⟨_,hk⟩;rw[hk];exact⟨rfl,rfl⟩;exact absurd h1 hk
theorem Zk9 (m:List Eg) (c0:List Nd) (ha:Apart m) (h0:Zfx m c0) (hm:∀e∈m,OkLn e.ln) (hl:m.length<=1000):PL.Wr prog 82 (λb=> [.rptr [.mref b]]) (mc c0) (.tup []) (mc (Zd m)):=by
 refine PL.Wr.of_v func82 (by decide) rfl ntmps82 results82 (by simp) rfl (λb=> ?_);simp only[go_sem];refine ZpX (ι:=ZsV m) 61 (λx=> [(0,.rptr [.mref b])]) (λx=> []) (λx=> []) (λx=> [(b,mc x.1)]) (λx=> []) (λx=>Znc x.1) 0 _ (by exact rfl) (λx=>⟨(fcs rfl fnl),fnl⟩) (λx=> ?_) (λcut=> ?_);obtain⟨c,hc⟩:=x;simp only;have hcl:=hc.1;simp only[go_sem];intro ib;simp only[go_sem,forall_const,mc,F9];refine Zop (ι:=Seen c.length (Znm c)) 61 (λx=> [(0,.rptr [.mref b]),(11,.iptr ib)]) (λx=> []) (λx=> []) (λx=> [(b,mc c)]) (λx=> [(ib,⟨b,c.length,x.l,none⟩)]) (λx=>c.length-x.l.length) ⟨[],by simp,λi hi=>by cases hi⟩
  ⟨⟨rfl,(Fc2 rfl rfl),fnl,fnl⟩,fcs (by simp[upd,mc]) fnl,fcs (by simp[upd]) fnl⟩ (λx=>⟨(Fc2 rfl rfl),fnl⟩) (λx=> ?_)
 have hsl:=x.len;simp only[go_sem,mc,F9];refine⟨λhall=> ?_,λi hi hns=> ?_⟩;have hdone:c=Zd m:=Zk6 ha hc λi hi=>by
  have:=(x.h i (hall i (by omega))).2;unfold Znm at this;rw[Zb7 hc hi]at this;exact this
 rw[<-hdone];have him:i<m.length:=by omega
 have hA:=ZjE c (c.getD i Jd).e.par;obtain⟨ok1,ok2,ok3⟩:=ZqT hm hc (c.getD i Jd).e.par;have hL:=ZhJ (atN c (c.getD i Jd).e.par).sch (c.getD i Jd).e.ln ok1 (by rw[Zb7 hc him];exact hm _ (Zf him));have hset:=Znk ha hc hi;have hwd:IntKind.i64.wrap ((atN c (c.getD i Jd).e.par).dep+1)=(atN c (c.getD i Jd).e.par).dep+1:=w64 (by omega);have hnx:∀(s':St) (j:Seen c.length (Znm c)),j.l.length=x.l.length+1->HasO 61 [(0,.rptr [.mref b]),(11,.iptr ib)] [] [] [(b,mc c)] [(ib,⟨b,c.length,j.l,none⟩)] s'->Zow 61 (λx=> [(0,.rptr [.mref b]),(11,.iptr ib)]) (λx=> []) (λx=> []) (λx=> [(b,mc c)]) (λx=> [(ib,⟨b,c.length,x.l,none⟩)]) (λx:Seen c.length (Znm c)=>c.length-x.l.length) x s':=λs' j hj hh=>⟨j,by have:=j.len;show c.length-j.l.length<c.length-x.l.length;omega,hh⟩
 by_cases h1:(c.getD i Jd).st=1;obtain⟨hp1,hp2⟩:=Zk8 hc him h1;have e1:((c.getD i Jd).st !=1)=false:=by rw[h1];rfl
 simp only[go_sem,Zem,F3 hi,Zj3 hi,hi,F9,tg,nd,e1];refine ZnJ hA (Zm5 _) ?_ ?_ ?_;simp only[go_sem];simp only[go_sem,tr,tg,kts,nds];by_cases hs2:(atN c (c.getD i Jd).e.par).st=2;have e2:((atN c (c.getD i Jd).e.par).st !=2)=false:=by rw[hs2];rfl
 have e2':((atN c (c.getD i Jd).e.par).st==2)=true:=by rw[hs2];rfl
 have hsem:=Zhq ha hc hi (.inl hs2);simp only[go_sem,nd,e2,e2'];refine vc3 hL ?_;simp only[go_sem,ZC,Zh];by_cases hz:(Yb (atN c (c.getD i Jd).e.par).sch (c.getD i Jd).e.ln).2=0;have hnn:U9 (c.getD i Jd).e (atN c (c.getD i Jd).e.par)=⟨(c.getD i Jd).e,2,(Yb (atN c (c.getD i Jd).e.par).sch (c.getD i Jd).e.ln).1,(atN c (c.getD i Jd).e.par).dep+1⟩:=by unfold U9;rw[if_pos ⟨hs2,hz⟩]
 simp only[go_sem,hz];refine ZhE [(4,3)] (by kernel_rfl) (by kernel_rfl) (by exact rfl) ?_;simp only[go_sem,hwd];refine vDq ?_;simp only[go_sem,Yz,hset];refine⟨⟨_,hsem⟩,Zak hi h1 (ZcY _ _),⟨⟨rfl,(fcs rfl fnl),fnl,fnl⟩,fcs ?_ fnl,fnl⟩⟩;simp only[Zb];rw[ZfW c i _ (Zf1 _ _),Zf0,hnn];rfl;have hnn:U9 (c.getD i Jd).e (atN c (c.getD i Jd).e.par)=⟨(c.getD i Jd).e,3,[],0⟩:=by unfold U9;rw[if_neg (λhh=>hz hh.2)]
 have hzb:((Yb (atN c (c.getD i Jd).e.par).sch (c.getD i Jd).e.ln).2==0)=false:=by simpa using hz
 simp only[go_sem,hzb];refine vDq ?_;simp only[go_sem,Yz,hset];refine⟨⟨_,hsem⟩,Zak hi h1 (ZcY _ _),⟨⟨rfl,(fcs rfl fnl),fnl,fnl⟩,fcs ?_ fnl,fnl⟩⟩;simp only[Zb];rw[ZfW c i _ (Zf1 _ _),Zf0,hnn];simp only[nd,hp1,hp2];by_cases hs3:(atN c (c.getD i Jd).e.par).st=3;have e2:((atN c (c.getD i Jd).e.par).st !=2)=true:=by rw[hs3];rfl
 have e2':((atN c (c.getD i Jd).e.par).st==2)=false:=by rw[hs3];rfl
 have e3:((atN c (c.getD i Jd).e.par).st !=3)=false:=by rw[hs3];rfl
 have hsem:=Zhq ha hc hi (.inr hs3);have hnn:U9 (c.getD i Jd).e (atN c (c.getD i Jd).e.par)=⟨(c.getD i Jd).e,3,[],0⟩:=by unfold U9;rw[if_neg (λhh=>hs2 hh.1)]
 simp only[go_sem,nd,e2,e2',e3];refine vDq ?_;simp only[go_sem,Yz,hset];refine⟨⟨_,hsem⟩,Zak hi h1 (ZcY _ _),⟨⟨rfl,(fcs rfl fnl),fnl,fnl⟩,fcs ?_ fnl,fnl⟩⟩;simp only[Zb];rw[ZfW c i _ (Zf1 _ _),Zf0,hnn];simp only[nd,hp1,hp2]
 ·have e2:((atN c (c.getD i Jd).e.par).st !=2)=true:=by simpa using hs2
  have e3:((atN c (c.getD i Jd).e.par).st !=3)=true:=by simpa using hs3
  simp only[go_sem,nd,e2,e3];refine hnx _ (x.next i hi (.inr ⟨hs2,hs3⟩) hns) (by simp[Seen.next]) ?_;exact⟨⟨rfl,(Fc2 rfl rfl),fnl,fnl⟩,fcs (by simp[upd,mc]) fnl,fcs (by simp[upd,Seen.next]) fnl⟩
 ·have e1:((c.getD i Jd).st !=1)=true:=by simpa using h1
  simp only[go_sem,Zem,F3 hi,Zj3 hi,hi,F9,tg,nd,e1];refine hnx _ (x.next i hi (.inl h1) hns) (by simp[Seen.next]) ?_;exact⟨⟨rfl,(Fc2 rfl rfl),fnl,fnl⟩,fcs (by simp[upd,mc]) fnl,fcs (by simp[upd,Seen.next]) fnl⟩
 simp only[go_sem];exact Xe (cut ⟨c0,h0⟩ _ ⟨⟨rfl,(fcs rfl fnl),fnl,fnl⟩,fcs (by simp[upd]) fnl,fnl⟩)
open Go.PL
def SS (e:Eg):Bool:=W6 e.id&&((decide (e.par=Jd)||(W6 e.par&& !decide (e.par=e.id)))&&(decide (1<=e.ln.kind)&&(decide (e.ln.kind<=8)&&ZG e.ln)))
theorem DX {t:Tg} (h:W6 t=Ht):t≠Jd:=λe=>by subst e;exact absurd h (by decide)
theorem Zge {x:Ln} (h:ZG x=Ht):1<=x.kind:=by
 unfold ZG at h;split at h;rename_i hk;omega;split at h;omega;split at h;omega;split at h;omega;split at h;omega;split at h;omega;simp only[Jk,decide_eq_true_eq]at h;omega
theorem ZiZ (e:Eg) (he:OkLn e.ln):Pp 79 [eg e] (.bool (SS e)):=by
 have hT:=T5 e.id;have hU:=T5 e.par;have hR:=WE e.ln he;unfold SS;cases ht:W6 e.id;rw[ht]at hT;refine ZM func79 rfl ntmps79 results79 ?_;simp only[go_sem,eg];refine vc3 hT ?_;simp only[go_sem,Jg];rw[ht]at hT;generalize hdp:decide (e.par=Jd)=dp at *;generalize hde:decide (e.par=e.id)=de at *;generalize W6 e.par=tp at *;generalize ZG e.ln=rl at *;have hdp':(e.par.r==0&&e.par.n==0)=dp:=by rw[<-hdp];exact ZL e.par Jd
 refine ZM func79 rfl ntmps79 results79 ?_;simp only[go_sem,eg];refine vc3 hT ?_;simp only[go_sem];cases dp<;>cases tp<;>cases de
 all_goals
  refine vDq ?_;simp only[go_sem];refine vc3 G7 ?_;simp only[go_sem,tg,ZL,hdp,hde,hdp']
  (try refine vc3 hU ?_)
  (try simp only[go_sem,ZL,hde])
  (try repeat' ((first|(first|apply Zt|apply Zs|apply Zm)<;>intro h|refine vc3 hR ?_|refine vDq ?_)<;>first|simp only[go_sem,h]|simp only[go_sem]|skip))
  (try(all_goals simp_all))
open Go.PL
theorem TB (t:Tg):Pp 71 [tg t] (.bool (W6 t)):=by
 refine ZM func71 rfl ntmps71 results71 ?_;simp only[go_sem,tg];repeat' ((first|(first|apply Zt|apply Zs|apply Zm)<;>intro h|refine vDq ?_)<;>first|simp only[go_sem,h]|simp only[go_sem]|skip)
 all_goals (simp only[decide_eq_true_eq,decide_eq_false_iff_not]at *;rw[Je];simp[W6];omega)
theorem ZqE (e:Eg):SS e=(W6 e.id&&((decide (e.par=Jd)||W6 e.par)&&(!decide (e.id=e.par)&&(ZG e.ln&&decide (e.ln.kind<9))))):=by
 unfold SS;rw[Je];simp only[Jk,JH,decide_eq_true_eq,JY,decide_eq_false_iff_not];constructor;rintro ⟨h1,h2,h3,h4,h5⟩;refine⟨h1,?_,?_,h5,by omega⟩;rcases h2 with h2|h2;exact .inl h2;exact .inr h2.1;rcases h2 with h2|h2;exact λe1=>DX h1 (e1.trans h2)
 exact λe1=>h2.2 e1.symm
 rintro ⟨h1,h2,h3,h4,h5⟩;refine⟨h1,?_,Zge h4,by omega,h4⟩;rcases h2 with h2|h2;exact .inl h2;exact .inr ⟨h2,λe1=>h3 e1.symm⟩
theorem ZhS (e:Eg) (he:OkLn e.ln):Pp 76 [eg e] (.bool (SS e)):=by
 have hT:=TB e.id;have hU:=TB e.par;have hR:=Uc e.ln he;rw[ZqE];generalize hdp:decide (e.par=Jd)=dp at *;generalize hde:decide (e.id=e.par)=de at *;generalize W6 e.par=tp at *;generalize W6 e.id=ti at *;generalize ZG e.ln=rl at *;have hdp':(e.par.r==0&&e.par.n==0)=dp:=by rw[<-hdp];exact ZL e.par Jd
 refine ZM func76 rfl ntmps76 results76 ?_;simp only[go_sem,eg,hdp',ZL,hde];repeat' ((first|(first|apply Zt|apply Zs|apply Zm)<;>intro h|refine vc3 hT ?_|refine vc3 hU ?_|refine vc3 hR ?_|refine vDq ?_)<;>first|simp only[go_sem,h,hdp',ZL,hde]|simp only[go_sem,hdp',ZL,hde]|skip)
 all_goals simp_all
theorem Zi1 (a b:Eg) (ha:OkLn a.ln) (hb:OkLn b.ln):Pp 80 [eg a,eg b] (.bool (decide (a=b))):=by
 have hE:=Zbf a.ln b.ln ha hb;refine ZM func80 rfl ntmps80 results80 ?_;simp only[go_sem,eg,ZL];repeat' ((first|(first|apply Zt|apply Zs|apply Zm)<;>intro h|refine vc3 hE ?_|refine vDq ?_)<;>first|simp only[go_sem,h,ZL]|simp only[go_sem,ZL]|skip)
 all_goals (clear hE ha hb;cases a;cases b;simp_all)
theorem Zfq (a b:Eg) (ha:OkLn a.ln) (hb:OkLn b.ln):Pp 78 [eg a,eg b] (.bool (decide (a=b))):=by
 have hE:=Zfr a.ln b.ln ha hb;refine ZM func78 rfl ntmps78 results78 ?_;simp only[go_sem,eg,ZL];repeat' ((first|(first|apply Zt|apply Zs|apply Zm)<;>intro h|refine vc3 hE ?_|refine vDq ?_)<;>first|simp only[go_sem,h,ZL]|simp only[go_sem,ZL]|skip)
 all_goals (clear hE ha hb;cases a;cases b;simp_all)
theorem Ze2 (e:Eg) (he:OkLn e.ln):Pp 81 [eg e] (eg e):=by
 have hO:=Fx e.ln he;refine ZB func81 rfl ntmps81 results81 (ZfI _) ?_;simp only[go_sem,eg];refine vDq ?_;simp only[go_sem];refine vc3 hO ?_;simp only[go_sem,lns];rfl
def Ta (p:Pr):Bool:=Ws 200 p.fr'||Ws 200 p.to'
def Gy (l:List Pr):Bool:=decide (20<(l.length:Int))||l.any Ta
theorem DH (l:List Pr) (hl:l.length<=maxLen):Pp 75 [prs l] (.bool (Gy l)):=by
 by_cases h20:(20:Int)<(l.length:Int);refine ZM func75 rfl ntmps75 results75 ?_;simp only[go_sem,prs,h20,Gy];have hx:Gy l=l.any Ta:=by simp only[Gy,h20,decide_false,Kt]
 rw[hx];refine ZM func75 rfl ntmps75 results75 ?_;simp only[go_sem,prs,h20];refine ZA (ι:= { x:Nat // x<=(l).length/\(∀j,j<x->Ta (l.getD j Jd)=Hf) }) 29 (λx=> [(0,prs l),(3,.int .i64 (x.1:Int))]) (λx=> []) (λx=> []) (λx=>(l).length-x.1) ⟨0,Jb _,λj hj=>absurd hj (Jf j)⟩ ⟨rfl,(Fc2 rfl rfl),fnl,fnl⟩ (λx=>⟨(Fc2 rfl rfl),fnl⟩) (λx=> ?_);obtain⟨k,hk,hI⟩:=x;simp only at hk hI ⊢;by_cases h:(k:Int)<(l.length:Int)
 (have hka:k<(l).length:=by omega);(have w1:=WD hka (hl));(have i1:=Ja k)
 by_cases g1:(200:Int)<((l.getD k Jd).fr'.length:Int);have hz:=UY (p:=Ta) hka (d:=Jd) (by simp only[Ta,Ws,JH,decide_eq_true_eq];omega);simp only[go_sem,prs,h,Yf hka,pr,i1,g1,hz];by_cases g2:(200:Int)<((l.getD k Jd).to'.length:Int);have hz:=UY (p:=Ta) hka (d:=Jd) (by simp only[Ta,Ws,JH,decide_eq_true_eq];omega);simp only[go_sem,prs,h,Yf hka,pr,i1,g1,g2,hz]
 ·simp only[go_sem,prs,h,Yf hka,pr,i1,g1,g2,w1];exact⟨⟨k+1,by(try simp only);omega,Zu hI (by simp only[Ta,Ws,JZ,decide_eq_false_iff_not];omega)⟩,by show(l).length-(k+1)<(l).length-k;omega,⟨rfl,(Fc2 rfl rfl),fnl,fnl⟩⟩
 have hz:=Ux (p:=Ta) (d:=Jd) (l:=l) (λj hj=>hI j (by omega));simp only[go_sem,prs,h,hz]
theorem Zs0 (s:Str):Ws 200 s=decide ((200:Int)<(s.length:Int)):=rfl
def Us (x:Ln):Bool:=Ws 200 x.at'.gr||(Ws 200 x.at'.nm||(Ws 200 x.nm||(Ws 200 x.ot||(DN x.fd||(Gy x.fo||Gy x.ba)))))
structure LenLn (x:Ln):Prop where
 c:x.fd.cases'.length<=maxLen
 f:x.fo.length<=maxLen
 b:x.ba.length<=maxLen
theorem Zcl (x:Ln) (hx:LenLn x):Pp 29 [lns x] (.bool (Us x)):=by
 have hF:=ZdH x.fd hx.c;have hP:=DH x.fo hx.f;have hQ:=DH x.ba hx.b;unfold Us;generalize DN x.fd=a1 at *;generalize Gy x.fo=a2 at *;generalize Gy x.ba=a3 at *;refine ZM func29 rfl ntmps29 results29 ?_;simp only[go_sem,lns];repeat' ((first|(first|apply Zt|apply Zs|apply Zm)<;>intro h|refine vc3 hF ?_|refine vc3 hP ?_|refine vc3 hQ ?_|refine vDq ?_)<;>first|simp only[go_sem,h]|simp only[go_sem]|skip)
 all_goals (clear hF hP hQ hx;simp only[Zs0, *,Kf,KD,Kt,Bool.or_false])
def F6 (l:List Eg) (most:Int):Bool:=decide (most<(l.length:Int))||l.any λe=>Us e.ln
theorem ZdG (l:List Eg) (most:Int) (hl:l.length<=maxLen) (hx:∀e∈l,LenLn e.ln):Pp 7 [egs l,.int .i64 most] (.bool (F6 l most)):=by
 by_cases hm:most<(l.length:Int);refine ZM func7 rfl ntmps7 results7 ?_;simp only[go_sem,egs,hm,F6];have hz:F6 l most=l.any λe=>Us e.ln:=by simp only[F6,hm,decide_false,Kt]
 rw[hz];refine ZM func7 rfl ntmps7 results7 ?_;simp only[go_sem,egs,hm];refine ZA (ι:= { x:Nat // x<=(l).length/\(∀j,j<x->Us (l.getD j Jd).ln=Hf) }) 22 (λx=> [(0,egs l),(5,.int .i64 (x.1:Int))]) (λx=> []) (λx=> []) (λx=>(l).length-x.1) ⟨0,Jb _,λj hj=>absurd hj (Jf j)⟩ ⟨rfl,(Fc2 rfl rfl),fnl,fnl⟩ (λx=>⟨(Fc2 rfl rfl),fnl⟩) (λx=> ?_);obtain⟨k,hk,hI⟩:=x;simp only at hk hI ⊢;by_cases h:(k:Int)<(l.length:Int)
 (have hka:k<(l).length:=by omega);(have w1:=WD hka (hl));(have i1:=Ja k)
 have hF:=Zcl (l.getD k Jd).ln (hx _ (ZF hka));cases hf:Us (l.getD k Jd).ln
 ·rw[hf]at hF;simp only[go_sem,egs,h,XK hka,eg,i1];refine vc3 hF ?_;simp only[go_sem,w1];exact⟨⟨k+1,by(try simp only);omega,Zu hI hf⟩,by show(l).length-(k+1)<(l).length-k;omega,⟨rfl,(Fc2 rfl rfl),fnl,fnl⟩⟩
 rw[hf]at hF;have hz:=UY (p:=λe:Eg=>Us e.ln) hka hf;simp only[go_sem,egs,h,XK hka,eg,i1];refine vc3 hF ?_;simp only[go_sem,hz];have hz:=Ux (p:=λe:Eg=>Us e.ln) (d:=Jd) (l:=l) (λj hj=>hI j (by omega));simp only[go_sem,egs,h,hz]
theorem ZkI {x:Ln} (h:Us x=Hf):OkLn x:=by
 simp only[Us,DN,ZbH,Gy,JZ,decide_eq_false_iff_not]at h;obtain⟨_,_,_,_,⟨⟨_,_,_,h1⟩,_⟩,⟨h2,_⟩,h3,_⟩:=h;exact⟨by omega,by omega,by omega⟩
open Go.PL
def Zc5 (m:List Eg) (e:Eg):List Eg×Int:=
 if SS e=Hf then(m,5)else match Xo m e.id with
  |some x=>if x=e then(m,7)else(m,15)
  |none=>if 40<=m.length then(m,9)else(m++ [e],0)
structure OkM (m:List Eg):Prop where
 a:Apart m
 l:∀e∈m,OkLn e.ln
 n:m.length<=40
theorem Dt:OkM []:=⟨⟨by simp,λe h=>(by cases h)⟩,λe h=>(by cases h),by simp⟩
theorem Zpe {m:List Eg} (h:OkM m) {e:Eg} (he:OkLn e.ln):OkM (Zc5 m e).1:=by
 unfold Zc5;split;exact h;rename_i hb;split;split<;>exact h
 rename_i hf;split;exact h;rename_i hn;refine⟨⟨?_,λx hx=> ?_⟩,λx hx=> ?_,by simp;omega⟩;rw[KF,Ks];refine⟨h.a.d,by simp,λa ha b hb'=> ?_⟩;simp only[Jh,JL,JF]at hb';subst hb';obtain⟨x,hx,rfl⟩:=Jr.1 ha;unfold Xo at hf;rw[JP]at hf;have:=hf x hx;simp only[decide_eq_true_eq]at this;exact λe1=>this e1.symm
 rcases JI.1 hx with hx|hx;exact h.a.n x hx;rw[JF.1 hx];have hb:SS e=true:=by simpa using hb
 simp only[SS,Jk]at hb;exact DX hb.1;rcases JI.1 hx with hx|hx;exact h.l x hx;rw[JF.1 hx];exact he
theorem Zd9 {m:List Eg} {e x:Eg} {id:Tg} (h:Xo m id=Hs x):Xo (m++ [e]) id=Hs x:=by
 unfold Xo at *;rw[KU,h];rfl
theorem Way.append {m:List Eg} {e:Eg} {id:Tg} {w:List Eg} (h:Way m id w):Way (m++ [e]) id w:=by
 induction h with
 |root=>exact .root
 |step hn he hw ih=>exact .step hn (Zd9 he) ih
theorem Znl {m:List Eg} (e:Eg):Zfx (m++ [e]) (Zd m++ [Zhi e]):=by
 refine⟨by simp[Zd],λi hi=> ?_⟩;by_cases hl:i<m.length;rw[Zi (by simpa[Zd]using hl),Zi hl];have e1:(Zd m).getD i Jd=Yp m (m.getD i Jd):=by
  rw[getD_lt (by simpa[Zd]using hl),getD_lt hl];simp[Zd]
 rw[e1];cases hw:Zdz m (m.getD i Jd).id with
 |none=>exact .inl (S5 hw)
 |some w=>
  right;have:Zdz (m++ [e]) (m.getD i Jd).id=Hs w:=XH.2 (XH.1 hw).append;refine⟨by simp only[Yp,hw,this],λhh=> ?_⟩;rw[UG.1 hh]at hw;cases hw
 left;have hi':i=m.length:=by simp at hi;omega
 subst hi';rw[Zj (by simp[Zd]),Zj (KY _)];simp[Zd]
theorem Zlq (m:List Eg):Zfx m (Zd m):=by
 refine⟨by simp[Zd],λi hi=> ?_⟩;have e1:(Zd m).getD i Jd=Yp m (m.getD i Jd):=by
  rw[getD_lt (by simpa[Zd]using hi),getD_lt hi];simp[Zd]
 rw[e1];cases hw:Zdz m (m.getD i Jd).id with
 |none=>exact .inl (S5 hw)
 |some w=>exact .inr ⟨rfl,λhh=>by rw[UG.1 hh]at hw;cases hw⟩
theorem TJ (m:List Eg) (id:Tg):Di (Zd m) id=(Xo m id).map (Yp m):=by
 unfold Di Xo Zd;rw[K2];congr 1;congr 1;funext x;simp[Uk]
theorem Zg7 (m:List Eg) (id:Tg):((Zd m).findIdx? λn=>decide (id=n.e.id))=m.findIdx? λe=>decide (id=e.id):=by
 unfold Zd;rw[List.findIdx?_map];congr 1;funext x;simp[Uk]
theorem Zny (m:List Eg):(Zd m).length=m.length:=by simp[Zd]
theorem Zo8 (m:List Eg) (e:Eg):mc (Zd m++ [Zhi e])=⟨kts (Zd m)++ [tg e.id],nds (Zd m)++ [nd (Zhi e)]⟩:=by simp[mc,kts,nds,Zhi]
theorem Zq3 (m:List Eg) (e:Eg) (hm:OkM m) (he:OkLn e.ln):PL.Wr prog 32 (λb=> [.rptr [.mref b],eg e]) (mc (Zd m)) (.int .i64 (Zc5 m e).2) (mc (Zd (Zc5 m e).1)):=by
 have hE:=ZiZ e he;have hok:=Zpe hm he;unfold Zc5 at hok ⊢;cases hb:SS e;rw[hb]at hE;refine PL.Wr.of_v func32 (by decide) rfl ntmps32 results32 (by simp) rfl (λb=> ?_);simp only[go_sem,eg];refine vc3 hE ?_;simp only[go_sem,if_true];rw[hb]at hE;simp only[hb,Jp,if_false]at hok ⊢;have hidx:=Zg7 m e.id;cases hf:m.findIdx? (λx=>decide (e.id=x.id))with
 |some i=>
  rw[hf]at hidx;obtain⟨h1,h2⟩:=TI hidx;rw[TJ]at h2;cases hfe:Xo m e.id with
  |none=>rw[hfe]at h2;cases h2
  |some x=>
   rw[hfe]at h2;simp only[J6,KX.injEq]at h2;have hxm:=(XD hfe).2;have hS:=Zi1 x e (hm.l x hxm) he;have hgx:((Zd m).getD i Jd).e=x:=by rw[<-h2,Uk]
   have hval:(nds (Zd m)).getD i .any=nd (Yp m x):=by rw[F3 h1,h2]
   have hne:=Uk m x;simp only;cases hd:decide (x=e)
   ·rw[hd]at hS;have hx:¬x=e:=by simpa using hd
    simp only[hx,if_false];refine PL.Wr.of_v func32 (by decide) rfl ntmps32 results32 (by simp) rfl (λb=> ?_);simp only[go_sem,eg];refine vc3 hE ?_;simp only[go_sem];refine vDq ?_;simp only[go_sem,mc,Yz,hidx,hval,nd,hne];refine vc3 hS ?_;simp only[go_sem,mc]
   ·rw[hd]at hS;have hx:x=e:=by simpa using hd
    simp only[hx,if_true];refine PL.Wr.of_v func32 (by decide) rfl ntmps32 results32 (by simp) rfl (λb=> ?_);simp only[go_sem,eg];refine vc3 hE ?_;simp only[go_sem];refine vDq ?_;simp only[go_sem,mc,Yz,hidx,hval,nd,hne];refine vc3 hS ?_;simp only[go_sem,mc]
 |none=>
  rw[hf]at hidx;have h2:=TH.1 hidx;rw[TJ]at h2;have hfe:Xo m e.id=none:=by
   cases hx:Xo m e.id with
   |none=>rfl
   |some x=>rw[hx]at h2;cases h2
  rw[hfe]at hok ⊢;simp only at hok ⊢;have hkl:(kts (Zd m)).length=m.length:=by rw[F9,Zny]
  by_cases hn:40<=m.length
  ·have hn':(40:Int)<=(m.length:Int):=by omega
   simp only[hn,if_true];refine PL.Wr.of_v func32 (by decide) rfl ntmps32 results32 (by simp) rfl (λb=> ?_);simp only[go_sem,eg];refine vc3 hE ?_;simp only[go_sem];refine vDq ?_;simp only[go_sem,mc,Yz,hidx,hkl,hn']
  ·have hn':¬(40:Int)<=(m.length:Int):=by omega
   simp only[hn,if_false]at hok ⊢;have hO:=Ze2 e he;have hW:=Zk9 (m++ [e]) (Zd m++ [Zhi e]) hok.a (Znl e) hok.l (by have:=hok.n;omega);refine PL.Wr.of_v func32 (by decide) rfl ntmps32 results32 (by simp) rfl (λb=> ?_);simp only[go_sem,eg];refine vc3 hE ?_;simp only[go_sem];refine vDq ?_;simp only[go_sem,mc,Yz,hidx,hkl,hn'];refine vDq ?_;simp only[go_sem];refine vc3 hO ?_;simp only[go_sem,eg,mc,Yz,hidx];refine ZhD b hW ?_ ?_ ?_ ?_
   ·simp only[go_sem]
   ·simp only[go_sem]
   ·rw[Zo8];simp[upd,tg,nd,Zhi]
   ·simp only[go_sem,mc]
def ZmB (x:List Eg×Int):PV:= .tup [egs x.1,.int .i64 x.2]
theorem ZcD (l:List Eg):(egs l).dids= []:=by
 unfold egs;simp only[Jz];induction l with
 |nil=>rfl
 |cons e l ih=>simp only[Jh,Jm,ih,ZfI,Jc]
theorem TF (x:List Eg×Int):(ZmB x).dids= []:=by simp only[ZmB,Jz,Jm,ZcD,Jc]
theorem Zde (l:List Eg):Sized 20 (l.map eg):=λe he=>by
 obtain⟨x,_,rfl⟩:=Jr.1 he;rfl
theorem ZgR (l:List Eg):Vo (l.map eg):=λe he=>by
 obtain⟨x,_,rfl⟩:=Jr.1 he;rfl
theorem Gz {m:List Eg} {id:Tg}:(idx (λx=>decide (x.id=id)) m= -1/\Xo m id=none)\/ ∃i:Nat,i<m.length/\idx (λx=>decide (x.id=id)) m=(i:Int)/\Xo m id=Hs (m.getD i Jd):=by
 have e:(λx:Eg=>decide (x.id=id))=λx=>decide (id=x.id):=by funext x;simp[eq_comm]
 unfold idx;rw[e];cases hf:m.findIdx? (λx=>decide (id=x.id))with
 |none=>
  left;refine⟨rfl,?_⟩;rw[JB]at hf;unfold Xo;rw[JP];intro x hx hh;rw[hf x hx]at hh;cases hh
 |some i=>
  right;rw[Js]at hf;obtain⟨h1,h2,h3⟩:=hf;refine⟨i,h1,rfl,?_⟩;unfold Xo;rw[JT];exact⟨by rw[getD_lt h1];exact h2,i,h1,(getD_lt h1).symm,λj hj=>by simpa using h3 j hj⟩
theorem Zjo (m:List Eg) (e:Eg) (hm:OkM m) (he:OkLn e.ln):Pp 31 [egs m,eg e] (ZmB (Zc5 m e)):=by
 have hE:=ZhS e he;have hA:=Gf m e.id (by rw[Zc];have:=hm.n;omega);unfold Zc5;cases hb:SS e;rw[hb]at hE;refine ZB func31 rfl ntmps31 results31 (TF _) ?_;simp only[go_sem,eg,egs];refine vc3 hE ?_;simp only[go_sem,if_true,ZmB,egs];rw[hb]at hE;simp only[Jp,if_false];rcases Gz (m:=m) (id:=e.id)with ⟨h1,h2⟩|⟨i,hi,h1,h2⟩;rw[h1]at hA;rw[h2];by_cases hn:40<=m.length;have hn':(39:Int)<(m.length:Int):=by omega
 simp only[hn,if_true];refine ZB func31 rfl ntmps31 results31 (TF _) ?_;simp only[go_sem,eg,egs];refine vc3 hE ?_;simp only[go_sem];refine vc3 hA ?_;simp only[go_sem];refine vDq ?_;simp only[go_sem,hn',ZmB,egs]
 ·have hn':¬(39:Int)<(m.length:Int):=by omega
  simp only[hn,if_false];have hr1:=YX (show m.length<=1000000 by omega) (show 256<=1000 by omega);have hr2:=YX (show m.length+1<=1000000 by omega) (show 256<=1000 by omega);refine ZB func31 rfl ntmps31 results31 (TF _) ?_;simp only[go_sem,eg,egs];refine vc3 hE ?_;simp only[go_sem];refine vc3 hA ?_;simp only[go_sem];refine vDq ?_;simp only[go_sem,hn',ZmB,egs,Zde,ZgR,hr1,hr2];repeat((with_reducible refine And.intro ?_ ?_);(focus((repeat' (with_reducible apply And.intro))<;>(first|omega|exact Xm (by omega) (by omega)|exact Xm (by simp;omega) (by omega)|exact Xy _|(simp;done)|(simp;omega)))))
  simp[eg]
 rw[h1]at hA;rw[h2];have hS:=Zfq (m.getD i Jd) e (hm.l _ (Zf hi)) he;have i0:=Ja i
 have i1:(i:Int)<(m.length:Int):=by omega
 cases hd:decide (m.getD i Jd=e);rw[hd]at hS;have hx:¬m.getD i Jd=e:=by simpa using hd
 simp only[hx,if_false];refine ZB func31 rfl ntmps31 results31 (TF _) ?_;simp only[go_sem,eg,egs];refine vc3 hE ?_;simp only[go_sem];refine vc3 hA ?_;simp only[go_sem];refine vDq ?_;simp only[go_sem,i0,i1,XK hi,eg];refine vc3 hS ?_;simp only[go_sem,i0,ZmB,egs];rw[hd]at hS;have hx:m.getD i Jd=e:=by simpa using hd
 simp only[hx,if_true];refine ZB func31 rfl ntmps31 results31 (TF _) ?_;simp only[go_sem,eg,egs];refine vc3 hE ?_;simp only[go_sem];refine vc3 hA ?_;simp only[go_sem];refine vDq ?_;simp only[go_sem,i0,i1,XK hi,eg];refine vc3 hS ?_;simp only[go_sem,i0,ZmB,egs]
open Go.PL
def VV (l:List Eg):List Eg:=l.foldl (λm e=>(Zc5 m e).1) []
theorem Zf7:∀(l:List Eg) {m:List Eg},OkM m->(∀e∈l,OkLn e.ln)->OkM (l.foldl (λm e=>(Zc5 m e).1) m)
 | [],m,h,_=>h
 |e::l,m,h,hl=>Zf7 l (Zpe h (hl e (by simp))) (λx hx=>hl x (by simp[hx]))
theorem Zim {l:List Eg} {k:Nat} (hk:k<l.length):(l.take (k+1)).foldl (λm e=>(Zc5 m e).1) []=(Zc5 ((l.take k).foldl (λm e=>(Zc5 m e).1) []) (l.getD k Jd)).1:=by
 have:l.take (k+1)=l.take k++ [l.getD k Jd]:=by
  rw[getD_lt hk,List.take_add_one];simp[hk]
 rw[this,List.foldl_append];rfl
def grv (m:List Eg):PV:= .tup [tr (Zd m),egs m,.bool Ht]
theorem ZjS (l:List Nd):Jm (kts l)= []:=by
 unfold kts;induction l with
 |nil=>rfl
 |cons e l ih=>simp only[Jh,Jm,ih,Zln,Jc]
theorem ZjT (l:List Nd):Jm (nds l)= []:=by
 unfold nds;induction l with
 |nil=>rfl
 |cons e l ih=>simp only[Jh,Jm,ih,ZfZ,Jc]
theorem Zgu (l:List Nd):(tr l).dids= []:=by simp only[tr,Jz,Jm,ZjS,ZjT,Jc]
theorem ZmJ (m:List Eg):(grv m).dids= []:=by simp only[grv,Jz,Jm,Zgu,ZcD,Jc]
theorem ZhN (l:List Eg) (hl:l.length<=1000) (hx:∀e∈l,OkLn e.ln):Pp 10 [egs l] (grv (VV l)):=by
 have hml:l.length<=maxLen:=by rw[Zc];omega
 refine PL.Pure.of_vs func10 (by decide) rfl ntmps10 results10 (by simp) (ZmJ _) ?_;simp only[go_sem,egs];refine ZnH Zn6 ?_ ?_ (λb hb=> ?_);simp only[go_sem];simp only[go_sem];simp only[go_sem];refine ZdV 6 11 [] rfl ?_;refine Zop (ι:= { k:Nat // k<=l.length }) 40 (λx=> [(0,egs l),(5,.rptr [.mref b]),(6,egs (VV (l.take x.1))),(7,.int .i64 (x.1:Int))]) (λx=> []) (λx=> []) (λx=> [(b,mc (Zd (VV (l.take x.1))))]) (λx=> []) (λx=>l.length-x.1) ⟨0,Jb _⟩
  ⟨⟨rfl,(Fc4 rfl rfl rfl rfl),fnl,fnl⟩,fcs (by simp[upd];rfl) fnl,fnl⟩ (λx=>⟨(Fc4 rfl rfl rfl rfl),fnl⟩) (λx=> ?_)
 obtain⟨k,hk⟩:=x;simp only;by_cases h:(k:Int)<(l.length:Int);have hka:k<l.length:=by omega
 have w1:=WD hka hml;have i1:=Ja k
 have hft:=Zim hka;have hom:OkM (VV (l.take k)):=Zf7 _ Dt (λe he=>hx e (List.mem_of_mem_take he));have hR:=Zjo (VV (l.take k)) (l.getD k Jd) hom (hx _ (Zf hka));have hW:=Zq3 (VV (l.take k)) (l.getD k Jd) hom (hx _ (Zf hka));have hne:((Zc5 (VV (l.take k)) (l.getD k Jd)).2 !=(Zc5 (VV (l.take k)) (l.getD k Jd)).2)=false:=by simp
 simp only[go_sem,egs,h,XK hka,eg,i1];refine vc3 hR ?_;simp only[go_sem,ZmB,egs,h,XK hka,eg,i1];refine ZhD b hW ?_ ?_ ?_ ?_;simp only[go_sem];simp only[go_sem,eg];simp[upd];simp only[go_sem,hne,w1];refine⟨⟨k+1,by omega⟩,nx9 (by omega),⟨⟨rfl,fcs rfl (fcs rfl (fcs ?_ (fcs ?_ fnl))),fnl,fnl⟩,fcs ?_ fnl,fnl⟩⟩;show _=egs (VV (l.take (k+1)));unfold VV;rw[hft];rfl;rfl;show _=Hs (mc (Zd (VV (l.take (k+1)))));unfold VV;rw[hft];simp[upd];obtain rfl:k=l.length:=by omega
 have htl:l.take l.length=l:=JN;simp only[go_sem,egs,h,htl,mc];exact⟨_,rfl,by simp[PV.seal,PV.sealL,upd,grv,tr,egs]⟩
def edc (x:Eg×Int):PV:= .tup [eg x.1,.int .i64 x.2]
theorem ZgY (x:Eg×Int):(edc x).dids= []:=by simp only[edc,Jz,Jm,ZfI,Jc]
theorem Zbz:eg Jd= .agg [.int .i64 0,.int .i64 0,.int .i64 0,.int .i64 0,.int .i64 0,.int .i64 0,.str [],.str [],.str [],.str [],.int .i64 0,.int .i64 0,.str [],.str [],.int .i64 0,.str [],.sl .no [],.int .i64 0,.sl .no [],.sl .no []]:=rfl
def Zeb (m:List Eg) (id:Tg):Eg×Int:=match Xo m id with|some e=>(e,0)|none=>(Jd,6)
theorem Zbq (m:List Eg) (id:Tg) (hm:OkM m):Pp 267 [tr (Zd m),tg id] (edc (Zeb m id)):=by
 have hidx:=Zg7 m id;unfold Zeb;cases hf:m.findIdx? (λx=>decide (id=x.id))with
 |some i=>
  rw[hf]at hidx;obtain⟨h1,h2⟩:=TI hidx;rw[TJ]at h2;cases hfe:Xo m id with
  |none=>rw[hfe]at h2;cases h2
  |some x=>
   rw[hfe]at h2;simp only[J6,KX.injEq]at h2;have hO:=Ze2 x (hm.l x (XD hfe).2);have hval:(nds (Zd m)).getD i .any=nd (Yp m x):=by rw[F3 h1,h2]
   have hne:=Uk m x;refine ZB func267 rfl ntmps267 results267 (ZgY _) ?_;simp only[go_sem,tr,tg];refine vDq ?_;simp only[go_sem,Yz,hidx,hval,nd,hne];refine vc3 hO ?_;simp only[go_sem,eg,edc]
 |none=>
  rw[hf]at hidx;have h2:=TH.1 hidx;rw[TJ]at h2;have hfe:Xo m id=none:=by
   cases hx:Xo m id with
   |none=>rfl
   |some x=>rw[hx]at h2;cases h2
  rw[hfe];refine ZB func267 rfl ntmps267 results267 (ZgY _) ?_;simp only[go_sem,tr,tg];refine vDq ?_;simp only[go_sem,Yz,hidx,edc,Zbz]
def Yk (l:List Nd) (id:Tg):List Fd×Int:=if(atN l id).st=2 then((atN l id).sch,0)else if(atN l id).st=3 then([],16)else([],13)
theorem WH (m:List Eg) (id:Tg) (hm:OkM m):Pp 16 [tr (Zd m),tg id] (ZC (Yk (Zd m) id)):=by
 have hA:=ZjE (Zd m) id;obtain⟨o1,o2,o3⟩:=ZqT hm.l (Zlq m) id;have hO:=ZdO (atN (Zd m) id).sch (by have:=o1.n;omega) o1.c;unfold Yk;by_cases h2:(atN (Zd m) id).st=2;have e2:((atN (Zd m) id).st==2)=true:=by rw[h2];rfl
 simp only[h2,if_true];refine ZB func16 rfl ntmps16 results16 (ZD _) ?_;simp only[go_sem,tr,tg];refine vc5 hA ?_;simp only[go_sem,nd,e2];refine vc2 hO ?_;simp only[go_sem,Zh,ZC];by_cases h3:(atN (Zd m) id).st=3;have e2:((atN (Zd m) id).st==2)=false:=by simpa using h2
 have e3:((atN (Zd m) id).st==3)=true:=by rw[h3];rfl
 simp only[h2,h3,if_true,if_false];refine ZB func16 rfl ntmps16 results16 (ZD _) ?_;simp only[go_sem,tr,tg];refine vc5 hA ?_;simp only[go_sem,nd,e2,e3,ZC,Zh];have e2:((atN (Zd m) id).st==2)=false:=by simpa using h2
 have e3:((atN (Zd m) id).st==3)=false:=by simpa using h3
 simp only[h2,h3,if_false];refine ZB func16 rfl ntmps16 results16 (ZD _) ?_;simp only[go_sem,tr,tg];refine vc5 hA ?_;simp only[go_sem,nd,e2,e3,ZC,Zh]
def ZsX (l:List Nd) (id:Tg):Int:=if(atN l id).st=2 then(atN l id).dep else-1
open Go.PL
def upL (w:List Eg):List Tg:=(w.reverse.map (·.id))++ [Jd]
def upC (m:List Eg) (id:Tg):Int:=(Yk (Zd m) id).2
def Vm (m:List Eg) (id:Tg):List Eg:=(Zdz m id).getD []
theorem ZgQ (m:List Eg) (id:Tg) (h:id≠Jd):atN (Zd m) id=((Xo m id).map (Yp m)).getD Jd:=by
 simp only[atN,h,if_false,TJ]
theorem YU {m:List Eg} {id:Tg} (h:upC m id=0):Way m id (Vm m id)/\XQ (Vm m id) Tc=Hs (Yk (Zd m) id).1/\ZsX (Zd m) id=((Vm m id).length:Int):=by
 have hst:(atN (Zd m) id).st=2:=by
  unfold upC Yk at h;split at h;assumption;split at h<;>cases h
 have hs:(Yk (Zd m) id).1=(atN (Zd m) id).sch:=by simp only[Yk,hst,if_true]
 have hdp:ZsX (Zd m) id=(atN (Zd m) id).dep:=by simp only[ZsX,hst,if_true]
 rw[hs,hdp];by_cases hd:id=Jd;subst hd;have hw:Vm m Jd= []:=by
  have:=XH.2 (Way.root (m:=m));simp[Vm,this]
 rw[hw];exact⟨.root,by simp[XQ,atN,ZeK],by simp[atN,ZeK]⟩;rw[ZgQ m id hd]at hst ⊢;cases hf:Xo m id with
 |none=>rw[hf]at hst;cases hst
 |some e=>
  rw[hf]at hst;simp only[J6,J3]at hst ⊢;have hid:=(XD hf).1;unfold Yp Dq at hst ⊢;rw[<-hid]at hst ⊢;cases hw:Zdz m id with
  |none=>rw[hw]at hst;cases hst
  |some w=>
   have hwd:Vm m id=w:=by simp[Vm,hw]
   rw[hw]at hst;rw[hwd];simp only at hst ⊢;cases hfa:XQ w Tc with
   |none=>rw[hfa]at hst;cases hst
   |some fs=>exact⟨XH.1 hw,rfl,rfl⟩
theorem Zhz (w:List Eg) (e:Eg):upL (w++ [e])=e.id::upL w:=by simp[upL]
theorem X9 (w:List Eg):(upL w).length=w.length+1:=by simp[upL]
theorem ZaL (w:List Eg) (t:Nat) (ht:t<w.length):(upL w).getD (w.length-t-1) Jd=(w.getD t Jd).id:=by
 unfold upL;rw[Zi (by simp;omega)];rw[getD_lt (by simp;omega),getD_lt ht];simp only[Jv,List.getElem_reverse];congr 2;omega
theorem Zhy {m:List Eg} {id:Tg} {w:List Eg} (h:Way m id w):upL w=id::(upL w).tail:=by
 cases h with
 |root=>rfl
 |step hn he hw=>rw[Zhz,(XD he).1];rfl
def Zce (x:List Tg×Int):PV:= .tup [tgs x.1,.int .i64 x.2]
theorem Fr (l:List Tg):(tgs l).dids= []:=by simp only[tgs,Jz,ZgV]
theorem GW (x:List Tg×Int):(Zce x).dids= []:=by simp only[Zce,Jz,Jm,Fr,Jc]
def upM (m:List Eg) (id:Tg):List Tg×Int:=if upC m id≠0 then([],upC m id)else(upL (Vm m id),0)
structure UpS (m:List Eg) (w:List Eg) where
 id:Tg
 r:List Eg
 acc:List Tg
 hw:Way m id r
 hx:acc++(upL r).tail=upL w
theorem tgd (t:Tg):(t.r==0&&t.n==0)=decide (t=Jd):=ZL t Jd
theorem Zjt (m:List Eg) (id:Tg) (hm:OkM m):Pp 277 [tr (Zd m),tg id] (Zce (upM m id)):=by
 have hS:=WH m id hm;unfold upM;by_cases hc:upC m id=0;obtain⟨hw,_,_⟩:=YU hc;simp only[hc,ne_eq,not_true_eq_false,if_false];have hc':(Yk (Zd m) id).2=0:=hc;generalize Vm m id=w at *;have hwl:w.length<=40:=by have:=hw.len;have:=hm.n;omega
 refine ZB func277 rfl ntmps277 results277 (GW _) ?_;simp only[go_sem,tr,tg];refine vc5 hS ?_;simp only[go_sem,ZC,hc'];refine ZR 8 21 39 1 2 25 [tg id] rfl rfl rfl ?_;refine ZA (ι:=UpS m w) 41 (λx=> [(0,tr (Zd m)),(3,.ptr 3 0),(8,.sl (.row 39) (x.acc.map tg))]) (λx=> [(3,[.int .i64 x.id.r,.int .i64 x.id.n],Hf)]) (λx=> [(39,.live x.acc.length 2 25)]) (λx=>x.r.length) ⟨id,w,[id],hw,by rw[Zhy hw];rfl⟩
  ⟨rfl,(Fc3 rfl rfl rfl),fcs ⟨rfl,rfl⟩ fnl,fcs rfl fnl⟩ (λx=>⟨Fc3 rfl rfl (by simp[JJ,ZV]),(fcs rfl fnl)⟩) (λx=> ?_)
 obtain⟨id',r,acc,hr,hx⟩:=x;simp only;have hal:acc.length<=41:=by
  have:=congrArg KJ hx;rw[Jj,X9]at this;omega
 have hrm:=YX (show acc.length+1<=1000000 by omega) (show 16<=1000 by omega);by_cases hd:id'=Jd;have hb:decide (id'=Jd)=true:=by simpa using hd
 have hacc:acc=upL w:=by
  rw[<-hx];subst hd;cases hr with
  |root=>simp[upL]
  |step hn _ _=>exact absurd rfl hn
 simp only[go_sem,tgd,hb,Zce,tgs,hacc];have hb:decide (id'=Jd)=false:=by simpa using hd
 have hF:=Zbq m id' hm;cases hr with
 |root=>exact absurd rfl hd
 |step hn he hw'=>
  rename_i e u;have hfm:Zeb m id'=(e,0):=by simp[Zeb,he]
  rw[hfm]at hF;have hx':(acc++ [e.par])++(upL u).tail=upL w:=by
   rw[<-hx,Zhz,List.tail_cons,Zhy hw'];simp
  simp only[go_sem,tr,tgd,hb];refine vc5 hF ?_;simp only[go_sem,edc,eg,W5,hrm];exact⟨⟨e.par,u,acc++ [e.par],hw',hx'⟩,by show u.length<(u++ [e]).length;simp,⟨rfl,Fc3 rfl rfl (by simp[upd,tg]),fcs ⟨rfl,rfl⟩ fnl,fcs (by simp[upd]) fnl⟩⟩
 have hc':((Yk (Zd m) id).2 !=0)=true:=by have h:(Yk (Zd m) id).2≠0:=hc;simpa using h
 simp only[ne_eq,hc,not_false_eq_true,if_true];refine ZB func277 rfl ntmps277 results277 (GW _) ?_;simp only[go_sem,tr,tg];refine vc5 hS ?_;simp only[go_sem,ZC,hc',Zce,tgs,upC]
open Go.PL
def lcp:List Eg->List Eg->Nat
 |a::xs,b::ys=>if a=b then lcp xs ys+1 else 0
 |_,_=>0
theorem ZbR:∀(a b:List Eg),lcp a b<=a.length/\lcp a b<=b.length
 | [],b=>by simp[lcp]
 |a::xs,[]=>by simp[lcp]
 |a::xs,b::ys=>by
  have:=ZbR xs ys;simp only[lcp];split;simp;omega;simp
theorem ZcS:∀(a b:List Eg),lcp a b=lcp b a
 | [],[]=>rfl
 | [],b::ys=>rfl
 |a::xs,[]=>rfl
 |a::xs,b::ys=>by
  simp only[lcp,ZcS xs ys,eq_comm]
theorem ZfX:∀(a b:List Eg) (t:Nat),t<lcp a b->a.getD t Jd=b.getD t Jd
 | [],b,t,h=>by simp[lcp]at h
 |a::xs,[],t,h=>by simp[lcp]at h
 |a::xs,b::ys,t,h=>by
  simp only[lcp]at h;split at h;rename_i e;cases t with
  |zero=>simpa using e
  |succ t=>simpa using ZfX xs ys t (by omega)
  omega
theorem ZcT:∀(a b:List Eg),lcp a b<a.length->lcp a b<b.length->a.getD (lcp a b) Jd≠b.getD (lcp a b) Jd
 | [],b,h,_=>by simp at h
 |a::xs,[],_,h=>by simp at h
 |a::xs,b::ys,h1,h2=>by
  simp only[lcp]at h1 h2 ⊢;split;rename_i e;rw[if_pos e]at h1 h2;simpa using ZcT xs ys (by simpa using h1) (by simpa using h2);rename_i e;simpa using e
theorem Zha (a b:List Eg):a.take (lcp a b)=b.take (lcp a b):=by
 have hl:=ZbR a b;apply KB;simp;omega;intro i h1 h2;have hi:i<lcp a b:=by simp at h1;omega
 have:=ZfX a b i hi;rw[getD_lt (by omega),getD_lt (by omega)]at this;simpa using this
theorem Apart.inj {m:List Eg} (h:Apart m) {a b:Eg} (ha:a∈m) (hb:b∈m) (e:a.id=b.id):a=b:=by
 have h1:=h.find ha;rw[e,h.find hb]at h1;cases h1;rfl
structure WayT where
 up:List Tg
 down:List Tg
 i:Nat
 j:Nat
 c:Int
def ZlY (x:WayT):PV:= .tup [tgs x.up,tgs x.down,.int .i64 (x.i:Int),.int .i64 (x.j:Int),.int .i64 x.c]
theorem ZaS (x:WayT):(ZlY x).dids= []:=by simp only[ZlY,Jz,Jm,Fr,Jc]
def Zjb (m:List Eg) (a b:Tg):WayT:=
 if upC m a≠0 then⟨[],[],0,0,upC m a⟩else if upC m b≠0 then⟨[],[],0,0,upC m b⟩
 else⟨upL (Vm m a),upL (Vm m b),(Vm m a).length-lcp (Vm m a) (Vm m b),(Vm m b).length-lcp (Vm m a) (Vm m b),0⟩
theorem ZlJ (m:List Eg) (a b:Tg) (hm:OkM m):Pp 266 [tr (Zd m),tg a,tg b] (ZlY (Zjb m a b)):=by
 have hA:=Zjt m a hm;have hB:=Zjt m b hm;unfold Zjb;unfold upM at hA hB;by_cases ha:upC m a=0;by_cases hb:upC m b=0;obtain⟨wa,_,_⟩:=YU ha;obtain⟨wb,_,_⟩:=YU hb;simp only[ha,hb,ne_eq,not_true_eq_false,if_false]at hA hB ⊢;generalize Vm m a=p at *;generalize Vm m b=q at *;have hlc:=ZbR p q;have hpl:p.length<=40:=by have:=wa.len;have:=hm.n;omega
 have hql:q.length<=40:=by have:=wb.len;have:=hm.n;omega
 have l1:((upL p).length:Int)=(p.length:Int)+1:=by rw[X9];rfl
 have l2:((upL q).length:Int)=(q.length:Int)+1:=by rw[X9];rfl
 have s1:IntKind.i64.wrap ((p.length:Int)+1-1)=(p.length:Int):=by rw[w64 (by omega)];omega
 have s2:IntKind.i64.wrap ((q.length:Int)+1-1)=(q.length:Int):=by rw[w64 (by omega)];omega
 refine ZB func266 rfl ntmps266 results266 (ZaS _) ?_;simp only[go_sem,tr,tg];refine ZgI (ι:= { t:Nat // t<=lcp p q }) 62 (λx=> [(6,tgs (upL p)),(7,tgs (upL q)),(8,.int .i64 ((p.length-x.1:Nat):Int)),(9,.int .i64 ((q.length-x.1:Nat):Int))]) (λx=> []) (λx=> []) (λx=>lcp p q-x.1) 0 _ (by exact rfl) (λx=>⟨(Fc4 rfl rfl rfl rfl),fnl⟩) (λx=> ?_) (λcut=> ?_);obtain⟨t,ht⟩:=x;simp only;by_cases g1:t<p.length;have c1:(0:Int)<((p.length-t:Nat):Int):=by omega
 by_cases g2:t<q.length;have c2:(0:Int)<((q.length-t:Nat):Int):=by omega
 have w1:IntKind.i64.wrap (((p.length-t:Nat):Int)-1)=((p.length-t-1:Nat):Int):=by rw[w64 (by omega)];omega
 have w2:IntKind.i64.wrap (((q.length-t:Nat):Int)-1)=((q.length-t-1:Nat):Int):=by rw[w64 (by omega)];omega
 have k1:p.length-t-1<(upL p).length:=by rw[X9];omega
 have k2:q.length-t-1<(upL q).length:=by rw[X9];omega
 have b1:(0:Int)<=((p.length-t-1:Nat):Int):=by omega
 have b2:(0:Int)<=((q.length-t-1:Nat):Int):=by omega
 have b3:((p.length-t-1:Nat):Int)<((upL p).length:Int):=by omega
 have b4:((q.length-t-1:Nat):Int)<((upL q).length:Int):=by omega
 have v1:=ZaL p t g1;have v2:=ZaL q t g2;by_cases hlt:t<lcp p q;have heq:decide ((p.getD t Jd).id=(q.getD t Jd).id)=true:=by rw[ZfX p q t hlt];simp
 simp only[go_sem,tgs];refine vDq ?_;simp only[go_sem,c1,c2,w1,w2,ZO k1,ZO k2,v1,v2,tg,b1,b2,b3,b4,ZL,heq];exact⟨⟨t+1,by omega⟩,by show lcp p q-(t+1)<lcp p q-t;omega,⟨rfl,Fc4 rfl rfl (by simp only[K7];rfl) (by simp only[K7];rfl),fnl,fnl⟩⟩;obtain rfl:t=lcp p q:=by omega
 have hne:decide ((p.getD (lcp p q) Jd).id=(q.getD (lcp p q) Jd).id)=false:=by
  rw[decide_eq_false_iff_not];intro e;have hs:=ZcT p q (by omega) (by omega);exact hs (hm.a.inj (wa.mem _ (Zf g1)) (wb.mem _ (Zf g2)) e)
 simp only[go_sem,tgs];refine vDq ?_;simp only[go_sem,c1,c2,w1,w2,ZO k1,ZO k2,v1,v2,tg,b1,b2,b3,b4,ZL,hne,ZlY,tgs];have c2:¬(0:Int)<((q.length-t:Nat):Int):=by omega
 obtain rfl:t=lcp p q:=by omega
 simp only[go_sem,tgs];refine vDq ?_;simp only[go_sem,c1,c2,ZlY,tgs];have c1:¬(0:Int)<((p.length-t:Nat):Int):=by omega
 obtain rfl:t=lcp p q:=by omega
 simp only[go_sem,tgs];refine vDq ?_;simp only[go_sem,c1,ZlY,tgs];simp only[go_sem];refine vc5 hA ?_;simp only[go_sem,Zce];refine vc5 hB ?_;simp only[go_sem,Zce,tgs,l1,l2,s1,s2];exact Xe (cut ⟨0,Jb _⟩ _ ⟨rfl,(Fc4 rfl rfl rfl rfl),fnl,fnl⟩);have hb':(upC m b !=0)=true:=by simpa using hb
 simp only[ha,hb,ne_eq,not_true_eq_false,not_false_eq_true,if_true,if_false]at hA hB ⊢;refine ZB func266 rfl ntmps266 results266 (ZaS _) ?_;simp only[go_sem,tr,tg];refine Gb ?_;simp only[go_sem];refine vc5 hA ?_;simp only[go_sem,Zce];refine vc5 hB ?_;simp only[go_sem,Zce,tgs,hb',ZlY];have ha':(upC m a !=0)=true:=by simpa using ha
 simp only[ha,ne_eq,not_false_eq_true,if_true]at hA ⊢;refine ZB func266 rfl ntmps266 results266 (ZaS _) ?_;simp only[go_sem,tr,tg];refine Gb ?_;simp only[go_sem];refine vc5 hA ?_;simp only[go_sem,Zce,tgs,ha',ZlY]
open Go.PL
theorem Wc {x:Ln} (h:ZG x=Ht):(x.kind=1\/x.kind=2\/x.kind=3\/x.kind=4\/x.kind=5\/x.kind=6\/x.kind=7\/x.kind=8\/x.kind=9\/x.kind=10)/\(x.kind≠8->x.fo= []/\x.ba= []):=by
 unfold ZG at h;split at h;rename_i hk;simp only[Jk,JY]at h;exact⟨by omega,λ_=>Ti.1 h.2.2.2.2.1⟩;simp only[Jk]at h;obtain⟨_,h⟩:=h;split at h;rename_i hk;exact⟨by omega,λhn=>absurd hk hn⟩;simp only[Jk,JY]at h;refine⟨?_,λ_=>Ti.1 h.1⟩;have h:=h.2;split at h;omega;simp only[Jk]at h;have h:=h.2;split at h;omega;simp only[Jk]at h;have h:=h.2;split at h;omega;split at h;omega;simp only[Jk,decide_eq_true_eq]at h;omega
def ZqX (k:Int):Int:=if k=2\/k=3 then 5-k else if k=4\/k=5 then 9-k else if k=6\/k=9 then 15-k else if k=7\/k=10 then 17-k else k
theorem ZiD (k:Int) (h:k=1\/k=2\/k=3\/k=4\/k=5\/k=6\/k=7\/k=8\/k=9\/k=10):Pp 276 [.int .i64 k] (.int .i64 (ZqX k)):=by
 rcases h with rfl|rfl|rfl|rfl|rfl|rfl|rfl|rfl|rfl|rfl
 all_goals
  refine ZM func276 rfl ntmps276 results276 ?_;simp only[go_sem];rfl
theorem Zcm (x:Ln) (hx:OkLn x):Pp 261 [lns x] (lnc (Zn2 x)):=by
 have hR:=Uc x hx;unfold Zn2;cases hlr:ZG x;rw[hlr]at hR;refine ZB func261 rfl ntmps261 results261 (Wp _) ?_;simp only[go_sem,lns];refine vc3 hR ?_;simp only[go_sem,if_true,lnc,U7];rw[hlr]at hR;obtain⟨hk,ht⟩:=Wc hlr;have hO:=ZiD x.kind hk;simp only[Jp,if_false];obtain⟨kind,at',nm,ot,fac,fd,fo,ba⟩:=x;simp only at hk ht hO;clear hx hlr;by_cases h8:kind=8;subst h8;refine ZB func261 rfl ntmps261 results261 (Wp _) ?_;simp only[go_sem,lns];refine vc3 hR ?_;simp only[go_sem,lns];refine vDq ?_;simp only[go_sem];refine vc3 hO ?_;simp only[go_sem,lnc,lns,ZbP];rfl;obtain⟨rfl,rfl⟩:=ht h8;rcases hk with rfl|rfl|rfl|rfl|rfl|rfl|rfl|rfl|rfl|rfl
 all_goals first
  |(exact absurd rfl h8)
  |(refine ZB func261 rfl ntmps261 results261 (Wp _) ?_
    simp only[go_sem,lns];refine vc3 hR ?_;simp only[go_sem,lns];refine vDq ?_;simp only[go_sem];refine vc3 hO ?_;simp only[go_sem,lnc,lns,ZbP];rfl)
def ZcW (m:List Eg) (x:Lg):Ln×Int:=match Xo m x.id with|none=>(Jd,6)|some e=>if x.down=Ht then(e.ln,0)else(ZbP e.ln,0)
structure RightM (m:List Eg):Prop where
 r:∀e∈m,SS e=Ht
theorem Zby {e:Eg} (h:SS e=Ht):ZG e.ln=true:=by
 simp only[SS,Jk]at h;exact h.2.2.2.2
theorem Zni {m:List Eg} (h:RightM m) (e:Eg):RightM (Zc5 m e).1:=by
 unfold Zc5;split;exact h;rename_i hb;split;split<;>exact h
 split;exact h;refine⟨λx hx=> ?_⟩;rcases JI.1 hx with hx|hx;exact h.r x hx;rw[JF.1 hx];simpa using hb
theorem Zb4:∀(l:List Eg) {m:List Eg},RightM m->RightM (l.foldl (λm e=>(Zc5 m e).1) m)
 | [],m,h=>h
 |e::l,m,h=>Zb4 l (Zni h e)
theorem GL:RightM []:=⟨λe h=>by cases h⟩
theorem Zh5 (m:List Eg) (x:Lg) (hm:OkM m) (hr:RightM m):Pp 246 [tr (Zd m),lg x] (lnc (ZcW m x)):=by
 have hF:=Zbq m x.id hm;unfold Zeb at hF;unfold ZcW;cases hf:Xo m x.id with
 |none=>
  rw[hf]at hF;simp only at hF ⊢;refine ZB func246 rfl ntmps246 results246 (Wp _) ?_;simp only[go_sem,tr,lg];refine vc5 hF ?_;simp only[go_sem,edc,Zbz,lnc,U7]
 |some e=>
  rw[hf]at hF;simp only at hF ⊢;have hem:=(XD hf).2;have hO:=Fx e.ln (hm.l e hem);have hI:=ZdC e.ln (hm.l e hem);have hi:Zn2 e.ln=(ZbP e.ln,0):=by unfold Zn2;rw[Zby (hr.r e hem)];rfl
  rw[hi]at hI;obtain⟨id,down⟩:=x;cases down
  ·refine ZB func246 rfl ntmps246 results246 (Wp _) ?_;simp only[go_sem,tr,lg];refine vc5 hF ?_;simp only[go_sem,edc,eg];refine vc3 hI ?_;simp only[go_sem,lnc,lns,if_false]
  ·refine ZB func246 rfl ntmps246 results246 (Wp _) ?_;simp only[go_sem,tr,lg];refine vc5 hF ?_;simp only[go_sem,edc,eg];refine vc3 hO ?_;simp only[go_sem,lnc,lns,if_true]
theorem ZhU (m:List Eg) (x:Lg) (hm:OkM m) (hr:RightM m):Pp 240 [egs m,lg x] (lnc (ZcW m x)):=by
 have hA:=Gf m x.id (by rw[Zc];have:=hm.n;omega);unfold ZcW;rcases Gz (m:=m) (id:=x.id)with ⟨h1,h2⟩|⟨i,hi,h1,h2⟩;rw[h1]at hA;rw[h2];refine ZB func240 rfl ntmps240 results240 (Wp _) ?_;simp only[go_sem,egs,lg];refine vc3 hA ?_;simp only[go_sem,lnc,U7];rw[h1]at hA;rw[h2];simp only;have hem:m.getD i Jd∈m:=Zf hi;have hI:=Zcm (m.getD i Jd).ln (hm.l _ hem);have hv:Zn2 (m.getD i Jd).ln=(ZbP (m.getD i Jd).ln,0):=by unfold Zn2;rw[Zby (hr.r _ hem)];rfl
 rw[hv]at hI;have n1:¬(i:Int)<0:=by omega
 have i0:=Ja i
 have i1:(i:Int)<(m.length:Int):=by omega
 obtain⟨id,down⟩:=x;cases down;refine ZB func240 rfl ntmps240 results240 (Wp _) ?_;simp only[go_sem,egs,lg];refine vc3 hA ?_;simp only[go_sem,n1,i0,i1,XK hi,eg];refine vc3 hI ?_;simp only[go_sem,lnc,lns,if_false];refine ZB func240 rfl ntmps240 results240 (Wp _) ?_;simp only[go_sem,egs,lg];refine vc3 hA ?_;simp only[go_sem,n1,i0,i1,XK hi,eg,lnc,lns,if_true]
theorem Zs1 {x:Ln} (h:OkLn x):OkLn (ZbP x):=by
 unfold ZbP;repeat' split
 all_goals first|exact⟨h.c,h.f,h.b⟩|exact⟨h.c,h.b,h.f⟩
theorem ZqU {m:List Eg} (hm:OkM m) (x:Lg):OkLn (ZcW m x).1:=by
 unfold ZcW;split;exact⟨by decide,by decide,by decide⟩;rename_i e he;have:=hm.l e (XD he).2;split;exact this;exact Zs1 this
open Go.PL
structure ChT where
 l:List Fd
 n:Nat
 c:Int
def ZjN:List Fd->List Ln->Nat->ChT
 |fs,[],i=>⟨fs,i,0⟩
 |fs,x::xs,i=>if(Yb fs x).2≠0 then⟨[],i,(Yb fs x).2⟩else ZjN (Yb fs x).1 xs (i+1)
structure ChS (l:List Fd) (row:List Ln) where
 k:Nat
 fs:List Fd
 hk:k<=row.length
 ok:OkFs fs
 h:ZjN fs (row.drop k) k=ZjN l row 0
theorem ZjX {row:List Ln} {k:Nat} (hk:k<row.length):row.drop k=row.getD k Jd::row.drop (k+1):=by
 rw[getD_lt hk,Kj hk]
open Go.PL Go.PL.Srt
section
variable {α:Type} [Inhabited α] {pv:α->PV} {g:FuncId} {lt:α->α->Bool} {cv:α->α->Int}
inductive Blk (lt:α->α->Bool) (bs:Nat):List α->List α->Prop
 |last (l:List α) (h:l.length<=bs):Blk lt bs l (srt lt l)
 |more (l l' r':List α) (h:l.length=bs) (t:Blk lt bs l' r'):Blk lt bs (l++l') (srt lt l++r')
theorem Blk.small {bs:Nat} (hb:0<bs) {R C:List α} (h:Blk lt bs R C) (hR:R.length<=bs):C=srt lt R:=by
 cases h with
 |last l h=>rfl
 |more l l' r' h t=>
  simp only[Jj]at hR;have:l'= []:=KC.1 (by omega);subst this;have hr:r'= []:=by
   generalize hx:([]:List α)=x at t;cases t with
   |last l h=>subst hx;rfl
   |more l2 l3 r3 h t=>
    have:=congrArg KJ hx;simp only[KG,Jj]at this;omega
  subst hr;simp
theorem Blk.first {bs:Nat} {R C:List α} (h:Blk lt bs R C) (hR:bs<R.length):∃l l' r',R=l++l'/\C=srt lt l++r'/\l.length=bs/\Blk lt bs l' r':=by
 cases h with
 |last l h=>omega
 |more l l' r' h t=>exact⟨l,l',r',rfl,rfl,h,t⟩
theorem Blk.len {bs:Nat} {R C:List α} (h:Blk lt bs R C):C.length=R.length:=by
 induction h with
 |last l h=>exact ZI l
 |more l l' r' h t ih=>simp[ZI,ih]
theorem Blk.nil (bs:Nat):Blk lt bs ([]:List α) []:= .last [] (Jb _)
theorem Blk.two {bs:Nat} (hb:0<bs) {R C:List α} (h:Blk lt bs R C) (hR:2*bs<=R.length):∃l1 l2 R2 C2,R=l1++(l2++R2)/\C=srt lt l1++(srt lt l2++C2)/\l1.length=bs/\l2.length=bs/\Blk lt bs R2 C2:=by
 obtain⟨l1,l',r',rfl,rfl,h1,t⟩:=h.first (by omega)
 simp only[Jj]at hR;by_cases h2:bs<l'.length;obtain⟨l2,l3,r3,rfl,rfl,h3,t3⟩:=t.first h2
 exact⟨l1,l2,l3,r3,rfl,rfl,h1,h3,t3⟩;have:=t.small hb (by omega);subst this;exact⟨l1,l',[],[],by simp,by simp,h1,by omega,Blk.nil bs⟩
theorem Zll (gd:Srt.Good lt) {l1 l2:List α} (h:Unl lt (l1++l2)):srt lt (srt lt l1++srt lt l2)=srt lt (l1++l2):=
 (ZaE gd h ((Y4 l1).append (Y4 l2)).symm).symm
theorem Zdr {A B:List α} (h:Unl lt B) (s:A.Sublist B):Unl lt A:=KN.sublist s h
theorem DO (K:SortK pv g lt cv) (e:TypeId) (n:Nat) (X L Y:List α) (hU:Unl lt L) (hn:X.length+L.length+Y.length=n) (hm:n<=1000000000000) (l0 r:List PV) (hl0:l0=(X++(L++Y)).map pv) (hr:r=(X++(srt lt L++Y)).map pv) (ia ib:Int) (ha:ia=(X.length:Int)) (hb:ib=((X.length+L.length:Nat):Int)):
  Eff prog 194 [.vsl 1000 n 15,.int .i64 ia,.int .i64 ib,.fn g []] (Vj n 15 e l0) (.tup []) (Vj n 15 e r):=by
 subst ha hb hl0;exact ZcP K e n X L Y hU hn hm r hr
theorem ZiX (K:SortK pv g lt cv) (e:TypeId) (n:Nat) (hm:n<=1000000000000) (L:List α) (hU:Unl lt L) (hn:L.length=n) (r:List PV) (hr:r=(srt lt L).map pv):
  Eff prog 152 [.vsl 1000 n 15,.int .i64 (n:Int),.fn g []] (Vj n 15 e (L.map pv)) (.tup []) (Vj n 15 e r):=by
 subst hr;have hcl:∀l:List α,∀p∈l.map pv,p.ids= []:=λl=>XE K.ids l
 refine Eff.vw [] func152 (by decide) rfl ntmps152 results152 (by simp) (hcl _) (hcl _) (by simp[JJ,J5]) (by simp[JJ,J5]) λq=> ?_
 simp only[go_sem];refine Wx (ι:= { s:List α×List α // (∀C,Blk lt 20 s.2 C->Blk lt 20 L (s.1++C))/\s.1.length+s.2.length=n/\s.2.Sublist L }) 63 (λy=> [(0,.vsl 1000 n 15),(1,.int .i64 (n:Int)),(2,.fn g []),(6,.int .i64 20),(7,.int .i64 (y.1.1.length:Int)),(8,.int .i64 ((y.1.1.length+20:Nat):Int))]) (λ_=> []) (λ_=> [(1000,.vec n 15 e)]) (λ_=> []) (λ_=> []) (λy=> [(1000,(y.1.1++y.1.2).map pv)]) (λ_=> []) [] [(1000,q)] [] (λy=>y.1.2.length) ⟨([],L),λC h=>h,by simpa using hn,K4.refl L⟩
  (YB rfl (Fc6 rfl rfl rfl rfl rfl rfl) rfl rfl rfl) (λx=>XI (by simp[JJ,J5,ZV]) (YM K.ids _)) (λy=> ?_)
 obtain⟨⟨D,R⟩,h1,h2,h3⟩:=y;simp only at h1 h2 h3 ⊢;by_cases hk:20<=R.length;have c1:((D.length+20:Nat):Int)<=(n:Int):=by omega
 have w1:IntKind.i64.wrap (((D.length+20:Nat):Int)+20)=((D.length+20+20:Nat):Int):=by rw[Ur (by omega) (by omega)];omega
 have e1:R.take 20++R.drop 20=R:=List.take_append_drop _ _;have l1:(R.take 20).length=20:=by rw[JD];omega
 generalize R.take 20=l at e1 l1;generalize R.drop 20=R' at e1;subst e1;simp only[Jj]at h2;simp only[go_sem,c1];refine Xg 1000 (DO K e n D l R' (Zdr hU ((Kv _ _).trans h3)) (by omega) hm _ ((D++(srt lt l++R')).map pv) rfl rfl _ _ rfl (by omega)) (by simp[JJ,J5]) (hcl _) (hcl _) rfl rfl rfl ?_;simp only[go_sem,w1];refine⟨⟨(D++srt lt l,R'),λC hC=>by rw[J9];exact h1 _ (.more l R' C l1 hC),by simp[ZI];omega,(J4 _ _).trans h3⟩,by show R'.length<(l++R').length;simp;omega,YB rfl ?_ rfl (by show Hs _=Hs _;simp) rfl⟩;show ∀x∈ [(0,K8 1000 n 15),(1,.int .i64 (n:Int)),(2,.fn g []),(6,.int .i64 20),(7,.int .i64 ((D++srt lt l).length:Int)),(8,.int .i64 (((D++srt lt l).length+20:Nat):Int))],_;rw[show(D++srt lt l).length=D.length+20 by simp[ZI,l1]];exact(Fc6 rfl rfl rfl rfl rfl rfl);have c1:¬((D.length+20:Nat):Int)<=(n:Int):=by omega
 simp only[go_sem,c1];refine Xg 1000 (DO K e n D R [] (Zdr hU h3) (by simpa using h2) hm _ ((D++srt lt R).map pv) (by simp) (by simp) _ _ rfl (by omega)) (by simp[JJ,J5]) (hcl _) (hcl _) rfl rfl rfl ?_;have hB:=h1 _ (.last R (by omega));generalize D++srt lt R=C at hB;clear h1 h2 h3 hk c1;simp only[go_sem];refine Wx (ι:= { s:Nat×List α // Blk lt s.1 L s.2/\0<s.1/\(s.1=20\/s.1<=2*n) }) 63 (λy=> [(0,.vsl 1000 n 15),(1,.int .i64 (n:Int)),(2,.fn g []),(6,.int .i64 (y.1.1:Int))]) (λ_=> []) (λ_=> [(1000,.vec n 15 e)]) (λ_=> []) (λ_=> []) (λy=> [(1000,y.1.2.map pv)]) (λ_=> []) [] [(1000,q)] [] (λy=>n-y.1.1) ⟨(20,C),hB,by show 0<20;omega,.inl rfl⟩
  (YB rfl (Fc4 rfl rfl rfl rfl) rfl rfl rfl) (λx=>XI (by simp[JJ,J5,ZV]) (YM K.ids _)) (λy=> ?_)
 clear hB C;obtain⟨⟨bs,C⟩,hB,hb0,hb1⟩:=y;simp only at hB hb0 hb1 ⊢;by_cases hk:bs<n;have c1:(bs:Int)<(n:Int):=by omega
 have w1:IntKind.i64.wrap (2*(bs:Int))=((2*bs:Nat):Int):=by rw[Ur (by omega) (by omega)];omega
 have w2:IntKind.i64.wrap ((bs:Int)*2)=((2*bs:Nat):Int):=by rw[Ur (by omega) (by omega)];omega
 simp only[go_sem,c1,w1];refine Wx (ι:= { s:List α×List α×List α // (∀C,Blk lt (2*bs) s.2.1 C->Blk lt (2*bs) L (s.1++C))/\Blk lt bs s.2.1 s.2.2/\s.1.length+s.2.1.length=n/\s.2.1.Sublist L }) 63 (λy=> [(0,.vsl 1000 n 15),(1,.int .i64 (n:Int)),(2,.fn g []),(6,.int .i64 (bs:Int)),(7,.int .i64 (y.1.1.length:Int)),(8,.int .i64 ((y.1.1.length+2*bs:Nat):Int))]) (λ_=> []) (λ_=> [(1000,.vec n 15 e)]) (λ_=> []) (λ_=> []) (λy=> [(1000,(y.1.1++y.1.2.2).map pv)]) (λ_=> []) [] [(1000,q)] [] (λy=>y.1.2.1.length) ⟨([],L,C),λC h=>h,hB,by simpa using hn,K4.refl L⟩
  (YB rfl (by show ∀x∈ [(0,K8 1000 n 15),(1,.int .i64 (n:Int)),(2,.fn g []),(6,.int .i64 (bs:Int)),(7,.int .i64 0),(8,.int .i64 ((0+2*bs:Nat):Int))],_;rw[K5];exact(Fc6 rfl rfl rfl rfl rfl rfl)) rfl rfl rfl) (λx=>XI (by simp[JJ,J5,ZV]) (YM K.ids _)) (λy=> ?_)
 obtain⟨⟨D,R,CR⟩,h1,h2,h3,h4⟩:=y;simp only at h1 h2 h3 h4 ⊢;by_cases hk2:2*bs<=R.length;have c2:((D.length+2*bs:Nat):Int)<=(n:Int):=by omega
 have w3:IntKind.i64.wrap ((D.length:Int)+(bs:Int))=((D.length+bs:Nat):Int):=by rw[Ur (by omega) (by omega)];omega
 have w4:IntKind.i64.wrap (((D.length+2*bs:Nat):Int)+((2*bs:Nat):Int))=((D.length+2*bs+2*bs:Nat):Int):=by rw[Ur (by omega) (by omega)];omega
 obtain⟨l1,l2,R2,C2,rfl,rfl,k1,k2,k3⟩:=h2.two hb0 hk2;have k4:=k3.len;simp only[Jj]at h3;have hU2:Unl lt (l1++l2):=Zdr hU ((by rw[<-J9];exact Kv _ _:(l1++l2).Sublist (l1++(l2++R2))).trans h4);obtain⟨u1,u2,u3⟩:=Unl.append.1 hU2;have hU3:Unl lt (srt lt l1++srt lt l2):=Unl.perm hU2 ((Y4 l1).append (Y4 l2)).symm;simp only[go_sem,c2,w1,w3];refine Xg 1000 (DW K e n hm _ D (srt lt l1) (srt lt l2) C2 (KY _) (V6 K.good u1) (V6 K.good u2) hU3 (by rw[ZI];omega) (by rw[ZI];omega) (by simp only[ZI];omega) _ ((D++(srt lt (l1++l2)++C2)).map pv) (by simp) (by rw[Zll K.good hU2]) _ _ _ rfl (by simp only[ZI];omega) (by simp only[ZI];omega)) (by simp[JJ,J5]) (hcl _) (hcl _) rfl rfl rfl ?_;simp only[go_sem,w1,w4];have hx:(D++srt lt (l1++l2)).length=D.length+2*bs:=by simp[ZI];omega
 refine⟨⟨(D++srt lt (l1++l2),R2,C2),λC hC=>by rw[J9];exact h1 _ (by rw[<-J9];exact .more (l1++l2) R2 C (by simp;omega) hC),k3,by show(D++srt lt (l1++l2)).length+R2.length=n;rw[hx];omega,((J4 _ _).trans (J4 _ _)).trans h4⟩,by show R2.length<(l1++(l2++R2)).length;simp;omega,YB rfl ?_ rfl (by show Hs _=Hs _;simp) rfl⟩;show ∀x∈ [(0,K8 1000 n 15),(1,.int .i64 (n:Int)),(2,.fn g []),(6,.int .i64 (bs:Int)),(7,.int .i64 ((D++srt lt (l1++l2)).length:Int)),(8,.int .i64 (((D++srt lt (l1++l2)).length+2*bs:Nat):Int))],_;rw[hx];exact(Fc6 rfl rfl rfl rfl rfl rfl);have c2:¬((D.length+2*bs:Nat):Int)<=(n:Int):=by omega
 have w3:IntKind.i64.wrap ((D.length:Int)+(bs:Int))=((D.length+bs:Nat):Int):=by rw[Ur (by omega) (by omega)];omega
 by_cases hk3:bs<R.length;have c3:((D.length+bs:Nat):Int)<(n:Int):=by omega
 obtain⟨l1,R1,C1,rfl,rfl,k1,k2⟩:=h2.first hk3
 simp only[Jj]at h3 hk2 hk3;have:=k2.small hb0 (by omega);subst this;have hU2:Unl lt (l1++R1):=Zdr hU h4;obtain⟨u1,u2,u3⟩:=Unl.append.1 hU2;have hU3:Unl lt (srt lt l1++srt lt R1):=Unl.perm hU2 ((Y4 l1).append (Y4 R1)).symm;simp only[go_sem,c2,w3,c3];refine Xg 1000 (DW K e n hm _ D (srt lt l1) (srt lt R1) [] (KY _) (V6 K.good u1) (V6 K.good u2) hU3 (by rw[ZI];omega) (by rw[ZI];omega) (by simp only[ZI,KG];omega) _ ((D++srt lt (l1++R1)).map pv) (by simp) (by rw[Zll K.good hU2];simp) _ _ _ rfl (by simp only[ZI];omega) (by simp only[ZI];omega)) (by simp[JJ,J5]) (hcl _) (hcl _) rfl rfl rfl ?_;simp only[go_sem,w2];exact⟨⟨(2*bs,D++srt lt (l1++R1)),h1 _ (.last _ (by simp;omega)),by show 0<2*bs;omega,.inr (by show 2*bs<=2*n;omega)⟩,by show n-2*bs<n-bs;omega,YB rfl (Fc4 rfl rfl rfl rfl) rfl rfl rfl⟩;have c3:¬((D.length+bs:Nat):Int)<(n:Int):=by omega
 have:=h2.small hb0 (by omega);subst this;simp only[go_sem,c2,w3,c3,w2];exact⟨⟨(2*bs,D++srt lt R),h1 _ (.last _ (by omega)),by show 0<2*bs;omega,.inr (by show 2*bs<=2*n;omega)⟩,by show n-2*bs<n-bs;omega,YB rfl (Fc4 rfl rfl rfl rfl) rfl rfl rfl⟩;have c1:¬(bs:Int)<(n:Int):=by omega
 have:=hB.small hb0 (by omega);subst this;simp only[go_sem,c1];exact U2 (r0:= .tup []) (hcl _) rfl (.clean rfl) rfl rfl rfl
theorem ZaX (K:SortK pv g lt cv) (e:TypeId) (n:Nat) (hm:n<=1000000000000) (L:List α) (hU:Unl lt L) (hn:L.length=n) (r:List PV) (hr:r=(srt lt L).map pv):
  Eff prog 111 [.vsl 1000 n 15,.fn g []] (Vj n 15 e (L.map pv)) (.tup []) (Vj n 15 e r):=by
 subst hr;have hcl:∀l:List α,∀p∈l.map pv,p.ids= []:=λl=>XE K.ids l
 refine Eff.vw [] func111 (by decide) rfl ntmps111 results111 (by simp) (hcl _) (hcl _) (by simp[JJ,J5]) (by simp[JJ,J5]) λq=> ?_
 simp only[go_sem];refine Xg 1000 (ZiX K e n hm L hU hn _ rfl) (by simp[JJ,J5]) (hcl _) (hcl _) rfl rfl rfl ?_;simp only[go_sem];exact U2 (r0:= .tup []) (hcl _) rfl (.clean rfl) rfl rfl rfl
end
open Go.PL
open Go.PL
open Go.PL
open Go.PL
open Go.PL
open Go.PL
def flatTg:Flat Tg where
 p:=tg
 v:=λt=> [.int .i64 t.r,.int .i64 t.n]
 sz:=2
 pos:=by decide
 hp:=λ_=>rfl
 hv:=λ_=>rfl
 to:=λS x j u hj h=>by
  match j,hj with
  |0,_=>cases h;rfl
  |1,_=>cases h;rfl
 of:=λS x j hj=>by
  match j,hj with
  |0,_=>exact .int _ _
  |1,_=>exact .int _ _
def leT (x y:Tg):Bool:= !(Ye y x)
def GS (xs:List Tg):List Tg:=xs.mergeSort leT
theorem ZaJ (a b:Tg):Ye a b=Ht↔a.r<b.r\/(a.r=b.r/\a.n<b.n):=by
 unfold Ye;split;rename_i h;rw[decide_eq_true_eq];exact⟨λk=> .inr ⟨h,k⟩,λk=>by rcases k with k|k;exact absurd h (by omega);exact k.2⟩;rename_i h;rw[decide_eq_true_eq];exact⟨.inl,λk=>by rcases k with k|k;exact k;exact absurd k.1 h⟩
theorem Dm (a b:Tg):leT a b=Ht↔a.r<b.r\/(a.r=b.r/\a.n<=b.n):=by
 unfold leT;rw[JY,<-Bool.not_eq_true,ZaJ];omega
theorem GA (a b c:Tg) (h1:leT a b=Ht) (h2:leT b c=Ht):leT a c=true:=by
 rw[Dm]at *;omega
theorem Zen (a b:Tg):(leT a b||leT b a)=true:=by
 rw[JH,Dm,Dm];omega
theorem ZmW {a b:Tg} (h1:leT a b=Ht) (h2:leT b a=Ht):a=b:=by
 rw[Dm]at h1 h2;obtain⟨x,y⟩:=a;obtain⟨z,w⟩:=b;simp only at h1 h2;obtain rfl:x=z:=by omega
 obtain rfl:y=w:=by omega
 rfl
theorem Zkm {a b:Tg} (h:Ye a b=Ht):leT a b=true:=by
 rw[ZaJ]at h;rw[Dm];omega
theorem Zno {l l':List Tg} (hp:l.Perm l') (hs:l.Pairwise λa b=>leT a b=Ht):l=GS l':=
 List.Perm.eq_of_pairwise (le:=λa b=>leT a b=Ht) (λa b _ _ h1 h2=>ZmW h1 h2) hs (List.pairwise_mergeSort GA Zen l') (hp.trans (List.mergeSort_perm l' leT).symm)
open Go.Shelf Go.RowKit Go.Lib Go.Sort
section
variable {α:Type} [Inhabited α] (F:Flat α)
theorem Zcy {w:World} {b o:Nat} {vs:List Value} {e:TypeId} (h:w.heap[b]? = Hs (.cells ⟨vs⟩ e (0,0))) (ho:o<vs.length):w.cell? ⟨b,o,none⟩=Hs (vs.getD o undef):=by
 rw[Xn h,Jy ho,PL.getD_lt ho]
theorem Zoi {k:Nat} (h:0<k) {n j:Nat} (hj:j<n*k):j / k<n/\j % k<k/\j=j / k*k+j % k:=by
 refine⟨?_,Nat.mod_lt _ h,?_⟩;exact Nat.div_lt_of_lt_mul (by rwa[K6]);rw[K6];exact(Nat.div_add_mod j k).symm
theorem Zg2 (xs:List α) (j:Nat) (hj:j<xs.length*F.sz):(flatK F.v F.sz xs.toArray)[j]! = (F.v (xs.getD (j / F.sz) Jd)).getD (j % F.sz) undef:=by
 obtain⟨h1,h2,h3⟩:=Zoi F.pos hj;rw[get_flatK _ _ _ _ (by simpa using hj)];have e1:(xs.toArray)[j / F.sz]! = xs.getD (j / F.sz) Jd:=by
  rw[PL.getD_lt h1];simp[h1]
 rw[e1];have hv:=F.hv (xs.getD (j / F.sz) Jd);generalize F.v (xs.getD (j / F.sz) Jd)=L at hv ⊢;have hL:j % F.sz<L.length:=by omega
 rw[PL.getD_lt hL];exact getElem!_pos L _ hL
theorem raw_holds {w:World} {b c:Nat} {xs:List α} {e:TypeId} {vs:List Value} (hw:w.heap[b]? = Hs (.cells ⟨vs⟩ e (0,0))) (hl:xs.length*F.sz<=vs.length)
  (hv:∀i j,i<xs.length->j<F.sz->vs.getD (i*F.sz+j) undef=(F.v (xs.getD i Jd)).getD j undef):HoldsK F.v F.sz w b 0 xs.toArray:=by
 intro j hj;have hj':j<xs.length*F.sz:=by simpa using hj
 obtain⟨h1,h2,h3⟩:=Zoi F.pos hj';rw[Zg2 F xs j hj',K5];refine⟨?_,?_⟩;rw[Zcy hw (by omega),<-hv _ _ h1 h2,<-h3];rfl;simp[World.frozen?,hw]
theorem ZiK {w:World} {b c n lo:Nat} {xs ys:List α} {e:TypeId} {vs:List Value} {os:Array Obj} (hlo:lo<=b) (hc:xs.length<=c) (hw:w.heap[b]? = Hs (.cells ⟨vs⟩ e (0,0))) (hl:xs.length*F.sz<=vs.length) (hy:ys.length=xs.length):
  Zbp F (sortWorldK F.v F.sz w b 0 n ys.toArray os) lo ys (.slice (Hs ⟨b,0,none⟩) ys.length c)/\BelowF (λk=>k<lo) w (sortWorldK F.v F.sz w b 0 n ys.toArray os):=by
 have hb:b<w.heap.size:=(Ki.1 hw).1;have hs:(sortWorldK F.v F.sz w b 0 n ys.toArray os).heap=w.heap.modify b (onCells (putCells id 0 (flatK F.v F.sz ys.toArray)))++os:=rfl;have hat:∀k,k<w.heap.size->(sortWorldK F.v F.sz w b 0 n ys.toArray os).heap[k]? = (w.heap.modify b (onCells (putCells id 0 (flatK F.v F.sz ys.toArray))))[k]? :=λk hk=>by
  rw[hs,Array.getElem?_append_left (by simpa using hk)]
 refine⟨.inr ⟨b,c,e,(putCells id 0 (flatK F.v F.sz ys.toArray) ⟨vs⟩).toList,hlo,rfl,by omega,?_,?_,λi j hi hj=> ?_⟩,?_⟩;rw[hat b hb,KI,if_pos rfl,hw];rfl;rw[hy];simpa[putCells]using hl;have q1:(i+1)*F.sz<=ys.length*F.sz:=Nat.mul_le_mul_right _ (by omega);rw[Nat.succ_mul]at q1;have hij:i*F.sz+j<vs.length:=by rw[hy]at q1;omega
 have d1:(i*F.sz+j) / F.sz=i:=(blk_iff F.sz i _ F.pos).1 ⟨by omega,by omega⟩;have d2:(i*F.sz+j) % F.sz=j:=by rw[Nat.mod_eq_sub_div_mul,d1];omega
 have hf:=Zg2 F ys (i*F.sz+j) (by omega);rw[d1,d2]at hf;rw[PL.getD_lt (by simpa[putCells]using hij)];rw[<-hf];simp only[putCells,Array.getElem_toList,Array.getElem_mapIdx];rw[if_pos ⟨Jb _,by rw[size_flatK];simp;omega⟩];rfl;refine⟨rfl,rfl,rfl,?_,λk hk=> ?_⟩;rw[hs];simp;have hk':k<lo:=hk;rw[hat k (by omega),KI,if_neg (by omega)]
end
open Go.PL
open Go.Shelf Go.RowKit Go.Lib Go.Sort
def ZlR (a b:Tg):Int:=if Ye a b then-1 else if Ye b a then 1 else 0
def Grew (W w':World):Prop:=∃q os',w'=grow (W.drewN q) os'
theorem Grew.trans {a b c:World} (h:Grew a b) (k:Grew b c):Grew a c:=by
 obtain⟨q,os,rfl⟩:=h;obtain⟨p,os',rfl⟩:=k;refine⟨q+p,os++os',?_⟩;rw[<-grow_grow];show grow (grow ((a.drewN q).drewN p) os) os'=_;rw[World.drewN_drewN]
theorem ZoY (W:World) (o1 o2:Obj):Grew W ((W.alloc o1).alloc o2):=⟨0,_,by rw[alloc_eq_grow,alloc_eq_grow,grow_grow];rfl⟩
theorem ZqL (x y:Tg) (W:World):Calls prog 139 #[.agg #[.int .i64 x.r,.int .i64 x.n],.agg #[.int .i64 y.r,.int .i64 y.n]] W λe w'=>e= .returned (.bool (Ye x y))/\Grew W w':=by
 unfold Ye
 go_enter func139,ntmps139
 go_wp2
 all_goals
  go_ret
  refine⟨?_,ZoY _ _ _⟩;simp_all
theorem Zms {W w':World} {c1 c2:List Value} {t1 t2:TypeId} (h:Grew ((W.alloc (.cells ⟨c1⟩ t1)).alloc (.cells ⟨c2⟩ t2)) w'):
  (∀o,w'.cell? ⟨W.heap.size,o,none⟩=c1[o]?)/\ ∀o,w'.cell? ⟨W.heap.size+1,o,none⟩=c2[o]? :=by
 obtain⟨q,os,rfl⟩:=h;have hsz:(((W.alloc (.cells ⟨c1⟩ t1)).alloc (.cells ⟨c2⟩ t2)).drewN q).heap.size=W.heap.size+2:=by
  show((W.heap.push _).push _).size=_;simp
 refine⟨λo=> ?_,λo=> ?_⟩;rw[cell?_grow _ _ _ (by rw[hsz];show W.heap.size<_;omega)];refine Xn (t:=t1) (f:=(0,0)) ?_;show((W.heap.push _).push _)[W.heap.size]? = _;simp[KM];rw[cell?_grow _ _ _ (by rw[hsz];show W.heap.size+1<_;omega)];refine Xn (t:=t2) (f:=(0,0)) ?_;show((W.heap.push _).push _)[W.heap.size+1]? = _;rw[KM,if_pos (by simp)]
theorem ZoO (x y:Tg) (W:World):Calls prog 138 #[.agg #[.int .i64 x.r,.int .i64 x.n],.agg #[.int .i64 y.r,.int .i64 y.n]] W λe w'=>e= .returned (.int .i64 (ZlR x y))/\Grew W w':=by
 unfold ZlR;generalize h1:Ye x y=b1;generalize h2:Ye y x=b2;have c1:=λW=>ZqL x y W
 have c2:=λW=>ZqL y x W
 rw[h1]at c1;rw[h2]at c2;clear h1 h2;cases b1
 ·cases b2;all_goals
   simp only[if_true,if_false,JE]
   go_enter func138,ntmps138
   go_wp2_with (go_at_call 139;refine(c1 _).mono ?_;rintro e w' ⟨rfl,hw⟩;have k1:=(Zms hw).1 0;have k2:=(Zms hw).1 1;have k3:=(Zms hw).2 0;have k4:=(Zms hw).2 1;simp only[List.getElem?_cons_zero,List.getElem?_cons_succ]at k1 k2 k3 k4;clear c1)
   refine(c2 _).mono ?_
   rintro e w2 ⟨rfl,hw2⟩
   clear c2
   go_wp2
   go_ret
   exact⟨rfl,((ZoY _ _ _).trans hw).trans hw2⟩
 simp only[if_true,if_false,JE]
 go_enter func138,ntmps138
 go_wp2_with (go_at_call 139;refine(c1 _).mono ?_;rintro e w' ⟨rfl,hw⟩;clear c1)
 go_ret
 exact⟨rfl,(ZoY _ _ _).trans hw⟩
theorem ltT (x y:Tg):ltOf ZlR x y=Ye x y:=by
 unfold ltOf ZlR;cases h1:Ye x y;cases h2:Ye y x<;>rfl
 rfl
theorem Zvf:SWO (ltOf ZlR) where
 irrefl x:=by rw[ltT];simp[Ye]
 trans x y z h1 h2:=by
  rw[ltT]at *;unfold Ye at *
  by_cases a:x.r=y.r<;>by_cases b:y.r=z.r<;>by_cases c:x.r=z.r<;>simp[a,b,c]at * <;> first|omega|(simp_all;omega)
 ntrans x y z h1 h2:=by
  rw[ltT]at *;unfold Ye at *
  by_cases a:x.r=y.r<;>by_cases b:y.r=z.r<;>by_cases c:x.r=z.r<;>simp[a,b,c]at * <;> first|omega|(simp_all;omega)
theorem Zvl (x y:Tg) (h1:ltOf ZlR x y=Hf) (h2:ltOf ZlR y x=Hf):x=y:=by
 rw[ltT]at *;unfold Ye at *;obtain⟨a,b⟩:=x;obtain⟨c,d⟩:=y;simp only at h1 h2;by_cases e:a=c;subst e;simp at h1 h2;have:b=d:=by omega
 rw[this];have e':¬c=a:=λh=>e h.symm
 simp[e,e']at h1 h2;omega
theorem Zlb (xs:List Tg) (lo:Nat) (w:World) (v:Value) (hx:xs.length<=1000000) (hr:Zbp flatTg w lo xs v) (hlo:lo<=w.heap.size):
  Calls prog 137 #[v,.func (.func 138) #[] #[]] w λe w'=>e= .returned (.tuple #[])/\Zbp flatTg w' lo (GS xs) v/\BelowF (λk=>k<lo) w w':=by
 rcases hr with ⟨h0,rfl⟩|⟨b,c,e,vs,h1,rfl,h3,h4,h5,h6⟩;obtain rfl:=KC.1 h0;refine(AnyF.slices_SortFunc_none Zla none 0 (.func (.func 138) #[] #[]) w).mono λe w' ⟨he,hw⟩=> ?_
 subst hw;exact⟨he,.inl ⟨by simp[GS],rfl⟩,BelowF.refl _ _⟩;have hk:∀x:Tg,(flatTg.v x).length=2:=λ_=>rfl
 have h1c:∀x:Tg,∀v∈flatTg.v x,v.oneCell'=true:=λx v hv=>by
  simp only[flatTg,Ju,Ky,or_false]at hv;rcases hv with rfl|rfl<;>rfl
 have hcmp:CmpLays prog 138 #[] flatTg.v 2 ZlR b 0 xs.toArray.size w:=λ_ _ _ _ x y=>ZoO x y _
 have eg:∀args w,(callFunc 138 args).run prog w= .ok (.enter 138 args) w:=enters_of func138 (by kernel_rfl) rfl;have hH:=raw_holds flatTg (c:=c) h4 h5 h6;have hb:b<w.heap.size:=(Ki.1 h4).1;have hcon:=AnyQ.slices_SortFunc_total Zla 2 isAgg25 sizeOf25 flatTg.v hk h1c ZlR Zvf 138 #[] b 0 c xs.toArray w eg hcmp hH hb (by simp;omega) Zvl;have hsz:xs.toArray.size=xs.length:=by simp
 rw[hsz]at hcon;refine hcon.mono λe w' ⟨he,n,os,hw⟩=>⟨he,?_⟩
 have hms:(xs.toArray.toList.mergeSort λx y=> !(ltOf ZlR) y x)=GS xs:=by
  unfold GS leT;simp only[ltT]
 rw[hms]at hw;have hly:(GS xs).length=xs.length:=by unfold GS;simp
 have hrs:=ZiK flatTg (ys:=GS xs) (n:=n) (os:=os) h1 h3 h4 h5 hly;rw[hly]at hrs;rw[hw];exact hrs
open Go.PL
def Zn0 (l:List Tg) (t:Tg):Int:=idx (λx=>decide (x=t)) l
theorem FC (l:List Tg) (t:Tg) (hl:l.length<=maxLen):Pp 148 [tgs l,tg t] (.int .i64 (Zn0 l t)):=Zbl l t hl
theorem Zo0 {l:List Tg} {t:Tg} (h:t∉l):Zn0 l t= -1:=by
 unfold Zn0;apply Vt (d:=Jd);intro j hj;rw[decide_eq_false_iff_not];intro e;exact h (e▸Zf hj)
theorem ZmK {l:List Tg} {t:Tg} (h:t∈l):0<=Zn0 l t:=by
 unfold Zn0 idx;cases hf:l.findIdx? λx=>decide (x=t)with
 |none=>rw[JB]at hf;have:=hf t h;simp at this
 |some i=>simp
open Go.PL
def ZaF (m:List Eg) (id:Tg):Int×List Fd:=
 if id≠Jd/\Xo m id=none then(0,[])else match Zdz m id with
  |none=>(1,[])
  |some w=>match XQ w Tc with
   |none=>(3,[])
   |some fs=>(2,fs)
theorem Zk5 (m:List Eg) (id:Tg):Yk (Zd m) id=if(ZaF m id).1=3 then([],16)else if(ZaF m id).1≠2 then([],13)else((ZaF m id).2,0):=by
 unfold ZaF Yk;by_cases hd:id=Jd;subst hd;have h1:Zdz m Jd=Hs []:=XH.2 .root;simp[atN,ZeK,h1,XQ];rw[ZgQ m id hd];cases hf:Xo m id with
 |none=>
  have hn:id≠Jd/\(none:Option Eg)=none:=⟨hd,rfl⟩;rw[if_pos hn];rfl
 |some e=>
  obtain⟨h1,h2⟩:=XD hf;have hn:¬(id≠Jd/\(Hs e:Option Eg)=none):=λh=>by cases h.2
  rw[if_neg hn];simp only[J6,J3,Yp,<-h1];have key:∀(w:Option (List Eg)),(if(Dq e w).st=2 then((Dq e w).sch,(0:Int))else if(Dq e w).st=3 then([],16)else([],13))=
    (λs:Int×List Fd=>if s.1=3 then(([]:List Fd),(16:Int))else if s.1≠2 then([],13)else(s.2,0)) (match w with|none=>(1,[])|some w=>match XQ w Tc with|none=>(3,[])|some fs=>(2,fs)):=by
   intro w;cases w with
   |none=>rfl
   |some w=>
    have k2:∀F:Option (List Fd),(λ(n:Nd) (s:Int×List Fd)=>(if n.st=2 then(n.sch,(0:Int))else if n.st=3 then([],16)else([],13))=(if s.1=3 then(([]:List Fd),(16:Int))else if s.1≠2 then([],13)else(s.2,0)))
      (match F with|none=>⟨e,3,[],0⟩|some fs=>⟨e,2,fs,w.length⟩) (match F with|none=>(3,[])|some fs=>(2,fs)):=by
     intro F;cases F<;>rfl
    exact k2 (XQ w Tc)
  exact key (Zdz m id)
theorem ZbI {e:Eg} {w:List Eg} (fs:List Fd):XQ (e::w) fs=if(Yb fs e.ln).2=0 then XQ w (Yb fs e.ln).1 else none:=by
 by_cases h:(Yb fs e.ln).2=0;simp[XQ,h];simp[XQ,h]
theorem ZoU {l:List Fd} {r:Rf} (h:idx (atF r) l= -1):Zv l r=(Jd,6):=by unfold Zv;rw[h];rfl
theorem ZoT {l:List Fd} {r:Rf} {i:Nat} (h:idx (atF r) l=(i:Int)):Zv l r=(l.getD i Jd,0):=by
 unfold Zv;rw[h,if_neg (by omega)];simp
def Zw (l:List Fd) (r:Rf):Fd:=(Zv l r).1
def D8:List Rf->List Fd->List Fd
 | [],l=>l
 |r::rs,l=>D8 rs (YF l r).1
theorem Zb3:∀(rs:List Rf) (r:Rf) (l:List Fd),D8 (rs++ [r]) l=(YF (D8 rs l) r).1
 | [],r,l=>rfl
 |x::rs,r,l=>by simp only[Kd,D8];exact Zb3 rs r _
theorem Zoa:∀(rs:List Rf) {l:List Fd},OkFs l->OkFs (D8 rs l)
 | [],l,h=>h
 |r::rs,l,h=>Zoa rs (Zah h r)
theorem ZbM:∀(rs:List Rf) {l:List Fd},Z7 l=Ht->rs.Nodup->(∀r∈rs,(Zv l r).2=0)->Tu rs l=Hs (D8 rs l)
 | [],l,_,_,_=>rfl
 |r::rs,l,hr,hn,hf=>by
  obtain⟨h1,h2⟩:=Gv (hf r (by simp));have w0:=Zou hr ⟨_,h1,h2⟩;obtain⟨_,_,w3,w4,_⟩:=ZlM w0;simp only[Tu,w0,ne_eq,not_true_eq_false,if_false,D8];rw[JR]at hn;refine ZbM rs w3 hn.2 λx hx=> ?_
  obtain⟨g1,g2⟩:=Gv (hf x (by simp[hx]));have hm:(Zv l x).1∈(YF l r).1:=(w4 _).2 ⟨g1,λe=>hn.1 (by rw[<-e,g2];exact hx)⟩;have:=WZ (YW.1 w3).2.1 hm;rw[g2]at this;rw[this]
theorem Ziu {rs:List Rf} {l:List Fd} (hr:Z7 l=Ht) {r:Rf} (h:r∈rs) (hf:(Zv l r).2≠0):Tu rs l=none:=by
 cases hg:Tu rs l with
 |none=>rfl
 |some m=>
  obtain⟨f,hfm,e⟩:=(Zei hr hg).2.2.1 r h;have:=WZ (YW.1 hr).2.1 hfm;rw[e]at this;rw[this]at hf;exact absurd rfl hf
def XA (l:List Fd) (f:Fd) (ok:Bool):List Fd×Bool:=((Vn l f).1,ok&&decide ((Vn l f).2=0))
theorem ZiM {f:Fd} (h:Yc f=Ht) (hk:f.kind=3):f.worth=0:=by
 simp[Yc,hk]at h;exact h.2.1
theorem Zk1 {r:Rf} {w:Int} (h:¬w<1048577):Yc ⟨r,1,[],[],w⟩=false:=by
 simp[Yc,h]
def Zn (f:Fd) (r:Rf):Fd:=⟨r,f.kind,f.df,f.cases',f.worth⟩
theorem vcz {x:Bool} {M:KH} {g:FuncId} {args args':List PV} {K:KR} {r:PV} (h1:Pp g args' r) (h2:K.k r M.m) (h0:Kl M.m args:=by first|(simp only[go_sem,ref,ent,DK,doc,Y3,row,Zh,fld,lns,tg,refs,prs,pr,eg,egs,tgs,lg,lgs,tr,Zk,Zn];done)|exact rfl) (he:KQ M.m args=args':=by first|(simp only[go_sem,ref,ent,DK,doc,Y3,row,Zh,fld,lns,tg,refs,prs,pr,eg,egs,tgs,lg,lgs,tr,Zk,Zn];done)|exact rfl):@WX prog x M (Hs (g,args)) K:=Zl h1 h0 he h2
def Vg (x:Ln) (was rest:List Fd):List Fd×Bool:=
 if x.kind=2 then XA rest x.fd Ht
 else if x.kind=3 then(rest,decide (was.getD 0 Jd=x.fd))
 else if x.kind=6 then
  XA (XA rest ⟨Zk x.at' x.nm,1,[],[],(was.getD 0 Jd).worth⟩ (decide ((was.getD 0 Jd).kind=1)&&decide (IntKind.i64.wrap ((was.getD 0 Jd).worth*x.fac)<1048577))).1
   ⟨Zk x.at' x.ot,1,[],[],IntKind.i64.wrap ((was.getD 0 Jd).worth*x.fac)⟩
   (XA rest ⟨Zk x.at' x.nm,1,[],[],(was.getD 0 Jd).worth⟩ (decide ((was.getD 0 Jd).kind=1)&&decide (IntKind.i64.wrap ((was.getD 0 Jd).worth*x.fac)<1048577))).2
 else if x.kind=7 then XA rest ⟨x.at',4,[],[],0⟩ (decide ((was.getD 0 Jd).kind=2)&&decide ((was.getD 0 Jd).df=x.ot))
 else if x.kind=8 then XA rest ⟨x.at',3,x.ot,Yt x.ba,0⟩ ((decide ((was.getD 0 Jd).kind=3)&&decide ((was.getD 0 Jd).df=x.nm))&&decide ((was.getD 0 Jd).cases'=Yt x.fo))
 else if x.kind=9 then XA rest ⟨x.at',1,[],[],(was.getD 0 Jd).worth⟩ ((decide ((was.getD 0 Jd).kind=1)&&decide ((was.getD 1 Jd).kind=1))&&decide ((was.getD 1 Jd).worth=IntKind.i64.wrap ((was.getD 0 Jd).worth*x.fac)))
 else if x.kind=10 then XA rest ⟨x.at',2,x.ot,[],0⟩ (decide ((was.getD 0 Jd).kind=4))
 else XA rest (Zn (was.getD 0 Jd) ((Ze x).getD 0 Jd)) Ht
def Tx (y:List Fd×Bool):List Fd×Int:=if y.2=Hf then([],16)else(y.1,0)
def Zga (y:Option (List Fd)):List Fd×Int:=match y with|none=>([],16)|some m=>(m,0)
theorem Zof (rest:List Fd) (f:Fd) (ok:Bool):Zga (if ok=Hf then none else YE [f] rest)=Tx (XA rest f ok):=by
 unfold Zga Tx XA;cases ok;simp;by_cases h:(Vn rest f).2=0;simp[YE,h];simp[YE,h]
theorem Zoe (rest:List Fd) (f:Fd):Zga (YE [f] rest)=Tx (XA rest f Ht):=Zof rest f Ht
theorem Ziv {x:Ln} (h:ZG x=Ht):(ZE x).Nodup:=by
 unfold ZE;split;simp;split;simp;split;rename_i h9;simp only[JR,JF,Ky,not_false_eq_true,List.nodup_nil,and_true];intro e;have e2:x.nm=x.ot:=by simpa[Zk]using congrArg (λr:Rf=>r.nm) e
 simp[ZG,h9,e2]at h;simp
theorem ZjD {l:List Fd} {x:Ln} (hl:Z7 l=Ht) (hx:ZG x=Ht):
  Yb l x=if ∃r∈ZE x,(Zv l r).2≠0 then([],16)else Tx (Vg x ((ZE x).map (Zw l)) (D8 (ZE x) l)):=by
 have hk:=(Wc hx).1;unfold Yb;rw[if_neg (by simp[hl,hx])];show Zga (Gn l x)=_;split;rename_i h;obtain⟨r,hr,hf⟩:=h;unfold Gn;rw[Ziu hl hr hf];split<;>rfl
 rename_i h;have hall:∀r∈ZE x,(Zv l r).2=0:=λr hr=>by
  refine Kk λhn=>h ⟨r,hr,hn⟩
 have hg:=ZbM (ZE x) hl (Ziv hx) hall;have hp:∀r∈ZE x,Yc (Zw l r)=Ht/\(Zw l r).at'=r:=λr hr=>by
  obtain⟨h1,h2⟩:=Gv (hall r hr);exact⟨(YW.1 hl).2.2 _ h1,h2⟩
 have pk:∀r,(Zv l r).1=Zw l r:=λ_=>rfl
 unfold Gn;rw[hg,Kc];clear hg h;generalize D8 (ZE x) l=rest;have one:∀r∈ZE x,(Zv l r).2=0/\Yc (Zw l r)=Ht/\(Zw l r).at'=r:=λr hr=>⟨hall r hr,hp r hr⟩
 clear hall hp;obtain⟨kind,at',nm,ot,fac,fd,fo,ba⟩:=x;simp only at hk;rcases hk with rfl|rfl|rfl|rfl|rfl|rfl|rfl|rfl|rfl|rfl;obtain⟨f0,-,-⟩:=one at' (by simp[ZE]);simp only[Tt,ZE,Ze,Vg,pk,f0,Jh,JL,Jq,Zn,JM,if_true,if_false,ne_eq,not_true_eq_false,not_false_eq_true,reduceCtorEq,decide_true,Jn];first|exact Zof _ _ _|exact Zoe _ _
 simp only[Tt,ZE,Ze,Vg,JM,if_true,if_false,ne_eq,not_true_eq_false,not_false_eq_true,reduceCtorEq,decide_true,Jn];first|exact Zof _ _ _|exact Zoe _ _
 obtain⟨f0,-,-⟩:=one fd.at' (by simp[ZE]);simp only[Tt,ZE,Vg,pk,f0,Jh,JL,Jq,JM,if_true,if_false,ne_eq,not_true_eq_false,not_false_eq_true,reduceCtorEq,decide_true,Jn];by_cases e:Zw l fd.at'=fd;simp[e,Zga,Tx,YE];simp[e,Zga,Tx];obtain⟨f0,-,-⟩:=one at' (by simp[ZE]);simp only[Tt,ZE,Ze,Vg,pk,f0,Jh,JL,Jq,Zn,JM,if_true,if_false,ne_eq,not_true_eq_false,not_false_eq_true,reduceCtorEq,decide_true,Jn];first|exact Zof _ _ _|exact Zoe _ _
 obtain⟨f0,-,-⟩:=one at' (by simp[ZE]);simp only[Tt,ZE,Ze,Vg,pk,f0,Jh,JL,Jq,Zn,JM,if_true,if_false,ne_eq,not_true_eq_false,not_false_eq_true,reduceCtorEq,decide_true,Jn];first|exact Zof _ _ _|exact Zoe _ _
 obtain⟨f0,-,-⟩:=one at' (by simp[ZE]);simp only[Tt,ZE,Ze,Vg,pk,f0,Jh,JL,Jq,JM,if_true,if_false,ne_eq,not_true_eq_false,not_false_eq_true,reduceCtorEq,decide_true,Jn];generalize Zw l at'=f;by_cases hw:IntKind.i64.wrap (f.worth*fac)<1048577;by_cases h1:f.kind=1;by_cases w1:(Vn rest ⟨Zk at' nm,1,[],[],f.worth⟩).2=0;by_cases w2:(Vn (Vn rest ⟨Zk at' nm,1,[],[],f.worth⟩).1 ⟨Zk at' ot,1,[],[],IntKind.i64.wrap (f.worth*fac)⟩).2=0;simp[XA,Zga,Tx,YE,hw,h1,w1,w2];simp[XA,Zga,Tx,YE,hw,h1,w1,w2];simp[XA,Zga,Tx,YE,hw,h1,w1];simp[XA,Zga,Tx,YE,hw,h1];have w2:∀m,(Vn m ⟨Zk at' ot,1,[],[],IntKind.i64.wrap (f.worth*fac)⟩).2≠0:=λm=>by
  unfold Vn;rw[if_pos (.inr (Zk1 hw))];decide
 have e:Tx (XA (XA rest ⟨Zk at' nm,1,[],[],f.worth⟩ (decide (f.kind=1)&&decide (IntKind.i64.wrap (f.worth*fac)<1048577))).1 ⟨Zk at' ot,1,[],[],IntKind.i64.wrap (f.worth*fac)⟩ (XA rest ⟨Zk at' nm,1,[],[],f.worth⟩ (decide (f.kind=1)&&decide (IntKind.i64.wrap (f.worth*fac)<1048577))).2)=([],16):=by
  simp[XA,Tx,hw]
 rw[e];by_cases h1:f.kind=1;simp[Zga,YE,h1,w2];simp[Zga,h1];obtain⟨f0,-,-⟩:=one at' (by simp[ZE]);simp only[Tt,ZE,Ze,Vg,pk,f0,Jh,JL,Jq,Zn,JM,if_true,if_false,ne_eq,not_true_eq_false,not_false_eq_true,reduceCtorEq,decide_true,Jn];first|exact Zof _ _ _|exact Zoe _ _
 obtain⟨f0,f1,f2⟩:=one at' (by simp[ZE]);have e8:decide (Zw l at'=⟨at',3,nm,Yt fo,0⟩)=((decide ((Zw l at').kind=3)&&decide ((Zw l at').df=nm))&&decide ((Zw l at').cases'=Yt fo)):=by
  generalize Zw l at'=f at *;by_cases k3:f.kind=3;have w0:=ZiM f1 k3;obtain⟨a,b,c,d,e⟩:=f;simp only at k3 w0 f2;subst k3 w0 f2;simp;have:¬f=⟨at',3,nm,Yt fo,0⟩:=λe=>k3 (by rw[e])
  simp[this,k3]
 simp only[Tt,ZE,Ze,Vg,pk,f0,Jh,JL,Jq,Zn,e8,JM,if_true,if_false,ne_eq,not_true_eq_false,not_false_eq_true,reduceCtorEq,decide_true,Jn];first|exact Zof _ _ _|exact Zoe _ _
 obtain⟨f0,-,-⟩:=one (Zk at' nm) (by simp[ZE]);obtain⟨g0,-,-⟩:=one (Zk at' ot) (by simp[ZE]);simp only[Tt,S4,ZE,Ze,Vg,pk,f0,g0,Jh,JL,Jq,List.getD_cons_succ,JM,if_true,if_false,ne_eq,not_true_eq_false,not_false_eq_true,reduceCtorEq,decide_true,Jn];generalize Zw l (Zk at' nm)=f;generalize Zw l (Zk at' ot)=g;by_cases h1:f.kind=1;by_cases h2:g.kind=1;by_cases h3:g.worth=IntKind.i64.wrap (f.worth*fac);simp[h1,h2,h3,Zoe];simp[h1,h2,h3,Zga,Tx,XA];simp[h1,h2,Zga,Tx,XA];simp[h1,Zga,Tx,XA];obtain⟨f0,-,-⟩:=one at' (by simp[ZE]);simp only[Tt,ZE,Ze,Vg,pk,f0,Jh,JL,Jq,Zn,JM,if_true,if_false,ne_eq,not_true_eq_false,not_false_eq_true,reduceCtorEq,decide_true,Jn];first|exact Zof _ _ _|exact Zoe _ _
open Go.PL
theorem Zh1 (l:List Fd) (f:Fd) (hl:OkFs l) (hf:f.cases'.length<=1000000):Pp 238 [Zh l,fld f] (ZC (Vn l f)):=by
 have hn:=hl.n;have hm:l.length<=maxLen:=by rw[Zc];omega
 have hR:=TA l hm (λg hg=>by have:=hl.c g hg;rw[Zc];omega);have hF:=UV f (by rw[Zc];omega);have hI:Pp 45 [Zh l,ref f.at'] (.int .i64 (idx (atF f.at') l)):=Ua l f.at' hm;unfold Vn;cases hr:Z7 l;rw[hr]at hR;simp only[true_or,if_true];refine ZB func238 rfl ntmps238 results238 (ZD _) ?_;simp only[go_sem,Zh,fld];refine vc2 hR ?_;simp only[go_sem,ZC,Zh];rw[hr]at hR;cases hrf:Yc f;rw[hrf]at hF;simp only[or_true,if_true];refine ZB func238 rfl ntmps238 results238 (ZD _) ?_;simp only[go_sem,Zh,fld];refine vc2 hR ?_;simp only[go_sem];refine vc2 hF ?_;simp only[go_sem,ZC,Zh];rw[hrf]at hF;simp only[Jp,or_self,if_false];by_cases h2:(0:Int)<=idx (atF f.at') l;rw[if_pos h2];refine ZB func238 rfl ntmps238 results238 (ZD _) ?_;simp only[go_sem,Zh,fld];refine vc2 hR ?_;simp only[go_sem];refine vc2 hF ?_;simp only[go_sem];refine vc2 hI ?_;simp only[go_sem,h2,ZC,Zh];rw[if_neg h2];by_cases h3:(16:Int)<=(l.length:Int);rw[if_pos h3];have h3':(15:Int)<(l.length:Int):=by omega
 refine ZB func238 rfl ntmps238 results238 (ZD _) ?_;simp only[go_sem,Zh,fld];refine vc2 hR ?_;simp only[go_sem];refine vc2 hF ?_;simp only[go_sem];refine vc2 hI ?_;simp only[go_sem,h2,h3',ZC,Zh];rw[if_neg h3];have h3':¬(15:Int)<(l.length:Int):=by omega
 refine ZB func238 rfl ntmps238 results238 (ZD _) ?_;simp only[go_sem,Zh,fld];refine vc2 hR ?_;simp only[go_sem];refine vc2 hF ?_;simp only[go_sem];refine vc2 hI ?_;simp only[go_sem,h2,h3',Zh];refine ZR 6 24 45 0 7 30 [] rfl rfl rfl ?_;refine ZA (ι:= { x:Nat×(List Fd) // x.1<=(l).length/\(x.2++Za1 (l.drop x.1) f=Za1 l f) }) 66 (λx=> [(0,Zh l),(3,.ptr 3 0),(6,.sl (.row 45) (x.1.2.map fld)),(7,.int .i64 (x.1.1:Int))]) (λx=> [(3,DL f,Hf)]) (λx=> [(45,.live (x.1.2.length) (7) (30))]) (λx=>(l).length-x.1.1) ⟨(0,[]),Jb _,rfl⟩ ⟨rfl,(Fc4 rfl rfl rfl rfl),(fcs ⟨rfl,rfl⟩ fnl),(fcs rfl fnl)⟩ (λx=>⟨(Fc4 rfl rfl (by simp[JJ,ZV]) rfl),(fcs rfl fnl)⟩) (λx=> ?_);obtain⟨⟨k,acc⟩,hk,hI⟩:=x;simp only at hk hI ⊢;have hacc:acc.length<=l.length+1:=by rw[<-SY l f,<-hI,Jj];omega
 have hrm:=YX (show acc.length+1<=1000000 by omega) (show 96<=1000 by omega);have second:∀(acc:List Fd) (k:Nat) (hk:k<=l.length),(acc++ [f])++l.drop k=Za1 l f->True:=λ_ _ _ _=>trivial
 by_cases h:(k:Int)<(l.length:Int)
 (have hka:k<(l).length:=by omega);(have w1:=WD hka (hm));(have i1:=Ja k)
 have hL:=Zbm (l.getD k Jd).at' f.at';rw[Y5 hka (d:=Jd)]at hI;cases hb:WN (l.getD k Jd).at' f.at';rw[hb]at hL;rw[Zo2 hb]at hI;simp only[go_sem,Zh,DL];refine vDq ?_;simp only[go_sem,h,i1,Zx hka,fld];refine vc1 hL ?_;simp only[go_sem,fld,YZ,hrm];refine ZR 6 51 62 (acc.length+1) 7 30 ((acc++ [f]).map fld) (by simp[upd,fld]) rfl rfl ?_;refine ZA (ι:=WB l f) 66 (λx=> [(0,Zh l),(6,.sl (.row 62) (x.acc.map fld)),(7,.int .i64 (x.k:Int))]) (λx=> []) (λx=> [(62,.live x.acc.length 7 30)]) (λx=>l.length-x.k) ⟨k,acc++ [f],hk,by rw[Y5 hka (d:=Jd),<-hI];simp⟩
  ⟨rfl,Fc3 rfl rfl rfl,fnl,fcs (by simp[upd,Hp.setq,St.with]) fnl⟩ (λx=>⟨Fc3 rfl (by simp[JJ,ZV]) rfl,fnl⟩) (λx=> ?_)
 obtain⟨k2,acc2,hk2,hx2⟩:=x;simp only;have hacc2:acc2.length<=l.length+1:=by rw[<-SY l f,<-hx2,Jj];omega
 have hrm2:=YX (show acc2.length+1<=1000000 by omega) (show 96<=1000 by omega);by_cases h':(k2:Int)<(l.length:Int);have hka2:k2<l.length:=by omega
 have w2:=WD hka2 hm;have i2:=Ja k2
 rw[Y5 hka2 (d:=Jd)]at hx2;simp only[go_sem,Zh,h',i2,Zx hka2,fld,YZ,hrm2,w2];exact⟨⟨k2+1,acc2++ [l.getD k2 Jd],by omega,by rw[<-hx2];simp⟩,nx9 (by omega),⟨rfl,Fc3 rfl (by simp[upd,fld]) rfl,fnl,fcs (by simp[upd]) fnl⟩⟩;obtain rfl:k2=l.length:=by omega
 rw[J2,Jc]at hx2;subst hx2;simp only[go_sem,Zh,h',ZC]
 ·rw[hb]at hL;rw[Zo3 hb]at hI;simp only[go_sem,Zh,DL];refine vDq ?_;simp only[go_sem,h,i1,Zx hka,fld];refine vc1 hL ?_;simp only[go_sem,h,i1,Zx hka,fld,YZ,hrm,w1];exact⟨⟨(k+1,acc++ [l.getD k Jd]),by(try simp only);omega,by rw[<-hI];simp⟩,by show(l).length-(k+1)<(l).length-k;omega,⟨rfl,(Fc4 rfl rfl (by simp[upd,fld]) rfl),(fcs ⟨rfl,rfl⟩ fnl),(fcs (by simp[upd]) fnl)⟩⟩
 obtain rfl:k=l.length:=by omega
 simp only[go_sem,Zh,DL];refine vDq ?_;simp only[go_sem,h,fld,YZ,hrm];refine ZR 6 51 62 (acc.length+1) 7 30 ((acc++ [f]).map fld) (by simp[upd,fld]) rfl rfl ?_;refine ZA (ι:=WB l f) 66 (λx=> [(0,Zh l),(6,.sl (.row 62) (x.acc.map fld)),(7,.int .i64 (x.k:Int))]) (λx=> []) (λx=> [(62,.live x.acc.length 7 30)]) (λx=>l.length-x.k) ⟨l.length,acc++ [f],hk,by rw[<-hI];simp[Za1]⟩
   ⟨rfl,Fc3 rfl rfl rfl,fnl,fcs (by simp[upd,Hp.setq,St.with]) fnl⟩ (λx=>⟨Fc3 rfl (by simp[JJ,ZV]) rfl,fnl⟩) (λx=> ?_)
 obtain⟨k2,acc2,hk2,hx2⟩:=x;simp only;have hacc2:acc2.length<=l.length+1:=by rw[<-SY l f,<-hx2,Jj];omega
 have hrm2:=YX (show acc2.length+1<=1000000 by omega) (show 96<=1000 by omega);by_cases h':(k2:Int)<(l.length:Int);have hka2:k2<l.length:=by omega
 have w2:=WD hka2 hm;have i2:=Ja k2
 rw[Y5 hka2 (d:=Jd)]at hx2;simp only[go_sem,Zh,h',i2,Zx hka2,fld,YZ,hrm2,w2];exact⟨⟨k2+1,acc2++ [l.getD k2 Jd],by omega,by rw[<-hx2];simp⟩,nx9 (by omega),⟨rfl,Fc3 rfl (by simp[upd,fld]) rfl,fnl,fcs (by simp[upd]) fnl⟩⟩;obtain rfl:k2=l.length:=by omega
 rw[J2,Jc]at hx2;subst hx2;simp only[go_sem,Zh,h',ZC]
theorem Zcn (l:List Fd) (r:Rf) (hl:OkFs l):Pp 186 [Zh l,ref r] (ZC (YF l r)):=by
 have hn:=hl.n;have hm:l.length<=maxLen:=by rw[Zc];omega
 have hR:=TA l hm (λg hg=>by have:=hl.c g hg;rw[Zc];omega);have hI:Pp 45 [Zh l,ref r] (.int .i64 (idx (atF r) l)):=Ua l r hm;unfold YF;cases hr:Z7 l;rw[hr]at hR;refine ZB func186 rfl ntmps186 results186 (ZD _) ?_;simp only[go_sem,Zh,ref];refine vc2 hR ?_;simp only[go_sem,ZC,Zh,if_true];rw[hr]at hR;rcases Xj (atF r) l with h2|⟨g,hg,h2⟩;rw[h2]at hI ⊢;refine ZB func186 rfl ntmps186 results186 (ZD _) ?_;simp only[go_sem,Zh,ref];refine vc2 hR ?_;simp only[go_sem,Zh];refine vc2 hI ?_;simp only[go_sem,ZC,Zh];have i3:¬(g:Int)<0:=by omega
 have hrise:=(YW.1 hr).2.1;have hgl:(l.getD g Jd).at'=r:=by
  rcases SQ l r with ⟨e,_⟩|⟨i,hi,e,hat⟩;rw[e]at h2;omega;have:i=g:=by rw[e]at h2;omega
  subst this;rw[getD_lt hi];exact hat
 rw[h2]at hI;rw[h2,if_neg i3];simp only[Jp,if_false,JW];refine ZB func186 rfl ntmps186 results186 (ZD _) ?_;simp only[go_sem,Zh,ref];refine vc2 hR ?_;simp only[go_sem,Zh];refine vc2 hI ?_;simp only[go_sem,Zh,i3];refine ZR 6 15 35 0 7 30 [] rfl rfl rfl ?_;refine ZA (ι:= { x:Nat×(List Fd) // x.1<=(l).length/\(x.2=(l.take x.1).eraseIdx g) }) 37 (λx=> [(0,Zh l),(3,.ptr 3 0),(6,.sl (.row 35) (x.1.2.map fld)),(7,.int .i64 (x.1.1:Int))]) (λx=> [(3,[.int .i64 r.sc,.str r.gr,.str r.nm],Hf)]) (λx=> [(35,.live (x.1.2.length) (7) (30))]) (λx=>(l).length-x.1.1) ⟨(0,[]),Jb _,rfl⟩ ⟨rfl,(Fc4 rfl rfl rfl rfl),(fcs ⟨rfl,rfl⟩ fnl),(fcs rfl fnl)⟩ (λx=>⟨(Fc4 rfl rfl (by simp[JJ,ZV]) rfl),(fcs rfl fnl)⟩) (λx=> ?_);obtain⟨⟨k,acc⟩,hk,hI⟩:=x;simp only at hk hI ⊢;have hacc:acc.length<=l.length:=by
  rw[hI];exact KE (J7 _ _) (WV _ _)
 by_cases h:(k:Int)<(l.length:Int)
 (have hka:k<(l).length:=by omega);(have w1:=WD hka (hm));(have i1:=Ja k)
 have hrm:=YX (show acc.length+1<=1000000 by omega) (show 96<=1000 by omega);have hs:=ZbD (l:=l) (k:=k) (g:=g) (d:=Jd) hka;by_cases he:k=g
 ·have hd:decide ((l.getD k Jd).at'=r)=true:=by rw[he,hgl];simp
  rw[if_pos he,Jc]at hs;simp only[go_sem,Zh,h];refine vDq ?_;simp only[go_sem,Zx hka,fld,i1,h,ZN,hd,w1];exact⟨⟨(k+1,acc),by(try simp only);omega,by simp only;rw[hs,hI]⟩,by show(l).length-(k+1)<(l).length-k;omega,⟨rfl,(Fc4 rfl rfl (by simp[upd,fld]) rfl),(fcs ⟨rfl,rfl⟩ fnl),(fcs (by simp[upd]) fnl)⟩⟩
 ·have hd:decide ((l.getD k Jd).at'=r)=false:=by
   rw[decide_eq_false_iff_not];intro e;have hkm:=Zf (d:=Jd) hka;have hgm:=Zf (d:=Jd) hg;have hp:=hrise;rw[Zjq,Ji]at hp;rcases Nat.lt_or_gt_of_ne he with h'|h';have:=hp k g hka hg h';rw[<-getD_lt (d:=Jd) hka,<-getD_lt (d:=Jd) hg,e,hgl,Wo]at this;cases this;have:=hp g k hg hka h';rw[<-getD_lt (d:=Jd) hka,<-getD_lt (d:=Jd) hg,e,hgl,Wo]at this;cases this
  rw[if_neg he]at hs;simp only[go_sem,Zh,h];refine vDq ?_;simp only[go_sem,Zx hka,fld,i1,h,ZN,hd,YZ,hrm,w1];exact⟨⟨(k+1,acc++ [l.getD k Jd]),by(try simp only);omega,by simp only;rw[hs,hI]⟩,by show(l).length-(k+1)<(l).length-k;omega,⟨rfl,(Fc4 rfl rfl (by simp[upd,fld]) rfl),(fcs ⟨rfl,rfl⟩ fnl),(fcs (by simp[upd]) fnl)⟩⟩
 obtain rfl:k=l.length:=by omega
 rw[JN]at hI;subst hI;simp only[go_sem,h,Zh,ZC]
theorem Z5 (l:List Fd) (f:Fd) (ok:Bool) (hl:OkFs l) (hf:f.cases'.length<=1000000):Pp 188 [Zh l,fld f,.bool ok] (YS (XA l f ok)):=by
 have hW:=Zh1 l f hl hf;unfold XA;generalize Vn l f=y at *;obtain⟨m,c⟩:=y;cases ok;refine ZB func188 rfl ntmps188 results188 (YI _) ?_;simp only[go_sem,Zh,fld];refine vc2 hW ?_;simp only[go_sem,ZC,Zh,YS,Jg];by_cases hc:c=0;subst hc;refine ZB func188 rfl ntmps188 results188 (YI _) ?_;simp only[go_sem,Zh,fld];refine vc2 hW ?_;simp only[go_sem,ZC,Zh,YS,Jw];have e:(c==0)=false:=by simpa using hc
 refine ZB func188 rfl ntmps188 results188 (YI _) ?_;simp only[go_sem,Zh,fld];refine vc2 hW ?_;simp only[go_sem,ZC,Zh,YS,e,hc,JA]
theorem SM (f:Fd) (r:Rf):Pp 189 [fld f,ref r] (fld (Zn f r)):=by
 refine ZB func189 rfl ntmps189 results189 (ZcG _) ?_;simp only[go_sem,fld,ref,Zn]
theorem UW (r:Rf) (s:Str):Pp 237 [ref r,.str s] (ref (Zk r s)):=by
 refine ZB func237 rfl ntmps237 results237 (Zc9 _) ?_;simp only[go_sem,ref,Zk]
theorem Zbk (x:Ln):Pp 185 [lns x] (refs (ZE x)):=by
 have h1:=UW x.at' x.nm;have h2:=UW x.at' x.ot;refine ZB func185 rfl ntmps185 results185 (GJ _) ?_;simp only[go_sem,lns];repeat' ((first|(first|apply Zt|apply Zs|apply Zm)<;>intro h|refine vc3 h1 ?_|refine vc3 h2 ?_|refine vDq ?_)<;>first|simp only[go_sem,h,ref]|simp only[go_sem,ref]|skip)
 all_goals (clear h1 h2;simp_all[ZE,refs,Zk,ref])
theorem FB (x:Ln):Pp 187 [lns x] (refs (Ze x)):=by
 have h1:=UW x.at' x.nm;have h2:=UW x.at' x.ot;refine ZB func187 rfl ntmps187 results187 (GJ _) ?_;simp only[go_sem,lns];repeat' ((first|(first|apply Zt|apply Zs|apply Zm)<;>intro h|refine vc3 h1 ?_|refine vc3 h2 ?_|refine vDq ?_)<;>first|simp only[go_sem,h,ref]|simp only[go_sem,ref]|skip)
 all_goals (clear h1 h2;simp_all[Ze,refs,Zk,ref])
open Go.PL
open Go.ChangeShapes Go.WideShapes Go.ChangeAt Go.RowKit
theorem own:ownKnob prog.godebug=Option.none:=by kernel_rfl
theorem laidOut:laidOutB prog=true:=by kernel_rfl
theorem lays:ZbQ prog=true:=by kernel_rfl
theorem Zpc:Zdx prog 28=false:=by kernel_rfl
theorem ZqQ:Zdx prog 31=false:=by kernel_rfl
theorem ZqO:Zdx prog 22=false:=by kernel_rfl
structure LenLn' (x:Ln):Prop where
 c:x.fd.cases'.length<=maxLen
 f:x.fo.length<=maxLen
 b:x.ba.length<=maxLen
theorem Zpm {cs:List PV} (h:PT prog 28 cs):∃l:List Str,cs= [.sl .no (l.map .str)]/\l.length<=maxLen:=by
 obtain⟨l,rfl,h1,h2⟩:=h.slice_inv Zpc underlying28;obtain⟨xs,rfl,_⟩:=T6 (enc:=PV.str) (Q:=λ_=>True) (λp hp=>by
  obtain⟨s,rfl,_⟩:=(h2 p hp).string underlying9;exact⟨s,rfl,trivial⟩)
 exact⟨xs,rfl,by simpa using h1⟩
theorem Zb1 {cs:List PV} (h:PT prog 25 cs):∃r:Tg,cs= [.int .i64 r.r,.int .i64 r.n]:=by
 have h1:PTs prog [3,3] cs:=h.struct_inv underlying25;obtain⟨a,b,rfl,h2,h3⟩:=h1.cons_inv;obtain⟨c,d,rfl,h4,h5⟩:=h3.cons_inv;obtain⟨x,rfl,_⟩:=h2.int_inv underlying3;obtain⟨y,rfl,_⟩:=h4.int_inv underlying3;rw[h5.nil_inv];exact⟨⟨x,y⟩,rfl⟩
theorem Zhk {cs:List PV} (h:PT prog 27 cs):∃r:Rf,cs= [.int .i64 r.sc,.str r.gr,.str r.nm]:=by
 have h1:PTs prog [3,9,9] cs:=h.struct_inv underlying27;obtain⟨a,b,rfl,h2,h3⟩:=h1.cons_inv;obtain⟨c,d,rfl,h4,h5⟩:=h3.cons_inv;obtain⟨e,f,rfl,h6,h7⟩:=h5.cons_inv;obtain⟨x,rfl,_⟩:=h2.int_inv underlying3;obtain⟨y,rfl,_⟩:=h4.string_inv underlying9;obtain⟨z,rfl,_⟩:=h6.string_inv underlying9;rw[h7.nil_inv];exact⟨⟨x,y,z⟩,rfl⟩
theorem Zq1 {cs:List PV} (h:PT prog 30 cs):∃f:Fd,cs= [.int .i64 f.at'.sc,.str f.at'.gr,.str f.at'.nm,.int .i64 f.kind,.str f.df,.sl .no (f.cases'.map .str),.int .i64 f.worth]/\f.cases'.length<=maxLen:=by
 have h1:PTs prog [27,3,9,28,2] cs:=h.struct_inv underlying30;obtain⟨a1,b1,rfl,h2,h3⟩:=h1.cons_inv;obtain⟨a2,b2,rfl,h4,h5⟩:=h3.cons_inv;obtain⟨a3,b3,rfl,h6,h7⟩:=h5.cons_inv;obtain⟨a4,b4,rfl,h8,h9⟩:=h7.cons_inv;obtain⟨a5,b5,rfl,h10,h11⟩:=h9.cons_inv;obtain⟨r,rfl⟩:=Zhk h2;obtain⟨x,rfl,_⟩:=h4.int_inv underlying3;obtain⟨y,rfl,_⟩:=h6.string_inv underlying9;obtain⟨l,rfl,hl⟩:=Zpm h8;obtain⟨z,rfl,_⟩:=h10.int_inv underlying2;rw[h11.nil_inv];exact⟨⟨r,x,y,l,z⟩,rfl,hl⟩
theorem Zpj {p:PV} (h:PA prog 194 p):∃e:Pr,p=pr e:=by
 obtain⟨cs,rfl,h1⟩:=PA.agg Znu h;have h1:PTs prog [9,9] cs:=h1.struct_inv underlying194;obtain⟨a,b,rfl,h2,h3⟩:=h1.cons_inv;obtain⟨c,d,rfl,h4,h5⟩:=h3.cons_inv;obtain⟨x,rfl,_⟩:=h2.string_inv underlying9;obtain⟨y,rfl,_⟩:=h4.string_inv underlying9;rw[h5.nil_inv];exact⟨⟨x,y⟩,rfl⟩
theorem Zoc {cs:List PV} (h:PT prog 31 cs):∃l:List Pr,cs= [.sl .no (l.map pr)]/\l.length<=maxLen:=by
 obtain⟨l,rfl,h1,h2⟩:=h.slice_inv ZqQ underlying31;obtain⟨xs,rfl,_⟩:=T6 (enc:=pr) (Q:=λ_=>True) (λp hp=>by
  obtain⟨s,rfl⟩:=Zpj (h2 p hp);exact⟨s,rfl,trivial⟩)
 exact⟨xs,rfl,by simpa using h1⟩
def Zm0 (x:Ln):List PV:= [.int .i64 x.kind,.int .i64 x.at'.sc,.str x.at'.gr,.str x.at'.nm,.str x.nm,.str x.ot,.int .i64 x.fac,.int .i64 x.fd.at'.sc,.str x.fd.at'.gr,.str x.fd.at'.nm,.int .i64 x.fd.kind,.str x.fd.df,.sl .no (x.fd.cases'.map .str),.int .i64 x.fd.worth,.sl .no (x.fo.map pr),.sl .no (x.ba.map pr)]
theorem ZkR {cs:List PV} (h:PT prog 33 cs):∃x:Ln,cs=Zm0 x/\LenLn' x:=by
 have h1:PTs prog [3,27,9,9,2,30,31,31] cs:=h.struct_inv underlying33;obtain⟨a1,b1,rfl,h2,h3⟩:=h1.cons_inv;obtain⟨a2,b2,rfl,h4,h5⟩:=h3.cons_inv;obtain⟨a3,b3,rfl,h6,h7⟩:=h5.cons_inv;obtain⟨a4,b4,rfl,h8,h9⟩:=h7.cons_inv;obtain⟨a5,b5,rfl,h10,h11⟩:=h9.cons_inv;obtain⟨a6,b6,rfl,h12,h13⟩:=h11.cons_inv;obtain⟨a7,b7,rfl,h14,h15⟩:=h13.cons_inv;obtain⟨a8,b8,rfl,h16,h17⟩:=h15.cons_inv;obtain⟨x1,rfl,_⟩:=h2.int_inv underlying3;obtain⟨x2,rfl⟩:=Zhk h4;obtain⟨x3,rfl,_⟩:=h6.string_inv underlying9;obtain⟨x4,rfl,_⟩:=h8.string_inv underlying9;obtain⟨x5,rfl,_⟩:=h10.int_inv underlying2;obtain⟨x6,rfl,k6⟩:=Zq1 h12;obtain⟨x7,rfl,k7⟩:=Zoc h14;obtain⟨x8,rfl,k8⟩:=Zoc h16;rw[h17.nil_inv];exact⟨⟨x1,x2,x3,x4,x5,x6,x7,x8⟩,rfl,⟨k6,k7,k8⟩⟩
theorem Zpi {p:PV} (h:PA prog 82 p):∃e:Eg,p=eg e/\LenLn' e.ln:=by
 obtain⟨cs,rfl,h1⟩:=PA.agg Zpv h;have h1:PTs prog [25,25,33] cs:=h1.struct_inv underlying82;obtain⟨a1,b1,rfl,h2,h3⟩:=h1.cons_inv;obtain⟨a2,b2,rfl,h4,h5⟩:=h3.cons_inv;obtain⟨a3,b3,rfl,h6,h7⟩:=h5.cons_inv;obtain⟨x1,rfl⟩:=Zb1 h2;obtain⟨x2,rfl⟩:=Zb1 h4;obtain⟨x3,rfl,k3⟩:=ZkR h6;rw[h7.nil_inv];exact⟨⟨x1,x2,x3⟩,rfl,k3⟩
theorem Znb {p:PV} (h:PA prog 22 p):∃l:List Eg,p=egs l/\l.length<=maxLen/\ ∀e∈l,LenLn' e.ln:=by
 obtain⟨l,rfl,h1,h2⟩:=h.slice ZqO underlying22;obtain⟨xs,rfl,h3⟩:=T6 (λp hp=>Zpi (h2 p hp));exact⟨xs,rfl,by simpa using h1,h3⟩
theorem Zob {p:PV} (h:PA prog 25 p):∃t:Tg,p=tg t:=by
 obtain⟨cs,rfl,h1⟩:=PA.agg Zps h;obtain⟨r,rfl⟩:=Zb1 h1;exact⟨r,rfl⟩
end Go.Proofs.YtepchngegclagaaGreat
