/- Lemmas of the proof. -/
import Derived.Test.YtepchngegclagaaGreatPlH
import Derived.Test.YtepchngegclagaaGreatXAa
import Derived.Laws.LoneSync
import Derived.RangeFuncBox
import Derived.WalkKit
import Derived.OwnWalkIn
import Derived.TacticsInMore
import Derived.LoopNIn
import Derived.LoopIn
import Derived.Test.YtepchngegclagaaGreatRows
import Derived.ProofKit
set_option maxHeartbeats 64000000
set_option maxRecDepth 20000
set_option linter.unusedVariables false
set_option linter.unusedSectionVars false
set_option linter.unusedSimpArgs false
open Inhabited renaming default→Jd
open Option renaming some→Hs
open Bool renaming true→Ht,false→Hf
open Go.Proofs.Tryz
open Go Go.PL
open Bool renaming eq_iff_iff→Jf,false_and→Jg,and_false→Jn,not_false→Jo,and_self→Jr,true_and→Jv,false_eq_true→JE,not_true→JL,and_eq_true→JO,or_eq_false_iff→JR,true_eq_false→JV,true_or→JX,or_self→J7,or_true→J8
open Int renaming natCast_nonneg→Ja,lt_trichotomy→JG,compare_eq_lt→JH,compare_eq_eq→JI,compare_eq_gt→JJ
open List renaming append_nil→Jc,getD_eq_getElem?_getD→Jh,length_append→Ji,length_take→Jk,getElem?_eq_getElem→Jl,range→Jm,length_map→Jq,take_length→Jt,sublist_append_right→Ju,append_assoc→Jz,map_cons→JA,eq_nil_of_length_eq_zero→JB,getElem_of_mem→JC,mem_map→JD,eraseIdx_of_length_le→JF,sublist_append_left→JM,all_eq_true→JN,any_eq_true→JP,cons_append→JQ,append_eq→JS,find?_eq_none→JT,filter_append→JU,all_eq_false→JW,any_eq_false→JY,filter_cons→JZ,filter_nil→J2,length_nil→J3,mem_range→J4,finRange→J5,Sublist→J9,length→Kc
open Nat renaming zero_le→Jb,not_lt_zero→Je,sub_zero→Jy,le_trans→J6,le_refl→Kd
open Op renaming negFloat→JK
open PV renaming didsL→Jj,ids→Jp,dids→Js,idsL→Jw,givableL→Kb,vsl→Ke
open Sem renaming run_bind→Ka
namespace Go.Proofs.YtepchngegclagaaGreat
open Go.PL
theorem SR (l:List Str):(YD l).dids= []:=by simp only[YD,Js,XS]
open Go.PL
theorem ZlE {α:Type} {p:α->Bool} {l:List α} {d:α} (h:∀j,j<l.length->p (l.getD j d)=Ht):l.all p=true:=by
 rw[JN];intro x hx;obtain⟨j,hj,rfl⟩:=JC hx;have:=h j hj;simpa[Jh,hj]using this
theorem ZiN {α:Type} {p:α->Bool} {l:List α} {k:Nat} {d:α} (hk:k<l.length) (h:p (l.getD k d)=Hf):l.all p=false:=by
 rw[JW];exact⟨l.getD k d,Zh hk,by rw[h];simp⟩
theorem ZM {p:Nat->Bool} {n k:Nat} (hk:k<n) (h:p k=Hf):(Jm n).all p=false:=by
 rw[JW];exact⟨k,by simpa using hk,by simp[h]⟩
theorem Vb {p:Nat->Bool} {n:Nat} (h:∀j,j<n->p j=Ht):(Jm n).all p=true:=by
 rw[JN];intro j hj;exact h j (J4.1 hj)
def Zn3 (e:En):Bool:=decide (-4503599627370497<e.n)&&(decide (e.n<4503599627370497)&&((e.l.length:Int)==0))
def ZeI (f:Fd) (e:En):Bool:=if f.kind=4 then !decide (400<(e.l.length:Int))else decide ((e.l.length:Int)=1)
def ZcR (f:Fd) (e:En):Bool:=e.l.all (DL f)&&decide (e.n=0)
def Ss (f:Fd) (e:En):Bool:=(Y5 f&&decide (e.at'=f.at'))&&(if f.kind=1 then Zn3 e else ZeI f e&&ZcR f e)
open Go.PL
def G2 (l:List Fd) (i:Nat):Bool:=Y5 (l.getD i Jd)&&(decide (i=0)||Zc6 (l.getD (i-1) Jd).at' (l.getD i Jd).at')
def VA (l:List Fd):Bool:= !decide (16<(l.length:Int))&&(Jm l.length).all (G2 l)
def YG (l:List Fd) (sc:Int):List Fd:=l.filter λf=>f.at'.sc==sc
def Xs (l:List Fd) (es:List En):Bool:=decide (l.length=es.length)&&(Jm l.length).all (λi=>Ss (l.getD i Jd) (es.getD i Jd))
open Go.PL
theorem Zqk {a b:Rw} (h1:a.item=b.item) (h2:a.l=b.l):a=b:=by cases a;cases b;simp_all
theorem ZpV {a b:Dc} (h1:a.head=b.head) (h2:a.rows=b.rows):a=b:=by cases a;cases b;simp_all
theorem Zeo (a b:Dc) (ha:Zli a) (hb:Zli b):Pp 24 [doc a,doc b] (.bool (decide (a=b))):=by
 obtain⟨a1,a2,a3,a4⟩:=ha;obtain⟨b1,b2,b3,b4⟩:=hb;have hH:=Uz a.head b.head a1 b1 a3 b3;by_cases hl:a.rows.length=b.rows.length;have hl':((a.rows.length:Int) !=(b.rows.length:Int))=false:=by rw[hl];exact bne_self_eq_false _
 by_cases hh:a.head=b.head;rw[decide_eq_true hh]at hH;refine Zz func24 rfl ntmps24 results24 ?_;simp only[go_sem,doc,hl'];refine vc1 hH ?_;simp only[go_sem];refine Zr (ι:= { k:Nat // k<=a.rows.length/\ ∀j,j<k->a.rows.getD j Jd=b.rows.getD j Jd }) 57 (λx=> [(2,.ptr 2 0),(3,.ptr 3 0),(5,.int .i64 (x.1:Int))]) (λx=> [(2,[.sl .no (a.head.map ent),.sl .no (a.rows.map row)],Hf),(3,[.sl .no (b.head.map ent),.sl .no (b.rows.map row)],Hf)]) (λx=> []) (λx=>a.rows.length-x.1) ⟨0,by omega,λj hj=>by omega⟩
  ⟨rfl,(Fc3 rfl rfl rfl),Fc2 ⟨rfl,rfl⟩ ⟨rfl,rfl⟩,fnl⟩ (λx=>⟨(Fc3 rfl rfl rfl),(Fc2 rfl rfl)⟩) (λx=> ?_)
 obtain⟨k,hk,hall⟩:=x;simp only;by_cases h:(k:Int)<(a.rows.length:Int);have hka:k<a.rows.length:=by omega
 have hkb:k<b.rows.length:=by omega
 have w1:=We hka a2;have i1:=Ja k
 have i2:(k:Int)<(b.rows.length:Int):=by omega
 have ra:=a4 _ (Zh (d:=Jd) hka);have rb:=b4 _ (Zh (d:=Jd) hkb);have hc:=Uz _ _ ra.1 rb.1 ra.2 rb.2;by_cases e1:(a.rows.getD k Jd).item=(b.rows.getD k Jd).item;have e1':((a.rows.getD k Jd).item==(b.rows.getD k Jd).item)=true:=beq_iff_eq.2 e1;by_cases e2:(a.rows.getD k Jd).l=(b.rows.getD k Jd).l;rw[decide_eq_true e2]at hc;simp only[go_sem,h];refine vDq ?_;simp only[go_sem,Wg hka,Wg hkb,row,h,i1,i2,e1'];refine vc1 hc ?_;simp only[go_sem,w1];exact⟨⟨k+1,by omega,Zi hall (Zqk e1 e2)⟩,nx9 (by omega),⟨rfl,(Fc3 rfl rfl rfl),Fc2 ⟨rfl,rfl⟩ ⟨rfl,rfl⟩,fnl⟩⟩;rw[decide_eq_false e2]at hc;have hab:¬a=b:=λe=>e2 (by rw[e])
 simp only[go_sem,h];refine vDq ?_;simp only[go_sem,Wg hka,Wg hkb,row,h,i1,i2,e1'];refine vc1 hc ?_;simp only[go_sem,hab];have e1':((a.rows.getD k Jd).item==(b.rows.getD k Jd).item)=false:=beq_eq_false_iff_ne.2 e1;have hab:¬a=b:=λe=>e1 (by rw[e])
 simp only[go_sem,h];refine vDq ?_;simp only[go_sem,Wg hka,Wg hkb,row,h,i1,i2,e1',hab];have hab:decide (a=b)=true:=decide_eq_true (ZpV hh (XF (d:=Jd) hl λj hj=>hall j (by omega)));simp only[go_sem,h,hab];rw[decide_eq_false hh]at hH;have hab:¬a=b:=λe=>hh (by rw[e])
 refine Zz func24 rfl ntmps24 results24 ?_;simp only[go_sem,doc,hl'];refine vc1 hH ?_;simp only[go_sem,hab];have hl':((a.rows.length:Int) !=(b.rows.length:Int))=true:=bne_iff_ne.2 (by omega);have hab:¬a=b:=λe=>hl (by rw[e])
 refine Zz func24 rfl ntmps24 results24 ?_;simp only[go_sem,doc,hl',hab]
def Zay (f:Fd):Bool:=XX 200 f.at'.gr||(XX 200 f.at'.nm||(XX 200 f.df||decide (20<(f.cases'.length:Int))))
def GR (f:Fd):Bool:=Zay f||f.cases'.any (XX 200)
theorem Zcl (f:Fd) (hl:f.cases'.length<=maxLen):Pp 74 [fld f] (.bool (GR f)):=by
 have top:∀b,Zay f=b->(∀(_:b=Ht),GR f=Ht):=λb hb h=>by simp only[GR,hb,h,JX]
 cases ht:Zay f;have hx:GR f=f.cases'.any (XX 200):=by simp only[GR,ht,Bool.false_or]
 rw[hx];simp only[Zay,XX,JR,decide_eq_false_iff_not]at ht;obtain⟨t1,t2,t3,t4⟩:=ht;have t1:¬(200:Int)<(f.at'.gr.length:Int):=by omega
 have t2:¬(200:Int)<(f.at'.nm.length:Int):=by omega
 have t3:¬(200:Int)<(f.df.length:Int):=by omega
 refine Zz func74 rfl ntmps74 results74 ?_;simp only[go_sem,fld,t1,t2,t3,t4];refine Zr (ι:= { k:Nat // k<=f.cases'.length/\ ∀j,j<k->XX 200 (f.cases'.getD j [])=Hf }) 42 (λx=> [(1,.ptr 1 0),(3,.int .i64 (x.1:Int))]) (λx=> [(1,[.int .i64 f.at'.sc,.str f.at'.gr,.str f.at'.nm,.int .i64 f.kind,.str f.df,.sl .no (f.cases'.map .str),.int .i64 f.worth],Hf)]) (λx=> []) (λx=>f.cases'.length-x.1) ⟨0,by omega,λj hj=>by omega⟩
  ⟨rfl,(Fc2 rfl rfl),fcs ⟨rfl,rfl⟩ fnl,fnl⟩ (λx=>⟨(Fc2 rfl rfl),(fcs rfl fnl)⟩) (λx=> ?_)
 obtain⟨k,hk,hall⟩:=x;simp only;by_cases h:(k:Int)<(f.cases'.length:Int);have hka:k<f.cases'.length:=by omega
 have w1:=We hka hl;have i1:=Ja k
 by_cases g:(200:Int)<((f.cases'.getD k []).length:Int);have hz:=Ub (p:=XX 200) hka (d:= []) (by simp only[XX,decide_eq_true_eq];omega);simp only[go_sem,h,ZP hka,i1,g,hz];simp only[go_sem,h,ZP hka,i1,g,w1];exact⟨⟨k+1,by omega,Zi hall (by simp only[XX,decide_eq_false_iff_not];omega)⟩,nx9 (by omega),⟨rfl,(Fc2 rfl rfl),fcs ⟨rfl,rfl⟩ fnl,fnl⟩⟩;have hz:=VM (p:=XX 200) (d:= []) (l:=f.cases') (λj hj=>hall j (by omega));simp only[go_sem,h,hz];have hx:=top _ ht rfl;rw[hx];simp only[Zay,XX,Bool.or_eq_true,decide_eq_true_eq]at ht;by_cases t1:(200:Int)<(f.at'.gr.length:Int);refine Zz func74 rfl ntmps74 results74 ?_;simp only[go_sem,fld,t1];by_cases t2:(200:Int)<(f.at'.nm.length:Int);refine Zz func74 rfl ntmps74 results74 ?_;simp only[go_sem,fld,t1,t2];by_cases t3:(200:Int)<(f.df.length:Int);refine Zz func74 rfl ntmps74 results74 ?_;simp only[go_sem,fld,t1,t2,t3];have t4:(20:Int)<(f.cases'.length:Int):=by omega
 refine Zz func74 rfl ntmps74 results74 ?_;simp only[go_sem,fld,t1,t2,t3,t4]
open Go.PL
def U7 (l:List Fd) (rs:List Rw) (i:Nat):Bool:=
 (Z0 (rs.getD i Jd).item&&(decide (i=0)||XA (rs.getD (i-1) Jd).item (rs.getD i Jd).item))&&Xs (YG l 1) (rs.getD i Jd).l
def ZaE (l:List Fd) (d:Dc):Bool:=VA l&&(!decide (400<(d.rows.length:Int))&&Xs (YG l 0) d.head)
def Wt (l:List Fd) (d:Dc):Bool:=ZaE l d&&(Jm d.rows.length).all (U7 l d.rows)
theorem ZaZ {l:List Fd} (h:VA l=Ht):l.length<=16:=by
 simp only[VA,JO,Bool.not_eq_true',decide_eq_false_iff_not]at h;omega
open Go.PL
structure Pr where
 fr':Str
 to':Str
 deriving DecidableEq,Inhabited
structure Ln where
 kind:Int
 at':Rf
 nm:Str
 ot:Str
 fac:Int
 fd:Fd
 fo:List Pr
 ba:List Pr
 deriving DecidableEq,Inhabited
structure Tg where
 r:Int
 n:Int
 deriving DecidableEq,Inhabited
structure Eg where
 id:Tg
 par:Tg
 ln:Ln
 deriving DecidableEq,Inhabited
structure Lg where
 id:Tg
 down:Bool
 deriving DecidableEq,Inhabited
def pr (p:Pr):PV:= .agg [.str p.fr',.str p.to']
def prs (l:List Pr):PV:= .sl .no (l.map pr)
def refs (l:List Rf):PV:= .sl .no (l.map ref)
def lns (x:Ln):PV:= .agg [.int .i64 x.kind,.int .i64 x.at'.sc,.str x.at'.gr,.str x.at'.nm,.str x.nm,.str x.ot,.int .i64 x.fac,.int .i64 x.fd.at'.sc,.str x.fd.at'.gr,.str x.fd.at'.nm,.int .i64 x.fd.kind,.str x.fd.df,.sl .no (x.fd.cases'.map .str),.int .i64 x.fd.worth,.sl .no (x.fo.map pr),.sl .no (x.ba.map pr)]
def tg (t:Tg):PV:= .agg [.int .i64 t.r,.int .i64 t.n]
def tgs (l:List Tg):PV:= .sl .no (l.map tg)
def lg (t:Lg):PV:= .agg [.int .i64 t.id.r,.int .i64 t.id.n,.bool t.down]
def lgs (l:List Lg):PV:= .sl .no (l.map lg)
def eg (e:Eg):PV:= .agg [.int .i64 e.id.r,.int .i64 e.id.n,.int .i64 e.par.r,.int .i64 e.par.n,.int .i64 e.ln.kind,.int .i64 e.ln.at'.sc,.str e.ln.at'.gr,.str e.ln.at'.nm,.str e.ln.nm,.str e.ln.ot,.int .i64 e.ln.fac,.int .i64 e.ln.fd.at'.sc,.str e.ln.fd.at'.gr,.str e.ln.fd.at'.nm,.int .i64 e.ln.fd.kind,.str e.ln.fd.df,.sl .no (e.ln.fd.cases'.map .str),.int .i64 e.ln.fd.worth,.sl .no (e.ln.fo.map pr),.sl .no (e.ln.ba.map pr)]
def egs (l:List Eg):PV:= .sl .no (l.map eg)
theorem vc3 {x:Bool} {M:KH} {g:FuncId} {args args':List PV} {K:KR} {r:PV} (h1:Pp g args' r) (h2:K.k r M.m) (h0:Kb M.m args:=by first|(simp only[go_sem,ref,ent,Ys,doc,YD,row,Zs,fld,lns,tg,refs,prs,pr,eg,egs,tgs,lg,lgs];done)|exact rfl) (he:PV.giveL M.m args=args':=by first|(simp only[go_sem,ref,ent,Ys,doc,YD,row,Zs,fld,lns,tg,refs,prs,pr,eg,egs,tgs,lg,lgs];done)|exact rfl):@Vo prog x M (Hs (g,args)) K:=Z6 h1 h0 he h2
theorem Xa {α:Type} {enc:α->PV} {l:List α} {i:Nat} {d:α} (h:i<l.length):(l.map enc).getD i .any=enc (l.getD i d):=by
 simp[Jh,h]
theorem ZW {l:List Pr} {i:Nat} (h:i<l.length):(l.map pr).getD i .any=pr (l.getD i Jd):=Xa h
theorem Xv {l:List Rf} {i:Nat} (h:i<l.length):(l.map ref).getD i .any=ref (l.getD i Jd):=Xa h
theorem ZE {l:List Tg} {i:Nat} (h:i<l.length):(l.map tg).getD i .any=tg (l.getD i Jd):=Xa h
theorem Zn7 {l:List Lg} {i:Nat} (h:i<l.length):(l.map lg).getD i .any=lg (l.getD i Jd):=Xa h
theorem UW {l:List Eg} {i:Nat} (h:i<l.length):(l.map eg).getD i .any=eg (l.getD i Jd):=Xa h
theorem ZbO (a b:Pr):(a.fr'==b.fr'&&a.to'==b.to')=decide (a=b):=by
 cases a;cases b;rw[Jf];simp
theorem ZD (a b:Tg):(a.r==b.r&&a.n==b.n)=decide (a=b):=by
 cases a;cases b;rw[Jf];simp
theorem F8 (a b:List Str) (ha:a.length<=maxLen) (hb:b.length<=maxLen):Pp 222 [YD a,YD b] (.bool (decide (a=b))):=by
 by_cases hl:a.length=b.length;have hl':((a.length:Int) !=(b.length:Int))=false:=by rw[hl];exact bne_self_eq_false _
 refine Zz func222 rfl ntmps222 results222 ?_;simp only[go_sem,YD,hl'];refine Zr (ι:= { x:Nat // x<=(a).length/\(∀j,j<x->a.getD j []=b.getD j []) }) 26 (λx=> [(0,YD a),(1,YD b),(12,.int .i64 (a.length:Int)),(13,.int .i64 (x.1:Int))]) (λx=> []) (λx=> []) (λx=>(a).length-x.1) ⟨0,Jb _,λj hj=>absurd hj (Je j)⟩ ⟨rfl,(Fc4 rfl rfl rfl rfl),fnl,fnl⟩ (λx=>⟨(Fc4 rfl rfl rfl rfl),fnl⟩) (λx=> ?_);obtain⟨k,hk,hI⟩:=x;simp only at hk hI ⊢;by_cases h:(k:Int)<(a.length:Int)
 (have hka:k<(a).length:=by omega);(have w1:=We hka (ha));(have i1:=Ja k)
 have hkb:k<b.length:=by omega
 have i2:(k:Int)<(b.length:Int):=by omega
 by_cases he:a.getD k []=b.getD k []
 ·have he':(a.getD k []==b.getD k [])=true:=beq_iff_eq.2 he;simp only[go_sem,YD,h];refine vDq ?_;simp only[go_sem,ZP hka,ZP hkb,h,i1,i2,he',w1];exact⟨⟨k+1,by(try simp only);omega,Zi hI he⟩,by show(a).length-(k+1)<(a).length-k;omega,⟨rfl,(Fc4 rfl rfl rfl rfl),fnl,fnl⟩⟩
 have he':(a.getD k []==b.getD k [])=false:=beq_eq_false_iff_ne.2 he;have hab:¬a=b:=WL he;simp only[go_sem,YD,h];refine vDq ?_;simp only[go_sem,ZP hka,ZP hkb,h,i1,i2,he',hab];have hab:decide (a=b)=true:=decide_eq_true (XF (d:= []) hl λj hj=>hI j (by omega));simp only[go_sem,YD,h,hab];have hl':((a.length:Int) !=(b.length:Int))=true:=bne_iff_ne.2 (by omega);have hab:¬a=b:=λe=>hl (by rw[e])
 refine Zz func222 rfl ntmps222 results222 ?_;simp only[go_sem,YD,hl',hab]
theorem Ziw (a b:List Tg) (ha:a.length<=maxLen) (hb:b.length<=maxLen):Pp 109 [tgs a,tgs b] (.bool (decide (a=b))):=by
 by_cases hl:a.length=b.length;have hl':((a.length:Int) !=(b.length:Int))=false:=by rw[hl];exact bne_self_eq_false _
 refine Zz func109 rfl ntmps109 results109 ?_;simp only[go_sem,tgs,hl'];refine Zr (ι:= { x:Nat // x<=(a).length/\(∀j,j<x->a.getD j Jd=b.getD j Jd) }) 26 (λx=> [(0,tgs a),(1,tgs b),(12,.int .i64 (a.length:Int)),(13,.int .i64 (x.1:Int))]) (λx=> []) (λx=> []) (λx=>(a).length-x.1) ⟨0,Jb _,λj hj=>absurd hj (Je j)⟩ ⟨rfl,(Fc4 rfl rfl rfl rfl),fnl,fnl⟩ (λx=>⟨(Fc4 rfl rfl rfl rfl),fnl⟩) (λx=> ?_);obtain⟨k,hk,hI⟩:=x;simp only at hk hI ⊢;by_cases h:(k:Int)<(a.length:Int)
 (have hka:k<(a).length:=by omega);(have w1:=We hka (ha));(have i1:=Ja k)
 have hkb:k<b.length:=by omega
 have i2:(k:Int)<(b.length:Int):=by omega
 by_cases he:a.getD k Jd=b.getD k Jd
 ·have he':decide (a.getD k Jd=b.getD k Jd)=true:=decide_eq_true he;simp only[go_sem,tgs,h];refine vDq ?_;simp only[go_sem,ZE hka,ZE hkb,h,i1,i2,tg,ZD,he',w1];exact⟨⟨k+1,by(try simp only);omega,Zi hI he⟩,by show(a).length-(k+1)<(a).length-k;omega,⟨rfl,(Fc4 rfl rfl rfl rfl),fnl,fnl⟩⟩
 have he':decide (a.getD k Jd=b.getD k Jd)=false:=decide_eq_false he;have hab:¬a=b:=WL he;simp only[go_sem,tgs,h];refine vDq ?_;simp only[go_sem,ZE hka,ZE hkb,h,i1,i2,tg,ZD,he',hab];have hab:decide (a=b)=true:=decide_eq_true (XF (d:=Jd) hl λj hj=>hI j (by omega));simp only[go_sem,tgs,h,hab];have hl':((a.length:Int) !=(b.length:Int))=true:=bne_iff_ne.2 (by omega);have hab:¬a=b:=λe=>hl (by rw[e])
 refine Zz func109 rfl ntmps109 results109 ?_;simp only[go_sem,tgs,hl',hab]
theorem Zcf (a b:List Pr) (ha:a.length<=maxLen) (hb:b.length<=maxLen):Pp 176 [prs a,prs b] (.bool (decide (a=b))):=by
 by_cases hl:a.length=b.length;have hl':((a.length:Int) !=(b.length:Int))=false:=by rw[hl];exact bne_self_eq_false _
 refine Zz func176 rfl ntmps176 results176 ?_;simp only[go_sem,prs,hl'];refine Zr (ι:= { x:Nat // x<=(a).length/\(∀j,j<x->a.getD j Jd=b.getD j Jd) }) 26 (λx=> [(0,prs a),(1,prs b),(12,.int .i64 (a.length:Int)),(13,.int .i64 (x.1:Int))]) (λx=> []) (λx=> []) (λx=>(a).length-x.1) ⟨0,Jb _,λj hj=>absurd hj (Je j)⟩ ⟨rfl,(Fc4 rfl rfl rfl rfl),fnl,fnl⟩ (λx=>⟨(Fc4 rfl rfl rfl rfl),fnl⟩) (λx=> ?_);obtain⟨k,hk,hI⟩:=x;simp only at hk hI ⊢;by_cases h:(k:Int)<(a.length:Int)
 (have hka:k<(a).length:=by omega);(have w1:=We hka (ha));(have i1:=Ja k)
 have hkb:k<b.length:=by omega
 have i2:(k:Int)<(b.length:Int):=by omega
 by_cases he:a.getD k Jd=b.getD k Jd
 ·have he':decide (a.getD k Jd=b.getD k Jd)=true:=decide_eq_true he;simp only[go_sem,prs,h];refine vDq ?_;simp only[go_sem,ZW hka,ZW hkb,h,i1,i2,pr,ZbO,he',w1];exact⟨⟨k+1,by(try simp only);omega,Zi hI he⟩,by show(a).length-(k+1)<(a).length-k;omega,⟨rfl,(Fc4 rfl rfl rfl rfl),fnl,fnl⟩⟩
 have he':decide (a.getD k Jd=b.getD k Jd)=false:=decide_eq_false he;have hab:¬a=b:=WL he;simp only[go_sem,prs,h];refine vDq ?_;simp only[go_sem,ZW hka,ZW hkb,h,i1,i2,pr,ZbO,he',hab];have hab:decide (a=b)=true:=decide_eq_true (XF (d:=Jd) hl λj hj=>hI j (by omega));simp only[go_sem,prs,h,hab];have hl':((a.length:Int) !=(b.length:Int))=true:=bne_iff_ne.2 (by omega);have hab:¬a=b:=λe=>hl (by rw[e])
 refine Zz func176 rfl ntmps176 results176 ?_;simp only[go_sem,prs,hl',hab]
theorem Zaf (a b:List Pr) (ha:a.length<=maxLen) (hb:b.length<=maxLen):Pp 171 [prs a,prs b] (.bool (decide (a=b))):=by
 by_cases hl:a.length=b.length;have hl':((a.length:Int) !=(b.length:Int))=false:=by rw[hl];exact bne_self_eq_false _
 refine Zz func171 rfl ntmps171 results171 ?_;simp only[go_sem,prs,hl'];refine Zr (ι:= { x:Nat // x<=(a).length/\(∀j,j<x->a.getD j Jd=b.getD j Jd) }) 26 (λx=> [(0,prs a),(1,prs b),(5,.int .i64 (x.1:Int))]) (λx=> []) (λx=> []) (λx=>(a).length-x.1) ⟨0,Jb _,λj hj=>absurd hj (Je j)⟩ ⟨rfl,(Fc3 rfl rfl rfl),fnl,fnl⟩ (λx=>⟨(Fc3 rfl rfl rfl),fnl⟩) (λx=> ?_);obtain⟨k,hk,hI⟩:=x;simp only at hk hI ⊢;by_cases h:(k:Int)<(a.length:Int)
 (have hka:k<(a).length:=by omega);(have w1:=We hka (ha));(have i1:=Ja k)
 have hkb:k<b.length:=by omega
 have i2:(k:Int)<(b.length:Int):=by omega
 by_cases he:a.getD k Jd=b.getD k Jd
 ·have he':decide (a.getD k Jd=b.getD k Jd)=true:=decide_eq_true he;simp only[go_sem,prs,h];refine vDq ?_;simp only[go_sem,ZW hka,ZW hkb,h,i1,i2,pr,ZbO,he',w1];exact⟨⟨k+1,by(try simp only);omega,Zi hI he⟩,by show(a).length-(k+1)<(a).length-k;omega,⟨rfl,(Fc3 rfl rfl rfl),fnl,fnl⟩⟩
 have he':decide (a.getD k Jd=b.getD k Jd)=false:=decide_eq_false he;have hab:¬a=b:=WL he;simp only[go_sem,prs,h];refine vDq ?_;simp only[go_sem,ZW hka,ZW hkb,h,i1,i2,pr,ZbO,he',hab];have hab:decide (a=b)=true:=decide_eq_true (XF (d:=Jd) hl λj hj=>hI j (by omega));simp only[go_sem,prs,h,hab];have hl':((a.length:Int) !=(b.length:Int))=true:=bne_iff_ne.2 (by omega);have hab:¬a=b:=λe=>hl (by rw[e])
 refine Zz func171 rfl ntmps171 results171 ?_;simp only[go_sem,prs,hl',hab]
theorem Zhd (a b:List Tg) (ha:a.length<=maxLen) (hb:b.length<=maxLen):Pp 50 [tgs a,tgs b] (.bool (decide (a=b))):=by
 by_cases hl:a.length=b.length;have hl':((a.length:Int) !=(b.length:Int))=false:=by rw[hl];exact bne_self_eq_false _
 refine Zz func50 rfl ntmps50 results50 ?_;simp only[go_sem,tgs,hl'];refine Zr (ι:= { x:Nat // x<=(a).length/\(∀j,j<x->a.getD j Jd=b.getD j Jd) }) 26 (λx=> [(0,tgs a),(1,tgs b),(5,.int .i64 (x.1:Int))]) (λx=> []) (λx=> []) (λx=>(a).length-x.1) ⟨0,Jb _,λj hj=>absurd hj (Je j)⟩ ⟨rfl,(Fc3 rfl rfl rfl),fnl,fnl⟩ (λx=>⟨(Fc3 rfl rfl rfl),fnl⟩) (λx=> ?_);obtain⟨k,hk,hI⟩:=x;simp only at hk hI ⊢;by_cases h:(k:Int)<(a.length:Int)
 (have hka:k<(a).length:=by omega);(have w1:=We hka (ha));(have i1:=Ja k)
 have hkb:k<b.length:=by omega
 have i2:(k:Int)<(b.length:Int):=by omega
 by_cases he:a.getD k Jd=b.getD k Jd
 ·have he':decide (a.getD k Jd=b.getD k Jd)=true:=decide_eq_true he;simp only[go_sem,tgs,h];refine vDq ?_;simp only[go_sem,ZE hka,ZE hkb,h,i1,i2,tg,ZD,he',w1];exact⟨⟨k+1,by(try simp only);omega,Zi hI he⟩,by show(a).length-(k+1)<(a).length-k;omega,⟨rfl,(Fc3 rfl rfl rfl),fnl,fnl⟩⟩
 have he':decide (a.getD k Jd=b.getD k Jd)=false:=decide_eq_false he;have hab:¬a=b:=WL he;simp only[go_sem,tgs,h];refine vDq ?_;simp only[go_sem,ZE hka,ZE hkb,h,i1,i2,tg,ZD,he',hab];have hab:decide (a=b)=true:=decide_eq_true (XF (d:=Jd) hl λj hj=>hI j (by omega));simp only[go_sem,tgs,h,hab];have hl':((a.length:Int) !=(b.length:Int))=true:=bne_iff_ne.2 (by omega);have hab:¬a=b:=λe=>hl (by rw[e])
 refine Zz func50 rfl ntmps50 results50 ?_;simp only[go_sem,tgs,hl',hab]
theorem Zee (l:List Str) (s:Str) (hl:l.length<=maxLen):Pp 151 [YD l,.str s] (.int .i64 (idx (λx=>s==x) l)):=by
 refine Zz func151 rfl ntmps151 results151 ?_;simp only[go_sem,YD];refine Zr (ι:= { x:Nat // x<=(l).length/\(∀j,j<x->(λx=>s==x) (l.getD j [])=Hf) }) 19 (λx=> [(0,YD l),(1,.str s),(7,.int .i64 (l.length:Int)),(8,.int .i64 (x.1:Int))]) (λx=> []) (λx=> []) (λx=>(l).length-x.1) ⟨0,Jb _,λj hj=>absurd hj (Je j)⟩ ⟨rfl,(Fc4 rfl rfl rfl rfl),fnl,fnl⟩ (λx=>⟨(Fc4 rfl rfl rfl rfl),fnl⟩) (λx=> ?_);obtain⟨k,hk,hI⟩:=x;simp only at hk hI ⊢;by_cases h:(k:Int)<(l.length:Int)
 (have hka:k<(l).length:=by omega);(have w1:=We hka (hl));(have i1:=Ja k)
 cases he:(λx=>s==x) (l.getD k [])
 ·have he0:=he;simp only at he;simp only[go_sem,YD,h];simp only[go_sem,ZP hka,h,i1,he,w1];exact⟨⟨k+1,by(try simp only);omega,Zi hI he0⟩,by show(l).length-(k+1)<(l).length-k;omega,⟨rfl,(Fc4 rfl rfl rfl rfl),fnl,fnl⟩⟩
 have hx:=W8 (p:=λx=>s==x) hka hI he;simp only at he;simp only[go_sem,YD,h];simp only[go_sem,ZP hka,h,i1,he,hx];have hx:=Ts (p:=λx=>s==x) (d:= []) (l:=l) (λj hj=>hI j (by omega));simp only[go_sem,YD,h,hx]
theorem Zed (l:List Rf) (r:Rf) (hl:l.length<=maxLen):Pp 269 [refs l,ref r] (.int .i64 (idx (λx=>decide (r=x)) l)):=by
 refine Zz func269 rfl ntmps269 results269 ?_;simp only[go_sem,refs,ref];refine Zr (ι:= { x:Nat // x<=(l).length/\(∀j,j<x->(λx=>decide (r=x)) (l.getD j Jd)=Hf) }) 19 (λx=> [(0,refs l),(3,.ptr 3 0),(7,.int .i64 (l.length:Int)),(8,.int .i64 (x.1:Int))]) (λx=> [(3,[.int .i64 r.sc,.str r.gr,.str r.nm],Hf)]) (λx=> []) (λx=>(l).length-x.1) ⟨0,Jb _,λj hj=>absurd hj (Je j)⟩ ⟨rfl,(Fc4 rfl rfl rfl rfl),(fcs ⟨rfl,rfl⟩ fnl),fnl⟩ (λx=>⟨(Fc4 rfl rfl rfl rfl),(fcs rfl fnl)⟩) (λx=> ?_);obtain⟨k,hk,hI⟩:=x;simp only at hk hI ⊢;by_cases h:(k:Int)<(l.length:Int)
 (have hka:k<(l).length:=by omega);(have w1:=We hka (hl));(have i1:=Ja k)
 cases he:(λx=>decide (r=x)) (l.getD k Jd)
 ·have he0:=he;simp only at he;simp only[go_sem,refs,h];refine vDq ?_;simp only[go_sem,Xv hka,h,i1,ref,Zo,he,w1];exact⟨⟨k+1,by(try simp only);omega,Zi hI he0⟩,by show(l).length-(k+1)<(l).length-k;omega,⟨rfl,(Fc4 rfl rfl rfl rfl),(fcs ⟨rfl,rfl⟩ fnl),fnl⟩⟩
 have hx:=W8 (p:=λx=>decide (r=x)) hka hI he;simp only at he;simp only[go_sem,refs,h];refine vDq ?_;simp only[go_sem,Xv hka,h,i1,ref,Zo,he,hx];have hx:=Ts (p:=λx=>decide (r=x)) (d:=Jd) (l:=l) (λj hj=>hI j (by omega));simp only[go_sem,refs,h,hx]
theorem S4 (l:List Fd) (r:Rf) (hl:l.length<=maxLen):Pp 106 [Zs l,ref r] (.int .i64 (idx (λx=>decide (x.at'=r)) l)):=by
 refine Zz func106 rfl ntmps106 results106 ?_;simp only[go_sem,Zs,ref];refine Zr (ι:= { x:Nat // x<=(l).length/\(∀j,j<x->(λx=>decide (x.at'=r)) (l.getD j Jd)=Hf) }) 20 (λx=> [(3,.ptr 3 0),(7,Zs l),(8,.int .i64 (l.length:Int)),(9,.int .i64 (x.1:Int))]) (λx=> [(3,[.int .i64 r.sc,.str r.gr,.str r.nm],Hf)]) (λx=> []) (λx=>(l).length-x.1) ⟨0,Jb _,λj hj=>absurd hj (Je j)⟩ ⟨rfl,(Fc4 rfl rfl rfl rfl),(fcs ⟨rfl,rfl⟩ fnl),fnl⟩ (λx=>⟨(Fc4 rfl rfl rfl rfl),(fcs rfl fnl)⟩) (λx=> ?_);obtain⟨k,hk,hI⟩:=x;simp only at hk hI ⊢;by_cases h:(k:Int)<(l.length:Int)
 (have hka:k<(l).length:=by omega);(have w1:=We hka (hl));(have i1:=Ja k)
 cases he:(λx=>decide (x.at'=r)) (l.getD k Jd)
 ·have he0:=he;simp only at he;simp only[go_sem,Zs,h];simp only[go_sem,ZO hka,h,i1,fld,Zo,he,w1];exact⟨⟨k+1,by(try simp only);omega,Zi hI he0⟩,by show(l).length-(k+1)<(l).length-k;omega,⟨rfl,(Fc4 rfl rfl rfl rfl),(fcs ⟨rfl,rfl⟩ fnl),fnl⟩⟩
 have hx:=W8 (p:=λx=>decide (x.at'=r)) hka hI he;simp only at he;simp only[go_sem,Zs,h];simp only[go_sem,ZO hka,h,i1,fld,Zo,he,hx];have hx:=Ts (p:=λx=>decide (x.at'=r)) (d:=Jd) (l:=l) (λj hj=>hI j (by omega));simp only[go_sem,Zs,h,hx]
theorem ZiF (l:List Eg) (t:Tg) (hl:l.length<=maxLen):Pp 77 [egs l,tg t] (.int .i64 (idx (λx=>decide (x.id=t)) l)):=by
 refine Zz func77 rfl ntmps77 results77 ?_;simp only[go_sem,egs,tg];refine Zr (ι:= { x:Nat // x<=(l).length/\(∀j,j<x->(λx=>decide (x.id=t)) (l.getD j Jd)=Hf) }) 20 (λx=> [(0,egs l),(3,.ptr 3 0),(5,.int .i64 (x.1:Int))]) (λx=> [(3,[.int .i64 t.r,.int .i64 t.n],Hf)]) (λx=> []) (λx=>(l).length-x.1) ⟨0,Jb _,λj hj=>absurd hj (Je j)⟩ ⟨rfl,(Fc3 rfl rfl rfl),(fcs ⟨rfl,rfl⟩ fnl),fnl⟩ (λx=>⟨(Fc3 rfl rfl rfl),(fcs rfl fnl)⟩) (λx=> ?_);obtain⟨k,hk,hI⟩:=x;simp only at hk hI ⊢;by_cases h:(k:Int)<(l.length:Int)
 (have hka:k<(l).length:=by omega);(have w1:=We hka (hl));(have i1:=Ja k)
 cases he:(λx=>decide (x.id=t)) (l.getD k Jd)
 ·have he0:=he;simp only at he;simp only[go_sem,egs,h];refine vDq ?_;simp only[go_sem,UW hka,h,i1,eg,ZD,he,w1];exact⟨⟨k+1,by(try simp only);omega,Zi hI he0⟩,by show(l).length-(k+1)<(l).length-k;omega,⟨rfl,(Fc3 rfl rfl rfl),(fcs ⟨rfl,rfl⟩ fnl),fnl⟩⟩
 have hx:=W8 (p:=λx=>decide (x.id=t)) hka hI he;simp only at he;simp only[go_sem,egs,h];refine vDq ?_;simp only[go_sem,UW hka,h,i1,eg,ZD,he,hx];have hx:=Ts (p:=λx=>decide (x.id=t)) (d:=Jd) (l:=l) (λj hj=>hI j (by omega));simp only[go_sem,egs,h,hx]
open Go.PL
theorem Zf7 (f:Fd):(fld f).dids= []:=by simp only[fld,Js,Jj,XS,Jc]
theorem Zn8 {α:Type} (p:α->Bool) (l:List α):decide ((0:Int)<=idx p l)=l.any p:=by
 unfold idx;cases h:l.findIdx? p with
 |none=>
  have:l.any p=false:=by
   rw[JY];intro x hx;have:=List.findIdx?_eq_none_iff.1 h x hx;simp[this]
  rw[this];rfl
 |some i=>
  rw[List.findIdx?_eq_some_iff_getElem]at h;obtain⟨hi,hp,_⟩:=h;have:l.any p=true:=JP.2 ⟨_,List.getElem_mem hi,hp⟩;rw[this];exact decide_eq_true (show(0:Int)<=(i:Int)by omega)
theorem ZlF (l:List Str) (s:Str):l.any (λx=>s==x)=l.any (· == s):=by
 congr 1;funext x;rw[Jf];simp only[beq_iff_eq];exact eq_comm
theorem Ym {n b:Nat} (hn:n<=1000000) (hb:b<=1000):Zhg n b:=Yi (by omega) hb
theorem XQ (f:Fd) (hf:f.cases'.length<=1000000):Pp 100 [fld f] (fld f):=by
 have hr:=Ym hf (show 16<=1000 by omega);refine ZF func100 rfl ntmps100 results100 (Zf7 _) ?_;simp only[go_sem,fld,ZU,Xh,hr]
theorem Zcj (a b:Rf):Pp 223 [ref a,ref b] (.bool (Zc6 a b)):=by
 refine Zz func223 rfl ntmps223 results223 ?_;simp only[go_sem,ref];repeat' ((first|(first|apply Zl|apply Zj|apply Zp)<;>intro h|refine vDq ?_)<;>first|simp only[go_sem,h]|simp only[go_sem]|skip)
 all_goals (simp_all[Zc6])
theorem TP (l:List Str) (s:Str) (hl:l.length<=maxLen):Pp 108 [YD l,.str s] (.bool (l.any (· == s))):=by
 have hI:=Zee l s hl;refine Zz func108 rfl ntmps108 results108 ?_;simp only[go_sem,YD];refine vc1 hI ?_;simp only[go_sem,Zn8,ZlF]
def Sl (l:List Str):Bool:=decide (1<=l.length/\l.length<=6)&&DA l
theorem Zg4 (l:List Str):Pp 150 [YD l] (.bool (Sl l)):=by
 by_cases h1:(l.length:Int)<1;have hx:Sl l=false:=by simp only[Sl,show ¬(1<=l.length/\l.length<=6)by omega,decide_false,Jg]
 refine Zz func150 rfl ntmps150 results150 ?_;simp only[go_sem,YD,h1,hx];by_cases h2:(6:Int)<(l.length:Int);have hx:Sl l=false:=by simp only[Sl,show ¬(1<=l.length/\l.length<=6)by omega,decide_false,Jg]
 refine Zz func150 rfl ntmps150 results150 ?_;simp only[go_sem,YD,h1,h2,hx];have hm:l.length<=maxLen:=by rw[Zb];omega
 have hx:Sl l=DA l:=by simp only[Sl,show(1<=l.length/\l.length<=6)by omega,and_self,decide_true,Jv]
 rw[hx];refine Zz func150 rfl ntmps150 results150 ?_;simp only[go_sem,YD,h1,h2];refine Zr (ι:= { x:Nat // x<=(l).length/\(∀j,j<x->VO l j=Ht) }) 31 (λx=> [(0,YD l),(13,YD l),(14,.int .i64 (l.length:Int)),(15,.int .i64 (x.1:Int))]) (λx=> []) (λx=> []) (λx=>(l).length-x.1) ⟨0,Jb _,λj hj=>absurd hj (Je j)⟩ ⟨rfl,(Fc4 rfl rfl rfl rfl),fnl,fnl⟩ (λx=>⟨(Fc4 rfl rfl rfl rfl),fnl⟩) (λx=> ?_);obtain⟨k,hk,hI⟩:=x;simp only at hk hI ⊢;by_cases h:(k:Int)<(l.length:Int)
 (have hka:k<(l).length:=by omega);(have w1:=We hka (hm));(have i1:=Ja k)
 have i2:(k:Int)<=(l.length:Int):=by omega
 have hN:=YL (l.getD k []);have hT:(l.take k).length<=maxLen:=by rw[Jk];omega
 have hH:=TP (l.take k) (l.getD k []) hT;cases hn:Z0 (l.getD k []);rw[hn]at hN;have hz:=Vr hka (by simp only[VO,hn,Jg]);simp only[go_sem,YD,h,i1,ZP hka];refine vc1 hN ?_;simp only[go_sem,hz];rw[hn]at hN;cases hh:(l.take k).any (· == l.getD k [])
 ·rw[hh]at hH;have ok:VO l k=true:=by simp only[VO,hn,hh,Jo,Jr]
  simp only[go_sem,YD,h,i1,ZP hka];refine vc1 hN ?_;simp only[go_sem,i1,i2,ZU,cut,Jy,Dj];refine vc1 hH ?_;simp only[go_sem,w1];exact⟨⟨k+1,by(try simp only);omega,Zi hI ok⟩,by show(l).length-(k+1)<(l).length-k;omega,⟨rfl,(Fc4 rfl rfl rfl rfl),fnl,fnl⟩⟩
 rw[hh]at hH;have hz:=Vr hka (by simp only[VO,hn,hh,JL,Jn]);simp only[go_sem,YD,h,i1,ZP hka];refine vc1 hN ?_;simp only[go_sem,i1,i2,ZU,cut,Jy,Dj];refine vc1 hH ?_;simp only[go_sem,hz];have hz:=DB (l:=l) (λj hj=>hI j (by omega));simp only[go_sem,YD,h,hz]
theorem Zhm {l:List Str} {s:Str} (h:l.any (· == s)=Ht):1<=l.length:=by
 cases l with
 |nil=>simp at h
 |cons a l=>simp
theorem VJ (f:Fd) (hl:f.cases'.length<=maxLen):Pp 107 [fld f] (.bool (Y5 f)):=by
 have hP:=S6 f.at';have hT:=Sd f.df;have hC:=Zg4 f.cases';have hK:=TP f.cases' f.df hl;have key:Y5 f=(XI f.at'&&(if f.kind=1 then(f.df== [])&&(((f.cases'.length:Int)==0)&&(decide (1<=f.worth)&&decide (f.worth<=1048576)))
   else if f.kind=2 then decide ((f.df.length:Int)<=40)&&(((f.cases'.length:Int)==0)&&(f.worth==0))
   else if f.kind=3 then Sl f.cases'&&(f.cases'.any (· == f.df)&&(f.worth==0))
   else if f.kind=4 then(f.df== [])&&(((f.cases'.length:Int)==0)&&(f.worth==0))else Hf)):=by
  unfold Y5;congr 1
  by_cases h1:f.kind=1
  ·rw[if_pos h1,if_pos h1,Jf];simp;omega
  ·rw[if_neg h1,if_neg h1]
   by_cases h3:f.kind=3
   ·rw[if_pos h3,if_neg (by omega),if_pos h3];unfold ZbX Sl;cases ha:f.cases'.any (· == f.df)
    ·simp
    ·have:=Zhm ha;rw[Jf];simp;constructor
     ·rintro ⟨a,b,c⟩;exact⟨⟨⟨this,by omega⟩,b⟩,a⟩
     ·rintro ⟨⟨⟨a,b⟩,c⟩,d⟩;exact⟨d,c,by omega⟩
   ·rw[if_neg h3,if_neg h3];unfold ZkJ
    by_cases h2:f.kind=2
    ·rw[if_pos h2,Jf];simp[h2];constructor<;>rintro ⟨a,b,c⟩<;>refine⟨?_,?_,?_⟩<;>first|assumption|omega
    ·rw[if_neg h2]
     by_cases h4:f.kind=4
     ·rw[if_pos h4,Jf];simp[h4];constructor
      ·rintro ⟨a,b,c⟩;exact⟨c,b,a⟩
      ·rintro ⟨a,b,c⟩;exact⟨c,b,a⟩
     ·rw[if_neg h4];simp[h2,h4]
 rw[key];cases hp:XI f.at';rw[hp]at hP;refine Zz func107 rfl ntmps107 results107 ?_;simp only[go_sem,fld];refine vc1 hP ?_;simp only[go_sem,Jg];rw[hp]at hP;rw[Jv];by_cases h1:f.kind=1
 ·have k1:(f.kind==1)=true:=by rw[h1];rfl
  rw[if_pos h1];refine Zz func107 rfl ntmps107 results107 ?_;simp only[go_sem,fld];refine vc1 hP ?_;simp only[go_sem,k1];repeat' ((first|(first|apply Zl|apply Zj|apply Zp)<;>intro h|refine vDq ?_)<;>first|simp only[go_sem,h]|simp only[go_sem]|skip)
  all_goals simp_all
 have k1:(f.kind==1)=false:=beq_eq_false_iff_ne.2 h1;rw[if_neg h1];by_cases h2:f.kind=2
 ·have k2:(f.kind==2)=true:=by rw[h2];rfl
  rw[if_pos h2];refine Zz func107 rfl ntmps107 results107 ?_;simp only[go_sem,fld];refine vc1 hP ?_;simp only[go_sem,k1,k2];refine vc1 hT ?_;simp only[go_sem,k1,k2];repeat' ((first|(first|apply Zl|apply Zj|apply Zp)<;>intro h|refine vDq ?_)<;>first|simp only[go_sem,h]|simp only[go_sem]|skip)
  all_goals simp_all
 have k2:(f.kind==2)=false:=beq_eq_false_iff_ne.2 h2;rw[if_neg h2];by_cases h3:f.kind=3
 ·have k3:(f.kind==3)=true:=by rw[h3];rfl
  rw[if_pos h3];refine Zz func107 rfl ntmps107 results107 ?_;simp only[go_sem,fld];refine vc1 hP ?_;simp only[go_sem,k1,k2,k3];refine vc1 hC ?_;simp only[go_sem,k1,k2,k3];repeat' ((first|(first|apply Zl|apply Zj|apply Zp)<;>intro h|refine vc1 hK ?_|refine vDq ?_)<;>first|simp only[go_sem,h]|simp only[go_sem]|skip)
  all_goals simp_all
 have k3:(f.kind==3)=false:=beq_eq_false_iff_ne.2 h3;rw[if_neg h3];by_cases h4:f.kind=4
 ·have k4:(f.kind==4)=true:=by rw[h4];rfl
  rw[if_pos h4];refine Zz func107 rfl ntmps107 results107 ?_;simp only[go_sem,fld];refine vc1 hP ?_;simp only[go_sem,k1,k2,k3,k4];repeat' ((first|(first|apply Zl|apply Zj|apply Zp)<;>intro h|refine vDq ?_)<;>first|simp only[go_sem,h]|simp only[go_sem]|skip)
  all_goals simp_all
 have k4:(f.kind==4)=false:=beq_eq_false_iff_ne.2 h4;rw[if_neg h4];refine Zz func107 rfl ntmps107 results107 ?_;simp only[go_sem,fld];refine vc1 hP ?_;simp only[go_sem,k1,k2,k3,k4]
theorem SZ (a b:Fd) (ha:a.cases'.length<=maxLen) (hb:b.cases'.length<=maxLen):Pp 175 [fld a,fld b] (.bool (decide (a=b))):=by
 have hE:=F8 a.cases' b.cases' ha hb;refine Zz func175 rfl ntmps175 results175 ?_;simp only[go_sem,fld,Zo];repeat' ((first|(first|apply Zl|apply Zj|apply Zp)<;>intro h|refine vc1 hE ?_|refine vDq ?_)<;>first|simp only[go_sem,h,Zo]|simp only[go_sem,Zo]|skip)
 all_goals ((cases a;cases b;simp_all)<;>rfl)
theorem Du (a b:List Str) (ha:a.length<=maxLen) (hb:b.length<=maxLen):Pp 219 [YD a,YD b] (.bool (decide (a=b))):=by
 have hE:=Zag a b ha hb;refine Zz func219 rfl ntmps219 results219 ?_;simp only[go_sem,YD];refine vc1 hE ?_;simp only[go_sem]
theorem Ds (a b:Fd) (ha:a.cases'.length<=maxLen) (hb:b.cases'.length<=maxLen):Pp 170 [fld a,fld b] (.bool (decide (a=b))):=by
 have hE:=Du a.cases' b.cases' ha hb;refine Zz func170 rfl ntmps170 results170 ?_;simp only[go_sem,fld,Zo];repeat' ((first|(first|apply Zl|apply Zj|apply Zp)<;>intro h|refine vc1 hE ?_|refine vDq ?_)<;>first|simp only[go_sem,h,Zo]|simp only[go_sem,Zo]|skip)
 all_goals ((cases a;cases b;simp_all)<;>rfl)
open Go.PL
def X3 (l:List Pr) (s:Str):Str×Bool:=match l.find? (λp=>p.fr'==s)with|some p=>(p.to',Ht)|none=>([],Hf)
def Zba (x:Str×Bool):PV:= .tup [.str x.1,.bool x.2]
theorem Zaw {α:Type} {p:α->Bool} {l:List α} {k:Nat} {d:α} (hk:k<l.length) (h:∀j,j<k->p (l.getD j d)=Hf) (hp:p (l.getD k d)=Ht):l.find? p=Hs (l.getD k d):=by
 have h1:=W8 hk h hp;rw[List.find?_eq_some_iff_getElem];refine⟨hp,k,hk,by rw[Jh,Jl hk];rfl,λj hj=> ?_⟩;have:=h j hj;rw[Jh,Jl (by omega)]at this;simpa using this
theorem ZcP {α:Type} {p:α->Bool} {l:List α} {d:α} (h:∀j,j<l.length->p (l.getD j d)=Hf):l.find? p=none:=by
 rw[JT];intro x hx;obtain⟨j,hj,rfl⟩:=JC hx;have:=h j hj;rw[Jh,Jl hj]at this;simpa using this
theorem T8 (l:List Pr) (s:Str) (hl:l.length<=maxLen):Pp 221 [prs l,.str s] (Zba (X3 l s)):=by
 refine Zz func221 rfl ntmps221 results221 ?_;simp only[go_sem,prs];refine Zr (ι:= { x:Nat // x<=(l).length/\(∀j,j<x->((l.getD j Jd).fr'==s)=Hf) }) 21 (λx=> [(1,.str s),(8,prs l),(9,.int .i64 (l.length:Int)),(10,.int .i64 (x.1:Int))]) (λx=> []) (λx=> []) (λx=>(l).length-x.1) ⟨0,Jb _,λj hj=>absurd hj (Je j)⟩ ⟨rfl,(Fc4 rfl rfl rfl rfl),fnl,fnl⟩ (λx=>⟨(Fc4 rfl rfl rfl rfl),fnl⟩) (λx=> ?_);obtain⟨k,hk,hI⟩:=x;simp only at hk hI ⊢;by_cases h:(k:Int)<(l.length:Int)
 (have hka:k<(l).length:=by omega);(have w1:=We hka (hl));(have i1:=Ja k)
 cases he:((l.getD k Jd).fr'==s)
 ·simp only[go_sem,prs,h,ZW hka,pr,i1,he,w1];exact⟨⟨k+1,by(try simp only);omega,Zi hI he⟩,by show(l).length-(k+1)<(l).length-k;omega,⟨rfl,(Fc4 rfl rfl rfl rfl),fnl,fnl⟩⟩
 have hx:=Zaw (p:=λp:Pr=>p.fr'==s) hka hI he;simp only[go_sem,prs,h,ZW hka,pr,i1,he,Zba,X3,hx];have hx:=ZcP (p:=λp:Pr=>p.fr'==s) (d:=Jd) (l:=l) (λj hj=>hI j (by omega));simp only[go_sem,prs,h,Zba,X3,hx]
theorem Zae (l:List Pr) (s:Str) (hl:l.length<=maxLen):Pp 168 [prs l,.str s] (Zba (X3 l s)):=by
 refine Zz func168 rfl ntmps168 results168 ?_;simp only[go_sem,prs];refine Zr (ι:= { x:Nat // x<=(l).length/\(∀j,j<x->((l.getD j Jd).fr'==s)=Hf) }) 25 (λx=> [(0,prs l),(1,.str s),(6,.int .i64 (x.1:Int))]) (λx=> []) (λx=> []) (λx=>(l).length-x.1) ⟨0,Jb _,λj hj=>absurd hj (Je j)⟩ ⟨rfl,(Fc3 rfl rfl rfl),fnl,fnl⟩ (λx=>⟨(Fc3 rfl rfl rfl),fnl⟩) (λx=> ?_);obtain⟨k,hk,hI⟩:=x;simp only at hk hI ⊢;by_cases h:(k:Int)<(l.length:Int)
 (have hka:k<(l).length:=by omega);(have w1:=We hka (hl));(have i1:=Ja k)
 cases he:((l.getD k Jd).fr'==s)
 ·simp only[go_sem,prs,h,ZW hka,pr,i1,he,w1];exact⟨⟨k+1,by(try simp only);omega,Zi hI he⟩,by show(l).length-(k+1)<(l).length-k;omega,⟨rfl,(Fc3 rfl rfl rfl),fnl,fnl⟩⟩
 have hx:=Zaw (p:=λp:Pr=>p.fr'==s) hka hI he;simp only[go_sem,prs,h,ZW hka,pr,i1,he,Zba,X3,hx];have hx:=ZcP (p:=λp:Pr=>p.fr'==s) (d:=Jd) (l:=l) (λj hj=>hI j (by omega));simp only[go_sem,prs,h,Zba,X3,hx]
theorem Zgn {α β:Type} [Inhabited α] (f:α->β) {l:List α} {k:Nat} (h:k<l.length):(l.take (k+1)).map f=(l.take k).map f++ [f (l.getD k Jd)]:=by
 rw[ZI h (d:=Jd),List.map_append];rfl
theorem Vh {α:Type} (l:List α) (k:Nat):(l.take k).length<=l.length:=by rw[Jk];omega
def WZ (l:List Pr):List Str:=l.map (·.fr')
theorem ZaC (l:List Pr) (hl:l.length<=1000000):Pp 226 [prs l] (YD (WZ l)):=by
 have hm:l.length<=maxLen:=by rw[Zb];omega
 have hr0:=Ym hl (show 16<=1000 by omega);refine ZF func226 rfl ntmps226 results226 (SR _) ?_;simp only[go_sem,prs,hr0,hm];refine⟨by omega,?_⟩;refine Yj 3 8 19 0 1 9 [] rfl rfl rfl ?_;refine Zr (ι:= { x:Nat×(List Str) // x.1<=(l).length/\(x.2=(l.take x.1).map (·.fr')) }) 22 (λx=> [(3,.sl (.row 19) (x.1.2.map .str)),(9,prs l),(10,.int .i64 (l.length:Int)),(11,.int .i64 (x.1.1:Int))]) (λx=> []) (λx=> [(19,.live (x.1.2.length) (1) (9))]) (λx=>(l).length-x.1.1) ⟨(0,[]),Jb _,rfl⟩ ⟨rfl,(Fc4 rfl rfl rfl rfl),fnl,(fcs rfl fnl)⟩ (λx=>⟨(Fc4 (by simp[Jp,Zy]) rfl rfl rfl),fnl⟩) (λx=> ?_);obtain⟨⟨k,acc⟩,hk,hI⟩:=x;simp only at hk hI ⊢;have hacc:acc.length<=l.length:=by rw[hI,Jq];exact Vh _ _
 by_cases h:(k:Int)<(l.length:Int)
 ·(have hka:k<(l).length:=by omega);(have w1:=We hka (hm));(have i1:=Ja k)
  have hr:=Ym (show acc.length+1<=1000000 by rw[hI,Jq,Jk];omega) (show 16<=1000 by omega);simp only[go_sem,prs,h,ZW hka,pr,i1,ZU,hr,w1];exact⟨⟨(k+1,acc++ [(l.getD k Jd).fr']),by(try simp only);omega,by simp only;rw[Zgn _ hka,hI]⟩,by show(l).length-(k+1)<(l).length-k;omega,⟨rfl,(Fc4 (by simp[upd]) rfl rfl rfl),fnl,(fcs (by simp[upd]) fnl)⟩⟩
 obtain rfl:k=l.length:=by omega
 rw[Jt]at hI;subst hI;simp only[go_sem,prs,h,YD,WZ]
theorem Dt (l:List Pr) (hl:l.length<=1000000):Pp 190 [prs l] (YD (WZ l)):=by
 have hm:l.length<=maxLen:=by rw[Zb];omega
 refine ZF func190 rfl ntmps190 results190 (SR _) ?_;simp only[go_sem,prs];refine Yj 3 5 19 0 1 9 [] rfl rfl rfl ?_;refine Zr (ι:= { x:Nat×(List Str) // x.1<=(l).length/\(x.2=(l.take x.1).map (·.fr')) }) 21 (λx=> [(0,prs l),(3,.sl (.row 19) (x.1.2.map .str)),(4,.int .i64 (x.1.1:Int))]) (λx=> []) (λx=> [(19,.live (x.1.2.length) (1) (9))]) (λx=>(l).length-x.1.1) ⟨(0,[]),Jb _,rfl⟩ ⟨rfl,(Fc3 rfl rfl rfl),fnl,(fcs rfl fnl)⟩ (λx=>⟨(Fc3 rfl (by simp[Jp,Zy]) rfl),fnl⟩) (λx=> ?_);obtain⟨⟨k,acc⟩,hk,hI⟩:=x;simp only at hk hI ⊢;have hacc:acc.length<=l.length:=by rw[hI,Jq];exact Vh _ _
 by_cases h:(k:Int)<(l.length:Int)
 ·(have hka:k<(l).length:=by omega);(have w1:=We hka (hm));(have i1:=Ja k)
  have hr:=Ym (show acc.length+1<=1000000 by rw[hI,Jq,Jk];omega) (show 16<=1000 by omega);simp only[go_sem,prs,h,ZW hka,pr,i1,ZU,hr,w1];exact⟨⟨(k+1,acc++ [(l.getD k Jd).fr']),by(try simp only);omega,by simp only;rw[Zgn _ hka,hI]⟩,by show(l).length-(k+1)<(l).length-k;omega,⟨rfl,(Fc3 rfl (by simp[upd]) rfl),fnl,(fcs (by simp[upd]) fnl)⟩⟩
 obtain rfl:k=l.length:=by omega
 rw[Jt]at hI;subst hI;simp only[go_sem,prs,h,YD,WZ]
theorem Zcs (l:List Fd) (hl:l.length<=100000) (hc:∀f∈l,f.cases'.length<=1000000):Pp 52 [Zs l] (Zs l):=by
 have hm:l.length<=maxLen:=by rw[Zb];omega
 have hr0:=Ym (show l.length<=1000000 by omega) (show 96<=1000 by omega);refine ZF func52 rfl ntmps52 results52 (UU _) ?_;simp only[go_sem,Zs,hr0,hm];refine⟨by omega,?_⟩;refine Yj 3 8 19 0 7 30 [] rfl rfl rfl ?_;refine Zr (ι:= { x:Nat×(List Fd) // x.1<=(l).length/\(x.2=l.take x.1) }) 22 (λx=> [(3,.sl (.row 19) (x.1.2.map fld)),(9,Zs l),(10,.int .i64 (l.length:Int)),(11,.int .i64 (x.1.1:Int))]) (λx=> []) (λx=> [(19,.live (x.1.2.length) (7) (30))]) (λx=>(l).length-x.1.1) ⟨(0,[]),Jb _,rfl⟩ ⟨rfl,(Fc4 rfl rfl rfl rfl),fnl,(fcs rfl fnl)⟩ (λx=>⟨(Fc4 (by simp[Jp,Zy]) rfl rfl rfl),fnl⟩) (λx=> ?_);obtain⟨⟨k,acc⟩,hk,hI⟩:=x;simp only at hk hI ⊢;have hacc:acc.length<=l.length:=by rw[hI];exact Vh _ _
 by_cases h:(k:Int)<(l.length:Int)
 ·(have hka:k<(l).length:=by omega);(have w1:=We hka (hm));(have i1:=Ja k)
  have hr:=Ym (show acc.length+1<=1000000 by omega) (show 96<=1000 by omega);have hO:=XQ (l.getD k Jd) (hc _ (Zh hka));simp only[go_sem,Zs,h,ZO hka,fld,i1];refine vc2 hO ?_;simp only[go_sem,fld,Vf,hr,w1];exact⟨⟨(k+1,acc++ [l.getD k Jd]),by(try simp only);omega,by simp only;rw[ZI hka (d:=Jd),hI]⟩,by show(l).length-(k+1)<(l).length-k;omega,⟨rfl,(Fc4 (by simp[upd,fld]) rfl rfl rfl),fnl,(fcs (by simp[upd]) fnl)⟩⟩
 obtain rfl:k=l.length:=by omega
 rw[Jt]at hI;subst hI;simp only[go_sem,h,Zs]
open Go.PL
theorem S7 (l:List Fd) (sc:Int) (hl:l.length<=100000) (hc:∀f∈l,f.cases'.length<=1000000):Pp 67 [Zs l,.int .i64 sc] (Zs (YG l sc)):=by
 have hm:l.length<=maxLen:=by rw[Zb];omega
 refine ZF func67 rfl ntmps67 results67 (UU _) ?_;simp only[go_sem,Zs];refine Yh 5 23 7 30 rfl rfl ?_;refine Zr (ι:= { x:Nat×(List Fd) // x.1<=(l).length/\(x.2=YG (l.take x.1) sc) }) 26 (λx=> [(1,.int .i64 sc),(5,.sl (.row 23) (x.1.2.map fld)),(8,Zs l),(9,.int .i64 (l.length:Int)),(10,.int .i64 (x.1.1:Int))]) (λx=> []) (λx=> [(23,.live (x.1.2.length) (7) (30))]) (λx=>(l).length-x.1.1) ⟨(0,[]),Jb _,rfl⟩ ⟨rfl,(Fc5 rfl rfl rfl rfl rfl),fnl,(fcs rfl fnl)⟩ (λx=>⟨(Fc5 rfl (by simp[Jp,Zy]) rfl rfl rfl),fnl⟩) (λx=> ?_);obtain⟨⟨k,acc⟩,hk,hI⟩:=x;simp only at hk hI ⊢;have hacc:acc.length<=l.length:=by
  rw[hI];exact J6 (List.length_filter_le _ _) (Vh _ _)
 by_cases h:(k:Int)<(l.length:Int)
 (have hka:k<(l).length:=by omega);(have w1:=We hka (hm));(have i1:=Ja k)
 have hr:=Ym (show acc.length+1<=1000000 by omega) (show 96<=1000 by omega);have hO:=XQ (l.getD k Jd) (hc _ (Zh hka));cases he:((l.getD k Jd).at'.sc==sc)
 ·have hs:YG (l.take (k+1)) sc=YG (l.take k) sc:=by
   rw[ZI hka (d:=Jd)];simp only[YG,JU,JZ,he,JE,if_false,J2,Jc]
  simp only[go_sem,Zs,h,ZO hka,fld,i1,he,w1];exact⟨⟨(k+1,acc),by(try simp only);omega,by simp only;rw[hs,hI]⟩,by show(l).length-(k+1)<(l).length-k;omega,⟨rfl,(Fc5 rfl (by simp[upd,fld]) rfl rfl rfl),fnl,(fcs (by simp[upd]) fnl)⟩⟩
 ·have hs:YG (l.take (k+1)) sc=YG (l.take k) sc++ [l.getD k Jd]:=by
   rw[ZI hka (d:=Jd)];simp only[YG,JU,JZ,he,if_true,J2]
  simp only[go_sem,Zs,h,ZO hka,fld,i1,he];refine vc2 hO ?_;simp only[go_sem,fld,Vf,hr,w1];exact⟨⟨(k+1,acc++ [l.getD k Jd]),by(try simp only);omega,by simp only;rw[hs,hI]⟩,by show(l).length-(k+1)<(l).length-k;omega,⟨rfl,(Fc5 rfl (by simp[upd,fld]) rfl rfl rfl),fnl,(fcs (by simp[upd]) fnl)⟩⟩
 obtain rfl:k=l.length:=by omega
 rw[Jt]at hI;subst hI;simp only[go_sem,h,Zs]
def atF (r:Rf):Fd->Bool:=λx=>decide (x.at'=r)
def YM (l:List Fd) (r:Rf):Fd×Int:=if idx (atF r) l<0 then(Jd,6)else(l.getD (idx (atF r) l).toNat Jd,0)
def FN (x:Fd×Int):PV:= .tup [fld x.1,.int .i64 x.2]
def YF (x:List Fd×Int):PV:= .tup [Zs x.1,.int .i64 x.2]
theorem ZcT (x:Fd×Int):(FN x).dids= []:=by simp only[FN,Js,Jj,Zf7,Jc]
theorem Z3 (x:List Fd×Int):(YF x).dids= []:=by simp only[YF,Js,Jj,UU,Jc]
theorem ZeR:fld Jd= .agg [.int .i64 0,.str [],.str [],.int .i64 0,.str [],.sl .no [],.int .i64 0]:=rfl
theorem VK (l:List Fd) (r:Rf) (hl:l.length<=100000) (hc:∀f∈l,f.cases'.length<=1000000):Pp 55 [Zs l,ref r] (FN (YM l r)):=by
 have hm:l.length<=maxLen:=by rw[Zb];omega
 have hI:Pp 106 [Zs l,ref r] (.int .i64 (idx (atF r) l)):=S4 l r hm;unfold YM;rcases VW (atF r) l with h2|⟨k,hk,h2⟩;rw[h2]at hI ⊢;refine ZF func55 rfl ntmps55 results55 (ZcT _) ?_;simp only[go_sem,Zs,ref];refine vc2 hI ?_;simp only[go_sem,FN,ZeR];have i1:=Ja k
 have i2:(k:Int)<(l.length:Int):=by omega
 have i3:¬(k:Int)<0:=by omega
 have hO:=XQ (l.getD k Jd) (hc _ (Zh hk));rw[h2]at hI;rw[h2,if_neg i3];refine ZF func55 rfl ntmps55 results55 (ZcT _) ?_;simp only[go_sem,Zs,ref];refine vc2 hI ?_;simp only[go_sem,i1,i2,i3,ZO hk,fld];refine vc2 hO ?_;simp only[go_sem,FN,fld]
theorem V9 (l:List Fd) (hl:l.length<=maxLen) (hl':∀f∈l,f.cases'.length<=maxLen):Pp 177 [Zs l] (.bool (VA l)):=by
 by_cases h16:16<(l.length:Int);refine Zz func177 rfl ntmps177 results177 ?_;simp only[go_sem,Zs,h16,VA,Jg];have hx:VA l=(Jm l.length).all (G2 l):=by simp only[VA,h16,decide_false,Jo,Jv]
 rw[hx];refine Zz func177 rfl ntmps177 results177 ?_;simp only[go_sem,Zs,h16];refine Zr (ι:= { x:Nat // x<=(l).length/\(∀j,j<x->G2 l j=Ht) }) 33 (λx=> [(0,Zs l),(8,Zs l),(9,.int .i64 (l.length:Int)),(10,.int .i64 (x.1:Int))]) (λx=> []) (λx=> []) (λx=>(l).length-x.1) ⟨0,Jb _,λj hj=>absurd hj (Je j)⟩ ⟨rfl,(Fc4 rfl rfl rfl rfl),fnl,fnl⟩ (λx=>⟨(Fc4 rfl rfl rfl rfl),fnl⟩) (λx=> ?_);obtain⟨k,hk,hI⟩:=x;simp only at hk hI ⊢;by_cases h:(k:Int)<(l.length:Int)
 (have hka:k<(l).length:=by omega);(have w1:=We hka (hl));(have i1:=Ja k)
 have hR:=VJ (l.getD k Jd) (hl' _ (Zh hka));cases hr:Y5 (l.getD k Jd);rw[hr]at hR;have hz:=ZM (p:=G2 l) hka (by simp only[G2,hr,Jg]);simp only[go_sem,Zs,h,ZO hka,fld,i1];refine vc2 hR ?_;simp only[go_sem,hz];rw[hr]at hR;by_cases h0:0<(k:Int);have hk1:k-1<l.length:=by omega
 have w2:IntKind.i64.wrap ((k:Int)-1)=((k-1:Nat):Int):=by
  rw[Zb]at hl;rw[w64 (by omega)];omega
 have j1:(0:Int)<=((k-1:Nat):Int):=by omega
 have j2:((k-1:Nat):Int)<(l.length:Int):=by omega
 have hL:=Zcj (l.getD (k-1) Jd).at' (l.getD k Jd).at';cases hb:Zc6 (l.getD (k-1) Jd).at' (l.getD k Jd).at';rw[hb]at hL;have hz:=ZM (p:=G2 l) hka (by simp only[G2,hb,decide_eq_false (show ¬k=0 by omega),J7,Jn]);simp only[go_sem,Zs,h,ZO hka,fld,i1];refine vc2 hR ?_;simp only[go_sem];refine vDq ?_;simp only[go_sem,h0,w2,ZO hk1,ZO hka,fld,h,i1,j1,j2];refine vc1 hL ?_;simp only[go_sem,hz]
 ·rw[hb]at hL;have ok:G2 l k=true:=by simp only[G2,hr,hb,J8,Jr]
  simp only[go_sem,Zs,h,ZO hka,fld,i1];refine vc2 hR ?_;simp only[go_sem];refine vDq ?_;simp only[go_sem,h0,w2,ZO hk1,ZO hka,fld,h,i1,j1,j2];refine vc1 hL ?_;simp only[go_sem,w1];exact⟨⟨k+1,by(try simp only);omega,Zi hI ok⟩,by show(l).length-(k+1)<(l).length-k;omega,⟨rfl,(Fc4 rfl rfl rfl rfl),fnl,fnl⟩⟩
 ·have ok:G2 l k=true:=by simp only[G2,hr,decide_eq_true (show k=0 by omega),JX,Jr]
  simp only[go_sem,Zs,h,ZO hka,fld,i1];refine vc2 hR ?_;simp only[go_sem];refine vDq ?_;simp only[go_sem,h0,w1];exact⟨⟨k+1,by(try simp only);omega,Zi hI ok⟩,by show(l).length-(k+1)<(l).length-k;omega,⟨rfl,(Fc4 rfl rfl rfl rfl),fnl,fnl⟩⟩
 have hz:=Vb (p:=G2 l) (n:=l.length) (λj hj=>hI j (by omega));simp only[go_sem,Zs,h,hz]
theorem ZhA {α:Type} {l:List α} {k g:Nat} {d:α} (h:k<l.length):(l.take (k+1)).eraseIdx g=(l.take k).eraseIdx g++(if k=g then []else [l.getD k d]):=by
 have hlen:(l.take k).length=k:=by rw[Jk];omega
 rw[ZI h (d:=d)];rcases Nat.lt_or_ge g k with h1|h1;rw[List.eraseIdx_append_of_lt_length (by omega),if_neg (by omega)];have e2:(l.take k).eraseIdx g=l.take k:=JF (by omega);rw[List.eraseIdx_append_of_length_le (by omega),e2,hlen];by_cases e:k=g;subst e;simp;rw[if_neg e,JF (by simp;omega)]
def Ux (l:List Fd) (r:Rf):List Fd×Int:=if VA l=Hf then([],5)else if idx (atF r) l<0 then([],6)else(l.eraseIdx (idx (atF r) l).toNat,0)
theorem Zct (l:List Fd) (r:Rf) (hl:l.length<=100000) (hc:∀f∈l,f.cases'.length<=1000000):Pp 180 [Zs l,ref r] (YF (Ux l r)):=by
 have hm:l.length<=maxLen:=by rw[Zb];omega
 have hR:=V9 l hm (λf hf=>by have:=hc f hf;rw[Zb];omega);have hI:Pp 106 [Zs l,ref r] (.int .i64 (idx (atF r) l)):=S4 l r hm;unfold Ux;cases hr:VA l;rw[hr]at hR;refine ZF func180 rfl ntmps180 results180 (Z3 _) ?_;simp only[go_sem,Zs,ref];refine vc2 hR ?_;simp only[go_sem,YF,Zs];rw[hr]at hR;rcases VW (atF r) l with h2|⟨g,hg,h2⟩;rw[h2]at hI ⊢;refine ZF func180 rfl ntmps180 results180 (Z3 _) ?_;simp only[go_sem,Zs,ref];refine vc2 hR ?_;simp only[go_sem,Zs];refine vc2 hI ?_;simp only[go_sem,YF,Zs];have i3:¬(g:Int)<0:=by omega
 have w2:IntKind.i64.wrap ((l.length:Int)-1)=((l.length-1:Nat):Int):=by rw[w64 (by omega)];omega
 rw[h2]at hI;rw[h2,if_neg i3];simp only[JV,if_false,Int.toNat_natCast];refine ZF func180 rfl ntmps180 results180 (Z3 _) ?_;simp only[go_sem,Zs,ref];refine vc2 hR ?_;simp only[go_sem,Zs];refine vc2 hI ?_;simp only[go_sem,Zs,i3,w2];refine⟨by omega,?_⟩;refine Yj 7 21 36 0 7 30 [] rfl rfl rfl ?_;refine Zr (ι:= { x:Nat×(List Fd) // x.1<=(l).length/\(x.2=(l.take x.1).eraseIdx g) }) 39 (λx=> [(6,.int .i64 (g:Int)),(7,.sl (.row 36) (x.1.2.map fld)),(22,Zs l),(23,.int .i64 (l.length:Int)),(24,.int .i64 (x.1.1:Int))]) (λx=> []) (λx=> [(36,.live (x.1.2.length) (7) (30))]) (λx=>(l).length-x.1.1) ⟨(0,[]),Jb _,rfl⟩ ⟨rfl,(Fc5 rfl rfl rfl rfl rfl),fnl,(fcs rfl fnl)⟩ (λx=>⟨(Fc5 rfl (by simp[Jp,Zy]) rfl rfl rfl),fnl⟩) (λx=> ?_);obtain⟨⟨k,acc⟩,hk,hI⟩:=x;simp only at hk hI ⊢;have hacc:acc.length<=l.length:=by
  rw[hI];exact J6 (List.length_eraseIdx_le _ _) (Vh _ _)
 by_cases h:(k:Int)<(l.length:Int)
 (have hka:k<(l).length:=by omega);(have w1:=We hka (hm));(have i1:=Ja k)
 have hr:=Ym (show acc.length+1<=1000000 by omega) (show 96<=1000 by omega);have hO:=XQ (l.getD k Jd) (hc _ (Zh hka));have hs:=ZhA (l:=l) (k:=k) (g:=g) (d:=Jd) hka;by_cases he:k=g
 ·have he':((k:Int) !=(g:Int))=false:=by rw[he];exact bne_self_eq_false _
  rw[if_pos he,Jc]at hs;simp only[go_sem,Zs,h,ZO hka,fld,i1,he',w1];exact⟨⟨(k+1,acc),by(try simp only);omega,by simp only;rw[hs,hI]⟩,by show(l).length-(k+1)<(l).length-k;omega,⟨rfl,(Fc5 rfl (by simp[upd,fld]) rfl rfl rfl),fnl,(fcs (by simp[upd]) fnl)⟩⟩
 ·have he':((k:Int) !=(g:Int))=true:=bne_iff_ne.2 (by omega);rw[if_neg he]at hs;simp only[go_sem,Zs,h,ZO hka,fld,i1,he'];refine vc2 hO ?_;simp only[go_sem,fld,Vf,hr,w1];exact⟨⟨(k+1,acc++ [l.getD k Jd]),by(try simp only);omega,by simp only;rw[hs,hI]⟩,by show(l).length-(k+1)<(l).length-k;omega,⟨rfl,(Fc5 rfl (by simp[upd,fld]) rfl rfl rfl),fnl,(fcs (by simp[upd]) fnl)⟩⟩
 obtain rfl:k=l.length:=by omega
 rw[Jt]at hI;subst hI;simp only[go_sem,h,Zs,YF]
open Go.PL
def ZjQ (r:Rf):Fd->Bool:=λf=>Zc6 f.at' r
def Zgg (l:List Fd) (f:Fd):List Fd:=l.takeWhile (ZjQ f.at')++f::l.dropWhile (ZjQ f.at')
def ZfP (l:List Fd) (f:Fd):List Fd×Int:=if VA l=Hf\/Y5 f=Hf then([],5)else if 0<=idx (atF f.at') l then([],7)else if 16<=(l.length:Int)then([],14)else(Zgg l f,0)
structure WA (l:List Fd) (f:Fd) where
 k:Nat
 acc:List Fd
 hk:k<=l.length
 h:acc++Zgg (l.drop k) f=Zgg l f
structure WB (l:List Fd) (f:Fd) where
 k:Nat
 acc:List Fd
 hk:k<=l.length
 h:acc++l.drop k=Zgg l f
theorem VR {α:Type} {l:List α} {k:Nat} {d:α} (h:k<l.length):l.drop k=l.getD k d::l.drop (k+1):=by
 rw[Jh,Jl h];exact List.drop_eq_getElem_cons h
theorem Zsl {l:List Fd} {f x:Fd} (h:Zc6 x.at' f.at'=Ht):Zgg (x::l) f=x::Zgg l f:=by
 simp[Zgg,ZjQ,h]
theorem Zsk {l:List Fd} {f x:Fd} (h:Zc6 x.at' f.at'=Hf):Zgg (x::l) f=f::x::l:=by
 simp[Zgg,ZjQ,h]
theorem ZeY (l:List Fd) (f:Fd):(Zgg l f).length=l.length+1:=by
 unfold Zgg;have:=congrArg Kc (List.takeWhile_append_dropWhile (p:=ZjQ f.at') (l:=l));simp only[Ji,List.length_cons]at *;omega
def DJ (f:Fd):List PV:= [.int .i64 f.at'.sc,.str f.at'.gr,.str f.at'.nm,.int .i64 f.kind,.str f.df,.sl .no (f.cases'.map .str),.int .i64 f.worth]
theorem ZiK (l:List Fd) (f:Fd) (hl:l.length<=100000) (hc:∀f∈l,f.cases'.length<=1000000) (hf:f.cases'.length<=1000000):Pp 181 [Zs l,fld f] (YF (ZfP l f)):=by
 have hm:l.length<=maxLen:=by rw[Zb];omega
 have hR:=V9 l hm (λf hf=>by have:=hc f hf;rw[Zb];omega);have hF:=VJ f (by rw[Zb];omega);have hI:Pp 106 [Zs l,ref f.at'] (.int .i64 (idx (atF f.at') l)):=S4 l f.at' hm;have hOf:=XQ f hf;unfold ZfP;cases hr:VA l;rw[hr]at hR;simp only[true_or,if_true];refine ZF func181 rfl ntmps181 results181 (Z3 _) ?_;simp only[go_sem,Zs,fld];refine Uv ?_;simp only[go_sem];refine vc2 hR ?_;simp only[go_sem,YF,Zs];rw[hr]at hR;cases hrf:Y5 f;rw[hrf]at hF;simp only[or_true,if_true];refine ZF func181 rfl ntmps181 results181 (Z3 _) ?_;simp only[go_sem,Zs,fld];refine Uv ?_;simp only[go_sem];refine vc2 hR ?_;simp only[go_sem];refine vc2 hF ?_;simp only[go_sem,YF,Zs];rw[hrf]at hF;simp only[JV,or_self,if_false];by_cases h2:(0:Int)<=idx (atF f.at') l;rw[if_pos h2];refine ZF func181 rfl ntmps181 results181 (Z3 _) ?_;simp only[go_sem,Zs,fld];refine Uv ?_;simp only[go_sem];refine vc2 hR ?_;simp only[go_sem];refine vc2 hF ?_;simp only[go_sem];refine vc2 hI ?_;simp only[go_sem,h2,YF,Zs];rw[if_neg h2];by_cases h3:(16:Int)<=(l.length:Int);rw[if_pos h3];refine ZF func181 rfl ntmps181 results181 (Z3 _) ?_;simp only[go_sem,Zs,fld];refine Uv ?_;simp only[go_sem];refine vc2 hR ?_;simp only[go_sem];refine vc2 hF ?_;simp only[go_sem];refine vc2 hI ?_;simp only[go_sem,h2,h3,YF,Zs];rw[if_neg h3];have w0:IntKind.i64.wrap ((l.length:Int)+1)=((l.length+1:Nat):Int):=by rw[w64 (by omega)];rfl
 refine ZF func181 rfl ntmps181 results181 (Z3 _) ?_;simp only[go_sem,Zs,fld];refine ZoZ (ι0:=WA l f) (ι1:=WB l f) 72
  (λx=> [(0,Zs l),(3,.ptr 3 0),(6,.sl (.row 49) (x.acc.map fld)),(7,.int .i64 (x.k:Int))]) (λx=> [(3,DJ f,Hf)]) (λx=> [(49,.live x.acc.length 7 30)]) (λx=>l.length-x.k)
  (λx=> [(0,Zs l),(6,.sl (.row 68) (x.acc.map fld)),(7,.int .i64 (x.k:Int))]) (λx=> []) (λx=> [(68,.live x.acc.length 7 30)]) (λx=>l.length-x.k) (l.length+1) (λj=>by show l.length-j.k<l.length+1;omega)
  0 1 _ _ (by exact rfl) (by exact rfl)
  (λx=>⟨Fc4 rfl rfl (by simp[Jp,Zy]) rfl,(fcs rfl fnl)⟩)
  (λx=>⟨Fc3 rfl (by simp[Jp,Zy]) rfl,fnl⟩)
  (λx cut=> ?_) (λx=> ?_) (λcut=> ?_)
 obtain⟨k,acc,hk,hx⟩:=x;simp only at cut ⊢;have hacc:acc.length<=l.length+1:=by rw[<-ZeY l f,<-hx,Ji];omega
 have hrm:=Ym (show acc.length+1<=1000000 by omega) (show 96<=1000 by omega);by_cases h:(k:Int)<(l.length:Int);have hka:k<l.length:=by omega
 have w1:=We hka hm;have i1:=Ja k
 have hL:=Zcj (l.getD k Jd).at' f.at';have hO:=XQ (l.getD k Jd) (hc _ (Zh hka));rw[VR hka (d:=Jd)]at hx;cases hb:Zc6 (l.getD k Jd).at' f.at';rw[hb]at hL;rw[Zsk hb]at hx;simp only[go_sem,Zs,DJ];refine vDq ?_;simp only[go_sem,h,i1,ZO hka,fld];refine vc1 hL ?_;simp only[go_sem];refine vc2 hOf ?_;simp only[go_sem,fld,Vf,hrm];refine Yj 6 56 68 (acc.length+1) 7 30 ((acc++ [f]).map fld) (by simp[upd,fld]) rfl rfl ?_;refine Yr (cut ⟨k,acc++ [f],hk,by rw[VR hka (d:=Jd),<-hx];simp⟩ _ ⟨rfl,Fc3 rfl rfl rfl,fnl,fcs (by simp[upd,Hp.setq,St.with]) fnl⟩);rw[hb]at hL;rw[Zsl hb]at hx;simp only[go_sem,Zs,DJ];refine vDq ?_;simp only[go_sem,h,i1,ZO hka,fld];refine vc1 hL ?_;simp only[go_sem,h,i1,ZO hka,fld];refine vc2 hO ?_;simp only[go_sem,fld,Vf,hrm,w1];exact Or.inl ⟨rfl,⟨k+1,acc++ [l.getD k Jd],by omega,by rw[<-hx];simp⟩,nx9 (by omega),⟨rfl,Fc4 rfl rfl (by simp[upd,fld]) rfl,fcs ⟨rfl,rfl⟩ fnl,fcs (by simp[upd]) fnl⟩⟩;obtain rfl:k=l.length:=by omega
 simp only[go_sem,Zs,DJ];refine vDq ?_;simp only[go_sem,h];refine vc2 hOf ?_;simp only[go_sem,fld,Vf,hrm];refine Yj 6 56 68 (acc.length+1) 7 30 ((acc++ [f]).map fld) (by simp[upd,fld]) rfl rfl ?_;refine Yr (cut ⟨l.length,acc++ [f],hk,by rw[<-hx];simp[Zgg]⟩ _ ⟨rfl,Fc3 rfl rfl rfl,fnl,fcs (by simp[upd,Hp.setq,St.with]) fnl⟩);obtain⟨k,acc,hk,hx⟩:=x;simp only;have hacc:acc.length<=l.length+1:=by rw[<-ZeY l f,<-hx,Ji];omega
 have hrm:=Ym (show acc.length+1<=1000000 by omega) (show 96<=1000 by omega);by_cases h:(k:Int)<(l.length:Int);have hka:k<l.length:=by omega
 have w1:=We hka hm;have i1:=Ja k
 have hO:=XQ (l.getD k Jd) (hc _ (Zh hka));rw[VR hka (d:=Jd)]at hx;simp only[go_sem,Zs,h,i1,ZO hka,fld];refine vc2 hO ?_;simp only[go_sem,fld,Vf,hrm,w1];exact⟨⟨k+1,acc++ [l.getD k Jd],by omega,by rw[<-hx];simp⟩,nx9 (by omega),⟨rfl,Fc3 rfl (by simp[upd,fld]) rfl,fnl,fcs (by simp[upd]) fnl⟩⟩;obtain rfl:k=l.length:=by omega
 rw[List.drop_length,Jc]at hx;subst hx;simp only[go_sem,Zs,h,YF];simp only[go_sem];refine vc2 hR ?_;simp only[go_sem];refine vc2 hF ?_;simp only[go_sem];refine vc2 hI ?_;simp only[go_sem,h2,h3,w0];refine⟨by omega,?_⟩;refine Yj 6 27 49 0 7 30 [] rfl rfl rfl ?_;exact Yr (cut ⟨0,[],Jb _,rfl⟩ _ ⟨rfl,(Fc4 rfl rfl rfl rfl),fcs ⟨rfl,rfl⟩ fnl,fcs rfl fnl⟩)
open Go.PL
def Gq (l:List Pr) (s:Str):Bool:=l.any λq=>q.fr'==s
theorem ZcB (l:List Pr) (s:Str):(X3 l s).2=Gq l s:=by
 unfold X3 Gq;cases h:l.find? (λp=>p.fr'==s)with
 |none=>
  symm
  rw[JY];intro x hx;exact JT.1 h x hx
 |some p=>
  symm
  exact JP.2 ⟨p,List.mem_of_find?_eq_some h,List.find?_some (p:=λp:Pr=>p.fr'==s) h⟩
theorem Zjx (l:List Pr) (s:Str):(WZ l).any (· == s)=Gq l s:=by
 simp[WZ,Gq,List.any_map,Function.comp_def]
def WH (t o:List Pr) (i:Nat):Bool:=Z0 (t.getD i Jd).fr'&&(!(Gq (t.take i) (t.getD i Jd).fr')&&Gq o (t.getD i Jd).to')
def Xq (t o:List Pr):Bool:=decide (1<=t.length/\t.length<=6)&&(Jm t.length).all (WH t o)
theorem ZbY (l:List Pr) (k:Nat):List.take k (l.map pr)=(l.take k).map pr:=by rw[List.map_take]
theorem SP (l:List Pr):Sized 2 (l.map pr):=λe he=>by
 obtain⟨x,_,rfl⟩:=JD.1 he;rfl
theorem ZlM (l:List Pr):YZ (l.map pr):=λe he=>by
 obtain⟨x,_,rfl⟩:=JD.1 he;rfl
theorem ZhJ {l:List Pr} {s:Str} {k:Nat} (hk:k<l.length) (h:((l.getD k Jd).fr'==s)=Ht):Gq l s=true:=Ub (p:=λq:Pr=>q.fr'==s) hk h
theorem ZeU {l:List Pr} {s:Str} (h:∀j,j<l.length->((l.getD j Jd).fr'==s)=Hf):Gq l s=false:=VM (p:=λq:Pr=>q.fr'==s) (d:=Jd) h
theorem U5 (t o:List Pr) (ho:o.length<=maxLen):Pp 220 [prs t,prs o] (.bool (Xq t o)):=by
 by_cases h1:(t.length:Int)<1;have hx:Xq t o=false:=by simp only[Xq,show ¬(1<=t.length/\t.length<=6)by omega,decide_false,Jg]
 refine Zz func220 rfl ntmps220 results220 ?_;simp only[go_sem,prs,h1,hx];by_cases h2:(6:Int)<(t.length:Int);have hx:Xq t o=false:=by simp only[Xq,show ¬(1<=t.length/\t.length<=6)by omega,decide_false,Jg]
 refine Zz func220 rfl ntmps220 results220 ?_;simp only[go_sem,prs,h1,h2,hx];have hm:t.length<=maxLen:=by rw[Zb];omega
 have hx:Xq t o=(Jm t.length).all (WH t o):=by simp only[Xq,show(1<=t.length/\t.length<=6)by omega,and_self,decide_true,Jv]
 rw[hx];refine Zz func220 rfl ntmps220 results220 ?_;simp only[go_sem,prs,h1,h2];refine Zr (ι:= { x:Nat // x<=(t).length/\(∀j,j<x->WH t o j=Ht) }) 54 (λx=> [(0,prs t),(1,prs o),(19,prs t),(20,.int .i64 (t.length:Int)),(21,.int .i64 (x.1:Int))]) (λx=> []) (λx=> []) (λx=>(t).length-x.1) ⟨0,Jb _,λj hj=>absurd hj (Je j)⟩ ⟨rfl,(Fc5 rfl rfl rfl rfl rfl),fnl,fnl⟩ (λx=>⟨(Fc5 rfl rfl rfl rfl rfl),fnl⟩) (λx=> ?_);obtain⟨k,hk,hI⟩:=x;simp only at hk hI ⊢;by_cases h:(k:Int)<(t.length:Int)
 (have hka:k<(t).length:=by omega);(have w1:=We hka (hm));(have i1:=Ja k)
 have i2:(k:Int)<=(t.length:Int):=by omega
 have hN:=YL (t.getD k Jd).fr';cases hn:Z0 (t.getD k Jd).fr';rw[hn]at hN;have hz:=ZM (p:=WH t o) hka (by simp only[WH,hn,Jg]);simp only[go_sem,prs,h,i1,ZW hka,pr];refine vc1 hN ?_;simp only[go_sem,hz];rw[hn]at hN;have hT:(t.take k).length<=maxLen:=by rw[Jk];omega
 simp only[go_sem,prs,h,i1,ZW hka,pr];refine vc1 hN ?_;simp only[go_sem,i1,i2,SP,cut,Jy,ZbY];refine Zr (ι:= { x:Nat // x<=(t.take k).length/\(∀j,j<x->(((t.take k).getD j Jd).fr'==(t.getD k Jd).fr')=Hf) }) 54 (λx=> [(0,prs t),(1,prs o),(6,.ptr 6 0),(19,prs t),(20,.int .i64 (t.length:Int)),(21,.int .i64 (k:Int)),(32,.sl .no ((t.take k).map pr)),(33,.int .i64 ((t.take k).length:Int)),(34,.int .i64 (x.1:Int))]) (λx=> [(6,[.str (t.getD k Jd).fr',.str (t.getD k Jd).to'],Hf)]) (λx=> []) (λx=>(t.take k).length-x.1) ⟨0,Jb _,λj hj=>absurd hj (Je j)⟩ ⟨rfl,(Fc9 rfl rfl rfl rfl rfl rfl rfl rfl rfl),(fcs ⟨rfl,rfl⟩ fnl),fnl⟩ (λx=>⟨(Fc9 rfl rfl rfl rfl rfl rfl rfl rfl rfl),(fcs rfl fnl)⟩) (λx=> ?_);obtain⟨kb,hkb,hIb⟩:=x;simp only at hkb hIb ⊢;by_cases hb:(kb:Int)<((t.take k).length:Int)
 (have hkab:kb<(t.take k).length:=by omega);(have w1b:=We hkab (hT));(have i1b:=Ja kb)
 cases he:(((t.take k).getD kb Jd).fr'==(t.getD k Jd).fr')
 ·simp only[go_sem,prs,hb,ZW hkab,pr,i1b,he,w1b];exact⟨⟨kb+1,by(try simp only);omega,Zi hIb he⟩,by show(t.take k).length-(kb+1)<(t.take k).length-kb;omega,⟨rfl,(Fc9 rfl rfl rfl rfl rfl rfl rfl rfl rfl),(fcs ⟨rfl,rfl⟩ fnl),fnl⟩⟩
 have hz:=ZM (p:=WH t o) hka (by simp only[WH,ZhJ hkab he,JL,Jg,Jn]);simp only[go_sem,prs,hb,ZW hkab,pr,i1b,he,hz];have hf:=ZeU (l:=t.take k) (s:=(t.getD k Jd).fr') (λj hj=>hIb j (by omega));have hC:=T8 o (t.getD k Jd).to' ho;have hs:=ZcB o (t.getD k Jd).to';cases hh:Gq o (t.getD k Jd).to';have hz:=ZM (p:=WH t o) hka (by simp only[WH,hh,Jn]);rw[hh]at hs;simp only[go_sem,prs,hb];refine vc3 hC ?_;simp only[go_sem,Zba,hs,hz]
 ·have ok:WH t o k=true:=by simp only[WH,hn,hf,hh,Jo,Jr]
  rw[hh]at hs;simp only[go_sem,prs,hb];refine vc3 hC ?_;simp only[go_sem,Zba,hs,w1];exact⟨⟨k+1,by(try simp only);omega,Zi hI ok⟩,by show(t).length-(k+1)<(t).length-k;omega,⟨rfl,(Fc5 rfl rfl rfl rfl rfl),fnl,fnl⟩⟩
 have hz:=Vb (p:=WH t o) (n:=t.length) (λj hj=>hI j (by omega));simp only[go_sem,prs,h,hz]
theorem Dv (t o:List Pr) (ho:o.length<=1000000):Pp 169 [prs t,prs o] (.bool (Xq t o)):=by
 by_cases h1:(t.length:Int)=0;have hx:Xq t o=false:=by simp only[Xq,show ¬(1<=t.length/\t.length<=6)by omega,decide_false,Jg]
 have h1':((t.length:Int)==0)=true:=by rw[h1];rfl
 refine Zz func169 rfl ntmps169 results169 ?_;simp only[go_sem,prs,h1',hx];have h1':((t.length:Int)==0)=false:=beq_eq_false_iff_ne.2 h1;by_cases h2:(6:Int)<(t.length:Int);have hx:Xq t o=false:=by simp only[Xq,show ¬(1<=t.length/\t.length<=6)by omega,decide_false,Jg]
 refine Zz func169 rfl ntmps169 results169 ?_;simp only[go_sem,prs,h1',h2,hx];have hm:t.length<=maxLen:=by rw[Zb];omega
 have hx:Xq t o=(Jm t.length).all (WH t o):=by simp only[Xq,show(1<=t.length/\t.length<=6)by omega,and_self,decide_true,Jv]
 rw[hx];refine Zz func169 rfl ntmps169 results169 ?_;simp only[go_sem,prs,h1',h2];refine Zr (ι:= { x:Nat // x<=(t).length/\(∀j,j<x->WH t o j=Ht) }) 50 (λx=> [(0,prs t),(1,prs o),(5,.int .i64 (x.1:Int))]) (λx=> []) (λx=> []) (λx=>(t).length-x.1) ⟨0,Jb _,λj hj=>absurd hj (Je j)⟩ ⟨rfl,(Fc3 rfl rfl rfl),fnl,fnl⟩ (λx=>⟨(Fc3 rfl rfl rfl),fnl⟩) (λx=> ?_);obtain⟨k,hk,hI⟩:=x;simp only at hk hI ⊢;by_cases h:(k:Int)<(t.length:Int)
 (have hka:k<(t).length:=by omega);(have w1:=We hka (hm));(have i1:=Ja k)
 have i2:(k:Int)<=(t.length:Int):=by omega
 have hN:=XD (t.getD k Jd).fr';have hT:(t.take k).length<=1000000:=by rw[Jk];omega
 have hF1:=Dt (t.take k) hT;have hF2:=Dt o ho;have hH1:=Sc (WZ (t.take k)) (t.getD k Jd).fr' (by rw[WZ,Jq,Zb];omega);have hH2:=Sc (WZ o) (t.getD k Jd).to' (by rw[WZ,Jq,Zb];omega);rw[Zjx]at hH1 hH2;cases hn:Z0 (t.getD k Jd).fr';rw[hn]at hN;have hz:=ZM (p:=WH t o) hka (by simp only[WH,hn,Jg]);simp only[go_sem,prs,h,i1];refine vDq ?_;simp only[go_sem,prs,h,i1,ZW hka,pr];refine vc1 hN ?_;simp only[go_sem,hz];rw[hn]at hN;cases hf:Gq (t.take k) (t.getD k Jd).fr';rw[hf]at hH1;cases hh:Gq o (t.getD k Jd).to';rw[hh]at hH2;have hz:=ZM (p:=WH t o) hka (by simp only[WH,hh,Jn]);simp only[go_sem,prs,h,i1];refine vDq ?_;simp only[go_sem,prs,h,i1,ZW hka,pr];refine vc1 hN ?_;simp only[go_sem,prs,h,i1,i2,SP,cut,Jy,ZbY];refine vc3 hF1 ?_;simp only[go_sem,prs,h,i1,i2,ZW hka,pr];refine vc1 hH1 ?_;simp only[go_sem,prs];refine vc3 hF2 ?_;simp only[go_sem,prs,h,i1,i2,ZW hka,pr];refine vc1 hH2 ?_;simp only[go_sem,hz]
 ·rw[hh]at hH2;have ok:WH t o k=true:=by simp only[WH,hn,hf,hh,Jo,Jr]
  simp only[go_sem,prs,h,i1];refine vDq ?_;simp only[go_sem,prs,h,i1,ZW hka,pr];refine vc1 hN ?_;simp only[go_sem,prs,h,i1,i2,SP,cut,Jy,ZbY];refine vc3 hF1 ?_;simp only[go_sem,prs,h,i1,i2,ZW hka,pr];refine vc1 hH1 ?_;simp only[go_sem,prs];refine vc3 hF2 ?_;simp only[go_sem,prs,h,i1,i2,ZW hka,pr];refine vc1 hH2 ?_;simp only[go_sem,w1];exact⟨⟨k+1,by(try simp only);omega,Zi hI ok⟩,by show(t).length-(k+1)<(t).length-k;omega,⟨rfl,(Fc3 rfl rfl rfl),fnl,fnl⟩⟩
 rw[hf]at hH1;have hz:=ZM (p:=WH t o) hka (by simp only[WH,hf,JL,Jg,Jn]);simp only[go_sem,prs,h,i1];refine vDq ?_;simp only[go_sem,prs,h,i1,ZW hka,pr];refine vc1 hN ?_;simp only[go_sem,prs,h,i1,i2,SP,cut,Jy,ZbY];refine vc3 hF1 ?_;simp only[go_sem,prs,h,i1,i2,ZW hka,pr];refine vc1 hH1 ?_;simp only[go_sem,hz];have hz:=Vb (p:=WH t o) (n:=t.length) (λj hj=>hI j (by omega));simp only[go_sem,prs,h,hz]
theorem De (x:Ln):(lns x).dids= []:=by
 have:∀l:List Pr,Jj (l.map pr)= []:=λl=>by
  induction l with
  |nil=>rfl
  |cons t l ih=>simp only[JA,Jj,ih,pr,Js,Jc]
 simp only[lns,Js,Jj,XS,this,Jc]
structure OkLn (x:Ln):Prop where
 c:x.fd.cases'.length<=1000000
 f:x.fo.length<=1000000
 b:x.ba.length<=1000000
theorem Dr (x:Ln) (hx:OkLn x):Pp 130 [lns x] (lns x):=by
 have hF:=XQ x.fd hx.c;have r1:=Ym hx.f (show 32<=1000 by omega);have r2:=Ym hx.b (show 32<=1000 by omega);refine ZF func130 rfl ntmps130 results130 (De _) ?_;simp only[go_sem,lns];refine vc2 hF ?_;simp only[go_sem,fld,lns,SP,ZlM,r1,r2]
theorem Zaa (a b:Ln) (ha:OkLn a) (hb:OkLn b):Pp 129 [lns a,lns b] (.bool (decide (a=b))):=by
 have hF:=SZ a.fd b.fd (by have:=ha.c;rw[Zb];omega) (by have:=hb.c;rw[Zb];omega);have h1:=Zcf a.fo b.fo (by have:=ha.f;rw[Zb];omega) (by have:=hb.f;rw[Zb];omega);have h2:=Zcf a.ba b.ba (by have:=ha.b;rw[Zb];omega) (by have:=hb.b;rw[Zb];omega);clear ha hb;refine Zz func129 rfl ntmps129 results129 ?_;simp only[go_sem,lns,Zo];repeat' ((first|(first|apply Zl|apply Zj|apply Zp)<;>intro h|refine vc3 hF ?_|refine vc3 h1 ?_|refine vc3 h2 ?_|refine vDq ?_)<;>first|simp only[go_sem,h,Zo]|simp only[go_sem,Zo]|skip)
 all_goals (clear hF h1 h2;(cases a;cases b;simp_all)<;>rfl)
theorem Zek (a b:Ln) (ha:OkLn a) (hb:OkLn b):Pp 127 [lns a,lns b] (.bool (decide (a=b))):=by
 have hF:=Ds a.fd b.fd (by have:=ha.c;rw[Zb];omega) (by have:=hb.c;rw[Zb];omega);have h1:=Zaf a.fo b.fo (by have:=ha.f;rw[Zb];omega) (by have:=hb.f;rw[Zb];omega);have h2:=Zaf a.ba b.ba (by have:=ha.b;rw[Zb];omega) (by have:=hb.b;rw[Zb];omega);clear ha hb;refine Zz func127 rfl ntmps127 results127 ?_;simp only[go_sem,lns,Zo];repeat' ((first|(first|apply Zl|apply Zj|apply Zp)<;>intro h|refine vc3 hF ?_|refine vc3 h1 ?_|refine vc3 h2 ?_|refine vDq ?_)<;>first|simp only[go_sem,h,Zo]|simp only[go_sem,Zo]|skip)
 all_goals (clear hF h1 h2;(cases a;cases b;simp_all)<;>rfl)
open Go.PL
def Wp (x:Ln):Ln×Bool:=
 if x.kind=1\/x.kind=5 then(⟨x.kind,x.at',x.nm,[],0,Jd,[],[]⟩,Ht)
 else if x.kind=2\/x.kind=3 then(⟨x.kind,Jd,[],[],0,x.fd,[],[]⟩,Ht)
 else if x.kind=4 then(⟨x.kind,x.at',[],[],0,Jd,[],[]⟩,Ht)
 else if x.kind=6\/x.kind=9 then(⟨x.kind,x.at',x.nm,x.ot,x.fac,Jd,[],[]⟩,Ht)
 else if x.kind=7\/x.kind=10 then(⟨x.kind,x.at',[],x.ot,0,Jd,[],[]⟩,Ht)
 else if x.kind=8 then(⟨x.kind,x.at',x.nm,x.ot,0,Jd,x.fo,x.ba⟩,Ht)
 else(Jd,Hf)
def lnb (x:Ln×Bool):PV:= .tup [lns x.1,.bool x.2]
theorem Zmt (x:Ln×Bool):(lnb x).dids= []:=by simp only[lnb,Js,Jj,De,Jc]
theorem DY:lns Jd= .agg [.int .i64 0,.int .i64 0,.str [],.str [],.str [],.str [],.int .i64 0,.int .i64 0,.str [],.str [],.int .i64 0,.str [],.sl .no [],.int .i64 0,.sl .no [],.sl .no []]:=rfl
theorem ZhS (x:Ln):Pp 172 [lns x] (lnb (Wp x)):=by
 refine ZF func172 rfl ntmps172 results172 (Zmt _) ?_;simp only[go_sem,lns];repeat' ((first|(first|apply Zl|apply Zj|apply Zp)<;>intro h|refine ZdZ [(1,4)] (by kernel_rfl) (by kernel_rfl) (by exact rfl) ?_|refine vDq ?_)<;>first|simp only[go_sem,h]|simp only[go_sem]|skip)
 all_goals (simp only[beq_iff_eq,beq_eq_false_iff_ne,ne_eq]at *;simp[Wp,lnb,lns, *];try decide)
theorem Zoi {x:Ln} (hx:OkLn x):OkLn (Wp x).1:=by
 unfold Wp;repeat' split
 all_goals exact⟨by first|exact hx.c|exact Jb _,by first|exact hx.f|exact Jb _,by first|exact hx.b|exact Jb _⟩
def rtM (x:Ln):Bool:=Z0 x.nm&&(Xq x.fo x.ba&&(Xq x.ba x.fo&&(((X3 x.fo x.nm).2&&((X3 x.fo x.nm).1==x.ot))&&((X3 x.ba x.ot).2&&((X3 x.ba x.ot).1==x.nm)))))
theorem G4 (x:Ln) (hx:OkLn x):Pp 174 [lns x] (.bool (rtM x)):=by
 have mf:x.fo.length<=maxLen:=by have:=hx.f;rw[Zb];omega
 have mb:x.ba.length<=maxLen:=by have:=hx.b;rw[Zb];omega
 have hN:=YL x.nm;have h1:=U5 x.fo x.ba mb;have h2:=U5 x.ba x.fo mf;have h3:=T8 x.fo x.nm mf;have h4:=T8 x.ba x.ot mb;unfold rtM;generalize X3 x.fo x.nm=c at *;generalize X3 x.ba x.ot=d at *;obtain⟨c1,c2⟩:=c;obtain⟨d1,d2⟩:=d;refine Zz func174 rfl ntmps174 results174 ?_;simp only[go_sem,lns];repeat' ((first|(first|apply Zl|apply Zj|apply Zp)<;>intro h|refine vc3 hN ?_|refine vc3 h1 ?_|refine vc3 h2 ?_|refine vc3 h3 ?_|refine vc3 h4 ?_|refine vDq ?_)<;>first|simp only[go_sem,h,Zba]|simp only[go_sem,Zba]|skip)
 all_goals (clear hN h1 h2 h3 h4 mf mb hx;simp_all)
theorem Dp (n:Int):Pp 173 [.int .i64 n] (.bool (decide (2<=n)&&decide (n<=1000))):=by
 refine Zz func173 rfl ntmps173 results173 ?_;simp only[go_sem];repeat' ((first|(first|apply Zl|apply Zj|apply Zp)<;>intro h|refine vDq ?_)<;>first|simp only[go_sem,h]|simp only[go_sem]|skip)
 all_goals simp_all
def Xw (x:Ln):Bool:=
 if(Wp x).2=Hf\/ ¬x=(Wp x).1 then Hf
 else if x.kind=2\/x.kind=3 then Y5 x.fd
 else if XI x.at'=Hf then Hf
 else if x.kind=1 then Z0 x.nm
 else if x.kind=4 then !(x.at'.gr== [])
 else if x.kind=5 then(x.at'.gr== [])&&Z0 x.nm
 else if x.kind=6\/x.kind=9 then Z0 x.nm&&(Z0 x.ot&&(!(x.nm==x.ot)&&(decide (2<=x.fac)&&decide (x.fac<=1000))))
 else if x.kind=7\/x.kind=10 then decide ((x.ot.length:Int)<=40)
 else rtM x
theorem Zci (x:Ln) (hx:OkLn x):Pp 128 [lns x] (.bool (Xw x)):=by
 have hP:=ZhS x;have hS:=Zaa x (Wp x).1 hx (Zoi hx);have hF:=VJ x.fd (by have:=hx.c;rw[Zb];omega);have hA:=S6 x.at';have hN:=YL x.nm;have hO:=YL x.ot;have hT:=Sd x.ot;have hK:=Dp x.fac;have hR:=G4 x hx;unfold Xw;generalize Wp x=y at *;obtain⟨y,b⟩:=y;refine Zz func128 rfl ntmps128 results128 ?_;simp only[go_sem,lns];repeat' ((first|(first|apply Zl|apply Zj|apply Zp)<;>intro h|refine vc3 hP ?_|refine vc3 hS ?_|refine vc3 hF ?_|refine vc3 hA ?_|refine vc3 hN ?_|refine vc3 hO ?_|refine vc3 hT ?_|refine vc3 hK ?_|refine vc3 hR ?_|refine vDq ?_)<;>first|simp only[go_sem,h,lnb,lns]|simp only[go_sem,lnb,lns]|skip)
 all_goals (clear hP hS hF hA hN hO hT hK hR hx;simp_all)
open Go.PL
def GE (x:Ln):Bool:=decide (0<(x.fo.length:Int))||decide (0<(x.ba.length:Int))
def ZK (x:Ln):Bool:=
 if x.kind=2\/x.kind=3 then decide (x.at'=Jd)&&(decide (x.nm= [])&&(decide (x.ot= [])&&(decide (x.fac=0)&&(!GE x&&Y5 x.fd))))
 else(XI x.at'&&decide (x.fd=Jd))&&(if x.kind=8 then decide (x.fac=0)&&(Xq x.fo x.ba&&(Xq x.ba x.fo&&((X3 x.fo x.nm).2&&((X3 x.ba x.ot).2&&(((X3 x.fo x.nm).1==x.ot)&&((X3 x.ba x.ot).1==x.nm))))))
  else !GE x&&(if x.kind=6\/x.kind=9 then Z0 x.nm&&(Z0 x.ot&&(!(x.nm==x.ot)&&(decide (1<x.fac)&&decide (x.fac<1001))))
   else decide (x.fac=0)&&(if x.kind=7\/x.kind=10 then decide (x.nm= [])&&decide ((x.ot.length:Int)<41)
    else decide (x.ot= [])&&(if x.kind=1 then Z0 x.nm else if x.kind=4 then decide (x.nm= [])&& !(x.at'.gr== [])else decide (x.kind=5)&&(decide (x.at'.gr= [])&&Z0 x.nm)))))
theorem ZmW {t o:List Pr} {s:Str} (h:Xq t o=Ht) (hs:Gq t s=Ht):Z0 s=true:=by
 simp only[Gq,JP,beq_iff_eq]at hs;obtain⟨p,hp,rfl⟩:=hs;obtain⟨i,hi,rfl⟩:=JC hp;simp only[Xq,JO,JN,J4]at h;have:=h.2 i hi;simp only[WH,JO]at this;have h1:=this.1;rw[Jh,Jl hi]at h1;exact h1
theorem Us {x:Ln}:GE x=Hf↔x.fo= []/\x.ba= []:=by
 simp only[GE,JR,decide_eq_false_iff_not];constructor;rintro ⟨a,b⟩;exact⟨JB (by omega),JB (by omega)⟩;rintro ⟨a,b⟩;rw[a,b];exact⟨by decide,by decide⟩
theorem ZmM (x:Ln):Xw x=ZK x:=by
 obtain⟨kind,at',nm,ot,fac,fd,fo,ba⟩:=x;have ht:=Us (x:=⟨kind,at',nm,ot,fac,fd,fo,ba⟩);simp only at ht;have d1:(Jd:Ln)=⟨0,Jd,[],[],0,Jd,[],[]⟩:=rfl;by_cases k1:kind=1;subst k1;rw[Jf];simp[Xw,ZK,Wp,ht];constructor;rintro ⟨⟨a,b,c,d,e⟩,f,g⟩;exact⟨⟨f,c⟩,⟨d,e⟩,b,a,g⟩;rintro ⟨⟨f,c⟩,⟨d,e⟩,b,a,g⟩;exact⟨⟨a,b,c,d,e⟩,f,g⟩;by_cases k2:kind=2;subst k2;rw[Jf];simp[Xw,ZK,Wp,ht,and_assoc];by_cases k3:kind=3;subst k3;rw[Jf];simp[Xw,ZK,Wp,ht,and_assoc];by_cases k4:kind=4;subst k4;rw[Jf];simp[Xw,ZK,Wp,ht];constructor;rintro ⟨⟨n,a,b,c,d,e⟩,f,g⟩;exact⟨⟨f,c⟩,⟨d,e⟩,b,a,n,g⟩;rintro ⟨⟨f,c⟩,⟨d,e⟩,b,a,n,g⟩;exact⟨⟨n,a,b,c,d,e⟩,f,g⟩;by_cases k5:kind=5;subst k5;rw[Jf];simp[Xw,ZK,Wp,ht];constructor;rintro ⟨⟨a,b,c,d,e⟩,f,g⟩;exact⟨⟨f,c⟩,⟨d,e⟩,b,a,g⟩;rintro ⟨⟨f,c⟩,⟨d,e⟩,b,a,g⟩;exact⟨⟨a,b,c,d,e⟩,f,g⟩;by_cases k69:kind=6\/kind=9;have e1:¬(kind=2\/kind=3):=by omega
 have e3:¬(kind=1\/kind=5):=by omega
 have e8:¬kind=8:=by omega
 rw[Jf];simp[Xw,ZK,Wp,ht,e1,e3,k69,k1,k4,k5,e8];constructor;rintro ⟨⟨a,b,c⟩,f,g,h,i,j,k⟩;exact⟨⟨f,a⟩,⟨b,c⟩,g,h,i,by omega,by omega⟩;rintro ⟨⟨f,a⟩,⟨b,c⟩,g,h,i,j,k⟩;exact⟨⟨a,b,c⟩,f,g,h,i,by omega,by omega⟩;by_cases k7:kind=7\/kind=10;have e1:¬(kind=2\/kind=3):=by omega
 have e3:¬(kind=1\/kind=5):=by omega
 have e8:¬kind=8:=by omega
 rw[Jf];simp[Xw,ZK,Wp,ht,e1,e3,k69,k7,k1,k4,k5,e8];constructor;rintro ⟨⟨n,b,c,d,e⟩,f,g⟩;exact⟨⟨f,c⟩,⟨d,e⟩,b,n,by omega⟩;rintro ⟨⟨f,c⟩,⟨d,e⟩,b,n,g⟩;exact⟨⟨n,b,c,d,e⟩,f,by omega⟩;by_cases k8:kind=8;subst k8;rw[Jf];have hn:Xq fo ba=Ht->(X3 fo nm).2=Ht->Z0 nm=true:=λh h'=>ZmW h (by rw[<-ZcB];exact h')
 simp[Xw,ZK,Wp,ht,rtM];constructor;rintro ⟨⟨a,b⟩,f,g,h,i,⟨j,k⟩,l,m⟩;exact⟨⟨f,b⟩,a,h,i,j,l,k,m⟩;rintro ⟨⟨f,b⟩,a,h,i,j,l,k,m⟩;exact⟨⟨a,b⟩,f,hn h j,h,i,⟨j,k⟩,l,m⟩;have e1:¬(kind=2\/kind=3):=by omega
 have e3:¬(kind=1\/kind=5):=by omega
 simp[Xw,ZK,Wp,e1,e3,k69,k7,k1,k4,k5,k8]
theorem X6 (x:Ln) (hx:OkLn x):Pp 128 [lns x] (.bool (ZK x)):=by
 rw[<-ZmM];exact Zci x hx
theorem Zcr (x:Ln):Pp 166 [lns x] (.bool (GE x)):=by
 refine Zz func166 rfl ntmps166 results166 ?_;simp only[go_sem,lns];repeat' ((first|(first|apply Zl|apply Zj|apply Zp)<;>intro h|refine vDq ?_)<;>first|simp only[go_sem,h]|simp only[go_sem]|skip)
 all_goals simp_all[GE]
theorem Zhf (x:Ln) (hx:OkLn x):Pp 167 [lns x] (.bool (decide (x.fd=Jd))):=by
 have h:=Ds x.fd Jd (by have:=hx.c;rw[Zb];omega) (Jb _);refine Zz func167 rfl ntmps167 results167 ?_;simp only[go_sem,lns];refine Z6 h ?_ ?_ ?_;simp only[go_sem];rfl;simp only[go_sem]
theorem Zcn (x:Ln) (hx:OkLn x):Pp 126 [lns x] (.bool (ZK x)):=by
 have mf:x.fo.length<=maxLen:=by have:=hx.f;rw[Zb];omega
 have mb:x.ba.length<=maxLen:=by have:=hx.b;rw[Zb];omega
 have hF:=Zen x.fd (by have:=hx.c;rw[Zb];omega);have hT:=Zcr x;have hA:=TQ x.at';have hO:=Zhf x hx;have h1:=Zae x.fo x.nm mf;have h2:=Zae x.ba x.ot mb;have h3:=Dv x.fo x.ba hx.b;have h4:=Dv x.ba x.fo hx.f;have h5:=XD x.nm;have h6:=XD x.ot;unfold ZK;generalize X3 x.fo x.nm=c at *;generalize X3 x.ba x.ot=d at *;obtain⟨c1,c2⟩:=c;obtain⟨d1,d2⟩:=d;have rd:∀a:Rf,(a.sc==0&&(a.gr== []&&a.nm== []))=decide (a=Jd):=λa=>Zo a Jd
 refine Zz func126 rfl ntmps126 results126 ?_;simp only[go_sem,lns,rd];repeat' ((first|(first|apply Zl|apply Zj|apply Zp)<;>intro h|refine vc3 hF ?_|refine vc3 hT ?_|refine vc3 hA ?_|refine vc3 hO ?_|refine vc3 h1 ?_|refine vc3 h2 ?_|refine vc3 h3 ?_|refine vc3 h4 ?_|refine vc3 h5 ?_|refine vc3 h6 ?_|refine vDq ?_)<;>first|simp only[go_sem,h,Zba,rd]|simp only[go_sem,Zba,rd]|skip)
 all_goals (clear hF hT hA hO h1 h2 h3 h4 h5 h6 hx mf mb rd;simp_all)
open Go.PL
theorem Zgy (r:Rf):(ref r).dids= []:=by simp only[ref,Js,Jj,Jc]
theorem Zjh (l:List Rf):Jj (l.map ref)= []:=by
 induction l with
 |nil=>rfl
 |cons t l ih=>simp only[JA,Jj,ih,Zgy,Jc]
theorem Zdx (l:List Rf):(refs l).dids= []:=by simp only[refs,Js,Zjh]
def YS (r:Rf) (s:Str):Rf:=⟨r.sc,r.gr,s⟩
theorem Uc (r:Rf) (s:Str):Pp 227 [ref r,.str s] (ref (YS r s)):=by
 refine ZF func227 rfl ntmps227 results227 (Zgy _) ?_;simp only[go_sem,ref,YS]
def XN (x:Ln):List Rf:=if x.kind=2 then []else if x.kind=3 then [x.fd.at']else if x.kind=9 then [YS x.at' x.nm,YS x.at' x.ot]else [x.at']
def Zn (x:Ln):List Rf:=
 if x.kind=1 then [YS x.at' x.nm]else if x.kind=2 then [x.fd.at']else if x.kind=3 then []else if x.kind=4 then [⟨x.at'.sc,[],x.at'.nm⟩]
 else if x.kind=5 then [⟨x.at'.sc,x.nm,x.at'.nm⟩]else if x.kind=6 then [YS x.at' x.nm,YS x.at' x.ot]else [x.at']
def ZcZ (x:Ln):List Rf:=if ZK x=Ht then XN x else []
def Zao (x:Ln):List Rf:=if ZK x=Ht then Zn x else []
theorem Dq (x:Ln) (hx:OkLn x):Pp 179 [lns x] (refs (ZcZ x)):=by
 have hR:=X6 x hx;have h1:=Uc x.at' x.nm;have h2:=Uc x.at' x.ot;unfold ZcZ;refine ZF func179 rfl ntmps179 results179 (Zdx _) ?_;simp only[go_sem,lns];repeat' ((first|(first|apply Zl|apply Zj|apply Zp)<;>intro h|refine vc3 hR ?_|refine vc3 h1 ?_|refine vc3 h2 ?_|refine vDq ?_)<;>first|simp only[go_sem,h,ref]|simp only[go_sem,ref]|skip)
 all_goals (clear hR h1 h2 hx;simp_all[XN,refs,YS,ref])
theorem F7 (x:Ln) (hx:OkLn x):Pp 225 [lns x] (refs (Zao x)):=by
 have hR:=X6 x hx;have h1:=Uc x.at' x.nm;have h2:=Uc x.at' x.ot;unfold Zao;refine ZF func225 rfl ntmps225 results225 (Zdx _) ?_;simp only[go_sem,lns];repeat' ((first|(first|apply Zl|apply Zj|apply Zp)<;>intro h|refine vc3 hR ?_|refine vc3 h1 ?_|refine vc3 h2 ?_|refine vDq ?_)<;>first|simp only[go_sem,h,ref]|simp only[go_sem,ref]|skip)
 all_goals (clear hR h1 h2 hx;simp_all[Zn,refs,YS,ref])
structure OkFs (l:List Fd):Prop where
 n:l.length<=1000
 c:∀f∈l,f.cases'.length<=1000000
theorem ZeT {α:Type} {l:List α} {k:Nat} {d:α}:l.getD k d∈l\/l.getD k d=d:=by
 by_cases h:k<l.length;exact .inl (Zh h);right;rw[Jh,List.getElem?_eq_none (by omega)];rfl
theorem Zgq {l:List Fd} (h:OkFs l) (r:Rf):(YM l r).1.cases'.length<=1000000:=by
 unfold YM;split;exact Jb _;rcases ZeT (l:=l) (k:=(idx (atF r) l).toNat) (d:=Jd)with h'|h';exact h.c _ h';rw[h'];exact Jb _
def D1 (l:List Fd) (x:Ln):List Fd×Bool:=
 if(YM l (YS x.at' x.nm)).2≠0\/(YM l (YS x.at' x.nm)).1.kind≠1 then([],Hf)
 else if(YM l (YS x.at' x.ot)).2≠0\/(YM l (YS x.at' x.ot)).1.kind≠1\/(YM l (YS x.at' x.ot)).1.worth≠IntKind.i64.wrap ((YM l (YS x.at' x.nm)).1.worth*x.fac)then([],Hf)
 else([⟨x.at',1,[],[],(YM l (YS x.at' x.nm)).1.worth⟩],Ht)
def TG (x:List Fd×Bool):PV:= .tup [Zs x.1,.bool x.2]
theorem YR (x:List Fd×Bool):(TG x).dids= []:=by simp only[TG,Js,Jj,UU,Jc]
theorem Ze4 (l:List Fd) (x:Ln) (hl:OkFs l) (hx:OkLn x) (hr:ZK x=Ht) (h9:x.kind=9):Pp 224 [Zs l,lns x] (TG (D1 l x)):=by
 have hG:=Dq x hx;have hg:ZcZ x= [YS x.at' x.nm,YS x.at' x.ot]:=by simp[ZcZ,XN,hr,h9]
 rw[hg]at hG;have f1:=VK l (YS x.at' x.nm) (by have:=hl.n;omega) hl.c;have f2:=VK l (YS x.at' x.ot) (by have:=hl.n;omega) hl.c;unfold D1;generalize YM l (YS x.at' x.nm)=a at *;generalize YM l (YS x.at' x.ot)=b at *;obtain⟨a,a0⟩:=a;obtain⟨b,b0⟩:=b;have o1:((0:Int)<1+1)=True:=by simp
 refine ZF func224 rfl ntmps224 results224 (YR _) ?_;simp only[go_sem,Zs,lns];refine vc3 hG ?_;simp only[go_sem,refs,ref];refine vc2 f1 ?_;simp only[go_sem,FN,fld];repeat' ((first|(first|apply Zl|apply Zj|apply Zp)<;>intro h|refine vc2 f2 ?_|refine vDq ?_)<;>first|simp only[go_sem,h,refs,ref,FN,fld,Zs]|simp only[go_sem,refs,ref,FN,fld,Zs]|skip)
 all_goals (clear hG f1 f2 hl hx;simp_all[TG,Zs,fld])
open Go.PL
theorem ZfZ (l:List Tg):Jj (l.map tg)= []:=by
 induction l with
 |nil=>rfl
 |cons t l ih=>simp only[JA,Jj,ih,tg,Js,Jc]
theorem Dh (l:List Tg):Sized 2 (l.map tg):=λe he=>by
 obtain⟨x,_,rfl⟩:=JD.1 he;rfl
theorem ZfU (l:List Tg):YZ (l.map tg):=λe he=>by
 obtain⟨x,_,rfl⟩:=JD.1 he;rfl
def Vl (t:Tg):Bool:=decide (1<=t.r)&&(decide (t.r<=6)&&(decide (1<=t.n)&&decide (t.n<=1099511627776)))
theorem Tj (t:Tg):Pp 102 [tg t] (.bool (Vl t)):=by
 refine Zz func102 rfl ntmps102 results102 ?_;simp only[go_sem,tg];repeat' ((first|(first|apply Zl|apply Zj|apply Zp)<;>intro h|refine vDq ?_)<;>first|simp only[go_sem,h]|simp only[go_sem]|skip)
 all_goals (simp_all[Vl]<;>(intros;omega))
def Wv (a b:Tg):Bool:=if a.r=b.r then decide (a.n<b.n)else decide (a.r<b.r)
theorem Zai (a b:Tg):Pp 139 [tg a,tg b] (.bool (Wv a b)):=by
 refine Zz func139 rfl ntmps139 results139 ?_;simp only[go_sem,tg];repeat' ((first|(first|apply Zl|apply Zj|apply Zp)<;>intro h|refine vDq ?_)<;>first|simp only[go_sem,h]|simp only[go_sem]|skip)
 all_goals simp_all[Wv]
open Go.PL
structure Opn where
 id:Tg
 sch:Tg
 time:Int
 cart:Str
 kind:Int
 item:Str
 at':Rf
 delta:Int
 has:Bool
 text:Str
 drops:List Tg
 deriving DecidableEq,Inhabited
def opv (o:Opn):PV:= .agg [.int .i64 o.id.r,.int .i64 o.id.n,.int .i64 o.sch.r,.int .i64 o.sch.n,.int .i64 o.time,.str o.cart,.int .i64 o.kind,.str o.item,.int .i64 o.at'.sc,.str o.at'.gr,.str o.at'.nm,.int .i64 o.delta,.bool o.has,.str o.text,.sl .no (o.drops.map tg)]
theorem vc6 {x:Bool} {M:KH} {g:FuncId} {args args':List PV} {K:KR} {r:PV} (h1:Pp g args' r) (h2:K.k r M.m) (h0:Kb M.m args:=by first|(simp only[go_sem,ref,ent,Ys,doc,YD,row,Zs,fld,lns,tg,refs,prs,pr,eg,egs,tgs,lg,lgs,YS,opv];done)|exact rfl) (he:PV.giveL M.m args=args':=by first|(simp only[go_sem,ref,ent,Ys,doc,YD,row,Zs,fld,lns,tg,refs,prs,pr,eg,egs,tgs,lg,lgs,YS,opv];done)|exact rfl):@Vo prog x M (Hs (g,args)) K:=Z6 h1 h0 he h2
theorem Ty (o:Opn):(opv o).dids= []:=by simp only[opv,Js,Jj,ZfZ,Jc]
theorem Zw:opv Jd= .agg [.int .i64 0,.int .i64 0,.int .i64 0,.int .i64 0,.int .i64 0,.str [],.int .i64 0,.str [],.int .i64 0,.str [],.str [],.int .i64 0,.bool Hf,.str [],.sl .no []]:=rfl
theorem Zac (a b:Opn) (ha:a.drops.length<=maxLen) (hb:b.drops.length<=maxLen):Pp 58 [opv a,opv b] (.bool (decide (a=b))):=by
 have hE:=Ziw a.drops b.drops ha hb;refine Zz func58 rfl ntmps58 results58 ?_;simp only[go_sem,opv,Zo,ZD,JS,JQ];repeat' ((first|(first|apply Zl|apply Zj|apply Zp)<;>intro h|refine vc3 hE ?_|refine vDq ?_)<;>first|simp only[go_sem,h,Zo,ZD]|simp only[go_sem,Zo,ZD]|skip)
 all_goals (clear hE ha hb;(cases a;cases b;simp_all)<;>rfl)
theorem Zel (a b:Opn) (ha:a.drops.length<=maxLen) (hb:b.drops.length<=maxLen):Pp 14 [opv a,opv b] (.bool (decide (a=b))):=by
 have hE:=Zhd a.drops b.drops ha hb;refine Zz func14 rfl ntmps14 results14 ?_;simp only[go_sem,opv,Zo,ZD,JS,JQ];repeat' ((first|(first|apply Zl|apply Zj|apply Zp)<;>intro h|refine vc3 hE ?_|refine vDq ?_)<;>first|simp only[go_sem,h,Zo,ZD]|simp only[go_sem,Zo,ZD]|skip)
 all_goals (clear hE ha hb;(cases a;cases b;simp_all)<;>rfl)
def TK (o:Opn):Bool:=XX 200 o.cart||(XX 200 o.item||(XX 200 o.at'.gr||(XX 200 o.at'.nm||(XX 200 o.text||decide (200<(o.drops.length:Int))))))
theorem Zcm (o:Opn):Pp 30 [opv o] (.bool (TK o)):=by
 refine Zz func30 rfl ntmps30 results30 ?_;simp only[go_sem,opv];repeat' ((first|(first|apply Zl|apply Zj|apply Zp)<;>intro h|refine vDq ?_)<;>first|simp only[go_sem,h]|simp only[go_sem]|skip)
 all_goals (first|(simp_all[TK,XX];done)|(rw[Jf];simp[TK,XX]at *;omega))
def Y4 (o:Opn):Bool:=(o.kind==3)||(o.kind==4)
theorem T3 (o:Opn):Pp 54 [opv o] (.bool (Y4 o)):=by
 refine Zz func54 rfl ntmps54 results54 ?_;simp only[go_sem,opv];repeat' ((first|(first|apply Zl|apply Zj|apply Zp)<;>intro h|refine vDq ?_)<;>first|simp only[go_sem,h]|simp only[go_sem]|skip)
 all_goals simp_all[Y4]
def Yz (o:Opn) (i:Nat):Bool:=Vl (o.drops.getD i Jd)&&(!(decide (o.drops.getD i Jd=o.id))&&(decide (i=0)||Wv (o.drops.getD (i-1) Jd) (o.drops.getD i Jd)))
def Vs (o:Opn):Bool:= !decide (60<(o.drops.length:Int))&&(Jm o.drops.length).all (Yz o)
def Xd (o:Opn):List PV:= [.int .i64 o.id.r,.int .i64 o.id.n,.int .i64 o.sch.r,.int .i64 o.sch.n,.int .i64 o.time,.str o.cart,.int .i64 o.kind,.str o.item,.int .i64 o.at'.sc,.str o.at'.gr,.str o.at'.nm,.int .i64 o.delta,.bool o.has,.str o.text,.sl .no (o.drops.map tg)]
theorem Fj (o:Opn):Pp 105 [opv o] (.bool (Vs o)):=by
 by_cases h60:60<(o.drops.length:Int);refine Zz func105 rfl ntmps105 results105 ?_;simp only[go_sem,opv,h60,Vs,Jg];have hm:o.drops.length<=maxLen:=by rw[Zb];omega
 have hx:Vs o=(Jm o.drops.length).all (Yz o):=by simp only[Vs,h60,decide_false,Jo,Jv]
 rw[hx];refine Zz func105 rfl ntmps105 results105 ?_;simp only[go_sem,opv,h60];refine Zr (ι:= { x:Nat // x<=(o.drops).length/\(∀j,j<x->Yz o j=Ht) }) 40 (λx=> [(1,.ptr 1 0),(10,.sl .no (o.drops.map tg)),(11,.int .i64 (o.drops.length:Int)),(12,.int .i64 (x.1:Int))]) (λx=> [(1,Xd o,Hf)]) (λx=> []) (λx=>(o.drops).length-x.1) ⟨0,Jb _,λj hj=>absurd hj (Je j)⟩ ⟨rfl,(Fc4 rfl rfl rfl rfl),(fcs ⟨rfl,rfl⟩ fnl),fnl⟩ (λx=>⟨(Fc4 rfl rfl rfl rfl),(fcs rfl fnl)⟩) (λx=> ?_);obtain⟨k,hk,hI⟩:=x;simp only at hk hI ⊢;by_cases h:(k:Int)<(o.drops.length:Int)
 (have hka:k<(o.drops).length:=by omega);(have w1:=We hka (hm));(have i1:=Ja k)
 have hT:=Tj (o.drops.getD k Jd);cases ht:Vl (o.drops.getD k Jd);rw[ht]at hT;have hz:=ZM (p:=Yz o) hka (by simp only[Yz,ht,Jg]);simp only[go_sem,Xd,h,ZE hka,tg,i1];refine vc3 hT ?_;simp only[go_sem,hz];rw[ht]at hT;cases he:decide (o.drops.getD k Jd=o.id);by_cases h0:0<(k:Int);have hk1:k-1<o.drops.length:=by omega
 have w2:IntKind.i64.wrap ((k:Int)-1)=((k-1:Nat):Int):=by rw[w64 (by omega)];omega
 have j1:(0:Int)<=((k-1:Nat):Int):=by omega
 have j2:((k-1:Nat):Int)<(o.drops.length:Int):=by omega
 have hL:=Zai (o.drops.getD (k-1) Jd) (o.drops.getD k Jd);cases hb:Wv (o.drops.getD (k-1) Jd) (o.drops.getD k Jd);rw[hb]at hL;have hz:=ZM (p:=Yz o) hka (by simp only[Yz,hb,decide_eq_false (show ¬k=0 by omega),J7,Jn]);simp only[go_sem,Xd,h,ZE hka,tg,i1];refine vc3 hT ?_;simp only[go_sem,ZD,he];refine vDq ?_;simp only[go_sem,h0,w2,ZE hk1,ZE hka,tg,h,i1,j1,j2];refine vc3 hL ?_;simp only[go_sem,hz]
 ·rw[hb]at hL;have ok:Yz o k=true:=by simp only[Yz,ht,he,hb,J8,Jo,Jr]
  simp only[go_sem,Xd,h,ZE hka,tg,i1];refine vc3 hT ?_;simp only[go_sem,ZD,he];refine vDq ?_;simp only[go_sem,h0,w2,ZE hk1,ZE hka,tg,h,i1,j1,j2];refine vc3 hL ?_;simp only[go_sem,w1];exact⟨⟨k+1,by(try simp only);omega,Zi hI ok⟩,by show(o.drops).length-(k+1)<(o.drops).length-k;omega,⟨rfl,(Fc4 rfl rfl rfl rfl),(fcs ⟨rfl,rfl⟩ fnl),fnl⟩⟩
 ·have ok:Yz o k=true:=by simp only[Yz,ht,he,decide_eq_true (show k=0 by omega),JX,Jo,Jr]
  simp only[go_sem,Xd,h,ZE hka,tg,i1];refine vc3 hT ?_;simp only[go_sem,ZD,he];refine vDq ?_;simp only[go_sem,h0,w1];exact⟨⟨k+1,by(try simp only);omega,Zi hI ok⟩,by show(o.drops).length-(k+1)<(o.drops).length-k;omega,⟨rfl,(Fc4 rfl rfl rfl rfl),(fcs ⟨rfl,rfl⟩ fnl),fnl⟩⟩
 have hz:=ZM (p:=Yz o) hka (by simp only[Yz,he,JL,Jg,Jn]);simp only[go_sem,Xd,h,ZE hka,tg,i1];refine vc3 hT ?_;simp only[go_sem,ZD,he,hz];have hz:=Vb (p:=Yz o) (n:=o.drops.length) (λj hj=>hI j (by omega));simp only[go_sem,h,hz]
def YT (o:Opn):Opn×Bool:=
 if o.kind=1 then(⟨o.id,o.sch,o.time,o.cart,o.kind,o.item,Jd,0,Hf,[],[]⟩,Ht)
 else if o.kind=2 then(⟨o.id,o.sch,o.time,o.cart,o.kind,o.item,Jd,0,Hf,[],o.drops⟩,Ht)
 else if o.kind=3 then(⟨o.id,o.sch,o.time,o.cart,o.kind,if o.at'.sc=1 then o.item else [],o.at',o.delta,Hf,[],[]⟩,Ht)
 else if o.kind=4 then(⟨o.id,o.sch,o.time,o.cart,o.kind,if o.at'.sc=1 then o.item else [],o.at',0,o.has,if o.has=Ht then o.text else [],o.drops⟩,Ht)
 else if o.kind=5 then(⟨o.id,o.sch,o.time,o.cart,o.kind,[],Jd,0,Hf,[],o.drops⟩,Ht)
 else(Jd,Hf)
def opb (x:Opn×Bool):PV:= .tup [opv x.1,.bool x.2]
theorem Zu (x:Opn×Bool):(opb x).dids= []:=by simp only[opb,Js,Jj,Ty,Jc]
theorem Zdm (o:Opn):Pp 101 [opv o] (opb (YT o)):=by
 have hP:=T3 o;unfold Y4 at hP;obtain⟨id,sch,time,cart,kind,item,at',delta,has,text,drops⟩:=o;cases has;all_goals
  refine ZF func101 rfl ntmps101 results101 (Zu _) ?_;simp only[go_sem,opv];repeat' ((first|(first|apply Zl|apply Zj|apply Zp)<;>intro h|refine vc6 hP ?_|refine ZdZ [(1,4)] (by kernel_rfl) (by kernel_rfl) (by exact rfl) ?_|refine vDq ?_)<;>first|simp only[go_sem,h]|simp only[go_sem]|skip)
  all_goals (simp only[beq_iff_eq,beq_eq_false_iff_ne,ne_eq]at *;clear hP;simp_all[YT,opb,opv];try decide)
open Go.PL
@[go_sem] theorem Zt5:tcv prog 2 259= .flt .f64:=by kernel_rfl
@[go_sem] theorem Zt4:tcv prog 259 2= .int .i64:=by kernel_rfl
theorem Zns (a b:Int):((Hs (compare a b):Option Ordering)==Hs .gt||(Hs (compare a b):Option Ordering)==Hs .eq)=decide (b<=a):=by
 rcases JG a b with h|h|h;rw[JH.2 h,decide_eq_false (by omega)];rfl;subst h;rw[JI.2 rfl,decide_eq_true (by omega)];rfl;rw[JJ.2 h,decide_eq_true (by omega)];rfl
theorem Znv (a b:Int):((Hs (compare a b):Option Ordering)==Hs .lt||(Hs (compare a b):Option Ordering)==Hs .eq)=decide (a<=b):=by
 rcases JG a b with h|h|h;rw[JH.2 h,decide_eq_true (by omega)];rfl;subst h;rw[JI.2 rfl,decide_eq_true (by omega)];rfl;rw[JJ.2 h,decide_eq_false (by omega)];rfl
theorem Znz (a b:Int):((Hs (compare a b):Option Ordering) !=Hs .eq)=decide (a≠b):=by
 rcases JG a b with h|h|h;rw[JH.2 h,decide_eq_true (by omega)];rfl;subst h;rw[JI.2 rfl,decide_eq_false (by omega)];rfl;rw[JJ.2 h,decide_eq_true (by omega)];rfl
theorem ZjU:(4841369599423283200:Nat)=X1 4503599627370496:=by decide+kernel
theorem ZjS:JK .f64 4841369599423283200=X1 (-4503599627370496):=by decide+kernel
theorem Zpe:Extern.findNext f279=none:=by kernel_rfl
theorem Zpd:Extern.find f279=Hs (Extern.MathFloor.toIntegral "math.archTrunc" .zero):=by kernel_rfl
theorem ZkR (n:Int) (h:n.natAbs<2 ^ 53) (P:Program) (w:World):(Extern.MathFloor.toIntegral "math.archTrunc" .zero #[.float .f64 (X1 n)]).run P w= .ok (.float .f64 (X1 n)) w:=by
 obtain⟨s,m,p,hp⟩:=Zj6 n h;have ht:=Zm6 n h;rw[hp]at ht;show(Extern.MathFloor.toIntegral.match_1 (λ_=>Sem Value) (FloatKind.f64.decode (X1 n)) _ _:Sem Value).run P w=_;rw[hp];show Result.ok (Value.float .f64 (FloatKind.f64.encode ((Ieee.Datum.number s m p).integral .zero))) w=_;rw[ht]
theorem Zcu (n:Int) (h:n.natAbs<2 ^ 53):PL.Xt prog 279 [.flt .f64 (X1 n)] (.flt .f64 (X1 n)):=by
 intro w S vs hl hr;match vs,hl with
 | [v],_=>
  have h0:=hr 0 (by simp);simp only[List.getD_cons_zero]at h0;cases h0;refine⟨.float .f64 (X1 n),.flt _ _,?_⟩;rw[run_callFunc_extern func279 (by decide) rfl Zpe Zpd];show((Extern.MathFloor.toIntegral "math.archTrunc" .zero #[.float .f64 (X1 n)]).run prog w).andThen _=_;rw[ZkR n h];rfl
theorem Zak (n:Int) (h:n.natAbs<2 ^ 53):Pp 273 [.flt .f64 (X1 n)] (.flt .f64 (X1 n)):=by
 have hT:=Zcu n h;refine Zz func273 rfl ntmps273 results273 ?_;simp only[go_sem];refine Znf hT ?_ ?_ ?_;simp only[go_sem];simp only[go_sem];simp only[go_sem]
theorem ZfS (a b:Nat):Pp 272 [.cpx .f64 a b] (.agg [.flt .f64 a,.flt .f64 b]):=by
 refine Zz func272 rfl ntmps272 results272 ?_;simp only[go_sem]
def Lim (n:Int):Prop:= -4503599627370496<=n/\n<=4503599627370496
theorem Lim.abs {n:Int} (h:Lim n):n.natAbs<2 ^ 53:=by have:=h.1;have:=h.2;omega
theorem ZfQ (a b:Int) (ha:Lim a) (hb:Lim b):Pp 249 [.cpx .f64 (X1 a) (X1 b),.flt .f64 4841369599423283200] (.bool Ht):=by
 have hZ:=ZfS (X1 a) (X1 b);have hTa:=Zak a ha.abs;have hTb:=Zak b hb.abs;have m1:(4503599627370496:Int).natAbs<2 ^ 53:=by decide
 have m2:(-4503599627370496:Int).natAbs<2 ^ 53:=by decide
 have ga:(FloatKind.f64.format.order (X1 a) (JK .f64 4841369599423283200)==Hs .gt||FloatKind.f64.format.order (X1 a) (JK .f64 4841369599423283200)==Hs .eq)=true:=by
  rw[ZjS,Tz _ _ ha.abs m2,Zns];simpa using ha.1
 have gb:(FloatKind.f64.format.order (X1 b) (JK .f64 4841369599423283200)==Hs .gt||FloatKind.f64.format.order (X1 b) (JK .f64 4841369599423283200)==Hs .eq)=true:=by
  rw[ZjS,Tz _ _ hb.abs m2,Zns];simpa using hb.1
 have la:(FloatKind.f64.format.order (X1 a) 4841369599423283200==Hs .lt||FloatKind.f64.format.order (X1 a) 4841369599423283200==Hs .eq)=true:=by
  rw[ZjU,Tz _ _ ha.abs m1,Znv];simpa using ha.2
 have lb:(FloatKind.f64.format.order (X1 b) 4841369599423283200==Hs .lt||FloatKind.f64.format.order (X1 b) 4841369599423283200==Hs .eq)=true:=by
  rw[ZjU,Tz _ _ hb.abs m1,Znv];simpa using hb.2
 have na:(FloatKind.f64.format.order (X1 a) (X1 a) !=Hs .eq)=false:=by rw[Tz _ _ ha.abs ha.abs,Znz];simp
 have nb:(FloatKind.f64.format.order (X1 b) (X1 b) !=Hs .eq)=false:=by rw[Tz _ _ hb.abs hb.abs,Znz];simp
 have c0:((0:Nat):Int)=0:=rfl;have c1:((1:Nat):Int)=1:=rfl;have c2:((2:Nat):Int)=2:=rfl;have w0:IntKind.i64.wrap (0+1)=((1:Nat):Int):=by decide
 have w1:IntKind.i64.wrap (1+1)=((2:Nat):Int):=by decide
 refine Zz func249 rfl ntmps249 results249 ?_;simp only[go_sem];refine vc1 hZ ?_;simp only[go_sem];refine Zr (ι:= { k:Nat // k<=2 }) 29 (λx=> [(1,.flt .f64 4841369599423283200),(8,.agg [.flt .f64 (X1 a),.flt .f64 (X1 b)]),(9,.int .i64 (x.1:Int))]) (λx=> []) (λx=> []) (λx=>2-x.1) ⟨0,by omega⟩
  ⟨rfl,(Fc3 rfl rfl rfl),fnl,fnl⟩ (λx=>⟨Fc3 rfl (by simp[Jp,Jw]) rfl,fnl⟩) (λx=> ?_)
 obtain⟨k,hk⟩:=x;simp only;obtain rfl|rfl|rfl:k=0\/k=1\/k=2:=by omega
 simp only[go_sem,c0,ga,la];refine vc1 hTa ?_;simp only[go_sem,na,w0];exact⟨⟨1,by omega⟩,by show 2-1<2-0;omega,⟨rfl,(Fc3 rfl rfl rfl),fnl,fnl⟩⟩;simp only[go_sem,c1,gb,lb];refine vc1 hTb ?_;simp only[go_sem,nb,w1];exact⟨⟨2,by omega⟩,by show 2-2<2-1;omega,⟨rfl,(Fc3 rfl rfl rfl),fnl,fnl⟩⟩;simp only[go_sem,c2]
theorem Ga (a b:Int) (ha:Lim a) (hb:Lim b):Pp 207 [.cpx .f64 (X1 a) (X1 b)] (.bool Ht):=by
 have hW:=ZfQ a b ha hb;refine Zz func207 rfl ntmps207 results207 ?_;simp only[go_sem];refine vc1 hW ?_;simp only[go_sem]
theorem Ti (a b:Int) (ha:Lim a) (hb:Lim b):Pp 163 [.cpx .f64 (X1 a) (X1 b)] (.tup [.int .i64 a,.int .i64 b,.int .i64 0]):=by
 have hW:=Ga a b ha hb;have ta:=ZgM a ha.abs;have tb:=ZgM b hb.abs;have l1:IntKind.i64.min<=a:=by rw[show IntKind.i64.min= -9223372036854775808 by decide];have:=ha.1;omega
 have l2:a<=IntKind.i64.max:=by rw[show IntKind.i64.max=9223372036854775807 by decide];have:=ha.2;omega
 have l3:IntKind.i64.min<=b:=by rw[show IntKind.i64.min= -9223372036854775808 by decide];have:=hb.1;omega
 have l4:b<=IntKind.i64.max:=by rw[show IntKind.i64.max=9223372036854775807 by decide];have:=hb.2;omega
 refine ZF func163 rfl ntmps163 results163 (rfl) ?_;simp only[go_sem];refine vc1 hW ?_;simp only[go_sem,ta,tb,l1,l2,l3,l4]
def Wx (n:Int):Bool:=decide (-4503599627370496<=n)&&decide (n<=4503599627370496)
theorem Su {n:Int}:Wx n=Ht↔Lim n:=by simp[Wx,Lim]
theorem ZcS (n:Int):Pp 206 [.int .i64 n] (.bool (Wx n)):=by
 refine Zz func206 rfl ntmps206 results206 ?_;simp only[go_sem];repeat' ((first|(first|apply Zl|apply Zj|apply Zp)<;>intro h|refine vDq ?_)<;>first|simp only[go_sem,h]|simp only[go_sem]|skip)
 all_goals (simp_all[Wx];try omega)
theorem Zeg (a b:Int):Pp 161 [.int .i64 a,.int .i64 b] (if Wx a=Ht/\Wx b=Ht then .tup [.cpx .f64 (X1 a) (X1 b),.int .i64 0]else .tup [.cpx .f64 0 0,.int .i64 3]):=by
 have hA:=ZcS a;have hB:=ZcS b;have ea:FloatKind.f64.nearest a=X1 a:=rfl;have eb:FloatKind.f64.nearest b=X1 b:=rfl;cases h1:Wx a;rw[h1]at hA;simp only[JE,false_and,if_false];refine ZF func161 rfl ntmps161 results161 (rfl) ?_;simp only[go_sem];refine vc1 hA ?_;simp only[go_sem];rw[h1]at hA;cases h2:Wx b;rw[h2]at hB;simp only[JE,and_false,if_false];refine ZF func161 rfl ntmps161 results161 (rfl) ?_;simp only[go_sem];refine vc1 hA ?_;simp only[go_sem];refine vc1 hB ?_;simp only[go_sem];rw[h2]at hB;simp only[and_self,if_true];refine ZF func161 rfl ntmps161 results161 (rfl) ?_;simp only[go_sem];refine vc1 hA ?_;simp only[go_sem];refine vc1 hB ?_;simp only[go_sem,ea,eb]
theorem ZiX (n:Int):Pp 281 [.int .i64 n] (.bool (!Wx n)):=by
 refine Zz func281 rfl ntmps281 results281 ?_;simp only[go_sem];repeat' ((first|(first|apply Zl|apply Zj|apply Zp)<;>intro h|refine vDq ?_)<;>first|simp only[go_sem,h]|simp only[go_sem]|skip)
 all_goals (simp_all[Wx];try omega)
 all_goals (rw[<-decide_not];congr 1;simp only[eq_iff_iff];omega)
open Go.PL
open Go.PL Go.PL.Srt
section
variable {α:Type} [Inhabited α] {pv:α->PV} {g:FuncId} {lt:α->α->Bool} {cv:α->α->Int}
inductive Blk (lt:α->α->Bool) (bs:Nat):List α->List α->Prop
 |last (l:List α) (h:l.length<=bs):Blk lt bs l (srt lt l)
 |more (l l' r':List α) (h:l.length=bs) (t:Blk lt bs l' r'):Blk lt bs (l++l') (srt lt l++r')
theorem Blk.small {bs:Nat} (hb:0<bs) {R C:List α} (h:Blk lt bs R C) (hR:R.length<=bs):C=srt lt R:=by
 cases h with
 |last l h=>rfl
 |more l l' r' h t=>
  simp only[Ji]at hR;have:l'= []:=List.length_eq_zero_iff.1 (by omega);subst this;have hr:r'= []:=by
   generalize hx:([]:List α)=x at t;cases t with
   |last l h=>subst hx;rfl
   |more l2 l3 r3 h t=>
    have:=congrArg Kc hx;simp only[J3,Ji]at this;omega
  subst hr;simp
theorem Blk.first {bs:Nat} {R C:List α} (h:Blk lt bs R C) (hR:bs<R.length):∃l l' r',R=l++l'/\C=srt lt l++r'/\l.length=bs/\Blk lt bs l' r':=by
 cases h with
 |last l h=>omega
 |more l l' r' h t=>exact⟨l,l',r',rfl,rfl,h,t⟩
theorem Blk.len {bs:Nat} {R C:List α} (h:Blk lt bs R C):C.length=R.length:=by
 induction h with
 |last l h=>exact Zx l
 |more l l' r' h t ih=>simp[Zx,ih]
theorem Blk.nil (bs:Nat):Blk lt bs ([]:List α) []:= .last [] (Jb _)
theorem Blk.two {bs:Nat} (hb:0<bs) {R C:List α} (h:Blk lt bs R C) (hR:2*bs<=R.length):∃l1 l2 R2 C2,R=l1++(l2++R2)/\C=srt lt l1++(srt lt l2++C2)/\l1.length=bs/\l2.length=bs/\Blk lt bs R2 C2:=by
 obtain⟨l1,l',r',rfl,rfl,h1,t⟩:=h.first (by omega)
 simp only[Ji]at hR;by_cases h2:bs<l'.length;obtain⟨l2,l3,r3,rfl,rfl,h3,t3⟩:=t.first h2
 exact⟨l1,l2,l3,r3,rfl,rfl,h1,h3,t3⟩;have:=t.small hb (by omega);subst this;exact⟨l1,l',[],[],by simp,by simp,h1,by omega,Blk.nil bs⟩
theorem ZkH (gd:Srt.Good lt) {l1 l2:List α} (h:Unl lt (l1++l2)):srt lt (srt lt l1++srt lt l2)=srt lt (l1++l2):=
 (ZdM gd h ((Yx l1).append (Yx l2)).symm).symm
theorem Zb2 {A B:List α} (h:Unl lt B) (s:A.Sublist B):Unl lt A:=List.Pairwise.sublist s h
theorem GS (K:SortK pv g lt cv) (e:TypeId) (n:Nat) (X L Y:List α) (hU:Unl lt L) (hn:X.length+L.length+Y.length=n) (hm:n<=1000000000000) (l0 r:List PV) (hl0:l0=(X++(L++Y)).map pv) (hr:r=(X++(srt lt L++Y)).map pv) (ia ib:Int) (ha:ia=(X.length:Int)) (hb:ib=((X.length+L.length:Nat):Int)):
  Eff prog 194 [.vsl 1000 n 15,.int .i64 ia,.int .i64 ib,.fn g []] (Vn n 15 e l0) (.tup []) (Vn n 15 e r):=by
 subst ha hb hl0;exact ZbG K e n X L Y hU hn hm r hr
theorem Zh9 (K:SortK pv g lt cv) (e:TypeId) (n:Nat) (hm:n<=1000000000000) (L:List α) (hU:Unl lt L) (hn:L.length=n) (r:List PV) (hr:r=(srt lt L).map pv):
  Eff prog 152 [.vsl 1000 n 15,.int .i64 (n:Int),.fn g []] (Vn n 15 e (L.map pv)) (.tup []) (Vn n 15 e r):=by
 subst hr;have hcl:∀l:List α,∀p∈l.map pv,p.ids= []:=λl=>Yo K.ids l
 refine Eff.vw [] func152 (by decide) rfl ntmps152 results152 (by simp) (hcl _) (hcl _) (by simp[Jp,Jw]) (by simp[Jp,Jw]) λq=> ?_
 simp only[go_sem];refine YO (ι:= { s:List α×List α // (∀C,Blk lt 20 s.2 C->Blk lt 20 L (s.1++C))/\s.1.length+s.2.length=n/\s.2.Sublist L }) 63 (λy=> [(0,.vsl 1000 n 15),(1,.int .i64 (n:Int)),(2,.fn g []),(6,.int .i64 20),(7,.int .i64 (y.1.1.length:Int)),(8,.int .i64 ((y.1.1.length+20:Nat):Int))]) (λ_=> []) (λ_=> [(1000,.vec n 15 e)]) (λ_=> []) (λ_=> []) (λy=> [(1000,(y.1.1++y.1.2).map pv)]) (λ_=> []) [] [(1000,q)] [] (λy=>y.1.2.length) ⟨([],L),λC h=>h,by simpa using hn,J9.refl L⟩
  (Ye rfl (Fc6 rfl rfl rfl rfl rfl rfl) rfl rfl rfl) (λx=>Xb (by simp[Jp,Jw,Zy]) (Z7 K.ids _)) (λy=> ?_)
 obtain⟨⟨D,R⟩,h1,h2,h3⟩:=y;simp only at h1 h2 h3 ⊢;by_cases hk:20<=R.length;have c1:((D.length+20:Nat):Int)<=(n:Int):=by omega
 have w1:IntKind.i64.wrap (((D.length+20:Nat):Int)+20)=((D.length+20+20:Nat):Int):=by rw[VC (by omega) (by omega)];omega
 have e1:R.take 20++R.drop 20=R:=List.take_append_drop _ _;have l1:(R.take 20).length=20:=by rw[Jk];omega
 generalize R.take 20=l at e1 l1;generalize R.drop 20=R' at e1;subst e1;simp only[Ji]at h2;simp only[go_sem,c1];refine Yy 1000 (GS K e n D l R' (Zb2 hU ((JM _ _).trans h3)) (by omega) hm _ ((D++(srt lt l++R')).map pv) rfl rfl _ _ rfl (by omega)) (by simp[Jp,Jw]) (hcl _) (hcl _) rfl rfl rfl ?_;simp only[go_sem,w1];refine⟨⟨(D++srt lt l,R'),λC hC=>by rw[Jz];exact h1 _ (.more l R' C l1 hC),by simp[Zx];omega,(Ju _ _).trans h3⟩,by show R'.length<(l++R').length;simp;omega,Ye rfl ?_ rfl (by show Hs _=Hs _;simp) rfl⟩;show ∀x∈ [(0,Ke 1000 n 15),(1,.int .i64 (n:Int)),(2,.fn g []),(6,.int .i64 20),(7,.int .i64 ((D++srt lt l).length:Int)),(8,.int .i64 (((D++srt lt l).length+20:Nat):Int))],_;rw[show(D++srt lt l).length=D.length+20 by simp[Zx,l1]];exact(Fc6 rfl rfl rfl rfl rfl rfl);have c1:¬((D.length+20:Nat):Int)<=(n:Int):=by omega
 simp only[go_sem,c1];refine Yy 1000 (GS K e n D R [] (Zb2 hU h3) (by simpa using h2) hm _ ((D++srt lt R).map pv) (by simp) (by simp) _ _ rfl (by omega)) (by simp[Jp,Jw]) (hcl _) (hcl _) rfl rfl rfl ?_;have hB:=h1 _ (.last R (by omega));generalize D++srt lt R=C at hB;clear h1 h2 h3 hk c1;simp only[go_sem];refine YO (ι:= { s:Nat×List α // Blk lt s.1 L s.2/\0<s.1/\(s.1=20\/s.1<=2*n) }) 63 (λy=> [(0,.vsl 1000 n 15),(1,.int .i64 (n:Int)),(2,.fn g []),(6,.int .i64 (y.1.1:Int))]) (λ_=> []) (λ_=> [(1000,.vec n 15 e)]) (λ_=> []) (λ_=> []) (λy=> [(1000,y.1.2.map pv)]) (λ_=> []) [] [(1000,q)] [] (λy=>n-y.1.1) ⟨(20,C),hB,by show 0<20;omega,.inl rfl⟩
  (Ye rfl (Fc4 rfl rfl rfl rfl) rfl rfl rfl) (λx=>Xb (by simp[Jp,Jw,Zy]) (Z7 K.ids _)) (λy=> ?_)
 clear hB C;obtain⟨⟨bs,C⟩,hB,hb0,hb1⟩:=y;simp only at hB hb0 hb1 ⊢;by_cases hk:bs<n;have c1:(bs:Int)<(n:Int):=by omega
 have w1:IntKind.i64.wrap (2*(bs:Int))=((2*bs:Nat):Int):=by rw[VC (by omega) (by omega)];omega
 have w2:IntKind.i64.wrap ((bs:Int)*2)=((2*bs:Nat):Int):=by rw[VC (by omega) (by omega)];omega
 simp only[go_sem,c1,w1];refine YO (ι:= { s:List α×List α×List α // (∀C,Blk lt (2*bs) s.2.1 C->Blk lt (2*bs) L (s.1++C))/\Blk lt bs s.2.1 s.2.2/\s.1.length+s.2.1.length=n/\s.2.1.Sublist L }) 63 (λy=> [(0,.vsl 1000 n 15),(1,.int .i64 (n:Int)),(2,.fn g []),(6,.int .i64 (bs:Int)),(7,.int .i64 (y.1.1.length:Int)),(8,.int .i64 ((y.1.1.length+2*bs:Nat):Int))]) (λ_=> []) (λ_=> [(1000,.vec n 15 e)]) (λ_=> []) (λ_=> []) (λy=> [(1000,(y.1.1++y.1.2.2).map pv)]) (λ_=> []) [] [(1000,q)] [] (λy=>y.1.2.1.length) ⟨([],L,C),λC h=>h,hB,by simpa using hn,J9.refl L⟩
  (Ye rfl (by show ∀x∈ [(0,Ke 1000 n 15),(1,.int .i64 (n:Int)),(2,.fn g []),(6,.int .i64 (bs:Int)),(7,.int .i64 0),(8,.int .i64 ((0+2*bs:Nat):Int))],_;rw[Nat.zero_add];exact(Fc6 rfl rfl rfl rfl rfl rfl)) rfl rfl rfl) (λx=>Xb (by simp[Jp,Jw,Zy]) (Z7 K.ids _)) (λy=> ?_)
 obtain⟨⟨D,R,CR⟩,h1,h2,h3,h4⟩:=y;simp only at h1 h2 h3 h4 ⊢;by_cases hk2:2*bs<=R.length;have c2:((D.length+2*bs:Nat):Int)<=(n:Int):=by omega
 have w3:IntKind.i64.wrap ((D.length:Int)+(bs:Int))=((D.length+bs:Nat):Int):=by rw[VC (by omega) (by omega)];omega
 have w4:IntKind.i64.wrap (((D.length+2*bs:Nat):Int)+((2*bs:Nat):Int))=((D.length+2*bs+2*bs:Nat):Int):=by rw[VC (by omega) (by omega)];omega
 obtain⟨l1,l2,R2,C2,rfl,rfl,k1,k2,k3⟩:=h2.two hb0 hk2;have k4:=k3.len;simp only[Ji]at h3;have hU2:Unl lt (l1++l2):=Zb2 hU ((by rw[<-Jz];exact JM _ _:(l1++l2).Sublist (l1++(l2++R2))).trans h4);obtain⟨u1,u2,u3⟩:=Unl.append.1 hU2;have hU3:Unl lt (srt lt l1++srt lt l2):=Unl.perm hU2 ((Yx l1).append (Yx l2)).symm;simp only[go_sem,c2,w1,w3];refine Yy 1000 (GY K e n hm _ D (srt lt l1) (srt lt l2) C2 (Kd _) (VF K.good u1) (VF K.good u2) hU3 (by rw[Zx];omega) (by rw[Zx];omega) (by simp only[Zx];omega) _ ((D++(srt lt (l1++l2)++C2)).map pv) (by simp) (by rw[ZkH K.good hU2]) _ _ _ rfl (by simp only[Zx];omega) (by simp only[Zx];omega)) (by simp[Jp,Jw]) (hcl _) (hcl _) rfl rfl rfl ?_;simp only[go_sem,w1,w4];have hx:(D++srt lt (l1++l2)).length=D.length+2*bs:=by simp[Zx];omega
 refine⟨⟨(D++srt lt (l1++l2),R2,C2),λC hC=>by rw[Jz];exact h1 _ (by rw[<-Jz];exact .more (l1++l2) R2 C (by simp;omega) hC),k3,by show(D++srt lt (l1++l2)).length+R2.length=n;rw[hx];omega,((Ju _ _).trans (Ju _ _)).trans h4⟩,by show R2.length<(l1++(l2++R2)).length;simp;omega,Ye rfl ?_ rfl (by show Hs _=Hs _;simp) rfl⟩;show ∀x∈ [(0,Ke 1000 n 15),(1,.int .i64 (n:Int)),(2,.fn g []),(6,.int .i64 (bs:Int)),(7,.int .i64 ((D++srt lt (l1++l2)).length:Int)),(8,.int .i64 (((D++srt lt (l1++l2)).length+2*bs:Nat):Int))],_;rw[hx];exact(Fc6 rfl rfl rfl rfl rfl rfl);have c2:¬((D.length+2*bs:Nat):Int)<=(n:Int):=by omega
 have w3:IntKind.i64.wrap ((D.length:Int)+(bs:Int))=((D.length+bs:Nat):Int):=by rw[VC (by omega) (by omega)];omega
 by_cases hk3:bs<R.length;have c3:((D.length+bs:Nat):Int)<(n:Int):=by omega
 obtain⟨l1,R1,C1,rfl,rfl,k1,k2⟩:=h2.first hk3
 simp only[Ji]at h3 hk2 hk3;have:=k2.small hb0 (by omega);subst this;have hU2:Unl lt (l1++R1):=Zb2 hU h4;obtain⟨u1,u2,u3⟩:=Unl.append.1 hU2;have hU3:Unl lt (srt lt l1++srt lt R1):=Unl.perm hU2 ((Yx l1).append (Yx R1)).symm;simp only[go_sem,c2,w3,c3];refine Yy 1000 (GY K e n hm _ D (srt lt l1) (srt lt R1) [] (Kd _) (VF K.good u1) (VF K.good u2) hU3 (by rw[Zx];omega) (by rw[Zx];omega) (by simp only[Zx,J3];omega) _ ((D++srt lt (l1++R1)).map pv) (by simp) (by rw[ZkH K.good hU2];simp) _ _ _ rfl (by simp only[Zx];omega) (by simp only[Zx];omega)) (by simp[Jp,Jw]) (hcl _) (hcl _) rfl rfl rfl ?_;simp only[go_sem,w2];exact⟨⟨(2*bs,D++srt lt (l1++R1)),h1 _ (.last _ (by simp;omega)),by show 0<2*bs;omega,.inr (by show 2*bs<=2*n;omega)⟩,by show n-2*bs<n-bs;omega,Ye rfl (Fc4 rfl rfl rfl rfl) rfl rfl rfl⟩;have c3:¬((D.length+bs:Nat):Int)<(n:Int):=by omega
 have:=h2.small hb0 (by omega);subst this;simp only[go_sem,c2,w3,c3,w2];exact⟨⟨(2*bs,D++srt lt R),h1 _ (.last _ (by omega)),by show 0<2*bs;omega,.inr (by show 2*bs<=2*n;omega)⟩,by show n-2*bs<n-bs;omega,Ye rfl (Fc4 rfl rfl rfl rfl) rfl rfl rfl⟩;have c1:¬(bs:Int)<(n:Int):=by omega
 have:=hB.small hb0 (by omega);subst this;simp only[go_sem,c1];exact Uf (r0:= .tup []) (hcl _) rfl (.clean rfl) rfl rfl rfl
theorem TI (K:SortK pv g lt cv) (e:TypeId) (n:Nat) (hm:n<=1000000000000) (L:List α) (hU:Unl lt L) (hn:L.length=n) (r:List PV) (hr:r=(srt lt L).map pv):
  Eff prog 111 [.vsl 1000 n 15,.fn g []] (Vn n 15 e (L.map pv)) (.tup []) (Vn n 15 e r):=by
 subst hr;have hcl:∀l:List α,∀p∈l.map pv,p.ids= []:=λl=>Yo K.ids l
 refine Eff.vw [] func111 (by decide) rfl ntmps111 results111 (by simp) (hcl _) (hcl _) (by simp[Jp,Jw]) (by simp[Jp,Jw]) λq=> ?_
 simp only[go_sem];refine Yy 1000 (Zh9 K e n hm L hU hn _ rfl) (by simp[Jp,Jw]) (hcl _) (hcl _) rfl rfl rfl ?_;simp only[go_sem];exact Uf (r0:= .tup []) (hcl _) rfl (.clean rfl) rfl rfl rfl
end
open Go.PL
theorem ZiW (l:List Rw):YZ (l.map row):=λe he=>by
 obtain⟨t,_,rfl⟩:=JD.1 he;rfl
theorem ZmN (r:Rw):(row r).dids= []:=by simp only[row,Js,Jj,Sn,Jc]
theorem Zji (l:List Rw):Jj (l.map row)= []:=by
 induction l with
 |nil=>rfl
 |cons t l ih=>simp only[JA,Jj,ih,ZmN,Jc]
theorem Zl2 (d:Dc):(doc d).dids= []:=by simp only[doc,Js,Jj,Sn,Zji,Jc]
def Zpi (i:Nat) (l:List Rw):Nat->PV
 |0=> .sl .nil []
 |k+1=> .sl (.row i) ((l.take (k+1)).map row)
def Zpj (i:Nat):Nat->List (Nat×Row)
 |0=> []
 |k+1=> [(i,.live (k+1) 2 142)]
open Go.PL
theorem Dn (a b:En) (ha:a.l.length<=maxLen) (hb:b.l.length<=maxLen):Pp 197 [ent a,ent b] (.bool (decide (a=b))):=by
 have hE:=F8 a.l b.l ha hb;refine Zz func197 rfl ntmps197 results197 ?_;simp only[go_sem,ent,Zo,JS,JQ];repeat' ((first|(first|apply Zl|apply Zj|apply Zp)<;>intro h|refine vc1 hE ?_|refine vDq ?_)<;>first|simp only[go_sem,h,Zo]|simp only[go_sem,Zo]|skip)
 all_goals (clear hE ha hb;(cases a;cases b;simp_all)<;>rfl)
open Go.PL
theorem Zbj (l:List Str) (hl:l.length<=1000000):Pp 244 [YD l] (YD l):=by
 cases l with
 |nil=>
  refine ZF func244 rfl ntmps244 results244 (SR _) ?_;simp only[go_sem,YD];intro b;cases b;simp only[go_sem,YD];exact Yi (by omega) (by omega);simp only[go_sem,YD]
 |cons x l=>
  have hr:=Yi (show(x::l).length<=100000000000 by omega) (show 16<=1000 by omega);have hs:=ZU (x::l);have ha:=Xh (x::l);simp only[JA]at hs ha;refine ZF func244 rfl ntmps244 results244 (SR _) ?_;simp only[go_sem,YD,hs,ha];exact hr
theorem VH (e:En) (he:e.l.length<=1000000):Pp 198 [ent e] (ent e):=by
 have hC:=Zbj e.l he;refine ZF func198 rfl ntmps198 results198 (WF _) ?_;simp only[go_sem,ent];refine vc1 hC ?_;simp only[go_sem,ent,YD]
open Go.PL
open Go.PL
end Go.Proofs.YtepchngegclagaaGreat
namespace Go.PL
open Go.RowKit
theorem Rep.cells_at {S:Stable} {v:Value} {es:List PV} {sz:Nat} (r:Rep S v (.sl .no es)) (hz:∀i,i<es.length->(es.getD i .any).cells.length=sz):
  ∃(A:Option Addr) (cap:Nat) (vs:Nat->Nat->Value),v= .slice A es.length cap/\(0<es.length-> ∃b o,A=Hs ⟨b,o,none⟩/\
   ∀i j,i<es.length->j<sz->S b (o+i*sz+j)=Hs (vs i j))/\(∀i j,i<es.length->j<sz->Rep S (vs i j) ((es.getD i .any).cells.getD j .any)):=by
 generalize hes:es=es' at r;cases r with
 |sl0 a cap=>subst hes;exact⟨a,cap,λ_ _=>undef,rfl,λh=>absurd h (by simp),λi j hi=>absurd hi (by simp)⟩
 |sl b o cap sz' es vals hsz hcap hS hR=>
  subst hes;refine⟨_,cap,vals,rfl,λh=>⟨b,o,rfl,λi j hi hj=> ?_⟩,λi j hi hj=> ?_⟩
  ·have:=(hsz i hi).symm.trans (hz i hi);subst this;exact hS i j hi hj
  ·have:=(hsz i hi).symm.trans (hz i hi);subst this;exact hR i j hi hj
theorem Sr {n k:Nat} (h:k<n):(J5 n).take (k+1)=(J5 n).take k++ [⟨k,h⟩]:=by
 rw[List.take_succ_eq_append_getElem (by simpa using h)];simp
section
variable {P:Program} {n:Nat} {ops:Array Oper} {rest:List Oper} {Q:Exit->Act->World->Prop} {a:Act} {w:World}
theorem ZfR {dst:Option Nat} {t ty:TypeId} {x:Operand} {pos:String} {after:Array Edge} {A:Addr} {v:Value} (hx:a.eval x= .pointer (Hs A)) (hl:(loadVar t A).run P w= .ok v w) (h:wpListIn Fence.wide n P ops Q rest (a.put dst v) w):
  wpListIn Fence.wide n P ops Q (⟨dst,.load t x,ty,pos,after,none⟩::rest) a w:=by
 refine wpListIn_plain rfl λK hK'=> ?_
 unfold Oper.wpIn;refine⟨λ_ _=>trivial,?_⟩;rw[Oper.semAt_plain Fence.wide _ _ (by intro c hc';cases hc')];simp[execOp,Instr.loadAt,Instr.sureAddr,hx,hl,Result.andThen,Ka];exact hK' _ _ h
theorem Zkq {t:TypeId} {d:TypeDesc} (hu:P.underlying t=Hs d) {b o sz:Nat} {vals:Nat->Value} (hg:ZZ P t=Ht) (hz:tsz P t=sz) (hc:∀j,j<sz->w.cell? ⟨b,o+j,none⟩=Hs (vals j)):
  (loadVar t ⟨b,o,none⟩).run P w= .ok (.agg ⟨(Jm sz).map vals⟩) w:=by
 subst hz;obtain⟨i,hi⟩:=Y3 hu;have hl:=run_loadCells (P:=P) (w:=w) (⟨b,o,none⟩:Addr) (tsz P t) vals (λj hj=>by rw[Yn];exact hc _ hj);unfold loadVar;simp only[Ka,Vc hu,Result.andThen_ok,hg,if_true,Z8 hi,hl,Sem.run_pure]
end
end Go.PL
namespace Go.Proofs.YtepchngegclagaaGreat
open Go.PL Go.RowKit
open Go.PL
open Go.ChangeShapes Go.WideShapes Go.ChangeAt Go.RowKit
theorem own:ownKnob prog.godebug=Option.none:=by kernel_rfl
theorem laidOut:laidOutB prog=true:=by kernel_rfl
theorem lays:ZaG prog=true:=by kernel_rfl
theorem Zog:Zca prog 28=false:=by kernel_rfl
theorem Zp5:Zca prog 31=false:=by kernel_rfl
theorem Zp3:Zca prog 22=false:=by kernel_rfl
structure LenLn' (x:Ln):Prop where
 c:x.fd.cases'.length<=maxLen
 f:x.fo.length<=maxLen
 b:x.ba.length<=maxLen
theorem Zop {cs:List PV} (h:PT prog 28 cs):∃l:List Str,cs= [.sl .no (l.map .str)]/\l.length<=maxLen:=by
 obtain⟨l,rfl,h1,h2⟩:=h.slice_inv Zog underlying28;obtain⟨xs,rfl,_⟩:=Tl (enc:=PV.str) (Q:=λ_=>True) (λp hp=>by
  obtain⟨s,rfl,_⟩:=(h2 p hp).string underlying9;exact⟨s,rfl,trivial⟩)
 exact⟨xs,rfl,by simpa using h1⟩
theorem Zdq {cs:List PV} (h:PT prog 25 cs):∃r:Tg,cs= [.int .i64 r.r,.int .i64 r.n]:=by
 have h1:PTs prog [3,3] cs:=h.struct_inv underlying25;obtain⟨a,b,rfl,h2,h3⟩:=h1.cons_inv;obtain⟨c,d,rfl,h4,h5⟩:=h3.cons_inv;obtain⟨x,rfl,_⟩:=h2.int_inv underlying3;obtain⟨y,rfl,_⟩:=h4.int_inv underlying3;rw[h5.nil_inv];exact⟨⟨x,y⟩,rfl⟩
theorem Zkh {cs:List PV} (h:PT prog 27 cs):∃r:Rf,cs= [.int .i64 r.sc,.str r.gr,.str r.nm]:=by
 have h1:PTs prog [3,9,9] cs:=h.struct_inv underlying27;obtain⟨a,b,rfl,h2,h3⟩:=h1.cons_inv;obtain⟨c,d,rfl,h4,h5⟩:=h3.cons_inv;obtain⟨e,f,rfl,h6,h7⟩:=h5.cons_inv;obtain⟨x,rfl,_⟩:=h2.int_inv underlying3;obtain⟨y,rfl,_⟩:=h4.string_inv underlying9;obtain⟨z,rfl,_⟩:=h6.string_inv underlying9;rw[h7.nil_inv];exact⟨⟨x,y,z⟩,rfl⟩
theorem Zqc {cs:List PV} (h:PT prog 30 cs):∃f:Fd,cs= [.int .i64 f.at'.sc,.str f.at'.gr,.str f.at'.nm,.int .i64 f.kind,.str f.df,.sl .no (f.cases'.map .str),.int .i64 f.worth]/\f.cases'.length<=maxLen:=by
 have h1:PTs prog [27,3,9,28,2] cs:=h.struct_inv underlying30;obtain⟨a1,b1,rfl,h2,h3⟩:=h1.cons_inv;obtain⟨a2,b2,rfl,h4,h5⟩:=h3.cons_inv;obtain⟨a3,b3,rfl,h6,h7⟩:=h5.cons_inv;obtain⟨a4,b4,rfl,h8,h9⟩:=h7.cons_inv;obtain⟨a5,b5,rfl,h10,h11⟩:=h9.cons_inv;obtain⟨r,rfl⟩:=Zkh h2;obtain⟨x,rfl,_⟩:=h4.int_inv underlying3;obtain⟨y,rfl,_⟩:=h6.string_inv underlying9;obtain⟨l,rfl,hl⟩:=Zop h8;obtain⟨z,rfl,_⟩:=h10.int_inv underlying2;rw[h11.nil_inv];exact⟨⟨r,x,y,l,z⟩,rfl,hl⟩
theorem Zom {p:PV} (h:PA prog 194 p):∃e:Pr,p=pr e:=by
 obtain⟨cs,rfl,h1⟩:=PA.agg ZmX h;have h1:PTs prog [9,9] cs:=h1.struct_inv underlying194;obtain⟨a,b,rfl,h2,h3⟩:=h1.cons_inv;obtain⟨c,d,rfl,h4,h5⟩:=h3.cons_inv;obtain⟨x,rfl,_⟩:=h2.string_inv underlying9;obtain⟨y,rfl,_⟩:=h4.string_inv underlying9;rw[h5.nil_inv];exact⟨⟨x,y⟩,rfl⟩
theorem ZnB {cs:List PV} (h:PT prog 31 cs):∃l:List Pr,cs= [.sl .no (l.map pr)]/\l.length<=maxLen:=by
 obtain⟨l,rfl,h1,h2⟩:=h.slice_inv Zp5 underlying31;obtain⟨xs,rfl,_⟩:=Tl (enc:=pr) (Q:=λ_=>True) (λp hp=>by
  obtain⟨s,rfl⟩:=Zom (h2 p hp);exact⟨s,rfl,trivial⟩)
 exact⟨xs,rfl,by simpa using h1⟩
def Zmu (x:Ln):List PV:= [.int .i64 x.kind,.int .i64 x.at'.sc,.str x.at'.gr,.str x.at'.nm,.str x.nm,.str x.ot,.int .i64 x.fac,.int .i64 x.fd.at'.sc,.str x.fd.at'.gr,.str x.fd.at'.nm,.int .i64 x.fd.kind,.str x.fd.df,.sl .no (x.fd.cases'.map .str),.int .i64 x.fd.worth,.sl .no (x.fo.map pr),.sl .no (x.ba.map pr)]
theorem Zoo {cs:List PV} (h:PT prog 33 cs):∃x:Ln,cs=Zmu x/\LenLn' x:=by
 have h1:PTs prog [3,27,9,9,2,30,31,31] cs:=h.struct_inv underlying33;obtain⟨a1,b1,rfl,h2,h3⟩:=h1.cons_inv;obtain⟨a2,b2,rfl,h4,h5⟩:=h3.cons_inv;obtain⟨a3,b3,rfl,h6,h7⟩:=h5.cons_inv;obtain⟨a4,b4,rfl,h8,h9⟩:=h7.cons_inv;obtain⟨a5,b5,rfl,h10,h11⟩:=h9.cons_inv;obtain⟨a6,b6,rfl,h12,h13⟩:=h11.cons_inv;obtain⟨a7,b7,rfl,h14,h15⟩:=h13.cons_inv;obtain⟨a8,b8,rfl,h16,h17⟩:=h15.cons_inv;obtain⟨x1,rfl,_⟩:=h2.int_inv underlying3;obtain⟨x2,rfl⟩:=Zkh h4;obtain⟨x3,rfl,_⟩:=h6.string_inv underlying9;obtain⟨x4,rfl,_⟩:=h8.string_inv underlying9;obtain⟨x5,rfl,_⟩:=h10.int_inv underlying2;obtain⟨x6,rfl,k6⟩:=Zqc h12;obtain⟨x7,rfl,k7⟩:=ZnB h14;obtain⟨x8,rfl,k8⟩:=ZnB h16;rw[h17.nil_inv];exact⟨⟨x1,x2,x3,x4,x5,x6,x7,x8⟩,rfl,⟨k6,k7,k8⟩⟩
theorem Zol {p:PV} (h:PA prog 82 p):∃e:Eg,p=eg e/\LenLn' e.ln:=by
 obtain⟨cs,rfl,h1⟩:=PA.agg ZoA h;have h1:PTs prog [25,25,33] cs:=h1.struct_inv underlying82;obtain⟨a1,b1,rfl,h2,h3⟩:=h1.cons_inv;obtain⟨a2,b2,rfl,h4,h5⟩:=h3.cons_inv;obtain⟨a3,b3,rfl,h6,h7⟩:=h5.cons_inv;obtain⟨x1,rfl⟩:=Zdq h2;obtain⟨x2,rfl⟩:=Zdq h4;obtain⟨x3,rfl,k3⟩:=Zoo h6;rw[h7.nil_inv];exact⟨⟨x1,x2,x3⟩,rfl,k3⟩
theorem pa_edges {p:PV} (h:PA prog 22 p):∃l:List Eg,p=egs l/\l.length<=maxLen/\ ∀e∈l,LenLn' e.ln:=by
 obtain⟨l,rfl,h1,h2⟩:=h.slice Zp3 underlying22;obtain⟨xs,rfl,h3⟩:=Tl (λp hp=>Zol (h2 p hp));exact⟨xs,rfl,by simpa using h1,h3⟩
theorem pa_tag {p:PV} (h:PA prog 25 p):∃t:Tg,p=tg t:=by
 obtain⟨cs,rfl,h1⟩:=PA.agg Zoy h;obtain⟨r,rfl⟩:=Zdq h1;exact⟨r,rfl⟩
end Go.Proofs.YtepchngegclagaaGreat
