/- Lemmas of the proof. -/
import Derived.Test.YtadgngamdofhiaaGreatPlH
import Derived.Test.YtadgngamdofhiaaGreatXAa
import Derived.Test.YtadgngamdofhiaaGreatXAo
import Derived.Test.YtadgngamdofhiaaGreatXBc
import Derived.ProofKit
open Inhabited renaming default→Jd
open Bool renaming true→Ht,false→Hf
open Go.Proofs.Tryz
open Go Go.PL
open Bool renaming false_and→Ja,and_eq_true→Je,true_eq_false→Jf,true_and→Jg,and_false→Jj,eq_iff_iff→Jo,and_self→Jr,eq_false_iff→JB,not_false→JC,or_eq_false_iff→JD,false_eq_true→JG,and_true→J5,not_true→J6,or_self→J9,or_true→Ka,true_or→Kb
open Classical renaming not_not→Kf
open Decidable renaming byContradiction→JI,not_not→Kg
open Int renaming mul_le_mul_of_nonneg_right→Jb,natCast_nonneg→Jc,reduceEq→Ji,mul_le_mul_of_nonneg_left→Js,mul_comm→JV,neg_mul→Ke
open List renaming mem_map→Jk,append_nil→Jl,getD_cons_zero→Jm,length_map→Jp,mem_of_mem_drop→Jq,getElem_of_mem→Jv,map_cons→Jw,map_append→Jy,mem_singleton→Jz,length_append→JF,nodup_iff_pairwise_ne→JH,pairwise_iff_getElem→JJ,take_add_one→JK,mem_reverse→JL,all_eq_true→JM,range→JN,take_append_drop→JO,length_filter_le→JP,map_congr_left→JR,map_map→JS,any_eq_false→JT,getElem_drop→JU,take_length→JW,length_drop→JX,length_take→JY,getElem_map→JZ,nodup_cons→J2,map_take→J4,map_nil→Kc
open Nat renaming zero_le→Jh,not_lt_zero→Jn,le_trans→J8
open PV renaming didsL→Jt,ids→Ju,dids→JE,givableL→JQ,giveL→J3,idsL→J7,sl→Kd
open Prod renaming mk→JA,ext→Kh
namespace Go.Proofs.YtadgngamdofhiaaGreat
set_option maxHeartbeats 64000000
set_option maxRecDepth 20000
set_option linter.unusedVariables false
set_option linter.unusedSimpArgs false
open Go.PL
def dn (e:Eg):Lg:=⟨e.id,Ht⟩
def upg (i:Tg):Lg:=⟨i,Hf⟩
def FU (p q:List Eg):List Lg:=((p.drop (lcp p q)).reverse.map λe=>upg e.id)++(q.drop (lcp p q)).map dn
theorem ZjD (p:List Eg) (c:Nat) (hc:c<=p.length):(upL p).take (p.length-c)=(p.drop c).reverse.map (·.id):=by
 unfold upL;rw[List.take_append_of_le_length (by simp),<-J4,List.take_reverse];congr 3;omega
def FV (x:List Lg×Int):PV:= .tup [lgs x.1,.int .i64 x.2]
theorem ZpF (l:List Lg):Jt (l.map lg)= []:=by
 induction l with
 |nil=>rfl
 |cons t l ih=>simp only[Jw,Jt,ih,lg,JE,Jl]
theorem Zp7 (l:List Lg):(lgs l).dids= []:=by simp only[lgs,JE,ZpF]
theorem SF (x:List Lg×Int):(FV x).dids= []:=by simp only[FV,JE,Jt,Zp7,Jl]
theorem Zag (l:List Lg):Sized 3 (l.map lg):=λe he=>by
 obtain⟨x,_,rfl⟩:=Jk.1 he;rfl
def Wx (m:List Eg) (a b:Tg):Int:=if upC m a≠0 then upC m a else upC m b
def Zet (m:List Eg) (a b:Tg):List Lg×Int:=if Wx m a b≠0 then([],Wx m a b)else(FU (WX m a) (WX m b),0)
theorem Vd {m:List Eg} {a b:Tg}:Wx m a b=0↔upC m a=0/\upC m b=0:=by
 unfold Wx;split;rename_i h;exact⟨λh'=>absurd h' h,λh'=>absurd h'.1 h⟩;rename_i h;exact⟨λh'=>⟨by simpa using h,h'⟩,λh'=>h'.2⟩
theorem ZoQ {m:List Eg} {a b:Tg} (h:Wx m a b≠0):ZlH m a b=⟨[],[],0,0,Wx m a b⟩:=by
 unfold ZlH Wx at *;split;rfl;rename_i h1;rw[if_neg h1]at h;rw[if_pos h]
theorem ZlI {m:List Eg} {a b:Tg} (h:Wx m a b=0):ZlH m a b=⟨upL (WX m a),upL (WX m b),(WX m a).length-lcp (WX m a) (WX m b),(WX m b).length-lcp (WX m a) (WX m b),0⟩:=by
 obtain⟨h1,h2⟩:=Vd.1 h;unfold ZlH;rw[if_neg (by simp[h1]),if_neg (by simp[h2])]
theorem SW {q:List Eg} {c s:Nat} (h:c+s<q.length):(q.drop c).take (s+1)=(q.drop c).take s++ [q.getD (c+s) Jd]:=by
 rw[JK];congr 1;rw[List.getElem?_drop,List.getElem?_eq_getElem h,getD_lt h];rfl
theorem ZlW (m:List Eg) (a b:Tg) (hm:OkM m):Pp 231 [tr (Zd m),tg a,tg b] (FV (Zet m a b)):=by
 have hW:=ZoR m a b hm;unfold Zet;by_cases hc:Wx m a b=0;rw[ZlI hc]at hW;obtain⟨ha,hb⟩:=Vd.1 hc;obtain⟨wa,_,_⟩:=YT ha;obtain⟨wb,_,_⟩:=YT hb;simp only[hc,ne_eq,not_true_eq_false,if_false];generalize WX m a=p at *;generalize WX m b=q at *;have hlc:=Zc8 p q;have hpl:p.length<=40:=by have:=wa.len;have:=hm.n;omega
 have hql:q.length<=40:=by have:=wb.len;have:=hm.n;omega
 unfold FU;have hut:=ZjD p (lcp p q) hlc.1;have hdl:(p.drop (lcp p q)).length=p.length-lcp p q:=by simp
 have hql':(q.drop (lcp p q)).length=q.length-lcp p q:=by simp
 generalize hids:(p.drop (lcp p q)).reverse.map (·.id)=ids at *;have hidl:ids.length=p.length-lcp p q:=by rw[<-hids];simp
 have hfst:((p.drop (lcp p q)).reverse.map λe=>upg e.id)=ids.map upg:=by rw[<-hids,JS];rfl
 rw[hfst];have hlen:ids.length<=maxLen:=by rw[Zb];omega
 have s0:IntKind.i64.wrap (((p.length-lcp p q:Nat):Int)+((q.length-lcp p q:Nat):Int))=((p.length-lcp p q+(q.length-lcp p q):Nat):Int):=by rw[w64 (by omega)];omega
 have hup:(upL p).length=p.length+1:=Wl p;refine Zx func231 rfl ntmps231 results231 (SF _) ?_;simp only[go_sem,tr,tg];refine ZeM (ι:= { s:Nat // s<=q.length-lcp p q }) 60 (λx=> [(9,tgs (upL q)),(11,.int .i64 ((q.length-lcp p q-x.1:Nat):Int)),(13,.sl (.row 58) ((ids.map upg++((q.drop (lcp p q)).take x.1).map dn).map lg))]) (λx=> []) (λx=> [(58,.live (ids.length+x.1) 3 257)]) (λx=>q.length-lcp p q-x.1) 0 _ (by exact rfl)
  (λx=>⟨Fc3 rfl rfl (by simp[Ju,ZX]),fnl⟩) (λx=> ?_) (λcut=> ?_)
 obtain⟨s,hs⟩:=x;simp only;by_cases hlt:s<q.length-lcp p q;have c1:(0:Int)<((q.length-lcp p q-s:Nat):Int):=by omega
 have w1:IntKind.i64.wrap (((q.length-lcp p q-s:Nat):Int)-1)=((q.length-(lcp p q+s)-1:Nat):Int):=by rw[w64 (by omega)];omega
 have k1:q.length-(lcp p q+s)-1<(upL q).length:=by rw[Wl];omega
 have b1:(0:Int)<=((q.length-(lcp p q+s)-1:Nat):Int):=by omega
 have b2:((q.length-(lcp p q+s)-1:Nat):Int)<((upL q).length:Int):=by omega
 have v1:=ZbR q (lcp p q+s) (by omega);have hrm:=Ya (show ids.length+s+1<=1000000 by omega) (show 24<=1000 by omega);have hsl:(ids.map upg++((q.drop (lcp p q)).take s).map dn).length=ids.length+s:=by simp;omega
 have hnx:=SW (q:=q) (c:=lcp p q) (s:=s) (by omega);simp only[go_sem,tgs,c1,w1,Z7 k1,v1,tg,b1,b2,Zag,hsl,hrm];refine⟨⟨s+1,by omega⟩,by show q.length-lcp p q-(s+1)<q.length-lcp p q-s;omega,⟨rfl,fcs rfl (fcs ?_ (fcs ?_ fnl)),fnl,fcs ?_ fnl⟩⟩;show PV.int .i64 _=PV.int .i64 _;congr 2;simp only;omega;show Kd (.row 58) _=Kd (.row 58) _;simp[hnx,dn,lg];rfl;obtain rfl:s=q.length-lcp p q:=by omega
 have c1:¬(0:Int)<((q.length-lcp p q-(q.length-lcp p q):Nat):Int):=by omega
 have htk:(q.drop (lcp p q)).take (q.length-lcp p q)=q.drop (lcp p q):=List.take_of_length_le (by omega);simp only[go_sem,tgs,c1,FV,lgs,htk]
 ·simp only[go_sem];refine vc5 hW ?_;simp only[go_sem,Zo5,tgs,s0];repeat((with_reducible refine And.intro ?_ ?_);(focus((repeat' (with_reducible apply And.intro))<;>(first|omega|exact Yw (by omega) (by omega)|exact Yw (by simp;omega) (by omega)|exact ZZ _|(simp;done)|(simp;omega)))))
  have htt:PL.cut (List.map tg (upL p)) 0 ((p.length-lcp p q:Nat):Int)=ids.map tg:=by simp[PL.cut,<-J4,hut]
  refine⟨⟨by omega,by omega,SQ _⟩,?_⟩;simp only[go_sem,htt];refine ZL 13 32 45 0 3 257 [] rfl rfl rfl ?_;refine Zs (ι:= { x:Nat // x<=(ids).length }) 60 (λx=> [(9,tgs (upL q)),(11,.int .i64 ((q.length-lcp p q:Nat):Int)),(13,.sl (.row 45) (((ids.take x.1).map upg).map lg)),(35,tgs ids),(36,.int .i64 (ids.length:Int)),(37,.int .i64 (x.1:Int))]) (λx=> []) (λx=> [(45,.live (x.1) (3) (257))]) (λx=>(ids).length-x.1) ⟨0,Jh _⟩ ⟨rfl,(Fc6 rfl rfl rfl rfl rfl rfl),fnl,(fcs rfl fnl)⟩ (λx=>⟨(Fc6 rfl rfl (by simp[Ju,ZX]) rfl rfl rfl),fnl⟩) (λx=> ?_);obtain⟨k,hk⟩:=x;simp only at hk ⊢;by_cases h:(k:Int)<(ids.length:Int)
  ·(have hka:k<(ids).length:=by omega);(have w1:=Xi hka (hlen));(have i1:=Jc k)
   have hts:ids.take (k+1)=ids.take k++ [ids.getD k Jd]:=by rw[JK,getD_lt hka];simp[hka]
   have hkl:(ids.take k).length=k:=by simp;omega
   have hrm:=Ya (show k+1<=1000000 by omega) (show 24<=1000 by omega);simp only[go_sem,h,tgs,Z7 hka,tg,i1,w1,Zag,hkl,hrm];exact⟨⟨k+1,by(try simp only);omega⟩,by show(ids).length-(k+1)<(ids).length-k;omega,⟨rfl,(Fc6 rfl rfl (by(show Kd _ _=Kd _ _;simp[hts,upg,lg])) rfl rfl rfl),fnl,(fcs rfl fnl)⟩⟩
  obtain rfl:k=ids.length:=by omega
  have htk:ids.take ids.length=ids:=JW;simp only[go_sem,h,htk];refine ZL 13 45 58 ids.length 3 257 ((ids.map upg).map lg) rfl rfl rfl ?_;exact YX (cut ⟨0,Jh _⟩ _ ⟨rfl,Fc3 rfl rfl (by simp[upd,St.with]),fnl,fcs (by simp[upd,Hp.setq,St.with]) fnl⟩)
 have hc':(Wx m a b !=0)=true:=by simpa using hc
 rw[ZoQ hc]at hW;simp only[ne_eq,hc,not_false_eq_true,if_true];refine Zx func231 rfl ntmps231 results231 (SF _) ?_;simp only[go_sem,tr,tg];refine TA ?_;simp only[go_sem];refine vc5 hW ?_;simp only[go_sem,Zo5,tgs,hc',FV,lgs]
open Go.PL
def awX:Ln:=⟨1,⟨1,[],[110,111,116,101]⟩,[109,101,109,111],[],0,Jd,[],[]⟩
def awA:Eg:=⟨⟨1,1⟩,Jd,awX⟩
theorem ZyN:OkLn awX:=⟨by decide,by decide,by decide⟩
theorem ZyP:ZeQ [] awA=([awA],0):=by decide+kernel
theorem okA:OkM [awA]:=by have:=Zr7 Gp (e:=awA) ZyN;rw[ZyP]at this;exact this
theorem Zek (m:List Eg) (a b:Tg) (hm:OkM m):(Zet m a b).1.length<=80:=by
 unfold Zet;split;simp;rename_i h;have h:=Vd.1 (by simpa using h);have w1:=(YT h.1).1.len;have w2:=(YT h.2).1.len;have:=hm.n;simp only[FU,JF,Jp,List.length_reverse,JX];omega
theorem okL {l:List Eg} (h:Zbb l 50=Hf):l.length<=50/\ ∀e∈l,OkLn e.ln:=by
 simp only[Zbb,JD,decide_eq_false_iff_not,JT]at h;exact⟨by omega,λe he=>ZnC (by simpa using h.2 e he)⟩
open Go.PL
theorem Zou (u v:List Eg):upL (u++v)=v.reverse.map (·.id)++upL u:=by simp[upL]
def TL (p q:List Eg):Tg:=(upL (p.take (lcp p q))).getD 0 Jd
theorem ZjA (p q:List Eg):(upL p).getD (p.length-lcp p q) Jd=TL p q:=by
 have h:=Zou (p.take (lcp p q)) (p.drop (lcp p q));rw[JO]at h;have hl:((p.drop (lcp p q)).reverse.map (·.id)).length=p.length-lcp p q:=by simp
 rw[h,Zk (by omega),hl,Nat.sub_self];rfl
def Zr3 (m:List Eg) (a b:Tg):Tg×Int:=if Wx m a b≠0 then(Jd,Wx m a b)else(TL (WX m a) (WX m b),0)
def tgc (x:Tg×Int):PV:= .tup [tg x.1,.int .i64 x.2]
theorem WS (x:Tg×Int):(tgc x).dids= []:=by simp only[tgc,JE,Jt,Zom,Jl]
theorem SS:tg Jd= .agg [.int .i64 0,.int .i64 0]:=rfl
open Go.PL
theorem Znf {m:List Eg} {a b:Tg} (h:Wx m a b=0) (ha:Apart m):∀x∈FU (WX m a) (WX m b),∃e,e∈m/\XC m x.id=some e/\x.id=e.id:=by
 obtain⟨h1,h2⟩:=Vd.1 h;obtain⟨wa,_,_⟩:=YT h1;obtain⟨wb,_,_⟩:=YT h2;intro x hx;have key:∀e∈m,∃e',e'∈m/\XC m e.id=some e'/\e.id=e'.id:=λe he=>⟨e,he,ha.find he,rfl⟩
 unfold FU at hx;rcases List.mem_append.1 hx with hx|hx;obtain⟨e,he,rfl⟩:=Jk.1 hx;exact key e (wa.mem e (Jq (JL.1 he)));obtain⟨e,he,rfl⟩:=Jk.1 hx;exact key e (wb.mem e (Jq he))
def U0 (m:List Eg) (l:List Lg):List Ln:=l.map λx=>(Zbf m x).1
def FM (m:List Eg) (a b:Tg):List Ln×Int:=if Wx m a b≠0 then([],Wx m a b)else(U0 m (FU (WX m a) (WX m b)),0)
def G5 (l:List Ln):PV:= .sl .no (l.map lns)
def Zi9 (x:List Ln×Int):PV:= .tup [G5 x.1,.int .i64 x.2]
theorem Zng (l:List Ln):(G5 l).dids= []:=by
 unfold G5;simp only[JE];induction l with
 |nil=>rfl
 |cons e l ih=>simp only[Jw,Jt,ih,Zac,Jl]
theorem G4 (x:List Ln×Int):(Zi9 x).dids= []:=by simp only[Zi9,JE,Jt,Zng,Jl]
theorem Zjs (l:List Ln):Sized 16 (l.map lns):=λe he=>by
 obtain⟨x,_,rfl⟩:=Jk.1 he;rfl
theorem Zd6 {l:List Ln} {i:Nat} (h:i<l.length):(l.map lns).getD i .any=lns (l.getD i Jd):=XR h
theorem Zo9 (m:List Eg) (a b:Tg) (hm:OkM m) (hr:RightM m):Pp 204 [tr (Zd m),tg a,tg b] (Zi9 (FM m a b)):=by
 have hP:=ZlW m a b hm;have hll:=Zek m a b hm;unfold FM;unfold Zet at hP hll;by_cases hc:Wx m a b=0
 ·have hin:=Znf hc hm.a;simp only[hc,ne_eq,not_true_eq_false,if_false]at hP hll ⊢;generalize FU (WX m a) (WX m b)=legs at *;have hlm:legs.length<=maxLen:=by rw[Zb];omega
  refine Zx func204 rfl ntmps204 results204 (G4 _) ?_;simp only[go_sem,tr,tg];refine vc5 hP ?_;simp only[go_sem,FV,lgs];repeat((with_reducible refine And.intro ?_ ?_);(focus((repeat' (with_reducible apply And.intro))<;>(first|omega|exact Yw (by omega) (by omega)|exact Yw (by simp;omega) (by omega)|exact ZZ _|(simp;done)|(simp;omega)))))
  refine ZL 10 27 46 0 16 76 [] rfl rfl rfl ?_;refine Zs (ι:= { x:Nat // x<=(legs).length }) 49 (λx=> [(0,tr (Zd m)),(10,.sl (.row 46) ((U0 m (legs.take x.1)).map lns)),(28,lgs legs),(29,.int .i64 (legs.length:Int)),(30,.int .i64 (x.1:Int))]) (λx=> []) (λx=> [(46,.live (x.1) (16) (76))]) (λx=>(legs).length-x.1) ⟨0,Jh _⟩ ⟨rfl,(Fc5 rfl rfl rfl rfl rfl),fnl,(fcs rfl fnl)⟩ (λx=>⟨(Fc5 rfl (by simp[Ju,ZX]) rfl rfl rfl),fnl⟩) (λx=> ?_);obtain⟨k,hk⟩:=x;simp only at hk ⊢;by_cases h:(k:Int)<(legs.length:Int)
  ·(have hka:k<(legs).length:=by omega);(have w1:=Xi hka (hlm));(have i1:=Jc k)
   obtain⟨e,he,hfe,_⟩:=hin _ (Ze (d:=Jd) hka);have hL:=Zkg m (legs.getD k Jd) hm hr;have hz:(Zbf m (legs.getD k Jd)).2=0:=by unfold Zbf;rw[hfe];simp only;split<;>rfl
   have hts:legs.take (k+1)=legs.take k++ [legs.getD k Jd]:=by rw[JK,getD_lt hka];simp[hka]
   have hkl:(U0 m (legs.take k)).length=k:=by simp[U0];omega
   have hrm:=Ya (show k+1<=1000000 by omega) (show 232<=1000 by omega);simp only[go_sem,tr,h,lgs,ZmS hka,lg,i1];refine vc5 hL ?_;simp only[go_sem,lnc,hz,lns,Zjs,hkl,hrm,w1];exact⟨⟨k+1,by(try simp only);omega⟩,by show(legs).length-(k+1)<(legs).length-k;omega,⟨rfl,(Fc5 rfl (by(show Kd _ _=Kd _ _;simp[hts,U0,lns])) rfl rfl rfl),fnl,(fcs rfl fnl)⟩⟩
  obtain rfl:k=legs.length:=by omega
  have htk:legs.take legs.length=legs:=JW;simp only[go_sem,h,htk,Zi9,G5]
 have hc':(Wx m a b !=0)=true:=by simpa using hc
 simp only[ne_eq,hc,not_false_eq_true,if_true]at hP ⊢;refine Zx func204 rfl ntmps204 results204 (G4 _) ?_;simp only[go_sem,tr,tg];refine vc5 hP ?_;simp only[go_sem,FV,lgs,hc',Zi9,G5]
open Go.PL
theorem ZnW {x:Ln} (h:ZI x=Ht) (hk:x.kind=1\/x.kind=2\/x.kind=3\/x.kind=4\/x.kind=5\/x.kind=6\/x.kind=7\/x.kind=8\/x.kind=9\/x.kind=10):ZI (Zab x)=true:=by
 obtain⟨kind,⟨sc,gr,n0⟩,nm,ot,fac,fd,fo,ba⟩:=x;simp only at hk;rcases hk with rfl|rfl|rfl|rfl|rfl|rfl|rfl|rfl|rfl|rfl
 all_goals
  simp[ZI,Zab,X6,Gu]at h ⊢
  (try(simp_all;done))
  (try(obtain⟨h1,h2⟩:=h;simp_all;done))
 obtain⟨⟨⟨g1,g2,g3⟩,g4⟩,g5,g6,g7,g8,g9⟩:=h;exact⟨⟨⟨g1,g2,.inr g9⟩,g4⟩,g5,g6,g7,λe=>by subst e;exact absurd g9 (by decide)⟩
theorem ZmG (f:Fd) (r:Rf) (h:f.at'=r):(⟨r,f.kind,f.df,f.cases',f.worth⟩:Fd)=f:=by subst h;rfl
theorem Zt2 {f:Fd} (h:Z1 f=Ht) (hk:f.kind=1):f=⟨f.at',1,[],[],f.worth⟩:=by
 obtain⟨a,k,d,c,w⟩:=f;simp only at hk;subst hk;simp[Z1]at h;simp_all
theorem Zt3 {f:Fd} (h:Z1 f=Ht) (hk:f.kind=2):f=⟨f.at',2,f.df,[],0⟩:=by
 obtain⟨a,k,d,c,w⟩:=f;simp only at hk;subst hk;simp[Z1,Zih]at h;simp_all
theorem Zfh {l m:List Fd} {x:Ln} (hk:x.kind<=8) (h:ZR l x=(m,0)):ZR m (Zab x)=(l,0):=by
 obtain⟨hl,hx,cs,l1,h1,h2,h3⟩:=XI h;have hkind:x.kind=1\/x.kind=2\/x.kind=3\/x.kind=4\/x.kind=5\/x.kind=6\/x.kind=7\/x.kind=8:=by
  have:=(Yi hx).1;omega
 have hy:=ZnW hx (by omega);obtain⟨r1,r2,r3⟩:=Z3.1 hl;obtain⟨a1,a2,a3,a4,a5⟩:=T3 hl h2;obtain⟨b1,b2,b3,b4,b5⟩:=Vk a1 h3;have hm:=(Z3.1 b1).2.1;have find1:∀ {r:Rf},(ZD l r).2=0->(ZD l r).1∈l/\(ZD l r).1.at'=r:=λh=>YI h
 obtain⟨kind,⟨sc,gr,n0⟩,nm,ot,fac,fd,fo,ba⟩:=x;simp only at hkind;rcases hkind with rfl|rfl|rfl|rfl|rfl|rfl|rfl|rfl
 -- rename
 simp only[XZ,Zc,Zf,Ji,if_false,if_true,Jm]at h1;split at h1;cases h1;rename_i hz;simp only[JA.injEq,and_true]at h1;obtain⟨f1,f2⟩:=find1 (by simpa using hz);generalize (ZD l ⟨sc,gr,n0⟩).1=f at *;subst h1;refine T5 hl h2 h3 hy (gs:= [f]) rfl ?_ (by simpa using f1) (by simp[Zt,f2]);have hc:=YR hm ((b2 ⟨⟨sc,gr,nm⟩,f.kind,f.df,f.cases',f.worth⟩).2 (.inr (by simp)));simp only[XZ,Zab,Zc,Zf,Ji,if_false,if_true,Jm,hc,ne_eq,not_true_eq_false];rw[ZmG f _ f2]
 -- add
 simp only[XZ,Ji,if_true,JA.injEq,and_true]at h1;subst h1;have hc:=YR hm ((b2 fd).2 (.inr (by simp)));refine T5 hl h2 h3 hy (gs:= []) rfl ?_ (by simp) rfl;simp[XZ,Zab,hc]
 -- remove
 simp only[XZ,Ji,if_false,if_true,JA.injEq,Je,decide_eq_true_eq]at h1;obtain⟨rfl,h4,h5⟩:=h1;obtain⟨f1,f2⟩:=find1 h4;rw[h5]at f1;exact T5 hl h2 h3 hy (gs:= [fd]) rfl (by simp[XZ,Zab]) (by simpa using f1) rfl
 -- hoist
 simp only[XZ,Zc,Ji,if_false,if_true,Jm]at h1;split at h1;cases h1;rename_i hz;simp only[JA.injEq,and_true]at h1;obtain⟨f1,f2⟩:=find1 (by simpa using hz);generalize (ZD l ⟨sc,gr,n0⟩).1=f at *;subst h1;refine T5 hl h2 h3 hy (gs:= [f]) rfl ?_ (by simpa using f1) (by simp[Zt,f2]);have hc:=YR hm ((b2 ⟨⟨sc,[],n0⟩,f.kind,f.df,f.cases',f.worth⟩).2 (.inr (by simp)));simp only[XZ,Zab,Zc,Zf,Ji,if_false,if_true,Jm,hc,ne_eq,not_true_eq_false];rw[ZmG f _ f2]
 -- plunge
 have hg:gr= []:=by simp[ZI]at hx;exact hx.2.2.2.2.1
 subst hg;simp only[XZ,Zc,Ji,if_false,if_true,Jm]at h1;split at h1;cases h1;rename_i hz;simp only[JA.injEq,and_true]at h1;obtain⟨f1,f2⟩:=find1 (by simpa using hz);generalize (ZD l ⟨sc,[],n0⟩).1=f at *;subst h1;refine T5 hl h2 h3 hy (gs:= [f]) rfl ?_ (by simpa using f1) (by simp[Zt,f2]);have hc:=YR hm ((b2 ⟨⟨sc,nm,n0⟩,f.kind,f.df,f.cases',f.worth⟩).2 (.inr (by simp)));simp only[XZ,Zab,Zc,Zf,Ji,if_false,if_true,Jm,hc,ne_eq,not_true_eq_false];rw[ZmG f _ f2]
 -- split
 simp only[XZ,Zf,Ji,if_false,if_true]at h1;split at h1;cases h1;rename_i hz;simp only[JA.injEq,decide_eq_true_eq]at h1;obtain⟨h1,h4⟩:=h1;obtain⟨f1,f2⟩:=find1 (by simpa using hz);generalize (ZD l ⟨sc,gr,n0⟩).1=f at *;subst h1;have hf:=Zt2 (r3 f f1) h4;rw[f2]at hf;refine T5 hl h2 h3 hy (gs:= [f]) rfl ?_ (by simpa using f1) (by simp[Zt,f2]);have hc:=YR hm ((b2 ⟨⟨sc,gr,nm⟩,1,[],[],f.worth⟩).2 (.inr (by simp)));have hd:=YR hm ((b2 ⟨⟨sc,gr,ot⟩,1,[],[],IntKind.i64.wrap (f.worth*fac)⟩).2 (.inr (by simp)));simp only[XZ,Ub,Zab,Zf,Ji,if_false,if_true,hc,hd,ne_eq,not_true_eq_false,or_self];rw[<-hf]
 -- wrap
 simp only[XZ,Ji,if_false,if_true]at h1;split at h1;cases h1;rename_i hz;simp only[JA.injEq,Je,decide_eq_true_eq]at h1;obtain⟨h1,h4,h5⟩:=h1;obtain⟨f1,f2⟩:=find1 (by simpa using hz);generalize (ZD l ⟨sc,gr,n0⟩).1=f at *;subst h1;have hf:=Zt3 (r3 f f1) h4;rw[f2,h5]at hf;refine T5 hl h2 h3 hy (gs:= [f]) rfl ?_ (by simpa using f1) (by simp[Zt,f2]);have hc:=YR hm ((b2 ⟨⟨sc,gr,n0⟩,4,[],[],0⟩).2 (.inr (by simp)));simp only[XZ,Zab,Ji,if_false,if_true,hc,ne_eq,not_true_eq_false,decide_true];rw[<-hf]
 -- convert
 simp only[XZ,Ji,if_false,if_true]at h1;split at h1;cases h1;rename_i hz;simp only[JA.injEq,decide_eq_true_eq]at h1;obtain⟨h1,h4⟩:=h1;obtain⟨f1,f2⟩:=find1 (by simpa using hz);generalize (ZD l ⟨sc,gr,n0⟩).1=f at *;subst h1;refine T5 hl h2 h3 hy (gs:= [f]) rfl ?_ (by simpa using f1) (by simp[Zt,f2]);have hc:=YR hm ((b2 ⟨⟨sc,gr,n0⟩,3,ot,Yt ba,0⟩).2 (.inr (by simp)));simp only[XZ,Zab,Ji,if_false,if_true,hc,ne_eq,not_true_eq_false,decide_true];rw[h4]
open Go.PL
def Xd (w:Int):Int:=(4503599627370496:Int).tdiv w
theorem Gm {w:Int} (h:1<=w):0<=Xd w/\Xd w<=4503599627370496/\Xd w*w<=4503599627370496/\4503599627370496<(Xd w+1)*w:=by
 unfold Xd;have e:(4503599627370496:Int).tdiv w=(4503599627370496:Int) / w:=Int.tdiv_eq_ediv_of_nonneg (by omega);rw[e];have h1:(4503599627370496:Int) / w*w<=4503599627370496:=Int.ediv_mul_le _ (by omega);have h2:=Int.lt_ediv_add_one_mul_self 4503599627370496 (show 0<w by omega);have h3:0<=(4503599627370496:Int) / w:=Int.ediv_nonneg (by omega) (by omega);have h4:(4503599627370496:Int) / w<=4503599627370496:=Int.ediv_le_self _ (by omega);exact⟨h3,h4,h1,h2⟩
def UZ (u p f:Int):Int×Int:=
 if ¬(2<=f/\f<=1000)then(0,2)else if p < - Xd f\/Xd f<p then(0,3)
 else if YN (IntKind.i64.wrap (u+IntKind.i64.wrap (f*p)))=Ht then(IntKind.i64.wrap (u+IntKind.i64.wrap (f*p)),0)else(0,3)
def ZrX (x:Int×Int):PV:= .tup [.int .i64 x.1,.int .i64 x.2]
theorem TD {n:Int} (h: -9223372036854775808<=n/\n<=9223372036854775807):IntKind.i64.wrap n=n:=w64 (by omega)
theorem ZjW (u p f:Int) (hu:Lim u) (hp:Lim p):Pp 258 [.cpx .f64 (WU u) (WU p),.int .i64 f] (ZrX (UZ u p f)):=by
 have hF:=Zas f;have hP:=Sv u p hu hp;have hA:=Zme (IntKind.i64.wrap (u+IntKind.i64.wrap (f*p)));unfold UZ;by_cases hf:2<=f/\f<=1000;have e1:(decide (2<=f)&&decide (f<=1000))=true:=by simpa using hf
 rw[e1]at hF;rw[if_neg (λh=>h hf)];have ms:=Gm (w:=f) (by omega);have q1:IntKind.i64.wrap ((4503599627370496:Int).tdiv f)=Xd f:=TD (by unfold Xd at ms;omega);have q2:IntKind.i64.wrap (0-Xd f)= - Xd f:=by rw[TD (by omega)];omega
 have fz:f≠0:=by omega
 by_cases c1:p < - Xd f;rw[if_pos (.inl c1)];refine Zx func258 rfl ntmps258 results258 (rfl) ?_;simp only[go_sem];refine vc1 hF ?_;simp only[go_sem];refine vc1 hP ?_;simp only[go_sem,q1,q2,fz,c1,ZrX];by_cases c2:Xd f<p;rw[if_pos (.inr c2)];refine Zx func258 rfl ntmps258 results258 (rfl) ?_;simp only[go_sem];refine vc1 hF ?_;simp only[go_sem];refine vc1 hP ?_;simp only[go_sem,q1,q2,fz,c1,c2,ZrX];rw[if_neg (by omega)];cases ha:YN (IntKind.i64.wrap (u+IntKind.i64.wrap (f*p)));rw[ha]at hA;simp only[JG,if_false];refine Zx func258 rfl ntmps258 results258 (rfl) ?_;simp only[go_sem];refine vc1 hF ?_;simp only[go_sem];refine vc1 hP ?_;simp only[go_sem,q1,q2,fz,c1,c2];refine vc1 hA ?_;simp only[go_sem,ZrX];rw[ha]at hA;simp only[if_true];refine Zx func258 rfl ntmps258 results258 (rfl) ?_;simp only[go_sem];refine vc1 hF ?_;simp only[go_sem];refine vc1 hP ?_;simp only[go_sem,q1,q2,fz,c1,c2];refine vc1 hA ?_;simp only[go_sem,ZrX];have e1:(decide (2<=f)&&decide (f<=1000))=false:=by rw[JB];simpa using hf
 rw[e1]at hF;rw[if_pos hf];refine Zx func258 rfl ntmps258 results258 (rfl) ?_;simp only[go_sem];refine vc1 hF ?_;simp only[go_sem,ZrX]
structure OkOp (o:Opn):Prop where
 d:o.drops.length<=1000000
theorem Wc (o:Opn) (ho:OkOp o):Pp 233 [opv o] (opv o):=by
 have hr:=Ya ho.d (show 16<=1000 by omega);refine Zx func233 rfl ntmps233 results233 (Da _) ?_;simp only[go_sem,opv,SQ,ZiL,hr]
def Y3 (o:Opn) (i f:Int):Int×Bool:=if o.kind≠3 then(0,Hf)else if i=0 then(o.delta,Ht)else if YN o.delta=Ht then((UZ 0 o.delta f).1,decide ((UZ 0 o.delta f).2=0))else(0,Hf)
def ZpY (x:Int×Bool):PV:= .tup [.int .i64 x.1,.bool x.2]
theorem Zgu (o:Opn) (i f:Int):Pp 251 [opv o,.int .i64 i,.int .i64 f] (ZpY (Y3 o i f)):=by
 unfold Y3;by_cases k3:o.kind=3;have e3:(o.kind !=3)=false:=by simpa using k3
 rw[if_neg (λh=>h k3)];by_cases i0:i=0;have ei:(i==0)=true:=by simpa using i0
 rw[if_pos i0];refine Zx func251 rfl ntmps251 results251 (rfl) ?_;simp only[go_sem,opv,e3,ei,ZpY];have ei:(i==0)=false:=by simpa using i0
 rw[if_neg i0];have hO:=ZgZ 0 o.delta;have f0:YN 0=true:=by decide
 cases hd:YN o.delta;rw[if_neg (by rw[hd];simp)]at hO;simp only[JG,if_false];refine Zx func251 rfl ntmps251 results251 (rfl) ?_;simp only[go_sem,opv,e3,ei];refine vc1 hO ?_;simp only[go_sem,ZpY];rw[if_pos ⟨f0,hd⟩]at hO;have hJ:=ZjW 0 o.delta f (Ys.1 f0) (Ys.1 hd);simp only[if_true];generalize UZ 0 o.delta f=y at *;obtain⟨n,c⟩:=y;have ec:(c==0)=decide (c=0):=by rw[Jo];simp
 refine Zx func251 rfl ntmps251 results251 (rfl) ?_;simp only[go_sem,opv,e3,ei];refine vc1 hO ?_;simp only[go_sem];refine vc1 hJ ?_;simp only[go_sem,ZrX,ec,ZpY];have e3:(o.kind !=3)=true:=by simpa using k3
 rw[if_pos k3];refine Zx func251 rfl ntmps251 results251 (rfl) ?_;simp only[go_sem,opv,e3,ZpY]
def Vz (o:Opn) (fo:List Pr):Str×Bool:=if o.kind≠4 then([],Hf)else if o.has=Hf then(o.text,Ht)else Xj fo o.text
theorem Zlc (o:Opn) (fo:List Pr) (hf:fo.length<=maxLen):Pp 252 [opv o,prs fo] (Zb0 (Vz o fo)):=by
 have hC:=Gy fo o.text hf;unfold Vz;obtain⟨id,sch,time,cart,kind,item,at',delta,has,text,drops⟩:=o;simp only at hC ⊢;by_cases k4:kind=4;have e4:(kind !=4)=false:=by simpa using k4
 rw[if_neg (λh=>h k4)];cases has;refine Zx func252 rfl ntmps252 results252 (rfl) ?_;simp only[go_sem,opv,prs,e4,Zb0,if_true];simp only[Jf,if_false];generalize Xj fo text=y at *;obtain⟨s,b⟩:=y;refine Zx func252 rfl ntmps252 results252 (rfl) ?_;simp only[go_sem,opv,prs,e4];refine vc3 hC ?_;simp only[go_sem,Zb0];have e4:(kind !=4)=true:=by simpa using k4
 rw[if_pos k4];refine Zx func252 rfl ntmps252 results252 (rfl) ?_;simp only[go_sem,opv,prs,e4,Zb0]
def Zv (o:Opn) (r:Rf):Opn:=⟨o.id,o.sch,o.time,o.cart,o.kind,o.item,r,o.delta,o.has,o.text,o.drops⟩
def Yc (o:Opn) (d:Int):Opn:=⟨o.id,o.sch,o.time,o.cart,o.kind,o.item,o.at',d,o.has,o.text,o.drops⟩
def YU (o:Opn) (s:Str):Opn:=⟨o.id,o.sch,o.time,o.cart,o.kind,o.item,o.at',o.delta,o.has,s,o.drops⟩
theorem vcn {x:Bool} {M:KH} {g:FuncId} {args args':List PV} {K:KR} {r:PV} (h1:Pp g args' r) (h2:K.k r M.m) (h0:JQ M.m args:=by first|(simp only[go_sem,ref,ent,Yd,doc,Yo,row,Zh,fld,lns,tg,refs,prs,pr,eg,egs,tgs,lg,lgs,Zf,opv,tr,Zv,Yc,YU];done)|exact rfl) (he:J3 M.m args=args':=by first|(simp only[go_sem,ref,ent,Yd,doc,Yo,row,Zh,fld,lns,tg,refs,prs,pr,eg,egs,tgs,lg,lgs,Zf,opv,tr,Zv,Yc,YU];done)|exact rfl):@U9 prog x M (some (g,args)) K:=YD h1 h0 he h2
def Zj (x:Ln) (o:Opn):Opn×Bool:=
 if x.kind=1\/x.kind=4\/x.kind=5 then(o,Ht)
 else if x.kind=6 then(o,decide (o.kind=3))
 else if x.kind=9 then(Yc o (Y3 o (Yf (Zt x) o.at') x.fac).1,(Y3 o (Yf (Zt x) o.at') x.fac).2)
 else if x.kind=7\/x.kind=10 then(o,decide (o.kind=4))
 else if x.kind=8 then(YU o (Vz o x.fo).1,(Vz o x.fo).2)
 else(o,Hf)
def XS (x:Ln) (o:Opn):Opn×Bool:=
 if ZI x=Hf then(Jd,Hf)else if o.kind≠3/\o.kind≠4 then(o,Ht)else if Yf (Zt x) o.at'<0 then(o,Ht)
 else if(Zj x o).2=Hf then(Jd,Hf)else(Zv (Zj x o).1 ((Zc x).getD 0 Jd),Ht)
theorem ZlV (x:Ln) (o:Opn) (hx:OkLn x) (ho:OkOp o):Pp 234 [lns x,opv o] (opb (XS x o)):=by
 have hR:=WY x hx;have hO:=Wc o ho;unfold XS;cases hlr:ZI x;rw[hlr]at hR;refine Zx func234 rfl ntmps234 results234 (Zo _) ?_;simp only[go_sem,lns,opv];refine vc3 hR ?_;simp only[go_sem,if_true,opb,Zz];have hk:=(Yi hlr).1;rw[hlr]at hR;simp only[Jf,if_false];by_cases hp:o.kind≠3/\o.kind≠4;rw[if_pos hp];have e1:(o.kind !=3)=true:=by simpa using hp.1
 have e2:(o.kind !=4)=true:=by simpa using hp.2
 refine Zx func234 rfl ntmps234 results234 (Zo _) ?_;simp only[go_sem,lns,opv];refine vc3 hR ?_;simp only[go_sem,e1,e2,opv];refine vc6 hO ?_;simp only[go_sem,opb,opv];rw[if_neg hp];have hG:=Zau x hx;have hC:=Zco x hx;have hg:ZfR x=Zt x:=by simp[ZfR,hlr]
 have hc:ZcI x=Zc x:=by simp[ZcI,hlr]
 rw[hg]at hG;rw[hc]at hC;have hI:Pp 250 [refs (Zt x),ref o.at'] (.int .i64 (Yf (Zt x) o.at')):=ZgW (Zt x) o.at' (by have:=Zba x;rw[Zb];omega);have pl:((o.kind !=3)=Ht/\(o.kind !=4)=Hf)\/(o.kind !=3)=false:=by
  by_cases k3:o.kind=3;right;simpa using k3;left;refine⟨by simpa using k3,?_⟩;simp only[bne_eq_false_iff_eq];exact JI λh=>hp ⟨k3,h⟩
 by_cases hi:Yf (Zt x) o.at'<0;rw[if_pos hi];rcases pl with ⟨e1,e2⟩|e1;refine Zx func234 rfl ntmps234 results234 (Zo _) ?_;simp only[go_sem,lns,opv];refine vc3 hR ?_;simp only[go_sem,e1,e2,lns];refine vDq ?_;simp only[go_sem,lns,opv];refine vc3 hG ?_;simp only[go_sem,refs];refine vc3 hI ?_;simp only[go_sem,hi,opv];refine vc6 hO ?_;simp only[go_sem,opb,opv];refine Zx func234 rfl ntmps234 results234 (Zo _) ?_;simp only[go_sem,lns,opv];refine vc3 hR ?_;simp only[go_sem,e1,lns];refine vDq ?_;simp only[go_sem,lns,opv];refine vc3 hG ?_;simp only[go_sem,refs];refine vc3 hI ?_;simp only[go_sem,hi,opv];refine vc6 hO ?_;simp only[go_sem,opb,opv];rw[if_neg hi];have hM:=Zgu o (Yf (Zt x) o.at') x.fac;have hV:=Zlc o x.fo (by have:=hx.f;rw[Zb];omega);obtain⟨kind,at',nm,ot,fac,fd,fo,ba⟩:=x;simp only at hk hM hV;rcases hk with rfl|rfl|rfl|rfl|rfl|rfl|rfl|rfl|rfl|rfl;have hne:(Zc ⟨1,at',nm,ot,fac,fd,fo,ba⟩).length≠0:=by unfold Zc;simp
 have hc0:0<(Zc ⟨1,at',nm,ot,fac,fd,fo,ba⟩).length:=by omega
 have hc1:(0:Int)<((Zc ⟨1,at',nm,ot,fac,fd,fo,ba⟩).length:Int):=by omega
 have hc2:(((Zc ⟨1,at',nm,ot,fac,fd,fo,ba⟩).map ref).getD 0 .any)=ref ((Zc ⟨1,at',nm,ot,fac,fd,fo,ba⟩).getD 0 Jd):=Ym hc0;generalize Zc ⟨1,at',nm,ot,fac,fd,fo,ba⟩=comes at *;have hb:Zj ⟨1,at',nm,ot,fac,fd,fo,ba⟩ o=(o,Ht):=by simp[Zj]
 rw[hb];simp only[Jf,if_false];have hO2:=Wc (Zv o (comes.getD 0 Jd)) ⟨ho.d⟩;rcases pl with ⟨e1,e2⟩|e1;refine Zx func234 rfl ntmps234 results234 (Zo _) ?_;simp only[go_sem,lns,opv];refine vc3 hR ?_;simp only[go_sem,e1,e2,lns];refine vDq ?_;simp only[go_sem,lns,opv];refine vc3 hG ?_;simp only[go_sem,refs];refine vc3 hI ?_;simp only[go_sem,hi,opv,lns];refine vc3 hC ?_;simp only[go_sem,refs,hc1,hc2,ref,opv,Zv,Yc,YU];refine vcn hO2 ?_;simp only[go_sem,opb,opv,Zv,Yc,YU];refine Zx func234 rfl ntmps234 results234 (Zo _) ?_;simp only[go_sem,lns,opv];refine vc3 hR ?_;simp only[go_sem,e1,lns];refine vDq ?_;simp only[go_sem,lns,opv];refine vc3 hG ?_;simp only[go_sem,refs];refine vc3 hI ?_;simp only[go_sem,hi,opv,lns];refine vc3 hC ?_;simp only[go_sem,refs,hc1,hc2,ref,opv,Zv,Yc,YU];refine vcn hO2 ?_;simp only[go_sem,opb,opv,Zv,Yc,YU];exfalso;have:Zt ⟨2,at',nm,ot,fac,fd,fo,ba⟩= []:=by simp[Zt]
 rw[this]at hi;exact hi (by show(-1:Int)<0;omega);have hb:Zj ⟨3,at',nm,ot,fac,fd,fo,ba⟩ o=(o,Hf):=by simp[Zj]
 rw[hb];simp only[if_true];rcases pl with ⟨e1,e2⟩|e1
 ·refine Zx func234 rfl ntmps234 results234 (Zo _) ?_;simp only[go_sem,lns,opv];refine vc3 hR ?_;simp only[go_sem,e1,e2,lns];refine vDq ?_;simp only[go_sem,lns,opv];refine vc3 hG ?_;simp only[go_sem,refs];refine vc3 hI ?_;simp only[go_sem,hi,opv,lns]
  (try simp only[go_sem,opb,Zz])
 ·refine Zx func234 rfl ntmps234 results234 (Zo _) ?_;simp only[go_sem,lns,opv];refine vc3 hR ?_;simp only[go_sem,e1,lns];refine vDq ?_;simp only[go_sem,lns,opv];refine vc3 hG ?_;simp only[go_sem,refs];refine vc3 hI ?_;simp only[go_sem,hi,opv,lns]
  (try simp only[go_sem,opb,Zz])
 have hne:(Zc ⟨4,at',nm,ot,fac,fd,fo,ba⟩).length≠0:=by unfold Zc;simp
 have hc0:0<(Zc ⟨4,at',nm,ot,fac,fd,fo,ba⟩).length:=by omega
 have hc1:(0:Int)<((Zc ⟨4,at',nm,ot,fac,fd,fo,ba⟩).length:Int):=by omega
 have hc2:(((Zc ⟨4,at',nm,ot,fac,fd,fo,ba⟩).map ref).getD 0 .any)=ref ((Zc ⟨4,at',nm,ot,fac,fd,fo,ba⟩).getD 0 Jd):=Ym hc0;generalize Zc ⟨4,at',nm,ot,fac,fd,fo,ba⟩=comes at *;have hb:Zj ⟨4,at',nm,ot,fac,fd,fo,ba⟩ o=(o,Ht):=by simp[Zj]
 rw[hb];simp only[Jf,if_false];have hO2:=Wc (Zv o (comes.getD 0 Jd)) ⟨ho.d⟩;rcases pl with ⟨e1,e2⟩|e1;refine Zx func234 rfl ntmps234 results234 (Zo _) ?_;simp only[go_sem,lns,opv];refine vc3 hR ?_;simp only[go_sem,e1,e2,lns];refine vDq ?_;simp only[go_sem,lns,opv];refine vc3 hG ?_;simp only[go_sem,refs];refine vc3 hI ?_;simp only[go_sem,hi,opv,lns];refine vc3 hC ?_;simp only[go_sem,refs,hc1,hc2,ref,opv,Zv,Yc,YU];refine vcn hO2 ?_;simp only[go_sem,opb,opv,Zv,Yc,YU];refine Zx func234 rfl ntmps234 results234 (Zo _) ?_;simp only[go_sem,lns,opv];refine vc3 hR ?_;simp only[go_sem,e1,lns];refine vDq ?_;simp only[go_sem,lns,opv];refine vc3 hG ?_;simp only[go_sem,refs];refine vc3 hI ?_;simp only[go_sem,hi,opv,lns];refine vc3 hC ?_;simp only[go_sem,refs,hc1,hc2,ref,opv,Zv,Yc,YU];refine vcn hO2 ?_;simp only[go_sem,opb,opv,Zv,Yc,YU];have hne:(Zc ⟨5,at',nm,ot,fac,fd,fo,ba⟩).length≠0:=by unfold Zc;simp
 have hc0:0<(Zc ⟨5,at',nm,ot,fac,fd,fo,ba⟩).length:=by omega
 have hc1:(0:Int)<((Zc ⟨5,at',nm,ot,fac,fd,fo,ba⟩).length:Int):=by omega
 have hc2:(((Zc ⟨5,at',nm,ot,fac,fd,fo,ba⟩).map ref).getD 0 .any)=ref ((Zc ⟨5,at',nm,ot,fac,fd,fo,ba⟩).getD 0 Jd):=Ym hc0;generalize Zc ⟨5,at',nm,ot,fac,fd,fo,ba⟩=comes at *;have hb:Zj ⟨5,at',nm,ot,fac,fd,fo,ba⟩ o=(o,Ht):=by simp[Zj]
 rw[hb];simp only[Jf,if_false];have hO2:=Wc (Zv o (comes.getD 0 Jd)) ⟨ho.d⟩;rcases pl with ⟨e1,e2⟩|e1;refine Zx func234 rfl ntmps234 results234 (Zo _) ?_;simp only[go_sem,lns,opv];refine vc3 hR ?_;simp only[go_sem,e1,e2,lns];refine vDq ?_;simp only[go_sem,lns,opv];refine vc3 hG ?_;simp only[go_sem,refs];refine vc3 hI ?_;simp only[go_sem,hi,opv,lns];refine vc3 hC ?_;simp only[go_sem,refs,hc1,hc2,ref,opv,Zv,Yc,YU];refine vcn hO2 ?_;simp only[go_sem,opb,opv,Zv,Yc,YU];refine Zx func234 rfl ntmps234 results234 (Zo _) ?_;simp only[go_sem,lns,opv];refine vc3 hR ?_;simp only[go_sem,e1,lns];refine vDq ?_;simp only[go_sem,lns,opv];refine vc3 hG ?_;simp only[go_sem,refs];refine vc3 hI ?_;simp only[go_sem,hi,opv,lns];refine vc3 hC ?_;simp only[go_sem,refs,hc1,hc2,ref,opv,Zv,Yc,YU];refine vcn hO2 ?_;simp only[go_sem,opb,opv,Zv,Yc,YU];have hne:(Zc ⟨6,at',nm,ot,fac,fd,fo,ba⟩).length≠0:=by unfold Zc;simp
 have hc0:0<(Zc ⟨6,at',nm,ot,fac,fd,fo,ba⟩).length:=by omega
 have hc1:(0:Int)<((Zc ⟨6,at',nm,ot,fac,fd,fo,ba⟩).length:Int):=by omega
 have hc2:(((Zc ⟨6,at',nm,ot,fac,fd,fo,ba⟩).map ref).getD 0 .any)=ref ((Zc ⟨6,at',nm,ot,fac,fd,fo,ba⟩).getD 0 Jd):=Ym hc0;generalize Zc ⟨6,at',nm,ot,fac,fd,fo,ba⟩=comes at *;have hb:Zj ⟨6,at',nm,ot,fac,fd,fo,ba⟩ o=(o,decide (o.kind=3)):=by simp[Zj]
 rw[hb];by_cases kk:o.kind=3;have e3:(o.kind==3)=true:=by simpa using kk
 simp only[kk,decide_true,Jf,if_false];have hO2:=Wc (Zv o (comes.getD 0 Jd)) ⟨ho.d⟩;rcases pl with ⟨e1,e2⟩|e1;refine Zx func234 rfl ntmps234 results234 (Zo _) ?_;simp only[go_sem,lns,opv];refine vc3 hR ?_;simp only[go_sem,e1,e2,lns];refine vDq ?_;simp only[go_sem,lns,opv];refine vc3 hG ?_;simp only[go_sem,refs];refine vc3 hI ?_;simp only[go_sem,hi,opv,lns,e3];refine vc3 hC ?_;simp only[go_sem,refs,hc1,hc2,ref,opv,Zv,Yc,YU];refine vcn hO2 ?_;simp only[go_sem,opb,opv,kk,Zv,Yc,YU];refine Zx func234 rfl ntmps234 results234 (Zo _) ?_;simp only[go_sem,lns,opv];refine vc3 hR ?_;simp only[go_sem,e1,lns];refine vDq ?_;simp only[go_sem,lns,opv];refine vc3 hG ?_;simp only[go_sem,refs];refine vc3 hI ?_;simp only[go_sem,hi,opv,lns,e3];refine vc3 hC ?_;simp only[go_sem,refs,hc1,hc2,ref,opv,Zv,Yc,YU];refine vcn hO2 ?_;simp only[go_sem,opb,opv,kk,Zv,Yc,YU];have e3:(o.kind==3)=false:=by simpa using kk
 simp only[kk,decide_false,if_true];rcases pl with ⟨e1,e2⟩|e1
 ·refine Zx func234 rfl ntmps234 results234 (Zo _) ?_;simp only[go_sem,lns,opv];refine vc3 hR ?_;simp only[go_sem,e1,e2,lns];refine vDq ?_;simp only[go_sem,lns,opv];refine vc3 hG ?_;simp only[go_sem,refs];refine vc3 hI ?_;simp only[go_sem,hi,opv,lns,e3]
  (try simp only[go_sem,opb,Zz])
 ·refine Zx func234 rfl ntmps234 results234 (Zo _) ?_;simp only[go_sem,lns,opv];refine vc3 hR ?_;simp only[go_sem,e1,lns];refine vDq ?_;simp only[go_sem,lns,opv];refine vc3 hG ?_;simp only[go_sem,refs];refine vc3 hI ?_;simp only[go_sem,hi,opv,lns,e3]
  (try simp only[go_sem,opb,Zz])
 have hne:(Zc ⟨7,at',nm,ot,fac,fd,fo,ba⟩).length≠0:=by unfold Zc;simp
 have hc0:0<(Zc ⟨7,at',nm,ot,fac,fd,fo,ba⟩).length:=by omega
 have hc1:(0:Int)<((Zc ⟨7,at',nm,ot,fac,fd,fo,ba⟩).length:Int):=by omega
 have hc2:(((Zc ⟨7,at',nm,ot,fac,fd,fo,ba⟩).map ref).getD 0 .any)=ref ((Zc ⟨7,at',nm,ot,fac,fd,fo,ba⟩).getD 0 Jd):=Ym hc0;generalize Zc ⟨7,at',nm,ot,fac,fd,fo,ba⟩=comes at *;have hb:Zj ⟨7,at',nm,ot,fac,fd,fo,ba⟩ o=(o,decide (o.kind=4)):=by simp[Zj]
 rw[hb];by_cases kk:o.kind=4;have e3:(o.kind==4)=true:=by simpa using kk
 simp only[kk,decide_true,Jf,if_false];have hO2:=Wc (Zv o (comes.getD 0 Jd)) ⟨ho.d⟩;rcases pl with ⟨e1,e2⟩|e1;refine Zx func234 rfl ntmps234 results234 (Zo _) ?_;simp only[go_sem,lns,opv];refine vc3 hR ?_;simp only[go_sem,e1,e2,lns];refine vDq ?_;simp only[go_sem,lns,opv];refine vc3 hG ?_;simp only[go_sem,refs];refine vc3 hI ?_;simp only[go_sem,hi,opv,lns,e3];refine vc3 hC ?_;simp only[go_sem,refs,hc1,hc2,ref,opv,Zv,Yc,YU];refine vcn hO2 ?_;simp only[go_sem,opb,opv,kk,Zv,Yc,YU];refine Zx func234 rfl ntmps234 results234 (Zo _) ?_;simp only[go_sem,lns,opv];refine vc3 hR ?_;simp only[go_sem,e1,lns];refine vDq ?_;simp only[go_sem,lns,opv];refine vc3 hG ?_;simp only[go_sem,refs];refine vc3 hI ?_;simp only[go_sem,hi,opv,lns,e3];refine vc3 hC ?_;simp only[go_sem,refs,hc1,hc2,ref,opv,Zv,Yc,YU];refine vcn hO2 ?_;simp only[go_sem,opb,opv,kk,Zv,Yc,YU];have e3:(o.kind==4)=false:=by simpa using kk
 simp only[kk,decide_false,if_true];rcases pl with ⟨e1,e2⟩|e1
 ·refine Zx func234 rfl ntmps234 results234 (Zo _) ?_;simp only[go_sem,lns,opv];refine vc3 hR ?_;simp only[go_sem,e1,e2,lns];refine vDq ?_;simp only[go_sem,lns,opv];refine vc3 hG ?_;simp only[go_sem,refs];refine vc3 hI ?_;simp only[go_sem,hi,opv,lns,e3]
  (try simp only[go_sem,opb,Zz])
 ·refine Zx func234 rfl ntmps234 results234 (Zo _) ?_;simp only[go_sem,lns,opv];refine vc3 hR ?_;simp only[go_sem,e1,lns];refine vDq ?_;simp only[go_sem,lns,opv];refine vc3 hG ?_;simp only[go_sem,refs];refine vc3 hI ?_;simp only[go_sem,hi,opv,lns,e3]
  (try simp only[go_sem,opb,Zz])
 have hne:(Zc ⟨8,at',nm,ot,fac,fd,fo,ba⟩).length≠0:=by unfold Zc;simp
 have hc0:0<(Zc ⟨8,at',nm,ot,fac,fd,fo,ba⟩).length:=by omega
 have hc1:(0:Int)<((Zc ⟨8,at',nm,ot,fac,fd,fo,ba⟩).length:Int):=by omega
 have hc2:(((Zc ⟨8,at',nm,ot,fac,fd,fo,ba⟩).map ref).getD 0 .any)=ref ((Zc ⟨8,at',nm,ot,fac,fd,fo,ba⟩).getD 0 Jd):=Ym hc0;generalize Zc ⟨8,at',nm,ot,fac,fd,fo,ba⟩=comes at *;have hb:Zj ⟨8,at',nm,ot,fac,fd,fo,ba⟩ o=(YU o (Vz o fo).1,(Vz o fo).2):=by simp[Zj]
 rw[hb];generalize Vz o fo=y at *;obtain⟨d,b⟩:=y;cases b;simp only[if_true];rcases pl with ⟨e1,e2⟩|e1;refine Zx func234 rfl ntmps234 results234 (Zo _) ?_;simp only[go_sem,lns,opv];refine vc3 hR ?_;simp only[go_sem,e1,e2,lns];refine vDq ?_;simp only[go_sem,lns,opv];refine vc3 hG ?_;simp only[go_sem,refs];refine vc3 hI ?_;simp only[go_sem,hi,opv,lns];refine vc6 hV ?_;simp only[go_sem,Zb0,opb,Zz];refine Zx func234 rfl ntmps234 results234 (Zo _) ?_;simp only[go_sem,lns,opv];refine vc3 hR ?_;simp only[go_sem,e1,lns];refine vDq ?_;simp only[go_sem,lns,opv];refine vc3 hG ?_;simp only[go_sem,refs];refine vc3 hI ?_;simp only[go_sem,hi,opv,lns];refine vc6 hV ?_;simp only[go_sem,Zb0,opb,Zz];simp only[Jf,if_false];have hO2:=Wc (Zv (YU o d) (comes.getD 0 Jd)) ⟨ho.d⟩;rcases pl with ⟨e1,e2⟩|e1;refine Zx func234 rfl ntmps234 results234 (Zo _) ?_;simp only[go_sem,lns,opv];refine vc3 hR ?_;simp only[go_sem,e1,e2,lns];refine vDq ?_;simp only[go_sem,lns,opv];refine vc3 hG ?_;simp only[go_sem,refs];refine vc3 hI ?_;simp only[go_sem,hi,opv,lns];refine vc6 hV ?_;simp only[go_sem,Zb0,lns];refine vc3 hC ?_;simp only[go_sem,refs,hc1,hc2,ref,opv,Zv,Yc,YU];refine vcn hO2 ?_;simp only[go_sem,opb,opv,Zv,Yc,YU];refine Zx func234 rfl ntmps234 results234 (Zo _) ?_;simp only[go_sem,lns,opv];refine vc3 hR ?_;simp only[go_sem,e1,lns];refine vDq ?_;simp only[go_sem,lns,opv];refine vc3 hG ?_;simp only[go_sem,refs];refine vc3 hI ?_;simp only[go_sem,hi,opv,lns];refine vc6 hV ?_;simp only[go_sem,Zb0,lns];refine vc3 hC ?_;simp only[go_sem,refs,hc1,hc2,ref,opv,Zv,Yc,YU];refine vcn hO2 ?_;simp only[go_sem,opb,opv,Zv,Yc,YU];have hne:(Zc ⟨9,at',nm,ot,fac,fd,fo,ba⟩).length≠0:=by unfold Zc;simp
 have hc0:0<(Zc ⟨9,at',nm,ot,fac,fd,fo,ba⟩).length:=by omega
 have hc1:(0:Int)<((Zc ⟨9,at',nm,ot,fac,fd,fo,ba⟩).length:Int):=by omega
 have hc2:(((Zc ⟨9,at',nm,ot,fac,fd,fo,ba⟩).map ref).getD 0 .any)=ref ((Zc ⟨9,at',nm,ot,fac,fd,fo,ba⟩).getD 0 Jd):=Ym hc0;generalize Zc ⟨9,at',nm,ot,fac,fd,fo,ba⟩=comes at *;have hb:Zj ⟨9,at',nm,ot,fac,fd,fo,ba⟩ o=(Yc o (Y3 o (Yf (Zt ⟨9,at',nm,ot,fac,fd,fo,ba⟩) o.at') fac).1,(Y3 o (Yf (Zt ⟨9,at',nm,ot,fac,fd,fo,ba⟩) o.at') fac).2):=by simp[Zj]
 rw[hb];generalize Y3 o (Yf (Zt ⟨9,at',nm,ot,fac,fd,fo,ba⟩) o.at') fac=y at *;obtain⟨d,b⟩:=y;cases b;simp only[if_true];rcases pl with ⟨e1,e2⟩|e1;refine Zx func234 rfl ntmps234 results234 (Zo _) ?_;simp only[go_sem,lns,opv];refine vc3 hR ?_;simp only[go_sem,e1,e2,lns];refine vDq ?_;simp only[go_sem,lns,opv];refine vc3 hG ?_;simp only[go_sem,refs];refine vc3 hI ?_;simp only[go_sem,hi,opv,lns];refine vc6 hM ?_;simp only[go_sem,ZpY,opb,Zz];refine Zx func234 rfl ntmps234 results234 (Zo _) ?_;simp only[go_sem,lns,opv];refine vc3 hR ?_;simp only[go_sem,e1,lns];refine vDq ?_;simp only[go_sem,lns,opv];refine vc3 hG ?_;simp only[go_sem,refs];refine vc3 hI ?_;simp only[go_sem,hi,opv,lns];refine vc6 hM ?_;simp only[go_sem,ZpY,opb,Zz];simp only[Jf,if_false];have hO2:=Wc (Zv (Yc o d) (comes.getD 0 Jd)) ⟨ho.d⟩;rcases pl with ⟨e1,e2⟩|e1;refine Zx func234 rfl ntmps234 results234 (Zo _) ?_;simp only[go_sem,lns,opv];refine vc3 hR ?_;simp only[go_sem,e1,e2,lns];refine vDq ?_;simp only[go_sem,lns,opv];refine vc3 hG ?_;simp only[go_sem,refs];refine vc3 hI ?_;simp only[go_sem,hi,opv,lns];refine vc6 hM ?_;simp only[go_sem,ZpY,lns];refine vc3 hC ?_;simp only[go_sem,refs,hc1,hc2,ref,opv,Zv,Yc,YU];refine vcn hO2 ?_;simp only[go_sem,opb,opv,Zv,Yc,YU];refine Zx func234 rfl ntmps234 results234 (Zo _) ?_;simp only[go_sem,lns,opv];refine vc3 hR ?_;simp only[go_sem,e1,lns];refine vDq ?_;simp only[go_sem,lns,opv];refine vc3 hG ?_;simp only[go_sem,refs];refine vc3 hI ?_;simp only[go_sem,hi,opv,lns];refine vc6 hM ?_;simp only[go_sem,ZpY,lns];refine vc3 hC ?_;simp only[go_sem,refs,hc1,hc2,ref,opv,Zv,Yc,YU];refine vcn hO2 ?_;simp only[go_sem,opb,opv,Zv,Yc,YU];have hne:(Zc ⟨10,at',nm,ot,fac,fd,fo,ba⟩).length≠0:=by unfold Zc;simp
 have hc0:0<(Zc ⟨10,at',nm,ot,fac,fd,fo,ba⟩).length:=by omega
 have hc1:(0:Int)<((Zc ⟨10,at',nm,ot,fac,fd,fo,ba⟩).length:Int):=by omega
 have hc2:(((Zc ⟨10,at',nm,ot,fac,fd,fo,ba⟩).map ref).getD 0 .any)=ref ((Zc ⟨10,at',nm,ot,fac,fd,fo,ba⟩).getD 0 Jd):=Ym hc0;generalize Zc ⟨10,at',nm,ot,fac,fd,fo,ba⟩=comes at *;have hb:Zj ⟨10,at',nm,ot,fac,fd,fo,ba⟩ o=(o,decide (o.kind=4)):=by simp[Zj]
 rw[hb];by_cases kk:o.kind=4;have e3:(o.kind==4)=true:=by simpa using kk
 simp only[kk,decide_true,Jf,if_false];have hO2:=Wc (Zv o (comes.getD 0 Jd)) ⟨ho.d⟩;rcases pl with ⟨e1,e2⟩|e1;refine Zx func234 rfl ntmps234 results234 (Zo _) ?_;simp only[go_sem,lns,opv];refine vc3 hR ?_;simp only[go_sem,e1,e2,lns];refine vDq ?_;simp only[go_sem,lns,opv];refine vc3 hG ?_;simp only[go_sem,refs];refine vc3 hI ?_;simp only[go_sem,hi,opv,lns,e3];refine vc3 hC ?_;simp only[go_sem,refs,hc1,hc2,ref,opv,Zv,Yc,YU];refine vcn hO2 ?_;simp only[go_sem,opb,opv,kk,Zv,Yc,YU];refine Zx func234 rfl ntmps234 results234 (Zo _) ?_;simp only[go_sem,lns,opv];refine vc3 hR ?_;simp only[go_sem,e1,lns];refine vDq ?_;simp only[go_sem,lns,opv];refine vc3 hG ?_;simp only[go_sem,refs];refine vc3 hI ?_;simp only[go_sem,hi,opv,lns,e3];refine vc3 hC ?_;simp only[go_sem,refs,hc1,hc2,ref,opv,Zv,Yc,YU];refine vcn hO2 ?_;simp only[go_sem,opb,opv,kk,Zv,Yc,YU];have e3:(o.kind==4)=false:=by simpa using kk
 simp only[kk,decide_false,if_true];rcases pl with ⟨e1,e2⟩|e1
 ·refine Zx func234 rfl ntmps234 results234 (Zo _) ?_;simp only[go_sem,lns,opv];refine vc3 hR ?_;simp only[go_sem,e1,e2,lns];refine vDq ?_;simp only[go_sem,lns,opv];refine vc3 hG ?_;simp only[go_sem,refs];refine vc3 hI ?_;simp only[go_sem,hi,opv,lns,e3]
  (try simp only[go_sem,opb,Zz])
 refine Zx func234 rfl ntmps234 results234 (Zo _) ?_;simp only[go_sem,lns,opv];refine vc3 hR ?_;simp only[go_sem,e1,lns];refine vDq ?_;simp only[go_sem,lns,opv];refine vc3 hG ?_;simp only[go_sem,refs];refine vc3 hI ?_;simp only[go_sem,hi,opv,lns,e3]
 (try simp only[go_sem,opb,Zz])
open Go.PL
def Gf:List Ln->List Fd->Option (List Fd)
 | [],fs=>some fs
 |x::xs,fs=>if(ZR fs x).2≠0 then none else Gf xs (ZR fs x).1
theorem FD (w v:List Ln) (fs:List Fd):Gf (w++v) fs=(Gf w fs).bind (Gf v):=by
 induction w generalizing fs with
 |nil=>rfl
 |cons e w ih=>
  simp only[List.cons_append,Gf];split;rfl;exact ih _
theorem ZkB (w:List Eg) (fs:List Fd):Gf (w.map (·.ln)) fs=Xr w fs:=by
 induction w generalizing fs with
 |nil=>rfl
 |cons e w ih=>
  simp only[Jw,Gf,Xr];split;rfl;exact ih _
theorem ZcW {e:Eg} {w:List Eg} {fs gs:List Fd} (h:Xr (e::w) fs=some gs):∃f1,ZR fs e.ln=(f1,0)/\Xr w f1=some gs:=by
 simp only[Xr]at h;split at h;cases h;rename_i hz;exact⟨(ZR fs e.ln).1,Kh rfl (Kf.1 hz),h⟩
theorem ZiY:∀(w:List Eg) {fs gs:List Fd},(∀e∈w,e.ln.kind<=8)->Xr w fs=some gs->Gf (w.reverse.map λe=>Zab e.ln) gs=some fs
 | [],fs,gs,_,h=>by cases h;rfl
 |e::w,fs,gs,hk,h=>by
  obtain⟨f1,ha,hw⟩:=ZcW h;have ih:=ZiY w (λx hx=>hk x (by simp[hx])) hw;have hi:=Zfh (hk e (by simp)) ha;rw[List.reverse_cons,Jy,FD,ih];show Gf [Zab e.ln] f1=some fs;simp[Gf,hi]
theorem ZaZ:∀(w:List Eg) {fs gs:List Fd},(∀e∈w,e.ln.kind<=8)->Z5 fs=Ht->Xr w fs=some gs->Z5 gs=Ht
 | [],fs,gs,_,hr,h=>by cases h;exact hr
 |e::w,fs,gs,hk,hr,h=>by
  obtain⟨f1,ha,hw⟩:=ZcW h;exact ZaZ w (λx hx=>hk x (by simp[hx])) (XI (Zfh (hk e (by simp)) ha)).1 hw
theorem Zla:Z5 Tx=true:=by decide
theorem Za0 {w:List Eg} {fs gs:List Fd} (c:Nat) (h:Xr w fs=some gs):∃ms,Xr (w.take c) fs=some ms/\Xr (w.drop c) ms=some gs:=by
 rw[<-JO c w,FC]at h;cases h1:Xr (w.take c) fs with
 |none=>rw[h1]at h;cases h
 |some ms=>rw[h1]at h;exact⟨ms,rfl,h⟩
theorem ZkR {m:List Eg} (ha:Apart m) {p q:List Eg} (hp:∀e∈p,e∈m) (hq:∀e∈q,e∈m):U0 m (FU p q)=((p.drop (lcp p q)).reverse.map λe=>Zab e.ln)++(q.drop (lcp p q)).map (·.ln):=by
 unfold U0 FU;rw[Jy,JS,JS];congr 1;apply JR;intro e he;have:=ha.find (hp e (Jq (JL.1 he)));simp[Zbf,upg,this];apply JR;intro e he;have:=ha.find (hq e (Jq he));simp[Zbf,dn,this]
theorem Zfy {e:Eg} (h:Gc e=Ht):e.ln.kind<=8:=by
 simp only[Gc,Je,decide_eq_true_eq]at h;exact h.2.2.2.1
theorem ZrY {p q:List Eg} {k:Nat} (hp:k<=p.length) (hq:k<=q.length) (h:p.take k=q.take k):k<=lcp p q:=by
 by_cases hk:k<=lcp p q;exact hk;exfalso;apply Zei p q (by omega) (by omega);have e:(p.take k).getD (lcp p q) Jd=(q.take k).getD (lcp p q) Jd:=by rw[h]
 rw[getD_lt (by simp;omega),getD_lt (by simp;omega)]at e;rw[getD_lt (by omega),getD_lt (by omega)];simpa using e
theorem Znh (p q:List Eg):TL p q=TL q p:=by unfold TL;rw[Zej,Zeh p q]
theorem Znt {l:List Tg}:l.reverse.Nodup↔l.Nodup:=by
 unfold List.Nodup;rw[List.pairwise_reverse];constructor<;>exact λh=>h.imp (λh=>h.symm)
theorem Zs5 {m:List Eg} (ha:Apart m) {w:List Eg} (hw:∀e∈w,e∈m) (hn:w.Nodup):(w.map (·.id)).Nodup:=by
 induction w with
 |nil=>simp
 |cons e w ih=>
  rw[Jw,J2];rw[J2]at hn;refine⟨λhx0=> ?_,ih (λx hx=>hw x (by simp[hx])) hn.2⟩;obtain⟨x,hx,he⟩:=Jk.1 hx0;have:=ha.inj (hw x (by simp[hx])) (hw e (by simp)) he;subst this;exact hn.1 hx
theorem ZgG {m:List Eg} (ha:Apart m) {w:List Eg} (hw:∀e∈w,e∈m) (hn:w.Nodup):(upL w).Nodup:=by
 unfold upL;rw[List.nodup_append];refine⟨?_,by simp,?_⟩;rw[List.map_reverse,Znt];exact Zs5 ha hw hn;intro x hx y hy e;obtain⟨z,hz,rfl⟩:=Jk.1 hx;rw[Jz.1 hy]at e;exact ha.n z (hw z (JL.1 hz)) e
theorem Zig {m:List Eg} (ha:Apart m) {a b:Tg} {p q:List Eg} (hp:Way m a p) (hq:Way m b q) {e1 e2:Eg} (h1:e1∈p.drop (lcp p q)) (h2:e2∈q.drop (lcp p q)):e1.id≠e2.id:=by
 intro e;obtain⟨i,hi,rfl⟩:=Jv h1;obtain⟨j,hj,rfl⟩:=Jv h2;simp only[JX]at hi hj;rw[JU,JU]at e;have w1:=hp.take (lcp p q+i) (by omega);have w2:=hq.take (lcp p q+j) (by omega);rw[e]at w1;have w3:=w1.fn w2;have hl:=congrArg List.length w3;simp only[JY]at hl;have hij:i=j:=by omega
 subst hij;have:=ZrY (by omega) (by omega) w3;omega
open Go.PL
def Zoq:List Ln->Rf->Rf×Bool
 | [],r=>(r,Ht)
 |x::xs,r=>if(Zjz x r).2=Hf then(Jd,Hf)else Zoq xs (Zjz x r).1
def Znc:List Ln->Rf->Bool
 | [],r=>Ht
 |x::xs,r=>if Zwf x r=Hf then Hf else if(Zjz x r).2=Hf then Hf else Znc xs (Zjz x r).1
structure TrS (row:List Ln) (f:List Ln->Rf->Rf×Bool) (r0:Rf) where
 k:Nat
 r:Rf
 hk:k<=row.length
 h:f (row.drop k) r=f row r0
structure KpS (row:List Ln) (r0:Rf) where
 k:Nat
 r:Rf
 hk:k<=row.length
 h:Znc (row.drop k) r=Znc row r0
theorem Zru {m:List Eg} {a b:Tg} (hm:OkM m):(FM m a b).1.length<=1000/\ ∀x∈(FM m a b).1,OkLn x:=by
 unfold FM;split;simp;rename_i h;have hl:=Zek m a b hm;unfold Zet at hl;rw[if_neg h]at hl;refine⟨by simp only at hl;simp[U0];omega,λx hx=> ?_⟩;obtain⟨y,_,rfl⟩:=Jk.1 hx;exact ZtT hm y
open Go.PL
theorem Sy {l cs:List Fd} {x:Ln} (hk:x.kind=1\/x.kind=2\/x.kind=3\/x.kind=4\/x.kind=5\/x.kind=6\/x.kind=7\/x.kind=8\/x.kind=9\/x.kind=10) (h:XZ l x=(cs,Ht)):cs.map (·.at')=Zc x:=by
 obtain⟨kind,at0,nm,ot,fac,fd,fo,ba⟩:=x;simp only at hk;rcases hk with rfl|rfl|rfl|rfl|rfl|rfl|rfl|rfl|rfl|rfl
 all_goals
  simp only[XZ,Ub,Zc,Ji,if_false,if_true,Jm]at h ⊢
  (repeat' split at h)
  all_goals
   simp only[JA.injEq,JG,and_false,reduceCtorEq]at h;try(rw[<-h.1];rfl)
structure Pair (l m:List Fd) (x y:Ln):Prop where
 a:ZR l x=(m,0)
 b:ZR m y=(l,0)
 g:Zt y=Zc x
 c:Zc y=Zt x
def On (l:List Fd) (r:Rf):Prop:=∃f∈l,f.at'=r
theorem Pair.right {l m:List Fd} {x y:Ln} (h:Pair l m x y):ZI x=true:=(XI h.a).2.1
inductive Pairs:List Fd->List Fd->List Ln->List Ln->Prop
 |nil (l:List Fd):Pairs l l [] []
 |cons {l m n:List Fd} {x y:Ln} {xs ys:List Ln} (h:Pair l m x y) (hs:Pairs m n xs ys):Pairs l n (x::xs) (ys++ [y])
theorem Pairs.append {l m n:List Fd} {xs ys us vs:List Ln} (h1:Pairs l m xs ys) (h2:Pairs m n us vs):Pairs l n (xs++us) (vs++ys):=by
 induction h1 with
 |nil=>simpa using h2
 |cons h hs ih=>rw[<-List.append_assoc];exact .cons h (ih h2)
open Go.PL
theorem ZiV (n:Int):Pp 246 [.int .i64 n] (.bool (!YN n)):=by
 by_cases h1:4503599627370496<n;have e:YN n=false:=by rw[JB];simp[YN];omega
 rw[e];refine ZM func246 rfl ntmps246 results246 ?_;simp only[go_sem,h1];by_cases h2:n < -4503599627370496;have e:YN n=false:=by rw[JB];simp[YN];omega
 rw[e];refine ZM func246 rfl ntmps246 results246 ?_;simp only[go_sem,h1,h2];have e:YN n=true:=by simp[YN];omega
 rw[e];refine ZM func246 rfl ntmps246 results246 ?_;simp only[go_sem,h1,h2]
theorem ZbC {f:Fd} (h:Z1 f=Ht):f.kind=1\/f.kind=2\/f.kind=3\/f.kind=4:=by
 simp only[Z1,Je]at h;have h:=h.2;by_cases k1:f.kind=1;exact .inl k1;rw[if_neg k1]at h;by_cases k3:f.kind=3;exact .inr (.inr (.inl k3));simp only[if_neg k3,Je]at h;have h:=h.2;simp[Zih]at h;omega
theorem Zcq (f:Fd) (s:Str) (hf:f.cases'.length<=maxLen):Pp 203 [fld f,.str s] (.bool (Xy f s)):=by
 have hR:=UI f hf;have hT:=GE s;have hC:=S4 f.cases' s hf;unfold Xy;cases hr:Z1 f;rw[hr]at hR;refine ZM func203 rfl ntmps203 results203 ?_;simp only[go_sem,fld];refine vc2 hR ?_;simp only[go_sem,Ja];have hk:=ZbC hr;rw[hr]at hR;have e41:decide ((s.length:Int)<=40)=decide ((s.length:Int)<41):=by rw[Jo];simp;omega
 rw[e41]at hT;obtain⟨a,kind,d,c,w⟩:=f;simp only at hk hR hT hC ⊢;rcases hk with rfl|rfl|rfl|rfl;refine ZM func203 rfl ntmps203 results203 ?_;simp only[go_sem,fld];refine vc2 hR ?_;simp only[go_sem];rfl;refine ZM func203 rfl ntmps203 results203 ?_;simp only[go_sem,fld];refine vc2 hR ?_;simp only[go_sem];refine vc1 hT ?_;simp only[go_sem];simp;refine ZM func203 rfl ntmps203 results203 ?_;simp only[go_sem,fld];refine vc2 hR ?_;simp only[go_sem];refine vc1 hC ?_;simp only[go_sem];simp;refine ZM func203 rfl ntmps203 results203 ?_;simp only[go_sem,fld];refine vc2 hR ?_;simp only[go_sem];refine vc1 hT ?_;simp only[go_sem];simp
def T0 (l:List Fd) (o:Opn):Bool:=
 XD o&&(if ZK o=Hf then Ht else decide ((ZD l o.at').2=0)&&(if o.kind=3 then decide ((ZD l o.at').1.kind=1)else if o.has=Ht then Xy (ZD l o.at').1 o.text else decide ((ZD l o.at').1.kind=4)))
theorem Zcs (l:List Fd) (o:Opn) (hl:OkFs l) (ho:o.drops.length<=maxLen):Pp 162 [Zh l,opv o] (.bool (T0 l o)):=by
 have hR:=S5 o ho;have hP:=Gq o;have hF:=UJ l o.at' (by have:=hl.n;omega) hl.c;have okf:=Zf9 hl o.at';have hT:=Zcq (ZD l o.at').1 o.text (by rw[Zb];omega);unfold T0;cases hr:XD o;rw[hr]at hR;refine ZM func162 rfl ntmps162 results162 ?_;simp only[go_sem,Zh,opv];refine vc6 hR ?_;simp only[go_sem,Ja];rw[hr]at hR;cases hp:ZK o;rw[hp]at hP;refine ZM func162 rfl ntmps162 results162 ?_;simp only[go_sem,Zh,opv];refine vc6 hR ?_;simp only[go_sem,opv];refine vc6 hP ?_;simp only[go_sem,Jg,if_true];rw[hp]at hP;simp only[Jg,Jf,if_false];generalize ZD l o.at'=y at *;obtain⟨f,c⟩:=y;simp only at hT okf ⊢;by_cases hc:c=0;have ec:(c !=0)=false:=by simpa using hc
 simp only[hc,decide_true,Jg];by_cases k3:o.kind=3;have e3:(o.kind==3)=true:=by simpa using k3
 have ek:(f.kind==1)=decide (f.kind=1):=by rw[Jo];simp
 rw[if_pos k3];refine ZM func162 rfl ntmps162 results162 ?_;simp only[go_sem,Zh,opv];refine vc6 hR ?_;simp only[go_sem,opv];refine vc6 hP ?_;simp only[go_sem];refine vc2 hF ?_;simp only[go_sem,Zca,fld,ec,e3,ek];have e3:(o.kind==3)=false:=by simpa using k3
 rw[if_neg k3];have ek:(f.kind==4)=decide (f.kind=4):=by rw[Jo];simp
 cases hh:o.has;refine ZM func162 rfl ntmps162 results162 ?_;simp only[go_sem,Zh,opv,hh];refine YD hR ?_ ?_ ?_;simp only[go_sem,opv];simp only[go_sem,opv,hh];simp only[go_sem,opv];refine YD hP ?_ ?_ ?_;simp only[go_sem,opv];simp only[go_sem,opv,hh];simp only[go_sem];refine vc2 hF ?_;simp only[go_sem,Zca,fld,ec,e3,ek,if_false];refine ZM func162 rfl ntmps162 results162 ?_;simp only[go_sem,Zh,opv,hh];refine YD hR ?_ ?_ ?_;simp only[go_sem,opv];simp only[go_sem,opv,hh];simp only[go_sem,opv];refine YD hP ?_ ?_ ?_;simp only[go_sem,opv];simp only[go_sem,opv,hh];simp only[go_sem];refine vc2 hF ?_;simp only[go_sem,Zca,fld,ec,e3];refine vc2 hT ?_;simp only[go_sem,if_true];have ec:(c !=0)=true:=by simpa using hc
 refine ZM func162 rfl ntmps162 results162 ?_;simp only[go_sem,Zh,opv];refine vc6 hR ?_;simp only[go_sem,opv];refine vc6 hP ?_;simp only[go_sem];refine vc2 hF ?_;simp only[go_sem,Zca,fld,ec,hc,Ja]
open Go.PL
theorem Gr {f:Fd} (h:Z1 f=Ht) (hk:f.kind=1):1<=f.worth/\f.worth<=1048576:=by
 simp[Z1,hk]at h;omega
theorem ZaW {l:List Fd} {o:Opn} (h:T0 l o=Ht):XD o=true:=by
 simp only[T0,Je]at h;exact h.1
theorem Zgq {o:Opn} (h:XD o=Ht): -1048576<=o.delta/\o.delta<=1048576:=by
 simp[XD]at h;omega
theorem Zsd {o:Opn} (h:o.kind=3):ZK o=true:=by simp[ZK,h]
theorem Ge {l:List Fd} {o:Opn} (h:T0 l o=Ht) (hp:ZK o=Ht):(ZD l o.at').2=0/\
  (o.kind=3->(ZD l o.at').1.kind=1)/\(o.kind≠3->o.has=Ht->Xy (ZD l o.at').1 o.text=Ht)/\(o.kind≠3->o.has=Hf->(ZD l o.at').1.kind=4):=by
 simp only[T0,hp,Je,Jf,if_false,decide_eq_true_eq]at h;obtain⟨_,h1,h2⟩:=h;refine⟨h1,λk=> ?_,λk hh=> ?_,λk hh=> ?_⟩;rw[if_pos k]at h2;simpa using h2;rw[if_neg k,if_pos hh]at h2;exact h2;rw[if_neg k,if_neg (by rw[hh];simp)]at h2;simpa using h2
theorem Wt {l:List Rf} {r:Rf} (h:Yf l r<0):r∉l:=by
 unfold Yf idx at h;cases hf:l.findIdx? λa=>decide (r=a)with
 |none=>
  rw[List.findIdx?_eq_none_iff]at hf;intro hm;have:=hf r hm;simp at this
 |some i=>rw[hf]at h;simp at h;omega
theorem VQ {l:List Rf} {r:Rf} (h:¬Yf l r<0):∃g:Nat,Yf l r=(g:Int)/\g<l.length/\l.getD g Jd=r:=by
 unfold Yf idx at h ⊢;cases hf:l.findIdx? λa=>decide (r=a)with
 |none=>rw[hf]at h;exact absurd (by decide) h
 |some i=>
  rw[List.findIdx?_eq_some_iff_getElem]at hf;obtain⟨h1,h2,_⟩:=hf;refine⟨i,rfl,h1,?_⟩;rw[getD_lt h1];simpa using(of_decide_eq_true h2).symm
theorem Xe {a r:Rf} (h:¬Yf [a] r<0):a=r:=by
 obtain⟨g,_,h2,h3⟩:=VQ h;have:g=0:=by simpa using h2
 subst this;simpa using h3
theorem Zqi {x:Ln} {o:Opn} (h:OkOp o):OkOp (XS x o).1:=by
 have hd:=h.d;refine⟨?_⟩;unfold XS Zj;repeat' split
 all_goals first|exact hd|exact Jh _
open Go.PL
theorem ZfU {d f:Int} (hd: -1099511627776<=d/\d<=1099511627776) (h:(UZ 0 d f).2=0):2<=f/\f<=1000/\(UZ 0 d f).1=f*d:=by
 unfold UZ at h ⊢;by_cases hf:2<=f/\f<=1000;rw[if_neg (λg=>g hf)]at h ⊢;have b1: -1099511627776000<=f*d/\f*d<=1099511627776000:=by
  have p1:f*d<=f*1099511627776:=Js hd.2 (by omega);have p2:f*(-1099511627776)<=f*d:=Js hd.1 (by omega);omega
 have e:IntKind.i64.wrap (0+IntKind.i64.wrap (f*d))=f*d:=by
  rw[TD (n:=f*d) (by omega),Int.zero_add,TD (by omega)]
 refine⟨hf.1,hf.2,?_⟩;split at h;cases h;rename_i hp;rw[if_neg hp];split at h;rename_i hfi;rw[if_pos hfi];exact e;cases h;rw[if_pos hf]at h;cases h
theorem Zge {l m:List Fd} {x:Ln} {o p:Opn} {f:Fd} (ha:ZR l x=(m,0)) (hf:ZD l o.at'=(f,0)) (h1:f.kind=1) (k3:o.kind=3) (hd: -1099511627776<=o.delta/\o.delta<=1099511627776) (ho:XS x o=(p,Ht)):
  ∃g,ZD m p.at'=(g,0)/\g.kind=1/\p.kind=3/\1<=g.worth/\g.worth<=1048576/\p.delta*g.worth=o.delta*f.worth:=by
 obtain⟨hl,hx,cs,l1,e1,e2,e3⟩:=XI ha;obtain⟨a1,a2,a3,a4,a5⟩:=T3 hl e2;obtain⟨b1,b2,b3,b4,b5⟩:=Vk a1 e3;have hk:=(Yi hx).1;have hm:=(Z3.1 b1).2;have hfl:=YI (l:=l) (r:=o.at') (by rw[hf]);rw[hf]at hfl;simp only at hfl;obtain⟨fm,fa⟩:=hfl;have fr:=(Z3.1 hl).2.2 f fm;have fw:=Gr fr h1;have coming:∀g∈cs,ZD m g.at'=(g,0)/\Z1 g=true:=λg hg=>⟨YR hm.1 ((b2 g).2 (.inr hg)),(b3 g hg).1⟩
 unfold XS at ho;rw[if_neg (by rw[hx];simp),if_neg (by omega)]at ho;by_cases hp:Yf (Zt x) o.at'<0;rw[if_pos hp]at ho;cases ho;have hfm:f∈m:=(b2 f).2 (.inl ((a2 f).2 ⟨fm,by rw[fa];exact Wt hp⟩));have:=YR hm.1 hfm;rw[fa]at this;exact⟨f,this,h1,k3,fw.1,fw.2,rfl⟩;rw[if_neg hp]at ho;by_cases hb:(Zj x o).2=Hf;rw[if_pos hb]at ho;simp at ho;rw[if_neg hb]at ho;simp only[JA.injEq,and_true]at ho;subst ho;have hb':(Zj x o).2=true:=by simpa using hb
 clear hb b4 b5 a3 a4 a5;obtain⟨kind,at',nm,ot,fac,fd,fo,ba⟩:=x;simp only at hk;have mv:∀r,o.at'=at'->cs= [⟨r,f.kind,f.df,f.cases',f.worth⟩]-> ∃g,ZD m r=(g,0)/\g.kind=1/\1<=g.worth/\g.worth<=1048576/\o.delta*g.worth=o.delta*f.worth:=λr _ hc=>by
  have:=coming ⟨r,f.kind,f.df,f.cases',f.worth⟩ (by rw[hc];simp);exact⟨_,this.1,h1,fw.1,fw.2,rfl⟩
 rcases hk with rfl|rfl|rfl|rfl|rfl|rfl|rfl|rfl|rfl|rfl;have hat:at'=o.at':=Xe (by simpa[Zt]using hp);subst hat;simp[XZ,Zc,hf]at e1;obtain⟨g,g1,g2,g3,g4,g5⟩:=mv (Zf o.at' nm) rfl e1.symm;exact⟨g,by simpa[Zj,Zv,Zc]using g1,g2,by simpa[Zj,Zv]using k3,g3,g4,by simpa[Zj,Zv]using g5⟩;exact absurd (show Yf (Zt ⟨2,at',nm,ot,fac,fd,fo,ba⟩) o.at'<0 from(by decide:(-1:Int)<0)) hp;simp[Zj]at hb';have hat:at'=o.at':=Xe (by simpa[Zt]using hp);subst hat;simp[XZ,Zc,hf]at e1;obtain⟨g,g1,g2,g3,g4,g5⟩:=mv ⟨o.at'.sc,[],o.at'.nm⟩ rfl e1.symm;exact⟨g,by simpa[Zj,Zv,Zc]using g1,g2,by simpa[Zj,Zv]using k3,g3,g4,by simpa[Zj,Zv]using g5⟩;have hat:at'=o.at':=Xe (by simpa[Zt]using hp);subst hat;simp[XZ,Zc,hf]at e1;obtain⟨g,g1,g2,g3,g4,g5⟩:=mv ⟨o.at'.sc,nm,o.at'.nm⟩ rfl e1.symm;exact⟨g,by simpa[Zj,Zv,Zc]using g1,g2,by simpa[Zj,Zv]using k3,g3,g4,by simpa[Zj,Zv]using g5⟩;have hat:at'=o.at':=Xe (by simpa[Zt]using hp);subst hat;simp[XZ,hf]at e1;have:=coming ⟨Zf o.at' nm,1,[],[],f.worth⟩ (by rw[<-e1.1];simp);exact⟨⟨Zf o.at' nm,1,[],[],f.worth⟩,by simpa[Zj,Zv,Zc]using this.1,rfl,by simpa[Zj,Zv]using k3,fw.1,fw.2,by simp[Zj,Zv]⟩;simp[Zj,k3]at hb';simp[Zj,Vz,k3]at hb';have hgo:Zt ⟨9,at',nm,ot,fac,fd,fo,ba⟩= [Zf at' nm,Zf at' ot]:=by simp[Zt]
 rw[hgo]at hp;obtain⟨g,hg1,hg2,hg3⟩:=VQ hp;simp[XZ,Ub]at e1;split at e1;simp at e1;split at e1;simp at e1;rename_i u1 u2;simp only[not_or,Kg]at u1 u2;simp only[JA.injEq,and_true]at e1;obtain⟨q1,q2⟩:=u1;obtain⟨q3,q4,q5⟩:=u2;have hA:=YI q1;have hAr:=Gr ((Z3.1 hl).2.2 _ hA.1) q2;have hcm:=coming ⟨at',1,[],[],(ZD l (Zf at' nm)).1.worth⟩ (by rw[<-e1];simp);have hb2:Zj ⟨9,at',nm,ot,fac,fd,fo,ba⟩ o=(Yc o (Y3 o (g:Int) fac).1,(Y3 o (g:Int) fac).2):=by
  simp only[Zj,hgo,hg1];simp
 rw[hb2]at hb' ⊢;simp only at hb';refine⟨⟨at',1,[],[],(ZD l (Zf at' nm)).1.worth⟩,by simpa[Zv,Zc,Yc]using hcm.1,rfl,by simpa[Zv,Yc]using k3,hAr.1,hAr.2,?_⟩;simp only[Zv,Yc];have hg01:g=0\/g=1:=by simp at hg2;omega
 rcases hg01 with rfl|rfl;have hat:Zf at' nm=o.at':=by simpa using hg3
 rw[hat,hf];simp[Y3,k3];have hat:Zf at' ot=o.at':=by simpa using hg3
 have hdd:YN o.delta=true:=Ys.2 ⟨by omega,by omega⟩;have hmd:Y3 o ((1:Nat):Int) fac=((UZ 0 o.delta fac).1,decide ((UZ 0 o.delta fac).2=0)):=by
  unfold Y3;rw[if_neg (λh=>h k3),if_neg (by omega),if_pos hdd]
 rw[hmd]at hb' ⊢;obtain⟨j1,j2,j3⟩:=ZfU hd (of_decide_eq_true hb');rw[hat,hf]at q5;simp only at q5 ⊢;have hwr:IntKind.i64.wrap ((ZD l (Zf at' nm)).1.worth*fac)=(ZD l (Zf at' nm)).1.worth*fac:=by
  have p1:(ZD l (Zf at' nm)).1.worth*fac<=1048576*fac:=Jb hAr.2 (by omega);have p2:0<=(ZD l (Zf at' nm)).1.worth*fac:=Int.mul_nonneg (by omega) (by omega);exact TD (by omega)
 rw[hwr]at q5;rw[j3,q5,JV fac,Int.mul_assoc,JV fac];simp[Zj,k3]at hb'
def Xl:List Ln->Opn->Opn×Bool
 | [],o=>(o,Ht)
 |x::xs,o=>if(XS x o).2=Hf then(Jd,Hf)else Xl xs (XS x o).1
theorem Th (x:Ln) (xs:List Ln) (o:Opn):Xl (x::xs) o=if(XS x o).2=Hf then(Jd,Hf)else Xl xs (XS x o).1:=rfl
structure Worth (l:List Fd) (o:Opn) (w:Int):Prop where
 k:o.kind=3
 f:∃f,ZD l o.at'=(f,0)/\f.kind=1/\1<=f.worth/\f.worth<=1048576/\o.delta*f.worth=w
 b: -1099511627776<=w/\w<=1099511627776
theorem Worth.delta {l:List Fd} {o:Opn} {w:Int} (h:Worth l o w): -1099511627776<=o.delta/\o.delta<=1099511627776:=by
 obtain⟨_,⟨f,_,_,h1,h2,h3⟩,h4,h5⟩:=h;have hw:o.delta*f.worth=w:=h3;constructor;by_cases hn:o.delta < -1099511627776;exfalso;have p:o.delta*f.worth<=o.delta*1:=Int.mul_le_mul_of_nonpos_left (by omega) h1;omega;omega;by_cases hn:1099511627776<o.delta;exfalso;have p:o.delta*1<=o.delta*f.worth:=Js h1 (by omega);omega;omega
theorem Worth.over {l m:List Fd} {x:Ln} {o p:Opn} {w:Int} (h:Worth l o w) (ha:ZR l x=(m,0)) (ho:XS x o=(p,Ht)):Worth m p w:=by
 have hd:=h.delta;obtain⟨k,⟨f,h0,hk,h1,h2,h3⟩,hb⟩:=h;obtain⟨g,g1,g2,g3,g4,g5,g6⟩:=Zge ha h0 hk k hd ho;exact⟨g3,⟨g,g1,g2,g4,g5,by rw[g6,h3]⟩,hb⟩
theorem Worth.start {l:List Fd} {o:Opn} (hf:T0 l o=Ht) (hl:Z5 l=Ht) (k3:o.kind=3):∃w,Worth l o w:=by
 obtain⟨f0,f1,_,_⟩:=Ge hf (Zsd k3);have f1:=f1 k3;have hd:=Zgq (ZaW hf);have hfe:ZD l o.at'=((ZD l o.at').1,0):=Kh rfl f0;have hz:=YI f0;generalize (ZD l o.at').1=f at *;have fw:=Gr ((Z3.1 hl).2.2 _ hz.1) f1;refine⟨o.delta*f.worth,k3,⟨f,hfe,f1,fw.1,fw.2,rfl⟩,?_⟩;have p1:o.delta*f.worth<=1048576*f.worth:=Jb hd.2 (by omega);have p2:(-1048576)*f.worth<=o.delta*f.worth:=Jb hd.1 (by omega);omega
open Go.PL
theorem Zh1 (c:Rf) (cs:List Rf):Yf (c::cs) c=0:=by
 unfold Yf idx;simp[List.findIdx?_cons]
theorem Zk3 {l:List Rf} {r:Rf} (h:r∉l):Yf l r= -1:=by
 rcases Sd l r with e|⟨g,hg,e⟩;exact e;obtain⟨g',_,h2,h3⟩:=VQ (l:=l) (r:=r) (by omega);exact absurd (h3▸Ze h2) h
theorem Tu {x:Ln} {o:Opn} (hx:ZI x=Ht) (hp:ZK o=Ht):XS x o=if Yf (Zt x) o.at'<0 then(o,Ht)else if(Zj x o).2=Hf then(Jd,Hf)else(Zv (Zj x o).1 ((Zc x).getD 0 Jd),Ht):=by
 unfold XS;have:¬(o.kind≠3/\o.kind≠4):=by
  simp[ZK]at hp;omega
 rw[if_neg (by rw[hx];simp),if_neg this]
theorem ZfJ {l:List Fd} {o:Opn} {f:Fd} (hf:T0 l o=Ht) (hp:ZK o=Ht) (he:ZD l o.at'=(f,0)) (hk:f.kind=1):o.kind=3:=by
 obtain⟨_,_,h2,h3⟩:=Ge hf hp;rw[he]at h2 h3;refine JI λh=> ?_
 cases hh:o.has;have:=h3 h hh;simp only at this;omega;have:=h2 h hh;simp[Xy,hk]at this
theorem Zqh {x:Ln} {o p:Opn} (h:XS x o=(p,Ht)):p.id=o.id/\p.time=o.time/\p.kind=o.kind:=by
 have key:∀q:Opn×Bool,q=XS x o->q.2=Ht->q.1.id=o.id/\q.1.time=o.time/\q.1.kind=o.kind:=by
  intro q hq hq2;subst hq;revert hq2;unfold XS Zj;repeat' split
  all_goals first|(intro _;exact⟨rfl,rfl,rfl⟩)|(intro h;exact absurd h (by simp))
 exact key (p,Ht) h.symm rfl
open Go.PL
def Zsk (o:Opn) (t:Tg):Opn:=⟨o.id,t,o.time,o.cart,o.kind,o.item,o.at',o.delta,o.has,o.text,o.drops⟩
def ZoN (m:List Eg) (a b:Tg) (o:Opn):Opn×Bool:=
 if Wx m a b≠0 then(Jd,Hf)else if(Xl (FM m a b).1 o).2=Hf then(Jd,Hf)else(Zsk (Xl (FM m a b).1 o).1 b,Ht)
def Xx (m:List Eg) (o:Opn) (b:Tg):Int:=
 if XD o=Hf then 5 else if upC m o.sch≠0 then upC m o.sch else if upC m b≠0 then upC m b else if T0 (Ye (Zd m) o.sch).1 o=Hf then 16 else 0
structure SeenT where
 o:Opn
 ok:Bool
 c:Int
 deriving DecidableEq,Inhabited
def toT (m:List Eg) (o:Opn) (b:Tg):SeenT:=if Xx m o b≠0 then⟨Jd,Hf,Xx m o b⟩else⟨(ZoN m o.sch b o).1,(ZoN m o.sch b o).2,0⟩
def X9 (m:List Eg) (o:Opn):Bool:=XD o&&(decide (upC m o.sch=0)&&T0 (Ye (Zd m) o.sch).1 o)
theorem ZcH {m:List Eg} {o:Opn} {b:Tg}:Xx m o b=0↔XD o=Ht/\upC m o.sch=0/\upC m b=0/\T0 (Ye (Zd m) o.sch).1 o=true:=by
 unfold Xx;cases h1:XD o;simp;by_cases h2:upC m o.sch=0;by_cases h3:upC m b=0;cases h4:T0 (Ye (Zd m) o.sch).1 o;simp[h2,h3];simp[h2,h3];simp[h2,h3];simp[h2]
theorem Zkt {m:List Eg} {o:Opn}:Xx m o Jd=0↔X9 m o=true:=by
 rw[ZcH];simp only[X9,Je,decide_eq_true_eq];have h0:upC m Jd=0:=rfl;constructor;rintro ⟨h1,h2,_,h4⟩;exact⟨h1,h2,h4⟩;rintro ⟨h1,h2,h4⟩;exact⟨h1,h2,h0,h4⟩
theorem Zqw {m:List Eg} (hm:OkM m) (hr:RightM m) {a b:Tg} (hu:upC m a=0) (hv:upC m b=0):Gf (FM m a b).1 (Ye (Zd m) a).1=some (Ye (Zd m) b).1:=by
 obtain⟨wa,fa,_⟩:=YT hu;obtain⟨wb,fb,_⟩:=YT hv;unfold FM;rw[if_neg (by rw[Vd.2 ⟨hu,hv⟩];simp)];have kp:∀e∈WX m a,e.ln.kind<=8:=λe he=>Zfy (hr.r e (wa.mem e he))
 obtain⟨ms,a1,a2⟩:=Za0 (lcp (WX m a) (WX m b)) fa;obtain⟨ns,b1,b2⟩:=Za0 (lcp (WX m a) (WX m b)) fb;rw[Zej,b1]at a1;cases a1;show Gf (U0 m (FU (WX m a) (WX m b))) _=_;rw[ZkR hm.a wa.mem wb.mem,FD,ZiY _ (λe he=>kp e (Jq he)) a2];rw[Option.bind_some,ZkB,b2]
theorem ZbE {m:List Eg} (hr:RightM m) {a:Tg} (hu:upC m a=0):Z5 (Ye (Zd m) a).1=true:=by
 obtain⟨wa,fa,_⟩:=YT hu;exact ZaZ _ (λe he=>Zfy (hr.r e (wa.mem e he))) Zla fa
theorem Worth.sch {l:List Fd} {o:Opn} {w:Int} (h:Worth l o w) (t:Tg):Worth l (Zsk o t) w:=⟨h.k,h.f,h.b⟩
open Go.PL
structure AoS (rws:List Ln) (o0:Opn) where
 k:Nat
 o:Opn
 hk:k<=rws.length
 ok:OkOp o
 h:Xl (rws.drop k) o=Xl rws o0
def FP:List PV:= [.int .i64 0,.int .i64 0,.int .i64 0,.int .i64 0,.int .i64 0,.str [],.int .i64 0,.str [],.int .i64 0,.str [],.str [],.int .i64 0,.bool Hf,.str [],.sl .nil []]
theorem Zhe (rws:List Ln) (o:Opn) (hl:rws.length<=1000) (hx:∀x∈rws,OkLn x) (ho:OkOp o):Pp 205 [G5 rws,opv o] (opb (Xl rws o)):=by
 have hW:=Wc o ho;refine Zx func205 rfl ntmps205 results205 (Zo _) ?_;simp only[go_sem,G5,opv];refine ZeM (ι:=AoS rws o) 31 (λx=> [(0,G5 rws),(3,.ptr 3 0),(4,.ptr 4 0),(6,.int .i64 (x.k:Int))]) (λx=> [(3,Xn x.o,Hf),(4,FP,Hf)]) (λx=> []) (λx=>rws.length-x.k) 0 _ (by exact rfl) (λx=>⟨(Fc4 rfl rfl rfl rfl),Fc2 rfl rfl⟩) (λx=> ?_) (λcut=> ?_);obtain⟨k,p,hk,ok,h⟩:=x;simp only;by_cases he:k=rws.length;have hb:((k:Int)==(rws.length:Int))=true:=by simp[he]
 have hd:Xl rws o=(p,Ht):=by rw[<-h,he,List.drop_length];rfl
 simp only[go_sem,G5,hb,hd,opb,opv,Xn,FP];have hb:((k:Int)==(rws.length:Int))=false:=by simp;omega
 have hka:k<rws.length:=by omega
 have i0:=Jc k
 have i1:(k:Int)<(rws.length:Int):=by omega
 have w1:=wk9 (k:=k) (by omega)
 have hT:=ZlV (rws.getD k Jd) p (hx _ (Ze (d:=Jd) hka)) ok;have okn:=Zqi (x:=rws.getD k Jd) ok;rw[ZmD hka,Th]at h;cases hz:(XS (rws.getD k Jd) p).2
 ·rw[if_pos hz]at h;simp only[go_sem,G5,hb];refine vDq ?_;simp only[go_sem,Zd6 hka,lns,i0,i1,Xn,opv];refine vc6 hT ?_;simp only[go_sem,opb,opv,hz,<-h,FP];try rfl
 rw[if_neg (by rw[hz];simp)]at h;simp only[go_sem,G5,hb];refine vDq ?_;simp only[go_sem,Zd6 hka,lns,i0,i1,Xn,opv];refine vc6 hT ?_;simp only[go_sem,opb,opv,hz,w1,FP];exact⟨⟨k+1,(XS (rws.getD k Jd) p).1,by omega,okn,h⟩,nx9 (by omega),⟨rfl,(Fc4 rfl rfl rfl rfl),Fc2 ⟨rfl,rfl⟩ ⟨rfl,rfl⟩,fnl⟩⟩;simp only[go_sem];refine vc6 hW ?_;simp only[go_sem,opv];exact YX (cut ⟨0,o,Jh _,ho,rfl⟩ _ ⟨rfl,(Fc4 rfl rfl rfl rfl),Fc2 ⟨rfl,rfl⟩ ⟨rfl,rfl⟩,fnl⟩)
theorem OkOp.len {o:Opn} (h:OkOp o):o.drops.length<=maxLen:=by have:=h.d;rw[Zb];omega
theorem Zii (m:List Eg) (o:Opn) (a b:Tg) (hm:OkM m) (hr:RightM m) (ho:OkOp o):Pp 163 [tr (Zd m),opv o,tg a,tg b] (opb (ZoN m a b o)):=by
 have hR:=Zo9 m a b hm hr;obtain⟨hrl,hro⟩:=Zru (a:=a) (b:=b) hm;have hA:=Zhe (FM m a b).1 o hrl hro ho;have hc2:(FM m a b).2=Wx m a b:=by unfold FM;split<;>simp_all
 unfold ZoN;by_cases hc:Wx m a b=0;rw[if_neg (λh=>h hc)];rw[hc]at hc2;generalize FM m a b=rw0 at *;obtain⟨rws,c0⟩:=rw0;simp only at hc2 hrl hro hA ⊢;subst hc2;cases hz:(Xl rws o).2
 ·simp only[if_true];refine Zx func163 rfl ntmps163 results163 (Zo _) ?_;simp only[go_sem,tr,tg,opv];refine vc5 hR ?_;simp only[go_sem,Zi9,G5];refine YD hA ?_ ?_ ?_;iterate 2 simp only[go_sem,G5,opv]
  simp only[go_sem,opb,opv,hz];try rfl
 ·simp only[Jf,if_false];refine Zx func163 rfl ntmps163 results163 (Zo _) ?_;simp only[go_sem,tr,tg,opv];refine vc5 hR ?_;simp only[go_sem,Zi9,G5];refine YD hA ?_ ?_ ?_;iterate 2 simp only[go_sem,G5,opv]
  simp only[go_sem,opb,opv,hz,Zsk]
 have hc':(Wx m a b !=0)=true:=by simpa using hc
 rw[if_pos hc];refine Zx func163 rfl ntmps163 results163 (Zo _) ?_;simp only[go_sem,tr,tg,opv];refine vc5 hR ?_;simp only[go_sem,Zi9,G5,hc2,hc',opb,Zz];try rfl
def Sj (x:SeenT):PV:= .tup [opv x.o,.bool x.ok,.int .i64 x.c]
theorem Ve (x:SeenT):(Sj x).dids= []:=by simp only[Sj,JE,Jt,Da,Jl]
theorem G9 {m:List Eg} {a:Tg} (hm:OkM m) (hu:upC m a=0):OkFs (Ye (Zd m) a).1:=by
 obtain⟨wa,fa,_⟩:=YT hu;exact ZnA _ (λe he=>hm.l e (wa.mem e he)) Zgb fa
theorem Zl1 (m:List Eg) (o:Opn) (b:Tg) (hm:OkM m) (hr:RightM m) (ho:OkOp o):Pp 111 [tr (Zd m),opv o,tg b] (Sj (toT m o b)):=by
 have hR:=S5 o ho.len;have hSa:=XH m o.sch hm;have hSb:=XH m b hm;have hA:=Zii m o o.sch b hm hr ho;cases h1:XD o
 ·rw[h1]at hR;have ht:toT m o b=⟨Jd,Hf,5⟩:=by simp[toT,Xx,h1]
  rw[ht];refine Zx func111 rfl ntmps111 results111 (Ve _) ?_;simp only[go_sem,tr,tg,opv];refine vc6 hR ?_;simp only[go_sem,Sj,Zz];try rfl
 rw[h1]at hR;by_cases h2:upC m o.sch=0;have okA:=G9 hm h2;have hF:=Zcs (Ye (Zd m) o.sch).1 o okA ho.len;have v2:(Ye (Zd m) o.sch).2=0:=h2;by_cases h3:upC m b=0;have v3:(Ye (Zd m) b).2=0:=h3;cases h4:T0 (Ye (Zd m) o.sch).1 o
 ·rw[h4]at hF;have ht:toT m o b=⟨Jd,Hf,16⟩:=by simp[toT,Xx,h1,h2,h3,h4]
  rw[ht];clear ht h4 h2 h3 okA hA;generalize Ye (Zd m) o.sch=ya at *;obtain⟨A,ca⟩:=ya;generalize Ye (Zd m) b=yb at *;obtain⟨B,cb⟩:=yb;simp only at v2 v3 hF;subst v2 v3;refine Zx func111 rfl ntmps111 results111 (Ve _) ?_;simp only[go_sem,tr,tg,opv];refine vc6 hR ?_;simp only[go_sem];refine vc5 hSa ?_;simp only[go_sem,ZP,Zh];refine vc5 hSb ?_;simp only[go_sem,ZP,Zh];refine vc6 hF ?_;simp only[go_sem,Sj,Zz];try rfl
 rw[h4]at hF;have ht:toT m o b=⟨(ZoN m o.sch b o).1,(ZoN m o.sch b o).2,0⟩:=by simp[toT,Xx,h1,h2,h3,h4]
 rw[ht];clear ht h4 h2 h3 okA;generalize ZoN m o.sch b o=yw at *;obtain⟨wq,wk⟩:=yw;generalize Ye (Zd m) o.sch=ya at *;obtain⟨A,ca⟩:=ya;generalize Ye (Zd m) b=yb at *;obtain⟨B,cb⟩:=yb;simp only at v2 v3 hF;subst v2 v3;refine Zx func111 rfl ntmps111 results111 (Ve _) ?_;simp only[go_sem,tr,tg,opv];refine vc6 hR ?_;simp only[go_sem];refine vc5 hSa ?_;simp only[go_sem,ZP,Zh];refine vc5 hSb ?_;simp only[go_sem,ZP,Zh];refine vc6 hF ?_;simp only[go_sem];refine vcn hA ?_;simp only[go_sem,opb,opv,Sj]
 ·have v3:((Ye (Zd m) b).2 !=0)=true:=by have h':(Ye (Zd m) b).2≠0:=h3;simpa using h'
  have ht:toT m o b=⟨Jd,Hf,(Ye (Zd m) b).2⟩:=by
   have e:upC m b=(Ye (Zd m) b).2:=rfl;rw[<-e];simp[toT,Xx,h1,h2,h3]
  rw[ht];clear ht h2 h3 okA hA;generalize Ye (Zd m) o.sch=ya at *;obtain⟨A,ca⟩:=ya;generalize Ye (Zd m) b=yb at *;obtain⟨B,cb⟩:=yb;simp only at v2 v3 hF;subst v2;refine Zx func111 rfl ntmps111 results111 (Ve _) ?_;simp only[go_sem,tr,tg,opv];refine vc6 hR ?_;simp only[go_sem];refine vc5 hSa ?_;simp only[go_sem,ZP,Zh];refine vc5 hSb ?_;simp only[go_sem,ZP,Zh,v3,Sj,Zz];try rfl
 have v2:((Ye (Zd m) o.sch).2 !=0)=true:=by have h':(Ye (Zd m) o.sch).2≠0:=h2;simpa using h'
 have ht:toT m o b=⟨Jd,Hf,(Ye (Zd m) o.sch).2⟩:=by
  have e:upC m o.sch=(Ye (Zd m) o.sch).2:=rfl;rw[<-e];simp[toT,Xx,h1,h2]
 rw[ht];clear ht h2 hA;generalize Ye (Zd m) o.sch=ya at *;obtain⟨A,ca⟩:=ya;simp only at v2;refine Zx func111 rfl ntmps111 results111 (Ve _) ?_;simp only[go_sem,tr,tg,opv];refine vc6 hR ?_;simp only[go_sem];refine vc5 hSa ?_;simp only[go_sem,ZP,Zh,v2,Sj,Zz];try rfl
theorem Zhg (m:List Eg) (o:Opn) (hm:OkM m) (ho:OkOp o):Pp 109 [tr (Zd m),opv o] (.bool (X9 m o)):=by
 have hR:=S5 o ho.len;have hSa:=XH m o.sch hm;unfold X9;cases h1:XD o;rw[h1]at hR;refine ZM func109 rfl ntmps109 results109 ?_;simp only[go_sem,tr,opv];refine vc6 hR ?_;simp only[go_sem,Ja];rw[h1]at hR;by_cases h2:upC m o.sch=0;have hF:=Zcs (Ye (Zd m) o.sch).1 o (G9 hm h2) ho.len;rw[decide_eq_true h2];have v2:(Ye (Zd m) o.sch).2=0:=h2;generalize Ye (Zd m) o.sch=ya at *;obtain⟨A,ca⟩:=ya;simp only at v2 hF;subst v2;refine ZM func109 rfl ntmps109 results109 ?_;simp only[go_sem,tr,opv];refine vc6 hR ?_;simp only[go_sem,tg];refine vc5 hSa ?_;simp only[go_sem,ZP,Zh];refine vc6 hF ?_;simp only[go_sem,Jg];have v2:((Ye (Zd m) o.sch).2==0)=false:=by have h':(Ye (Zd m) o.sch).2≠0:=h2;simpa using h'
 rw[decide_eq_false h2];refine ZM func109 rfl ntmps109 results109 ?_;simp only[go_sem,tr,opv];refine vc6 hR ?_;simp only[go_sem,tg];refine vc5 hSa ?_;simp only[go_sem,ZP,Zh,v2,Ja,Jj]
open Go.PL Go.PL.Srt
def ZJ (a b:Opn):Bool:=if a.time=b.time then Vw a.id b.id else decide (a.time<b.time)
theorem Su (a b:Opn):Pp 77 [opv a,opv b] (.bool (ZJ a b)):=by
 have hT:=ZcB a.id b.id;unfold ZJ;by_cases h:a.time=b.time;have e:(a.time !=b.time)=false:=by simpa using h
 rw[if_pos h];refine ZM func77 rfl ntmps77 results77 ?_;simp only[go_sem,opv,e];refine vc3 hT ?_;simp only[go_sem];have e:(a.time !=b.time)=true:=by simpa using h
 rw[if_neg h];refine ZM func77 rfl ntmps77 results77 ?_;simp only[go_sem,opv,e]
def Zgc (a b:Opn):Int:=if ZJ a b=Ht then-1 else if ZJ b a=Ht then 1 else 0
theorem ZgY (a b:Opn):Pp 110 [opv a,opv b] (.int .i64 (Zgc a b)):=by
 have h1:=Su a b;have h2:=Su b a;unfold Zgc;cases e1:ZJ a b
 ·cases e2:ZJ b a;all_goals
   rw[e1]at h1;rw[e2]at h2;refine ZM func110 rfl ntmps110 results110 ?_;simp only[go_sem,opv];refine vc6 h1 ?_;simp only[go_sem];refine vc6 h2 ?_;simp only[go_sem]
 rw[e1]at h1;refine ZM func110 rfl ntmps110 results110 ?_;simp only[go_sem,opv];refine vc6 h1 ?_;simp only[go_sem]
theorem U8 (a b:Tg):Vw a b=Ht↔a.r<b.r\/(a.r=b.r/\a.n<b.n):=by
 unfold Vw;split;rename_i h;rw[decide_eq_true_eq];exact⟨λk=> .inr ⟨h,k⟩,λk=>by rcases k with k|k;exact absurd h (by omega);exact k.2⟩;rename_i h;rw[decide_eq_true_eq];exact⟨.inl,λk=>by rcases k with k|k;exact k;exact absurd k.1 h⟩
theorem Zlr {a b:Tg} (h:Vw a b=Ht):Vw b a=false:=by
 rw[JB,ne_eq,U8];rw[U8]at h;omega
theorem Zik {a b c:Tg} (h1:Vw a b=Ht) (h2:Vw b c=Ht):Vw a c=true:=by
 rw[U8]at *;omega
theorem Zon {a b:Tg} (h:a≠b):Vw a b=Ht\/Vw b a=true:=by
 rw[U8,U8];by_cases e:a.r=b.r;have hn:a.n≠b.n:=λen=>h (by cases a;cases b;simp only at e en;subst e en;rfl)
 omega;omega
theorem oless_good:Srt.Good ZJ where
 asym a b h:=by
  unfold ZJ at *
  by_cases e:a.time=b.time
  ·rw[if_pos e]at h;rw[if_pos e.symm];exact Zlr h
  ·rw[if_neg e]at h;rw[if_neg (λx=>e x.symm)];simp at h ⊢;omega
 trans a b c h1 h2:=by
  unfold ZJ at *
  by_cases p:a.time=b.time
  ·rw[if_pos p]at h1
   by_cases q:b.time=c.time
   ·rw[if_pos q]at h2;rw[if_pos (p.trans q)];exact Zik h1 h2
   ·rw[if_neg q]at h2;rw[if_neg (λx=>q (p.symm.trans x))];simp at h2 ⊢;omega
  ·rw[if_neg p]at h1
   by_cases q:b.time=c.time
   ·rw[if_pos q]at h2;rw[if_neg (λx=>p (x.trans q.symm))];simp at h1 ⊢;omega
   ·rw[if_neg q]at h2;simp at h1 h2;rw[if_neg (by omega)];simp;omega
theorem ZnE {a b:Opn} (h:a.id≠b.id):ZJ a b=Ht\/ZJ b a=true:=by
 unfold ZJ;by_cases e:a.time=b.time;rw[if_pos e,if_pos e.symm];exact Zon h;rw[if_neg e,if_neg (λx=>e x.symm)];simp;omega
theorem ops_sort:SortK opv 110 ZJ Zgc where
 len _:=rfl
 atom a:=rfl
 ids a:=by simp[opv,Ju,J7]
 known _:=rfl
 give a m:=by simp[opv,PV.give,J3]
 givable a m:=by simp[opv,PV.givable,JQ]
 part a:=rfl
 cmp:=ZgY
 cv a b:=by
  unfold Zgc;cases h1:ZJ a b
  ·cases h2:ZJ b a<;>simp
  ·simp
 good:=oless_good
def Zu (l:List Opn):PV:= .sl .no (l.map opv)
theorem vc7 {x:Bool} {M:KH} {g:FuncId} {args args':List PV} {K:KR} {r:PV} (h1:Pp g args' r) (h2:K.k r M.m) (h0:JQ M.m args:=by first|(simp only[go_sem,ref,ent,Yd,doc,Yo,row,Zh,fld,lns,tg,refs,prs,pr,eg,egs,tgs,lg,lgs,Zf,opv,tr,Zu];done)|exact rfl) (he:J3 M.m args=args':=by first|(simp only[go_sem,ref,ent,Yd,doc,Yo,row,Zh,fld,lns,tg,refs,prs,pr,eg,egs,tgs,lg,lgs,Zf,opv,tr,Zu];done)|exact rfl):@U9 prog x M (some (g,args)) K:=YD h1 h0 he h2
theorem Yv (l:List Opn):Sized 15 (l.map opv):=λe he=>by
 obtain⟨o,_,rfl⟩:=Jk.1 he;rfl
theorem WE (l:List Opn):XO (l.map opv):=λe he=>by
 obtain⟨o,_,rfl⟩:=Jk.1 he;rfl
theorem ZpG (l:List Opn):Jt (l.map opv)= []:=by
 induction l with
 |nil=>rfl
 |cons o l ih=>simp only[Jw,Jt,Da,ih,Jl]
theorem U2 (l:List Opn):(Zu l).dids= []:=by simp only[Zu,JE,ZpG]
theorem Zw {l:List Opn} {k:Nat} (h:k<l.length):(l.map opv).getD k .any=opv (l.getD k Jd):=XR h
theorem UE (o:Opn):(opv o).ids= []:=ops_sort.ids o
theorem ZlU (o:Opn) (ho:OkOp o):Pp 52 [opv o] (opv o):=by
 have hr:=Ya ho.d (show 16<=1000 by omega);refine Zx func52 rfl ntmps52 results52 (Da _) ?_;simp only[go_sem,opv,SQ,ZiL,hr]
def Tp (l:List Opn) (most:Int):Bool:=decide (most<(l.length:Int))||l.any SX
theorem Zb2 (l:List Opn) (most:Int) (hl:l.length<=maxLen):Pp 7 [Zu l,.int .i64 most] (.bool (Tp l most)):=by
 by_cases hm:most<(l.length:Int);refine ZM func7 rfl ntmps7 results7 ?_;simp only[go_sem,Zu,hm,Tp];have hz:Tp l most=l.any SX:=by simp only[Tp,hm,decide_false,Bool.false_or]
 rw[hz];refine ZM func7 rfl ntmps7 results7 ?_;simp only[go_sem,Zu,hm];refine Zs (ι:= { x:Nat // x<=(l).length/\(∀j,j<x->SX (l.getD j Jd)=Hf) }) 21 (λx=> [(0,Zu l),(5,.int .i64 (x.1:Int))]) (λx=> []) (λx=> []) (λx=>(l).length-x.1) ⟨0,Jh _,λj hj=>absurd hj (Jn j)⟩ ⟨rfl,(Fc2 rfl rfl),fnl,fnl⟩ (λx=>⟨(Fc2 rfl rfl),fnl⟩) (λx=> ?_);obtain⟨k,hk,hI⟩:=x;simp only at hk hI ⊢;by_cases h:(k:Int)<(l.length:Int)
 (have hka:k<(l).length:=by omega);(have w1:=Xi hka (hl));(have i1:=Jc k)
 have hF:=Ze5 (l.getD k Jd);cases hf:SX (l.getD k Jd)
 ·rw[hf]at hF;simp only[go_sem,Zu,h,Zw hka,opv,i1];refine vc6 hF ?_;simp only[go_sem,w1];exact⟨⟨k+1,by(try simp only);omega,Zm hI hf⟩,by show(l).length-(k+1)<(l).length-k;omega,⟨rfl,(Fc2 rfl rfl),fnl,fnl⟩⟩
 rw[hf]at hF;have hz:=Ti (p:=SX) hka hf;simp only[go_sem,Zu,h,Zw hka,opv,i1];refine vc6 hF ?_;simp only[go_sem,hz];have hz:=UN (p:=SX) (d:=Jd) (l:=l) (λj hj=>hI j (by omega));simp only[go_sem,Zu,h,hz]
theorem Zwj {l:List Opn} {most:Nat} (h:Tp l (most:Int)=Hf):l.length<=most/\ ∀o∈l,OkOp o:=by
 simp only[Tp,JD,decide_eq_false_iff_not,JT]at h;refine⟨by omega,λo ho=>⟨?_⟩⟩;have:=h.2 o ho;simp only[SX,Bool.not_eq_true,JD,decide_eq_false_iff_not]at this;omega
def apartB (l:List Opn):Bool:=decide (l.map Opn.id).Nodup
theorem Zma {l:List Opn} (h:∀i,i<l.length-> ∀j,j<i->(l.getD i Jd).id≠(l.getD j Jd).id):apartB l=true:=by
 unfold apartB;rw[decide_eq_true_eq,JH,JJ];intro i j hi hj hij;simp only[Jp]at hi hj;have:=h j hj i hij;rw[getD_lt hi,getD_lt hj]at this;simp only[JZ];exact λe=>this e.symm
theorem Zpp {l:List Opn} {i j:Nat} (hi:i<l.length) (hj:j<i) (h:(l.getD i Jd).id=(l.getD j Jd).id):apartB l=false:=by
 unfold apartB;rw[decide_eq_false_iff_not,JH,JJ];intro hn;have:=hn j i (by simp;omega) (by simpa using hi) hj;simp only[JZ]at this;rw[getD_lt hi,getD_lt (by omega)]at h;exact this h.symm
theorem Zg3 (l:List Opn) (hl:l.length<=maxLen):Pp 8 [Zu l] (.bool (apartB l)):=by
 refine ZM func8 rfl ntmps8 results8 ?_;simp only[go_sem,Zu];refine Zs (ι:= { x:Nat // x<=(l).length/\(∀i,i<x-> ∀j,j<i->(l.getD i Jd).id≠(l.getD j Jd).id) }) 27 (λx=> [(0,Zu l),(3,.int .i64 (x.1:Int))]) (λx=> []) (λx=> []) (λx=>(l).length-x.1) ⟨0,Jh _,λj hj=>absurd hj (Jn j)⟩ ⟨rfl,(Fc2 rfl rfl),fnl,fnl⟩ (λx=>⟨(Fc2 rfl rfl),fnl⟩) (λx=> ?_);obtain⟨k,hk,hI⟩:=x;simp only at hk hI ⊢;by_cases h:(k:Int)<(l.length:Int)
 (have hka:k<(l).length:=by omega);(have w1:=Xi hka (hl));(have i1:=Jc k)
 simp only[go_sem,Zu,h];refine Zs (ι:= { x:Nat // x<=(l.take k).length/\(∀j,j<x->(l.getD k Jd).id≠(l.getD j Jd).id) }) 27 (λx=> [(0,Zu l),(3,.int .i64 (k:Int)),(4,.int .i64 (x.1:Int))]) (λx=> []) (λx=> []) (λx=>(l.take k).length-x.1) ⟨0,Jh _,λj hj=>absurd hj (Jn j)⟩ ⟨rfl,(Fc3 rfl rfl rfl),fnl,fnl⟩ (λx=>⟨(Fc3 rfl rfl rfl),fnl⟩) (λx=> ?_);obtain⟨kb,hkb,hIb⟩:=x;simp only at hkb hIb ⊢;have hlt:(l.take k).length=k:=by rw[JY];omega
 rw[hlt]at hkb;by_cases hb:(kb:Int)<(k:Int);have hkb2:kb<l.length:=by omega
 have w2:IntKind.i64.wrap ((kb:Int)+1)=((kb+1:Nat):Int):=by rw[w64 (by rw[Zb]at hl;omega)];rfl
 have b1:(0:Int)<=(kb:Int)/\(kb:Int)<(l.length:Int):=by omega
 by_cases he:(l.getD k Jd).id=(l.getD kb Jd).id;have hz:=Zpp hka (show kb<k by omega) he;simp only[go_sem,Zu,hb];refine vDq ?_;simp only[go_sem,Zw hka,Zw hkb2,opv,i1,h,b1.1,b1.2,Z4,he,hz];simp only[go_sem,Zu,hb];refine vDq ?_;simp only[go_sem,Zw hka,Zw hkb2,opv,i1,h,b1.1,b1.2,Z4,he,w2];exact⟨⟨kb+1,by rw[hlt];omega,λj hj=>by
  have hj:j<kb+1:=hj;by_cases e:j=kb;subst e;exact he;exact hIb j (by omega)⟩,by show(l.take k).length-(kb+1)<(l.take k).length-kb;rw[hlt];omega,⟨rfl,(Fc3 rfl rfl rfl),fnl,fnl⟩⟩
 simp only[go_sem,Zu,hb,w1];exact⟨⟨k+1,by omega,λi hi j hj=>by
  have hi:i<k+1:=hi;by_cases e:i=k;subst e;exact hIb j (by omega);exact hI i (by omega) j hj⟩,nx9 (by omega),⟨rfl,(Fc2 rfl rfl),fnl,fnl⟩⟩
 have hz:=Zma (l:=l) (λi hi=>hI i (by omega));simp only[go_sem,Zu,h,hz]
open Go.PL
theorem ZhD (f:Fd) (l:List Str) (hf:f.cases'.length<=maxLen) (hl:l.length<=maxLen):Pp 220 [fld f,Yo l] (.bool (l.all (Xy f))):=by
 refine ZM func220 rfl ntmps220 results220 ?_;simp only[go_sem,fld,Yo];refine Zs (ι:= { x:Nat // x<=(l).length/\(∀j,j<x->Xy f (l.getD j [])=Ht) }) 18 (λx=> [(2,.ptr 2 0),(7,Yo l),(8,.int .i64 (l.length:Int)),(9,.int .i64 (x.1:Int))]) (λx=> [(2,TV f,Hf)]) (λx=> []) (λx=>(l).length-x.1) ⟨0,Jh _,λj hj=>absurd hj (Jn j)⟩ ⟨rfl,(Fc4 rfl rfl rfl rfl),(fcs ⟨rfl,rfl⟩ fnl),fnl⟩ (λx=>⟨(Fc4 rfl rfl rfl rfl),(fcs rfl fnl)⟩) (λx=> ?_);obtain⟨k,hk,hI⟩:=x;simp only at hk hI ⊢;by_cases h:(k:Int)<(l.length:Int)
 (have hka:k<(l).length:=by omega);(have w1:=Xi hka (hl));(have i1:=Jc k)
 have hF:=Zcq f (l.getD k []) hf;cases hq:Xy f (l.getD k []);rw[hq]at hF;have hz:=Zfg (p:=Xy f) hka hq;simp only[go_sem,Yo,h,ZQ hka,i1,TV];refine vc2 hF ?_;simp only[go_sem,hz]
 ·rw[hq]at hF;simp only[go_sem,Yo,h,ZQ hka,i1,TV];refine vc2 hF ?_;simp only[go_sem,w1];exact⟨⟨k+1,by(try simp only);omega,Zm hI hq⟩,by show(l).length-(k+1)<(l).length-k;omega,⟨rfl,(Fc4 rfl rfl rfl rfl),(fcs ⟨rfl,rfl⟩ fnl),fnl⟩⟩
 have hz:=ZiG (p:=Xy f) (d:= []) (l:=l) (λj hj=>hI j (by omega));simp only[go_sem,h,hz]
theorem ZjU (f:Fd) (e:En) (hl:f.cases'.length<=maxLen) (he:e.l.length<=maxLen):Pp 171 [fld f,ent e] (.bool (XG f e)):=by
 have hR:=UI f hl;have hA:=ZhD f e.l hl he;cases hr:Z1 f;rw[hr]at hR;refine ZM func171 rfl ntmps171 results171 ?_;simp only[go_sem,fld,ent];refine vc2 hR ?_;simp only[go_sem,XG,hr,Ja];rw[hr]at hR;by_cases ha:e.at'=f.at';have ha':=decide_eq_true ha;by_cases h1:f.kind=1
 ·have k1:(f.kind==1)=true:=by rw[h1];rfl
  have hx:XG f e=ZkA e:=by simp only[XG,hr,ha',Jr,Jg,h1,if_true]
  rw[hx];refine ZM func171 rfl ntmps171 results171 ?_;simp only[go_sem,fld,ent];refine vc2 hR ?_;simp only[go_sem,Zr,ha',k1];repeat' ((first|(first|apply ZC|apply ZB|apply ZO)<;>intro h|refine vDq ?_)<;>first|simp only[go_sem,h]|simp only[go_sem]|skip)
  all_goals (simp_all[ZkA];try(first|omega|(rw[decide_eq_true (show(-4503599627370497:Int)<e.n by omega),decide_eq_true (show e.n<4503599627370497 by omega)];simp)))
 have k1:(f.kind==1)=false:=beq_eq_false_iff_ne.2 h1;have hx:XG f e=(Gb f e&&T1 f e):=by simp only[XG,hr,ha',Jr,Jg,h1,if_false]
 rw[hx];by_cases hn:e.n=0;have n1:(e.n !=0)=false:=by rw[hn];rfl
 by_cases h4:f.kind=4;have k4:(f.kind==4)=true:=by rw[h4];rfl
 have hx2:(Gb f e&&T1 f e)=(decide ((e.l.length:Int)<=400)&&e.l.all (Xy f)):=by
  simp only[Gb,T1,h4,if_true,hn,decide_true,J5];congr 1;rw[Jo];simp
 rw[hx2];by_cases h5:(e.l.length:Int)<=400;refine ZM func171 rfl ntmps171 results171 ?_;simp only[go_sem,fld,ent];refine vc2 hR ?_;simp only[go_sem,Zr,ha',k1,n1,k4,h5];refine vc2 hA ?_;simp only[go_sem,decide_eq_true h5,Jg];refine ZM func171 rfl ntmps171 results171 ?_;simp only[go_sem,fld,ent];refine vc2 hR ?_;simp only[go_sem,Zr,ha',k1,n1,k4,h5,Ja];have k4:(f.kind==4)=false:=beq_eq_false_iff_ne.2 h4;have hx2:(Gb f e&&T1 f e)=(((e.l.length:Int)==1)&&e.l.all (Xy f)):=by
  simp only[Gb,T1,h4,if_false,hn,decide_true,J5];congr 1
 rw[hx2];cases h5:(e.l.length:Int)==1;refine ZM func171 rfl ntmps171 results171 ?_;simp only[go_sem,fld,ent];refine vc2 hR ?_;simp only[go_sem,Zr,ha',k1,n1,k4,h5,Ja];refine ZM func171 rfl ntmps171 results171 ?_;simp only[go_sem,fld,ent];refine vc2 hR ?_;simp only[go_sem,Zr,ha',k1,n1,k4,h5];refine vc2 hA ?_;simp only[go_sem,Jg];have n1:(e.n !=0)=true:=bne_iff_ne.2 hn;have hx2:(Gb f e&&T1 f e)=false:=by simp[T1,hn]
 rw[hx2];refine ZM func171 rfl ntmps171 results171 ?_;simp only[go_sem,fld,ent];refine vc2 hR ?_;simp only[go_sem,Zr,ha',k1,n1];have ha':=decide_eq_false ha;have hx:XG f e=false:=by simp only[XG,ha',Jj,Ja]
 rw[hx];refine ZM func171 rfl ntmps171 results171 ?_;simp only[go_sem,fld,ent];refine vc2 hR ?_;simp only[go_sem,Zr,ha']
theorem Zn {l:List En} {i:Nat} (h:i<l.length):(l.map ent).getD i .any=ent (l.getD i Jd):=XR h
theorem V5 {l:List Rw} {i:Nat} (h:i<l.length):(l.map row).getD i .any=row (l.getD i Jd):=XR h
theorem U5 (l:List Fd) (es:List En) (hl:l.length<=maxLen) (hes:es.length<=maxLen) (hl':∀f∈l,f.cases'.length<=maxLen) (hes':∀e∈es,e.l.length<=maxLen):Pp 122 [Zh l,Yd es] (.bool (Yr l es)):=by
 by_cases he:l.length=es.length;have he':((l.length:Int) !=(es.length:Int))=false:=by rw[he];exact bne_self_eq_false _
 have hx:Yr l es=(JN l.length).all (λi=>XG (l.getD i Jd) (es.getD i Jd)):=by simp only[Yr,he,decide_true,Jg]
 rw[hx];refine ZM func122 rfl ntmps122 results122 ?_;simp only[go_sem,Zh,Yd,he'];refine Zs (ι:= { x:Nat // x<=(l).length/\(∀j,j<x->XG (l.getD j Jd) (es.getD j Jd)=Ht) }) 27 (λx=> [(1,Yd es),(12,Zh l),(13,.int .i64 (l.length:Int)),(14,.int .i64 (x.1:Int))]) (λx=> []) (λx=> []) (λx=>(l).length-x.1) ⟨0,Jh _,λj hj=>absurd hj (Jn j)⟩ ⟨rfl,(Fc4 rfl rfl rfl rfl),fnl,fnl⟩ (λx=>⟨(Fc4 rfl rfl rfl rfl),fnl⟩) (λx=> ?_);obtain⟨k,hk,hI⟩:=x;simp only at hk hI ⊢;by_cases h:(k:Int)<(l.length:Int)
 (have hka:k<(l).length:=by omega);(have w1:=Xi hka (hl));(have i1:=Jc k)
 have hkb:k<es.length:=by omega
 have i2:(k:Int)<(es.length:Int):=by omega
 have hF:=ZjU (l.getD k Jd) (es.getD k Jd) (hl' _ (Zp hka)) (hes' _ (Zp hkb));cases hf:XG (l.getD k Jd) (es.getD k Jd);rw[hf]at hF;have hz:=ZU (p:=λi=>XG (l.getD i Jd) (es.getD i Jd)) hka hf;simp only[go_sem,Zh,Yd,h,i1,Zy hka,fld];refine vDq ?_;simp only[go_sem,Zn hkb,ent,i1,i2];refine vc2 hF ?_;simp only[go_sem,hz]
 ·rw[hf]at hF;simp only[go_sem,Zh,Yd,h,i1,Zy hka,fld];refine vDq ?_;simp only[go_sem,Zn hkb,ent,i1,i2];refine vc2 hF ?_;simp only[go_sem,w1];exact⟨⟨k+1,by(try simp only);omega,Zm hI hf⟩,by show(l).length-(k+1)<(l).length-k;omega,⟨rfl,(Fc4 rfl rfl rfl rfl),fnl,fnl⟩⟩
 have hz:=X7 (p:=λi=>XG (l.getD i Jd) (es.getD i Jd)) (n:=l.length) (λj hj=>hI j (by omega));simp only[go_sem,h,hz];have he':((l.length:Int) !=(es.length:Int))=true:=bne_iff_ne.2 (by omega);have hx:Yr l es=false:=by simp only[Yr,he,decide_false,Ja]
 rw[hx];refine ZM func122 rfl ntmps122 results122 ?_;simp only[go_sem,Zh,Yd,he']
open Go.PL
theorem Zar (l:List Fd) (d:Dc) (hl:l.length<=maxLen) (hl':∀f∈l,f.cases'.length<=1000000) (hd:ZoX d):Pp 79 [Zh l,doc d] (.bool (YB l d)):=by
 obtain⟨d1,d2,d3,d4⟩:=hd;have hl2:∀f∈l,f.cases'.length<=maxLen:=λf hf=>by have:=hl' f hf;rw[Zb];omega
 have hR:=Te l hl hl2;cases hr:Z5 l;rw[hr]at hR;have hx:YB l d=false:=by simp only[YB,T4,hr,Ja]
 refine ZM func79 rfl ntmps79 results79 ?_;simp only[go_sem,Zh,doc];refine vc2 hR ?_;simp only[go_sem,hx];rw[hr]at hR;have h16:=Fe hr;have sl:∀sc,(ZY l sc).length<=maxLen:=λsc=>J8 (JP _ _) hl
 have sc:∀s,∀f∈ZY l s,f.cases'.length<=maxLen:=λs f hf=>hl2 f (List.mem_filter.1 hf).1
 have hS0:=DI l 0 (by omega) hl';have hS1:=DI l 1 (by omega) hl';by_cases h4:(400:Int)<(d.rows.length:Int);have hx:YB l d=false:=by simp only[YB,T4,h4,decide_true,J6,Ja,Jj]
 refine ZM func79 rfl ntmps79 results79 ?_;simp only[go_sem,Zh,doc];refine vc2 hR ?_;simp only[go_sem,h4,hx];have hE:=U5 (ZY l 0) d.head (sl 0) d1 (sc 0) d3;cases he:Yr (ZY l 0) d.head;rw[he]at hE;have hx:YB l d=false:=by simp only[YB,T4,he,Ja,Jj]
 refine ZM func79 rfl ntmps79 results79 ?_;simp only[go_sem,Zh,doc];refine vc2 hR ?_;simp only[go_sem,h4];refine vDq ?_;simp only[go_sem,Zh];refine vc2 hS0 ?_;simp only[go_sem,Zh];refine vc2 hE ?_;simp only[go_sem,hx];rw[he]at hE;have hx:YB l d=(JN d.rows.length).all (XT l d.rows):=by simp only[YB,T4,hr,h4,he,decide_false,JC,Jr,Jg]
 rw[hx];refine ZM func79 rfl ntmps79 results79 ?_;simp only[go_sem,Zh,doc];refine vc2 hR ?_;simp only[go_sem,h4];refine vDq ?_;simp only[go_sem,Zh];refine vc2 hS0 ?_;simp only[go_sem,Zh];refine vc2 hE ?_;simp only[go_sem,Zh];refine vc2 hS1 ?_;simp only[go_sem];refine Zs (ι:= { x:Nat // x<=(d.rows).length/\(∀j,j<x->XT l d.rows j=Ht) }) 59 (λx=> [(3,.ptr 3 0),(5,Zh (ZY l 1)),(26,.sl .no (d.rows.map row)),(27,.int .i64 (d.rows.length:Int)),(28,.int .i64 (x.1:Int))]) (λx=> [(3,[.sl .no (d.head.map ent),.sl .no (d.rows.map row)],Hf)]) (λx=> []) (λx=>(d.rows).length-x.1) ⟨0,Jh _,λj hj=>absurd hj (Jn j)⟩ ⟨rfl,(Fc5 rfl rfl rfl rfl rfl),(fcs ⟨rfl,rfl⟩ fnl),fnl⟩ (λx=>⟨(Fc5 rfl rfl (by simp[Ju,ZX]) (by simp[Ju,ZX]) rfl),(fcs (by simp[Ju,J7,ZX]) fnl)⟩) (λx=> ?_);obtain⟨k,hk,hI⟩:=x;simp only at hk hI ⊢;by_cases h:(k:Int)<(d.rows.length:Int)
 (have hka:k<(d.rows).length:=by omega);(have w1:=Xi hka (d2));(have i1:=Jc k)
 have hN:=Xv (d.rows.getD k Jd).item;have rk:=d4 _ (Zp (d:=Jd) hka);have hE1:=U5 (ZY l 1) (d.rows.getD k Jd).l (sl 1) rk.1 (sc 1) rk.2;have gk:=V5 hka;cases hn:Yj (d.rows.getD k Jd).item;rw[hn]at hN;have hz:=ZU (p:=XT l d.rows) hka (by simp only[XT,hn,Ja]);simp only[go_sem,h,gk,row,i1];refine vDq ?_;simp only[go_sem,h,gk,row,i1];refine vc1 hN ?_;simp only[go_sem,hz];rw[hn]at hN;by_cases h0:0<(k:Int);have hk1:k-1<d.rows.length:=by omega
 have gj:=V5 hk1;have w2:IntKind.i64.wrap ((k:Int)-1)=((k-1:Nat):Int):=by
  rw[Zb]at d2;rw[w64 (by omega)];omega
 have j1:(0:Int)<=((k-1:Nat):Int):=by omega
 have j2:((k-1:Nat):Int)<(d.rows.length:Int):=by omega
 cases hb:ZH (d.rows.getD (k-1) Jd).item (d.rows.getD k Jd).item;have hz:=ZU (p:=XT l d.rows) hka (by simp only[XT,hb,decide_eq_false (show ¬k=0 by omega),J9,Jj,Ja]);simp only[go_sem,h,gk,row,i1];refine vDq ?_;simp only[go_sem,h,gk,row,i1];refine vc1 hN ?_;simp only[go_sem,h0,w2,gj,gk,row,h,i1,j1,j2,hb,hz];cases hf:Yr (ZY l 1) (d.rows.getD k Jd).l;rw[hf]at hE1;have hz:=ZU (p:=XT l d.rows) hka (by simp only[XT,hf,Jj]);simp only[go_sem,h,gk,row,i1];refine vDq ?_;simp only[go_sem,h,gk,row,i1];refine vc1 hN ?_;simp only[go_sem,h0,w2,gj,gk,row,h,i1,j1,j2,hb,Zh];refine vc2 hE1 ?_;simp only[go_sem,hz]
 ·rw[hf]at hE1;have ok:XT l d.rows k=true:=by simp only[XT,hn,hb,hf,Ka,Jr]
  simp only[go_sem,h,gk,row,i1];refine vDq ?_;simp only[go_sem,h,gk,row,i1];refine vc1 hN ?_;simp only[go_sem,h0,w2,gj,gk,row,h,i1,j1,j2,hb,Zh];refine vc2 hE1 ?_;simp only[go_sem,w1];exact⟨⟨k+1,by(try simp only);omega,Zm hI ok⟩,by show(d.rows).length-(k+1)<(d.rows).length-k;omega,⟨rfl,(Fc5 rfl rfl rfl rfl rfl),(fcs ⟨rfl,rfl⟩ fnl),fnl⟩⟩
 have hk0:k=0:=by omega
 cases hf:Yr (ZY l 1) (d.rows.getD k Jd).l;rw[hf]at hE1;have hz:=ZU (p:=XT l d.rows) hka (by simp only[XT,hf,Jj]);simp only[go_sem,h,gk,row,i1];refine vDq ?_;simp only[go_sem,h,gk,row,i1];refine vc1 hN ?_;simp only[go_sem,h0,gk,row,h,i1,Zh];refine vc2 hE1 ?_;simp only[go_sem,hz]
 ·rw[hf]at hE1;have ok:XT l d.rows k=true:=by simp only[XT,hn,decide_eq_true hk0,hf,Kb,Jr]
  simp only[go_sem,h,gk,row,i1];refine vDq ?_;simp only[go_sem,h,gk,row,i1];refine vc1 hN ?_;simp only[go_sem,h0,gk,row,h,i1,Zh];refine vc2 hE1 ?_;simp only[go_sem,w1];exact⟨⟨k+1,by(try simp only);omega,Zm hI ok⟩,by show(d.rows).length-(k+1)<(d.rows).length-k;omega,⟨rfl,(Fc5 rfl rfl rfl rfl rfl),(fcs ⟨rfl,rfl⟩ fnl),fnl⟩⟩
 have hz:=X7 (p:=XT l d.rows) (n:=d.rows.length) (λj hj=>hI j (by omega));simp only[go_sem,h,hz]
theorem WP (l:List Rw):Sized 2 (l.map row):=λe he=>by
 obtain⟨x,_,rfl⟩:=Jk.1 he;rfl
open Go.PL
structure Cg where
 kind:Int
 item:Str
 was:En
 now:En
 l:List En
deriving DecidableEq,Inhabited
def chg (c:Cg):PV:= .agg [.int .i64 c.kind,.str c.item,.int .i64 c.was.at'.sc,.str c.was.at'.gr,.str c.was.at'.nm,.int .i64 c.was.n,.sl .no (c.was.l.map .str),.int .i64 c.now.at'.sc,.str c.now.at'.gr,.str c.now.at'.nm,.int .i64 c.now.n,.sl .no (c.now.l.map .str),.sl .no (c.l.map ent)]
def Tk (l:List Cg):PV:= .sl .no (l.map chg)
theorem vc8 {x:Bool} {M:KH} {g:FuncId} {args args':List PV} {K:KR} {r:PV} (h1:Pp g args' r) (h2:K.k r M.m) (h0:JQ M.m args:=by first|(simp only[go_sem,ref,ent,Yd,doc,Yo,row,Zh,fld,lns,tg,refs,prs,pr,eg,egs,tgs,lg,lgs,Zf,opv,tr,chg,Tk];done)|exact rfl) (he:J3 M.m args=args':=by first|(simp only[go_sem,ref,ent,Yd,doc,Yo,row,Zh,fld,lns,tg,refs,prs,pr,eg,egs,tgs,lg,lgs,Zf,opv,tr,chg,Tk];done)|exact rfl):@U9 prog x M (some (g,args)) K:=YD h1 h0 he h2
structure FineC (c:Cg):Prop where
 w:c.was.l.length<=maxLen
 n:c.now.l.length<=maxLen
 l:c.l.length<=maxLen
 e:∀e∈c.l,e.l.length<=maxLen
theorem To {l:List Cg} {i:Nat} (h:i<l.length):(l.map chg).getD i .any=chg (l.getD i Jd):=XR h
theorem Vl (e:En):Pp 132 [ent e] (Yd [e]):=by
 refine Zx func132 rfl ntmps132 results132 (UU _) ?_;simp only[go_sem,ent,Yd]
theorem Zha (a b:Cg) (ha:FineC a) (hb:FineC b):Pp 92 [chg a,chg b] (.bool (decide (a=b))):=by
 have h1:=Vl a.was;have h2:=Vl b.was;have h3:=Vl a.now;have h4:=Vl b.now;have one:(1:Nat)<=maxLen:=by rw[Zb];omega
 have hS1:=Xw [a.was] [b.was] one one (by simpa using ha.w) (by simpa using hb.w);have hS2:=Xw [a.now] [b.now] one one (by simpa using ha.n) (by simpa using hb.n);have hS3:=Xw a.l b.l ha.l hb.l ha.e hb.e;have hf:decide (a=b)=(decide (a.kind=b.kind)&&(decide (a.item=b.item)&&(decide (a.was=b.was)&&(decide (a.now=b.now)&&decide (a.l=b.l))))):=by
  clear h1 h2 h3 h4 hS1 hS2 hS3 ha hb;cases a;cases b;simp only[Cg.mk.injEq];simp only[Bool.decide_and]
 rw[hf];have e1:(a.kind==b.kind)=decide (a.kind=b.kind):=rfl;have e2:(a.item==b.item)=decide (a.item=b.item):=by rw[Jo];simp
 simp only[List.cons.injEq,and_true]at hS1 hS2;refine ZM func92 rfl ntmps92 results92 ?_;simp only[go_sem,chg];refine vDq ?_;cases k1:decide (a.kind=b.kind);simp only[go_sem,chg,e1,k1,Ja];cases k2:decide (a.item=b.item);simp only[go_sem,chg,e1,k1,e2,k2,Ja,Jj];simp only[go_sem,chg,e1,k1,e2,k2];refine vc1 h1 ?_;simp only[go_sem,chg];refine vc1 h2 ?_;simp only[go_sem];refine vc1 hS1 ?_;cases k3:decide (a.was=b.was);simp only[go_sem,chg,k3,Ja,Jj,Jg];simp only[go_sem,chg,k3];refine vc1 h3 ?_;simp only[go_sem,chg];refine vc1 h4 ?_;simp only[go_sem];refine vc1 hS2 ?_;cases k4:decide (a.now=b.now);simp only[go_sem,chg,k4,Ja,Jj,Jg];simp only[go_sem,chg,k4];refine vc1 hS3 ?_;simp only[go_sem,Jg]
theorem Zb3 (a b:List Cg) (ha:a.length<=maxLen) (hb:b.length<=maxLen) (oa:∀c∈a,FineC c) (ob:∀c∈b,FineC c):Pp 42 [Tk a,Tk b] (.bool (decide (a=b))):=by
 by_cases hl:a.length=b.length;have hne:((a.length:Int) !=(b.length:Int))=false:=by simp[hl]
 refine ZM func42 rfl ntmps42 results42 ?_;simp only[go_sem,Tk,hne];refine Zs (ι:= { x:Nat // x<=(a).length/\(∀j,j<x->a.getD j Jd=b.getD j Jd) }) 27 (λx=> [(0,Tk a),(1,Tk b),(5,.int .i64 (x.1:Int))]) (λx=> []) (λx=> []) (λx=>(a).length-x.1) ⟨0,Jh _,λj hj=>absurd hj (Jn j)⟩ ⟨rfl,(Fc3 rfl rfl rfl),fnl,fnl⟩ (λx=>⟨(Fc3 rfl rfl rfl),fnl⟩) (λx=> ?_);obtain⟨k,hk,hI⟩:=x;simp only at hk hI ⊢;by_cases h:(k:Int)<(a.length:Int)
 (have hka:k<(a).length:=by omega);(have w1:=Xi hka (ha));(have i1:=Jc k)
 have hkb:k<b.length:=by omega
 have h':(k:Int)<(b.length:Int):=by omega
 have hS:=Zha (a.getD k Jd) (b.getD k Jd) (oa _ (Zp hka)) (ob _ (Zp hkb));by_cases he:a.getD k Jd=b.getD k Jd
 ·rw[decide_eq_true he]at hS;simp only[go_sem,Tk,h];refine vDq ?_;simp only[go_sem,To hka,To hkb,chg,i1,h,h'];refine vc8 hS ?_;simp only[go_sem,w1];exact⟨⟨k+1,by(try simp only);omega,Zm hI he⟩,by show(a).length-(k+1)<(a).length-k;omega,⟨rfl,(Fc3 rfl rfl rfl),fnl,fnl⟩⟩
 rw[decide_eq_false he]at hS;have hab:¬a=b:=VO he;simp only[go_sem,Tk,h];refine vDq ?_;simp only[go_sem,To hka,To hkb,chg,i1,h,h'];refine vc8 hS ?_;simp only[go_sem,hab];have hab:decide (a=b)=true:=decide_eq_true (W7 (d:=Jd) hl λj hj=>hI j (by omega));simp only[go_sem,Tk,h,hab];have hne:((a.length:Int) !=(b.length:Int))=true:=bne_iff_ne.2 (by omega);have hab:¬a=b:=λe=>hl (by rw[e])
 refine ZM func42 rfl ntmps42 results42 ?_;simp only[go_sem,Tk,hne,hab]
open Go.PL
open Go.PL
theorem Wb (l:List Cg):Sized 13 (l.map chg):=λe he=>by
 obtain⟨x,_,rfl⟩:=Jk.1 he;rfl
theorem Zfk (l:List Cg):XO (l.map chg):=λe he=>by
 obtain⟨x,_,rfl⟩:=Jk.1 he;rfl
theorem ZpD (c:Cg):(chg c).dids= []:=by simp only[chg,JE,Jt,WF,GS,Jl]
theorem Zfu (l:List Cg):Jt (l.map chg)= []:=by
 induction l with
 |nil=>rfl
 |cons e l ih=>rw[Jw,Jt,ih,ZpD];rfl
theorem ZaO (l:List Cg):(Tk l).dids= []:=by simp only[Tk,JE,Zfu]
open Go.PL
theorem Zd3 (e:En):(ent e).ids= []:=by simp[ent,Ju,J7]
theorem ZdE (x:En) (l:List En) (hl:(x::l).length<=100000):
  Eff prog 125 [Yd (x::l)] noV (.vsl 7 (x::l).length 5) (ZiA 7 (x::l).length 5 65 ((x::l).map ent)):=by
 have hcl:∀l:List En,∀p∈l.map ent,p.ids= []:=λl=>WJ Zd3 l
 refine Eff.vn [5,7] func125 (by decide) rfl ntmps125 results125 (by simp) (hcl _) (by simp[Ju,Yd]) (by simp[Ju]) ?_;simp only[go_sem,Yd];have hm:∀p∈ent x::l.map ent,∃y,p=ent y:=λp hp=>by
  rcases List.mem_cons.1 hp with rfl|hp;exact⟨x,rfl⟩;obtain⟨y,_,rfl⟩:=Jk.1 hp;exact⟨y,rfl⟩
 have hc:∀p∈ent x::l.map ent,p.ids= []:=λp hp=>by obtain⟨y,rfl⟩:=hm p hp;exact Zd3 y
 have hrm:=Ya (show l.length+1<=1000000 by simp only[List.length_cons]at hl;omega) (show 72<=1000 by omega);refine⟨λp hp=>by obtain⟨y,rfl⟩:=hm p hp;exact⟨rfl,rfl⟩,hc,λp hp=>by rw[hc p hp];simp,hrm,?_⟩;exact Zhz (r0:= .vsl 7 _ 5) hc rfl (.keep _ (by intro i hi;simp[Ju]at hi;subst hi;exact⟨_,Jz.2 rfl,rfl⟩)) rfl rfl
theorem ZdF:Pp 125 [Yd []] (Yd []):=by
 refine Zx func125 rfl ntmps125 results125 (UU _) ?_;simp only[go_sem,Yd];intro b;cases b;simp only[go_sem,Yd];exact Yw (by omega) (by omega);simp only[go_sem,Yd]
theorem GA (l:List En) (hl:l.length<=100000) (hl':∀e∈l,e.l.length<=1000000):Pp 81 [Yd l] (Yd l):=by
 have hcl:∀l:List En,∀p∈l.map ent,p.ids= []:=λl=>WJ Zd3 l
 cases l with
 |nil=>
  have hC:=ZdF;simp only[Yd,Kc]at hC;refine Zx func81 rfl ntmps81 results81 (UU _) ?_;simp only[go_sem,Yd];refine vc1 hC ?_;simp only[go_sem,Yd];refine Zs (ι:= { x:Nat // x<=(([]:List En)).length }) 21 (λx=> [(0,.sl .no []),(7,.sl .no []),(8,.int .i64 0),(9,.int .i64 (x.1:Int))]) (λx=> []) (λx=> []) (λx=>(([]:List En)).length-x.1) ⟨0,Jh _⟩ ⟨rfl,(Fc4 rfl rfl rfl rfl),fnl,fnl⟩ (λx=>⟨(Fc4 rfl rfl rfl rfl),fnl⟩) (λx=> ?_);obtain⟨k,hk⟩:=x;simp only at hk ⊢;have h0:¬(k:Int)<0:=by omega
  simp only[go_sem,h0];simp only[Yd,Kc]
 |cons x l0=>
  have hC:=ZdE x l0 hl;generalize hA:x::l0=A at *;refine PL.Pure.of_p [] func81 (by decide) rfl ntmps81 results81 (by simp) (UU _) ?_;simp only[go_sem,Yd];refine Zao 6 hC (hcl _) (by simp[Ju,Yd]) rfl (by simp only[go_sem,Yd]) ?_;simp only[go_sem,PV.ren,id];refine SZ (ι:= { k:Nat // k<=A.length }) 21 (λx=> [(0,.vsl 6 A.length 5),(7,.vsl 6 A.length 5),(8,.int .i64 (A.length:Int)),(9,.int .i64 (x.1:Int))]) (λ_=> []) (λ_=> [(6,.vec A.length 5 65)]) (λ_=> []) (λ_=> []) (λ_=> [(6,A.map ent)]) (λ_=> []) [] [] [] (λx=>A.length-x.1) ⟨0,Jh _⟩
   (Zd9 rfl (Fc4 rfl rfl rfl rfl) rfl rfl) (λx=>ZgT (by simp[Ju,J7,ZX]) (Vq Zd3 _)) (λx=> ?_)
  obtain⟨k,hk⟩:=x;simp only;by_cases h:(k:Int)<(A.length:Int);have hka:k<A.length:=by omega
  have i0:=Jc k
  have w1:=wk9 (k:=k) (by omega)
  have hO:=UH (A.getD k Jd) (hl' _ (Zp hka));have hset:(A.map ent).set k (ent (A.getD k Jd))=A.map ent:=by
   rw[Zaf];congr 1;rw[getD_lt hka];exact List.set_getElem_self hka
  simp only[ent]at hset;simp only[go_sem,h,i0,Zn hka,ent];refine vc1 hO ?_;simp only[go_sem,h,i0,Zn hka,ent,hset,w1];exact⟨⟨k+1,by omega⟩,nx9 (by omega),Zd9 rfl (Fc4 rfl rfl rfl rfl) rfl rfl⟩;simp only[go_sem,h];exact⟨_,rfl,Pub.vec0 (by simp) rfl (Jp _) (hcl _)⟩
open Go.PL
def Z2 (it:Str) (a b:List En):List Cg:=((JN a.length).filter λi=> !decide (a.getD i Jd=b.getD i Jd)).map λi=>⟨1,it,a.getD i Jd,b.getD i Jd,[]⟩
def Yh (it:Str) (a b:List En) (k:Nat):List Cg:=((JN k).filter λi=> !decide (a.getD i Jd=b.getD i Jd)).map λi=>⟨1,it,a.getD i Jd,b.getD i Jd,[]⟩
theorem Ux (it:Str) (a b:List En) (k:Nat):Yh it a b (k+1)=Yh it a b k++(if a.getD k Jd=b.getD k Jd then []else [⟨1,it,a.getD k Jd,b.getD k Jd,[]⟩]):=by
 unfold Yh;rw[List.range_succ,List.filter_append,Jy];congr 1;by_cases h:a.getD k Jd=b.getD k Jd;rw[if_pos h,List.filter_cons_of_neg (by rw[decide_eq_true h];simp)];rfl;rw[if_neg h,List.filter_cons_of_pos (by rw[decide_eq_false h];rfl)];rfl
theorem Ud (it:Str) (a b:List En) (k:Nat):(Yh it a b k).length<=k:=by
 unfold Yh;rw[Jp];exact J8 (JP _ _) (by simp)
theorem ZhZ (it:Str) (a b:List En) (hl:a.length<=100000) (hlb:a.length<=b.length) (ha':∀e∈a,e.l.length<=1000000) (hb':∀e∈b,e.l.length<=1000000):Pp 80 [.str it,Yd a,Yd b] (Tk (Z2 it a b)):=by
 have hol:a.length<=maxLen:=by rw[Zb];omega
 have hK:Z2 it a b=Yh it a b a.length:=rfl;rw[hK];refine Zx func80 rfl ntmps80 results80 (ZaO _) ?_;simp only[go_sem,Yd];refine Y8 7 35 13 67 rfl rfl ?_;refine Zs (ι:= { x:Nat // x<=(a).length }) 38 (λx=> [(0,.str it),(2,Yd b),(7,.sl (.row 35) ((Yh it a b x.1).map chg)),(10,Yd a),(11,.int .i64 (a.length:Int)),(12,.int .i64 (x.1:Int))]) (λx=> []) (λx=> [(35,.live ((Yh it a b x.1).length) (13) (67))]) (λx=>(a).length-x.1) ⟨0,Jh _⟩ ⟨rfl,(Fc6 rfl rfl rfl rfl rfl rfl),fnl,(fcs rfl fnl)⟩ (λx=>⟨(Fc6 rfl rfl (by simp[Ju,ZX]) rfl rfl rfl),fnl⟩) (λx=> ?_);obtain⟨k,hk⟩:=x;simp only at hk ⊢;by_cases h:(k:Int)<(a.length:Int)
 (have hka:k<(a).length:=by omega);(have w1:=Xi hka (hol));(have i1:=Jc k)
 have hkb:k<b.length:=by omega
 have h':(k:Int)<(b.length:Int):=by omega
 have hsn:=Ux it a b k;have hkl:=Ud it a b k;have hE:=Zaq (a.getD k Jd) (b.getD k Jd) (by have:=ha' _ (Zp (d:=Jd) hka);rw[Zb];omega) (by have:=hb' _ (Zp (d:=Jd) hkb);rw[Zb];omega);have hO1:=UH (a.getD k Jd) (ha' _ (Zp hka));have hO2:=UH (b.getD k Jd) (hb' _ (Zp hkb));have hml:((Yh it a b k).map chg).length=(Yh it a b k).length:=Jp _;have hsz:=Wb (Yh it a b k);have hrm:=Ya (show(Yh it a b k).length+1<=1000000 by omega) (show 192<=1000 by omega);by_cases he:a.getD k Jd=b.getD k Jd;rw[decide_eq_true he]at hE;rw[if_pos he,Jl]at hsn;simp only[go_sem,Yd,h,Zn hka,Zn hkb,ent,i1,h'];refine vDq ?_;simp only[go_sem,Yd,h,Zn hka,Zn hkb,ent,i1,h'];refine vc1 hE ?_;simp only[go_sem,w1];exact⟨⟨k+1,by omega⟩,nx9 (by omega),⟨rfl,by simp only;rw[hsn];exact(Fc6 rfl rfl rfl rfl rfl rfl),fnl,by simp only;rw[hsn];exact fcs rfl fnl⟩⟩;rw[decide_eq_false he]at hE;rw[if_neg he]at hsn;simp only[go_sem,Yd,h,Zn hka,Zn hkb,ent,i1,h'];refine vDq ?_;simp only[go_sem,Yd,h,Zn hka,Zn hkb,ent,i1,h'];refine vc1 hE ?_;simp only[go_sem];refine vDq ?_;simp only[go_sem,Yd,h,Zn hka,Zn hkb,ent,i1,h'];refine vc1 hO1 ?_;simp only[go_sem,Yd,h,Zn hka,Zn hkb,ent,i1,h'];refine vc1 hO2 ?_;simp only[go_sem,ent,hml,hsz,hrm,ZZ,Yz,w1];exact⟨⟨k+1,by omega⟩,nx9 (by omega),⟨rfl,by simp only;rw[hsn,Jy];exact(Fc6 rfl rfl rfl rfl rfl rfl),fnl,by simp only;rw[hsn,JF];exact fcs rfl fnl⟩⟩;obtain rfl:k=a.length:=by omega
 simp only[go_sem,Tk,h]
open Go.PL
theorem Zk0 (it:Str) (a b:List En) (hl:a.length<=100000) (hlb:a.length<=b.length) (ha':∀e∈a,e.l.length<=1000000) (hb':∀e∈b,e.l.length<=1000000):Eff prog 80 [.str it,Yd a,Yd b] noV (.sl (.row 35) ((Z2 it a b).map chg)) (Zlb 35 (Z2 it a b).length 13 67):=by
 have hol:a.length<=maxLen:=by rw[Zb];omega
 have hK:Z2 it a b=Yh it a b a.length:=rfl;rw[hK];refine Eff.rn [] func80 (by decide) rfl ntmps80 results80 (by simp) (by simp[Ju,Yd]) (by simp[Ju]) ?_;simp only[go_sem,Yd];refine Y8 7 35 13 67 rfl rfl ?_;refine Zs (ι:= { x:Nat // x<=(a).length }) 38 (λx=> [(0,.str it),(2,Yd b),(7,.sl (.row 35) ((Yh it a b x.1).map chg)),(10,Yd a),(11,.int .i64 (a.length:Int)),(12,.int .i64 (x.1:Int))]) (λx=> []) (λx=> [(35,.live ((Yh it a b x.1).length) (13) (67))]) (λx=>(a).length-x.1) ⟨0,Jh _⟩ ⟨rfl,(Fc6 rfl rfl rfl rfl rfl rfl),fnl,(fcs rfl fnl)⟩ (λx=>⟨(Fc6 rfl rfl (by simp[Ju,ZX]) rfl rfl rfl),fnl⟩) (λx=> ?_);obtain⟨k,hk⟩:=x;simp only at hk ⊢;by_cases h:(k:Int)<(a.length:Int)
 (have hka:k<(a).length:=by omega);(have w1:=Xi hka (hol));(have i1:=Jc k)
 have hkb:k<b.length:=by omega
 have h':(k:Int)<(b.length:Int):=by omega
 have hsn:=Ux it a b k;have hkl:=Ud it a b k;have hE:=Zaq (a.getD k Jd) (b.getD k Jd) (by have:=ha' _ (Zp (d:=Jd) hka);rw[Zb];omega) (by have:=hb' _ (Zp (d:=Jd) hkb);rw[Zb];omega);have hO1:=UH (a.getD k Jd) (ha' _ (Zp hka));have hO2:=UH (b.getD k Jd) (hb' _ (Zp hkb));have hml:((Yh it a b k).map chg).length=(Yh it a b k).length:=Jp _;have hsz:=Wb (Yh it a b k);have hrm:=Ya (show(Yh it a b k).length+1<=1000000 by omega) (show 192<=1000 by omega);by_cases he:a.getD k Jd=b.getD k Jd;rw[decide_eq_true he]at hE;rw[if_pos he,Jl]at hsn;simp only[go_sem,Yd,h,Zn hka,Zn hkb,ent,i1,h'];refine vDq ?_;simp only[go_sem,Yd,h,Zn hka,Zn hkb,ent,i1,h'];refine vc1 hE ?_;simp only[go_sem,w1];exact⟨⟨k+1,by omega⟩,nx9 (by omega),⟨rfl,by simp only;rw[hsn];exact(Fc6 rfl rfl rfl rfl rfl rfl),fnl,by simp only;rw[hsn];exact fcs rfl fnl⟩⟩;rw[decide_eq_false he]at hE;rw[if_neg he]at hsn;simp only[go_sem,Yd,h,Zn hka,Zn hkb,ent,i1,h'];refine vDq ?_;simp only[go_sem,Yd,h,Zn hka,Zn hkb,ent,i1,h'];refine vc1 hE ?_;simp only[go_sem];refine vDq ?_;simp only[go_sem,Yd,h,Zn hka,Zn hkb,ent,i1,h'];refine vc1 hO1 ?_;simp only[go_sem,Yd,h,Zn hka,Zn hkb,ent,i1,h'];refine vc1 hO2 ?_;simp only[go_sem,ent,hml,hsz,hrm,ZZ,Yz,w1];exact⟨⟨k+1,by omega⟩,nx9 (by omega),⟨rfl,by simp only;rw[hsn,Jy];exact(Fc6 rfl rfl rfl rfl rfl rfl),fnl,by simp only;rw[hsn,JF];exact fcs rfl fnl⟩⟩;obtain rfl:k=a.length:=by omega
 simp only[go_sem,Tk,h];exact ZmF (r0:= .sl (.row 35) _) rfl (.keep _ (by intro i hi;simp[Ju]at hi;subst hi;exact⟨_,Jz.2 rfl,rfl⟩)) rfl
open Go.PL
def Fq (r:Rw):Cg:=⟨3,r.item,Jd,Jd,r.l⟩
def DP (r:Rw):Cg:=⟨2,r.item,Jd,Jd,r.l⟩
def Y9:List Rw->List Rw->List Cg
 | [],[]=> []
 |p::ps,[]=>Fq p::Y9 ps []
 | [],q::qs=>DP q::Y9 [] qs
 |p::ps,q::qs=>if ZH p.item q.item=Ht then Fq p::Y9 ps (q::qs)else if ZH q.item p.item=Ht then DP q::Y9 (p::ps) qs else Z2 q.item p.l q.l++Y9 ps qs
termination_by a b=>a.length+b.length
def WG (l:List Fd) (a b:Dc):List Cg×Int:=if YB l a=Hf\/YB l b=Hf then([],5)else(Z2 [] a.head b.head++Y9 a.rows b.rows,0)
structure DiS (p q:List Rw) (h0:List Cg) where
 i:Nat
 j:Nat
 acc:List Cg
 row:Nat
 hi:i<=p.length
 hj:j<=q.length
 hl:acc.length<=h0.length+16*(i+j)
 h:acc++Y9 (p.drop i) (q.drop j)=h0++Y9 p q
open Go.PL
theorem ZaD (a b:Tg):Pp 129 [tg a,tg b] (.bool (Vw a b)):=by
 refine ZM func129 rfl ntmps129 results129 ?_;simp only[go_sem,tg];repeat' ((first|(first|apply ZC|apply ZB|apply ZO)<;>intro h|refine vDq ?_)<;>first|simp only[go_sem,h]|simp only[go_sem]|skip)
 all_goals simp_all[Vw]
 all_goals (try omega)
theorem Ze6 (o:Opn):Pp 224 [opv o] (.bool (V2 o)):=by
 by_cases h60:60<(o.drops.length:Int);refine ZM func224 rfl ntmps224 results224 ?_;simp only[go_sem,opv,h60,V2,Ja];have hm:o.drops.length<=maxLen:=by rw[Zb];omega
 have hx:V2 o=(JN o.drops.length).all (Y6 o):=by simp only[V2,h60,decide_false,JC,Jg]
 rw[hx];refine ZM func224 rfl ntmps224 results224 ?_;simp only[go_sem,opv,h60];refine Zs (ι:= { x:Nat // x<=(o.drops).length/\(∀j,j<x->Y6 o j=Ht) }) 51 (λx=> [(1,.ptr 1 0),(3,.int .i64 (x.1:Int))]) (λx=> [(1,Xn o,Hf)]) (λx=> []) (λx=>(o.drops).length-x.1) ⟨0,Jh _,λj hj=>absurd hj (Jn j)⟩ ⟨rfl,(Fc2 rfl rfl),(fcs ⟨rfl,rfl⟩ fnl),fnl⟩ (λx=>⟨(Fc2 rfl rfl),(fcs rfl fnl)⟩) (λx=> ?_);obtain⟨k,hk,hI⟩:=x;simp only at hk hI ⊢;by_cases h:(k:Int)<(o.drops.length:Int)
 (have hka:k<(o.drops).length:=by omega);(have w1:=Xi hka (hm));(have i1:=Jc k)
 have hT:=TQ (o.drops.getD k Jd);cases ht:F0 (o.drops.getD k Jd);rw[ht]at hT;have hz:=ZU (p:=Y6 o) hka (by simp only[Y6,ht,Ja]);simp only[go_sem,Xn,h];refine vDq ?_;simp only[go_sem,Xn,h,Z7 hka,tg,i1];refine vc3 hT ?_;simp only[go_sem,hz];rw[ht]at hT;cases he:decide (o.drops.getD k Jd=o.id);by_cases h0:0<(k:Int);have hk1:k-1<o.drops.length:=by omega
 have w2:IntKind.i64.wrap ((k:Int)-1)=((k-1:Nat):Int):=by rw[w64 (by omega)];omega
 have j1:(0:Int)<=((k-1:Nat):Int):=by omega
 have j2:((k-1:Nat):Int)<(o.drops.length:Int):=by omega
 have hL:=ZaD (o.drops.getD (k-1) Jd) (o.drops.getD k Jd);cases hb:Vw (o.drops.getD (k-1) Jd) (o.drops.getD k Jd);rw[hb]at hL;have hz:=ZU (p:=Y6 o) hka (by simp only[Y6,hb,decide_eq_false (show ¬k=0 by omega),J9,Jj]);simp only[go_sem,Xn,h];refine vDq ?_;simp only[go_sem,Xn,h,Z7 hka,tg,i1];refine vc3 hT ?_;simp only[go_sem,Z4,he,h0,w2,Z7 hk1,Z7 hka,tg,h,i1,j1,j2];refine vc3 hL ?_;simp only[go_sem,hz]
 ·rw[hb]at hL;have ok:Y6 o k=true:=by simp only[Y6,ht,he,hb,Ka,JC,Jr]
  simp only[go_sem,Xn,h];refine vDq ?_;simp only[go_sem,Xn,h,Z7 hka,tg,i1];refine vc3 hT ?_;simp only[go_sem,Z4,he,h0,w2,Z7 hk1,Z7 hka,tg,h,i1,j1,j2];refine vc3 hL ?_;simp only[go_sem,w1];exact⟨⟨k+1,by(try simp only);omega,Zm hI ok⟩,by show(o.drops).length-(k+1)<(o.drops).length-k;omega,⟨rfl,(Fc2 rfl rfl),(fcs ⟨rfl,rfl⟩ fnl),fnl⟩⟩
 ·have ok:Y6 o k=true:=by simp only[Y6,ht,he,decide_eq_true (show k=0 by omega),Kb,JC,Jr]
  simp only[go_sem,Xn,h];refine vDq ?_;simp only[go_sem,Xn,h,Z7 hka,tg,i1];refine vc3 hT ?_;simp only[go_sem,Z4,he,h0,w1,Z7 hka,tg,i1,h];exact⟨⟨k+1,by(try simp only);omega,Zm hI ok⟩,by show(o.drops).length-(k+1)<(o.drops).length-k;omega,⟨rfl,(Fc2 rfl rfl),(fcs ⟨rfl,rfl⟩ fnl),fnl⟩⟩
 have hz:=ZU (p:=Y6 o) hka (by simp only[Y6,he,J6,Ja,Jj]);simp only[go_sem,Xn,h];refine vDq ?_;simp only[go_sem,Xn,h,Z7 hka,tg,i1];refine vc3 hT ?_;simp only[go_sem,Z4,he,hz,Z7 hka,tg,i1,h];have hz:=X7 (p:=Y6 o) (n:=o.drops.length) (λj hj=>hI j (by omega));simp only[go_sem,Xn,h,hz]
def Ue (o:Opn):Bool:=decide (o.at'=Jd)&&(decide (o.delta=0)&&(!o.has&&decide (o.text= [])))
theorem Zby (a:Rf):(a.sc==0&&(a.gr== []&&a.nm== []))=decide (a=Jd):=Zr a Jd
theorem Ze7 (o:Opn):Pp 225 [opv o] (.bool (Ue o)):=by
 refine ZM func225 rfl ntmps225 results225 ?_;simp only[go_sem,opv,Zby];repeat' ((first|(first|apply ZC|apply ZB|apply ZO)<;>intro h|refine vDq ?_)<;>first|simp only[go_sem,h,Zby]|simp only[go_sem,Zby]|skip)
 all_goals (simp_all[Ue];try(rw[Jo];simp))
def Zq5 (id:Tg) (l:List Tg):Bool:=V2 ⟨id,Jd,0,[],0,[],Jd,0,Hf,[],l⟩
theorem ZpK (o:Opn):V2 o=Zq5 o.id o.drops:=rfl
def ZnS (o:Opn):Bool:=
 if((((!F0 o.id||(!decide (o.sch=Jd)&& !F0 o.sch))||decide (o.time<1))||decide (1099511627776<o.time))|| !Yj o.cart)|| !V2 o then Hf
 else if o.kind=5 then decide (o.item= [])&&Ue o
 else if o.kind=1 then(Yj o.item&&Ue o)&&decide ((o.drops.length:Int)=0)
 else if o.kind=2 then Yj o.item&&Ue o
 else if(!X6 o.at'||(decide (o.at'.sc=1)&& !Yj o.item))||(decide (o.at'.sc=0)&& !decide (o.item= []))then Hf
 else if o.kind=3 then(((!o.has&&decide (o.text= []))&&decide ((o.drops.length:Int)=0))&&decide (-1048577<o.delta))&&decide (o.delta<1048577)
 else(decide (o.kind=4)&&decide (o.delta=0))&&((o.has&&decide ((o.text.length:Int)<41))||(!o.has&&decide (o.text= [])))
theorem ZnT (o:Opn):ZnS o=XD o:=by
 rw[Jo];unfold ZnS XD;rw[ZpK];obtain⟨id,sch,time,cart,kind,item,⟨sc,gr,nm⟩,delta,has,text,drops⟩:=o;simp only;generalize Zq5 id drops=db;by_cases k5:kind=5;subst k5;simp[Xs,FT,ZK,Ue];constructor
 ·intro h;simp_all;try omega
 ·intro h;simp_all;try omega
 by_cases k1:kind=1;subst k1;simp[Xs,FT,ZK,Ue];constructor
 ·intro h;simp_all;try omega
 ·intro h;simp_all;try omega
 by_cases k2:kind=2;subst k2;simp[Xs,FT,ZK,Ue];constructor
 ·intro h;simp_all;try omega
 ·intro h;simp_all;try omega
 by_cases k3:kind=3;subst k3;by_cases s1:sc=1;subst s1;simp[Xs,FT,ZK,Ue];constructor
 ·intro h;simp_all;try omega
 ·intro h;simp_all;try omega
 by_cases s0:sc=0;subst s0;simp[Xs,FT,ZK,Ue];constructor
 ·intro h;simp_all;try omega
 ·intro h;simp_all;try omega
 simp[Xs,FT,ZK,Ue,X6,s1,s0];by_cases k4:kind=4;subst k4;by_cases s1:sc=1
 ·subst s1;cases has;all_goals
   simp[Xs,FT,ZK,Ue];constructor
   ·intro h;simp_all;try omega
   ·intro h;simp_all;try omega
 by_cases s0:sc=0
 ·subst s0;cases has;all_goals
   simp[Xs,FT,ZK,Ue];constructor
   ·intro h;simp_all;try omega
   ·intro h;simp_all;try omega
 simp[Xs,FT,ZK,Ue,X6,s1,s0];simp[Xs,k1,k2,k3,k4,k5]
theorem ZjZ (l:List Rf) (r:Rf) (hl:l.length<=maxLen):Pp 245 [refs l,ref r] (.int .i64 (Yf l r)):=by
 have hsym:Yf l r=idx (λx=>decide (x=r)) l:=by unfold Yf;congr 1;funext x;simp[eq_comm]
 rw[hsym];refine ZM func245 rfl ntmps245 results245 ?_;simp only[go_sem,refs,ref];refine Zs (ι:= { x:Nat // x<=(l).length/\(∀j,j<x->(λx=>decide (x=r)) (l.getD j Jd)=Hf) }) 19 (λx=> [(0,refs l),(3,.ptr 3 0),(5,.int .i64 (x.1:Int))]) (λx=> [(3,[.int .i64 r.sc,.str r.gr,.str r.nm],Hf)]) (λx=> []) (λx=>(l).length-x.1) ⟨0,Jh _,λj hj=>absurd hj (Jn j)⟩ ⟨rfl,(Fc3 rfl rfl rfl),(fcs ⟨rfl,rfl⟩ fnl),fnl⟩ (λx=>⟨(Fc3 rfl rfl rfl),(fcs rfl fnl)⟩) (λx=> ?_);obtain⟨k,hk,hI⟩:=x;simp only at hk hI ⊢;by_cases h:(k:Int)<(l.length:Int)
 (have hka:k<(l).length:=by omega);(have w1:=Xi hka (hl));(have i1:=Jc k)
 cases he:(λx=>decide (x=r)) (l.getD k Jd)
 ·have he0:=he;simp only at he;simp only[go_sem,refs,h];refine vDq ?_;simp only[go_sem,Ym hka,h,i1,ref,Zr,he,w1];exact⟨⟨k+1,by(try simp only);omega,Zm hI he0⟩,by show(l).length-(k+1)<(l).length-k;omega,⟨rfl,(Fc3 rfl rfl rfl),(fcs ⟨rfl,rfl⟩ fnl),fnl⟩⟩
 have hx:=Xz (p:=λx=>decide (x=r)) hka hI he;simp only at he;simp only[go_sem,refs,h];refine vDq ?_;simp only[go_sem,Ym hka,h,i1,ref,Zr,he,hx];have hx:=We (p:=λx=>decide (x=r)) (d:=Jd) (l:=l) (λj hj=>hI j (by omega));simp only[go_sem,refs,h,hx]
open Go.PL
open Go.PL
def Zsm (x:Ln) (r:Rf):List Rf:=if ZI x=Hf then []else if Yf (Zc x) r<0 then [r]else if x.kind=6/\0<Yf (Zc x) r then []else Zt x
open Go.PL
def Zwl (b:List Rf) (s:Rf):List Rf:=if(b.any λx=>decide (s=x))=Ht then b else b++ [s]
def Zwa (b src:List Rf):List Rf:=src.foldl Zwl b
def Zmp (x:Ln):List Rf->List Rf->Option (List Rf)
 |acc,[]=>some acc
 |acc,e::es=>if Zoj x e=Hf then none else Zmp x (Zwa acc (Zsm x e)) es
def Zsn:List Ln->List Rf->Bool
 | [],_=>Ht
 |x::xs,es=>match Zmp x [] es with|none=>Hf|some b=>Zsn xs b
open Go.PL
def Zwe (r:Rf) (e:En):Bool:=decide (e.at'=r)
def ZoZ (es:List En) (r:Rf):Option En:=es.find? (Zwe r)
def ZkU (u p f:Int):Int×Int:=if YN u=Ht/\YN p=Ht then(if(UZ u p f).2=0 then((UZ u p f).1,0)else(0,3))else(0,3)
open Go.PL
def ZmQ (x:Ln) (f:Fd) (e:En):En:=
 if x.kind=6 then⟨f.at',e.n,(Z6 f).l⟩
 else if x.kind=7 then⟨f.at',0,if 0<(e.l.length:Int)/\e.l.getD 0 []≠x.ot then [e.l.getD 0 []]else []⟩
 else if x.kind=10 then⟨f.at',0,if 0<(e.l.length:Int)then [e.l.getD (e.l.length-1) []]else(Z6 f).l⟩
 else if x.kind=8 then⟨f.at',0,if 0<(e.l.length:Int)then [(Xj x.fo (e.l.getD 0 [])).1]else(Z6 f).l⟩
 else if x.kind=3 then Z6 f
 else⟨f.at',e.n,e.l⟩
def ZlM (x:Ln) (f:Fd) (i:Int) (es:List En):En×Int:=
 if x.kind=2\/(x.kind=6/\0<i)then(Z6 f,0)else
 match ZoZ es ((Zt x).getD 0 Jd)with
 |none=>(Jd,5)
 |some e=>
  if x.kind=9 then
   match ZoZ es ((Zt x).getD 1 Jd)with
   |none=>(Jd,5)
   |some e2=>if(ZkU e.n e2.n x.fac).2=0 then(⟨f.at',(ZkU e.n e2.n x.fac).1,(Z6 f).l⟩,0)else(Jd,(ZkU e.n e2.n x.fac).2)
  else(ZmQ x f e,0)
open Go.PL
theorem Zje {u p f:Int} (hf:2<=f/\f<=1000) (hu:Lim u) (hp:Lim p):IntKind.i64.wrap (p*f)=p*f/\IntKind.i64.wrap (u+IntKind.i64.wrap (p*f))=u+p*f/\ZkU u p f=if YN (p*f)=Ht/\YN (u+p*f)=Ht then(u+p*f,0)else(0,3):=by
 have m:=Gm (w:=f) (by omega);unfold Lim at hu hp;have b1: -4503599627370496000<=p*f/\p*f<=4503599627370496000:=by
  have p1:p*f<=4503599627370496*f:=Jb hp.2 (by omega);have p2:(-4503599627370496)*f<=p*f:=Jb hp.1 (by omega);omega
 have c:f*p=p*f:=JV _ _;have w1:IntKind.i64.wrap (p*f)=p*f:=TD (by omega);have w2:IntKind.i64.wrap (u+IntKind.i64.wrap (p*f))=u+p*f:=by rw[w1];exact TD (by omega)
 refine⟨w1,w2,?_⟩;have hj:UZ u p f=if p < - Xd f\/Xd f<p then(0,3)else if YN (u+p*f)=Ht then(u+p*f,0)else(0,3):=by
  unfold UZ;rw[if_neg (λh=>h hf),c,w2]
 unfold ZkU;rw[if_pos ⟨Ys.2 hu,Ys.2 hp⟩,hj];by_cases h1:p < - Xd f\/Xd f<p;have hn:¬YN (p*f)=true:=λh=>by
  rw[Ys]at h;unfold Lim at h;rcases h1 with h1|h1;have p1:p*f<=(- Xd f-1)*f:=Jb (by omega) (by omega);have e1:(- Xd f-1)*f= - ((Xd f+1)*f):=by rw[<-Ke];congr 1;omega
  omega;have p1:(Xd f+1)*f<=p*f:=Jb (by omega) (by omega);omega
 rw[if_pos h1];simp[hn];have hy:YN (p*f)=true:=by
  rw[Ys];unfold Lim;have p1:p*f<=Xd f*f:=Jb (by omega) (by omega);have p2:(- Xd f)*f<=p*f:=Jb (by omega) (by omega);have e1:(- Xd f)*f= - (Xd f*f):=Ke _ _;omega
 rw[if_neg h1];by_cases h2:YN (u+p*f)=Ht;simp[hy,h2];simp[h2]
structure GotOk (x:Ln) (f:Fd) (i:Int) (es:List En):Prop where
 h3:x.kind≠3
 hi:0<=i/\i<=1
 e1:x.kind≠2-> ∃e,ZoZ es ((Zt x).getD 0 Jd)=some e/\((x.kind=7\/x.kind=8)->0<e.l.length)/\(x.kind=9->Lim e.n)
 e2:x.kind=9->(∃e,ZoZ es ((Zt x).getD 1 Jd)=some e/\Lim e.n)/\2<=x.fac/\x.fac<=1000
 v1:x.kind=6\/x.kind=9->(Z6 f).l= []
 v10:x.kind=10->(Z6 f).l= [x.ot]
open Go.PL
def ZtW (x:Ln) (es:List En) (f:Fd):En×Int:=
 if Yf (Zc x) f.at'<0 then(match ZoZ es f.at' with|none=>(Jd,5)|some e=>(e,0))else ZlM x f (Yf (Zc x) f.at') es
def ZtC (x:Ln) (es:List En) (f:Fd):Bool:=(ZtW x es f).2 !=0
def Zk5 (x:Ln) (fs:List Fd) (es:List En):List En×Int:=
 match fs.find? (ZtC x es)with
 |some f=>([],(ZtW x es f).2)
 |none=>(fs.map λf=>(ZtW x es f).1,0)
open Go.PL
structure OkDc (d:Dc):Prop where
 h:d.head.length<=100000
 r:d.rows.length<=100000
 e:∀e∈d.head,e.l.length<=1000000
 s:∀r∈d.rows,r.l.length<=100000/\ ∀e∈r.l,e.l.length<=1000000
def ZtD (x:Ln) (fs:List Fd) (r:Rw):Bool:=(Zk5 x fs r.l).2 !=0
def newRow (x:Ln) (fs:List Fd) (r:Rw):Rw:=⟨r.item,(Zk5 x fs r.l).1⟩
def Zr8 (l:List Fd) (x:Ln) (d:Dc):Dc×Int:=
 if(ZR l x).2≠0 then(Jd,(ZR l x).2)else if YB l d=Hf then(Jd,5)else
 if(Zk5 x (ZY (ZR l x).1 0) d.head).2≠0 then(Jd,(Zk5 x (ZY (ZR l x).1 0) d.head).2)else
 match d.rows.find? (ZtD x (ZY (ZR l x).1 1))with
 |some r=>(Jd,(Zk5 x (ZY (ZR l x).1 1) r.l).2)
 |none=>(⟨(Zk5 x (ZY (ZR l x).1 0) d.head).1,d.rows.map (newRow x (ZY (ZR l x).1 1))⟩,0)
open Go.PL
open Go.PL
theorem Zlu {l:List Fd} (h:Z5 l=Ht) {f g:Fd} (hf:f∈l) (hg:g∈l) (e:f.at'=g.at'):f=g:=by
 have hr:=(Z3.1 h).2.1;have h1:=YR hr hf;have h2:=YR hr hg;rw[e,h2]at h1;exact(JA.inj h1).1.symm
theorem Zxv {L:List Fd} {es:List En} (h:Yr L es=Ht) (hu:∀f∈L,∀g∈L,f.at'=g.at'->f=g) {g:Fd} (hg:g∈L):∃e,ZoZ es g.at'=some e/\XG g e=true:=by
 simp only[Yr,Je,decide_eq_true_eq,JM,List.mem_range]at h;obtain⟨hlen,hall⟩:=h;have hat:∀i,i<L.length->(es.getD i Jd).at'=(L.getD i Jd).at':=λi hi=>by
  have:=hall i hi;simp only[XG,Je,decide_eq_true_eq]at this;exact this.1.2
 obtain⟨i,hi,rfl⟩:=Jv hg;have hgi:L.getD i Jd=L[i]:=getD_lt hi;cases hf:ZoZ es L[i].at' with
 |none=>
  exfalso;unfold ZoZ at hf;have:=List.find?_eq_none.1 hf (es.getD i Jd) (Ze (by omega));apply this;simp only[Zwe,decide_eq_true_eq];rw[hat i hi,hgi]
 |some e=>
  refine⟨e,rfl,?_⟩;have he:=List.mem_of_find?_eq_some hf;have hp:=List.find?_some hf;simp only[Zwe,decide_eq_true_eq]at hp;obtain⟨j,hj,rfl⟩:=Jv he;have hjL:j<L.length:=by omega
  have hej:es.getD j Jd=es[j]:=getD_lt hj;have:=hat j hjL;rw[hej,hp]at this;have hLj:=hu _ (Ze (d:=Jd) hjL) _ hg this.symm;have hfit:=hall j hjL;rw[hej,hLj]at hfit;exact hfit
theorem ZtH {f:Fd} {e:En} (h:XG f e=Ht) (k:f.kind≠1):e.n=0/\(f.kind≠4->e.l.length=1)/\(f.kind=4->e.l.length<=400)/\ ∀s∈e.l,Xy f s=true:=by
 simp only[XG,k,if_false,Gb,T1,Je,decide_eq_true_eq,JM]at h;obtain⟨_,h1,h2,h3⟩:=h;refine⟨h3,λh4=> ?_,λh4=> ?_,h2⟩;rw[if_neg h4]at h1;simp at h1;omega;rw[if_pos h4]at h1;simp at h1;omega
theorem Zxx {f:Fd} {n:Int} (hr:Z1 f=Ht) (k:f.kind=1) (hn:Lim n):XG f ⟨f.at',n,[]⟩=true:=by
 unfold Lim at hn;simp only[XG,hr,k,if_true,ZkA,Je,decide_eq_true_eq,true_and,List.length_nil];exact⟨by omega,by omega,rfl⟩
theorem Zwh {f:Fd} {l:List Str} (hr:Z1 f=Ht) (k:f.kind≠1) (hl:if f.kind=4 then l.length<=400 else l.length=1) (hs:∀s∈l,Xy f s=Ht):XG f ⟨f.at',0,l⟩=true:=by
 simp only[XG,hr,k,if_false,Gb,T1,Je,decide_eq_true_eq,JM,true_and,and_true];refine⟨?_,hs⟩;by_cases h4:f.kind=4;rw[if_pos h4]at hl ⊢;simp;omega;rw[if_neg h4]at hl ⊢;simp;omega
theorem DW {f:Fd} (hr:Z1 f=Ht) (k1:f.kind≠1) (k3:f.kind≠3) {s:Str}:Xy f s=Ht↔s.length<41:=by
 simp only[Xy,hr,k1,k3,if_false,decide_false,JC,Jr,Jg,decide_eq_true_eq];omega
theorem ZlB {f:Fd} (hr:Z1 f=Ht):XG f (Z6 f)=true:=by
 by_cases k1:f.kind=1;have:Z6 f=⟨f.at',0,[]⟩:=by simp[Z6,k1]
 rw[this];exact Zxx hr k1 ⟨by omega,by omega⟩;by_cases k4:f.kind=4;have:Z6 f=⟨f.at',0,[]⟩:=by simp[Z6,k4]
 rw[this];exact Zwh hr k1 (by rw[if_pos k4];simp) (by simp);have:Z6 f=⟨f.at',0,[f.df]⟩:=by simp[Z6,k1,k4]
 rw[this];refine Zwh hr k1 (by rw[if_neg k4];rfl) λs hs=> ?_
 rw[Jz.1 hs];have h:=hr;simp only[Z1,k1,if_false,Je]at h;obtain⟨_,_,h⟩:=h;by_cases k3:f.kind=3;rw[if_pos k3]at h;simp only[Zch,Je]at h;simp only[Xy,hr,k1,k3,if_true];simpa using h.2.2;rw[if_neg k3]at h;rw[DW hr k1 k3];simp only[Zih,Je,Bool.or_eq_true,decide_eq_true_eq]at h;rcases h.2 with h|h;have:=h.2;omega;exact absurd h.1 k4
theorem ZyJ {l m:List Fd} {x:Ln} (ha:ZR l x=(m,0)) {f:Fd} (hf:f∈m):
  (Yf (Zc x) f.at'<0/\f∈l)\/ ∃i:Nat,Yf (Zc x) f.at'=(i:Int)/\i<=1/\ ∃cs,XZ l x=(cs,Ht)/\i<cs.length/\cs.getD i Jd=f:=by
 obtain⟨hl,hx,cs,l1,e1,e2,e3⟩:=XI ha;obtain⟨a1,a2,a3,a4,a5⟩:=T3 hl e2;obtain⟨b1,b2,b3,b4,b5⟩:=Vk a1 e3;have hk:=(Yi hx).1;have hpl:=Sy hk e1;have hcl:=Zku x;by_cases hp:Yf (Zc x) f.at'<0;left;refine⟨hp,?_⟩;rcases(b2 f).1 hf with h|h;exact((a2 f).1 h).1;exact absurd (by rw[<-hpl];exact Jk.2 ⟨f,h,rfl⟩) (Wt hp);right;obtain⟨i,h1,h2,h3⟩:=VQ hp;have hlen:cs.length=(Zc x).length:=by rw[<-hpl,Jp]
 refine⟨i,h1,by omega,cs,e1,by omega,?_⟩;have hi:i<cs.length:=by omega
 have hat:(cs.getD i Jd).at'=f.at':=by
  have e0:(cs.map (·.at')).getD i Jd=(cs.getD i Jd).at':=by
   rw[getD_lt (l:=cs.map (·.at')) (by simpa using hi),getD_lt hi];simp
  rw[<-e0,hpl,h3]
 exact Zlu b1 ((b2 _).2 (.inr (Ze hi))) hf hat
open Go.PL
open Go.PL
open Go.PL
def toL:List Ln->List Fd->Dc->Dc×Int
 | [],_,d=>(d,0)
 |x::xs,l,d=>if(Zr8 l x d).2≠0 then(Jd,(Zr8 l x d).2)else toL xs (ZR l x).1 (Zr8 l x d).1
structure ToS (row:List Ln) (l0:List Fd) (d0:Dc) where
 k:Nat
 l:List Fd
 d:Dc
 hk:k<=row.length
 okl:OkFs l
 okd:OkDc d
 h:toL (row.drop k) l d=toL row l0 d0
open Go.PL
structure SuS (row:List Ln) (r0:Rf) where
 k:Nat
 es:List Rf
 hk:k<=row.length
 hl:es.length<=1+2*(row.length-k)
 h:Zsn (row.take k).reverse es=Zsn row.reverse [r0]
structure AlS (row:List Ln) (r0:Rf) where
 k:Nat
 r:Rf
 kp:Bool
 hk:k<=row.length
 h:Zoq (row.drop k) r=Zoq row r0
 h2:(kp&&Znc (row.drop k) r)=Znc row r0
open Go.PL
open Go.ChangeShapes Go.WideShapes Go.ChangeAt Go.RowKit
theorem ZtQ:ZeP prog 60=false:=by kernel_rfl
theorem Zt0 {cs:List PV} (h:PT prog 60 cs):∃l:List Tg,cs= [.sl .no (l.map tg)]/\l.length<=maxLen:=by
 obtain⟨l,rfl,h1,h2⟩:=h.slice_inv ZtQ underlying60;obtain⟨xs,rfl,_⟩:=Sw (enc:=tg) (Q:=λ_=>True) (λp hp=>by
  obtain⟨s,rfl⟩:=pa_tag (h2 p hp);exact⟨s,rfl,trivial⟩)
 exact⟨xs,rfl,by simpa using h1⟩
theorem Zwk {p:PV} (h:PA prog 62 p):∃o:Opn,p=opv o/\o.drops.length<=maxLen:=by
 obtain⟨cs,rfl,h1⟩:=PA.agg Zss h;have h1:PTs prog [25,25,2,9,3,9,27,2,4,9,60] cs:=h1.struct_inv underlying62;obtain⟨a1,b1,rfl,h2,h3⟩:=h1.cons_inv;obtain⟨a2,b2,rfl,h4,h5⟩:=h3.cons_inv;obtain⟨a3,b3,rfl,h6,h7⟩:=h5.cons_inv;obtain⟨a4,b4,rfl,h8,h9⟩:=h7.cons_inv;obtain⟨a5,b5,rfl,h10,h11⟩:=h9.cons_inv;obtain⟨a6,b6,rfl,h12,h13⟩:=h11.cons_inv;obtain⟨a7,b7,rfl,h14,h15⟩:=h13.cons_inv;obtain⟨a8,b8,rfl,h16,h17⟩:=h15.cons_inv;obtain⟨a9,b9,rfl,h18,h19⟩:=h17.cons_inv;obtain⟨aa,ba,rfl,h20,h21⟩:=h19.cons_inv;obtain⟨ab,bb,rfl,h22,h23⟩:=h21.cons_inv;obtain⟨x1,rfl⟩:=Zgh h2;obtain⟨x2,rfl⟩:=Zgh h4;obtain⟨x3,rfl,_⟩:=h6.int_inv underlying2;obtain⟨x4,rfl,_⟩:=h8.string_inv underlying9;obtain⟨x5,rfl,_⟩:=h10.int_inv underlying3;obtain⟨x6,rfl,_⟩:=h12.string_inv underlying9;obtain⟨x7,rfl⟩:=Zji h14;obtain⟨x8,rfl,_⟩:=h16.int_inv underlying2;obtain⟨x9,rfl⟩:=h18.bool_inv underlying4;obtain⟨xa,rfl,_⟩:=h20.string_inv underlying9;obtain⟨xb,rfl,kb⟩:=Zt0 h22;rw[h23.nil_inv];exact⟨⟨x1,x2,x3,x4,x5,x6,x7,x8,x9,xa,xb⟩,rfl,kb⟩
open Go.PL
open Go.ChangeShapes Go.WideShapes Go.ChangeAt Go.RowKit
theorem ZtO:ZeP prog 23=false:=by kernel_rfl
theorem pa_ops {p:PV} (h:PA prog 23 p):∃l:List Opn,p=Zu l/\l.length<=maxLen:=by
 obtain⟨l,rfl,h1,h2⟩:=h.slice ZtO underlying23;obtain⟨xs,rfl,h3⟩:=Sw (enc:=opv) (Q:=λ_=>True) (λp hp=>by
  obtain⟨s,rfl,_⟩:=Zwk (h2 p hp);exact⟨s,rfl,trivial⟩)
 exact⟨xs,rfl,by simpa using h1⟩
theorem lenLn {x:Ln} (h:LenLn' x):LenLn x:=⟨h.c,h.f,h.b⟩
end Go.Proofs.YtadgngamdofhiaaGreat
