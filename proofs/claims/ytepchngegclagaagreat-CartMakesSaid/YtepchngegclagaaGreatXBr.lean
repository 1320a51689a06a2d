/- Lemmas of the proof. -/
import Derived.Test.YtepchngegclagaaGreatPlH
import Derived.Test.YtepchngegclagaaGreatXAa
import Derived.Test.YtepchngegclagaaGreatXAi
open Inhabited renaming default→Jd
open Bool renaming true→Ht,false→Hf
open Go.Proofs.Tryz
open Go Go.PL
open Bool renaming true_eq_false→Ja,or_eq_false_iff→Jg,and_eq_true→Jm,false_eq_true→Js,eq_false_iff→Jv
open Classical renaming not_not→JG
open Decidable renaming byContradiction→JC
open Int renaming reduceEq→Jb,natCast_nonneg→Ji
open List renaming getD_cons_zero→Jc,mem_map→Je,append_nil→Jf,take_add_one→Jj,map_cons→Jl,mem_of_mem_drop→Jp,getElem_of_mem→Jr,any_eq_false→Jt,getElem_drop→Jw,take_length→Jy,length_drop→Jz,mem_reverse→JA,nodup_cons→JB,map_take→JD
open Nat renaming zero_le→Jo
open PV renaming didsL→Jh,givableL→Jk,dids→Jq,giveL→Ju,sl→JE,ids→JF
open Prod renaming mk→Jn
namespace Go.Proofs.YtepchngegclagaaGreat
set_option maxHeartbeats 64000000
set_option maxRecDepth 20000
set_option linter.unusedVariables false
set_option linter.unusedSimpArgs false
open Go.PL
def dn (e:Eg):Lg:=⟨e.id,Ht⟩
def upg (i:Tg):Lg:=⟨i,Hf⟩
def ZcU (p q:List Eg):List Lg:=((p.drop (lcp p q)).reverse.map λe=>upg e.id)++(q.drop (lcp p q)).map dn
theorem ZhA (p:List Eg) (c:Nat) (hc:c<=p.length):(upL p).take (p.length-c)=(p.drop c).reverse.map (·.id):=by
 unfold upL;rw[List.take_append_of_le_length (by simp),<-JD,List.take_reverse];congr 3;omega
def D7 (x:List Lg×Int):PV:= .tup [lgs x.1,.int .i64 x.2]
theorem Zmv (l:List Lg):Jh (l.map lg)= []:=by
 induction l with
 |nil=>rfl
 |cons t l ih=>simp only[Jl,Jh,ih,lg,Jq,Jf]
theorem ZmY (l:List Lg):(lgs l).dids= []:=by simp only[lgs,Jq,Zmv]
theorem Sg (x:List Lg×Int):(D7 x).dids= []:=by simp only[D7,Jq,Jh,ZmY,Jf]
theorem Fo (l:List Lg):Sized 3 (l.map lg):=λe he=>by
 obtain⟨x,_,rfl⟩:=Je.1 he;rfl
def Wu (m:List Eg) (a b:Tg):Int:=if upC m a≠0 then upC m a else upC m b
def Zc3 (m:List Eg) (a b:Tg):List Lg×Int:=if Wu m a b≠0 then([],Wu m a b)else(ZcU (Vm m a) (Vm m b),0)
theorem UI {m:List Eg} {a b:Tg}:Wu m a b=0↔upC m a=0/\upC m b=0:=by
 unfold Wu;split;rename_i h;exact⟨λh'=>absurd h' h,λh'=>absurd h'.1 h⟩;rename_i h;exact⟨λh'=>⟨by simpa using h,h'⟩,λh'=>h'.2⟩
theorem ZlI {m:List Eg} {a b:Tg} (h:Wu m a b≠0):Zjb m a b=⟨[],[],0,0,Wu m a b⟩:=by
 unfold Zjb Wu at *;split;rfl;rename_i h1;rw[if_neg h1]at h;rw[if_pos h]
theorem Zjc {m:List Eg} {a b:Tg} (h:Wu m a b=0):Zjb m a b=⟨upL (Vm m a),upL (Vm m b),(Vm m a).length-lcp (Vm m a) (Vm m b),(Vm m b).length-lcp (Vm m a) (Vm m b),0⟩:=by
 obtain⟨h1,h2⟩:=UI.1 h;unfold Zjb;rw[if_neg (by simp[h1]),if_neg (by simp[h2])]
theorem SA {q:List Eg} {c s:Nat} (h:c+s<q.length):(q.drop c).take (s+1)=(q.drop c).take s++ [q.getD (c+s) Jd]:=by
 rw[Jj];congr 1;rw[List.getElem?_drop,List.getElem?_eq_getElem h,getD_lt h];rfl
theorem Zjm (m:List Eg) (a b:Tg) (hm:OkM m):Pp 245 [tr (Zd m),tg a,tg b] (D7 (Zc3 m a b)):=by
 have hW:=ZlJ m a b hm;unfold Zc3;by_cases hc:Wu m a b=0;rw[Zjc hc]at hW;obtain⟨ha,hb⟩:=UI.1 hc;obtain⟨wa,_,_⟩:=YU ha;obtain⟨wb,_,_⟩:=YU hb;simp only[hc,ne_eq,not_true_eq_false,if_false];generalize Vm m a=p at *;generalize Vm m b=q at *;have hlc:=ZbR p q;have hpl:p.length<=40:=by have:=wa.len;have:=hm.n;omega
 have hql:q.length<=40:=by have:=wb.len;have:=hm.n;omega
 unfold ZcU;have hut:=ZhA p (lcp p q) hlc.1;have hdl:(p.drop (lcp p q)).length=p.length-lcp p q:=by simp
 have hql':(q.drop (lcp p q)).length=q.length-lcp p q:=by simp
 generalize hids:(p.drop (lcp p q)).reverse.map (·.id)=ids at *;have hidl:ids.length=p.length-lcp p q:=by rw[<-hids];simp
 have hfst:((p.drop (lcp p q)).reverse.map λe=>upg e.id)=ids.map upg:=by rw[<-hids,List.map_map];rfl
 rw[hfst];have hlen:ids.length<=maxLen:=by rw[Zc];omega
 have s0:IntKind.i64.wrap (((p.length-lcp p q:Nat):Int)+((q.length-lcp p q:Nat):Int))=((p.length-lcp p q+(q.length-lcp p q):Nat):Int):=by rw[w64 (by omega)];omega
 have hup:(upL p).length=p.length+1:=X9 p;refine ZB func245 rfl ntmps245 results245 (Sg _) ?_;simp only[go_sem,tr,tg];refine ZgI (ι:= { s:Nat // s<=q.length-lcp p q }) 60 (λx=> [(9,tgs (upL q)),(11,.int .i64 ((q.length-lcp p q-x.1:Nat):Int)),(13,.sl (.row 58) ((ids.map upg++((q.drop (lcp p q)).take x.1).map dn).map lg))]) (λx=> []) (λx=> [(58,.live (ids.length+x.1) 3 287)]) (λx=>q.length-lcp p q-x.1) 0 _ (by exact rfl)
  (λx=>⟨Fc3 rfl rfl (by simp[JF,ZV]),fnl⟩) (λx=> ?_) (λcut=> ?_)
 obtain⟨s,hs⟩:=x;simp only;by_cases hlt:s<q.length-lcp p q;have c1:(0:Int)<((q.length-lcp p q-s:Nat):Int):=by omega
 have w1:IntKind.i64.wrap (((q.length-lcp p q-s:Nat):Int)-1)=((q.length-(lcp p q+s)-1:Nat):Int):=by rw[w64 (by omega)];omega
 have k1:q.length-(lcp p q+s)-1<(upL q).length:=by rw[X9];omega
 have b1:(0:Int)<=((q.length-(lcp p q+s)-1:Nat):Int):=by omega
 have b2:((q.length-(lcp p q+s)-1:Nat):Int)<((upL q).length:Int):=by omega
 have v1:=ZaL q (lcp p q+s) (by omega);have hrm:=YX (show ids.length+s+1<=1000000 by omega) (show 24<=1000 by omega);have hsl:(ids.map upg++((q.drop (lcp p q)).take s).map dn).length=ids.length+s:=by simp;omega
 have hnx:=SA (q:=q) (c:=lcp p q) (s:=s) (by omega);simp only[go_sem,tgs,c1,w1,ZO k1,v1,tg,b1,b2,Fo,hsl,hrm];refine⟨⟨s+1,by omega⟩,by show q.length-lcp p q-(s+1)<q.length-lcp p q-s;omega,⟨rfl,fcs rfl (fcs ?_ (fcs ?_ fnl)),fnl,fcs ?_ fnl⟩⟩;show PV.int .i64 _=PV.int .i64 _;congr 2;simp only;omega;show JE (.row 58) _=JE (.row 58) _;simp[hnx,dn,lg];rfl;obtain rfl:s=q.length-lcp p q:=by omega
 have c1:¬(0:Int)<((q.length-lcp p q-(q.length-lcp p q):Nat):Int):=by omega
 have htk:(q.drop (lcp p q)).take (q.length-lcp p q)=q.drop (lcp p q):=List.take_of_length_le (by omega);simp only[go_sem,tgs,c1,D7,lgs,htk]
 ·simp only[go_sem];refine vc5 hW ?_;simp only[go_sem,ZlY,tgs,s0];repeat((with_reducible refine And.intro ?_ ?_);(focus((repeat' (with_reducible apply And.intro))<;>(first|omega|exact Xm (by omega) (by omega)|exact Xm (by simp;omega) (by omega)|exact Xy _|(simp;done)|(simp;omega)))))
  have htt:PL.cut (List.map tg (upL p)) 0 ((p.length-lcp p q:Nat):Int)=ids.map tg:=by simp[PL.cut,<-JD,hut]
  refine⟨⟨by omega,by omega,W5 _⟩,?_⟩;simp only[go_sem,htt];refine ZR 13 32 45 0 3 287 [] rfl rfl rfl ?_;refine ZA (ι:= { x:Nat // x<=(ids).length }) 60 (λx=> [(9,tgs (upL q)),(11,.int .i64 ((q.length-lcp p q:Nat):Int)),(13,.sl (.row 45) (((ids.take x.1).map upg).map lg)),(35,tgs ids),(36,.int .i64 (ids.length:Int)),(37,.int .i64 (x.1:Int))]) (λx=> []) (λx=> [(45,.live (x.1) (3) (287))]) (λx=>(ids).length-x.1) ⟨0,Jo _⟩ ⟨rfl,(Fc6 rfl rfl rfl rfl rfl rfl),fnl,(fcs rfl fnl)⟩ (λx=>⟨(Fc6 rfl rfl (by simp[JF,ZV]) rfl rfl rfl),fnl⟩) (λx=> ?_);obtain⟨k,hk⟩:=x;simp only at hk ⊢;by_cases h:(k:Int)<(ids.length:Int)
  ·(have hka:k<(ids).length:=by omega);(have w1:=WD hka (hlen));(have i1:=Ji k)
   have hts:ids.take (k+1)=ids.take k++ [ids.getD k Jd]:=by rw[Jj,getD_lt hka];simp[hka]
   have hkl:(ids.take k).length=k:=by simp;omega
   have hrm:=YX (show k+1<=1000000 by omega) (show 24<=1000 by omega);simp only[go_sem,h,tgs,ZO hka,tg,i1,w1,Fo,hkl,hrm];exact⟨⟨k+1,by(try simp only);omega⟩,by show(ids).length-(k+1)<(ids).length-k;omega,⟨rfl,(Fc6 rfl rfl (by(show JE _ _=JE _ _;simp[hts,upg,lg])) rfl rfl rfl),fnl,(fcs rfl fnl)⟩⟩
  obtain rfl:k=ids.length:=by omega
  have htk:ids.take ids.length=ids:=Jy;simp only[go_sem,h,htk];refine ZR 13 45 58 ids.length 3 287 ((ids.map upg).map lg) rfl rfl rfl ?_;exact Xe (cut ⟨0,Jo _⟩ _ ⟨rfl,Fc3 rfl rfl (by simp[upd,St.with]),fnl,fcs (by simp[upd,Hp.setq,St.with]) fnl⟩)
 have hc':(Wu m a b !=0)=true:=by simpa using hc
 rw[ZlI hc]at hW;simp only[ne_eq,hc,not_false_eq_true,if_true];refine ZB func245 rfl ntmps245 results245 (Sg _) ?_;simp only[go_sem,tr,tg];refine Gb ?_;simp only[go_sem];refine vc5 hW ?_;simp only[go_sem,ZlY,tgs,hc',D7,lgs]
open Go.PL
def awX:Ln:=⟨1,⟨1,[],[110,111,116,101]⟩,[109,101,109,111],[],0,Jd,[],[]⟩
def awA:Eg:=⟨⟨1,1⟩,Jd,awX⟩
def awB:Eg:=⟨⟨2,1⟩,Jd,awX⟩
theorem Zvc:OkLn awX:=⟨by decide,by decide,by decide⟩
theorem Zve:Zc5 [] awA=([awA],0):=by decide+kernel
theorem putB:Zc5 [awA] awB=([awA,awB],0):=by decide+kernel
theorem okA:OkM [awA]:=by have:=Zpe Dt (e:=awA) Zvc;rw[Zve]at this;exact this
theorem ZcV (m:List Eg) (a b:Tg) (hm:OkM m):(Zc3 m a b).1.length<=80:=by
 unfold Zc3;split;simp;rename_i h;have h:=UI.1 (by simpa using h);have w1:=(YU h.1).1.len;have w2:=(YU h.2).1.len;have:=hm.n;simp only[ZcU,List.length_append,List.length_map,List.length_reverse,Jz];omega
theorem okL {l:List Eg} (h:F6 l 50=Hf):l.length<=50/\ ∀e∈l,OkLn e.ln:=by
 simp only[F6,Jg,decide_eq_false_iff_not,Jt]at h;exact⟨by omega,λe he=>ZkI (by simpa using h.2 e he)⟩
open Go.PL
theorem Zls (u v:List Eg):upL (u++v)=v.reverse.map (·.id)++upL u:=by simp[upL]
def Tv (p q:List Eg):Tg:=(upL (p.take (lcp p q))).getD 0 Jd
theorem Zhx (p q:List Eg):(upL p).getD (p.length-lcp p q) Jd=Tv p q:=by
 have h:=Zls (p.take (lcp p q)) (p.drop (lcp p q));rw[List.take_append_drop]at h;have hl:((p.drop (lcp p q)).reverse.map (·.id)).length=p.length-lcp p q:=by simp
 rw[h,Zj (by omega),hl,Nat.sub_self];rfl
def Zpa (m:List Eg) (a b:Tg):Tg×Int:=if Wu m a b≠0 then(Jd,Wu m a b)else(Tv (Vm m a) (Vm m b),0)
def tgc (x:Tg×Int):PV:= .tup [tg x.1,.int .i64 x.2]
theorem Zdp (x:Tg×Int):(tgc x).dids= []:=by simp only[tgc,Jq,Jh,Zln,Jf]
theorem Sr:tg Jd= .agg [.int .i64 0,.int .i64 0]:=rfl
open Go.PL
theorem Zkn {m:List Eg} {a b:Tg} (h:Wu m a b=0) (ha:Apart m):∀x∈ZcU (Vm m a) (Vm m b),∃e,e∈m/\Xo m x.id=some e/\x.id=e.id:=by
 obtain⟨h1,h2⟩:=UI.1 h;obtain⟨wa,_,_⟩:=YU h1;obtain⟨wb,_,_⟩:=YU h2;intro x hx;have key:∀e∈m,∃e',e'∈m/\Xo m e.id=some e'/\e.id=e'.id:=λe he=>⟨e,he,ha.find he,rfl⟩
 unfold ZcU at hx;rcases List.mem_append.1 hx with hx|hx;obtain⟨e,he,rfl⟩:=Je.1 hx;exact key e (wa.mem e (Jp (JA.1 he)));obtain⟨e,he,rfl⟩:=Je.1 hx;exact key e (wb.mem e (Jp he))
def SC (m:List Eg) (l:List Lg):List Ln:=l.map λx=>(ZcW m x).1
def Zb6 (m:List Eg) (a b:Tg):List Ln×Int:=if Wu m a b≠0 then([],Wu m a b)else(SC m (ZcU (Vm m a) (Vm m b)),0)
def SZ (l:List Ln):PV:= .sl .no (l.map lns)
theorem vcl {x:Bool} {M:KH} {g:FuncId} {args args':List PV} {K:KR} {r:PV} (h1:Pp g args' r) (h2:K.k r M.m) (h0:Jk M.m args:=by first|(simp only[go_sem,ref,ent,DK,doc,Y3,row,Zh,fld,lns,tg,refs,prs,pr,eg,egs,tgs,lg,lgs,tr,Zk,SZ];done)|exact rfl) (he:Ju M.m args=args':=by first|(simp only[go_sem,ref,ent,DK,doc,Y3,row,Zh,fld,lns,tg,refs,prs,pr,eg,egs,tgs,lg,lgs,tr,Zk,SZ];done)|exact rfl):@WX prog x M (some (g,args)) K:=Zl h1 h0 he h2
def Zhb (x:List Ln×Int):PV:= .tup [SZ x.1,.int .i64 x.2]
theorem Zko (l:List Ln):(SZ l).dids= []:=by
 unfold SZ;simp only[Jq];induction l with
 |nil=>rfl
 |cons e l ih=>simp only[Jl,Jh,ih,Fm,Jf]
theorem GE (x:List Ln×Int):(Zhb x).dids= []:=by simp only[Zhb,Jq,Jh,Zko,Jf]
theorem Zhr (l:List Ln):Sized 16 (l.map lns):=λe he=>by
 obtain⟨x,_,rfl⟩:=Je.1 he;rfl
theorem ZcI {l:List Ln} {i:Nat} (h:i<l.length):(l.map lns).getD i .any=lns (l.getD i Jd):=Vr h
theorem Zl1 (m:List Eg) (a b:Tg) (hm:OkM m) (hr:RightM m):Pp 204 [tr (Zd m),tg a,tg b] (Zhb (Zb6 m a b)):=by
 have hP:=Zjm m a b hm;have hll:=ZcV m a b hm;unfold Zb6;unfold Zc3 at hP hll;by_cases hc:Wu m a b=0
 ·have hin:=Zkn hc hm.a;simp only[hc,ne_eq,not_true_eq_false,if_false]at hP hll ⊢;generalize ZcU (Vm m a) (Vm m b)=legs at *;have hlm:legs.length<=maxLen:=by rw[Zc];omega
  refine ZB func204 rfl ntmps204 results204 (GE _) ?_;simp only[go_sem,tr,tg];refine vc5 hP ?_;simp only[go_sem,D7,lgs];repeat((with_reducible refine And.intro ?_ ?_);(focus((repeat' (with_reducible apply And.intro))<;>(first|omega|exact Xm (by omega) (by omega)|exact Xm (by simp;omega) (by omega)|exact Xy _|(simp;done)|(simp;omega)))))
  refine ZR 10 27 46 0 16 33 [] rfl rfl rfl ?_;refine ZA (ι:= { x:Nat // x<=(legs).length }) 49 (λx=> [(0,tr (Zd m)),(10,.sl (.row 46) ((SC m (legs.take x.1)).map lns)),(28,lgs legs),(29,.int .i64 (legs.length:Int)),(30,.int .i64 (x.1:Int))]) (λx=> []) (λx=> [(46,.live (x.1) (16) (33))]) (λx=>(legs).length-x.1) ⟨0,Jo _⟩ ⟨rfl,(Fc5 rfl rfl rfl rfl rfl),fnl,(fcs rfl fnl)⟩ (λx=>⟨(Fc5 rfl (by simp[JF,ZV]) rfl rfl rfl),fnl⟩) (λx=> ?_);obtain⟨k,hk⟩:=x;simp only at hk ⊢;by_cases h:(k:Int)<(legs.length:Int)
  ·(have hka:k<(legs).length:=by omega);(have w1:=WD hka (hlm));(have i1:=Ji k)
   obtain⟨e,he,hfe,_⟩:=hin _ (Zf (d:=Jd) hka);have hL:=Zh5 m (legs.getD k Jd) hm hr;have hz:(ZcW m (legs.getD k Jd)).2=0:=by unfold ZcW;rw[hfe];simp only;split<;>rfl
   have hts:legs.take (k+1)=legs.take k++ [legs.getD k Jd]:=by rw[Jj,getD_lt hka];simp[hka]
   have hkl:(SC m (legs.take k)).length=k:=by simp[SC];omega
   have hrm:=YX (show k+1<=1000000 by omega) (show 232<=1000 by omega);simp only[go_sem,tr,h,lgs,Zj4 hka,lg,i1];refine vc5 hL ?_;simp only[go_sem,lnc,hz,lns,Zhr,hkl,hrm,w1];exact⟨⟨k+1,by(try simp only);omega⟩,by show(legs).length-(k+1)<(legs).length-k;omega,⟨rfl,(Fc5 rfl (by(show JE _ _=JE _ _;simp[hts,SC,lns])) rfl rfl rfl),fnl,(fcs rfl fnl)⟩⟩
  obtain rfl:k=legs.length:=by omega
  have htk:legs.take legs.length=legs:=Jy;simp only[go_sem,h,htk,Zhb,SZ]
 have hc':(Wu m a b !=0)=true:=by simpa using hc
 simp only[ne_eq,hc,not_false_eq_true,if_true]at hP ⊢;refine ZB func204 rfl ntmps204 results204 (GE _) ?_;simp only[go_sem,tr,tg];refine vc5 hP ?_;simp only[go_sem,D7,lgs,hc',Zhb,SZ]
open Go.PL
theorem Zk3 {x:Ln} (h:ZG x=Ht) (hk:x.kind=1\/x.kind=2\/x.kind=3\/x.kind=4\/x.kind=5\/x.kind=6\/x.kind=7\/x.kind=8\/x.kind=9\/x.kind=10):ZG (ZbP x)=true:=by
 obtain⟨kind,⟨sc,gr,n0⟩,nm,ot,fac,fd,fo,ba⟩:=x;simp only at hk;rcases hk with rfl|rfl|rfl|rfl|rfl|rfl|rfl|rfl|rfl|rfl
 all_goals
  simp[ZG,ZbP,Xq,Ga]at h ⊢
  (try(simp_all;done))
  (try(obtain⟨h1,h2⟩:=h;simp_all;done))
 obtain⟨⟨⟨g1,g2,g3⟩,g4⟩,g5,g6,g7,g8,g9⟩:=h;exact⟨⟨⟨g1,g2,.inr g9⟩,g4⟩,g5,g6,g7,λe=>by subst e;exact absurd g9 (by decide)⟩
theorem ZjZ (f:Fd) (r:Rf) (h:f.at'=r):(⟨r,f.kind,f.df,f.cases',f.worth⟩:Fd)=f:=by subst h;rfl
theorem Zq4 {f:Fd} (h:Yc f=Ht) (hk:f.kind=1):f=⟨f.at',1,[],[],f.worth⟩:=by
 obtain⟨a,k,d,c,w⟩:=f;simp only at hk;subst hk;simp[Yc]at h;simp_all
theorem Zq5 {f:Fd} (h:Yc f=Ht) (hk:f.kind=2):f=⟨f.at',2,f.df,[],0⟩:=by
 obtain⟨a,k,d,c,w⟩:=f;simp only at hk;subst hk;simp[Yc,ZiY]at h;simp_all
theorem ZjC {l m:List Fd} {x:Ln} (hk:x.kind<=8) (h:Yb l x=(m,0)):Yb m (ZbP x)=(l,0):=by
 obtain⟨hl,hx,cs,l1,h1,h2,h3⟩:=FH h;have hkind:x.kind=1\/x.kind=2\/x.kind=3\/x.kind=4\/x.kind=5\/x.kind=6\/x.kind=7\/x.kind=8:=by
  have:=(Wc hx).1;omega
 have hy:=Zk3 hx (by omega);obtain⟨r1,r2,r3⟩:=YW.1 hl;obtain⟨a1,a2,a3,a4,a5⟩:=Zei hl h2;obtain⟨b1,b2,b3,b4,b5⟩:=Fg a1 h3;have hm:=(YW.1 b1).2.1;have find1:∀ {r:Rf},(Zv l r).2=0->(Zv l r).1∈l/\(Zv l r).1.at'=r:=λh=>Gv h
 obtain⟨kind,⟨sc,gr,n0⟩,nm,ot,fac,fd,fo,ba⟩:=x;simp only at hkind;rcases hkind with rfl|rfl|rfl|rfl|rfl|rfl|rfl|rfl
 -- rename
 simp only[Tt,Ze,Zk,Jb,if_false,if_true,Jc]at h1;split at h1;cases h1;rename_i hz;simp only[Jn.injEq,and_true]at h1;obtain⟨f1,f2⟩:=find1 (by simpa using hz);generalize (Zv l ⟨sc,gr,n0⟩).1=f at *;subst h1;refine TL hl h2 h3 hy (gs:= [f]) rfl ?_ (by simpa using f1) (by simp[ZE,f2]);have hc:=WZ hm ((b2 ⟨⟨sc,gr,nm⟩,f.kind,f.df,f.cases',f.worth⟩).2 (.inr (by simp)));simp only[Tt,ZbP,Ze,Zk,Jb,if_false,if_true,Jc,hc,ne_eq,not_true_eq_false];rw[ZjZ f _ f2]
 -- add
 simp only[Tt,Jb,if_true,Jn.injEq,and_true]at h1;subst h1;have hc:=WZ hm ((b2 fd).2 (.inr (by simp)));refine TL hl h2 h3 hy (gs:= []) rfl ?_ (by simp) rfl;simp[Tt,ZbP,hc]
 -- remove
 simp only[Tt,Jb,if_false,if_true,Jn.injEq,Jm,decide_eq_true_eq]at h1;obtain⟨rfl,h4,h5⟩:=h1;obtain⟨f1,f2⟩:=find1 h4;rw[h5]at f1;exact TL hl h2 h3 hy (gs:= [fd]) rfl (by simp[Tt,ZbP]) (by simpa using f1) rfl
 -- hoist
 simp only[Tt,Ze,Jb,if_false,if_true,Jc]at h1;split at h1;cases h1;rename_i hz;simp only[Jn.injEq,and_true]at h1;obtain⟨f1,f2⟩:=find1 (by simpa using hz);generalize (Zv l ⟨sc,gr,n0⟩).1=f at *;subst h1;refine TL hl h2 h3 hy (gs:= [f]) rfl ?_ (by simpa using f1) (by simp[ZE,f2]);have hc:=WZ hm ((b2 ⟨⟨sc,[],n0⟩,f.kind,f.df,f.cases',f.worth⟩).2 (.inr (by simp)));simp only[Tt,ZbP,Ze,Zk,Jb,if_false,if_true,Jc,hc,ne_eq,not_true_eq_false];rw[ZjZ f _ f2]
 -- plunge
 have hg:gr= []:=by simp[ZG]at hx;exact hx.2.2.2.2.1
 subst hg;simp only[Tt,Ze,Jb,if_false,if_true,Jc]at h1;split at h1;cases h1;rename_i hz;simp only[Jn.injEq,and_true]at h1;obtain⟨f1,f2⟩:=find1 (by simpa using hz);generalize (Zv l ⟨sc,[],n0⟩).1=f at *;subst h1;refine TL hl h2 h3 hy (gs:= [f]) rfl ?_ (by simpa using f1) (by simp[ZE,f2]);have hc:=WZ hm ((b2 ⟨⟨sc,nm,n0⟩,f.kind,f.df,f.cases',f.worth⟩).2 (.inr (by simp)));simp only[Tt,ZbP,Ze,Zk,Jb,if_false,if_true,Jc,hc,ne_eq,not_true_eq_false];rw[ZjZ f _ f2]
 -- split
 simp only[Tt,Zk,Jb,if_false,if_true]at h1;split at h1;cases h1;rename_i hz;simp only[Jn.injEq,decide_eq_true_eq]at h1;obtain⟨h1,h4⟩:=h1;obtain⟨f1,f2⟩:=find1 (by simpa using hz);generalize (Zv l ⟨sc,gr,n0⟩).1=f at *;subst h1;have hf:=Zq4 (r3 f f1) h4;rw[f2]at hf;refine TL hl h2 h3 hy (gs:= [f]) rfl ?_ (by simpa using f1) (by simp[ZE,f2]);have hc:=WZ hm ((b2 ⟨⟨sc,gr,nm⟩,1,[],[],f.worth⟩).2 (.inr (by simp)));have hd:=WZ hm ((b2 ⟨⟨sc,gr,ot⟩,1,[],[],IntKind.i64.wrap (f.worth*fac)⟩).2 (.inr (by simp)));simp only[Tt,S4,ZbP,Zk,Jb,if_false,if_true,hc,hd,ne_eq,not_true_eq_false,or_self];rw[<-hf]
 -- wrap
 simp only[Tt,Jb,if_false,if_true]at h1;split at h1;cases h1;rename_i hz;simp only[Jn.injEq,Jm,decide_eq_true_eq]at h1;obtain⟨h1,h4,h5⟩:=h1;obtain⟨f1,f2⟩:=find1 (by simpa using hz);generalize (Zv l ⟨sc,gr,n0⟩).1=f at *;subst h1;have hf:=Zq5 (r3 f f1) h4;rw[f2,h5]at hf;refine TL hl h2 h3 hy (gs:= [f]) rfl ?_ (by simpa using f1) (by simp[ZE,f2]);have hc:=WZ hm ((b2 ⟨⟨sc,gr,n0⟩,4,[],[],0⟩).2 (.inr (by simp)));simp only[Tt,ZbP,Jb,if_false,if_true,hc,ne_eq,not_true_eq_false,decide_true];rw[<-hf]
 -- convert
 simp only[Tt,Jb,if_false,if_true]at h1;split at h1;cases h1;rename_i hz;simp only[Jn.injEq,decide_eq_true_eq]at h1;obtain⟨h1,h4⟩:=h1;obtain⟨f1,f2⟩:=find1 (by simpa using hz);generalize (Zv l ⟨sc,gr,n0⟩).1=f at *;subst h1;refine TL hl h2 h3 hy (gs:= [f]) rfl ?_ (by simpa using f1) (by simp[ZE,f2]);have hc:=WZ hm ((b2 ⟨⟨sc,gr,n0⟩,3,ot,Yt ba,0⟩).2 (.inr (by simp)));simp only[Tt,ZbP,Jb,if_false,if_true,hc,ne_eq,not_true_eq_false,decide_true];rw[h4]
open Go.PL
def VZ (w:Int):Int:=(4503599627370496:Int).tdiv w
theorem Zac {w:Int} (h:1<=w):0<=VZ w/\VZ w<=4503599627370496/\VZ w*w<=4503599627370496/\4503599627370496<(VZ w+1)*w:=by
 unfold VZ;have e:(4503599627370496:Int).tdiv w=(4503599627370496:Int) / w:=Int.tdiv_eq_ediv_of_nonneg (by omega);rw[e];have h1:(4503599627370496:Int) / w*w<=4503599627370496:=Int.ediv_mul_le _ (by omega);have h2:=Int.lt_ediv_add_one_mul_self 4503599627370496 (show 0<w by omega);have h3:0<=(4503599627370496:Int) / w:=Int.ediv_nonneg (by omega) (by omega);have h4:(4503599627370496:Int) / w<=4503599627370496:=Int.ediv_le_self _ (by omega);exact⟨h3,h4,h1,h2⟩
def ZcQ (u p f:Int):Int×Int:=
 if ¬(2<=f/\f<=1000)then(0,2)else if p < - VZ f\/VZ f<p then(0,3)
 else if WJ (IntKind.i64.wrap (u+IntKind.i64.wrap (f*p)))=Ht then(IntKind.i64.wrap (u+IntKind.i64.wrap (f*p)),0)else(0,3)
def Zo4 (x:Int×Int):PV:= .tup [.int .i64 x.1,.int .i64 x.2]
theorem ZgM {n:Int} (h: -9223372036854775808<=n/\n<=9223372036854775807):IntKind.i64.wrap n=n:=w64 (by omega)
theorem ZhO (u p f:Int) (hu:Lim u) (hp:Lim p):Pp 278 [.cpx .f64 (VQ u) (VQ p),.int .i64 f] (Zo4 (ZcQ u p f)):=by
 have hF:=Fv f;have hP:=ZhQ u p hu hp;have hA:=ZjG (IntKind.i64.wrap (u+IntKind.i64.wrap (f*p)));unfold ZcQ;by_cases hf:2<=f/\f<=1000;have e1:(decide (2<=f)&&decide (f<=1000))=true:=by simpa using hf
 rw[e1]at hF;rw[if_neg (λh=>h hf)];have ms:=Zac (w:=f) (by omega);have q1:IntKind.i64.wrap ((4503599627370496:Int).tdiv f)=VZ f:=ZgM (by unfold VZ at ms;omega);have q2:IntKind.i64.wrap (0-VZ f)= - VZ f:=by rw[ZgM (by omega)];omega
 have fz:f≠0:=by omega
 by_cases c1:p < - VZ f;rw[if_pos (.inl c1)];refine ZB func278 rfl ntmps278 results278 (rfl) ?_;simp only[go_sem];refine vc1 hF ?_;simp only[go_sem];refine vc1 hP ?_;simp only[go_sem,q1,q2,fz,c1,Zo4];by_cases c2:VZ f<p;rw[if_pos (.inr c2)];refine ZB func278 rfl ntmps278 results278 (rfl) ?_;simp only[go_sem];refine vc1 hF ?_;simp only[go_sem];refine vc1 hP ?_;simp only[go_sem,q1,q2,fz,c1,c2,Zo4];rw[if_neg (by omega)];cases ha:WJ (IntKind.i64.wrap (u+IntKind.i64.wrap (f*p)));rw[ha]at hA;simp only[Js,if_false];refine ZB func278 rfl ntmps278 results278 (rfl) ?_;simp only[go_sem];refine vc1 hF ?_;simp only[go_sem];refine vc1 hP ?_;simp only[go_sem,q1,q2,fz,c1,c2];refine vc1 hA ?_;simp only[go_sem,Zo4];rw[ha]at hA;simp only[if_true];refine ZB func278 rfl ntmps278 results278 (rfl) ?_;simp only[go_sem];refine vc1 hF ?_;simp only[go_sem];refine vc1 hP ?_;simp only[go_sem,q1,q2,fz,c1,c2];refine vc1 hA ?_;simp only[go_sem,Zo4];have e1:(decide (2<=f)&&decide (f<=1000))=false:=by rw[Jv];simpa using hf
 rw[e1]at hF;rw[if_pos hf];refine ZB func278 rfl ntmps278 results278 (rfl) ?_;simp only[go_sem];refine vc1 hF ?_;simp only[go_sem,Zo4]
structure OkOp (o:Opn):Prop where
 d:o.drops.length<=1000000
theorem XX (o:Opn) (ho:OkOp o):Pp 247 [opv o] (opv o):=by
 have hr:=YX ho.d (show 16<=1000 by omega);refine ZB func247 rfl ntmps247 results247 (Sk _) ?_;simp only[go_sem,opv,W5,Gp,hr]
def XT (o:Opn) (i f:Int):Int×Bool:=if o.kind≠3 then(0,Hf)else if i=0 then(o.delta,Ht)else if WJ o.delta=Ht then((ZcQ 0 o.delta f).1,decide ((ZcQ 0 o.delta f).2=0))else(0,Hf)
def ZmP (x:Int×Bool):PV:= .tup [.int .i64 x.1,.bool x.2]
theorem ZeO (o:Opn) (i f:Int):Pp 270 [opv o,.int .i64 i,.int .i64 f] (ZmP (XT o i f)):=by
 unfold XT;by_cases k3:o.kind=3;have e3:(o.kind !=3)=false:=by simpa using k3
 rw[if_neg (λh=>h k3)];by_cases i0:i=0;have ei:(i==0)=true:=by simpa using i0
 rw[if_pos i0];refine ZB func270 rfl ntmps270 results270 (rfl) ?_;simp only[go_sem,opv,e3,ei,ZmP];have ei:(i==0)=false:=by simpa using i0
 rw[if_neg i0];have hO:=Zox 0 o.delta;have f0:WJ 0=true:=by decide
 cases hd:WJ o.delta;rw[if_neg (by rw[hd];simp)]at hO;simp only[Js,if_false];refine ZB func270 rfl ntmps270 results270 (rfl) ?_;simp only[go_sem,opv,e3,ei];refine vc1 hO ?_;simp only[go_sem,ZmP];rw[if_pos ⟨f0,hd⟩]at hO;have hJ:=ZhO 0 o.delta f (Gw.1 f0) (Gw.1 hd);simp only[if_true];generalize ZcQ 0 o.delta f=y at *;obtain⟨n,c⟩:=y;have ec:(c==0)=decide (c=0):=by rw[Bool.eq_iff_iff];simp
 refine ZB func270 rfl ntmps270 results270 (rfl) ?_;simp only[go_sem,opv,e3,ei];refine vc1 hO ?_;simp only[go_sem];refine vc1 hJ ?_;simp only[go_sem,Zo4,ec,ZmP];have e3:(o.kind !=3)=true:=by simpa using k3
 rw[if_pos k3];refine ZB func270 rfl ntmps270 results270 (rfl) ?_;simp only[go_sem,opv,e3,ZmP]
def SR (o:Opn) (fo:List Pr):Str×Bool:=if o.kind≠4 then([],Hf)else if o.has=Hf then(o.text,Ht)else Wf fo o.text
theorem ZiP (o:Opn) (fo:List Pr) (hf:fo.length<=maxLen):Pp 271 [opv o,prs fo] (ZaT (SR o fo)):=by
 have hC:=Gd fo o.text hf;unfold SR;obtain⟨id,sch,time,cart,kind,item,at',delta,has,text,drops⟩:=o;simp only at hC ⊢;by_cases k4:kind=4;have e4:(kind !=4)=false:=by simpa using k4
 rw[if_neg (λh=>h k4)];cases has;refine ZB func271 rfl ntmps271 results271 (rfl) ?_;simp only[go_sem,opv,prs,e4,ZaT,if_true];simp only[Ja,if_false];generalize Wf fo text=y at *;obtain⟨s,b⟩:=y;refine ZB func271 rfl ntmps271 results271 (rfl) ?_;simp only[go_sem,opv,prs,e4];refine vc3 hC ?_;simp only[go_sem,ZaT];have e4:(kind !=4)=true:=by simpa using k4
 rw[if_pos k4];refine ZB func271 rfl ntmps271 results271 (rfl) ?_;simp only[go_sem,opv,prs,e4,ZaT]
def ZS (o:Opn) (r:Rf):Opn:=⟨o.id,o.sch,o.time,o.cart,o.kind,o.item,r,o.delta,o.has,o.text,o.drops⟩
def Yg (o:Opn) (d:Int):Opn:=⟨o.id,o.sch,o.time,o.cart,o.kind,o.item,o.at',d,o.has,o.text,o.drops⟩
def Xb (o:Opn) (s:Str):Opn:=⟨o.id,o.sch,o.time,o.cart,o.kind,o.item,o.at',o.delta,o.has,s,o.drops⟩
theorem vcn {x:Bool} {M:KH} {g:FuncId} {args args':List PV} {K:KR} {r:PV} (h1:Pp g args' r) (h2:K.k r M.m) (h0:Jk M.m args:=by first|(simp only[go_sem,ref,ent,DK,doc,Y3,row,Zh,fld,lns,tg,refs,prs,pr,eg,egs,tgs,lg,lgs,Zk,opv,tr,ZS,Yg,Xb];done)|exact rfl) (he:Ju M.m args=args':=by first|(simp only[go_sem,ref,ent,DK,doc,Y3,row,Zh,fld,lns,tg,refs,prs,pr,eg,egs,tgs,lg,lgs,Zk,opv,tr,ZS,Yg,Xb];done)|exact rfl):@WX prog x M (some (g,args)) K:=Zl h1 h0 he h2
def ZQ (x:Ln) (o:Opn):Opn×Bool:=
 if x.kind=1\/x.kind=4\/x.kind=5 then(o,Ht)
 else if x.kind=6 then(o,decide (o.kind=3))
 else if x.kind=9 then(Yg o (XT o (Xw (ZE x) o.at') x.fac).1,(XT o (Xw (ZE x) o.at') x.fac).2)
 else if x.kind=7\/x.kind=10 then(o,decide (o.kind=4))
 else if x.kind=8 then(Xb o (SR o x.fo).1,(SR o x.fo).2)
 else(o,Hf)
def Ut (x:Ln) (o:Opn):Opn×Bool:=
 if ZG x=Hf then(Jd,Hf)else if o.kind≠3/\o.kind≠4 then(o,Ht)else if Xw (ZE x) o.at'<0 then(o,Ht)
 else if(ZQ x o).2=Hf then(Jd,Hf)else(ZS (ZQ x o).1 ((Ze x).getD 0 Jd),Ht)
theorem Zjk (x:Ln) (o:Opn) (hx:OkLn x) (ho:OkOp o):Pp 248 [lns x,opv o] (opb (Ut x o)):=by
 have hR:=WE x hx;have hO:=XX o ho;unfold Ut;cases hlr:ZG x;rw[hlr]at hR;refine ZB func248 rfl ntmps248 results248 (Zo _) ?_;simp only[go_sem,lns,opv];refine vc3 hR ?_;simp only[go_sem,if_true,opb,Za];have hk:=(Wc hlr).1;rw[hlr]at hR;simp only[Ja,if_false];by_cases hp:o.kind≠3/\o.kind≠4;rw[if_pos hp];have e1:(o.kind !=3)=true:=by simpa using hp.1
 have e2:(o.kind !=4)=true:=by simpa using hp.2
 refine ZB func248 rfl ntmps248 results248 (Zo _) ?_;simp only[go_sem,lns,opv];refine vc3 hR ?_;simp only[go_sem,e1,e2,opv];refine vc6 hO ?_;simp only[go_sem,opb,opv];rw[if_neg hp];have hG:=Fw x hx;have hC:=Zbd x hx;have hg:Zej x=ZE x:=by simp[Zej,hlr]
 have hc:Zbx x=Ze x:=by simp[Zbx,hlr]
 rw[hg]at hG;rw[hc]at hC;have hI:Pp 269 [refs (ZE x),ref o.at'] (.int .i64 (Xw (ZE x) o.at')):=Zfk (ZE x) o.at' (by have:=F4 x;rw[Zc];omega);have pl:((o.kind !=3)=Ht/\(o.kind !=4)=Hf)\/(o.kind !=3)=false:=by
  by_cases k3:o.kind=3;right;simpa using k3;left;refine⟨by simpa using k3,?_⟩;simp only[bne_eq_false_iff_eq];exact JC λh=>hp ⟨k3,h⟩
 by_cases hi:Xw (ZE x) o.at'<0;rw[if_pos hi];rcases pl with ⟨e1,e2⟩|e1;refine ZB func248 rfl ntmps248 results248 (Zo _) ?_;simp only[go_sem,lns,opv];refine vc3 hR ?_;simp only[go_sem,e1,e2,lns];refine vDq ?_;simp only[go_sem,lns,opv];refine vc3 hG ?_;simp only[go_sem,refs];refine vc3 hI ?_;simp only[go_sem,hi,opv];refine vc6 hO ?_;simp only[go_sem,opb,opv];refine ZB func248 rfl ntmps248 results248 (Zo _) ?_;simp only[go_sem,lns,opv];refine vc3 hR ?_;simp only[go_sem,e1,lns];refine vDq ?_;simp only[go_sem,lns,opv];refine vc3 hG ?_;simp only[go_sem,refs];refine vc3 hI ?_;simp only[go_sem,hi,opv];refine vc6 hO ?_;simp only[go_sem,opb,opv];rw[if_neg hi];have hM:=ZeO o (Xw (ZE x) o.at') x.fac;have hV:=ZiP o x.fo (by have:=hx.f;rw[Zc];omega);obtain⟨kind,at',nm,ot,fac,fd,fo,ba⟩:=x;simp only at hk hM hV;rcases hk with rfl|rfl|rfl|rfl|rfl|rfl|rfl|rfl|rfl|rfl;have hne:(Ze ⟨1,at',nm,ot,fac,fd,fo,ba⟩).length≠0:=by unfold Ze;simp
 have hc0:0<(Ze ⟨1,at',nm,ot,fac,fd,fo,ba⟩).length:=by omega
 have hc1:(0:Int)<((Ze ⟨1,at',nm,ot,fac,fd,fo,ba⟩).length:Int):=by omega
 have hc2:(((Ze ⟨1,at',nm,ot,fac,fd,fo,ba⟩).map ref).getD 0 .any)=ref ((Ze ⟨1,at',nm,ot,fac,fd,fo,ba⟩).getD 0 Jd):=Z9 hc0;generalize Ze ⟨1,at',nm,ot,fac,fd,fo,ba⟩=comes at *;have hb:ZQ ⟨1,at',nm,ot,fac,fd,fo,ba⟩ o=(o,Ht):=by simp[ZQ]
 rw[hb];simp only[Ja,if_false];have hO2:=XX (ZS o (comes.getD 0 Jd)) ⟨ho.d⟩;rcases pl with ⟨e1,e2⟩|e1;refine ZB func248 rfl ntmps248 results248 (Zo _) ?_;simp only[go_sem,lns,opv];refine vc3 hR ?_;simp only[go_sem,e1,e2,lns];refine vDq ?_;simp only[go_sem,lns,opv];refine vc3 hG ?_;simp only[go_sem,refs];refine vc3 hI ?_;simp only[go_sem,hi,opv,lns];refine vc3 hC ?_;simp only[go_sem,refs,hc1,hc2,ref,opv,ZS,Yg,Xb];refine vcn hO2 ?_;simp only[go_sem,opb,opv,ZS,Yg,Xb];refine ZB func248 rfl ntmps248 results248 (Zo _) ?_;simp only[go_sem,lns,opv];refine vc3 hR ?_;simp only[go_sem,e1,lns];refine vDq ?_;simp only[go_sem,lns,opv];refine vc3 hG ?_;simp only[go_sem,refs];refine vc3 hI ?_;simp only[go_sem,hi,opv,lns];refine vc3 hC ?_;simp only[go_sem,refs,hc1,hc2,ref,opv,ZS,Yg,Xb];refine vcn hO2 ?_;simp only[go_sem,opb,opv,ZS,Yg,Xb];exfalso;have:ZE ⟨2,at',nm,ot,fac,fd,fo,ba⟩= []:=by simp[ZE]
 rw[this]at hi;exact hi (by show(-1:Int)<0;omega);have hb:ZQ ⟨3,at',nm,ot,fac,fd,fo,ba⟩ o=(o,Hf):=by simp[ZQ]
 rw[hb];simp only[if_true];rcases pl with ⟨e1,e2⟩|e1
 ·refine ZB func248 rfl ntmps248 results248 (Zo _) ?_;simp only[go_sem,lns,opv];refine vc3 hR ?_;simp only[go_sem,e1,e2,lns];refine vDq ?_;simp only[go_sem,lns,opv];refine vc3 hG ?_;simp only[go_sem,refs];refine vc3 hI ?_;simp only[go_sem,hi,opv,lns]
  (try simp only[go_sem,opb,Za])
 ·refine ZB func248 rfl ntmps248 results248 (Zo _) ?_;simp only[go_sem,lns,opv];refine vc3 hR ?_;simp only[go_sem,e1,lns];refine vDq ?_;simp only[go_sem,lns,opv];refine vc3 hG ?_;simp only[go_sem,refs];refine vc3 hI ?_;simp only[go_sem,hi,opv,lns]
  (try simp only[go_sem,opb,Za])
 have hne:(Ze ⟨4,at',nm,ot,fac,fd,fo,ba⟩).length≠0:=by unfold Ze;simp
 have hc0:0<(Ze ⟨4,at',nm,ot,fac,fd,fo,ba⟩).length:=by omega
 have hc1:(0:Int)<((Ze ⟨4,at',nm,ot,fac,fd,fo,ba⟩).length:Int):=by omega
 have hc2:(((Ze ⟨4,at',nm,ot,fac,fd,fo,ba⟩).map ref).getD 0 .any)=ref ((Ze ⟨4,at',nm,ot,fac,fd,fo,ba⟩).getD 0 Jd):=Z9 hc0;generalize Ze ⟨4,at',nm,ot,fac,fd,fo,ba⟩=comes at *;have hb:ZQ ⟨4,at',nm,ot,fac,fd,fo,ba⟩ o=(o,Ht):=by simp[ZQ]
 rw[hb];simp only[Ja,if_false];have hO2:=XX (ZS o (comes.getD 0 Jd)) ⟨ho.d⟩;rcases pl with ⟨e1,e2⟩|e1;refine ZB func248 rfl ntmps248 results248 (Zo _) ?_;simp only[go_sem,lns,opv];refine vc3 hR ?_;simp only[go_sem,e1,e2,lns];refine vDq ?_;simp only[go_sem,lns,opv];refine vc3 hG ?_;simp only[go_sem,refs];refine vc3 hI ?_;simp only[go_sem,hi,opv,lns];refine vc3 hC ?_;simp only[go_sem,refs,hc1,hc2,ref,opv,ZS,Yg,Xb];refine vcn hO2 ?_;simp only[go_sem,opb,opv,ZS,Yg,Xb];refine ZB func248 rfl ntmps248 results248 (Zo _) ?_;simp only[go_sem,lns,opv];refine vc3 hR ?_;simp only[go_sem,e1,lns];refine vDq ?_;simp only[go_sem,lns,opv];refine vc3 hG ?_;simp only[go_sem,refs];refine vc3 hI ?_;simp only[go_sem,hi,opv,lns];refine vc3 hC ?_;simp only[go_sem,refs,hc1,hc2,ref,opv,ZS,Yg,Xb];refine vcn hO2 ?_;simp only[go_sem,opb,opv,ZS,Yg,Xb];have hne:(Ze ⟨5,at',nm,ot,fac,fd,fo,ba⟩).length≠0:=by unfold Ze;simp
 have hc0:0<(Ze ⟨5,at',nm,ot,fac,fd,fo,ba⟩).length:=by omega
 have hc1:(0:Int)<((Ze ⟨5,at',nm,ot,fac,fd,fo,ba⟩).length:Int):=by omega
 have hc2:(((Ze ⟨5,at',nm,ot,fac,fd,fo,ba⟩).map ref).getD 0 .any)=ref ((Ze ⟨5,at',nm,ot,fac,fd,fo,ba⟩).getD 0 Jd):=Z9 hc0;generalize Ze ⟨5,at',nm,ot,fac,fd,fo,ba⟩=comes at *;have hb:ZQ ⟨5,at',nm,ot,fac,fd,fo,ba⟩ o=(o,Ht):=by simp[ZQ]
 rw[hb];simp only[Ja,if_false];have hO2:=XX (ZS o (comes.getD 0 Jd)) ⟨ho.d⟩;rcases pl with ⟨e1,e2⟩|e1;refine ZB func248 rfl ntmps248 results248 (Zo _) ?_;simp only[go_sem,lns,opv];refine vc3 hR ?_;simp only[go_sem,e1,e2,lns];refine vDq ?_;simp only[go_sem,lns,opv];refine vc3 hG ?_;simp only[go_sem,refs];refine vc3 hI ?_;simp only[go_sem,hi,opv,lns];refine vc3 hC ?_;simp only[go_sem,refs,hc1,hc2,ref,opv,ZS,Yg,Xb];refine vcn hO2 ?_;simp only[go_sem,opb,opv,ZS,Yg,Xb];refine ZB func248 rfl ntmps248 results248 (Zo _) ?_;simp only[go_sem,lns,opv];refine vc3 hR ?_;simp only[go_sem,e1,lns];refine vDq ?_;simp only[go_sem,lns,opv];refine vc3 hG ?_;simp only[go_sem,refs];refine vc3 hI ?_;simp only[go_sem,hi,opv,lns];refine vc3 hC ?_;simp only[go_sem,refs,hc1,hc2,ref,opv,ZS,Yg,Xb];refine vcn hO2 ?_;simp only[go_sem,opb,opv,ZS,Yg,Xb];have hne:(Ze ⟨6,at',nm,ot,fac,fd,fo,ba⟩).length≠0:=by unfold Ze;simp
 have hc0:0<(Ze ⟨6,at',nm,ot,fac,fd,fo,ba⟩).length:=by omega
 have hc1:(0:Int)<((Ze ⟨6,at',nm,ot,fac,fd,fo,ba⟩).length:Int):=by omega
 have hc2:(((Ze ⟨6,at',nm,ot,fac,fd,fo,ba⟩).map ref).getD 0 .any)=ref ((Ze ⟨6,at',nm,ot,fac,fd,fo,ba⟩).getD 0 Jd):=Z9 hc0;generalize Ze ⟨6,at',nm,ot,fac,fd,fo,ba⟩=comes at *;have hb:ZQ ⟨6,at',nm,ot,fac,fd,fo,ba⟩ o=(o,decide (o.kind=3)):=by simp[ZQ]
 rw[hb];by_cases kk:o.kind=3;have e3:(o.kind==3)=true:=by simpa using kk
 simp only[kk,decide_true,Ja,if_false];have hO2:=XX (ZS o (comes.getD 0 Jd)) ⟨ho.d⟩;rcases pl with ⟨e1,e2⟩|e1;refine ZB func248 rfl ntmps248 results248 (Zo _) ?_;simp only[go_sem,lns,opv];refine vc3 hR ?_;simp only[go_sem,e1,e2,lns];refine vDq ?_;simp only[go_sem,lns,opv];refine vc3 hG ?_;simp only[go_sem,refs];refine vc3 hI ?_;simp only[go_sem,hi,opv,lns,e3];refine vc3 hC ?_;simp only[go_sem,refs,hc1,hc2,ref,opv,ZS,Yg,Xb];refine vcn hO2 ?_;simp only[go_sem,opb,opv,kk,ZS,Yg,Xb];refine ZB func248 rfl ntmps248 results248 (Zo _) ?_;simp only[go_sem,lns,opv];refine vc3 hR ?_;simp only[go_sem,e1,lns];refine vDq ?_;simp only[go_sem,lns,opv];refine vc3 hG ?_;simp only[go_sem,refs];refine vc3 hI ?_;simp only[go_sem,hi,opv,lns,e3];refine vc3 hC ?_;simp only[go_sem,refs,hc1,hc2,ref,opv,ZS,Yg,Xb];refine vcn hO2 ?_;simp only[go_sem,opb,opv,kk,ZS,Yg,Xb];have e3:(o.kind==3)=false:=by simpa using kk
 simp only[kk,decide_false,if_true];rcases pl with ⟨e1,e2⟩|e1
 ·refine ZB func248 rfl ntmps248 results248 (Zo _) ?_;simp only[go_sem,lns,opv];refine vc3 hR ?_;simp only[go_sem,e1,e2,lns];refine vDq ?_;simp only[go_sem,lns,opv];refine vc3 hG ?_;simp only[go_sem,refs];refine vc3 hI ?_;simp only[go_sem,hi,opv,lns,e3]
  (try simp only[go_sem,opb,Za])
 ·refine ZB func248 rfl ntmps248 results248 (Zo _) ?_;simp only[go_sem,lns,opv];refine vc3 hR ?_;simp only[go_sem,e1,lns];refine vDq ?_;simp only[go_sem,lns,opv];refine vc3 hG ?_;simp only[go_sem,refs];refine vc3 hI ?_;simp only[go_sem,hi,opv,lns,e3]
  (try simp only[go_sem,opb,Za])
 have hne:(Ze ⟨7,at',nm,ot,fac,fd,fo,ba⟩).length≠0:=by unfold Ze;simp
 have hc0:0<(Ze ⟨7,at',nm,ot,fac,fd,fo,ba⟩).length:=by omega
 have hc1:(0:Int)<((Ze ⟨7,at',nm,ot,fac,fd,fo,ba⟩).length:Int):=by omega
 have hc2:(((Ze ⟨7,at',nm,ot,fac,fd,fo,ba⟩).map ref).getD 0 .any)=ref ((Ze ⟨7,at',nm,ot,fac,fd,fo,ba⟩).getD 0 Jd):=Z9 hc0;generalize Ze ⟨7,at',nm,ot,fac,fd,fo,ba⟩=comes at *;have hb:ZQ ⟨7,at',nm,ot,fac,fd,fo,ba⟩ o=(o,decide (o.kind=4)):=by simp[ZQ]
 rw[hb];by_cases kk:o.kind=4;have e3:(o.kind==4)=true:=by simpa using kk
 simp only[kk,decide_true,Ja,if_false];have hO2:=XX (ZS o (comes.getD 0 Jd)) ⟨ho.d⟩;rcases pl with ⟨e1,e2⟩|e1;refine ZB func248 rfl ntmps248 results248 (Zo _) ?_;simp only[go_sem,lns,opv];refine vc3 hR ?_;simp only[go_sem,e1,e2,lns];refine vDq ?_;simp only[go_sem,lns,opv];refine vc3 hG ?_;simp only[go_sem,refs];refine vc3 hI ?_;simp only[go_sem,hi,opv,lns,e3];refine vc3 hC ?_;simp only[go_sem,refs,hc1,hc2,ref,opv,ZS,Yg,Xb];refine vcn hO2 ?_;simp only[go_sem,opb,opv,kk,ZS,Yg,Xb];refine ZB func248 rfl ntmps248 results248 (Zo _) ?_;simp only[go_sem,lns,opv];refine vc3 hR ?_;simp only[go_sem,e1,lns];refine vDq ?_;simp only[go_sem,lns,opv];refine vc3 hG ?_;simp only[go_sem,refs];refine vc3 hI ?_;simp only[go_sem,hi,opv,lns,e3];refine vc3 hC ?_;simp only[go_sem,refs,hc1,hc2,ref,opv,ZS,Yg,Xb];refine vcn hO2 ?_;simp only[go_sem,opb,opv,kk,ZS,Yg,Xb];have e3:(o.kind==4)=false:=by simpa using kk
 simp only[kk,decide_false,if_true];rcases pl with ⟨e1,e2⟩|e1
 ·refine ZB func248 rfl ntmps248 results248 (Zo _) ?_;simp only[go_sem,lns,opv];refine vc3 hR ?_;simp only[go_sem,e1,e2,lns];refine vDq ?_;simp only[go_sem,lns,opv];refine vc3 hG ?_;simp only[go_sem,refs];refine vc3 hI ?_;simp only[go_sem,hi,opv,lns,e3]
  (try simp only[go_sem,opb,Za])
 ·refine ZB func248 rfl ntmps248 results248 (Zo _) ?_;simp only[go_sem,lns,opv];refine vc3 hR ?_;simp only[go_sem,e1,lns];refine vDq ?_;simp only[go_sem,lns,opv];refine vc3 hG ?_;simp only[go_sem,refs];refine vc3 hI ?_;simp only[go_sem,hi,opv,lns,e3]
  (try simp only[go_sem,opb,Za])
 have hne:(Ze ⟨8,at',nm,ot,fac,fd,fo,ba⟩).length≠0:=by unfold Ze;simp
 have hc0:0<(Ze ⟨8,at',nm,ot,fac,fd,fo,ba⟩).length:=by omega
 have hc1:(0:Int)<((Ze ⟨8,at',nm,ot,fac,fd,fo,ba⟩).length:Int):=by omega
 have hc2:(((Ze ⟨8,at',nm,ot,fac,fd,fo,ba⟩).map ref).getD 0 .any)=ref ((Ze ⟨8,at',nm,ot,fac,fd,fo,ba⟩).getD 0 Jd):=Z9 hc0;generalize Ze ⟨8,at',nm,ot,fac,fd,fo,ba⟩=comes at *;have hb:ZQ ⟨8,at',nm,ot,fac,fd,fo,ba⟩ o=(Xb o (SR o fo).1,(SR o fo).2):=by simp[ZQ]
 rw[hb];generalize SR o fo=y at *;obtain⟨d,b⟩:=y;cases b;simp only[if_true];rcases pl with ⟨e1,e2⟩|e1;refine ZB func248 rfl ntmps248 results248 (Zo _) ?_;simp only[go_sem,lns,opv];refine vc3 hR ?_;simp only[go_sem,e1,e2,lns];refine vDq ?_;simp only[go_sem,lns,opv];refine vc3 hG ?_;simp only[go_sem,refs];refine vc3 hI ?_;simp only[go_sem,hi,opv,lns];refine vc6 hV ?_;simp only[go_sem,ZaT,opb,Za];refine ZB func248 rfl ntmps248 results248 (Zo _) ?_;simp only[go_sem,lns,opv];refine vc3 hR ?_;simp only[go_sem,e1,lns];refine vDq ?_;simp only[go_sem,lns,opv];refine vc3 hG ?_;simp only[go_sem,refs];refine vc3 hI ?_;simp only[go_sem,hi,opv,lns];refine vc6 hV ?_;simp only[go_sem,ZaT,opb,Za];simp only[Ja,if_false];have hO2:=XX (ZS (Xb o d) (comes.getD 0 Jd)) ⟨ho.d⟩;rcases pl with ⟨e1,e2⟩|e1;refine ZB func248 rfl ntmps248 results248 (Zo _) ?_;simp only[go_sem,lns,opv];refine vc3 hR ?_;simp only[go_sem,e1,e2,lns];refine vDq ?_;simp only[go_sem,lns,opv];refine vc3 hG ?_;simp only[go_sem,refs];refine vc3 hI ?_;simp only[go_sem,hi,opv,lns];refine vc6 hV ?_;simp only[go_sem,ZaT,lns];refine vc3 hC ?_;simp only[go_sem,refs,hc1,hc2,ref,opv,ZS,Yg,Xb];refine vcn hO2 ?_;simp only[go_sem,opb,opv,ZS,Yg,Xb];refine ZB func248 rfl ntmps248 results248 (Zo _) ?_;simp only[go_sem,lns,opv];refine vc3 hR ?_;simp only[go_sem,e1,lns];refine vDq ?_;simp only[go_sem,lns,opv];refine vc3 hG ?_;simp only[go_sem,refs];refine vc3 hI ?_;simp only[go_sem,hi,opv,lns];refine vc6 hV ?_;simp only[go_sem,ZaT,lns];refine vc3 hC ?_;simp only[go_sem,refs,hc1,hc2,ref,opv,ZS,Yg,Xb];refine vcn hO2 ?_;simp only[go_sem,opb,opv,ZS,Yg,Xb];have hne:(Ze ⟨9,at',nm,ot,fac,fd,fo,ba⟩).length≠0:=by unfold Ze;simp
 have hc0:0<(Ze ⟨9,at',nm,ot,fac,fd,fo,ba⟩).length:=by omega
 have hc1:(0:Int)<((Ze ⟨9,at',nm,ot,fac,fd,fo,ba⟩).length:Int):=by omega
 have hc2:(((Ze ⟨9,at',nm,ot,fac,fd,fo,ba⟩).map ref).getD 0 .any)=ref ((Ze ⟨9,at',nm,ot,fac,fd,fo,ba⟩).getD 0 Jd):=Z9 hc0;generalize Ze ⟨9,at',nm,ot,fac,fd,fo,ba⟩=comes at *;have hb:ZQ ⟨9,at',nm,ot,fac,fd,fo,ba⟩ o=(Yg o (XT o (Xw (ZE ⟨9,at',nm,ot,fac,fd,fo,ba⟩) o.at') fac).1,(XT o (Xw (ZE ⟨9,at',nm,ot,fac,fd,fo,ba⟩) o.at') fac).2):=by simp[ZQ]
 rw[hb];generalize XT o (Xw (ZE ⟨9,at',nm,ot,fac,fd,fo,ba⟩) o.at') fac=y at *;obtain⟨d,b⟩:=y;cases b;simp only[if_true];rcases pl with ⟨e1,e2⟩|e1;refine ZB func248 rfl ntmps248 results248 (Zo _) ?_;simp only[go_sem,lns,opv];refine vc3 hR ?_;simp only[go_sem,e1,e2,lns];refine vDq ?_;simp only[go_sem,lns,opv];refine vc3 hG ?_;simp only[go_sem,refs];refine vc3 hI ?_;simp only[go_sem,hi,opv,lns];refine vc6 hM ?_;simp only[go_sem,ZmP,opb,Za];refine ZB func248 rfl ntmps248 results248 (Zo _) ?_;simp only[go_sem,lns,opv];refine vc3 hR ?_;simp only[go_sem,e1,lns];refine vDq ?_;simp only[go_sem,lns,opv];refine vc3 hG ?_;simp only[go_sem,refs];refine vc3 hI ?_;simp only[go_sem,hi,opv,lns];refine vc6 hM ?_;simp only[go_sem,ZmP,opb,Za];simp only[Ja,if_false];have hO2:=XX (ZS (Yg o d) (comes.getD 0 Jd)) ⟨ho.d⟩;rcases pl with ⟨e1,e2⟩|e1;refine ZB func248 rfl ntmps248 results248 (Zo _) ?_;simp only[go_sem,lns,opv];refine vc3 hR ?_;simp only[go_sem,e1,e2,lns];refine vDq ?_;simp only[go_sem,lns,opv];refine vc3 hG ?_;simp only[go_sem,refs];refine vc3 hI ?_;simp only[go_sem,hi,opv,lns];refine vc6 hM ?_;simp only[go_sem,ZmP,lns];refine vc3 hC ?_;simp only[go_sem,refs,hc1,hc2,ref,opv,ZS,Yg,Xb];refine vcn hO2 ?_;simp only[go_sem,opb,opv,ZS,Yg,Xb];refine ZB func248 rfl ntmps248 results248 (Zo _) ?_;simp only[go_sem,lns,opv];refine vc3 hR ?_;simp only[go_sem,e1,lns];refine vDq ?_;simp only[go_sem,lns,opv];refine vc3 hG ?_;simp only[go_sem,refs];refine vc3 hI ?_;simp only[go_sem,hi,opv,lns];refine vc6 hM ?_;simp only[go_sem,ZmP,lns];refine vc3 hC ?_;simp only[go_sem,refs,hc1,hc2,ref,opv,ZS,Yg,Xb];refine vcn hO2 ?_;simp only[go_sem,opb,opv,ZS,Yg,Xb];have hne:(Ze ⟨10,at',nm,ot,fac,fd,fo,ba⟩).length≠0:=by unfold Ze;simp
 have hc0:0<(Ze ⟨10,at',nm,ot,fac,fd,fo,ba⟩).length:=by omega
 have hc1:(0:Int)<((Ze ⟨10,at',nm,ot,fac,fd,fo,ba⟩).length:Int):=by omega
 have hc2:(((Ze ⟨10,at',nm,ot,fac,fd,fo,ba⟩).map ref).getD 0 .any)=ref ((Ze ⟨10,at',nm,ot,fac,fd,fo,ba⟩).getD 0 Jd):=Z9 hc0;generalize Ze ⟨10,at',nm,ot,fac,fd,fo,ba⟩=comes at *;have hb:ZQ ⟨10,at',nm,ot,fac,fd,fo,ba⟩ o=(o,decide (o.kind=4)):=by simp[ZQ]
 rw[hb];by_cases kk:o.kind=4;have e3:(o.kind==4)=true:=by simpa using kk
 simp only[kk,decide_true,Ja,if_false];have hO2:=XX (ZS o (comes.getD 0 Jd)) ⟨ho.d⟩;rcases pl with ⟨e1,e2⟩|e1;refine ZB func248 rfl ntmps248 results248 (Zo _) ?_;simp only[go_sem,lns,opv];refine vc3 hR ?_;simp only[go_sem,e1,e2,lns];refine vDq ?_;simp only[go_sem,lns,opv];refine vc3 hG ?_;simp only[go_sem,refs];refine vc3 hI ?_;simp only[go_sem,hi,opv,lns,e3];refine vc3 hC ?_;simp only[go_sem,refs,hc1,hc2,ref,opv,ZS,Yg,Xb];refine vcn hO2 ?_;simp only[go_sem,opb,opv,kk,ZS,Yg,Xb];refine ZB func248 rfl ntmps248 results248 (Zo _) ?_;simp only[go_sem,lns,opv];refine vc3 hR ?_;simp only[go_sem,e1,lns];refine vDq ?_;simp only[go_sem,lns,opv];refine vc3 hG ?_;simp only[go_sem,refs];refine vc3 hI ?_;simp only[go_sem,hi,opv,lns,e3];refine vc3 hC ?_;simp only[go_sem,refs,hc1,hc2,ref,opv,ZS,Yg,Xb];refine vcn hO2 ?_;simp only[go_sem,opb,opv,kk,ZS,Yg,Xb];have e3:(o.kind==4)=false:=by simpa using kk
 simp only[kk,decide_false,if_true];rcases pl with ⟨e1,e2⟩|e1
 ·refine ZB func248 rfl ntmps248 results248 (Zo _) ?_;simp only[go_sem,lns,opv];refine vc3 hR ?_;simp only[go_sem,e1,e2,lns];refine vDq ?_;simp only[go_sem,lns,opv];refine vc3 hG ?_;simp only[go_sem,refs];refine vc3 hI ?_;simp only[go_sem,hi,opv,lns,e3]
  (try simp only[go_sem,opb,Za])
 refine ZB func248 rfl ntmps248 results248 (Zo _) ?_;simp only[go_sem,lns,opv];refine vc3 hR ?_;simp only[go_sem,e1,lns];refine vDq ?_;simp only[go_sem,lns,opv];refine vc3 hG ?_;simp only[go_sem,refs];refine vc3 hI ?_;simp only[go_sem,hi,opv,lns,e3]
 (try simp only[go_sem,opb,Za])
open Go.PL
theorem Zil {e:Eg} {w:List Eg} {fs gs:List Fd} (h:XQ (e::w) fs=some gs):∃f1,Yb fs e.ln=(f1,0)/\XQ w f1=some gs:=by
 simp only[XQ]at h;split at h;cases h;rename_i hz;exact⟨(Yb fs e.ln).1,Prod.ext rfl (JG.1 hz),h⟩
theorem FW:∀(w:List Eg) {fs gs:List Fd},(∀e∈w,e.ln.kind<=8)->Z7 fs=Ht->XQ w fs=some gs->Z7 gs=Ht
 | [],fs,gs,_,hr,h=>by cases h;exact hr
 |e::w,fs,gs,hk,hr,h=>by
  obtain⟨f1,ha,hw⟩:=Zil h;exact FW w (λx hx=>hk x (by simp[hx])) (FH (ZjC (hk e (by simp)) ha)).1 hw
theorem ZiO:Z7 Tc=true:=by decide
theorem ZjY {e:Eg} (h:SS e=Ht):e.ln.kind<=8:=by
 simp only[SS,Jm,decide_eq_true_eq]at h;exact h.2.2.2.1
theorem Zo6 {p q:List Eg} {k:Nat} (hp:k<=p.length) (hq:k<=q.length) (h:p.take k=q.take k):k<=lcp p q:=by
 by_cases hk:k<=lcp p q;exact hk;exfalso;apply ZcT p q (by omega) (by omega);have e:(p.take k).getD (lcp p q) Jd=(q.take k).getD (lcp p q) Jd:=by rw[h]
 rw[getD_lt (by simp;omega),getD_lt (by simp;omega)]at e;rw[getD_lt (by omega),getD_lt (by omega)];simpa using e
theorem Zkq (p q:List Eg):Tv p q=Tv q p:=by unfold Tv;rw[Zha,ZcS p q]
theorem ZkC {l:List Tg}:l.reverse.Nodup↔l.Nodup:=by
 unfold List.Nodup;rw[List.pairwise_reverse];constructor<;>exact λh=>h.imp (λh=>h.symm)
theorem Zp6 {m:List Eg} (ha:Apart m) {w:List Eg} (hw:∀e∈w,e∈m) (hn:w.Nodup):(w.map (·.id)).Nodup:=by
 induction w with
 |nil=>simp
 |cons e w ih=>
  rw[Jl,JB];rw[JB]at hn;refine⟨λhx0=> ?_,ih (λx hx=>hw x (by simp[hx])) hn.2⟩;obtain⟨x,hx,he⟩:=Je.1 hx0;have:=ha.inj (hw x (by simp[hx])) (hw e (by simp)) he;subst this;exact hn.1 hx
theorem Ze3 {m:List Eg} (ha:Apart m) {w:List Eg} (hw:∀e∈w,e∈m) (hn:w.Nodup):(upL w).Nodup:=by
 unfold upL;rw[List.nodup_append];refine⟨?_,by simp,?_⟩;rw[List.map_reverse,ZkC];exact Zp6 ha hw hn;intro x hx y hy e;obtain⟨z,hz,rfl⟩:=Je.1 hx;rw[List.mem_singleton.1 hy]at e;exact ha.n z (hw z (JA.1 hz)) e
theorem Zgp {m:List Eg} (ha:Apart m) {a b:Tg} {p q:List Eg} (hp:Way m a p) (hq:Way m b q) {e1 e2:Eg} (h1:e1∈p.drop (lcp p q)) (h2:e2∈q.drop (lcp p q)):e1.id≠e2.id:=by
 intro e;obtain⟨i,hi,rfl⟩:=Jr h1;obtain⟨j,hj,rfl⟩:=Jr h2;simp only[Jz]at hi hj;rw[Jw,Jw]at e;have w1:=hp.take (lcp p q+i) (by omega);have w2:=hq.take (lcp p q+j) (by omega);rw[e]at w1;have w3:=w1.fn w2;have hl:=congrArg List.length w3;simp only[List.length_take]at hl;have hij:i=j:=by omega
 subst hij;have:=Zo6 (by omega) (by omega) w3;omega
open Go.PL
def Zo5:List Ln->Rf->Bool
 | [],r=>Ht
 |x::xs,r=>if ZsY x r=Hf then Hf else if(Zon x r).2=Hf then Hf else Zo5 xs (Zon x r).1
structure TrS (row:List Ln) (f:List Ln->Rf->Rf×Bool) (r0:Rf) where
 k:Nat
 r:Rf
 hk:k<=row.length
 h:f (row.drop k) r=f row r0
structure KpS (row:List Ln) (r0:Rf) where
 k:Nat
 r:Rf
 hk:k<=row.length
 h:Zo5 (row.drop k) r=Zo5 row r0
theorem Zoj {m:List Eg} {a b:Tg} (hm:OkM m):(Zb6 m a b).1.length<=1000/\ ∀x∈(Zb6 m a b).1,OkLn x:=by
 unfold Zb6;split;simp;rename_i h;have hl:=ZcV m a b hm;unfold Zc3 at hl;rw[if_neg h]at hl;refine⟨by simp only at hl;simp[SC];omega,λx hx=> ?_⟩;obtain⟨y,_,rfl⟩:=Je.1 hx;exact ZqU hm y
open Go.PL
structure Pair (l m:List Fd) (x y:Ln):Prop where
 a:Yb l x=(m,0)
 b:Yb m y=(l,0)
 g:ZE y=Ze x
 c:Ze y=ZE x
theorem Pair.back {l m:List Fd} {x y:Ln} (h:Pair l m x y):Pair m l y x:=⟨h.b,h.a,h.c.symm,h.g.symm⟩
theorem Pair.right {l m:List Fd} {x y:Ln} (h:Pair l m x y):ZG x=true:=(FH h.a).2.1
inductive Pairs:List Fd->List Fd->List Ln->List Ln->Prop
 |nil (l:List Fd):Pairs l l [] []
 |cons {l m n:List Fd} {x y:Ln} {xs ys:List Ln} (h:Pair l m x y) (hs:Pairs m n xs ys):Pairs l n (x::xs) (ys++ [y])
theorem Pairs.append {l m n:List Fd} {xs ys us vs:List Ln} (h1:Pairs l m xs ys) (h2:Pairs m n us vs):Pairs l n (xs++us) (vs++ys):=by
 induction h1 with
 |nil=>simpa using h2
 |cons h hs ih=>rw[<-List.append_assoc];exact .cons h (ih h2)
theorem Pairs.back {l m:List Fd} {xs ys:List Ln} (h:Pairs l m xs ys):Pairs m l ys xs:=by
 induction h with
 |nil=>exact .nil _
 |cons h hs ih=>exact ih.append (.cons h.back (.nil _))
open Go.PL Go.PL.Srt
def Yu (a b:Opn):Bool:=if a.time=b.time then Ye a.id b.id else decide (a.time<b.time)
theorem Zbg (a b:Opn):Pp 153 [opv a,opv b] (.bool (Yu a b)):=by
 have hT:=Zbr a.id b.id;unfold Yu;by_cases h:a.time=b.time;have e:(a.time !=b.time)=false:=by simpa using h
 rw[if_pos h];refine ZM func153 rfl ntmps153 results153 ?_;simp only[go_sem,opv,e];refine vc3 hT ?_;simp only[go_sem];have e:(a.time !=b.time)=true:=by simpa using h
 rw[if_neg h];refine ZM func153 rfl ntmps153 results153 ?_;simp only[go_sem,opv,e]
def Zm9 (a b:Opn):Int:=if Yu a b=Ht then-1 else if Yu b a=Ht then 1 else 0
theorem Zfm (a b:Opn):Pp 119 [opv a,opv b] (.int .i64 (Zm9 a b)):=by
 have h1:=Zbg a b;have h2:=Zbg b a;unfold Zm9;cases e1:Yu a b
 ·cases e2:Yu b a;all_goals
   rw[e1]at h1;rw[e2]at h2;refine ZM func119 rfl ntmps119 results119 ?_;simp only[go_sem,opv];refine vc6 h1 ?_;simp only[go_sem];refine vc6 h2 ?_;simp only[go_sem]
 rw[e1]at h1;refine ZM func119 rfl ntmps119 results119 ?_;simp only[go_sem,opv];refine vc6 h1 ?_;simp only[go_sem]
theorem UO (a b:Tg):Ye a b=Ht↔a.r<b.r\/(a.r=b.r/\a.n<b.n):=by
 unfold Ye;split;rename_i h;rw[decide_eq_true_eq];exact⟨λk=> .inr ⟨h,k⟩,λk=>by rcases k with k|k;exact absurd h (by omega);exact k.2⟩;rename_i h;rw[decide_eq_true_eq];exact⟨.inl,λk=>by rcases k with k|k;exact k;exact absurd k.1 h⟩
theorem Zi0 {a b:Tg} (h:Ye a b=Ht):Ye b a=false:=by
 rw[Jv,ne_eq,UO];rw[UO]at h;omega
theorem Zgs {a b c:Tg} (h1:Ye a b=Ht) (h2:Ye b c=Ht):Ye a c=true:=by
 rw[UO]at *;omega
theorem Zlo {a b:Tg} (h:a≠b):Ye a b=Ht\/Ye b a=true:=by
 rw[UO,UO];by_cases e:a.r=b.r;have hn:a.n≠b.n:=λen=>h (by cases a;cases b;simp only at e en;subst e en;rfl)
 omega;omega
theorem oless_good:Srt.Good Yu where
 asym a b h:=by
  unfold Yu at *
  by_cases e:a.time=b.time
  ·rw[if_pos e]at h;rw[if_pos e.symm];exact Zi0 h
  ·rw[if_neg e]at h;rw[if_neg (λx=>e x.symm)];simp at h ⊢;omega
 trans a b c h1 h2:=by
  unfold Yu at *
  by_cases p:a.time=b.time
  ·rw[if_pos p]at h1
   by_cases q:b.time=c.time
   ·rw[if_pos q]at h2;rw[if_pos (p.trans q)];exact Zgs h1 h2
   ·rw[if_neg q]at h2;rw[if_neg (λx=>q (p.symm.trans x))];simp at h2 ⊢;omega
  ·rw[if_neg p]at h1
   by_cases q:b.time=c.time
   ·rw[if_pos q]at h2;rw[if_neg (λx=>p (x.trans q.symm))];simp at h1 ⊢;omega
   ·rw[if_neg q]at h2;simp at h1 h2;rw[if_neg (by omega)];simp;omega
theorem ZkK {a b:Opn} (h:a.id≠b.id):Yu a b=Ht\/Yu b a=true:=by
 unfold Yu;by_cases e:a.time=b.time;rw[if_pos e,if_pos e.symm];exact Zlo h;rw[if_neg e,if_neg (λx=>e x.symm)];simp;omega
theorem ops_sort:SortK opv 119 Yu Zm9 where
 len _:=rfl
 atom a:=rfl
 ids a:=by simp[opv,JF,PV.idsL]
 known _:=rfl
 give a m:=by simp[opv,PV.give,Ju]
 givable a m:=by simp[opv,PV.givable,Jk]
 part a:=rfl
 cmp:=Zfm
 cv a b:=by
  unfold Zm9;cases h1:Yu a b
  ·cases h2:Yu b a<;>simp
  ·simp
 good:=oless_good
def Zr (l:List Opn):PV:= .sl .no (l.map opv)
theorem vc7 {x:Bool} {M:KH} {g:FuncId} {args args':List PV} {K:KR} {r:PV} (h1:Pp g args' r) (h2:K.k r M.m) (h0:Jk M.m args:=by first|(simp only[go_sem,ref,ent,DK,doc,Y3,row,Zh,fld,lns,tg,refs,prs,pr,eg,egs,tgs,lg,lgs,Zk,opv,tr,Zr];done)|exact rfl) (he:Ju M.m args=args':=by first|(simp only[go_sem,ref,ent,DK,doc,Y3,row,Zh,fld,lns,tg,refs,prs,pr,eg,egs,tgs,lg,lgs,Zk,opv,tr,Zr];done)|exact rfl):@WX prog x M (some (g,args)) K:=Zl h1 h0 he h2
theorem Xr (l:List Opn):Sized 15 (l.map opv):=λe he=>by
 obtain⟨o,_,rfl⟩:=Je.1 he;rfl
theorem Vq (l:List Opn):Vo (l.map opv):=λe he=>by
 obtain⟨o,_,rfl⟩:=Je.1 he;rfl
theorem Zmw (l:List Opn):Jh (l.map opv)= []:=by
 induction l with
 |nil=>rfl
 |cons o l ih=>simp only[Jl,Jh,Sk,ih,Jf]
theorem TS (l:List Opn):(Zr l).dids= []:=by simp only[Zr,Jq,Zmw]
theorem ZZ {l:List Opn} {k:Nat} (h:k<l.length):(l.map opv).getD k .any=opv (l.getD k Jd):=Vr h
theorem WP (o:Opn):(opv o).ids= []:=ops_sort.ids o
theorem Ge (o:Opn) (ho:OkOp o):Pp 59 [opv o] (opv o):=by
 have hr:=YX ho.d (show 16<=1000 by omega);refine ZB func59 rfl ntmps59 results59 (Sk _) ?_;simp only[go_sem,opv,W5,Gp,hr]
def U3 (l:List Opn) (most:Int):Bool:=decide (most<(l.length:Int))||l.any SB
theorem ZaW (l:List Opn) (most:Int) (hl:l.length<=maxLen):Pp 8 [Zr l,.int .i64 most] (.bool (U3 l most)):=by
 by_cases hm:most<(l.length:Int);refine ZM func8 rfl ntmps8 results8 ?_;simp only[go_sem,Zr,hm,U3];have hz:U3 l most=l.any SB:=by simp only[U3,hm,decide_false,Bool.false_or]
 rw[hz];refine ZM func8 rfl ntmps8 results8 ?_;simp only[go_sem,Zr,hm];refine ZA (ι:= { x:Nat // x<=(l).length/\(∀j,j<x->SB (l.getD j Jd)=Hf) }) 21 (λx=> [(0,Zr l),(5,.int .i64 (x.1:Int))]) (λx=> []) (λx=> []) (λx=>(l).length-x.1) ⟨0,Jo _,λj hj=>absurd hj (Nat.not_lt_zero j)⟩ ⟨rfl,(Fc2 rfl rfl),fnl,fnl⟩ (λx=>⟨(Fc2 rfl rfl),fnl⟩) (λx=> ?_);obtain⟨k,hk,hI⟩:=x;simp only at hk hI ⊢;by_cases h:(k:Int)<(l.length:Int)
 (have hka:k<(l).length:=by omega);(have w1:=WD hka (hl));(have i1:=Ji k)
 have hF:=ZdI (l.getD k Jd);cases hf:SB (l.getD k Jd)
 ·rw[hf]at hF;simp only[go_sem,Zr,h,ZZ hka,opv,i1];refine vc6 hF ?_;simp only[go_sem,w1];exact⟨⟨k+1,by(try simp only);omega,Zu hI hf⟩,by show(l).length-(k+1)<(l).length-k;omega,⟨rfl,(Fc2 rfl rfl),fnl,fnl⟩⟩
 rw[hf]at hF;have hz:=UY (p:=SB) hka hf;simp only[go_sem,Zr,h,ZZ hka,opv,i1];refine vc6 hF ?_;simp only[go_sem,hz];have hz:=Ux (p:=SB) (d:=Jd) (l:=l) (λj hj=>hI j (by omega));simp only[go_sem,Zr,h,hz]
theorem Zs2 {l:List Opn} {most:Nat} (h:U3 l (most:Int)=Hf):l.length<=most/\ ∀o∈l,OkOp o:=by
 simp only[U3,Jg,decide_eq_false_iff_not,Jt]at h;refine⟨by omega,λo ho=>⟨?_⟩⟩;have:=h.2 o ho;simp only[SB,Bool.not_eq_true,Jg,decide_eq_false_iff_not]at this;omega
def apartB (l:List Opn):Bool:=decide (l.map Opn.id).Nodup
open Go.PL
open Go.Shelf Go.RowKit Go.Lib Go.Sort
open Go.PL
open Go.PL
structure Cg where
 kind:Int
 item:Str
 was:En
 now:En
 l:List En
deriving DecidableEq,Inhabited
def chg (c:Cg):PV:= .agg [.int .i64 c.kind,.str c.item,.int .i64 c.was.at'.sc,.str c.was.at'.gr,.str c.was.at'.nm,.int .i64 c.was.n,.sl .no (c.was.l.map .str),.int .i64 c.now.at'.sc,.str c.now.at'.gr,.str c.now.at'.nm,.int .i64 c.now.n,.sl .no (c.now.l.map .str),.sl .no (c.l.map ent)]
def Zsl (l:List Cg):PV:= .sl .no (l.map chg)
theorem vc8 {x:Bool} {M:KH} {g:FuncId} {args args':List PV} {K:KR} {r:PV} (h1:Pp g args' r) (h2:K.k r M.m) (h0:Jk M.m args:=by first|(simp only[go_sem,ref,ent,DK,doc,Y3,row,Zh,fld,lns,tg,refs,prs,pr,eg,egs,tgs,lg,lgs,Zk,opv,tr,chg,Zsl];done)|exact rfl) (he:Ju M.m args=args':=by first|(simp only[go_sem,ref,ent,DK,doc,Y3,row,Zh,fld,lns,tg,refs,prs,pr,eg,egs,tgs,lg,lgs,Zk,opv,tr,chg,Zsl];done)|exact rfl):@WX prog x M (some (g,args)) K:=Zl h1 h0 he h2
structure FineC (c:Cg):Prop where
 w:c.was.l.length<=maxLen
 n:c.now.l.length<=maxLen
 l:c.l.length<=maxLen
 e:∀e∈c.l,e.l.length<=maxLen
open Go.PL
end Go.Proofs.YtepchngegclagaaGreat
