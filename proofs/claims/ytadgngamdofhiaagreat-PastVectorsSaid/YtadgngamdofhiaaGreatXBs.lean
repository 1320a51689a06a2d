/- Lemmas of the proof. -/
import Derived.Test.YtadgngamdofhiaaGreatPlH
import Derived.Test.YtadgngamdofhiaaGreatXAa
import Derived.Test.YtadgngamdofhiaaGreatXAe
import Derived.Test.YtadgngamdofhiaaGreatXAi
import Derived.Test.YtadgngamdofhiaaGreatXAz
import Derived.Test.YtadgngamdofhiaaGreatXBc
open Inhabited renaming default→Jd
open Go.Proofs.Tryz
open Go Go.PL
open _root_.Array renaming getElem?_eq_some_iff→Jq,getElem?_modify→Jy
open BelowF renaming refl→JS
open Bool renaming true_eq_false→Ja,or_eq_false_iff→Jl,and_eq_true→Jt,false_eq_true→JF,eq_false_iff→JH
open Classical renaming not_not→JT
open Decidable renaming byContradiction→JO
open Int renaming reduceEq→Jb,natCast_nonneg→Jg
open List renaming getD_cons_zero→Jc,mem_map→Je,append_nil→Jf,mem_of_mem_drop→Jh,length_map→Ji,map_cons→Jk,map_append→Jm,nodup_iff_pairwise_ne→Jp,pairwise_iff_getElem→Jr,mem_reverse→Js,length_eq_zero_iff→Ju,take_append_drop→Jw,length_filter_le→Jz,map_congr_left→JC,getElem_of_mem→JD,length_append→JE,any_eq_false→JG,getElem_drop→JI,length_drop→JJ,length_take→JK,getElem_map→JL,nodup_cons→JM,map_map→JP
open Nat renaming zero_le→Jj,not_lt_zero→Jn,add_zero→JQ,mul_one→JR
open PV renaming didsL→Jo,givableL→JA,dids→JB,giveL→JN,ids→JU
open Prod renaming mk→Jv
namespace Go.Proofs.YtadgngamdofhiaaGreat
set_option maxHeartbeats 64000000
set_option maxRecDepth 20000
set_option linter.unusedVariables false
set_option linter.unusedSimpArgs false
open Go.PL
def awX:Ln:=⟨1,⟨1,[],[110,111,116,101]⟩,[109,101,109,111],[],0,Jd,[],[]⟩
def awA:Eg:=⟨⟨1,1⟩,Jd,awX⟩
theorem ZxP:OkLn awX:=⟨by decide,by decide,by decide⟩
theorem ZxR:ZdY [] awA=([awA],0):=by decide+kernel
theorem okA:OkM [awA]:=by have:=Zq7 SR (e:=awA) ZxP;rw[ZxR]at this;exact this
theorem Zdn (m:List Eg) (a b:Tg) (hm:OkM m):(Zdx m a b).1.length<=80:=by
 unfold Zdx;split;simp;rename_i h;have h:=WS.1 (by simpa using h);have w1:=(YN h.1).1.len;have w2:=(YN h.2).1.len;have:=hm.n;simp only[D4,JE,Ji,List.length_reverse,JJ];omega
theorem okL {l:List Eg} (h:Zaa l 50=false):l.length<=50/\ ∀e∈l,OkLn e.ln:=by
 simp only[Zaa,Jl,decide_eq_false_iff_not,JG]at h;exact⟨by omega,λe he=>Zmq (by simpa using h.2 e he)⟩
open Go.PL
theorem Znl (u v:List Eg):upL (u++v)=v.reverse.map (·.id)++upL u:=by simp[upL]
def Tk (p q:List Eg):Tg:=(upL (p.take (lcp p q))).getD 0 Jd
theorem ZiK (p q:List Eg):(upL p).getD (p.length-lcp p q) Jd=Tk p q:=by
 have h:=Znl (p.take (lcp p q)) (p.drop (lcp p q));rw[Jw]at h;have hl:((p.drop (lcp p q)).reverse.map (·.id)).length=p.length-lcp p q:=by simp
 rw[h,Zj (by omega),hl,Nat.sub_self];rfl
def Zq2 (m:List Eg) (a b:Tg):Tg×Int:=if Wd m a b≠0 then(Jd,Wd m a b)else(Tk (WH m a) (WH m b),0)
def tgc (x:Tg×Int):PV:= .tup [tg x.1,.int .i64 x.2]
theorem Fq (x:Tg×Int):(tgc x).dids= []:=by simp only[tgc,JB,Jo,Znb,Jf]
theorem Sq:tg Jd= .agg [.int .i64 0,.int .i64 0]:=rfl
open Go.PL
theorem Zl4 {m:List Eg} {a b:Tg} (h:Wd m a b=0) (ha:Apart m):∀x∈D4 (WH m a) (WH m b),∃e,e∈m/\Xs m x.id=some e/\x.id=e.id:=by
 obtain⟨h1,h2⟩:=WS.1 h;obtain⟨wa,_,_⟩:=YN h1;obtain⟨wb,_,_⟩:=YN h2;intro x hx;have key:∀e∈m,∃e',e'∈m/\Xs m e.id=some e'/\e.id=e'.id:=λe he=>⟨e,he,ha.find he,rfl⟩
 unfold D4 at hx;rcases List.mem_append.1 hx with hx|hx;obtain⟨e,he,rfl⟩:=Je.1 hx;exact key e (wa.mem e (Jh (Js.1 he)));obtain⟨e,he,rfl⟩:=Je.1 hx;exact key e (wb.mem e (Jh he))
def Uy (m:List Eg) (l:List Lg):List Ln:=l.map λx=>(Zag m x).1
def DV (m:List Eg) (a b:Tg):List Ln×Int:=if Wd m a b≠0 then([],Wd m a b)else(Uy m (D4 (WH m a) (WH m b)),0)
def Gz (l:List Ln):PV:= .sl .no (l.map lns)
def Zim (x:List Ln×Int):PV:= .tup [Gz x.1,.int .i64 x.2]
theorem Zl6 (l:List Ln):(Gz l).dids= []:=by
 unfold Gz;simp only[JB];induction l with
 |nil=>rfl
 |cons e l ih=>simp only[Jk,Jo,ih,Fk,Jf]
theorem Gy (x:List Ln×Int):(Zim x).dids= []:=by simp only[Zim,JB,Jo,Zl6,Jf]
theorem ZiC (l:List Ln):Sized 16 (l.map lns):=λe he=>by
 obtain⟨x,_,rfl⟩:=Je.1 he;rfl
theorem Zdd {l:List Ln} {i:Nat} (h:i<l.length):(l.map lns).getD i .any=lns (l.getD i Jd):=XE h
theorem ZnZ (m:List Eg) (a b:Tg) (hm:OkM m) (hr:RightM m):Pp 204 [tr (Zd m),tg a,tg b] (Zim (DV m a b)):=by
 have hP:=ZkO m a b hm;have hll:=Zdn m a b hm;unfold DV;unfold Zdx at hP hll;by_cases hc:Wd m a b=0
 ·have hin:=Zl4 hc hm.a;simp only[hc,ne_eq,not_true_eq_false,if_false]at hP hll ⊢;generalize D4 (WH m a) (WH m b)=legs at *;have hlm:legs.length<=maxLen:=by rw[Zb];omega
  refine ZA func204 rfl ntmps204 results204 (Gy _) ?_;simp only[go_sem,tr,tg];refine vc5 hP ?_;simp only[go_sem,D5,lgs];repeat((with_reducible refine And.intro ?_ ?_);(focus((repeat' (with_reducible apply And.intro))<;>(first|omega|exact Yr (by omega) (by omega)|exact Yr (by simp;omega) (by omega)|exact Z6 _|(simp;done)|(simp;omega)))))
  refine ZL 10 27 46 0 16 76 [] rfl rfl rfl ?_;refine Zt (ι:= { x:Nat // x<=(legs).length }) 49 (λx=> [(0,tr (Zd m)),(10,.sl (.row 46) ((Uy m (legs.take x.1)).map lns)),(28,lgs legs),(29,.int .i64 (legs.length:Int)),(30,.int .i64 (x.1:Int))]) (λx=> []) (λx=> [(46,.live (x.1) (16) (76))]) (λx=>(legs).length-x.1) ⟨0,Jj _⟩ ⟨rfl,(Fc5 rfl rfl rfl rfl rfl),fnl,(fcs rfl fnl)⟩ (λx=>⟨(Fc5 rfl (by simp[JU,ZG]) rfl rfl rfl),fnl⟩) (λx=> ?_);obtain⟨k,hk⟩:=x;simp only at hk ⊢;by_cases h:(k:Int)<(legs.length:Int)
  ·(have hka:k<(legs).length:=by omega);(have w1:=Xb hka (hlm));(have i1:=Jg k)
   obtain⟨e,he,hfe,_⟩:=hin _ (Ze (d:=Jd) hka);have hL:=Zjn m (legs.getD k Jd) hm hr;have hz:(Zag m (legs.getD k Jd)).2=0:=by unfold Zag;rw[hfe];simp only;split<;>rfl
   have hts:legs.take (k+1)=legs.take k++ [legs.getD k Jd]:=by rw[List.take_add_one,getD_lt hka];simp[hka]
   have hkl:(Uy m (legs.take k)).length=k:=by simp[Uy];omega
   have hrm:=Yb (show k+1<=1000000 by omega) (show 232<=1000 by omega);simp only[go_sem,tr,h,lgs,ZlJ hka,lg,i1];refine vc5 hL ?_;simp only[go_sem,lnc,hz,lns,ZiC,hkl,hrm,w1];exact⟨⟨k+1,by(try simp only);omega⟩,by show(legs).length-(k+1)<(legs).length-k;omega,⟨rfl,(Fc5 rfl (by(show PV.sl _ _=PV.sl _ _;simp[hts,Uy,lns])) rfl rfl rfl),fnl,(fcs rfl fnl)⟩⟩
  obtain rfl:k=legs.length:=by omega
  have htk:legs.take legs.length=legs:=List.take_length;simp only[go_sem,h,htk,Zim,Gz]
 have hc':(Wd m a b !=0)=true:=by simpa using hc
 simp only[ne_eq,hc,not_false_eq_true,if_true]at hP ⊢;refine ZA func204 rfl ntmps204 results204 (Gy _) ?_;simp only[go_sem,tr,tg];refine vc5 hP ?_;simp only[go_sem,D5,lgs,hc',Zim,Gz]
open Go.PL
theorem ZmL {x:Ln} (h:ZE x=true) (hk:x.kind=1\/x.kind=2\/x.kind=3\/x.kind=4\/x.kind=5\/x.kind=6\/x.kind=7\/x.kind=8\/x.kind=9\/x.kind=10):ZE (Fj x)=true:=by
 obtain⟨kind,⟨sc,gr,n0⟩,nm,ot,fac,fd,fo,ba⟩:=x;simp only at hk;rcases hk with rfl|rfl|rfl|rfl|rfl|rfl|rfl|rfl|rfl|rfl
 all_goals
  simp[ZE,Fj,XS,SX]at h ⊢
  (try(simp_all;done))
  (try(obtain⟨h1,h2⟩:=h;simp_all;done))
 obtain⟨⟨⟨g1,g2,g3⟩,g4⟩,g5,g6,g7,g8,g9⟩:=h;exact⟨⟨⟨g1,g2,.inr g9⟩,g4⟩,g5,g6,g7,λe=>by subst e;exact absurd g9 (by decide)⟩
theorem ZlA (f:Fd) (r:Rf) (h:f.at'=r):(⟨r,f.kind,f.df,f.cases',f.worth⟩:Fd)=f:=by subst h;rfl
theorem Zs1 {f:Fd} (h:ZY f=true) (hk:f.kind=1):f=⟨f.at',1,[],[],f.worth⟩:=by
 obtain⟨a,k,d,c,w⟩:=f;simp only at hk;subst hk;simp[ZY]at h;simp_all
theorem Zs2 {f:Fd} (h:ZY f=true) (hk:f.kind=2):f=⟨f.at',2,f.df,[],0⟩:=by
 obtain⟨a,k,d,c,w⟩:=f;simp only at hk;subst hk;simp[ZY,Zkm]at h;simp_all
theorem Zer {l m:List Fd} {x:Ln} (hk:x.kind<=8) (h:ZT l x=(m,0)):ZT m (Fj x)=(l,0):=by
 obtain⟨hl,hx,cs,l1,h1,h2,h3⟩:=Gi h;have hkind:x.kind=1\/x.kind=2\/x.kind=3\/x.kind=4\/x.kind=5\/x.kind=6\/x.kind=7\/x.kind=8:=by
  have:=(Y9 hx).1;omega
 have hy:=ZmL hx (by omega);obtain⟨r1,r2,r3⟩:=Ya.1 hl;obtain⟨a1,a2,a3,a4,a5⟩:=F7 hl h2;obtain⟨b1,b2,b3,b4,b5⟩:=T4 a1 h3;have hm:=(Ya.1 b1).2.1;have find1:∀ {r:Rf},(ZJ l r).2=0->(ZJ l r).1∈l/\(ZJ l r).1.at'=r:=λh=>W4 h
 obtain⟨kind,⟨sc,gr,n0⟩,nm,ot,fac,fd,fo,ba⟩:=x;simp only at hkind;rcases hkind with rfl|rfl|rfl|rfl|rfl|rfl|rfl|rfl
 -- rename
 simp only[Vn,Zc,Zh,Jb,if_false,if_true,Jc]at h1;split at h1;cases h1;rename_i hz;simp only[Jv.injEq,and_true]at h1;obtain⟨f1,f2⟩:=find1 (by simpa using hz);generalize (ZJ l ⟨sc,gr,n0⟩).1=f at *;subst h1;refine TB hl h2 h3 hy (gs:= [f]) rfl ?_ (by simpa using f1) (by simp[Zy,f2]);have hc:=Xf hm ((b2 ⟨⟨sc,gr,nm⟩,f.kind,f.df,f.cases',f.worth⟩).2 (.inr (by simp)));simp only[Vn,Fj,Zc,Zh,Jb,if_false,if_true,Jc,hc,ne_eq,not_true_eq_false];rw[ZlA f _ f2]
 -- add
 simp only[Vn,Jb,if_true,Jv.injEq,and_true]at h1;subst h1;have hc:=Xf hm ((b2 fd).2 (.inr (by simp)));refine TB hl h2 h3 hy (gs:= []) rfl ?_ (by simp) rfl;simp[Vn,Fj,hc]
 -- remove
 simp only[Vn,Jb,if_false,if_true,Jv.injEq,Jt,decide_eq_true_eq]at h1;obtain⟨rfl,h4,h5⟩:=h1;obtain⟨f1,f2⟩:=find1 h4;rw[h5]at f1;exact TB hl h2 h3 hy (gs:= [fd]) rfl (by simp[Vn,Fj]) (by simpa using f1) rfl
 -- hoist
 simp only[Vn,Zc,Jb,if_false,if_true,Jc]at h1;split at h1;cases h1;rename_i hz;simp only[Jv.injEq,and_true]at h1;obtain⟨f1,f2⟩:=find1 (by simpa using hz);generalize (ZJ l ⟨sc,gr,n0⟩).1=f at *;subst h1;refine TB hl h2 h3 hy (gs:= [f]) rfl ?_ (by simpa using f1) (by simp[Zy,f2]);have hc:=Xf hm ((b2 ⟨⟨sc,[],n0⟩,f.kind,f.df,f.cases',f.worth⟩).2 (.inr (by simp)));simp only[Vn,Fj,Zc,Zh,Jb,if_false,if_true,Jc,hc,ne_eq,not_true_eq_false];rw[ZlA f _ f2]
 -- plunge
 have hg:gr= []:=by simp[ZE]at hx;exact hx.2.2.2.2.1
 subst hg;simp only[Vn,Zc,Jb,if_false,if_true,Jc]at h1;split at h1;cases h1;rename_i hz;simp only[Jv.injEq,and_true]at h1;obtain⟨f1,f2⟩:=find1 (by simpa using hz);generalize (ZJ l ⟨sc,[],n0⟩).1=f at *;subst h1;refine TB hl h2 h3 hy (gs:= [f]) rfl ?_ (by simpa using f1) (by simp[Zy,f2]);have hc:=Xf hm ((b2 ⟨⟨sc,nm,n0⟩,f.kind,f.df,f.cases',f.worth⟩).2 (.inr (by simp)));simp only[Vn,Fj,Zc,Zh,Jb,if_false,if_true,Jc,hc,ne_eq,not_true_eq_false];rw[ZlA f _ f2]
 -- split
 simp only[Vn,Zh,Jb,if_false,if_true]at h1;split at h1;cases h1;rename_i hz;simp only[Jv.injEq,decide_eq_true_eq]at h1;obtain⟨h1,h4⟩:=h1;obtain⟨f1,f2⟩:=find1 (by simpa using hz);generalize (ZJ l ⟨sc,gr,n0⟩).1=f at *;subst h1;have hf:=Zs1 (r3 f f1) h4;rw[f2]at hf;refine TB hl h2 h3 hy (gs:= [f]) rfl ?_ (by simpa using f1) (by simp[Zy,f2]);have hc:=Xf hm ((b2 ⟨⟨sc,gr,nm⟩,1,[],[],f.worth⟩).2 (.inr (by simp)));have hd:=Xf hm ((b2 ⟨⟨sc,gr,ot⟩,1,[],[],IntKind.i64.wrap (f.worth*fac)⟩).2 (.inr (by simp)));simp only[Vn,U2,Fj,Zh,Jb,if_false,if_true,hc,hd,ne_eq,not_true_eq_false,or_self];rw[<-hf]
 -- wrap
 simp only[Vn,Jb,if_false,if_true]at h1;split at h1;cases h1;rename_i hz;simp only[Jv.injEq,Jt,decide_eq_true_eq]at h1;obtain⟨h1,h4,h5⟩:=h1;obtain⟨f1,f2⟩:=find1 (by simpa using hz);generalize (ZJ l ⟨sc,gr,n0⟩).1=f at *;subst h1;have hf:=Zs2 (r3 f f1) h4;rw[f2,h5]at hf;refine TB hl h2 h3 hy (gs:= [f]) rfl ?_ (by simpa using f1) (by simp[Zy,f2]);have hc:=Xf hm ((b2 ⟨⟨sc,gr,n0⟩,4,[],[],0⟩).2 (.inr (by simp)));simp only[Vn,Fj,Jb,if_false,if_true,hc,ne_eq,not_true_eq_false,decide_true];rw[<-hf]
 -- convert
 simp only[Vn,Jb,if_false,if_true]at h1;split at h1;cases h1;rename_i hz;simp only[Jv.injEq,decide_eq_true_eq]at h1;obtain⟨h1,h4⟩:=h1;obtain⟨f1,f2⟩:=find1 (by simpa using hz);generalize (ZJ l ⟨sc,gr,n0⟩).1=f at *;subst h1;refine TB hl h2 h3 hy (gs:= [f]) rfl ?_ (by simpa using f1) (by simp[Zy,f2]);have hc:=Xf hm ((b2 ⟨⟨sc,gr,n0⟩,3,ot,Yn ba,0⟩).2 (.inr (by simp)));simp only[Vn,Fj,Jb,if_false,if_true,hc,ne_eq,not_true_eq_false,decide_true];rw[h4]
open Go.PL
def VP (w:Int):Int:=(4503599627370496:Int).tdiv w
theorem Zak {w:Int} (h:1<=w):0<=VP w/\VP w<=4503599627370496/\VP w*w<=4503599627370496/\4503599627370496<(VP w+1)*w:=by
 unfold VP;have e:(4503599627370496:Int).tdiv w=(4503599627370496:Int) / w:=Int.tdiv_eq_ediv_of_nonneg (by omega);rw[e];have h1:(4503599627370496:Int) / w*w<=4503599627370496:=Int.ediv_mul_le _ (by omega);have h2:=Int.lt_ediv_add_one_mul_self 4503599627370496 (show 0<w by omega);have h3:0<=(4503599627370496:Int) / w:=Int.ediv_nonneg (by omega) (by omega);have h4:(4503599627370496:Int) / w<=4503599627370496:=Int.ediv_le_self _ (by omega);exact⟨h3,h4,h1,h2⟩
def Ss (u p f:Int):Int×Int:=
 if ¬(2<=f/\f<=1000)then(0,2)else if p < - VP f\/VP f<p then(0,3)
 else if Y6 (IntKind.i64.wrap (u+IntKind.i64.wrap (f*p)))=true then(IntKind.i64.wrap (u+IntKind.i64.wrap (f*p)),0)else(0,3)
def ZqV (x:Int×Int):PV:= .tup [.int .i64 x.1,.int .i64 x.2]
theorem DD {n:Int} (h: -9223372036854775808<=n/\n<=9223372036854775807):IntKind.i64.wrap n=n:=w64 (by omega)
theorem Zi3 (u p f:Int) (hu:Lim u) (hp:Lim p):Pp 258 [.cpx .f64 (WC u) (WC p),.int .i64 f] (ZqV (Ss u p f)):=by
 have hF:=Fv f;have hP:=TX u p hu hp;have hA:=Zk7 (IntKind.i64.wrap (u+IntKind.i64.wrap (f*p)));unfold Ss;by_cases hf:2<=f/\f<=1000;have e1:(decide (2<=f)&&decide (f<=1000))=true:=by simpa using hf
 rw[e1]at hF;rw[if_neg (λh=>h hf)];have ms:=Zak (w:=f) (by omega);have q1:IntKind.i64.wrap ((4503599627370496:Int).tdiv f)=VP f:=DD (by unfold VP at ms;omega);have q2:IntKind.i64.wrap (0-VP f)= - VP f:=by rw[DD (by omega)];omega
 have fz:f≠0:=by omega
 by_cases c1:p < - VP f;rw[if_pos (.inl c1)];refine ZA func258 rfl ntmps258 results258 (rfl) ?_;simp only[go_sem];refine vc1 hF ?_;simp only[go_sem];refine vc1 hP ?_;simp only[go_sem,q1,q2,fz,c1,ZqV];by_cases c2:VP f<p;rw[if_pos (.inr c2)];refine ZA func258 rfl ntmps258 results258 (rfl) ?_;simp only[go_sem];refine vc1 hF ?_;simp only[go_sem];refine vc1 hP ?_;simp only[go_sem,q1,q2,fz,c1,c2,ZqV];rw[if_neg (by omega)];cases ha:Y6 (IntKind.i64.wrap (u+IntKind.i64.wrap (f*p)));rw[ha]at hA;simp only[JF,if_false];refine ZA func258 rfl ntmps258 results258 (rfl) ?_;simp only[go_sem];refine vc1 hF ?_;simp only[go_sem];refine vc1 hP ?_;simp only[go_sem,q1,q2,fz,c1,c2];refine vc1 hA ?_;simp only[go_sem,ZqV];rw[ha]at hA;simp only[if_true];refine ZA func258 rfl ntmps258 results258 (rfl) ?_;simp only[go_sem];refine vc1 hF ?_;simp only[go_sem];refine vc1 hP ?_;simp only[go_sem,q1,q2,fz,c1,c2];refine vc1 hA ?_;simp only[go_sem,ZqV];have e1:(decide (2<=f)&&decide (f<=1000))=false:=by rw[JH];simpa using hf
 rw[e1]at hF;rw[if_pos hf];refine ZA func258 rfl ntmps258 results258 (rfl) ?_;simp only[go_sem];refine vc1 hF ?_;simp only[go_sem,ZqV]
structure OkOp (o:Opn):Prop where
 d:o.drops.length<=1000000
theorem XU (o:Opn) (ho:OkOp o):Pp 233 [opv o] (opv o):=by
 have hr:=Yb ho.d (show 16<=1000 by omega);refine ZA func233 rfl ntmps233 results233 (GD _) ?_;simp only[go_sem,opv,Sl,ZhW,hr]
def Y2 (o:Opn) (i f:Int):Int×Bool:=if o.kind≠3 then(0,false)else if i=0 then(o.delta,true)else if Y6 o.delta=true then((Ss 0 o.delta f).1,decide ((Ss 0 o.delta f).2=0))else(0,false)
def ZoS (x:Int×Bool):PV:= .tup [.int .i64 x.1,.bool x.2]
theorem ZfI (o:Opn) (i f:Int):Pp 251 [opv o,.int .i64 i,.int .i64 f] (ZoS (Y2 o i f)):=by
 unfold Y2;by_cases k3:o.kind=3;have e3:(o.kind !=3)=false:=by simpa using k3
 rw[if_neg (λh=>h k3)];by_cases i0:i=0;have ei:(i==0)=true:=by simpa using i0
 rw[if_pos i0];refine ZA func251 rfl ntmps251 results251 (rfl) ?_;simp only[go_sem,opv,e3,ei,ZoS];have ei:(i==0)=false:=by simpa using i0
 rw[if_neg i0];have hO:=Zgg 0 o.delta;have f0:Y6 0=true:=by decide
 cases hd:Y6 o.delta;rw[if_neg (by rw[hd];simp)]at hO;simp only[JF,if_false];refine ZA func251 rfl ntmps251 results251 (rfl) ?_;simp only[go_sem,opv,e3,ei];refine vc1 hO ?_;simp only[go_sem,ZoS];rw[if_pos ⟨f0,hd⟩]at hO;have hJ:=Zi3 0 o.delta f (Wm.1 f0) (Wm.1 hd);simp only[if_true];generalize Ss 0 o.delta f=y at *;obtain⟨n,c⟩:=y;have ec:(c==0)=decide (c=0):=by rw[Bool.eq_iff_iff];simp
 refine ZA func251 rfl ntmps251 results251 (rfl) ?_;simp only[go_sem,opv,e3,ei];refine vc1 hO ?_;simp only[go_sem];refine vc1 hJ ?_;simp only[go_sem,ZqV,ec,ZoS];have e3:(o.kind !=3)=true:=by simpa using k3
 rw[if_pos k3];refine ZA func251 rfl ntmps251 results251 (rfl) ?_;simp only[go_sem,opv,e3,ZoS]
def Ut (o:Opn) (fo:List Pr):Str×Bool:=if o.kind≠4 then([],false)else if o.has=false then(o.text,true)else Xr fo o.text
theorem Zkc (o:Opn) (fo:List Pr) (hf:fo.length<=maxLen):Pp 252 [opv o,prs fo] (Za4 (Ut o fo)):=by
 have hC:=S4 fo o.text hf;unfold Ut;obtain⟨id,sch,time,cart,kind,item,at',delta,has,text,drops⟩:=o;simp only at hC ⊢;by_cases k4:kind=4;have e4:(kind !=4)=false:=by simpa using k4
 rw[if_neg (λh=>h k4)];cases has;refine ZA func252 rfl ntmps252 results252 (rfl) ?_;simp only[go_sem,opv,prs,e4,Za4,if_true];simp only[Ja,if_false];generalize Xr fo text=y at *;obtain⟨s,b⟩:=y;refine ZA func252 rfl ntmps252 results252 (rfl) ?_;simp only[go_sem,opv,prs,e4];refine vc3 hC ?_;simp only[go_sem,Za4];have e4:(kind !=4)=true:=by simpa using k4
 rw[if_pos k4];refine ZA func252 rfl ntmps252 results252 (rfl) ?_;simp only[go_sem,opv,prs,e4,Za4]
def ZB (o:Opn) (r:Rf):Opn:=⟨o.id,o.sch,o.time,o.cart,o.kind,o.item,r,o.delta,o.has,o.text,o.drops⟩
def Z7 (o:Opn) (d:Int):Opn:=⟨o.id,o.sch,o.time,o.cart,o.kind,o.item,o.at',d,o.has,o.text,o.drops⟩
def YV (o:Opn) (s:Str):Opn:=⟨o.id,o.sch,o.time,o.cart,o.kind,o.item,o.at',o.delta,o.has,s,o.drops⟩
theorem vcn {x:Bool} {M:KH} {g:FuncId} {args args':List PV} {K:KR} {r:PV} (h1:Pp g args' r) (h2:K.k r M.m) (h0:JA M.m args:=by first|(simp only[go_sem,ref,ent,YG,doc,Yq,row,Zi,fld,lns,tg,refs,prs,pr,eg,egs,tgs,lg,lgs,Zh,opv,tr,ZB,Z7,YV];done)|exact rfl) (he:JN M.m args=args':=by first|(simp only[go_sem,ref,ent,YG,doc,Yq,row,Zi,fld,lns,tg,refs,prs,pr,eg,egs,tgs,lg,lgs,Zh,opv,tr,ZB,Z7,YV];done)|exact rfl):@UJ prog x M (some (g,args)) K:=Yh h1 h0 he h2
def Zp (x:Ln) (o:Opn):Opn×Bool:=
 if x.kind=1\/x.kind=4\/x.kind=5 then(o,true)
 else if x.kind=6 then(o,decide (o.kind=3))
 else if x.kind=9 then(Z7 o (Y2 o (Yw (Zy x) o.at') x.fac).1,(Y2 o (Yw (Zy x) o.at') x.fac).2)
 else if x.kind=7\/x.kind=10 then(o,decide (o.kind=4))
 else if x.kind=8 then(YV o (Ut o x.fo).1,(Ut o x.fo).2)
 else(o,false)
def Wu (x:Ln) (o:Opn):Opn×Bool:=
 if ZE x=false then(Jd,false)else if o.kind≠3/\o.kind≠4 then(o,true)else if Yw (Zy x) o.at'<0 then(o,true)
 else if(Zp x o).2=false then(Jd,false)else(ZB (Zp x o).1 ((Zc x).getD 0 Jd),true)
theorem ZkN (x:Ln) (o:Opn) (hx:OkLn x) (ho:OkOp o):Pp 234 [lns x,opv o] (opb (Wu x o)):=by
 have hR:=WJ x hx;have hO:=XU o ho;unfold Wu;cases hlr:ZE x;rw[hlr]at hR;refine ZA func234 rfl ntmps234 results234 (Zn _) ?_;simp only[go_sem,lns,opv];refine vc3 hR ?_;simp only[go_sem,if_true,opb,Zv];have hk:=(Y9 hlr).1;rw[hlr]at hR;simp only[Ja,if_false];by_cases hp:o.kind≠3/\o.kind≠4;rw[if_pos hp];have e1:(o.kind !=3)=true:=by simpa using hp.1
 have e2:(o.kind !=4)=true:=by simpa using hp.2
 refine ZA func234 rfl ntmps234 results234 (Zn _) ?_;simp only[go_sem,lns,opv];refine vc3 hR ?_;simp only[go_sem,e1,e2,opv];refine vc6 hO ?_;simp only[go_sem,opb,opv];rw[if_neg hp];have hG:=Fw x hx;have hC:=Zbp x hx;have hg:Ze4 x=Zy x:=by simp[Ze4,hlr]
 have hc:ZbJ x=Zc x:=by simp[ZbJ,hlr]
 rw[hg]at hG;rw[hc]at hC;have hI:Pp 250 [refs (Zy x),ref o.at'] (.int .i64 (Yw (Zy x) o.at')):=Zgd (Zy x) o.at' (by have:=F8 x;rw[Zb];omega);have pl:((o.kind !=3)=true/\(o.kind !=4)=false)\/(o.kind !=3)=false:=by
  by_cases k3:o.kind=3;right;simpa using k3;left;refine⟨by simpa using k3,?_⟩;simp only[bne_eq_false_iff_eq];exact JO λh=>hp ⟨k3,h⟩
 by_cases hi:Yw (Zy x) o.at'<0;rw[if_pos hi];rcases pl with ⟨e1,e2⟩|e1;refine ZA func234 rfl ntmps234 results234 (Zn _) ?_;simp only[go_sem,lns,opv];refine vc3 hR ?_;simp only[go_sem,e1,e2,lns];refine vDq ?_;simp only[go_sem,lns,opv];refine vc3 hG ?_;simp only[go_sem,refs];refine vc3 hI ?_;simp only[go_sem,hi,opv];refine vc6 hO ?_;simp only[go_sem,opb,opv];refine ZA func234 rfl ntmps234 results234 (Zn _) ?_;simp only[go_sem,lns,opv];refine vc3 hR ?_;simp only[go_sem,e1,lns];refine vDq ?_;simp only[go_sem,lns,opv];refine vc3 hG ?_;simp only[go_sem,refs];refine vc3 hI ?_;simp only[go_sem,hi,opv];refine vc6 hO ?_;simp only[go_sem,opb,opv];rw[if_neg hi];have hM:=ZfI o (Yw (Zy x) o.at') x.fac;have hV:=Zkc o x.fo (by have:=hx.f;rw[Zb];omega);obtain⟨kind,at',nm,ot,fac,fd,fo,ba⟩:=x;simp only at hk hM hV;rcases hk with rfl|rfl|rfl|rfl|rfl|rfl|rfl|rfl|rfl|rfl;have hne:(Zc ⟨1,at',nm,ot,fac,fd,fo,ba⟩).length≠0:=by unfold Zc;simp
 have hc0:0<(Zc ⟨1,at',nm,ot,fac,fd,fo,ba⟩).length:=by omega
 have hc1:(0:Int)<((Zc ⟨1,at',nm,ot,fac,fd,fo,ba⟩).length:Int):=by omega
 have hc2:(((Zc ⟨1,at',nm,ot,fac,fd,fo,ba⟩).map ref).getD 0 .any)=ref ((Zc ⟨1,at',nm,ot,fac,fd,fo,ba⟩).getD 0 Jd):=Yf hc0;generalize Zc ⟨1,at',nm,ot,fac,fd,fo,ba⟩=comes at *;have hb:Zp ⟨1,at',nm,ot,fac,fd,fo,ba⟩ o=(o,true):=by simp[Zp]
 rw[hb];simp only[Ja,if_false];have hO2:=XU (ZB o (comes.getD 0 Jd)) ⟨ho.d⟩;rcases pl with ⟨e1,e2⟩|e1;refine ZA func234 rfl ntmps234 results234 (Zn _) ?_;simp only[go_sem,lns,opv];refine vc3 hR ?_;simp only[go_sem,e1,e2,lns];refine vDq ?_;simp only[go_sem,lns,opv];refine vc3 hG ?_;simp only[go_sem,refs];refine vc3 hI ?_;simp only[go_sem,hi,opv,lns];refine vc3 hC ?_;simp only[go_sem,refs,hc1,hc2,ref,opv,ZB,Z7,YV];refine vcn hO2 ?_;simp only[go_sem,opb,opv,ZB,Z7,YV];refine ZA func234 rfl ntmps234 results234 (Zn _) ?_;simp only[go_sem,lns,opv];refine vc3 hR ?_;simp only[go_sem,e1,lns];refine vDq ?_;simp only[go_sem,lns,opv];refine vc3 hG ?_;simp only[go_sem,refs];refine vc3 hI ?_;simp only[go_sem,hi,opv,lns];refine vc3 hC ?_;simp only[go_sem,refs,hc1,hc2,ref,opv,ZB,Z7,YV];refine vcn hO2 ?_;simp only[go_sem,opb,opv,ZB,Z7,YV];exfalso;have:Zy ⟨2,at',nm,ot,fac,fd,fo,ba⟩= []:=by simp[Zy]
 rw[this]at hi;exact hi (by show(-1:Int)<0;omega);have hb:Zp ⟨3,at',nm,ot,fac,fd,fo,ba⟩ o=(o,false):=by simp[Zp]
 rw[hb];simp only[if_true];rcases pl with ⟨e1,e2⟩|e1
 ·refine ZA func234 rfl ntmps234 results234 (Zn _) ?_;simp only[go_sem,lns,opv];refine vc3 hR ?_;simp only[go_sem,e1,e2,lns];refine vDq ?_;simp only[go_sem,lns,opv];refine vc3 hG ?_;simp only[go_sem,refs];refine vc3 hI ?_;simp only[go_sem,hi,opv,lns]
  (try simp only[go_sem,opb,Zv])
 ·refine ZA func234 rfl ntmps234 results234 (Zn _) ?_;simp only[go_sem,lns,opv];refine vc3 hR ?_;simp only[go_sem,e1,lns];refine vDq ?_;simp only[go_sem,lns,opv];refine vc3 hG ?_;simp only[go_sem,refs];refine vc3 hI ?_;simp only[go_sem,hi,opv,lns]
  (try simp only[go_sem,opb,Zv])
 have hne:(Zc ⟨4,at',nm,ot,fac,fd,fo,ba⟩).length≠0:=by unfold Zc;simp
 have hc0:0<(Zc ⟨4,at',nm,ot,fac,fd,fo,ba⟩).length:=by omega
 have hc1:(0:Int)<((Zc ⟨4,at',nm,ot,fac,fd,fo,ba⟩).length:Int):=by omega
 have hc2:(((Zc ⟨4,at',nm,ot,fac,fd,fo,ba⟩).map ref).getD 0 .any)=ref ((Zc ⟨4,at',nm,ot,fac,fd,fo,ba⟩).getD 0 Jd):=Yf hc0;generalize Zc ⟨4,at',nm,ot,fac,fd,fo,ba⟩=comes at *;have hb:Zp ⟨4,at',nm,ot,fac,fd,fo,ba⟩ o=(o,true):=by simp[Zp]
 rw[hb];simp only[Ja,if_false];have hO2:=XU (ZB o (comes.getD 0 Jd)) ⟨ho.d⟩;rcases pl with ⟨e1,e2⟩|e1;refine ZA func234 rfl ntmps234 results234 (Zn _) ?_;simp only[go_sem,lns,opv];refine vc3 hR ?_;simp only[go_sem,e1,e2,lns];refine vDq ?_;simp only[go_sem,lns,opv];refine vc3 hG ?_;simp only[go_sem,refs];refine vc3 hI ?_;simp only[go_sem,hi,opv,lns];refine vc3 hC ?_;simp only[go_sem,refs,hc1,hc2,ref,opv,ZB,Z7,YV];refine vcn hO2 ?_;simp only[go_sem,opb,opv,ZB,Z7,YV];refine ZA func234 rfl ntmps234 results234 (Zn _) ?_;simp only[go_sem,lns,opv];refine vc3 hR ?_;simp only[go_sem,e1,lns];refine vDq ?_;simp only[go_sem,lns,opv];refine vc3 hG ?_;simp only[go_sem,refs];refine vc3 hI ?_;simp only[go_sem,hi,opv,lns];refine vc3 hC ?_;simp only[go_sem,refs,hc1,hc2,ref,opv,ZB,Z7,YV];refine vcn hO2 ?_;simp only[go_sem,opb,opv,ZB,Z7,YV];have hne:(Zc ⟨5,at',nm,ot,fac,fd,fo,ba⟩).length≠0:=by unfold Zc;simp
 have hc0:0<(Zc ⟨5,at',nm,ot,fac,fd,fo,ba⟩).length:=by omega
 have hc1:(0:Int)<((Zc ⟨5,at',nm,ot,fac,fd,fo,ba⟩).length:Int):=by omega
 have hc2:(((Zc ⟨5,at',nm,ot,fac,fd,fo,ba⟩).map ref).getD 0 .any)=ref ((Zc ⟨5,at',nm,ot,fac,fd,fo,ba⟩).getD 0 Jd):=Yf hc0;generalize Zc ⟨5,at',nm,ot,fac,fd,fo,ba⟩=comes at *;have hb:Zp ⟨5,at',nm,ot,fac,fd,fo,ba⟩ o=(o,true):=by simp[Zp]
 rw[hb];simp only[Ja,if_false];have hO2:=XU (ZB o (comes.getD 0 Jd)) ⟨ho.d⟩;rcases pl with ⟨e1,e2⟩|e1;refine ZA func234 rfl ntmps234 results234 (Zn _) ?_;simp only[go_sem,lns,opv];refine vc3 hR ?_;simp only[go_sem,e1,e2,lns];refine vDq ?_;simp only[go_sem,lns,opv];refine vc3 hG ?_;simp only[go_sem,refs];refine vc3 hI ?_;simp only[go_sem,hi,opv,lns];refine vc3 hC ?_;simp only[go_sem,refs,hc1,hc2,ref,opv,ZB,Z7,YV];refine vcn hO2 ?_;simp only[go_sem,opb,opv,ZB,Z7,YV];refine ZA func234 rfl ntmps234 results234 (Zn _) ?_;simp only[go_sem,lns,opv];refine vc3 hR ?_;simp only[go_sem,e1,lns];refine vDq ?_;simp only[go_sem,lns,opv];refine vc3 hG ?_;simp only[go_sem,refs];refine vc3 hI ?_;simp only[go_sem,hi,opv,lns];refine vc3 hC ?_;simp only[go_sem,refs,hc1,hc2,ref,opv,ZB,Z7,YV];refine vcn hO2 ?_;simp only[go_sem,opb,opv,ZB,Z7,YV];have hne:(Zc ⟨6,at',nm,ot,fac,fd,fo,ba⟩).length≠0:=by unfold Zc;simp
 have hc0:0<(Zc ⟨6,at',nm,ot,fac,fd,fo,ba⟩).length:=by omega
 have hc1:(0:Int)<((Zc ⟨6,at',nm,ot,fac,fd,fo,ba⟩).length:Int):=by omega
 have hc2:(((Zc ⟨6,at',nm,ot,fac,fd,fo,ba⟩).map ref).getD 0 .any)=ref ((Zc ⟨6,at',nm,ot,fac,fd,fo,ba⟩).getD 0 Jd):=Yf hc0;generalize Zc ⟨6,at',nm,ot,fac,fd,fo,ba⟩=comes at *;have hb:Zp ⟨6,at',nm,ot,fac,fd,fo,ba⟩ o=(o,decide (o.kind=3)):=by simp[Zp]
 rw[hb];by_cases kk:o.kind=3;have e3:(o.kind==3)=true:=by simpa using kk
 simp only[kk,decide_true,Ja,if_false];have hO2:=XU (ZB o (comes.getD 0 Jd)) ⟨ho.d⟩;rcases pl with ⟨e1,e2⟩|e1;refine ZA func234 rfl ntmps234 results234 (Zn _) ?_;simp only[go_sem,lns,opv];refine vc3 hR ?_;simp only[go_sem,e1,e2,lns];refine vDq ?_;simp only[go_sem,lns,opv];refine vc3 hG ?_;simp only[go_sem,refs];refine vc3 hI ?_;simp only[go_sem,hi,opv,lns,e3];refine vc3 hC ?_;simp only[go_sem,refs,hc1,hc2,ref,opv,ZB,Z7,YV];refine vcn hO2 ?_;simp only[go_sem,opb,opv,kk,ZB,Z7,YV];refine ZA func234 rfl ntmps234 results234 (Zn _) ?_;simp only[go_sem,lns,opv];refine vc3 hR ?_;simp only[go_sem,e1,lns];refine vDq ?_;simp only[go_sem,lns,opv];refine vc3 hG ?_;simp only[go_sem,refs];refine vc3 hI ?_;simp only[go_sem,hi,opv,lns,e3];refine vc3 hC ?_;simp only[go_sem,refs,hc1,hc2,ref,opv,ZB,Z7,YV];refine vcn hO2 ?_;simp only[go_sem,opb,opv,kk,ZB,Z7,YV];have e3:(o.kind==3)=false:=by simpa using kk
 simp only[kk,decide_false,if_true];rcases pl with ⟨e1,e2⟩|e1
 ·refine ZA func234 rfl ntmps234 results234 (Zn _) ?_;simp only[go_sem,lns,opv];refine vc3 hR ?_;simp only[go_sem,e1,e2,lns];refine vDq ?_;simp only[go_sem,lns,opv];refine vc3 hG ?_;simp only[go_sem,refs];refine vc3 hI ?_;simp only[go_sem,hi,opv,lns,e3]
  (try simp only[go_sem,opb,Zv])
 ·refine ZA func234 rfl ntmps234 results234 (Zn _) ?_;simp only[go_sem,lns,opv];refine vc3 hR ?_;simp only[go_sem,e1,lns];refine vDq ?_;simp only[go_sem,lns,opv];refine vc3 hG ?_;simp only[go_sem,refs];refine vc3 hI ?_;simp only[go_sem,hi,opv,lns,e3]
  (try simp only[go_sem,opb,Zv])
 have hne:(Zc ⟨7,at',nm,ot,fac,fd,fo,ba⟩).length≠0:=by unfold Zc;simp
 have hc0:0<(Zc ⟨7,at',nm,ot,fac,fd,fo,ba⟩).length:=by omega
 have hc1:(0:Int)<((Zc ⟨7,at',nm,ot,fac,fd,fo,ba⟩).length:Int):=by omega
 have hc2:(((Zc ⟨7,at',nm,ot,fac,fd,fo,ba⟩).map ref).getD 0 .any)=ref ((Zc ⟨7,at',nm,ot,fac,fd,fo,ba⟩).getD 0 Jd):=Yf hc0;generalize Zc ⟨7,at',nm,ot,fac,fd,fo,ba⟩=comes at *;have hb:Zp ⟨7,at',nm,ot,fac,fd,fo,ba⟩ o=(o,decide (o.kind=4)):=by simp[Zp]
 rw[hb];by_cases kk:o.kind=4;have e3:(o.kind==4)=true:=by simpa using kk
 simp only[kk,decide_true,Ja,if_false];have hO2:=XU (ZB o (comes.getD 0 Jd)) ⟨ho.d⟩;rcases pl with ⟨e1,e2⟩|e1;refine ZA func234 rfl ntmps234 results234 (Zn _) ?_;simp only[go_sem,lns,opv];refine vc3 hR ?_;simp only[go_sem,e1,e2,lns];refine vDq ?_;simp only[go_sem,lns,opv];refine vc3 hG ?_;simp only[go_sem,refs];refine vc3 hI ?_;simp only[go_sem,hi,opv,lns,e3];refine vc3 hC ?_;simp only[go_sem,refs,hc1,hc2,ref,opv,ZB,Z7,YV];refine vcn hO2 ?_;simp only[go_sem,opb,opv,kk,ZB,Z7,YV];refine ZA func234 rfl ntmps234 results234 (Zn _) ?_;simp only[go_sem,lns,opv];refine vc3 hR ?_;simp only[go_sem,e1,lns];refine vDq ?_;simp only[go_sem,lns,opv];refine vc3 hG ?_;simp only[go_sem,refs];refine vc3 hI ?_;simp only[go_sem,hi,opv,lns,e3];refine vc3 hC ?_;simp only[go_sem,refs,hc1,hc2,ref,opv,ZB,Z7,YV];refine vcn hO2 ?_;simp only[go_sem,opb,opv,kk,ZB,Z7,YV];have e3:(o.kind==4)=false:=by simpa using kk
 simp only[kk,decide_false,if_true];rcases pl with ⟨e1,e2⟩|e1
 ·refine ZA func234 rfl ntmps234 results234 (Zn _) ?_;simp only[go_sem,lns,opv];refine vc3 hR ?_;simp only[go_sem,e1,e2,lns];refine vDq ?_;simp only[go_sem,lns,opv];refine vc3 hG ?_;simp only[go_sem,refs];refine vc3 hI ?_;simp only[go_sem,hi,opv,lns,e3]
  (try simp only[go_sem,opb,Zv])
 ·refine ZA func234 rfl ntmps234 results234 (Zn _) ?_;simp only[go_sem,lns,opv];refine vc3 hR ?_;simp only[go_sem,e1,lns];refine vDq ?_;simp only[go_sem,lns,opv];refine vc3 hG ?_;simp only[go_sem,refs];refine vc3 hI ?_;simp only[go_sem,hi,opv,lns,e3]
  (try simp only[go_sem,opb,Zv])
 have hne:(Zc ⟨8,at',nm,ot,fac,fd,fo,ba⟩).length≠0:=by unfold Zc;simp
 have hc0:0<(Zc ⟨8,at',nm,ot,fac,fd,fo,ba⟩).length:=by omega
 have hc1:(0:Int)<((Zc ⟨8,at',nm,ot,fac,fd,fo,ba⟩).length:Int):=by omega
 have hc2:(((Zc ⟨8,at',nm,ot,fac,fd,fo,ba⟩).map ref).getD 0 .any)=ref ((Zc ⟨8,at',nm,ot,fac,fd,fo,ba⟩).getD 0 Jd):=Yf hc0;generalize Zc ⟨8,at',nm,ot,fac,fd,fo,ba⟩=comes at *;have hb:Zp ⟨8,at',nm,ot,fac,fd,fo,ba⟩ o=(YV o (Ut o fo).1,(Ut o fo).2):=by simp[Zp]
 rw[hb];generalize Ut o fo=y at *;obtain⟨d,b⟩:=y;cases b;simp only[if_true];rcases pl with ⟨e1,e2⟩|e1;refine ZA func234 rfl ntmps234 results234 (Zn _) ?_;simp only[go_sem,lns,opv];refine vc3 hR ?_;simp only[go_sem,e1,e2,lns];refine vDq ?_;simp only[go_sem,lns,opv];refine vc3 hG ?_;simp only[go_sem,refs];refine vc3 hI ?_;simp only[go_sem,hi,opv,lns];refine vc6 hV ?_;simp only[go_sem,Za4,opb,Zv];refine ZA func234 rfl ntmps234 results234 (Zn _) ?_;simp only[go_sem,lns,opv];refine vc3 hR ?_;simp only[go_sem,e1,lns];refine vDq ?_;simp only[go_sem,lns,opv];refine vc3 hG ?_;simp only[go_sem,refs];refine vc3 hI ?_;simp only[go_sem,hi,opv,lns];refine vc6 hV ?_;simp only[go_sem,Za4,opb,Zv];simp only[Ja,if_false];have hO2:=XU (ZB (YV o d) (comes.getD 0 Jd)) ⟨ho.d⟩;rcases pl with ⟨e1,e2⟩|e1;refine ZA func234 rfl ntmps234 results234 (Zn _) ?_;simp only[go_sem,lns,opv];refine vc3 hR ?_;simp only[go_sem,e1,e2,lns];refine vDq ?_;simp only[go_sem,lns,opv];refine vc3 hG ?_;simp only[go_sem,refs];refine vc3 hI ?_;simp only[go_sem,hi,opv,lns];refine vc6 hV ?_;simp only[go_sem,Za4,lns];refine vc3 hC ?_;simp only[go_sem,refs,hc1,hc2,ref,opv,ZB,Z7,YV];refine vcn hO2 ?_;simp only[go_sem,opb,opv,ZB,Z7,YV];refine ZA func234 rfl ntmps234 results234 (Zn _) ?_;simp only[go_sem,lns,opv];refine vc3 hR ?_;simp only[go_sem,e1,lns];refine vDq ?_;simp only[go_sem,lns,opv];refine vc3 hG ?_;simp only[go_sem,refs];refine vc3 hI ?_;simp only[go_sem,hi,opv,lns];refine vc6 hV ?_;simp only[go_sem,Za4,lns];refine vc3 hC ?_;simp only[go_sem,refs,hc1,hc2,ref,opv,ZB,Z7,YV];refine vcn hO2 ?_;simp only[go_sem,opb,opv,ZB,Z7,YV];have hne:(Zc ⟨9,at',nm,ot,fac,fd,fo,ba⟩).length≠0:=by unfold Zc;simp
 have hc0:0<(Zc ⟨9,at',nm,ot,fac,fd,fo,ba⟩).length:=by omega
 have hc1:(0:Int)<((Zc ⟨9,at',nm,ot,fac,fd,fo,ba⟩).length:Int):=by omega
 have hc2:(((Zc ⟨9,at',nm,ot,fac,fd,fo,ba⟩).map ref).getD 0 .any)=ref ((Zc ⟨9,at',nm,ot,fac,fd,fo,ba⟩).getD 0 Jd):=Yf hc0;generalize Zc ⟨9,at',nm,ot,fac,fd,fo,ba⟩=comes at *;have hb:Zp ⟨9,at',nm,ot,fac,fd,fo,ba⟩ o=(Z7 o (Y2 o (Yw (Zy ⟨9,at',nm,ot,fac,fd,fo,ba⟩) o.at') fac).1,(Y2 o (Yw (Zy ⟨9,at',nm,ot,fac,fd,fo,ba⟩) o.at') fac).2):=by simp[Zp]
 rw[hb];generalize Y2 o (Yw (Zy ⟨9,at',nm,ot,fac,fd,fo,ba⟩) o.at') fac=y at *;obtain⟨d,b⟩:=y;cases b;simp only[if_true];rcases pl with ⟨e1,e2⟩|e1;refine ZA func234 rfl ntmps234 results234 (Zn _) ?_;simp only[go_sem,lns,opv];refine vc3 hR ?_;simp only[go_sem,e1,e2,lns];refine vDq ?_;simp only[go_sem,lns,opv];refine vc3 hG ?_;simp only[go_sem,refs];refine vc3 hI ?_;simp only[go_sem,hi,opv,lns];refine vc6 hM ?_;simp only[go_sem,ZoS,opb,Zv];refine ZA func234 rfl ntmps234 results234 (Zn _) ?_;simp only[go_sem,lns,opv];refine vc3 hR ?_;simp only[go_sem,e1,lns];refine vDq ?_;simp only[go_sem,lns,opv];refine vc3 hG ?_;simp only[go_sem,refs];refine vc3 hI ?_;simp only[go_sem,hi,opv,lns];refine vc6 hM ?_;simp only[go_sem,ZoS,opb,Zv];simp only[Ja,if_false];have hO2:=XU (ZB (Z7 o d) (comes.getD 0 Jd)) ⟨ho.d⟩;rcases pl with ⟨e1,e2⟩|e1;refine ZA func234 rfl ntmps234 results234 (Zn _) ?_;simp only[go_sem,lns,opv];refine vc3 hR ?_;simp only[go_sem,e1,e2,lns];refine vDq ?_;simp only[go_sem,lns,opv];refine vc3 hG ?_;simp only[go_sem,refs];refine vc3 hI ?_;simp only[go_sem,hi,opv,lns];refine vc6 hM ?_;simp only[go_sem,ZoS,lns];refine vc3 hC ?_;simp only[go_sem,refs,hc1,hc2,ref,opv,ZB,Z7,YV];refine vcn hO2 ?_;simp only[go_sem,opb,opv,ZB,Z7,YV];refine ZA func234 rfl ntmps234 results234 (Zn _) ?_;simp only[go_sem,lns,opv];refine vc3 hR ?_;simp only[go_sem,e1,lns];refine vDq ?_;simp only[go_sem,lns,opv];refine vc3 hG ?_;simp only[go_sem,refs];refine vc3 hI ?_;simp only[go_sem,hi,opv,lns];refine vc6 hM ?_;simp only[go_sem,ZoS,lns];refine vc3 hC ?_;simp only[go_sem,refs,hc1,hc2,ref,opv,ZB,Z7,YV];refine vcn hO2 ?_;simp only[go_sem,opb,opv,ZB,Z7,YV];have hne:(Zc ⟨10,at',nm,ot,fac,fd,fo,ba⟩).length≠0:=by unfold Zc;simp
 have hc0:0<(Zc ⟨10,at',nm,ot,fac,fd,fo,ba⟩).length:=by omega
 have hc1:(0:Int)<((Zc ⟨10,at',nm,ot,fac,fd,fo,ba⟩).length:Int):=by omega
 have hc2:(((Zc ⟨10,at',nm,ot,fac,fd,fo,ba⟩).map ref).getD 0 .any)=ref ((Zc ⟨10,at',nm,ot,fac,fd,fo,ba⟩).getD 0 Jd):=Yf hc0;generalize Zc ⟨10,at',nm,ot,fac,fd,fo,ba⟩=comes at *;have hb:Zp ⟨10,at',nm,ot,fac,fd,fo,ba⟩ o=(o,decide (o.kind=4)):=by simp[Zp]
 rw[hb];by_cases kk:o.kind=4;have e3:(o.kind==4)=true:=by simpa using kk
 simp only[kk,decide_true,Ja,if_false];have hO2:=XU (ZB o (comes.getD 0 Jd)) ⟨ho.d⟩;rcases pl with ⟨e1,e2⟩|e1;refine ZA func234 rfl ntmps234 results234 (Zn _) ?_;simp only[go_sem,lns,opv];refine vc3 hR ?_;simp only[go_sem,e1,e2,lns];refine vDq ?_;simp only[go_sem,lns,opv];refine vc3 hG ?_;simp only[go_sem,refs];refine vc3 hI ?_;simp only[go_sem,hi,opv,lns,e3];refine vc3 hC ?_;simp only[go_sem,refs,hc1,hc2,ref,opv,ZB,Z7,YV];refine vcn hO2 ?_;simp only[go_sem,opb,opv,kk,ZB,Z7,YV];refine ZA func234 rfl ntmps234 results234 (Zn _) ?_;simp only[go_sem,lns,opv];refine vc3 hR ?_;simp only[go_sem,e1,lns];refine vDq ?_;simp only[go_sem,lns,opv];refine vc3 hG ?_;simp only[go_sem,refs];refine vc3 hI ?_;simp only[go_sem,hi,opv,lns,e3];refine vc3 hC ?_;simp only[go_sem,refs,hc1,hc2,ref,opv,ZB,Z7,YV];refine vcn hO2 ?_;simp only[go_sem,opb,opv,kk,ZB,Z7,YV];have e3:(o.kind==4)=false:=by simpa using kk
 simp only[kk,decide_false,if_true];rcases pl with ⟨e1,e2⟩|e1
 ·refine ZA func234 rfl ntmps234 results234 (Zn _) ?_;simp only[go_sem,lns,opv];refine vc3 hR ?_;simp only[go_sem,e1,e2,lns];refine vDq ?_;simp only[go_sem,lns,opv];refine vc3 hG ?_;simp only[go_sem,refs];refine vc3 hI ?_;simp only[go_sem,hi,opv,lns,e3]
  (try simp only[go_sem,opb,Zv])
 refine ZA func234 rfl ntmps234 results234 (Zn _) ?_;simp only[go_sem,lns,opv];refine vc3 hR ?_;simp only[go_sem,e1,lns];refine vDq ?_;simp only[go_sem,lns,opv];refine vc3 hG ?_;simp only[go_sem,refs];refine vc3 hI ?_;simp only[go_sem,hi,opv,lns,e3]
 (try simp only[go_sem,opb,Zv])
open Go.PL
def SJ:List Ln->List Fd->Option (List Fd)
 | [],fs=>some fs
 |x::xs,fs=>if(ZT fs x).2≠0 then none else SJ xs (ZT fs x).1
theorem DM (w v:List Ln) (fs:List Fd):SJ (w++v) fs=(SJ w fs).bind (SJ v):=by
 induction w generalizing fs with
 |nil=>rfl
 |cons e w ih=>
  simp only[List.cons_append,SJ];split;rfl;exact ih _
theorem ZjF (w:List Eg) (fs:List Fd):SJ (w.map (·.ln)) fs=Xg w fs:=by
 induction w generalizing fs with
 |nil=>rfl
 |cons e w ih=>
  simp only[Jk,SJ,Xg];split;rfl;exact ih _
theorem ZbX {e:Eg} {w:List Eg} {fs gs:List Fd} (h:Xg (e::w) fs=some gs):∃f1,ZT fs e.ln=(f1,0)/\Xg w f1=some gs:=by
 simp only[Xg]at h;split at h;cases h;rename_i hz;exact⟨(ZT fs e.ln).1,Prod.ext rfl (JT.1 hz),h⟩
theorem Zia:∀(w:List Eg) {fs gs:List Fd},(∀e∈w,e.ln.kind<=8)->Xg w fs=some gs->SJ (w.reverse.map λe=>Fj e.ln) gs=some fs
 | [],fs,gs,_,h=>by cases h;rfl
 |e::w,fs,gs,hk,h=>by
  obtain⟨f1,ha,hw⟩:=ZbX h;have ih:=Zia w (λx hx=>hk x (by simp[hx])) hw;have hi:=Zer (hk e (by simp)) ha;rw[List.reverse_cons,Jm,DM,ih];show SJ [Fj e.ln] f1=some fs;simp[SJ,hi]
theorem FX:∀(w:List Eg) {fs gs:List Fd},(∀e∈w,e.ln.kind<=8)->Z2 fs=true->Xg w fs=some gs->Z2 gs=true
 | [],fs,gs,_,hr,h=>by cases h;exact hr
 |e::w,fs,gs,hk,hr,h=>by
  obtain⟨f1,ha,hw⟩:=ZbX h;exact FX w (λx hx=>hk x (by simp[hx])) (Gi (Zer (hk e (by simp)) ha)).1 hw
theorem Zkb:Z2 U5=true:=by decide
theorem FY {w:List Eg} {fs gs:List Fd} (c:Nat) (h:Xg w fs=some gs):∃ms,Xg (w.take c) fs=some ms/\Xg (w.drop c) ms=some gs:=by
 rw[<-Jw c w,DL]at h;cases h1:Xg (w.take c) fs with
 |none=>rw[h1]at h;cases h
 |some ms=>rw[h1]at h;exact⟨ms,rfl,h⟩
theorem ZjV {m:List Eg} (ha:Apart m) {p q:List Eg} (hp:∀e∈p,e∈m) (hq:∀e∈q,e∈m):Uy m (D4 p q)=((p.drop (lcp p q)).reverse.map λe=>Fj e.ln)++(q.drop (lcp p q)).map (·.ln):=by
 unfold Uy D4;rw[Jm,JP,JP];congr 1;apply JC;intro e he;have:=ha.find (hp e (Jh (Js.1 he)));simp[Zag,upg,this];apply JC;intro e he;have:=ha.find (hq e (Jh he));simp[Zag,dn,this]
theorem ZeL {e:Eg} (h:SF e=true):e.ln.kind<=8:=by
 simp only[SF,Jt,decide_eq_true_eq]at h;exact h.2.2.2.1
theorem ZqX {p q:List Eg} {k:Nat} (hp:k<=p.length) (hq:k<=q.length) (h:p.take k=q.take k):k<=lcp p q:=by
 by_cases hk:k<=lcp p q;exact hk;exfalso;apply Zdl p q (by omega) (by omega);have e:(p.take k).getD (lcp p q) Jd=(q.take k).getD (lcp p q) Jd:=by rw[h]
 rw[getD_lt (by simp;omega),getD_lt (by simp;omega)]at e;rw[getD_lt (by omega),getD_lt (by omega)];simpa using e
theorem Zl7 (p q:List Eg):Tk p q=Tk q p:=by unfold Tk;rw[Zdm,Zdk p q]
theorem Zmi {l:List Tg}:l.reverse.Nodup↔l.Nodup:=by
 unfold List.Nodup;rw[List.pairwise_reverse];constructor<;>exact λh=>h.imp (λh=>h.symm)
theorem Zr4 {m:List Eg} (ha:Apart m) {w:List Eg} (hw:∀e∈w,e∈m) (hn:w.Nodup):(w.map (·.id)).Nodup:=by
 induction w with
 |nil=>simp
 |cons e w ih=>
  rw[Jk,JM];rw[JM]at hn;refine⟨λhx0=> ?_,ih (λx hx=>hw x (by simp[hx])) hn.2⟩;obtain⟨x,hx,he⟩:=Je.1 hx0;have:=ha.inj (hw x (by simp[hx])) (hw e (by simp)) he;subst this;exact hn.1 hx
theorem ZfW {m:List Eg} (ha:Apart m) {w:List Eg} (hw:∀e∈w,e∈m) (hn:w.Nodup):(upL w).Nodup:=by
 unfold upL;rw[List.nodup_append];refine⟨?_,by simp,?_⟩;rw[List.map_reverse,Zmi];exact Zr4 ha hw hn;intro x hx y hy e;obtain⟨z,hz,rfl⟩:=Je.1 hx;rw[List.mem_singleton.1 hy]at e;exact ha.n z (hw z (Js.1 hz)) e
theorem Zhw {m:List Eg} (ha:Apart m) {a b:Tg} {p q:List Eg} (hp:Way m a p) (hq:Way m b q) {e1 e2:Eg} (h1:e1∈p.drop (lcp p q)) (h2:e2∈q.drop (lcp p q)):e1.id≠e2.id:=by
 intro e;obtain⟨i,hi,rfl⟩:=JD h1;obtain⟨j,hj,rfl⟩:=JD h2;simp only[JJ]at hi hj;rw[JI,JI]at e;have w1:=hp.take (lcp p q+i) (by omega);have w2:=hq.take (lcp p q+j) (by omega);rw[e]at w1;have w3:=w1.fn w2;have hl:=congrArg List.length w3;simp only[JK]at hl;have hij:i=j:=by omega
 subst hij;have:=ZqX (by omega) (by omega) w3;omega
open Go.PL
def Zni:List Ln->Rf->Rf×Bool
 | [],r=>(r,true)
 |x::xs,r=>if(ZiJ x r).2=false then(Jd,false)else Zni xs (ZiJ x r).1
def Zl1:List Ln->Rf->Bool
 | [],r=>true
 |x::xs,r=>if Zvd x r=false then false else if(ZiJ x r).2=false then false else Zl1 xs (ZiJ x r).1
structure TrS (row:List Ln) (f:List Ln->Rf->Rf×Bool) (r0:Rf) where
 k:Nat
 r:Rf
 hk:k<=row.length
 h:f (row.drop k) r=f row r0
structure KpS (row:List Ln) (r0:Rf) where
 k:Nat
 r:Rf
 hk:k<=row.length
 h:Zl1 (row.drop k) r=Zl1 row r0
theorem Zqr {m:List Eg} {a b:Tg} (hm:OkM m):(DV m a b).1.length<=1000/\ ∀x∈(DV m a b).1,OkLn x:=by
 unfold DV;split;simp;rename_i h;have hl:=Zdn m a b hm;unfold Zdx at hl;rw[if_neg h]at hl;refine⟨by simp only at hl;simp[Uy];omega,λx hx=> ?_⟩;obtain⟨y,_,rfl⟩:=Je.1 hx;exact ZsT hm y
open Go.PL
structure Pair (l m:List Fd) (x y:Ln):Prop where
 a:ZT l x=(m,0)
 b:ZT m y=(l,0)
 g:Zy y=Zc x
 c:Zc y=Zy x
inductive Pairs:List Fd->List Fd->List Ln->List Ln->Prop
 |nil (l:List Fd):Pairs l l [] []
 |cons {l m n:List Fd} {x y:Ln} {xs ys:List Ln} (h:Pair l m x y) (hs:Pairs m n xs ys):Pairs l n (x::xs) (ys++ [y])
theorem Pairs.append {l m n:List Fd} {xs ys us vs:List Ln} (h1:Pairs l m xs ys) (h2:Pairs m n us vs):Pairs l n (xs++us) (vs++ys):=by
 induction h1 with
 |nil=>simpa using h2
 |cons h hs ih=>rw[<-List.append_assoc];exact .cons h (ih h2)
open Go.PL Go.PL.Srt
def Z4 (a b:Opn):Bool:=if a.time=b.time then Vd a.id b.id else decide (a.time<b.time)
theorem TW (a b:Opn):Pp 77 [opv a,opv b] (.bool (Z4 a b)):=by
 have hT:=ZbA a.id b.id;unfold Z4;by_cases h:a.time=b.time;have e:(a.time !=b.time)=false:=by simpa using h
 rw[if_pos h];refine ZH func77 rfl ntmps77 results77 ?_;simp only[go_sem,opv,e];refine vc3 hT ?_;simp only[go_sem];have e:(a.time !=b.time)=true:=by simpa using h
 rw[if_neg h];refine ZH func77 rfl ntmps77 results77 ?_;simp only[go_sem,opv,e]
def Zfn (a b:Opn):Int:=if Z4 a b=true then-1 else if Z4 b a=true then 1 else 0
theorem Zgf (a b:Opn):Pp 110 [opv a,opv b] (.int .i64 (Zfn a b)):=by
 have h1:=TW a b;have h2:=TW b a;unfold Zfn;cases e1:Z4 a b
 ·cases e2:Z4 b a;all_goals
   rw[e1]at h1;rw[e2]at h2;refine ZH func110 rfl ntmps110 results110 ?_;simp only[go_sem,opv];refine vc6 h1 ?_;simp only[go_sem];refine vc6 h2 ?_;simp only[go_sem]
 rw[e1]at h1;refine ZH func110 rfl ntmps110 results110 ?_;simp only[go_sem,opv];refine vc6 h1 ?_;simp only[go_sem]
theorem UI (a b:Tg):Vd a b=true↔a.r<b.r\/(a.r=b.r/\a.n<b.n):=by
 unfold Vd;split;rename_i h;rw[decide_eq_true_eq];exact⟨λk=> .inr ⟨h,k⟩,λk=>by rcases k with k|k;exact absurd h (by omega);exact k.2⟩;rename_i h;rw[decide_eq_true_eq];exact⟨.inl,λk=>by rcases k with k|k;exact k;exact absurd k.1 h⟩
theorem Zko {a b:Tg} (h:Vd a b=true):Vd b a=false:=by
 rw[JH,ne_eq,UI];rw[UI]at h;omega
theorem Zhz {a b c:Tg} (h1:Vd a b=true) (h2:Vd b c=true):Vd a c=true:=by
 rw[UI]at *;omega
theorem Zne {a b:Tg} (h:a≠b):Vd a b=true\/Vd b a=true:=by
 rw[UI,UI];by_cases e:a.r=b.r;have hn:a.n≠b.n:=λen=>h (by cases a;cases b;simp only at e en;subst e en;rfl)
 omega;omega
theorem oless_good:Srt.Good Z4 where
 asym a b h:=by
  unfold Z4 at *
  by_cases e:a.time=b.time
  ·rw[if_pos e]at h;rw[if_pos e.symm];exact Zko h
  ·rw[if_neg e]at h;rw[if_neg (λx=>e x.symm)];simp at h ⊢;omega
 trans a b c h1 h2:=by
  unfold Z4 at *
  by_cases p:a.time=b.time
  ·rw[if_pos p]at h1
   by_cases q:b.time=c.time
   ·rw[if_pos q]at h2;rw[if_pos (p.trans q)];exact Zhz h1 h2
   ·rw[if_neg q]at h2;rw[if_neg (λx=>q (p.symm.trans x))];simp at h2 ⊢;omega
  ·rw[if_neg p]at h1
   by_cases q:b.time=c.time
   ·rw[if_pos q]at h2;rw[if_neg (λx=>p (x.trans q.symm))];simp at h1 ⊢;omega
   ·rw[if_neg q]at h2;simp at h1 h2;rw[if_neg (by omega)];simp;omega
theorem Zms {a b:Opn} (h:a.id≠b.id):Z4 a b=true\/Z4 b a=true:=by
 unfold Z4;by_cases e:a.time=b.time;rw[if_pos e,if_pos e.symm];exact Zne h;rw[if_neg e,if_neg (λx=>e x.symm)];simp;omega
theorem ops_sort:SortK opv 110 Z4 Zfn where
 len _:=rfl
 atom a:=rfl
 ids a:=by simp[opv,JU,PV.idsL]
 known _:=rfl
 give a m:=by simp[opv,PV.give,JN]
 givable a m:=by simp[opv,PV.givable,JA]
 part a:=rfl
 cmp:=Zgf
 cv a b:=by
  unfold Zfn;cases h1:Z4 a b
  ·cases h2:Z4 b a<;>simp
  ·simp
 good:=oless_good
def Zq (l:List Opn):PV:= .sl .no (l.map opv)
theorem vc7 {x:Bool} {M:KH} {g:FuncId} {args args':List PV} {K:KR} {r:PV} (h1:Pp g args' r) (h2:K.k r M.m) (h0:JA M.m args:=by first|(simp only[go_sem,ref,ent,YG,doc,Yq,row,Zi,fld,lns,tg,refs,prs,pr,eg,egs,tgs,lg,lgs,Zh,opv,tr,Zq];done)|exact rfl) (he:JN M.m args=args':=by first|(simp only[go_sem,ref,ent,YG,doc,Yq,row,Zi,fld,lns,tg,refs,prs,pr,eg,egs,tgs,lg,lgs,Zh,opv,tr,Zq];done)|exact rfl):@UJ prog x M (some (g,args)) K:=Yh h1 h0 he h2
theorem Yx (l:List Opn):Sized 15 (l.map opv):=λe he=>by
 obtain⟨o,_,rfl⟩:=Je.1 he;rfl
theorem Wi (l:List Opn):Xw (l.map opv):=λe he=>by
 obtain⟨o,_,rfl⟩:=Je.1 he;rfl
theorem Zoy (l:List Opn):Jo (l.map opv)= []:=by
 induction l with
 |nil=>rfl
 |cons o l ih=>simp only[Jk,Jo,GD,ih,Jf]
theorem VQ (l:List Opn):(Zq l).dids= []:=by simp only[Zq,JB,Zoy]
theorem Zl {l:List Opn} {k:Nat} (h:k<l.length):(l.map opv).getD k .any=opv (l.getD k Jd):=XE h
theorem X2 (o:Opn):(opv o).ids= []:=ops_sort.ids o
theorem Zd8 (o:Opn) (ho:OkOp o):Pp 52 [opv o] (opv o):=by
 have hr:=Yb ho.d (show 16<=1000 by omega);refine ZA func52 rfl ntmps52 results52 (GD _) ?_;simp only[go_sem,opv,Sl,ZhW,hr]
def UY (l:List Opn) (most:Int):Bool:=decide (most<(l.length:Int))||l.any Sx
theorem Za5 (l:List Opn) (most:Int) (hl:l.length<=maxLen):Pp 7 [Zq l,.int .i64 most] (.bool (UY l most)):=by
 by_cases hm:most<(l.length:Int);refine ZH func7 rfl ntmps7 results7 ?_;simp only[go_sem,Zq,hm,UY];have hz:UY l most=l.any Sx:=by simp only[UY,hm,decide_false,Bool.false_or]
 rw[hz];refine ZH func7 rfl ntmps7 results7 ?_;simp only[go_sem,Zq,hm];refine Zt (ι:= { x:Nat // x<=(l).length/\(∀j,j<x->Sx (l.getD j Jd)=false) }) 21 (λx=> [(0,Zq l),(5,.int .i64 (x.1:Int))]) (λx=> []) (λx=> []) (λx=>(l).length-x.1) ⟨0,Jj _,λj hj=>absurd hj (Jn j)⟩ ⟨rfl,(Fc2 rfl rfl),fnl,fnl⟩ (λx=>⟨(Fc2 rfl rfl),fnl⟩) (λx=> ?_);obtain⟨k,hk,hI⟩:=x;simp only at hk hI ⊢;by_cases h:(k:Int)<(l.length:Int)
 (have hka:k<(l).length:=by omega);(have w1:=Xb hka (hl));(have i1:=Jg k)
 have hF:=Zee (l.getD k Jd);cases hf:Sx (l.getD k Jd)
 ·rw[hf]at hF;simp only[go_sem,Zq,h,Zl hka,opv,i1];refine vc6 hF ?_;simp only[go_sem,w1];exact⟨⟨k+1,by(try simp only);omega,Zm hI hf⟩,by show(l).length-(k+1)<(l).length-k;omega,⟨rfl,(Fc2 rfl rfl),fnl,fnl⟩⟩
 rw[hf]at hF;have hz:=UR (p:=Sx) hka hf;simp only[go_sem,Zq,h,Zl hka,opv,i1];refine vc6 hF ?_;simp only[go_sem,hz];have hz:=Uo (p:=Sx) (d:=Jd) (l:=l) (λj hj=>hI j (by omega));simp only[go_sem,Zq,h,hz]
theorem Zvh {l:List Opn} {most:Nat} (h:UY l (most:Int)=false):l.length<=most/\ ∀o∈l,OkOp o:=by
 simp only[UY,Jl,decide_eq_false_iff_not,JG]at h;refine⟨by omega,λo ho=>⟨?_⟩⟩;have:=h.2 o ho;simp only[Sx,Bool.not_eq_true,Jl,decide_eq_false_iff_not]at this;omega
def apartB (l:List Opn):Bool:=decide (l.map Opn.id).Nodup
theorem Zk2 {l:List Opn} (h:∀i,i<l.length-> ∀j,j<i->(l.getD i Jd).id≠(l.getD j Jd).id):apartB l=true:=by
 unfold apartB;rw[decide_eq_true_eq,Jp,Jr];intro i j hi hj hij;simp only[Ji]at hi hj;have:=h j hj i hij;rw[getD_lt hi,getD_lt hj]at this;simp only[JL];exact λe=>this e.symm
theorem Zog {l:List Opn} {i j:Nat} (hi:i<l.length) (hj:j<i) (h:(l.getD i Jd).id=(l.getD j Jd).id):apartB l=false:=by
 unfold apartB;rw[decide_eq_false_iff_not,Jp,Jr];intro hn;have:=hn j i (by simp;omega) (by simpa using hi) hj;simp only[JL]at this;rw[getD_lt hi,getD_lt (by omega)]at h;exact this h.symm
theorem Zgl (l:List Opn) (hl:l.length<=maxLen):Pp 8 [Zq l] (.bool (apartB l)):=by
 refine ZH func8 rfl ntmps8 results8 ?_;simp only[go_sem,Zq];refine Zt (ι:= { x:Nat // x<=(l).length/\(∀i,i<x-> ∀j,j<i->(l.getD i Jd).id≠(l.getD j Jd).id) }) 27 (λx=> [(0,Zq l),(3,.int .i64 (x.1:Int))]) (λx=> []) (λx=> []) (λx=>(l).length-x.1) ⟨0,Jj _,λj hj=>absurd hj (Jn j)⟩ ⟨rfl,(Fc2 rfl rfl),fnl,fnl⟩ (λx=>⟨(Fc2 rfl rfl),fnl⟩) (λx=> ?_);obtain⟨k,hk,hI⟩:=x;simp only at hk hI ⊢;by_cases h:(k:Int)<(l.length:Int)
 (have hka:k<(l).length:=by omega);(have w1:=Xb hka (hl));(have i1:=Jg k)
 simp only[go_sem,Zq,h];refine Zt (ι:= { x:Nat // x<=(l.take k).length/\(∀j,j<x->(l.getD k Jd).id≠(l.getD j Jd).id) }) 27 (λx=> [(0,Zq l),(3,.int .i64 (k:Int)),(4,.int .i64 (x.1:Int))]) (λx=> []) (λx=> []) (λx=>(l.take k).length-x.1) ⟨0,Jj _,λj hj=>absurd hj (Jn j)⟩ ⟨rfl,(Fc3 rfl rfl rfl),fnl,fnl⟩ (λx=>⟨(Fc3 rfl rfl rfl),fnl⟩) (λx=> ?_);obtain⟨kb,hkb,hIb⟩:=x;simp only at hkb hIb ⊢;have hlt:(l.take k).length=k:=by rw[JK];omega
 rw[hlt]at hkb;by_cases hb:(kb:Int)<(k:Int);have hkb2:kb<l.length:=by omega
 have w2:IntKind.i64.wrap ((kb:Int)+1)=((kb+1:Nat):Int):=by rw[w64 (by rw[Zb]at hl;omega)];rfl
 have b1:(0:Int)<=(kb:Int)/\(kb:Int)<(l.length:Int):=by omega
 by_cases he:(l.getD k Jd).id=(l.getD kb Jd).id;have hz:=Zog hka (show kb<k by omega) he;simp only[go_sem,Zq,hb];refine vDq ?_;simp only[go_sem,Zl hka,Zl hkb2,opv,i1,h,b1.1,b1.2,ZN,he,hz];simp only[go_sem,Zq,hb];refine vDq ?_;simp only[go_sem,Zl hka,Zl hkb2,opv,i1,h,b1.1,b1.2,ZN,he,w2];exact⟨⟨kb+1,by rw[hlt];omega,λj hj=>by
  have hj:j<kb+1:=hj;by_cases e:j=kb;subst e;exact he;exact hIb j (by omega)⟩,by show(l.take k).length-(kb+1)<(l.take k).length-kb;rw[hlt];omega,⟨rfl,(Fc3 rfl rfl rfl),fnl,fnl⟩⟩
 simp only[go_sem,Zq,hb,w1];exact⟨⟨k+1,by omega,λi hi j hj=>by
  have hi:i<k+1:=hi;by_cases e:i=k;subst e;exact hIb j (by omega);exact hI i (by omega) j hj⟩,nx9 (by omega),⟨rfl,(Fc2 rfl rfl),fnl,fnl⟩⟩
 have hz:=Zk2 (l:=l) (λi hi=>hI i (by omega));simp only[go_sem,Zq,h,hz]
theorem OkOp.len {o:Opn} (h:OkOp o):o.drops.length<=maxLen:=by have:=h.d;rw[Zb];omega
theorem ZsW {a b:List Opn} (hl:a.length=b.length) (h:∀j,j<a.length->a.getD j Jd=b.getD j Jd):a=b:=List.ext_getElem hl λi h1 h2=>by
 have:=h i h1;rwa[getD_lt h1,getD_lt h2]at this
theorem ZcT (a b:List Opn) (ha:a.length<=maxLen) (hb:b.length<=maxLen) (oa:∀o∈a,OkOp o) (ob:∀o∈b,OkOp o):Pp 18 [Zq a,Zq b] (.bool (decide (a=b))):=by
 by_cases hl:a.length=b.length;have hne:((a.length:Int) !=(b.length:Int))=false:=by simp[hl]
 refine ZH func18 rfl ntmps18 results18 ?_;simp only[go_sem,Zq,hne];refine Zt (ι:= { x:Nat // x<=(a).length/\(∀j,j<x->a.getD j Jd=b.getD j Jd) }) 27 (λx=> [(0,Zq a),(1,Zq b),(5,.int .i64 (x.1:Int))]) (λx=> []) (λx=> []) (λx=>(a).length-x.1) ⟨0,Jj _,λj hj=>absurd hj (Jn j)⟩ ⟨rfl,(Fc3 rfl rfl rfl),fnl,fnl⟩ (λx=>⟨(Fc3 rfl rfl rfl),fnl⟩) (λx=> ?_);obtain⟨k,hk,hI⟩:=x;simp only at hk hI ⊢;by_cases h:(k:Int)<(a.length:Int)
 (have hka:k<(a).length:=by omega);(have w1:=Xb hka (ha));(have i1:=Jg k)
 have hkb:k<b.length:=by omega
 have h':(k:Int)<(b.length:Int):=by omega
 have hS:=Zgq (a.getD k Jd) (b.getD k Jd) (oa _ (Zs hka)).len (ob _ (Zs hkb)).len;by_cases he:a.getD k Jd=b.getD k Jd
 ·rw[decide_eq_true he]at hS;simp only[go_sem,Zq,h];refine vDq ?_;simp only[go_sem,Zl hka,Zl hkb,opv,i1,h,h'];refine vc6 hS ?_;simp only[go_sem,w1];exact⟨⟨k+1,by(try simp only);omega,Zm hI he⟩,by show(a).length-(k+1)<(a).length-k;omega,⟨rfl,(Fc3 rfl rfl rfl),fnl,fnl⟩⟩
 rw[decide_eq_false he]at hS;have hz:¬a=b:=λe=>he (by rw[e])
 simp only[go_sem,Zq,h];refine vDq ?_;simp only[go_sem,Zl hka,Zl hkb,opv,i1,h,h'];refine vc6 hS ?_;simp only[go_sem,hz];have hz:decide (a=b)=true:=decide_eq_true (ZsW hl (λj hj=>hI j (by omega)));simp only[go_sem,Zq,h,hz];have hne:((a.length:Int) !=(b.length:Int))=true:=by simpa using(λh:(a.length:Int)=b.length=>hl (by omega))
 have hz:¬a=b:=λe=>hl (by rw[e])
 refine ZH func18 rfl ntmps18 results18 ?_;simp only[go_sem,Zq,hne,hz]
open Go.PL
open Go.Shelf Go.RowKit Go.Lib Go.Sort
def flatStr:Flat Str where
 p:= .str
 v:=λs=> [.string ⟨⟨s⟩⟩]
 sz:=1
 pos:=by decide
 hp:=λ_=>rfl
 hv:=λ_=>rfl
 to:=λS x j u hj h=>by
  match j,hj with
  |0,_=>cases h;rfl
 of:=λS x j hj=>by
  match j,hj with
  |0,_=>exact .str _
theorem Zu9 {w:World} {b o:Nat} {vs:List Value} {e:TypeId} (h:w.heap[b]? = some (.cells ⟨vs⟩ e (0,0))) (ho:o<vs.length):w.cell? ⟨b,o,none⟩=some (vs.getD o undef):=by
 rw[XH h,List.getElem?_eq_getElem ho,PL.getD_lt ho]
theorem Zww (xs:List Str) (j:Nat) (h:j<xs.length):xs.toArray[j]! = xs.getD j Jd:=by
 rw[PL.getD_lt h];simp[h]
theorem Zck {w:World} {b:Nat} {xs:List Str} {e:TypeId} {vs:List Value} (hw:w.heap[b]? = some (.cells ⟨vs⟩ e (0,0))) (hl:xs.length*flatStr.sz<=vs.length)
  (hv:∀i j,i<xs.length->j<flatStr.sz->vs.getD (i*flatStr.sz+j) undef=(flatStr.v (xs.getD i Jd)).getD j undef):Holds encStr w b 0 xs.toArray:=by
 intro j hj;have hj':j<xs.length:=by simpa using hj
 have hl':xs.length<=vs.length:=by simpa[flatStr]using hl
 have h1:=hv j 0 hj' (by decide);simp only[flatStr,JR,JQ,Jc]at h1;rw[Nat.zero_add,Zww xs j hj'];refine⟨?_,?_⟩;rw[Zu9 hw (by omega),h1];simp[World.frozen?,hw]
theorem Ziv {w:World} {b c n lo:Nat} {xs ys rest:List Str} {e:TypeId} {vs:List Value} {os:Array Obj} (hlo:lo<=b) (hc:xs.length<=c) (hw:w.heap[b]? = some (.cells ⟨vs⟩ e (0,0))) (hl:xs.length*flatStr.sz<=vs.length) (hy:(ys++rest).length=xs.length):
  DI flatStr (grow (putRow encStr (Sort.ahead w n) b 0 (ys++rest).toArray) os) lo ys (.slice (some ⟨b,0,none⟩) ys.length c)/\BelowF (λk=>k<lo) w (grow (putRow encStr (Sort.ahead w n) b 0 (ys++rest).toArray) os):=by
 have hb:b<w.heap.size:=(Jq.1 hw).1;have hl':xs.length<=vs.length:=by simpa[flatStr]using hl
 have hyl:ys.length<=xs.length:=by rw[<-hy];simp
 have hs:(grow (putRow encStr (Sort.ahead w n) b 0 (ys++rest).toArray) os).heap=w.heap.modify b (onCells (putCells encStr 0 (ys++rest).toArray))++os:=rfl;have hat:∀k,k<w.heap.size->(grow (putRow encStr (Sort.ahead w n) b 0 (ys++rest).toArray) os).heap[k]? = (w.heap.modify b (onCells (putCells encStr 0 (ys++rest).toArray)))[k]? :=λk hk=>by
  rw[hs,Array.getElem?_append_left (by simpa using hk)]
 refine⟨.inr ⟨b,c,e,(putCells encStr 0 (ys++rest).toArray ⟨vs⟩).toList,hlo,rfl,by omega,?_,?_,λi j hi hj=> ?_⟩,?_⟩;rw[hat b hb,Jy,if_pos rfl,hw];rfl;show ys.length*1<=_;simp only[putCells,Array.length_toList,Array.size_mapIdx,List.size_toArray];omega;have hj0:j=0:=by have:j<1:=hj;omega
 subst hj0;have hiv:i<vs.length:=by omega
 show(putCells encStr 0 (ys++rest).toArray ⟨vs⟩).toList.getD (i*1+0) undef= [Value.string ⟨⟨ys.getD i Jd⟩⟩].getD 0 undef;simp only[JR,JQ,Jc];rw[PL.getD_lt (by simpa[putCells]using hiv)];simp only[putCells,Array.getElem_toList,Array.getElem_mapIdx];rw[if_pos ⟨Jj _,by simp;omega⟩];simp only[Nat.sub_zero];rw[Zww (ys++rest) i (by simp;omega),PL.getD_lt (by simp;omega),PL.getD_lt hi,List.getElem_append_left hi];refine⟨rfl,rfl,rfl,?_,λk hk=> ?_⟩;rw[hs];simp;have hk':k<lo:=hk;rw[hat k (by omega),Jy,if_neg (by omega)]
def TP (xs:List Str):List Str:=xs.mergeSort λx y=>decide (x<=y)
theorem Zkf (xs:List Str) (lo:Nat) (w:World) (v:Value) (hx:xs.length<=1000000) (hr:DI flatStr w lo xs v) (hlo:lo<=w.heap.size):
  Calls prog 115 #[v] w λe w'=>e= .returned (.tuple #[])/\DI flatStr w' lo (TP xs) v/\BelowF (λk=>k<lo) w w':=by
 rcases hr with ⟨h0,rfl⟩|⟨b,c,e,vs,h1,rfl,h3,h4,h5,h6⟩;obtain rfl:=Ju.1 h0;refine(Any.slices_Sort_string_none ZmW none 0 w).mono λe w' ⟨he,hw⟩=> ?_
 subst hw;exact⟨he,.inl ⟨by simp[TP],rfl⟩,JS _ _⟩;have hb:b<w.heap.size:=(Jq.1 h4).1;refine(Any.slices_Sort_string ZmW b 0 c xs w (Zck h4 h5 h6) hb (by omega)).mono λe w' ⟨he,n,os,hw⟩=>⟨he,?_⟩
 have hly:(TP xs++ []).length=xs.length:=by simp[TP]
 have hrs:=Ziv (ys:=TP xs) (rest:= []) (n:=n) (os:=os) h1 h3 h4 h5 hly;rw[Jf]at hrs hly;rw[hly]at hrs;rw[hw];exact hrs
theorem UT (xs:List Str):(Lib.compact xs).length<=xs.length:=by
 unfold Lib.compact Lib.compactUpTo;rw[Ji];exact Nat.le_trans (Jz _ _) (by simp)
theorem ZjA (xs:List Str) (lo:Nat) (w:World) (v:Value) (hx:xs.length<=1000000) (hr:DI flatStr w lo xs v):
  Calls prog 116 #[v] w λe w'=>∃u,e= .returned u/\DI flatStr w' lo (Lib.compact xs) u/\BelowF (λk=>k<lo) w w':=by
 rcases hr with ⟨h0,rfl⟩|⟨b,c,e,vs,h1,rfl,h3,h4,h5,h6⟩;obtain rfl:=Ju.1 h0;refine(Any.slices_Compact_string_empty Zln none 0 w).mono λe w' ⟨he,hw⟩=> ?_
 subst hw;exact⟨_,he,.inl ⟨by have:=UT [];simpa using this,rfl⟩,JS _ _⟩;refine(Any.slices_Compact_string Zln b 0 c xs w (Zck h4 h5 h6) (by omega) h3).mono λe w' ⟨he,n,hw⟩=>⟨_,he,?_⟩
 have hcl:=UT xs;have hrs:=Ziv (ys:=Lib.compact xs) (rest:=List.replicate (xs.length-(Lib.compact xs).length) []) (n:=n) (os:= #[]) h1 h3 h4 h5 (by simp;omega);have hg:∀W:World,grow W #[]=W:=λW=>by simp[grow]
 rw[hg]at hrs;rw[hw];exact hrs
def Xn (l:List Opn) (c:Str):List Str:=(l.filter λo=>o.kind==1&&o.cart==c).map Opn.item
def XO (l:List Opn) (c:Str):List Str:=Lib.compact (TP (Xn l c))
theorem Zal {l:List Opn} {k:Nat} (c:Str) (h:k<l.length):Xn (l.take (k+1)) c=Xn (l.take k) c++(if((l.getD k Jd).kind==1&&(l.getD k Jd).cart==c)=true then [(l.getD k Jd).item]else []):=by
 unfold Xn;rw[ZW (d:=Jd) h,List.filter_append,Jm];congr 1;generalize l.getD k Jd=x;cases hr:(x.kind==1&&x.cart==c);rw[List.filter_cons_of_neg (by rw[hr];simp),if_neg (by simp)];rfl;rw[List.filter_cons_of_pos (by exact hr),if_pos rfl];rfl
theorem Se (l:List Opn) (c:Str):(Xn l c).length<=l.length:=by unfold Xn;rw[Ji];exact Jz _ _
theorem Dw (l:List Str):Sized 1 (l.map .str):=λe he=>by
 obtain⟨o,_,rfl⟩:=Je.1 he;rfl
theorem ZjT (l:List Opn) (ct:Str) (hl:l.length<=100000) {c:Code} (hc:f73.body=some c):Zqt prog (λs=>s.n=33/\s.fr 5= .sl (.row 27) ((Xn l ct).map .str)/\s.m.q 27=some (.live (Xn l ct).length 1 9)) 3 c (St.init [Zq l,.str ct] 33):=by
 cases hc;have hlm:l.length<=maxLen:=by rw[Zb];omega
 refine Vs ?_;simp only[go_sem];refine Vs ?_;simp only[go_sem];refine Vs ?_;simp only[go_sem,Zq];refine YO 5 27 1 9 rfl rfl ?_;refine Zt (ι:= { x:Nat // x<=(l).length }) 33 (λx=> [(1,.str ct),(5,.sl (.row 27) ((Xn (l.take x.1) ct).map .str)),(8,Zq l),(9,.int .i64 (l.length:Int)),(10,.int .i64 (x.1:Int))]) (λx=> []) (λx=> [(27,.live ((Xn (l.take x.1) ct).length) (1) (9))]) (λx=>(l).length-x.1) ⟨0,Jj _⟩ ⟨rfl,(Fc5 rfl rfl rfl rfl rfl),fnl,(fcs rfl fnl)⟩ (λx=>⟨(Fc5 rfl (by simp[JU,ZG]) rfl rfl rfl),fnl⟩) (λx=> ?_);obtain⟨k,hk⟩:=x;simp only at hk ⊢;by_cases h:(k:Int)<(l.length:Int)
 (have hka:k<(l).length:=by omega);(have w1:=Xb hka (hlm));(have i1:=Jg k)
 have hsn:=Zal ct hka;have hnl:=Se (l.take k) ct;have htl:(l.take k).length<=k:=List.length_take_le _ _;have hrm:=Yb (show(Xn (l.take k) ct).length+1<=1000000 by omega) (show 16<=1000 by omega);have hml:((Xn (l.take k) ct).map PV.str).length=(Xn (l.take k) ct).length:=Ji _;have hsz:=Dw (Xn (l.take k) ct);generalize hx:l.getD k Jd=x at *;cases k1:(x.kind==1);rw[k1,Bool.false_and,if_neg (by simp),Jf]at hsn;simp only[go_sem,Zq,h,Zl hka,hx,opv,i1,k1,w1];exact⟨⟨k+1,by omega⟩,nx9 (by omega),⟨rfl,by simp only;rw[hsn];exact(Fc5 rfl rfl rfl rfl rfl),fnl,by simp only;rw[hsn];exact fcs rfl fnl⟩⟩;cases k2:(x.cart==ct);rw[k1,k2,Bool.and_false,if_neg (by simp),Jf]at hsn;simp only[go_sem,Zq,h,Zl hka,hx,opv,i1,k1,k2,w1];exact⟨⟨k+1,by omega⟩,nx9 (by omega),⟨rfl,by simp only;rw[hsn];exact(Fc5 rfl rfl rfl rfl rfl),fnl,by simp only;rw[hsn];exact fcs rfl fnl⟩⟩;rw[k1,k2,Bool.and_self,if_pos rfl]at hsn;simp only[go_sem,Zq,h,Zl hka,hx,opv,i1,k1,k2,w1,hml,hsz,hrm];exact⟨⟨k+1,by omega⟩,nx9 (by omega),⟨rfl,by simp only;rw[hsn,Jm];exact(Fc5 rfl rfl rfl rfl rfl),fnl,by simp only;rw[hsn,JE];exact fcs rfl fnl⟩⟩;have htk:l.take k=l:=List.take_of_length_le (by omega);simp only[go_sem,Zq,h,htk];exact⟨rfl,rfl,rfl⟩
theorem ZjS (l:List Opn) (ct:Str) (hl:l.length<=100000):Pp 73 [Zq l,.str ct] (.sl .no ((XO l ct).map .str)):=by
 have hnl:=Se l ct;refine PL.Pure.tail flatStr (k:=3) (i:=5) (d:=27) (N:=33) (G:=λxs=>xs=Xn l ct) (g:=λxs=>Lib.compact (TP xs)) func73 (by decide) rfl (by show 2<=33;decide) (by simp only[JB,Wj]) (ZjT l ct hl rfl) (λs ⟨h2,h3,h4⟩=>⟨Xn l ct,_,rfl,h2,h3,h4⟩) ?_ (λxs h=>by rw[h];rfl);intro xs lo a w hG hd hN hr hlo;subst hG;have hcall:=Zkf _ lo w _ (by omega) hr hlo;refine Zf9 (N:=33) hN (by decide) (by decide) (by decide) (by decide) (by decide) (by decide) (by decide) func115 (by decide) (by intro h;cases h) func116 (by decide) (by intro h;cases h) ?_;refine hcall.mono λe w' ⟨he,h1,h2⟩=>⟨_,he,?_⟩
 refine(ZjA _ lo w' _ (by simp[TP];omega) h1).mono λe w'' ⟨u,he,h3,h4⟩=>⟨u,he,λa' hd' hr'=>⟨.inr rfl,by rw[hd',hd],?_⟩⟩
 exact⟨a'.tmps.getD 4 undef,Go.results_tmp rfl _ _ _,by rw[hr'];exact h3,h2.trans h4⟩
open Go.PL
structure Cg where
 kind:Int
 item:Str
 was:En
 now:En
 l:List En
deriving DecidableEq,Inhabited
def chg (c:Cg):PV:= .agg [.int .i64 c.kind,.str c.item,.int .i64 c.was.at'.sc,.str c.was.at'.gr,.str c.was.at'.nm,.int .i64 c.was.n,.sl .no (c.was.l.map .str),.int .i64 c.now.at'.sc,.str c.now.at'.gr,.str c.now.at'.nm,.int .i64 c.now.n,.sl .no (c.now.l.map .str),.sl .no (c.l.map ent)]
def Zc5 (l:List Cg):PV:= .sl .no (l.map chg)
theorem vc8 {x:Bool} {M:KH} {g:FuncId} {args args':List PV} {K:KR} {r:PV} (h1:Pp g args' r) (h2:K.k r M.m) (h0:JA M.m args:=by first|(simp only[go_sem,ref,ent,YG,doc,Yq,row,Zi,fld,lns,tg,refs,prs,pr,eg,egs,tgs,lg,lgs,Zh,opv,tr,chg,Zc5];done)|exact rfl) (he:JN M.m args=args':=by first|(simp only[go_sem,ref,ent,YG,doc,Yq,row,Zi,fld,lns,tg,refs,prs,pr,eg,egs,tgs,lg,lgs,Zh,opv,tr,chg,Zc5];done)|exact rfl):@UJ prog x M (some (g,args)) K:=Yh h1 h0 he h2
structure FineC (c:Cg):Prop where
 w:c.was.l.length<=maxLen
 n:c.now.l.length<=maxLen
 l:c.l.length<=maxLen
 e:∀e∈c.l,e.l.length<=maxLen
theorem Zib {l:List Cg} {i:Nat} (h:i<l.length):(l.map chg).getD i .any=chg (l.getD i Jd):=XE h
open Go.PL
open Go.PL
theorem UF (l:List Cg):Sized 13 (l.map chg):=λe he=>by
 obtain⟨x,_,rfl⟩:=Je.1 he;rfl
theorem Zk5 (l:List Cg):Xw (l.map chg):=λe he=>by
 obtain⟨x,_,rfl⟩:=Je.1 he;rfl
theorem Zov (c:Cg):(chg c).dids= []:=by simp only[chg,JB,Jo,Wj,Gq,Jf]
theorem ZeG (l:List Cg):Jo (l.map chg)= []:=by
 induction l with
 |nil=>rfl
 |cons e l ih=>rw[Jk,Jo,ih,Zov];rfl
theorem ZeB (l:List Cg):(Zc5 l).dids= []:=by simp only[Zc5,JB,ZeG]
open Go.PL
open Go.PL
def ZxT (x:Ln) (r:Rf):List Rf:=if ZE x=false then []else if Yw (Zc x) r<0 then [r]else if x.kind=6/\0<Yw (Zc x) r then []else Zy x
open Go.PL
def Zvk (b:List Rf) (s:Rf):List Rf:=if(b.any λx=>decide (s=x))=true then b else b++ [s]
def Zu8 (b src:List Rf):List Rf:=src.foldl Zvk b
def Zlj (x:Ln):List Rf->List Rf->Option (List Rf)
 |acc,[]=>some acc
 |acc,e::es=>if Zvl x e=false then none else Zlj x (Zu8 acc (ZxT x e)) es
def Zrm:List Ln->List Rf->Bool
 | [],_=>true
 |x::xs,es=>match Zlj x [] es with|none=>false|some b=>Zrm xs b
open Go.PL
def ZxO (r:Rf) (e:En):Bool:=decide (e.at'=r)
def ZsG (es:List En) (r:Rf):Option En:=es.find? (ZxO r)
def Zq4 (u p f:Int):Int×Int:=if Y6 u=true/\Y6 p=true then(if(Ss u p f).2=0 then((Ss u p f).1,0)else(0,3))else(0,3)
open Go.PL
def Zvc (x:Ln) (f:Fd) (e:En):En:=
 if x.kind=6 then⟨f.at',e.n,(YK f).l⟩
 else if x.kind=7 then⟨f.at',0,if 0<(e.l.length:Int)/\e.l.getD 0 []≠x.ot then [e.l.getD 0 []]else []⟩
 else if x.kind=10 then⟨f.at',0,if 0<(e.l.length:Int)then [e.l.getD (e.l.length-1) []]else(YK f).l⟩
 else if x.kind=8 then⟨f.at',0,if 0<(e.l.length:Int)then [(Xr x.fo (e.l.getD 0 [])).1]else(YK f).l⟩
 else if x.kind=3 then YK f
 else⟨f.at',e.n,e.l⟩
def ZxN (x:Ln) (f:Fd) (i:Int) (es:List En):En×Int:=
 if x.kind=2\/(x.kind=6/\0<i)then(YK f,0)else
 match ZsG es ((Zy x).getD 0 Jd)with
 |none=>(Jd,5)
 |some e=>
  if x.kind=9 then
   match ZsG es ((Zy x).getD 1 Jd)with
   |none=>(Jd,5)
   |some e2=>if(Zq4 e.n e2.n x.fac).2=0 then(⟨f.at',(Zq4 e.n e2.n x.fac).1,(YK f).l⟩,0)else(Jd,(Zq4 e.n e2.n x.fac).2)
  else(Zvc x f e,0)
open Go.PL
structure GotOk (x:Ln) (f:Fd) (i:Int) (es:List En):Prop where
 h3:x.kind≠3
 hi:0<=i/\i<=1
 e1:x.kind≠2-> ∃e,ZsG es ((Zy x).getD 0 Jd)=some e/\((x.kind=7\/x.kind=8)->0<e.l.length)/\(x.kind=9->Lim e.n)
 e2:x.kind=9->(∃e,ZsG es ((Zy x).getD 1 Jd)=some e/\Lim e.n)/\2<=x.fac/\x.fac<=1000
 v1:x.kind=6\/x.kind=9->(YK f).l= []
 v10:x.kind=10->(YK f).l= [x.ot]
open Go.PL
open Go.PL
structure SuS (row:List Ln) (r0:Rf) where
 k:Nat
 es:List Rf
 hk:k<=row.length
 hl:es.length<=1+2*(row.length-k)
 h:Zrm (row.take k).reverse es=Zrm row.reverse [r0]
structure AlS (row:List Ln) (r0:Rf) where
 k:Nat
 r:Rf
 kp:Bool
 hk:k<=row.length
 h:Zni (row.drop k) r=Zni row r0
 h2:(kp&&Zl1 (row.drop k) r)=Zl1 row r0
end Go.Proofs.YtadgngamdofhiaaGreat
