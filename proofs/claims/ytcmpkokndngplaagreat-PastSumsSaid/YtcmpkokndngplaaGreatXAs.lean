/- Lemmas. -/
import Derived.Test.YtcmpkokndngplaaGreatXAm
import Derived.Test.YtcmpkokndngplaaGreatXAu
set_option linter.defProp false
open Inhabited renaming default→Jd
open Go.Proofs.Tryz
open Go Go.PL
open Bool renaming eq_iff_iff→Jb,true_eq_false→Jm,and_eq_true→Jp,false_and→Js,and_self→Jt
open Int renaming natCast_nonneg→Jc
open List renaming append_nil→Ja,getD_eq_getElem?_getD→Je,eq_nil_of_length_eq_zero→Jg,eraseIdx_of_length_le→Jh,length_append→Ji,getElem?_eq_getElem→Jj,filter_append→Jl,filter_cons→Jn,take_length→Jo,filter_nil→Jq
open Nat renaming zero_le→Jf,le_trans→Ju
open PV renaming didsL→Jk,dids→Jr,ids→Jv
namespace Go.Proofs.YtcmpkokndngplaaGreat
set_option maxHeartbeats 64000000
set_option maxRecDepth 20000
set_option linter.unusedVariables false
set_option linter.unusedSimpArgs false
def So (l:List Fd) (sc:Int) (s:l.length<=100000) (o:∀f∈l,f.cases'.length<=1000000):Pp 25 [Zt l,.int .i64 sc] (Zt (Zk l sc)):=by
 have q:l.length<=maxLen:=by rw[Zd];omega
 refine ZS func25 rfl ntmps25 results25 (TS _) ?_;simp only[go_sem,Zt];refine YJ 5 23 7 69 rfl rfl ?_;refine ZA (ι:= { x:Nat×(List Fd) // x.1<=(l).length/\(x.2=Zk (l.take x.1) sc) }) 26 (λx=> [(1,.int .i64 sc),(5,.sl (.row 23) (x.1.2.map fld)),(8,Zt l),(9,.int .i64 (l.length:Int)),(10,.int .i64 (x.1.1:Int))]) (λx=> []) (λx=> [(23,.live (x.1.2.length) (7) (69))]) (λx=>(l).length-x.1.1) ⟨(0,[]),Jf _,rfl⟩ ⟨rfl,(Fc5 rfl rfl rfl rfl rfl),fnl,(fcs rfl fnl)⟩ (λx=>⟨(Fc5 rfl (by simp[Jv,ZR]) rfl rfl rfl),fnl⟩) (λx=> ?_);obtain⟨⟨k,b⟩,p,c⟩:=x;simp only at p c ⊢;have i:b.length<=l.length:=by
  rw[c];exact Ju (List.length_filter_le _ _) (WQ _ _)
 by_cases h:(k:Int)<(l.length:Int)
 (have a:k<(l).length:=by omega);(have m:=Wa a (q));(have j:=Jc k)
 have r:=YP (show b.length+1<=1000000 by omega) (show 96<=1000 by omega);have n:=Wb (l.getD k Jd) (o _ (Zh a));cases e:((l.getD k Jd).at'.sc==sc)
 ·have g:Zk (l.take (k+1)) sc=Zk (l.take k) sc:=by
   rw[ZQ a (d:=Jd)];simp only[Zk,Jl,Jn,e,Bool.false_eq_true,if_false,Jq,Ja]
  simp only[go_sem,Zt,h,ZY a,fld,j,e,m];exact⟨⟨(k+1,b),by(try simp only);omega,by simp only;rw[g,c]⟩,by show(l).length-(k+1)<(l).length-k;omega,⟨rfl,(Fc5 rfl (by simp[upd,fld]) rfl rfl rfl),fnl,(fcs (by simp[upd]) fnl)⟩⟩
 ·have g:Zk (l.take (k+1)) sc=Zk (l.take k) sc++ [l.getD k Jd]:=by
   rw[ZQ a (d:=Jd)];simp only[Zk,Jl,Jn,e,if_true,Jq]
  simp only[go_sem,Zt,h,ZY a,fld,j,e];refine vc2 n ?_;simp only[go_sem,fld,V5,r,m];exact⟨⟨(k+1,b++ [l.getD k Jd]),by(try simp only);omega,by simp only;rw[g,c]⟩,by show(l).length-(k+1)<(l).length-k;omega,⟨rfl,(Fc5 rfl (by simp[upd,fld]) rfl rfl rfl),fnl,(fcs (by simp[upd]) fnl)⟩⟩
 obtain rfl:k=l.length:=by omega
 rw[Jo]at c;subst c;simp only[go_sem,h,Zt]
def atF (r:Rf):Fd->Bool:=λx=>decide (x.at'=r)
def Zp (l:List Fd) (r:Rf):Fd×Int:=if idx (atF r) l<0 then(Jd,6)else(l.getD (idx (atF r) l).toNat Jd,0)
def Za2 (x:Fd×Int):PV:= .tup [fld x.1,.int .i64 x.2]
def YX (x:List Fd×Int):PV:= .tup [Zt x.1,.int .i64 x.2]
def Zf3 (x:Fd×Int):(Za2 x).dids= []:=by simp only[Za2,Jr,Jk,ZjC,Ja]
def Yr (x:List Fd×Int):(YX x).dids= []:=by simp only[YX,Jr,Jk,TS,Ja]
theorem Zic:fld Jd= .agg [.int .i64 0,.str [],.str [],.int .i64 0,.str [],.sl .no [],.int .i64 0]:=rfl
def WK (l:List Fd) (r:Rf) (m:l.length<=100000) (g:∀f∈l,f.cases'.length<=1000000):Pp 73 [Zt l,ref r] (Za2 (Zp l r)):=by
 have h:l.length<=maxLen:=by rw[Zd];omega
 have b:Pp 112 [Zt l,ref r] (.int .i64 (idx (atF r) l)):=DL l r h;unfold Zp;rcases Yx (atF r) l with a|⟨k,c,a⟩;rw[a]at b ⊢;refine ZS func73 rfl ntmps73 results73 (Zf3 _) ?_;simp only[go_sem,Zt,ref];refine vc2 b ?_;simp only[go_sem,Za2,Zic];have i:=Jc k
 have j:(k:Int)<(l.length:Int):=by omega
 have d:¬(k:Int)<0:=by omega
 have e:=Wb (l.getD k Jd) (g _ (Zh c));rw[a]at b;rw[a,if_neg d];refine ZS func73 rfl ntmps73 results73 (Zf3 _) ?_;simp only[go_sem,Zt,ref];refine vc2 b ?_;simp only[go_sem,i,j,d,ZY c,fld];refine vc2 e ?_;simp only[go_sem,Za2,fld]
def U6 (l:List Fd) (u:l.length<=maxLen) (s:∀f∈l,f.cases'.length<=maxLen):Pp 69 [Zt l] (.bool (ZP l)):=by
 by_cases b:16<(l.length:Int);refine ZM func69 rfl ntmps69 results69 ?_;simp only[go_sem,Zt,b,ZP,Js];have B:ZP l=(List.range l.length).all (D5 l):=by simp only[ZP,b,decide_false,Bool.not_false,Bool.true_and]
 rw[B];refine ZM func69 rfl ntmps69 results69 ?_;simp only[go_sem,Zt,b];refine ZA (ι:= { x:Nat // x<=(l).length/\(∀j,j<x->D5 l j=true) }) 33 (λx=> [(0,Zt l),(8,Zt l),(9,.int .i64 (l.length:Int)),(10,.int .i64 (x.1:Int))]) (λx=> []) (λx=> []) (λx=>(l).length-x.1) ⟨0,Jf _,λj t=>absurd t (Nat.not_lt_zero j)⟩ ⟨rfl,(Fc4 rfl rfl rfl rfl),fnl,fnl⟩ (λx=>⟨(Fc4 rfl rfl rfl rfl),fnl⟩) (λx=> ?_);obtain⟨k,A,m⟩:=x;simp only at A m ⊢;by_cases h:(k:Int)<(l.length:Int)
 (have a:k<(l).length:=by omega);(have y:=Wa a (u));(have d:=Jc k)
 have c:=Uz (l.getD k Jd) (s _ (Zh a));cases g:ZT (l.getD k Jd);rw[g]at c;have i:=Yf (p:=D5 l) a (by simp only[D5,g,Js]);simp only[go_sem,Zt,h,ZY a,fld,d];refine vc2 c ?_;simp only[go_sem,i];rw[g]at c;by_cases r:0<(k:Int);have e:k-1<l.length:=by omega
 have z:IntKind.i64.wrap ((k:Int)-1)=((k-1:Nat):Int):=by
  rw[Zd]at u;rw[w64 (by omega)];omega
 have v:(0:Int)<=((k-1:Nat):Int):=by omega
 have w:((k-1:Nat):Int)<(l.length:Int):=by omega
 have o:=Zfi (l.getD (k-1) Jd).at' (l.getD k Jd).at';cases q:V0 (l.getD (k-1) Jd).at' (l.getD k Jd).at';rw[q]at o;have i:=Yf (p:=D5 l) a (by simp only[D5,q,decide_eq_false (show ¬k=0 by omega),Bool.or_self,Bool.and_false]);simp only[go_sem,Zt,h,ZY a,fld,d];refine vc2 c ?_;simp only[go_sem];refine vDq ?_;simp only[go_sem,r,z,ZY e,ZY a,fld,h,d,v,w];refine vc1 o ?_;simp only[go_sem,i]
 ·rw[q]at o;have ok:D5 l k=true:=by simp only[D5,g,q,Bool.or_true,Jt]
  simp only[go_sem,Zt,h,ZY a,fld,d];refine vc2 c ?_;simp only[go_sem];refine vDq ?_;simp only[go_sem,r,z,ZY e,ZY a,fld,h,d,v,w];refine vc1 o ?_;simp only[go_sem,y];exact⟨⟨k+1,by(try simp only);omega,Zm m ok⟩,by show(l).length-(k+1)<(l).length-k;omega,⟨rfl,(Fc4 rfl rfl rfl rfl),fnl,fnl⟩⟩
 ·have ok:D5 l k=true:=by simp only[D5,g,decide_eq_true (show k=0 by omega),Bool.true_or,Jt]
  simp only[go_sem,Zt,h,ZY a,fld,d];refine vc2 c ?_;simp only[go_sem];refine vDq ?_;simp only[go_sem,r,y];exact⟨⟨k+1,by(try simp only);omega,Zm m ok⟩,by show(l).length-(k+1)<(l).length-k;omega,⟨rfl,(Fc4 rfl rfl rfl rfl),fnl,fnl⟩⟩
 have i:=UR (p:=D5 l) (n:=l.length) (λj t=>m j (by omega));simp only[go_sem,Zt,h,i]
def Zlf {α:Type} {l:List α} {k g:Nat} {d:α} (h:k<l.length):(l.take (k+1)).eraseIdx g=(l.take k).eraseIdx g++(if k=g then []else [l.getD k d]):=by
 have a:(l.take k).length=k:=by rw[List.length_take];omega
 rw[ZQ h (d:=d)];rcases Nat.lt_or_ge g k with c|c;rw[List.eraseIdx_append_of_lt_length (by omega),if_neg (by omega)];have b:(l.take k).eraseIdx g=l.take k:=Jh (by omega);rw[List.eraseIdx_append_of_length_le (by omega),b,a];by_cases e:k=g;subst e;simp;rw[if_neg e,Jh (by simp;omega)]
def Xn (l:List Fd) (r:Rf):List Fd×Int:=if ZP l=false then([],5)else if idx (atF r) l<0 then([],6)else(l.eraseIdx (idx (atF r) l).toNat,0)
def Zfr (l:List Fd) (r:Rf) (C:l.length<=100000) (s:∀f∈l,f.cases'.length<=1000000):Pp 139 [Zt l,ref r] (YX (Xn l r)):=by
 have p:l.length<=maxLen:=by rw[Zd];omega
 have i:=U6 l p (λf y=>by have:=s f y;rw[Zd];omega);have a:Pp 112 [Zt l,ref r] (.int .i64 (idx (atF r) l)):=DL l r p;unfold Xn;cases m:ZP l;rw[m]at i;refine ZS func139 rfl ntmps139 results139 (Yr _) ?_;simp only[go_sem,Zt,ref];refine vc2 i ?_;simp only[go_sem,YX,Zt];rw[m]at i;rcases Yx (atF r) l with j|⟨g,B,j⟩;rw[j]at a ⊢;refine ZS func139 rfl ntmps139 results139 (Yr _) ?_;simp only[go_sem,Zt,ref];refine vc2 i ?_;simp only[go_sem,Zt];refine vc2 a ?_;simp only[go_sem,YX,Zt];have u:¬(g:Int)<0:=by omega
 have A:IntKind.i64.wrap ((l.length:Int)-1)=((l.length-1:Nat):Int):=by rw[w64 (by omega)];omega
 rw[j]at a;rw[j,if_neg u];simp only[Jm,if_false,Int.toNat_natCast];refine ZS func139 rfl ntmps139 results139 (Yr _) ?_;simp only[go_sem,Zt,ref];refine vc2 i ?_;simp only[go_sem,Zt];refine vc2 a ?_;simp only[go_sem,Zt,u,A];refine⟨by omega,?_⟩;refine YL 7 21 36 0 7 69 [] rfl rfl rfl ?_;refine ZA (ι:= { x:Nat×(List Fd) // x.1<=(l).length/\(x.2=(l.take x.1).eraseIdx g) }) 39 (λx=> [(6,.int .i64 (g:Int)),(7,.sl (.row 36) (x.1.2.map fld)),(22,Zt l),(23,.int .i64 (l.length:Int)),(24,.int .i64 (x.1.1:Int))]) (λx=> []) (λx=> [(36,.live (x.1.2.length) (7) (69))]) (λx=>(l).length-x.1.1) ⟨(0,[]),Jf _,rfl⟩ ⟨rfl,(Fc5 rfl rfl rfl rfl rfl),fnl,(fcs rfl fnl)⟩ (λx=>⟨(Fc5 rfl (by simp[Jv,ZR]) rfl rfl rfl),fnl⟩) (λx=> ?_);obtain⟨⟨k,c⟩,z,a⟩:=x;simp only at z a ⊢;have q:c.length<=l.length:=by
  rw[a];exact Ju (List.length_eraseIdx_le _ _) (WQ _ _)
 by_cases h:(k:Int)<(l.length:Int)
 (have b:k<(l).length:=by omega);(have v:=Wa b (p));(have t:=Jc k)
 have m:=YP (show c.length+1<=1000000 by omega) (show 96<=1000 by omega);have w:=Wb (l.getD k Jd) (s _ (Zh b));have n:=Zlf (l:=l) (k:=k) (g:=g) (d:=Jd) b;by_cases o:k=g
 ·have e:((k:Int) !=(g:Int))=false:=by rw[o];exact bne_self_eq_false _
  rw[if_pos o,Ja]at n;simp only[go_sem,Zt,h,ZY b,fld,t,e,v];exact⟨⟨(k+1,c),by(try simp only);omega,by simp only;rw[n,a]⟩,by show(l).length-(k+1)<(l).length-k;omega,⟨rfl,(Fc5 rfl (by simp[upd,fld]) rfl rfl rfl),fnl,(fcs (by simp[upd]) fnl)⟩⟩
 ·have e:((k:Int) !=(g:Int))=true:=bne_iff_ne.2 (by omega);rw[if_neg o]at n;simp only[go_sem,Zt,h,ZY b,fld,t,e];refine vc2 w ?_;simp only[go_sem,fld,V5,m,v];exact⟨⟨(k+1,c++ [l.getD k Jd]),by(try simp only);omega,by simp only;rw[n,a]⟩,by show(l).length-(k+1)<(l).length-k;omega,⟨rfl,(Fc5 rfl (by simp[upd,fld]) rfl rfl rfl),fnl,(fcs (by simp[upd]) fnl)⟩⟩
 obtain rfl:k=l.length:=by omega
 rw[Jo]at a;subst a;simp only[go_sem,h,Zt,YX]
open Go.PL
def Zlz (r:Rf):Fd->Bool:=λf=>V0 f.at' r
def Zgc (l:List Fd) (f:Fd):List Fd:=l.takeWhile (Zlz f.at')++f::l.dropWhile (Zlz f.at')
def DH (l:List Fd) (f:Fd):List Fd×Int:=if ZP l=false\/ZT f=false then([],5)else if 0<=idx (atF f.at') l then([],7)else if 16<=(l.length:Int)then([],14)else(Zgc l f,0)
structure WA (l:List Fd) (f:Fd) where
 k:Nat
 acc:List Fd
 hk:k<=l.length
 h:acc++Zgc (l.drop k) f=Zgc l f
structure WB (l:List Fd) (f:Fd) where
 k:Nat
 acc:List Fd
 hk:k<=l.length
 h:acc++l.drop k=Zgc l f
def UH {α:Type} {l:List α} {k:Nat} {d:α} (h:k<l.length):l.drop k=l.getD k d::l.drop (k+1):=by
 rw[Je,Jj h];exact List.drop_eq_getElem_cons h
def ZvC {l:List Fd} {f x:Fd} (h:V0 x.at' f.at'=true):Zgc (x::l) f=x::Zgc l f:=by
 simp[Zgc,Zlz,h]
def ZvB {l:List Fd} {f x:Fd} (h:V0 x.at' f.at'=false):Zgc (x::l) f=f::x::l:=by
 simp[Zgc,Zlz,h]
def Zeu (l:List Fd) (f:Fd):(Zgc l f).length=l.length+1:=by
 unfold Zgc;have:=congrArg List.length (List.takeWhile_append_dropWhile (p:=Zlz f.at') (l:=l));simp only[Ji,List.length_cons]at *;omega
def ZaX (f:Fd):List PV:= [.int .i64 f.at'.sc,.str f.at'.gr,.str f.at'.nm,.int .i64 f.kind,.str f.df,.sl .no (f.cases'.map .str),.int .i64 f.worth]
def ZmO (l:List Fd) (f:Fd) (D:l.length<=100000) (y:∀f∈l,f.cases'.length<=1000000) (z:f.cases'.length<=1000000):Pp 140 [Zt l,fld f] (YX (DH l f)):=by
 have u:l.length<=maxLen:=by rw[Zd];omega
 have g:=U6 l u (λf z=>by have:=y f z;rw[Zd];omega);have i:=Uz f (by rw[Zd];omega);have v:Pp 112 [Zt l,ref f.at'] (.int .i64 (idx (atF f.at') l)):=DL l f.at' u;have n:=Wb f z;unfold DH;cases C:ZP l;rw[C]at g;simp only[true_or,if_true];refine ZS func140 rfl ntmps140 results140 (Yr _) ?_;simp only[go_sem,Zt,fld];refine Tt ?_;simp only[go_sem];refine vc2 g ?_;simp only[go_sem,YX,Zt];rw[C]at g;cases p:ZT f;rw[p]at i;simp only[or_true,if_true];refine ZS func140 rfl ntmps140 results140 (Yr _) ?_;simp only[go_sem,Zt,fld];refine Tt ?_;simp only[go_sem];refine vc2 g ?_;simp only[go_sem];refine vc2 i ?_;simp only[go_sem,YX,Zt];rw[p]at i;simp only[Jm,or_self,if_false];by_cases m:(0:Int)<=idx (atF f.at') l;rw[if_pos m];refine ZS func140 rfl ntmps140 results140 (Yr _) ?_;simp only[go_sem,Zt,fld];refine Tt ?_;simp only[go_sem];refine vc2 g ?_;simp only[go_sem];refine vc2 i ?_;simp only[go_sem];refine vc2 v ?_;simp only[go_sem,m,YX,Zt];rw[if_neg m];by_cases r:(16:Int)<=(l.length:Int);rw[if_pos r];refine ZS func140 rfl ntmps140 results140 (Yr _) ?_;simp only[go_sem,Zt,fld];refine Tt ?_;simp only[go_sem];refine vc2 g ?_;simp only[go_sem];refine vc2 i ?_;simp only[go_sem];refine vc2 v ?_;simp only[go_sem,m,r,YX,Zt];rw[if_neg r];have w0:IntKind.i64.wrap ((l.length:Int)+1)=((l.length+1:Nat):Int):=by rw[w64 (by omega)];rfl
 refine ZS func140 rfl ntmps140 results140 (Yr _) ?_;simp only[go_sem,Zt,fld];refine ZuI (ι0:=WA l f) (ι1:=WB l f) 72
  (λx=> [(0,Zt l),(3,.ptr 3 0),(6,.sl (.row 49) (x.acc.map fld)),(7,.int .i64 (x.k:Int))]) (λx=> [(3,ZaX f,false)]) (λx=> [(49,.live x.acc.length 7 69)]) (λx=>l.length-x.k)
  (λx=> [(0,Zt l),(6,.sl (.row 68) (x.acc.map fld)),(7,.int .i64 (x.k:Int))]) (λx=> []) (λx=> [(68,.live x.acc.length 7 69)]) (λx=>l.length-x.k) (l.length+1) (λj=>by show l.length-j.k<l.length+1;omega)
  0 1 _ _ (by exact rfl) (by exact rfl)
  (λx=>⟨Fc4 rfl rfl (by simp[Jv,ZR]) rfl,(fcs rfl fnl)⟩)
  (λx=>⟨Fc3 rfl (by simp[Jv,ZR]) rfl,fnl⟩)
  (λx cut=> ?_) (λx=> ?_) (λcut=> ?_)
 obtain⟨k,a,A,c⟩:=x;simp only at cut ⊢;have o:a.length<=l.length+1:=by rw[<-Zeu l f,<-c,Ji];omega
 have e:=YP (show a.length+1<=1000000 by omega) (show 96<=1000 by omega);by_cases h:(k:Int)<(l.length:Int);have b:k<l.length:=by omega
 have B:=Wa b u;have q:=Jc k
 have s:=Zfi (l.getD k Jd).at' f.at';have w:=Wb (l.getD k Jd) (y _ (Zh b));rw[UH b (d:=Jd)]at c;cases t:V0 (l.getD k Jd).at' f.at';rw[t]at s;rw[ZvB t]at c;simp only[go_sem,Zt,ZaX];refine vDq ?_;simp only[go_sem,h,q,ZY b,fld];refine vc1 s ?_;simp only[go_sem];refine vc2 n ?_;simp only[go_sem,fld,V5,e];refine YL 6 56 68 (a.length+1) 7 69 ((a++ [f]).map fld) (by simp[upd,fld]) rfl rfl ?_;refine YS (cut ⟨k,a++ [f],A,by rw[UH b (d:=Jd),<-c];simp⟩ _ ⟨rfl,Fc3 rfl rfl rfl,fnl,fcs (by simp[upd,Hp.setq,St.with]) fnl⟩);rw[t]at s;rw[ZvC t]at c;simp only[go_sem,Zt,ZaX];refine vDq ?_;simp only[go_sem,h,q,ZY b,fld];refine vc1 s ?_;simp only[go_sem,h,q,ZY b,fld];refine vc2 w ?_;simp only[go_sem,fld,V5,e,B];exact Or.inl ⟨rfl,⟨k+1,a++ [l.getD k Jd],by omega,by rw[<-c];simp⟩,nx9 (by omega),⟨rfl,Fc4 rfl rfl (by simp[upd,fld]) rfl,fcs ⟨rfl,rfl⟩ fnl,fcs (by simp[upd]) fnl⟩⟩;obtain rfl:k=l.length:=by omega
 simp only[go_sem,Zt,ZaX];refine vDq ?_;simp only[go_sem,h];refine vc2 n ?_;simp only[go_sem,fld,V5,e];refine YL 6 56 68 (a.length+1) 7 69 ((a++ [f]).map fld) (by simp[upd,fld]) rfl rfl ?_;refine YS (cut ⟨l.length,a++ [f],A,by rw[<-c];simp[Zgc]⟩ _ ⟨rfl,Fc3 rfl rfl rfl,fnl,fcs (by simp[upd,Hp.setq,St.with]) fnl⟩);obtain⟨k,a,A,c⟩:=x;simp only;have o:a.length<=l.length+1:=by rw[<-Zeu l f,<-c,Ji];omega
 have e:=YP (show a.length+1<=1000000 by omega) (show 96<=1000 by omega);by_cases h:(k:Int)<(l.length:Int);have b:k<l.length:=by omega
 have B:=Wa b u;have q:=Jc k
 have w:=Wb (l.getD k Jd) (y _ (Zh b));rw[UH b (d:=Jd)]at c;simp only[go_sem,Zt,h,q,ZY b,fld];refine vc2 w ?_;simp only[go_sem,fld,V5,e,B];exact⟨⟨k+1,a++ [l.getD k Jd],by omega,by rw[<-c];simp⟩,nx9 (by omega),⟨rfl,Fc3 rfl (by simp[upd,fld]) rfl,fnl,fcs (by simp[upd]) fnl⟩⟩;obtain rfl:k=l.length:=by omega
 rw[List.drop_length,Ja]at c;subst c;simp only[go_sem,Zt,h,YX];simp only[go_sem];refine vc2 g ?_;simp only[go_sem];refine vc2 i ?_;simp only[go_sem];refine vc2 v ?_;simp only[go_sem,m,r,w0];refine⟨by omega,?_⟩;refine YL 6 27 49 0 7 69 [] rfl rfl rfl ?_;exact YS (cut ⟨0,[],Jf _,rfl⟩ _ ⟨rfl,(Fc4 rfl rfl rfl rfl),fcs ⟨rfl,rfl⟩ fnl,fcs rfl fnl⟩)
open Go.PL
def GH (x:Ln):Bool:=decide (0<(x.fo.length:Int))||decide (0<(x.ba.length:Int))
def Zx (x:Ln):Bool:=
 if x.kind=2\/x.kind=3 then decide (x.at'=Jd)&&(decide (x.nm= [])&&(decide (x.ot= [])&&(decide (x.fac=0)&&(!GH x&&ZT x.fd))))
 else(Vd x.at'&&decide (x.fd=Jd))&&(if x.kind=8 then decide (x.fac=0)&&(Xm x.fo x.ba&&(Xm x.ba x.fo&&((Xc x.fo x.nm).2&&((Xc x.ba x.ot).2&&(((Xc x.fo x.nm).1==x.ot)&&((Xc x.ba x.ot).1==x.nm))))))
  else !GH x&&(if x.kind=6\/x.kind=9 then Z0 x.nm&&(Z0 x.ot&&(!(x.nm==x.ot)&&(decide (1<x.fac)&&decide (x.fac<1001))))
   else decide (x.fac=0)&&(if x.kind=7\/x.kind=10 then decide (x.nm= [])&&decide ((x.ot.length:Int)<41)
    else decide (x.ot= [])&&(if x.kind=1 then Z0 x.nm else if x.kind=4 then decide (x.nm= [])&& !(x.at'.gr== [])else decide (x.kind=5)&&(decide (x.at'.gr= [])&&Z0 x.nm)))))
def Zsd {t o:List Pr} {s:Str} (h:Xm t o=true) (c:UK t s=true):Z0 s=true:=by
 simp only[UK,List.any_eq_true,beq_iff_eq]at c;obtain⟨p,hp,rfl⟩:=c;obtain⟨i,b,rfl⟩:=List.getElem_of_mem hp;simp only[Xm,Jp,List.all_eq_true,List.mem_range]at h;have:=h.2 i b;simp only[Vm,Jp]at this;have a:=this.1;rw[Je,Jj b]at a;exact a
def Ts {x:Ln}:GH x=false↔x.fo= []/\x.ba= []:=by
 simp only[GH,Bool.or_eq_false_iff,decide_eq_false_iff_not];constructor;rintro ⟨a,b⟩;exact⟨Jg (by omega),Jg (by omega)⟩;rintro ⟨a,b⟩;rw[a,b];exact⟨by decide,by decide⟩
def ZrX (x:Ln):XW x=Zx x:=by
 obtain⟨kind,v,nm,J,y,D,z,A⟩:=x;have o:=Ts (x:=⟨kind,v,nm,J,y,D,z,A⟩);simp only at o;have K:(Jd:Ln)=⟨0,Jd,[],[],0,Jd,[],[]⟩:=rfl;by_cases s:kind=1;subst s;rw[Jb];simp[XW,Zx,Vc,o];constructor;rintro ⟨⟨a,b,c,d,e⟩,f,g⟩;exact⟨⟨f,c⟩,⟨d,e⟩,b,a,g⟩;rintro ⟨⟨f,c⟩,⟨d,e⟩,b,a,g⟩;exact⟨⟨a,b,c,d,e⟩,f,g⟩;by_cases G:kind=2;subst G;rw[Jb];simp[XW,Zx,Vc,o,and_assoc];by_cases I:kind=3;subst I;rw[Jb];simp[XW,Zx,Vc,o,and_assoc];by_cases t:kind=4;subst t;rw[Jb];simp[XW,Zx,Vc,o];constructor;rintro ⟨⟨n,a,b,c,d,e⟩,f,g⟩;exact⟨⟨f,c⟩,⟨d,e⟩,b,a,n,g⟩;rintro ⟨⟨f,c⟩,⟨d,e⟩,b,a,n,g⟩;exact⟨⟨n,a,b,c,d,e⟩,f,g⟩;by_cases u:kind=5;subst u;rw[Jb];simp[XW,Zx,Vc,o];constructor;rintro ⟨⟨a,b,c,d,e⟩,f,g⟩;exact⟨⟨f,c⟩,⟨d,e⟩,b,a,g⟩;rintro ⟨⟨f,c⟩,⟨d,e⟩,b,a,g⟩;exact⟨⟨a,b,c,d,e⟩,f,g⟩;by_cases p:kind=6\/kind=9;have q:¬(kind=2\/kind=3):=by omega
 have r:¬(kind=1\/kind=5):=by omega
 have w:¬kind=8:=by omega
 rw[Jb];simp[XW,Zx,Vc,o,q,r,p,s,t,u,w];constructor;rintro ⟨⟨a,b,c⟩,f,g,h,i,j,k⟩;exact⟨⟨f,a⟩,⟨b,c⟩,g,h,i,by omega,by omega⟩;rintro ⟨⟨f,a⟩,⟨b,c⟩,g,h,i,j,k⟩;exact⟨⟨a,b,c⟩,f,g,h,i,by omega,by omega⟩;by_cases B:kind=7\/kind=10;have q:¬(kind=2\/kind=3):=by omega
 have r:¬(kind=1\/kind=5):=by omega
 have w:¬kind=8:=by omega
 rw[Jb];simp[XW,Zx,Vc,o,q,r,p,B,s,t,u,w];constructor;rintro ⟨⟨n,b,c,d,e⟩,f,g⟩;exact⟨⟨f,c⟩,⟨d,e⟩,b,n,by omega⟩;rintro ⟨⟨f,c⟩,⟨d,e⟩,b,n,g⟩;exact⟨⟨n,b,c,d,e⟩,f,by omega⟩;by_cases C:kind=8;subst C;rw[Jb];have F:Xm z A=true->(Xc z nm).2=true->Z0 nm=true:=λh E=>Zsd h (by rw[<-ZfC];exact E)
 simp[XW,Zx,Vc,o,rtM];constructor;rintro ⟨⟨a,b⟩,f,g,h,i,⟨j,k⟩,l,m⟩;exact⟨⟨f,b⟩,a,h,i,j,l,k,m⟩;rintro ⟨⟨f,b⟩,a,h,i,j,l,k,m⟩;exact⟨⟨a,b⟩,f,F h j,h,i,⟨j,k⟩,l,m⟩;have q:¬(kind=2\/kind=3):=by omega
 have r:¬(kind=1\/kind=5):=by omega
 simp[XW,Zx,Vc,q,r,p,B,s,t,u,C]
def WI (x:Ln) (a:OkLn x):Pp 92 [lns x] (.bool (Zx x)):=by
 rw[<-ZrX];exact Zfh x a
def Zfo (x:Ln):Pp 121 [lns x] (.bool (GH x)):=by
 refine ZM func121 rfl ntmps121 results121 ?_;simp only[go_sem,lns];repeat' ((first|(first|apply Zw|apply Zv|apply ZK)<;>intro h|refine vDq ?_)<;>first|simp only[go_sem,h]|simp only[go_sem]|skip)
 all_goals simp_all[GH]
def ZkP (x:Ln) (a:OkLn x):Pp 124 [lns x] (.bool (decide (x.fd=Jd))):=by
 have h:=Zax x.fd Jd (by have:=a.c;rw[Zd];omega) (Jf _);refine ZM func124 rfl ntmps124 results124 ?_;simp only[go_sem,lns];refine YN h ?_ ?_ ?_;simp only[go_sem];rfl;simp only[go_sem]
def Zfm (x:Ln) (b:OkLn x):Pp 89 [lns x] (.bool (Zx x)):=by
 have r:x.fo.length<=maxLen:=by have:=b.f;rw[Zd];omega
 have q:x.ba.length<=maxLen:=by have:=b.b;rw[Zd];omega
 have n:=ZhI x.fd (by have:=b.c;rw[Zd];omega);have p:=Zfo x;have m:=Zaz x.at';have o:=ZkP x b;have f:=ZcF x.fo x.nm r;have g:=ZcF x.ba x.ot q;have i:=ZaB x.fo x.ba b.b;have j:=ZaB x.ba x.fo b.f;have k:=Vw x.nm;have l:=Vw x.ot;unfold Zx;generalize Xc x.fo x.nm=c at *;generalize Xc x.ba x.ot=d at *;obtain⟨c1,s⟩:=c;obtain⟨t,d2⟩:=d;have e:∀a:Rf,(a.sc==0&&(a.gr== []&&a.nm== []))=decide (a=Jd):=λa=>ZB a Jd
 refine ZM func89 rfl ntmps89 results89 ?_;simp only[go_sem,lns,e];repeat' ((first|(first|apply Zw|apply Zv|apply ZK)<;>intro h|refine vc3 n ?_|refine vc3 p ?_|refine vc3 m ?_|refine vc3 o ?_|refine vc3 f ?_|refine vc3 g ?_|refine vc3 i ?_|refine vc3 j ?_|refine vc3 k ?_|refine vc3 l ?_|refine vDq ?_)<;>first|simp only[go_sem,h,ZdL,e]|simp only[go_sem,ZdL,e]|skip)
 all_goals (clear n p m o f g i j k l b r q e;simp_all)
open Go.PL
def Zj8 (r:Rf):(ref r).dids= []:=by simp only[ref,Jr,Jk,Ja]
theorem Zno (l:List Rf):Jk (l.map ref)= []:=by
 induction l with
 |nil=>rfl
 |cons t l ih=>simp only[List.map_cons,Jk,ih,Zj8,Ja]
def ZgN (l:List Rf):(refs l).dids= []:=by simp only[refs,Jr,Zno]
def Zy (r:Rf) (s:Str):Rf:=⟨r.sc,r.gr,s⟩
def U9 (r:Rf) (s:Str):Pp 173 [ref r,.str s] (ref (Zy r s)):=by
 refine ZS func173 rfl ntmps173 results173 (Zj8 _) ?_;simp only[go_sem,ref,Zy]
def ZN (x:Ln):List Rf:=if x.kind=2 then []else if x.kind=3 then [x.fd.at']else if x.kind=9 then [Zy x.at' x.nm,Zy x.at' x.ot]else [x.at']
def Zi (x:Ln):List Rf:=
 if x.kind=1 then [Zy x.at' x.nm]else if x.kind=2 then [x.fd.at']else if x.kind=3 then []else if x.kind=4 then [⟨x.at'.sc,[],x.at'.nm⟩]
 else if x.kind=5 then [⟨x.at'.sc,x.nm,x.at'.nm⟩]else if x.kind=6 then [Zy x.at' x.nm,Zy x.at' x.ot]else [x.at']
def Zf9 (x:Ln):List Rf:=if Zx x=true then ZN x else []
def ZcT (x:Ln):List Rf:=if Zx x=true then Zi x else []
def ob {x y:Int}:((x==y)=true)↔x=y:=beq_iff_eq
def Zau (x:Ln) (d:OkLn x):Pp 138 [lns x] (refs (Zf9 x)):=by
 have c:=WI x d;have a:=U9 x.at' x.nm;have b:=U9 x.at' x.ot;unfold Zf9;refine ZS func138 rfl ntmps138 results138 (ZgN _) ?_;simp only[go_sem,lns];repeat' ((first|(first|apply Zw|apply Zv|apply ZK)<;>intro h|refine vc3 c ?_|refine vc3 a ?_|refine vc3 b ?_|refine vDq ?_)<;>first|simp only[go_sem,h,ref]|simp only[go_sem,ref]|skip)
 all_goals (clear c a b d;simp_all[ZN,refs,Zy,ref])
def ZcA (x:Ln) (d:OkLn x):Pp 171 [lns x] (refs (ZcT x)):=by
 have c:=WI x d;have a:=U9 x.at' x.nm;have b:=U9 x.at' x.ot;unfold ZcT;refine ZS func171 rfl ntmps171 results171 (ZgN _) ?_;simp only[go_sem,lns];repeat' ((first|(first|apply Zw|apply Zv|apply ZK)<;>intro h|refine vc3 c ?_|refine vc3 a ?_|refine vc3 b ?_|refine vDq ?_)<;>first|simp only[go_sem,h,ref]|simp only[go_sem,ref]|skip)
 all_goals (clear c a b d;simp_all[Zi,refs,Zy,ref])
structure OkFs (l:List Fd):Prop where
 n:l.length<=1000
 c:∀f∈l,f.cases'.length<=1000000
def Zie {α:Type} {l:List α} {k:Nat} {d:α}:l.getD k d∈l\/l.getD k d=d:=by
 by_cases h:k<l.length;exact .inl (Zh h);right;rw[Je,List.getElem?_eq_none (by omega)];rfl
def Zj3 {l:List Fd} (h:OkFs l) (r:Rf):(Zp l r).1.cases'.length<=1000000:=by
 unfold Zp;split;exact Jf _;rcases Zie (l:=l) (k:=(idx (atF r) l).toNat) (d:=Jd)with h'|h';exact h.c _ h';rw[h'];exact Jf _
def Uu (l:List Fd) (x:Ln):List Fd×Bool:=
 if(Zp l (Zy x.at' x.nm)).2≠0\/(Zp l (Zy x.at' x.nm)).1.kind≠1 then([],false)
 else if(Zp l (Zy x.at' x.ot)).2≠0\/(Zp l (Zy x.at' x.ot)).1.kind≠1\/(Zp l (Zy x.at' x.ot)).1.worth≠IntKind.i64.wrap ((Zp l (Zy x.at' x.nm)).1.worth*x.fac)then([],false)
 else([⟨x.at',1,[],[],(Zp l (Zy x.at' x.nm)).1.worth⟩],true)
def SX (x:List Fd×Bool):PV:= .tup [Zt x.1,.bool x.2]
def Xg (x:List Fd×Bool):(SX x).dids= []:=by simp only[SX,Jr,Jk,TS,Ja]
def Zip (l:List Fd) (x:Ln) (c:OkFs l) (g:OkLn x) (k:Zx x=true) (i:x.kind=9):Pp 170 [Zt l,lns x] (SX (Uu l x)):=by
 have d:=Zau x g;have j:Zf9 x= [Zy x.at' x.nm,Zy x.at' x.ot]:=by simp[Zf9,ZN,k,i]
 rw[j]at d;have e:=WK l (Zy x.at' x.nm) (by have:=c.n;omega) c.c;have f:=WK l (Zy x.at' x.ot) (by have:=c.n;omega) c.c;unfold Uu;generalize Zp l (Zy x.at' x.nm)=a at *;generalize Zp l (Zy x.at' x.ot)=b at *;obtain⟨a,m⟩:=a;obtain⟨b,n⟩:=b;have o:((0:Int)<1+1)=True:=by simp
 refine ZS func170 rfl ntmps170 results170 (Xg _) ?_;simp only[go_sem,Zt,lns];refine vc3 d ?_;simp only[go_sem,refs,ref];refine vc2 e ?_;simp only[go_sem,Za2,fld];repeat' ((first|(first|apply Zw|apply Zv|apply ZK)<;>intro h|refine vc2 f ?_|refine vDq ?_)<;>first|simp only[go_sem,h,refs,ref,Za2,fld,Zt]|simp only[go_sem,refs,ref,Za2,fld,Zt]|skip)
 all_goals (clear d e f c g;simp_all[SX,Zt,fld])
open Go.PL
end Go.Proofs.YtcmpkokndngplaaGreat
