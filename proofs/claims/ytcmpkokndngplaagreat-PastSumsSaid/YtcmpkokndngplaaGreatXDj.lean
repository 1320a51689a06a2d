/- Lemmas. -/
import Derived.Test.YtcmpkokndngplaaGreatXCc
set_option maxHeartbeats 64000000
set_option maxRecDepth 20000
set_option linter.unusedVariables false
set_option linter.unusedSimpArgs false
set_option linter.defProp false
open Inhabited renaming default→Jd
open Option renaming some→Hs
open Bool renaming true→Ht
open Go.Proofs.Tryz
open Go Go.PL
open Bool renaming and_eq_true→Jc,or_eq_false_iff→JK,not_eq_true'→JQ
open Classical renaming not_not→J3
open Decidable renaming byContradiction→Jy,not_not→JR
open Int renaming mul_le_mul_of_nonneg_right→Js,mul_le_mul_of_nonneg_left→Jt,le_refl→Jz,mul_comm→JT
open List renaming mem_cons→Ja,length_cons→Jb,filter_cons_of_neg→Je,filter_cons_of_pos→Jf,length_append→Jg,map_cons→Jh,mem_singleton→Ji,length_nil→Jj,mem_filter→Jk,length_map→Jl,getD_cons_zero→Jm,append_assoc→Jo,getD_eq_getElem?_getD→Jp,mem_map→Jq,map_append→Jr,mem_cons_of_mem→Ju,append_nil→Jv,mem_append→Jw,filterMap_cons_some→JA,getElem?_eq_getElem→JB,length_take→JC,filter_eq_nil_iff→JE,foldl_cons→JF,length_filter_le→JG,contains_iff_mem→JH,getD_cons_succ→JM,mem_filterMap→JO,mem_cons_self→JP,getElem?_map→JS,all_eq_true→JU,nodup_cons→JV,filterMap→JX,map_id→J2,drop→J4
open Nat renaming le_trans→Jn,zero_le→JI
open Option renaming some→JZ
open PV renaming ids→JD,idsL→JL,sl→JN,didsL→JY,ren→J6
open Prod renaming ext→JJ,mk→JW,fst→J5
namespace Go.Proofs.YtcmpkokndngplaaGreat
structure OkDd (d:Dc):Prop where
 h:d.head.length<=100000
 r:d.rows.length<=100000
 e:∀e∈d.head,e.l.length<=1000000
 s:∀r∈d.rows,r.l.length<=100000/\ ∀e∈r.l,e.l.length<=1000000
def OkDd.fine {d:Dc} (h:OkDd d):Zfd d:=by
 have e:=Zd;refine⟨by have:=h.h;omega,by have:=h.r;omega,λx a=>by have:=h.e x a;omega,λr c=>⟨by have:=(h.s r c).1;omega,λx a=>by have:=(h.s r c).2 x a;omega⟩⟩
def XU {L:List Fd} {es:List En} (h:Zo L es=Ht):es.length=L.length:=by
 simp only[Zo,Jc,decide_eq_true_eq]at h;exact h.1.symm
def Zdv {m:List Fd} {d:Dc} (h:Zz m d=Ht):d.head.length=(Zk m 0).length/\d.rows.length<=400/\(∀r∈d.rows,r.l.length=(Zk m 1).length)/\(Zk m 0).length<=16/\(Zk m 1).length<=16:=by
 simp only[Zz,Gb,Jc,JQ,decide_eq_false_iff_not,JU,List.mem_range]at h;obtain⟨⟨j,q,l⟩,o⟩:=h;have a:=Zdx j;have g:∀sc,(Zk m sc).length<=16:=λsc=>Jn (JG _ _) a
 refine⟨XU l,by omega,λr p=> ?_,g 0,g 1⟩;obtain⟨i,f,rfl⟩:=List.getElem_of_mem p;have:=o i f;simp only[Ub,Jc]at this;have c:=XU this.2;rw[getD_lt f]at c;exact c
def Tk (it:Str) (a b:List En):(Yo it a b).length<=a.length:=GA it a b a.length
def GZ (x:PV) (l:List Rw):PL.cut (x::l.map row) 1 ((l.length+1:Nat):Int)=l.map row:=by
 have e:((l.length+1:Nat):Int).toNat=l.length+1:=by omega
 simp[PL.cut,e,List.take_of_length_le]
structure DiX (p q:List Rw) (h0:List Cg) where
 P:List Rw
 Q:List Rw
 acc:List Cg
 id:Nat
 hP:∀r∈P,r∈p
 hQ:∀r∈Q,r∈q
 hl:acc.length+16*(P.length+Q.length)<=16+16*(p.length+q.length)
 h:acc++YG P Q=h0++YG p q
 hid:id=25\/id=91\/id=121\/id=44
def Zce (x:List Cg) (c:Int):PV:= .tup [Zcd x,.int .i64 c]
def DV (x:List Cg) (c:Int):(Zce x c).dids= []:=by simp only[Zce,PV.dids,JY,ZfE,Jv]
theorem ZkF (l:List Fd) (a b:Dc) (y:l.length<=maxLen) (R:∀f∈l,f.cases'.length<=1000000) (I:OkDd a) (N:OkDd b):
  Pp 32 [Zt l,doc a,doc b] (Zce (W5 l a b).1 (W5 l a b).2):=by
 have v:=U4 l a y R I.fine;have G:=U4 l b y R N.fine;unfold W5;cases J:Zz l a;rw[J]at v;rw[if_pos (.inl rfl)];refine ZS func32 rfl ntmps32 results32 (DV _ _) ?_;simp only[go_sem,Zt,doc];refine Tt ?_;simp only[go_sem];refine vc2 v ?_;simp only[go_sem,Zce,Zcd];cases O:Zz l b;rw[J]at v;rw[O]at G;rw[if_pos (.inr rfl)];refine ZS func32 rfl ntmps32 results32 (DV _ _) ?_;simp only[go_sem,Zt,doc];refine Tt ?_;simp only[go_sem];refine vc2 v ?_;simp only[go_sem,Zce,Zcd];refine vc2 G ?_;simp only[go_sem,Zce,Zcd];rw[J]at v;rw[O]at G;rw[if_neg (by simp)];obtain⟨a1,a2,X,a4,a5⟩:=Zdv J;obtain⟨b1,b2,Y,_,_⟩:=Zdv O;have Z:=ZlH [] a.head b.head I.h (by omega) I.e N.e;refine ZS func32 rfl ntmps32 results32 (DV _ _) ?_;simp only[go_sem,Zt,doc];refine Ze0 (ι:=DiX a.rows b.rows (Yo [] a.head b.head)) 124 (λx=> [(8,.sl (.row x.id) (x.acc.map chg)),(9,.sl .no (x.P.map row)),(10,.sl .no (x.Q.map row))]) (λx=> []) (λx=> [(x.id,.live x.acc.length 13 66)]) (λx=>x.P.length+x.Q.length) 0 _ (by exact rfl) (λx=>⟨Fc3 (by simp[JD,ZR]) rfl rfl,fnl⟩) (λx=> ?_) (λcut=> ?_)
 ·obtain⟨P,Q,m,id,u,z,y,h,A⟩:=x;simp only;cases P with
  |nil=>
   cases Q with
   |nil=>
    rw[YG,Jv]at h;rw[<-h];simp only[go_sem,Zce,Zcd]
   |cons q qs=>
    have r0:(0:Int)<=0:=by omega
    have o:(m.map chg).length=m.length:=Jl _;have p:=UZ m;have w:=YP (show m.length+1<=1000000 by have:=JI;simp only[Jb,Jj]at y;omega) (show 192<=1000 by omega);have g:True:=trivial;have c:True:=trivial;have j:(((qs.length+1:Nat):Int)==0)=false:=by simp;omega
    have i:(0:Int)<((qs.length+1:Nat):Int):=by omega
    have E:(1:Int)<=((qs.length+1:Nat):Int):=by omega
    have F:=V6 qs;have M:=TF q.l (N.s q (z q (by simp))).1 (N.s q (z q (by simp))).2;simp only[go_sem,row,g,c,j,i,r0];refine vDq ?_;simp only[go_sem,row,g,c,j,i,r0];refine vDq ?_;simp only[go_sem,row,g,c,j,i,r0];refine vDq ?_;simp only[go_sem,row,g,c,j,i,r0];refine vc1 M ?_;rcases A with rfl|rfl|rfl|rfl
    all_goals
     simp only[go_sem,row,g,c,j,i,r0,ZX,o,p,w,Yb,Xr,Jz,GZ,E,F];exact⟨⟨[],qs,m++ [FM q],121,u,λx D=>z x (by simp[D]),by simp only[Jg,Jb,Jj]at y ⊢;omega,by rw[<-h,YG,Jo];rfl,.inr (.inr (.inl rfl))⟩,by show _+qs.length<_+(q::qs).length;simp only[Jb];omega,⟨rfl,Fc3 (by show JN _ _=JN _ _;rw[Jr];rfl) rfl rfl,fnl,fcs (by show Hs (Row.live _ 13 _)=Hs (Row.live _ 13 _);rw[Jg];rfl) fnl⟩⟩
  |cons r ps=>
   cases Q with
   |nil=>
    have r0:(0:Int)<=0:=by omega
    have o:(m.map chg).length=m.length:=Jl _;have p:=UZ m;have w:=YP (show m.length+1<=1000000 by have:=JI;simp only[Jb,Jj]at y;omega) (show 192<=1000 by omega);have g:(((ps.length+1:Nat):Int)==0)=false:=by simp;omega
    have c:(0:Int)<((ps.length+1:Nat):Int):=by omega
    have B:(1:Int)<=((ps.length+1:Nat):Int):=by omega
    have C:=V6 ps;have j:True:=trivial;have i:True:=trivial;have K:=TF r.l (I.s r (u r (by simp))).1 (I.s r (u r (by simp))).2;simp only[go_sem,row,g,c,j,i,r0];refine vDq ?_;simp only[go_sem,row,g,c,j,i,r0];refine vDq ?_;simp only[go_sem,row,g,c,j,i,r0];refine vc1 K ?_;rcases A with rfl|rfl|rfl|rfl
    all_goals
     simp only[go_sem,row,g,c,j,i,r0,ZX,o,p,w,Yb,Xr,Jz,GZ,B,C];exact⟨⟨ps,[],m++ [Zb4 r],91,λx D=>u x (by simp[D]),z,by simp only[Jg,Jb,Jj]at y ⊢;omega,by rw[<-h,YG,Jo];rfl,.inr (.inl rfl)⟩,by show ps.length+_<(r::ps).length+_;simp only[Jb];omega,⟨rfl,Fc3 (by show JN _ _=JN _ _;rw[Jr];rfl) rfl rfl,fnl,fcs (by show Hs (Row.live _ 13 _)=Hs (Row.live _ 13 _);rw[Jg];rfl) fnl⟩⟩
   |cons q qs=>
    have r0:(0:Int)<=0:=by omega
    have o:(m.map chg).length=m.length:=Jl _;have p:=UZ m;have w:=YP (show m.length+1<=1000000 by have:=JI;simp only[Jb,Jj]at y;omega) (show 192<=1000 by omega);have g:(((ps.length+1:Nat):Int)==0)=false:=by simp;omega
    have c:(0:Int)<((ps.length+1:Nat):Int):=by omega
    have B:(1:Int)<=((ps.length+1:Nat):Int):=by omega
    have C:=V6 ps;have j:(((qs.length+1:Nat):Int)==0)=false:=by simp;omega
    have i:(0:Int)<((qs.length+1:Nat):Int):=by omega
    have E:(1:Int)<=((qs.length+1:Nat):Int):=by omega
    have F:=V6 qs;have K:=TF r.l (I.s r (u r (by simp))).1 (I.s r (u r (by simp))).2;have M:=TF q.l (N.s q (z q (by simp))).1 (N.s q (z q (by simp))).2;cases c1:Zl r.item q.item
    ·cases t:Zl q.item r.item
     ·have S:=ZiC q.item r.l q.l (I.s r (u r (by simp))).1 (by rw[X r (u r (by simp)),Y q (z q (by simp))];exact Nat.le_refl _) (I.s r (u r (by simp))).2 (N.s q (z q (by simp))).2;have xb:=Tk q.item r.l q.l;have xa:=X r (u r (by simp));rw[YG,if_neg (by rw[c1];simp),if_neg (by rw[t];simp)]at h;have V:=UZ (Yo q.item r.l q.l);have T:=ZmV (Yo q.item r.l q.l);have U:((Yo q.item r.l q.l).map chg).length=(Yo q.item r.l q.l).length:=Jl _;have W:=YP (show m.length+(Yo q.item r.l q.l).length<=1000000 by simp only[Jb,Jj]at y;omega) (show 192<=1000 by omega);simp only[go_sem,row,g,c,j,i,r0,c1,t];refine vDq ?_;simp only[go_sem,row,g,c,j,i,r0,c1,t];refine vDq ?_;simp only[go_sem,row,g,c,j,i,r0,c1,t];refine vDq ?_;simp only[go_sem,row,g,c,j,i,r0,c1,t];refine vc1 S ?_;rcases A with rfl|rfl|rfl|rfl
      all_goals
       simp only[go_sem,row,g,c,j,i,r0,c1,t,Zcd,o,p,V,T,U,W,Yb,Xr];refine vDq ?_;simp only[go_sem,row,g,c,j,i,r0,c1,t,Jz,GZ,B,C,E,F];exact⟨⟨ps,qs,m++Yo q.item r.l q.l,44,λx D=>u x (by simp[D]),λx D=>z x (by simp[D]),by simp only[Jg,Jb,Jj]at y ⊢;omega,by rw[<-h,Jo],.inr (.inr (.inr rfl))⟩,by show ps.length+qs.length<(r::ps).length+(q::qs).length;simp only[Jb];omega,⟨rfl,Fc3 (by show JN _ _=JN _ _;rw[Jr]) rfl rfl,fnl,fcs (by show Hs (Row.live _ 13 _)=Hs (Row.live _ 13 _);rw[Jg]) fnl⟩⟩
     ·rw[YG,if_neg (by rw[c1];simp),if_pos t]at h;simp only[go_sem,row,g,c,j,i,r0,c1,t];refine vDq ?_;simp only[go_sem,row,g,c,j,i,r0,c1,t];refine vDq ?_;simp only[go_sem,row,g,c,j,i,r0,c1,t];refine vDq ?_;simp only[go_sem,row,g,c,j,i,r0,c1,t];refine vc1 M ?_;rcases A with rfl|rfl|rfl|rfl
      all_goals
       simp only[go_sem,row,g,c,j,i,r0,c1,t,ZX,o,p,w,Yb,Xr,Jz,GZ,B,C,E,F];exact⟨⟨r::ps,qs,m++ [FM q],121,u,λx D=>z x (by simp[D]),by simp only[Jg,Jb,Jj]at y ⊢;omega,by rw[<-h,Jo];rfl,.inr (.inr (.inl rfl))⟩,by show _+qs.length<_+(q::qs).length;simp only[Jb];omega,⟨rfl,Fc3 (by show JN _ _=JN _ _;rw[Jr];rfl) rfl rfl,fnl,fcs (by show Hs (Row.live _ 13 _)=Hs (Row.live _ 13 _);rw[Jg];rfl) fnl⟩⟩
    ·rw[YG,if_pos c1]at h;simp only[go_sem,row,g,c,j,i,r0,c1];refine vDq ?_;simp only[go_sem,row,g,c,j,i,r0,c1];refine vDq ?_;simp only[go_sem,row,g,c,j,i,r0,c1];refine vc1 K ?_;rcases A with rfl|rfl|rfl|rfl
     all_goals
      simp only[go_sem,row,g,c,j,i,r0,c1,ZX,o,p,w,Yb,Xr,Jz,GZ,B,C,E,F];exact⟨⟨ps,q::qs,m++ [Zb4 r],91,λx D=>u x (by simp[D]),z,by simp only[Jg,Jb,Jj]at y ⊢;omega,by rw[<-h,Jo];rfl,.inr (.inl rfl)⟩,by show ps.length+_<(r::ps).length+_;simp only[Jb];omega,⟨rfl,Fc3 (by show JN _ _=JN _ _;rw[Jr];rfl) rfl rfl,fnl,fcs (by show Hs (Row.live _ 13 _)=Hs (Row.live _ 13 _);rw[Jg];rfl) fnl⟩⟩
 simp only[go_sem];refine vc2 v ?_;simp only[go_sem];refine vc2 G ?_;simp only[go_sem];refine Zsv 25 Z (by simp[JD,ZX]) rfl ?_ ?_;simp only[go_sem,ZX];simp only[go_sem];refine vDq ?_;simp only[go_sem];refine YS (cut ⟨a.rows,b.rows,Yo [] a.head b.head,25,λ_ h=>h,λ_ h=>h,?_,rfl,.inl rfl⟩ _ ⟨rfl,Fc3 rfl rfl rfl,fnl,fcs rfl fnl⟩);have:=Tk [] a.head b.head;omega
def ZsV {l m:List Fd} {x:Ln} {r:Rf} (w:ZW l x=(m,0)) (j:On l r) (z:r∉ZN x):r∉Zi x:=λo=>by
 obtain⟨y,A,cs,J,u,e2,v⟩:=Xb w;obtain⟨p,q,B,C,D⟩:=Ga y e2;obtain⟨E,F,t,G,I⟩:=WU p v;obtain⟨f,i,a⟩:=j;rw[<-Su (Yz A).1 u]at o;obtain⟨c,g,h⟩:=Jq.1 o;exact(t c g).2 f ((q f).2 ⟨i,by rw[a];exact z⟩) (by rw[a,h])
structure FitW (l:List Fd) (o:Opn):Prop where
 f:ZG o=Ht-> ∃f,Zp l o.at'=(f,0)/\(o.kind=3↔f.kind=1)/\(o.kind=4->o.has=Ht->Xo f o.text=Ht)
 z:ZG o=false->o.at'=Jd
 w:o.kind=3-> ∃w,Worth l o w
def Za0 {f g:Fd} {s:Str} (h:Xo f s=Ht) (c:g.kind=f.kind) (a:g.cases'=f.cases') (i:ZT g=Ht):Xo g s=true:=by
 simp only[Xo,Jc]at h ⊢;rw[c,a,i];exact⟨⟨rfl,h.1.2⟩,h.2⟩
def Zc3 {f g:Fd} {s:Str} (h:Xo f s=Ht) (a:f.kind≠1) (c:f.kind≠3) (i:g.kind≠1) (j:g.kind≠3) (l:ZT f=Ht) (m:ZT g=Ht):Xo g s=true:=
 (D4 m i j).2 ((D4 l a c).1 h)
def Zki {at' nm ot fac fd fo ba} (a:Zx ⟨8,at',nm,ot,fac,fd,fo,ba⟩=Ht):Xm fo ba=Ht/\Xc fo nm=(ot,Ht):=by
 unfold Zx at a;simp only[show ¬((8:Int)=2\/(8:Int)=3)by omega,if_false,if_true,Jc]at a;exact⟨a.2.2.1,JJ (by simpa using a.2.2.2.2.2.2.1) a.2.2.2.2.1⟩
def ZjB {l m:List Fd} {x:Ln} {o p:Opn} (ha:ZW l x=(m,0)) (V:FitW l o) (c:Va x o=(p,Ht)):FitW m p:=by
 obtain⟨hl,R,cs,l1,j,e2,U⟩:=Xb ha;obtain⟨a1,a2,a3,a4,a5⟩:=Ga hl e2;obtain⟨b1,Y,b3,b4,b5⟩:=WU a1 U;have D:=ZrG c;have hw:p.kind=3-> ∃w,Worth m p w:=λE=>by
  obtain⟨w,h⟩:=V.w (by rw[<-D.2.2];exact E);exact⟨w,h.over ha c⟩
 cases hp:ZG o;rw[Fg R hp]at c;cases c;exact⟨(λh=>by rw[hp]at h;cases h),V.z,hw⟩;obtain⟨f,t,C,F⟩:=V.f hp;have S:=FF hp;have X:ZG p=true:=by simp only[ZG,D.2.2];exact hp
 refine⟨λ_=> ?_,(λh=>by rw[X]at h;cases h),hw⟩;have P:=(Yz R).1;have hm:=(ZL.1 b1).2;have I:=Y1 (l:=l) (r:=o.at') (by rw[t]);rw[t]at I;simp only at I;obtain⟨fm,Z⟩:=I;have B:=(ZL.1 hl).2.2 f fm;have coming:∀g∈cs,Zp m g.at'=(g,0):=λg v=>YZ hm.1 ((Y g).2 (.inr v))
 rw[Tl R hp]at c;by_cases v:Yn (ZN x) o.at'<0;rw[if_pos v]at c;cases c;have W:f∈l1:=(a2 f).2 ⟨fm,by rw[Z];exact X7 v⟩;have M:=YZ hm.1 ((Y f).2 (.inl W));rw[Z]at M;exact⟨f,M,C,F⟩;rw[if_neg v]at c;have A:∀(g:Fd) (q:Opn),g∈cs->q=p->q.at'=g.at'->(q.kind=3↔g.kind=1)->(q.kind=4->q.has=Ht->ZT g=Ht->Xo g q.text=Ht)-> ∃f,Zp m p.at'=(f,0)/\(p.kind=3↔f.kind=1)/\(p.kind=4->p.has=Ht->Xo f p.text=Ht):=λg q v j e2 U e4=>by
  subst j;exact⟨g,by rw[e2];exact coming g v,U,λa b=>e4 a b (b3 g v).1⟩
 clear b4 b5 a3 a4 a5 coming;obtain⟨kind,at',nm,Q,K,fd,J,T⟩:=x;simp only at P;rcases P with rfl|rfl|rfl|rfl|rfl|rfl|rfl|rfl|rfl|rfl;have i:at'=o.at':=Y2 (by simpa[ZN]using v);subst i;simp[WM,Zi,t]at j;simp[Zj,Zi]at c;exact A ⟨Zy o.at' nm,f.kind,f.df,f.cases',f.worth⟩ _ (by rw[<-j];simp) c rfl C (λu y z=>Za0 (F u y) rfl rfl z);exact absurd (show Yn (ZN ⟨2,at',nm,Q,K,fd,J,T⟩) o.at'<0 from(by decide:(-1:Int)<0)) v;simp[Zj]at c;have i:at'=o.at':=Y2 (by simpa[ZN]using v);subst i;simp[WM,Zi,t]at j;simp[Zj,Zi]at c;exact A ⟨⟨o.at'.sc,[],o.at'.nm⟩,f.kind,f.df,f.cases',f.worth⟩ _ (by rw[<-j];simp) c rfl C (λu y z=>Za0 (F u y) rfl rfl z);have i:at'=o.at':=Y2 (by simpa[ZN]using v);subst i;simp[WM,Zi,t]at j;simp[Zj,Zi]at c;exact A ⟨⟨o.at'.sc,nm,o.at'.nm⟩,f.kind,f.df,f.cases',f.worth⟩ _ (by rw[<-j];simp) c rfl C (λu y z=>Za0 (F u y) rfl rfl z);have i:at'=o.at':=Y2 (by simpa[ZN]using v);subst i;simp[WM,t]at j;have E:=C.2 j.2;simp[Zj,Zi,E]at c;exact A ⟨Zy o.at' nm,1,[],[],f.worth⟩ _ (by rw[<-j.1];simp) c rfl (by simp[Zr,E]) (λh=>by simp[Zr,E]at h);have i:at'=o.at':=Y2 (by simpa[ZN]using v);subst i;simp[WM,t]at j;have u:o.kind=4:=by
  rcases S with h|h;have:=C.1 h;omega;exact h
 simp[Zj,Zi,u]at c;exact A ⟨o.at',4,[],[],0⟩ _ (by rw[<-j.1];simp) c rfl (by simp[Zr,u]) (λ_ y z=>Zc3 (F u y) (by omega) (by omega) (by simp) (by simp) B z);have i:at'=o.at':=Y2 (by simpa[ZN]using v);subst i;simp[WM,t]at j;have u:o.kind=4:=by
  rcases S with h|h;have:=C.1 h;rw[j.2]at this;simp at this;exact h
 have O:(⟨o.at',3,Q,X4 T,0⟩:Fd)∈cs:=by rw[<-j.1];simp
 cases y:o.has;have G:TI o J=(o.text,Ht):=by unfold TI;rw[if_neg (by omega),if_pos y]
 simp[Zj,Zi,G]at c;exact A _ _ O c rfl (by simp[Zr,YW,u]) (λ_ h=>by simp[Zr,YW,y]at h);have G:TI o J=Xc J o.text:=by unfold TI;rw[if_neg (by omega),if_neg (by rw[y];simp)]
 have N:=F u y;have B:UK J o.text=true:=by
  rw[<-Za6];simp only[Xo,Jc]at N;have:=N.2;rw[j.2]at this;simpa using this
 obtain⟨t1,t2⟩:=Zg9 (Zki R).1 B;simp[Zj,Zi,G,t2]at c;refine A _ _ O c rfl (by simp[Zr,YW,u]) (λ_ _ z=> ?_);rw[<-Za6]at t1;simp only[Xo,z,Zr,YW];simpa using t1;simp[WM,Uu]at j;have xa:ZN ⟨9,at',nm,Q,K,fd,J,T⟩= [Zy at' nm,Zy at' Q]:=by simp[ZN]
 split at j;simp at j;split at j;simp at j;rename_i u1 u2;simp only[not_or,JR]at u1 u2;simp only[JW.injEq,and_true]at j;split at c;simp at c;rename_i hb;have E:o.kind=3:=by
  rcases S with h|h;exact h;simp[Zj,V1,h]at hb
 simp only[JW.injEq,and_true]at c;exact A ⟨at',1,[],[],(Zp l (Zy at' nm)).1.worth⟩ _ (by rw[<-j];simp) c (by simp[Zi,Zr]) (by simp[Zr,Zj,Z5,E]) (λh=>by simp[Zr,Zj,Z5,E]at h);have i:at'=o.at':=Y2 (by simpa[ZN]using v);subst i;simp[WM,t]at j;have u:o.kind=4:=by
  rcases S with h|h;have:=C.1 h;omega;exact h
 simp[Zj,Zi,u]at c;exact A ⟨o.at',2,Q,[],0⟩ _ (by rw[<-j.1];simp) c rfl (by simp[Zr,u]) (λ_ y z=>Zc3 (F u y) (by omega) (by omega) (by simp) (by simp) B z)
def ZrL {o:Opn} (h:Ws o=Ht) (hp:ZG o=false):o.at'=Jd:=by
 simp only[Ws,Jc,JQ,JK,Bool.not_eq_false']at h;have c:=h.1.1;have a:=of_decide_eq_true h.1.2;rw[a];simp only[ZG,JK,beq_eq_false_iff_ne]at hp;unfold Tj;split;rfl;split;rfl;split;rename_i h;exact absurd h hp.1;split;rename_i h;exact absurd h hp.2;split;rfl;rfl
def ZnA {l:List Fd} {o:Opn} (m:ZP l=Ht) (h:G3 l o=Ht):FitW l o:=by
 refine⟨λhp=> ?_,λhp=>ZrL (ZaZ h) hp,λp=>Worth.start h m p⟩;obtain⟨c,f,g,q⟩:=Gq h hp;have a:Zp l o.at'=((Zp l o.at').1,0):=JJ rfl c;exact⟨_,a,⟨f,λj=>Zf0 h hp a j⟩,λr i=>g (by omega) i⟩
theorem ZfZ:∀(xs:List Ln) {l m:List Fd} {o p:Opn},Gr xs l=Hs m->FitW l o->Wd xs o=(p,Ht)->FitW m p
 | [],l,m,o,p,hf,h,ho=>by
  simp only[Gr,JZ.injEq]at hf;simp only[Wd,JW.injEq,and_true]at ho;subst hf ho;exact h
 |x::xs,l,m,o,p,hf,h,ho=>by
  unfold Gr at hf;split at hf;cases hf;rename_i a;rw[ZaD]at ho;split at ho;simp at ho;rename_i c;exact ZfZ xs hf (ZjB (m:=(ZW l x).1) (JJ rfl (J3.1 a)) h (JJ rfl (by simpa using c))) ho
def ZlN {l:List Rf} {r:Rf} {i:Nat} (p:l.Nodup) (c:i<l.length) (h:l.getD i Jd=r):Yn l r=(i:Int):=by
 have o:r∈l:=by rw[<-h];exact Zc c
 by_cases hp:Yn l r<0;exact absurd o (X7 hp);obtain⟨j,m,f,g⟩:=VG hp;rw[m];congr 1;rw[getD_lt f]at g;rw[getD_lt c]at h;have a:=List.pairwise_iff_getElem.1 p;rcases Nat.lt_trichotomy j i with q|q|q;exact absurd (by rw[g,h]) (a j i f c q);exact q;exact absurd (by rw[g,h]) (a i j c f q)
def Zej (l:List Opn):Int:=(l.map Opn.delta).sum
def Sm (l:List Opn):Prop:=∀o∈l,o.kind=3/\ -1099511627776<=o.delta/\o.delta<=1099511627776
def UI (o:Opn) (l:List Opn):Zej (o::l)=o.delta+Zej l:=by simp[Zej]
theorem Zta:∀(l:List Opn) (s:Int) (n:Nat),Sm l->n+l.length<=1000-> -1099511627776*(n:Int)<=s->s<=1099511627776*(n:Int)->l.foldl Uw s=s+Zej l
 | [],s,n,_,_,_,_=>by simp[Zej]
 |o::l,s,n,h,hn,h1,h2=>by
  obtain⟨k,f,d2⟩:=h o (by simp);have a:n+1+l.length<=1000:=by simp at hn;omega
  have e:Uw s o=s+o.delta:=by
   unfold Uw;rw[if_pos ⟨k,Yw.2 (by unfold Lim;omega),Yw.2 (by unfold Lim;omega)⟩]
  rw[JF,e,Zta l (s+o.delta) (n+1) (λx c=>h x (by simp[c])) a (by omega) (by omega),UI];omega
def ZiY {l:List Opn} (h:Sm l) (a:l.length<=1000):Zhx l=Zej l:=by
 unfold Zhx;rw[Zta l 0 0 h (by omega) (by omega) (by omega)];omega
theorem F8:∀ {l:List Opn},Sm l-> -1099511627776*(l.length:Int)<=Zej l/\Zej l<=1099511627776*(l.length:Int)
 | [],_=>by simp[Zej]
 |o::l,h=>by
  obtain⟨_,c,d2⟩:=h o (by simp);have:=F8 (l:=l) (λx a=>h x (by simp[a]));rw[UI,Jb];omega
def Zjw {l:List Opn} (h:Sm l) (a:l.length<=1000):Lim (Zej l):=by
 have:=F8 h;unfold Lim;omega
theorem Zf4 {g:Opn->Opn}:∀(l:List Opn) (s:Int),(∀o∈l,(g o).kind=o.kind/\(g o).delta=o.delta)->(l.map g).foldl Uw s=l.foldl Uw s
 | [],_,_=>rfl
 |o::l,s,h=>by
  have a:=h o (by simp);rw[Jh,JF,JF,show Uw s (g o)=Uw s o by unfold Uw;rw[a.1,a.2]];exact Zf4 l _ λx c=>h x (by simp[c])
def Zkm {g:Opn->Opn} {l:List Opn} (h:∀o∈l,(g o).kind=o.kind/\(g o).delta=o.delta):Zhx (l.map g)=Zhx l:=Zf4 l 0 h
theorem Fn {g:Opn->Opn} {c:Str->Str}:∀ {l:List Opn},(∀o∈l,(g o).kind=o.kind/\(g o).has=o.has/\((o.kind==4&&o.has)=Ht->(g o).text=c o.text))->Yc (l.map g)=(Yc l).map c
 | [],_=>rfl
 |o::l,h=>by
  have f:=Fn (l:=l) λx q=>h x (by simp[q])
  obtain⟨i,j,m⟩:=h o (by simp);unfold Yc at f ⊢;rw[Jh];cases a:(o.kind==4&&o.has);rw[Je (p:=λo:Opn=>o.kind==4&&o.has) (by rw[i,j,a];simp),Je (p:=λo:Opn=>o.kind==4&&o.has) (by rw[a];simp)];exact f;rw[Jf (p:=λo:Opn=>o.kind==4&&o.has) (by rw[i,j];exact a),Jf (p:=λo:Opn=>o.kind==4&&o.has) a,Jh,Jh,Jh,m a,f]
def ZdO {g:Opn->Opn} {l:List Opn} (h:∀o∈l,(g o).kind=o.kind/\(g o).has=o.has/\(g o).text=o.text):Yc (l.map g)=Yc l:=by
 rw[Fn (c:=id) λo a=>⟨(h o a).1,(h o a).2.1,λ_=>(h o a).2.2⟩,J2]
def ZsA (f:Fd):TB f []=ZD f:=by
 unfold TB;by_cases a:f.kind=1;rw[if_pos a];simp[ZD,a,Zhx];rw[if_neg a];by_cases c:f.kind=4;simp[c,ZD,Yc];simp[c,ZD,Yc]
def ZaI (x:Ln) (o:Opn):(Zj x o).1.item=o.item:=by
 unfold Zj;repeat' split
 all_goals rfl
def Ff {x:Ln} {o p:Opn} (a:Va x o=(p,Ht)):
  (p=o/\(ZG o=Ht->o.at'∉ZN x))\/(ZG o=Ht/\o.at'∈ZN x/\Zi x≠ []/\(Zj x o).2=Ht/\p=Zr (Zj x o).1 ((Zi x).getD 0 Jd)):=by
 cases f:Zx x;unfold Va at a;rw[if_pos f]at a;simp at a;cases hp:ZG o;rw[Fg f hp]at a;cases a;exact .inl ⟨rfl,λh=>by cases h⟩;rw[Tl f hp]at a;split at a;rename_i h;cases a;exact .inl ⟨rfl,λ_=>X7 h⟩;rename_i h;split at a;simp at a;rename_i r;simp only[JW.injEq,and_true]at a;obtain⟨g,_,m,q⟩:=VG h;have c:(Zj x o).2=true:=by simpa using r
 refine .inr ⟨rfl,by rw[<-q];exact Zc m,λt=> ?_,c,a.symm⟩;have i:=(Yz f).1;obtain⟨kind,j,nm,y,l,v,w,u⟩:=x;simp only at i;rcases i with rfl|rfl|rfl|rfl|rfl|rfl|rfl|rfl|rfl|rfl
 all_goals simp[Zi]at t
 all_goals simp[Zj]at c
def ovO (x:Ln) (o:Opn):Option Opn:=if(Va x o).2=Ht then Hs (Va x o).1 else none
def SP {x:Ln} {o p:Opn}:ovO x o=Hs p↔Va x o=(p,Ht):=by
 unfold ovO;constructor;intro h;split at h;rename_i a;simp only[JZ.injEq]at h;exact JJ h a;cases h;intro h;rw[h];rfl
theorem ZdQ {S:List Opn} {F:Opn->Option Opn} {s:Sp} (p:Opn->Bool) (g:Opn->Opn)
  (f:∀o∈S,p o=Ht->F o=Hs (g o)/\spO (g o)=s) (i:∀o∈S,p o=false-> ∀y,F o=Hs y->spO y≠s):
  Zn (S.filterMap F) s=(S.filter p).map g:=by
 unfold Zn;induction S with
 |nil=>rfl
 |cons o S a=>
  have a:=a (λo h=>f o (by simp[h])) (λo h=>i o (by simp[h]));cases hp:p o;rw[Je (by rw[hp];simp)];cases c:F o with
  |none=>rw[List.filterMap_cons_none c];exact a
  |some y=>
   rw[JA c,Je (by simpa using i o (by simp) hp y c)];exact a
  obtain⟨j,l⟩:=f o (by simp) hp;rw[Jf (by exact hp),JA j,Jf (by simpa using l),Jh,a]
def Tn {f:Fd} (h:ZT f=Ht):f.at'≠Jd:=λe=>by
 simp only[ZT,Jc]at h;have:=h.1;rw[e]at this;exact absurd this (by decide)
def ZnC {l:List Fd} {o:Opn} (h:FitW l o) (hp:ZG o=Ht):On l o.at':=by
 obtain⟨f,a,_⟩:=h.f hp;have:=Y1 (l:=l) (r:=o.at') (by rw[a]);exact⟨_,this.1,this.2⟩
def Zma {l m:List Fd} {x:Ln} {S:List Opn} {it:Str} (C:ZW l x=(m,0)) (Q:∀o∈S,FitW l o) {g:Fd} (D:g∈m) (hp:Yn (Zi x) g.at'<0):g∈l/\Zn (S.filterMap (ovO x)) ⟨it,g.at'⟩=Zn S ⟨it,g.at'⟩:=by
 obtain⟨E,r,cs,l1,A,e2,B⟩:=Xb C;obtain⟨v,w,I,J,K⟩:=Ga E e2;obtain⟨M,z,N,O,P⟩:=WU v B;have q:=Su (Yz r).1 A;have i:g∈l1:=by
  rcases(z g).1 D with h|h;exact h;exact absurd (by rw[<-q];exact Jq.2 ⟨g,h,rfl⟩) (X7 hp)
 obtain⟨j,p⟩:=(w g).1 i;refine⟨j,?_⟩;rw[ZdQ (λo=>decide (spO o=⟨it,g.at'⟩)) id,J2];rfl;intro o F hd;have hd:=of_decide_eq_true hd;have f:o.at'=g.at':=congrArg Sp.at' hd;refine⟨?_,hd⟩;rw[SP];cases c:ZG o;exact Fg r c;rw[Tl r c,if_pos (by rw[ZlO (by rw[f];exact p)];omega)];rfl;intro o F hd y G u;have hd:=of_decide_eq_false hd;rcases Ff (SP.1 G)with ⟨rfl,_⟩|⟨_,_,hc,_,rfl⟩;exact hd u;have:(Zi x).getD 0 Jd=g.at':=congrArg Sp.at' u;refine X7 hp ?_;rw[<-this];exact Zc (by cases h:Zi x with|nil=>exact absurd h hc|cons a t=>simp)
def ZeU {l m:List Fd} {x:Ln} {S:List Opn} {it:Str} (u:ZW l x=(m,0)) (r:∀o∈S,FitW l o) {c:Rf} (v:(Zi x).getD 0 Jd=c) (i:Zi x≠ []) (j:c≠Jd):
  Zn (S.filterMap (ovO x)) ⟨it,c⟩=(S.filter λo=>ZG o&&(decide (o.item=it)&&(decide (o.at'∈ZN x)&&(Zj x o).2))).map λo=>Zr (Zj x o).1 c:=by
 have D:=(Xb u).2.1;refine ZdQ _ _ ?_ ?_;intro o p hp;simp only[Jc,decide_eq_true_eq]at hp;obtain⟨z,A,B,C⟩:=hp;refine⟨?_,by simp only[spO,Zr,ZaI,A]⟩;rw[SP,Tl D z,if_neg,if_neg (by rw[C];simp),v];intro h;exact X7 h B;intro o p hp y E w;have q:y.item=it:=congrArg Sp.item w;have g:y.at'=c:=congrArg Sp.at' w;rcases Ff (SP.1 E)with ⟨rfl,hn⟩|⟨q1,q2,q3,q4,rfl⟩;cases f:ZG y;exact j (by rw[<-g];exact(r _ p).z f);refine ZsV u (ZnC (r _ p) f) (hn f) ?_;rw[g,<-v];exact Zc (by cases h:Zi x with|nil=>exact absurd h i|cons a t=>simp);have:o.item=it:=by rw[<-q];simp only[Zr,ZaI]
 rw[q1,q4,decide_eq_true q2,decide_eq_true this]at hp;cases hp
def Dz {l m:List Fd} {x:Ln} {S:List Opn} {it:Str} (t:ZW l x=(m,0)) (q:∀o∈S,FitW l o) {c a:Rf} (v:(Zi x).getD 0 Jd=c) (j:Zi x≠ []) (p:c≠Jd) (w:ZN x= [a]) (i:a≠Jd)
  (u:∀o∈S,ZG o=Ht->o.at'=a->(Zj x o).2=Ht):Zn (S.filterMap (ovO x)) ⟨it,c⟩=(Zn S ⟨it,a⟩).map λo=>Zr (Zj x o).1 c:=by
 rw[ZeU t q v j p];congr 1;unfold Zn;apply List.filter_congr;intro o r;rw[Bool.eq_iff_iff];simp only[Jc,decide_eq_true_eq,w,Ji,spO,Sp.mk.injEq];constructor;rintro ⟨_,g,f,_⟩;exact⟨g,f⟩;rintro ⟨g,f⟩;have hp:ZG o=true:=by
  cases h:ZG o;exact absurd (f▸(q o r).z h) i;rfl
 exact⟨hp,g,f,u o r hp f⟩
def Zhd {S:List Opn} {s:Sp} {o:Opn} (h:o∈Zn S s):o∈S/\spO o=s:=by
 unfold Zn at h;rw[Jk]at h;exact⟨h.1,of_decide_eq_true h.2⟩
def Zal {l:List Fd} {S:List Opn} {it:Str} (u:ZP l=Ht) (i:∀o∈S,FitW l o) {f:Fd} (m:f∈l) (y:f.kind=1):Sm (Zn S ⟨it,f.at'⟩):=λo v=>by
 obtain⟨c,t⟩:=Zhd v;have a:o.at'=f.at':=congrArg Sp.at' t;have p:=(ZL.1 u).2;have hp:ZG o=true:=by
  cases h:ZG o;exact absurd (a▸(i o c).z h) (Tn (p.2 f m));rfl
 obtain⟨g,j,r,_⟩:=(i o c).f hp;rw[a,YZ p.1 m]at j;cases j;have q:=r.2 y;obtain⟨w,x⟩:=(i o c).w q;exact⟨q,x.delta⟩
def Zam {l:List Fd} {S:List Opn} {it:Str} (v:ZP l=Ht) (j:∀o∈S,FitW l o) {f:Fd} (m:f∈l) (x:f.kind≠1):∀o∈Zn S ⟨it,f.at'⟩,ZG o=Ht/\o.kind=4/\(o.has=Ht->Xo f o.text=Ht):=λo w=>by
 obtain⟨i,u⟩:=Zhd w;have a:o.at'=f.at':=congrArg Sp.at' u;have p:=(ZL.1 v).2;have hp:ZG o=true:=by
  cases h:ZG o;exact absurd (a▸(j o i).z h) (Tn (p.2 f m));rfl
 obtain⟨g,c,r,t⟩:=(j o i).f hp;rw[a,YZ p.1 m]at c;cases c;have q:o.kind=4:=by
  rcases FF hp with h|h;exact absurd (r.1 h) x;exact h
 exact⟨hp,q,t q⟩
def Zrh {l:List Fd} {sc:Int} {f:Fd} (a:f∈l) (h:f.at'.sc=sc):f∈Zk l sc:=Jk.2 ⟨a,by simpa using h⟩
def Zj2 {l:List Fd} {sc:Int} {f:Fd} (h:f∈Zk l sc):f∈l/\f.at'.sc=sc:=by
 obtain⟨a,c⟩:=Jk.1 h;exact⟨a,by simpa using c⟩
def ZkW {y k w:Int} (a:1<=k) (h:y*k=w) (f: -1099511627776<=w) (g:w<=1099511627776): -1099511627776<=y/\y<=1099511627776:=by
 constructor;refine Jy λc=> ?_
 have:=Jt a (show 0<= -y by omega);rw[Int.mul_one,Int.neg_mul,h]at this;omega;refine Jy λc=> ?_
 have:=Jt a (show 0<=y by omega);rw[h]at this;omega
theorem Zgl {P:Opn->Bool} {h:Opn->Opn} {su sv:Sp} {f:Int} (m:su≠sv):∀ {S:List Opn},(∀o∈S,spO o=su->P o=Ht/\(h o).delta=o.delta)->(∀o∈S,spO o=sv->P o=Ht/\(h o).delta=f*o.delta)->(∀o∈S,spO o≠su->spO o≠sv->P o=false)->
  Zej ((S.filter P).map h)=Zej (Zn S su)+f*Zej (Zn S sv)
 | [],_,_,_=>by simp[Zej,Zn]
 |o::S,hu,hv,hn=>by
  have i:=Zgl m (S:=S) (λo c=>hu o (by simp[c])) (λo c=>hv o (by simp[c])) (λo c=>hn o (by simp[c]));unfold Zn at i ⊢;by_cases a:spO o=su;obtain⟨j,l⟩:=hu o (by simp) a;rw[Jf j,Jf (by simpa using a),Je (by simpa using λe=>m (a.symm.trans e)),Jh,UI,UI,l,i];omega;by_cases g:spO o=sv;obtain⟨j,l⟩:=hv o (by simp) g;rw[Jf j,Je (by simpa using a),Jf (by simpa using g),Jh,UI,UI,l,i,Int.mul_add];omega;rw[Je (by rw[hn o (by simp) a g];simp),Je (by simpa using a),Je (by simpa using g)];exact i
def Agr (l:List Fd) (sc:Int) (it:Str) (es:List En) (S:List Opn) (R:Rf->Bool):Prop:=∀g∈Zk l sc,g.kind=1\/R g.at'=Ht->ZpY es g.at'=Hs (TB g (Zn S ⟨it,g.at'⟩))
def WR (S:List Opn) (s:Sp):(Zn S s).length<=S.length:=JG _ _
def Zrl {c:Str->Str} {l:List Str} (h:l.length≠0):(l.map c).getD ((l.map c).length-1) []=c (l.getD (l.length-1) []):=by
 rw[Jl,Jp,Jp,JS,JB (show l.length-1<l.length by omega)];rfl
def Zsc {l m cs:List Fd} {x:Ln} {es:List En} {sc:Int} {it:Str} {S:List Opn} {R:Rf->Bool} {g:Fd} {i:Nat} (ha:ZW l x=(m,0)) (J:∀o∈S,FitW l o) (hn:S.length<=1000) (hA:Agr l sc it es S R)
  (j:WM l x=(cs,Ht)) (hi:i<cs.length) (xd:cs.getD i Jd=g) (hm:g∈m) (yf:Yn (Zi x) g.at'=(i:Int)) (X:g.at'.sc=sc) (hR:g.kind=1\/(Zpi x g.at'=Ht/\ ∀s∈Zub x g.at',R s=Ht)):
  Zmy x g (i:Int) es=(TB g (Zn (S.filterMap (ovO x)) ⟨it,g.at'⟩),0):=by
 obtain⟨hl,hx,cs',l1,e1,e2,e3⟩:=Xb ha;rw[j]at e1;cases e1;obtain⟨a1,a2,a3,a4,a5⟩:=Ga hl e2;obtain⟨b1,b2,b3,b4,b5⟩:=WU a1 e3;have xb:=(ZL.1 hl).2;have xk:=(ZL.1 b1).2.2 _ hm;have Q:=Tn xk;have xf:=Su (Yz hx).1 j;have ya:∀o∈S.filterMap (ovO x),FitW m o:=λo C=>by
  obtain⟨q,q1,q2⟩:=JO.1 C;exact ZjB ha (J q q1) (SP.1 q2)
 have xv:(Zn (S.filterMap (ovO x)) ⟨it,g.at'⟩).length<=1000:=Jn (WR _ _) (Jn (List.length_filterMap_le _ _) hn);have src:∀r,(Zp l r).2=0->r.sc=sc->((Zp l r).1.kind=1\/R r=Ht)->ZpY es r=Hs (TB (Zp l r).1 (Zn S ⟨it,r⟩)):=λr V h2 h3=>by
  obtain⟨U,N⟩:=Y1 V;have:=hA (Zp l r).1 (Jk.2 ⟨U,by rw[N];simp[h2]⟩) (by rw[N];exact h3);rwa[N]at this
 have hf:x.kind≠2->x.kind≠3->x.kind≠9->(Zp l x.at').2=0:=λa b c=>by
  unfold WM at j;simp only[if_neg a,if_neg b,if_neg c]at j;by_cases h:(Zp l x.at').2=0;exact h;rw[if_pos h]at j;simp at j
 have D:(Zi x).getD i Jd=g.at':=by
  rw[<-xf,Jp,JS,JB hi];rw[getD_lt hi]at xd;simp[xd]
 have W:Zi x≠ []:=λh=>by rw[<-xf]at h;have:=congrArg List.length h;simp at this;subst this;simp at hi
 have xc:i=0->Zub x g.at'=ZN x:=λh0=>by
  unfold Zub;rw[if_neg (by rw[hx];simp),if_neg (by omega),if_neg (by rw[yf,h0];rintro ⟨_,h⟩;simp at h)]
 have xs:=(Yz hx).1;have nil:Zn (S.filterMap (ovO x)) ⟨it,g.at'⟩= []->Zmy x g (i:Int) es=(ZD g,0)->Zmy x g (i:Int) es=(TB g (Zn (S.filterMap (ovO x)) ⟨it,g.at'⟩),0):=λV h2=>by rw[V,h2,ZsA]
 have one:∀c:Fd,cs= [c]->i=0/\c=g:=λc hc=>by
  subst hc;have:i=0:=by simpa using hi
  subst this;exact⟨rfl,xd⟩
 have mv:x.kind=1\/x.kind=4\/x.kind=5->i=0->g.at'.sc=x.at'.sc->g.kind=(Zp l x.at').1.kind->g.df=(Zp l x.at').1.df->Zmy x g (i:Int) es=(TB g (Zn (S.filterMap (ovO x)) ⟨it,g.at'⟩),0):=λhk h0 hs Z xz=>by
  have p:=hf (by omega) (by omega) (by omega);have E:ZN x= [x.at']:=by unfold ZN;rw[if_neg (by omega),if_neg (by omega),if_neg (by omega)]
  obtain⟨U,N⟩:=Y1 p;have V:=src x.at' p (by rw[<-hs];exact X) (by
   rcases hR with h|⟨_,h⟩;exact .inl (Z▸h);exact .inr (h _ (by rw[xc h0,E];simp)))
  have hb:∀o,(Zj x o)=(o,Ht):=λo=>by unfold Zj;rw[if_pos hk]
  have ht:=Dz (it:=it) ha J (c:=g.at') (by rw[<-D,h0]) W Q E (by rw[<-N];exact Tn (xb.2 _ U)) (λo _ _ _=>by rw[hb o]);rw[ht];simp only[hb];unfold Zmy;rw[if_neg (by omega),E];simp only[Jm,V];rw[if_neg (by omega)];unfold ZnL;rw[if_neg (by omega),if_neg (by omega),if_neg (by omega),if_neg (by omega),if_neg (by omega)];generalize Zn S ⟨it,x.at'⟩=T;congr 1;unfold TB;rw[Zkm (g:=λo=>Zr o g.at') (λo _=>⟨rfl,rfl⟩),ZdO (g:=λo=>Zr o g.at') (λo _=>⟨rfl,rfl,rfl⟩)];simp only[ZD,Z,xz];split<;>rfl
 clear e2 e3 a5 b5;obtain⟨kind,at',nm,ot,fac,I,fo,F⟩:=x;simp only at xs mv hf;rcases xs with rfl|rfl|rfl|rfl|rfl|rfl|rfl|rfl|rfl|rfl;have p:=hf (by decide) (by decide) (by decide);simp[WM,Zi,p]at j;obtain⟨M,v⟩:=one _ j.symm;subst v;exact mv (by omega) M rfl rfl rfl;simp[WM]at j;obtain⟨M,v⟩:=one _ j.symm;refine nil ?_ (by unfold Zmy;rw[if_pos (.inl rfl)]);rw[ZeU (it:=it) ha J (c:=g.at') (by rw[<-D,M]) W Q,JE.2,List.map_nil];intro o C h;simp[ZN]at h;simp[WM]at j;have:=j.1;subst this;simp at hi;have p:=hf (by decide) (by decide) (by decide);simp[WM,Zi,p]at j;obtain⟨M,v⟩:=one _ j.symm;subst v;exact mv (by omega) M rfl rfl rfl;have p:=hf (by decide) (by decide) (by decide);simp[WM,Zi,p]at j;obtain⟨M,v⟩:=one _ j.symm;subst v;exact mv (by omega) M rfl rfl rfl;have p:=hf (by decide) (by decide) (by decide);simp[WM,p]at j;obtain⟨hc,Z⟩:=j;have E:ZN ⟨6,at',nm,ot,fac,I,fo,F⟩= [at']:=by simp[ZN]
 have xr:Zi ⟨6,at',nm,ot,fac,I,fo,F⟩= [Zy at' nm,Zy at' ot]:=by simp[Zi]
 by_cases h0:i=0;subst h0;have xu:g.at'=Zy at' nm/\g.kind=1:=by rw[<-xd,<-hc];exact⟨rfl,rfl⟩
 obtain⟨U,N⟩:=Y1 p;have V:=src at' p (by rw[<-X,xu.1];rfl) (.inl Z);have yg:=Zal (it:=it) hl J U Z;rw[N]at yg;have ht:=Dz (it:=it) ha J (c:=g.at') (by rw[<-D]) W Q E (by rw[<-N];exact Tn (xb.2 _ U)) (λo C hp t=>by
  obtain⟨f,f1,f2,_⟩:=(J o C).f hp;have:o.kind=3:=f2.2 (by rw[t]at f1;have:=congrArg J5 f1;simp only at this;rw[<-this];exact Z);simp[Zj,this])
 have hb:∀o,(Zj ⟨6,at',nm,ot,fac,I,fo,F⟩ o).1=o:=λo=>by simp[Zj]
 rw[ht];simp only[hb];unfold Zmy;rw[if_neg (by simp),E];simp only[Jm,V];rw[if_neg (by omega)];unfold ZnL;rw[if_pos rfl];generalize Zn S ⟨it,at'⟩=T;congr 1;unfold TB;rw[Zkm (g:=λo=>Zr o g.at') (λo _=>⟨rfl,rfl⟩)];simp only[Z,xu.2,if_true];refine nil ?_ (by unfold Zmy;rw[if_pos (.inr ⟨rfl,by omega⟩)]);have xe:(Zi ⟨6,at',nm,ot,fac,I,fo,F⟩).getD 0 Jd≠g.at':=λe=>by
  have xw:=b4;rw[xf,xr]at xw;have ye:i=1:=by rw[<-hc]at hi;simp at hi;omega
  rw[ye]at D;rw[xr]at D e;simp only[Jm,JM]at D e;rw[<-D]at e;simp[e]at xw
 unfold Zn;rw[JE];intro y hy hd;have hd:=of_decide_eq_true hd;have xo:y.at'=g.at':=congrArg Sp.at' hd;obtain⟨o,o1,o2⟩:=JO.1 hy;rcases Ff (SP.1 o2)with ⟨rfl,hq⟩|⟨_,_,_,_,rfl⟩;cases xm:ZG y;exact Q (by rw[<-xo];exact(J _ o1).z xm);refine ZsV ha (ZnC (J _ o1) xm) (hq xm) ?_;rw[xo,<-D];exact Zc (by rw[<-xf,Jl];exact hi);exact xe xo;have p:=hf (by decide) (by decide) (by decide);simp[WM,p]at j;obtain⟨M,v⟩:=one _ j.1.symm;subst v;exfalso;rcases hR with h|⟨h,_⟩;simp at h;simp[Zpi,hx,Zi]at h;have p:=hf (by decide) (by decide) (by decide);simp[WM,p]at j;obtain⟨hc,Z⟩:=j;obtain⟨M,v⟩:=one _ hc.symm;have E:ZN ⟨8,at',nm,ot,fac,I,fo,F⟩= [at']:=by simp[ZN]
 obtain⟨U,N⟩:=Y1 p;have z:g.at'=at'/\g.kind=3/\g.df=ot:=by rw[<-v];exact⟨rfl,rfl,rfl⟩
 have V:=src at' p (by rw[<-X,z.1]) (by
  rcases hR with h|⟨_,h⟩;rw[z.2.1]at h;cases h;exact .inr (h _ (by rw[xc M,E];simp)))
 have O:(Zp l at').1.kind=3/\(Zp l at').1.df=nm/\(Zp l at').1.cases'=X4 fo:=by rw[Z];exact⟨rfl,rfl,rfl⟩
 have K:=Zam (it:=it) hl J U (by rw[O.1];decide);rw[N]at K;have xj:=Zki hx;have conv:∀o,o.kind=4->(o.has=Ht->Xo (Zp l at').1 o.text=Ht)->(TI o fo).2=Ht/\(o.has=Ht->(TI o fo).1=(Xc fo o.text).1):=λo k4 hh=>by
  unfold TI;rw[if_neg (by omega)];cases h:o.has;rw[if_pos rfl];exact⟨rfl,λh=>by cases h⟩;rw[if_neg (by simp)];have xt:=hh h;have xk:UK fo o.text=true:=by
   rw[<-Za6];simp only[Xo,Jc]at xt;have:=xt.2;rw[O.1,O.2.2]at this;simpa using this
  exact⟨(Zg9 xj.1 xk).2,λ_=>rfl⟩
 have ht:=Dz (it:=it) ha J (c:=g.at') (by rw[<-D,M]) W Q E (by rw[<-N];exact Tn (xb.2 _ U)) (λo C hp t=>by
  have xl:o∈Zn S ⟨o.item,at'⟩:=Jk.2 ⟨C,by simp[spO,t]⟩;have K:=Zam (it:=o.item) hl J U (by rw[O.1];decide);rw[N]at K;obtain⟨_,q2,q3⟩:=K o xl;simp[Zj,(conv o q2 q3).1])
 have hb:∀o,(Zj ⟨8,at',nm,ot,fac,I,fo,F⟩ o).1=YW o (TI o fo).1:=λo=>by simp[Zj]
 rw[ht];simp only[hb];unfold Zmy;rw[if_neg (by simp),E];simp only[Jm,V];rw[if_neg (by omega)];unfold ZnL;rw[if_neg (by simp),if_neg (by simp),if_neg (by simp),if_pos rfl];generalize Zn S ⟨it,at'⟩=T at *;congr 1;have yh:Yc (T.map λo=>Zr (YW o (TI o fo).1) g.at')=(Yc T).map λs=>(Xc fo s).1:=Fn λo C=>⟨rfl,rfl,λh=>by
  simp only[Jc]at h;obtain⟨_,q2,q3⟩:=K o C;exact(conv o q2 q3).2 h.2⟩
 unfold TB;rw[yh];simp only[z.2.1,O.1,Jl];simp only[show ¬(3:Int)=1 by decide,show ¬(3:Int)=4 by decide,if_false];have xn:(ZD g).l= [ot]:=by simp[ZD,z.2.1,z.2.2]
 have yi:(ZD (Zp l at').1).l= [nm]:=by simp[ZD,O.1,O.2.1]
 by_cases hz:(Yc T).length=0;rw[if_pos hz,if_pos hz,xn,yi];simp[xj.2];rw[if_neg hz,if_neg hz];have:=Zrl (c:=λs=>(Xc fo s).1) hz;rw[Jl]at this;rw[this];simp;simp only[WM,Int.reduceEq,if_false,if_true,Uu]at j;split at j;simp at j;split at j;simp at j;rename_i u1 u2;simp only[not_or,JR]at u1 u2;simp only[JW.injEq,and_true]at j;obtain⟨q1,q2⟩:=u1;obtain⟨q3,q4,q5⟩:=u2;obtain⟨M,v⟩:=one _ j.symm;have E:ZN ⟨9,at',nm,ot,fac,I,fo,F⟩= [Zy at' nm,Zy at' ot]:=by simp[ZN]
 have z:g.at'=at'/\g.kind=1:=by rw[<-v];exact⟨rfl,rfl⟩
 have V:=src (Zy at' nm) q1 (by rw[<-X,z.1];rfl) (.inl q2);have h2:=src (Zy at' ot) q3 (by rw[<-X,z.1];rfl) (.inl q4);obtain⟨u1,u2⟩:=Y1 q1;obtain⟨v1,v2⟩:=Y1 q3;have Y:=Zal (it:=it) hl J u1 q2;have xg:=Zal (it:=it) hl J v1 q4;rw[u2]at Y;rw[v2]at xg;have xy:=Zal (it:=it) b1 ya hm z.2;have xe:Zy at' nm≠Zy at' ot:=λe=>by
  have:=a4;rw[E]at this;simp[e]at this
 have xh:2<=fac/\fac<=1000:=by
  have xx:=hx;unfold Zx at xx;simp[-Bool.not_eq_eq_eq_not]at xx;omega
 have ym:0<(Zp l (Zy at' nm)).1.worth/\(Zp l (Zy at' nm)).1.worth<1048577:=by
  have:=xb.2 _ u1;simp only[ZT,q2,if_true,Jc,decide_eq_true_eq]at this;exact this.2.2.2
 have yl:(Zp l (Zy at' ot)).1.worth=(Zp l (Zy at' nm)).1.worth*fac:=by
  rw[q5];refine Sj ?_;have p1:(Zp l (Zy at' nm)).1.worth*fac<=1048577*fac:=Js (by omega) (by omega);have p2:0*fac<=(Zp l (Zy at' nm)).1.worth*fac:=Js (by omega) (by omega);omega
 have xp:∀o∈S,spO o=⟨it,Zy at' nm⟩->ZG o=Ht/\o.kind=3/\o.at'=Zy at' nm:=λo C h=>by
  have t:o.at'=Zy at' nm:=congrArg Sp.at' h;exact⟨by have:=(Y o (Jk.2 ⟨C,by simpa using h⟩)).1;simp[ZG,this],(Y o (Jk.2 ⟨C,by simpa using h⟩)).1,t⟩
 have xq:∀o∈S,spO o=⟨it,Zy at' ot⟩->ZG o=Ht/\o.kind=3/\o.at'=Zy at' ot/\SZ 0 o.delta fac=(fac*o.delta,0)/\Xp o.delta=true:=λo C h=>by
  have t:o.at'=Zy at' ot:=congrArg Sp.at' h;obtain⟨k3,d1,d2⟩:=xg o (Jk.2 ⟨C,by simpa using h⟩);have xa:Xp o.delta=true:=Yw.2 (by unfold Lim;omega);obtain⟨w,hw⟩:=(J o C).w k3;obtain⟨_,⟨f,f1,f2,f3,f4,f5⟩,w1,w2⟩:=hw;have yd:f=(Zp l (Zy at' ot)).1:=by rw[<-t,f1]
  rw[yd,yl,JT (Zp l (Zy at' nm)).1.worth,<-Int.mul_assoc]at f5;obtain⟨y1,y2⟩:=ZkW (y:=o.delta*fac) (by omega) f5 w1 w2;have hm:=(ZjZ (u:=0) xh (by unfold Lim;omega) (Yw.1 xa)).2.2;rw[if_pos ⟨Yw.2 (by unfold Lim;omega),Yw.2 (by unfold Lim;omega)⟩]at hm;unfold ZlC at hm;rw[if_pos ⟨by decide,xa⟩]at hm;have hj:SZ 0 o.delta fac=(fac*o.delta,0):=by
   split at hm;rename_i hz;refine JJ ?_ hz;have:=congrArg J5 hm;simp only at this;rw[this,JT];omega;simp at hm
  exact⟨by simp[ZG,k3],k3,t,hj,xa⟩
 have pu:Yn [Zy at' nm,Zy at' ot] (Zy at' nm)=0:=ZiD _ _;have pv:Yn [Zy at' nm,Zy at' ot] (Zy at' ot)=1:=ZlN (i:=1) (by simpa using xe) (by simp) rfl;have yb:∀o∈S,spO o=⟨it,Zy at' nm⟩->Zj ⟨9,at',nm,ot,fac,I,fo,F⟩ o=(Z5 o o.delta,Ht):=λo C h=>by
  obtain⟨_,k3,t⟩:=xp o C h;simp[Zj,E,t,pu,V1,k3]
 have yc:∀o∈S,spO o=⟨it,Zy at' ot⟩->Zj ⟨9,at',nm,ot,fac,I,fo,F⟩ o=(Z5 o (fac*o.delta),Ht):=λo C h=>by
  obtain⟨_,k3,t,hj,xa⟩:=xq o C h;simp[Zj,E,t,pv,V1,k3,xa,hj]
 have ht:=ZeU (it:=it) ha J (c:=g.at') (by rw[<-D,M]) W Q;have xi:=Zgl (P:=λo=>ZG o&&(decide (o.item=it)&&(decide (o.at'∈ZN ⟨9,at',nm,ot,fac,I,fo,F⟩)&&(Zj ⟨9,at',nm,ot,fac,I,fo,F⟩ o).2))) (h:=λo=>Zr (Zj ⟨9,at',nm,ot,fac,I,fo,F⟩ o).1 g.at') (su:=⟨it,Zy at' nm⟩) (sv:=⟨it,Zy at' ot⟩) (f:=fac) (by simpa using xe) (S:=S)
  (λo C h=>by
   have hi:o.item=it:=congrArg Sp.item h;obtain⟨p1,p2,p3⟩:=xp o C h;rw[yb o C h];exact⟨by simp[p1,hi,p3,E],rfl⟩)
  (λo C h=>by
   have hi:o.item=it:=congrArg Sp.item h;obtain⟨p1,p2,p3,_⟩:=xq o C h;rw[yc o C h];exact⟨by simp[p1,hi,p3,E],rfl⟩)
  (λo C n1 n2=>by
   rw[Bool.eq_false_iff];intro h;simp only[Jc,decide_eq_true_eq,E,Ja,List.not_mem_nil,or_false]at h;obtain⟨_,h2,h3,_⟩:=h;rcases h3 with h3|h3
   ·exact n1 (by simp[spO,h2,h3])
   ·exact n2 (by simp[spO,h2,h3]))
 rw[<-ht]at xi;have tu:=ZiY Y (Jn (WR _ _) hn);have tv:=ZiY xg (Jn (WR _ _) hn);have tg:=ZiY xy xv;have lu:=Zjw Y (Jn (WR _ _) hn);have lv:=Zjw xg (Jn (WR _ _) hn);have bu:=F8 Y;have bg:=F8 xy;have nu:(Zn S ⟨it,Zy at' nm⟩).length<=1000:=Jn (WR _ _) hn;unfold Zmy;rw[if_neg (by simp),E];simp only[Jm,JM,V,h2,if_true];have yj:(TB (Zp l (Zy at' nm)).1 (Zn S ⟨it,Zy at' nm⟩)).n=Zej (Zn S ⟨it,Zy at' nm⟩):=by unfold TB;rw[if_pos q2];exact tu
 have yk:(TB (Zp l (Zy at' ot)).1 (Zn S ⟨it,Zy at' ot⟩)).n=Zej (Zn S ⟨it,Zy at' ot⟩):=by unfold TB;rw[if_pos q4];exact tv
 have xn:TB g (Zn (S.filterMap (ovO ⟨9,at',nm,ot,fac,I,fo,F⟩)) ⟨it,g.at'⟩)=⟨g.at',Zej (Zn (S.filterMap (ovO ⟨9,at',nm,ot,fac,I,fo,F⟩)) ⟨it,g.at'⟩),(ZD g).l⟩:=by unfold TB;rw[if_pos z.2,tg]
 rw[yj,yk,xn];generalize Zej (Zn S ⟨it,Zy at' nm⟩)=A at *;generalize Zej (Zn S ⟨it,Zy at' ot⟩)=B at *;generalize Zn (S.filterMap (ovO ⟨9,at',nm,ot,fac,I,fo,F⟩)) ⟨it,g.at'⟩=G at *;have hm:=(ZjZ xh lu lv).2.2;have c1:B*fac=fac*B:=JT _ _;rw[if_pos ⟨Yw.2 (by unfold Lim;omega),Yw.2 (by unfold Lim;omega)⟩]at hm;rw[hm];simp only[if_true];rw[xi,c1];have p:=hf (by decide) (by decide) (by decide);simp[WM,p]at j;obtain⟨hc,Z⟩:=j;obtain⟨M,v⟩:=one _ hc.symm;have E:ZN ⟨10,at',nm,ot,fac,I,fo,F⟩= [at']:=by simp[ZN]
 obtain⟨U,N⟩:=Y1 p;have z:g.at'=at'/\g.kind=2/\g.df=ot:=by rw[<-v];exact⟨rfl,rfl,rfl⟩
 have V:=src at' p (by rw[<-X,z.1]) (by
  rcases hR with h|⟨_,h⟩;rw[z.2.1]at h;cases h;exact .inr (h _ (by rw[xc M,E];simp)))
 have ht:=Dz (it:=it) ha J (c:=g.at') (by rw[<-D,M]) W Q E (by rw[<-N];exact Tn (xb.2 _ U)) (λo C hp t=>by
  have xl:o∈Zn S ⟨o.item,at'⟩:=Jk.2 ⟨C,by simp[spO,t]⟩;have K:=Zam (it:=o.item) hl J U (by rw[Z];decide);rw[N]at K;simp[Zj,(K o xl).2.1])
 have hb:∀o,(Zj ⟨10,at',nm,ot,fac,I,fo,F⟩ o).1=o:=λo=>by simp[Zj]
 rw[ht];simp only[hb];unfold Zmy;rw[if_neg (by simp),E];simp only[Jm,V];rw[if_neg (by omega)];unfold ZnL;rw[if_neg (by simp),if_neg (by simp),if_pos rfl];generalize Zn S ⟨it,at'⟩=T at *;congr 1;unfold TB;rw[ZdO (g:=λo=>Zr o g.at') (λo _=>⟨rfl,rfl,rfl⟩)];simp only[z.2.1,Z];simp only[show ¬(2:Int)=1 by decide,show ¬(4:Int)=1 by decide,show ¬(2:Int)=4 by decide,if_false,if_true];by_cases hz:(Yc T).length=0;rw[if_pos hz,if_neg (by omega)];rw[if_neg hz,if_pos (by omega)]
structure DrX (n:Nat) (f:Str->List Cg) (its:List Str) (h0:List Cg) where
 k:Nat
 acc:List Cg
 id:Nat
 hk:k<=its.length
 hl:acc.length<=16+16*k
 h:acc=h0++(its.take k).flatMap f
 hid:id=29\/id=94\/id=110\/id=129
end Go.Proofs.YtcmpkokndngplaaGreat
namespace Go.PL
section
variable {s:St} {L:List (Nat×PV)} {b b' d d2 k k2 sz sz2 n:Nat} {e e2:TypeId} {cs cs' es es2:List PV}
def ZnQ (h:s.n=n) (i:∀x∈L,s.fr x.1=x.2) (j:s.m.h b=Hs cs) (m:s.m.z b=false) (a:s.m.h b'=Hs cs') (g:s.m.z b'=false) (l:s.m.q d=Hs (.vec k sz e)) (hv:s.m.v d=Hs es) (c:s.m.q d2=Hs (.vec k2 sz2 e2)) (f:s.m.v d2=Hs es2):HasX n L [(b,cs,false),(b',cs',false)] [(d,.vec k sz e),(d2,.vec k2 sz2 e2)] [] [] [(d,es),(d2,es2)] [] [] [] s:=
 ⟨⟨h,i,by simp[j,m,a,g],by simp[l,c]⟩,by simp,by simp,by simp[hv,f],by simp,by simp,by simp⟩
end
end Go.PL
namespace Go.Proofs.YtcmpkokndngplaaGreat
open Go.RowKit
theorem ZfL (l:List En):JY (l.map ent)= []:=by
 induction l with
 |nil=>rfl
 |cons e l ih=>simp only[Jh,JY,WV,ih,Jv]
def Gp {ns:List Nat} {rs:List Rw} {i:Nat} (a:i∉ns):Yq ((SW ns rs).map λx=>(x.1,Hs x.2)) (λ_=>none) i=none:=
 DC (k:=λi=>i) (F:=λx=>Hs x.2) λx c e=>a (e▸(Y9 c).1)
def Ur {ns:List Nat} {rs:List Rw} (a:ns.Nodup) {x:Nat×Row} (c:x∈SW ns rs):Yq ((SW ns rs).map λx=>(x.1,Hs x.2)) (λ_=>none) x.1=Hs x.2:=
 Vn (k:=λi=>i) (F:=λx=>Hs x.2) c (by rw[Xf];exact VC rs a) (λ_ _ _ _ h=>h)
def Vh {ns:List Nat} {rs:List Rw} (a:ns.Nodup) {x:Nat×List PV} (c:x∈D0 ns rs):Yq ((D0 ns rs).map λx=>(x.1,Hs x.2)) (λ_=>none) x.1=Hs x.2:=
 Vn (k:=λi=>i) (F:=λx=>Hs x.2) c (by rw[VB];exact VC rs a) (λ_ _ _ _ h=>h)
def ZvI {n i:Nat} (h:i<10000):i∉nsU n:=λa=>by have:=(Xi a).1;omega
def ZvH {n:Nat}:10000+n∉nsU n:=λa=>by have:=(Xi a).2;omega
abbrev ZlJ (ns:List Nat) (d:Dc):MemL:=⟨[],Up 26 ns d,Uq 26 ns d⟩
def ZsY {ns:List Nat} {d:Dc} (q:ns.Nodup) (p:∀x∈ns,10000<=x):(ZlJ ns d).Ok:=by
 have nm:(Up 26 ns d).map (·.1)=26::3000::TY ns d.rows:=by simp only[Up,Jh,Xf]
 have o:(Uq 26 ns d).map (·.1)=26::3000::TY ns d.rows:=by simp only[Uq,Jh,VB]
 have m:∀x∈TY ns d.rows,10000<=x:=λx a=>p x (WW a)
 have nd:(26::3000::TY ns d.rows).Nodup:=by
  refine JV.2 ⟨λh=> ?_,JV.2 ⟨λh=> ?_,VC _ q⟩⟩;rcases Ja.1 h with h|h;omega;have:=m _ h;omega;have:=m _ h;omega
 have has:∀i∈26::3000::TY ns d.rows,(ZlJ ns d).has (.r i):=λi f=>by
  rw[<-nm]at f;obtain⟨y,g,rfl⟩:=Jq.1 f;exact⟨y,g,rfl⟩
 refine⟨by simp,by show((Up 26 ns d).map (·.1)).Nodup;rw[nm];exact nd,by show((Uq 26 ns d).map (·.1)).Nodup;rw[o];exact nd,λx a=> ?_,by simp,λx a c j i f=> ?_⟩;have:x.1∈(Uq 26 ns d).map (·.1):=Jq.2 ⟨x,a,rfl⟩;rw[o,<-nm]at this;obtain⟨y,g,e⟩:=Jq.1 this;exact⟨y,g,e⟩;rcases Ja.1 a with rfl|a;obtain⟨y,g,rfl⟩:=Wt j f;exact has y (by simp[g]);have:∃l:List En,x.2=l.map ent:=by
  rcases Ja.1 a with rfl|a;exact⟨_,rfl⟩;obtain⟨_,r,_,e⟩:=Yg a;exact⟨_,e⟩
 obtain⟨l,e⟩:=this;rw[e]at j;obtain⟨z,_,rfl⟩:=Jq.1 j;rw[YM]at f;cases f
def ZdA {ns:List Nat} {rs:List Rw} {R:List (Nat×Row)} {H:List (Nat×List PV×Bool)} (h:∀x∈TY ns rs,x∈R.map (·.1)):(JL (ZO ns rs)).all (ZR H R)=true:=by
 rw[JU];intro i a;obtain⟨p,hp,a⟩:=PV.mem_idsL.1 a;obtain⟨y,c,rfl⟩:=Wt hp a;exact JH.2 (h y c)
def Zjh (d:Dc) (M:d.head.length<=100000) (R:d.rows.length<=100000) (N:∀e∈d.head,e.l.length<=1000000) (O:∀r∈d.rows,r.l.length<=100000/\ ∀e∈r.l,e.l.length<=1000000):
  Eff prog 37 [doc d] noV (.agg [.vsl 3000 d.head.length 5,.vsl 26 d.rows.length 2]) (ZlJ (nsU d.rows.length) d):=by
 obtain⟨hd,a⟩:=d;simp only at M R N O;have J:∀l:List En,∀p∈l.map ent,p.ids= []:=λl=>Yt YM l
 have X:a.length<=maxLen:=by rw[Zd];omega
 have I:=S5 hd M N;refine Eff.of_v [26] func37 (by decide) rfl ntmps37 results37 (by simp) Zov (ZsY (Wn _) λx c=>(Xi c).1) (by simp[doc,ZX,JD,JL]) (by simp[JD,JL,MemL.has,Up]) (by simp) (by simp) λph pq=> ?_
 simp only[go_sem,doc];refine SU 3000 I (J _) (by simp[JD,ZX]) rfl (by simp only[go_sem,ZX]) ?_;simp only[go_sem,J6,ZX];refine Zm9 (Gh.nilVecB (b:=3) (j:=1) (d:=26) (sz:=2) (e:=90) rfl rfl (by simp) rfl rfl) ?_;refine Ul (ι:= { k:Nat // k<=a.length }) 30 (λx=> [(2,.ptr 2 0),(3,.ptr 3 0),(11,.sl .no (a.map row)),(12,.int .i64 (a.length:Int)),(13,.int .i64 (x.1:Int))]) (λx=> [(2,[.sl .nil [],.sl .nil []],false),(3,[.vsl 3000 hd.length 5,.vsl 26 x.1 2],false)]) (λx=>(26,.vec x.1 2 90)::(3000,.vec hd.length 5 64)::SW (nsU x.1) (a.take x.1)) (λ_=> []) (λ_=> []) (λx=>(26,ZO (nsU x.1) (a.take x.1))::(3000,hd.map ent)::D0 (nsU x.1) (a.take x.1)) (λ_=> []) [] [] [26] (λx=>a.length-x.1) ⟨0,JI _⟩
  ?_ (λx=> ?_) (λx=> ?_)
 exact ZnQ rfl (Fc5 rfl rfl rfl rfl rfl) rfl rfl rfl rfl rfl rfl rfl rfl;obtain⟨k,V⟩:=x;have w:(nsU k).length=(a.take k).length:=by rw[ZeE,JC];omega
 refine⟨⟨by simp[JD,JL,ZR],by simp[JD,JL,ZR]⟩,λy g=> ?_,by simp,λy g=> ?_,by simp,by simp⟩;rcases Ja.1 g with rfl|g;exact ZdA λx c=>by simp only[Jh,Xf];simp[c]
 have:∃l:List En,y.2=l.map ent:=by
  rcases Ja.1 g with rfl|g;exact⟨_,rfl⟩;obtain⟨_,r,_,e⟩:=Yg g;exact⟨_,e⟩
 obtain⟨l,e⟩:=this;rw[e,Xd YM l];rfl;have:y.1∈26::3000::TY (nsU k) (a.take k):=by
  rw[<-VB];rcases Ja.1 g with rfl|g;simp;rcases Ja.1 g with rfl|g;simp;exact Ju _ (Ju _ (Jq.2 ⟨y,g,rfl⟩))
 rw[JH];simp only[Jh,Xf];exact this;obtain⟨k,V⟩:=x;have w:(nsU k).length=(a.take k).length:=by rw[ZeE,JC];omega
 have C:=Gp (rs:=a.take k) (ZvI (n:=k) (i:=25) (by omega));have qk:=Gp (rs:=a.take k) (ZvH (n:=k));simp only;by_cases h:(k:Int)<(a.length:Int);have o:k<a.length:=by omega
 have Q:=Wa o X;have P:=Int.natCast_nonneg k
 have D:=O _ (Zh (d:=Jd) o);have T:=S5 (a.getD k Jd).l D.1 D.2;have B:=YP (show k+1<=1000000 by omega) (show 40<=1000 by omega);have A:(ZO (nsU k) (a.take k)).length=k:=by rw[UW w,JC];omega
 have u:a.take (k+1)=a.take k++ [a.getD k Jd]:=ZQ o;obtain⟨E,F,G⟩:=Zel (x:=10000+k) (r:=a.getD k Jd) w;by_cases t:(a.getD k Jd).l.length=0;rw[if_pos t,Jv]at E F;rw[ZeM t]at G;have S:=Zbs (a.getD k Jd).l D.1 D.2;simp only[go_sem,h,W6 o,row,P];refine Zxe 9 (by kernel_rfl) (by kernel_rfl) λY q=> ?_
 simp only[List.take]at q;subst q;simp only[go_sem];refine vc1 S ?_;simp only[go_sem,ZX,C];refine Zxf 9 (by kernel_rfl) λK f=> ?_
 simp only[J4]at f;subst f;simp only[go_sem,ZX,Q,A,B];refine⟨λp hp=>by rw[Ji.1 hp];exact⟨rfl,rfl⟩,λp hp=>by rw[Ji.1 hp];exact ZbI _,λp hp=> ?_,⟨k+1,by omega⟩,nx9 (by omega),⟨rfl,(Fc5 rfl rfl rfl rfl rfl),Fc2 ⟨rfl,rfl⟩ ⟨rfl,rfl⟩,λx c=> ?_⟩,by simp,by simp,λx c=> ?_,by simp,by simp,by simp⟩;rcases Jw.1 hp with hp|hp;intro v;obtain⟨y,g,e⟩:=Wt hp v;have:=(Xi (WW g)).1;simp only[Ref.r.injEq]at e;omega;rw[Ji.1 hp,show(PV.agg [PV.str (a.getD k Jd).item,JN Tok.no (List.map ent (a.getD k Jd).l)]).ids= []from ZbI _];simp;simp only at c;rw[Zag,u,E]at c;show upd (upd (upd (upd _ 3000 _) 26 _) 25 _) 26 _ x.1=Hs x.2;rcases Ja.1 c with rfl|c;rfl;rcases Ja.1 c with rfl|c;rfl;have z:=Xi (Y9 c).1;rw[Zb _ _ (by omega),Zb _ _ (by omega),Zb _ _ (by omega),Zb _ _ (by omega)];exact Ur (Wn k) c;simp only at c;rw[Zag,u,F,G]at c;show upd (upd (upd _ 3000 _) 26 _) 26 _ x.1=Hs x.2;rcases Ja.1 c with rfl|c;rfl;rcases Ja.1 c with rfl|c;rfl;have z:=Xi (Yg c).1;rw[Zb _ _ (by omega),Zb _ _ (by omega),Zb _ _ (by omega)];exact Vh (Wn k) c;rw[if_neg t]at E F;rw[show rwN (10000+k) (a.getD k Jd)= .agg [.str (a.getD k Jd).item,.vsl (10000+k) (a.getD k Jd).l.length 5]by unfold rwN;rw[if_neg t]]at G;simp only[go_sem,h,W6 o,row,P];refine GK [0,1,2,3,4,5] 6 9 [] 9 (by kernel_rfl) (by kernel_rfl) λY q=> ?_
 simp only[JX,List.getElem?_cons_zero,List.getElem?_cons_succ]at q;subst q;simp only[go_sem];refine Ztc (10000+k) T (ZfL _) (by simp[ZX,JD]) rfl rfl rfl rfl (show(23:Nat)<30 by omega) rfl ?_ (λm=>by simp only[go_sem,ZX]) (by simp[J6,PV.dids]) ?_;show upd (upd _ 3000 _) 26 _ (10000+k)=none;rw[Zb _ _ (by omega),Zb _ _ (by omega)];exact qk;refine Zap rfl rfl rfl λK f=> ?_
 subst f;simp only[go_sem,J6];refine ZeX (ei:=⟨90,2,40⟩) rfl rfl rfl rfl (show(25:Nat)<30 by omega) (by kernel_rfl) ?_ rfl (by decide) (by simp only[go_sem,T5];simp;omega) ?_;show upd (upd (upd _ 3000 _) 26 _) (10000+k) _ 25=none;rw[Zb _ _ (by omega),Zb _ _ (by omega),Zb _ _ (by omega)];exact C;refine GJ λK f=> ?_
 simp only[JX]at f;subst f;simp only[go_sem];refine ZbZ _ 9 (by kernel_rfl) λK f=> ?_
 simp only[J4]at f;subst f;have Z:(10000+k=26)=False:=eq_false (by omega);have n2:(10000+k=25)=False:=eq_false (by omega);simp only[go_sem,Q,A,B,Z,n2];refine⟨λp hp=>by rw[Ji.1 hp];exact⟨rfl,rfl⟩,⟨⟨_,rfl⟩,by decide⟩,λp hp=> ?_,⟨k+1,by omega⟩,nx9 (by omega),⟨rfl,(Fc5 rfl rfl rfl rfl rfl),Fc2 ⟨rfl,rfl⟩ ⟨rfl,rfl⟩,λx c=> ?_⟩,by simp,by simp,λx c=> ?_,by simp,by simp,by simp⟩;rcases Jw.1 hp with hp|hp;intro v;obtain⟨y,g,e⟩:=Wt hp v;have:=(Xi (WW g)).1;simp only[Ref.r.injEq]at e;omega;rw[Ji.1 hp];simp[JD,JL];omega;simp only at c;rw[Zag,u,E]at c;show upd (upd (upd (upd (upd _ 3000 _) 26 _) (10000+k) _) 25 _) 26 _ x.1=Hs x.2;rcases Ja.1 c with rfl|c;rfl;rcases Ja.1 c with rfl|c;rw[Zb _ _ (show(26:Nat)≠3000 by omega),Zb _ _ (show(25:Nat)≠3000 by omega),Zb _ _ (show 10000+k≠3000 by omega),Zb _ _ (show(26:Nat)≠3000 by omega),Za];rcases Jw.1 c with c|c;have z:=Xi (Y9 c).1;rw[Zb _ _ (by omega),Zb _ _ (by omega),Zb _ _ (by omega),Zb _ _ (by omega),Zb _ _ (by omega)];exact Ur (Wn k) c;rw[Ji.1 c,Zb _ _ (by simp only;omega),Zb _ _ (by simp only;omega),Za];simp only at c;rw[Zag,u,F,G]at c;show upd (upd (upd (upd (upd _ 3000 _) 26 _) (10000+k) _) 25 _) 26 _ x.1=Hs x.2;rcases Ja.1 c with rfl|c;rfl;rcases Ja.1 c with rfl|c;rw[Zb _ _ (show(26:Nat)≠3000 by omega),Zb _ _ (show(25:Nat)≠3000 by omega),Zb _ _ (show 10000+k≠3000 by omega),Zb _ _ (show(26:Nat)≠3000 by omega),Za];rcases Jw.1 c with c|c;have z:=Xi (Yg c).1;rw[Zb _ _ (by omega),Zb _ _ (by omega),Zb _ _ (by omega),Zb _ _ (by omega),Zb _ _ (by omega)];exact Vh (Wn k) c;rw[Ji.1 c,Zb _ _ (by simp only;omega),Zb _ _ (by simp only;omega),Za];obtain rfl:k=a.length:=by omega
 have W:(nsU a.length).length=a.length:=ZeE _;simp only[go_sem,h,List.take_length];refine⟨⟨.agg [.vsl 3000 hd.length 5,.vsl 26 a.length 2],by simp only[go_sem,Uc],.keep _ (by
  intro i v;simp[JD,JL]at v;rcases v with rfl|rfl;exact⟨_,Ju _ (JP ..),rfl⟩;exact⟨_,JP ..,rfl⟩)⟩,by simp,λx c=> ?_,λx c=> ?_,by simp,by simp⟩
 show upd (upd _ 3000 _) 26 _ x.1=Hs x.2;rcases Ja.1 c with rfl|c;rfl;rcases Ja.1 c with rfl|c;rfl;have z:=Xi (Y9 c).1;rw[Zb _ _ (by omega),Zb _ _ (by omega)];exact Ur (Wn _) c;have hv:upd (upd (Yq ((D0 (nsU a.length) a).map λx=>(x.1,Hs x.2)) λ_=>none) 3000 (Hs (hd.map ent))) 26 (Hs (ZO (nsU a.length) a)) x.1=Hs x.2:=by
  rcases Ja.1 c with rfl|c;rfl;rcases Ja.1 c with rfl|c;rfl;have z:=Xi (Yg c).1;rw[Zb _ _ (by omega),Zb _ _ (by omega)];exact Vh (Wn _) c
 refine⟨_,hv,rfl,λi v=> .keep _ λj U=> ?_⟩;exact(ZsY (d:=⟨hd,a⟩) (Wn _) λx c=>(Xi c).1).cv x c _ (Zc v) j U
end Go.Proofs.YtcmpkokndngplaaGreat
