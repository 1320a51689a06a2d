/- Lemmas. -/
import Derived.Test.YtcmpkokndngplaaGreatXBd
import Derived.Test.YtcmpkokndngplaaGreatXBg
set_option maxHeartbeats 64000000
set_option maxRecDepth 20000
set_option linter.unusedVariables false
set_option linter.unusedSimpArgs false
set_option linter.defProp false
open Inhabited renaming default→Jd
open Bool renaming true→Ht,false→Hf
open Go.Proofs.Tryz
open Go Go.PL
open _root_.Array renaming getElem?_eq_some_iff→JL,getElem?_modify→JR
open BelowF renaming refl→Kf
open Bool renaming and_eq_true→Jc,false_and→Jg,true_and→Jp,and_false→Jq,and_self→Js,false_eq_true→Jy,eq_iff_iff→JD,true_eq_false→JJ,and_true→JN,or_eq_true→J3,not_false→J6
open Classical renaming not_not→J2
open Decidable renaming byContradiction→J7,not_not→Kj
open Int renaming natCast_nonneg→Ja,mul_le_mul_of_nonneg_right→Jb,mul_le_mul_of_nonneg_left→Jw,mul_comm→JY,zero_add→J9,neg_mul→Kg
open List renaming append_nil→Je,length_map→Jf,mem_singleton→Jh,map_append→Jj,length_filter_le→Jk,length_append→Jm,filter_cons_of_neg→Jn,filter_cons_of_pos→Jo,take_of_length_le→Jr,filter_append→Jt,findIdx?_eq_some_iff_getElem→Ju,length_take_le→Jv,take_length→JA,all_eq_true→JB,findIdx?_eq_none_iff→JC,set_getElem_self→JF,getElem_of_mem→JH,mem_map→JI,findIdx?_cons→JK,mem_of_find?_eq_some→JM,length_eq_zero_iff→JP,mem_append→JQ,mem_range→JS,filter_sublist→JT,getD_cons_zero→JU,map_cons→JV,range→JW,find?_eq_none→JX,findIdx?→J8,map_nil→Kd
open Nat renaming zero_le→Ji,le_trans→Jz,not_lt_zero→JG,add_zero→Kc,mul_one→Ke
open Option renaming map_map→J4
open PV renaming ids→Jl,idsL→JE,didsL→JO,dids→JZ,str→J5,agg→Ka,frl→Kh,ren→Kk
open Prod renaming mk→Ki
open Pub renaming vec0→Kl
namespace Go.Proofs.YtcmpkokndngplaaGreat
def ZiI {f:Fd} (h:ZT f=Ht):f.kind=1\/f.kind=2\/f.kind=3\/f.kind=4:=by
 simp only[ZT,Jc]at h;have h:=h.2;by_cases a:f.kind=1;exact .inl a;rw[if_neg a]at h;by_cases b:f.kind=3;exact .inr (.inr (.inl b));simp only[if_neg b,Jc]at h;have h:=h.2;simp[Zha]at h;omega
def ZcC (f:Fd) (s:Str) (j:f.cases'.length<=maxLen):Pp 145 [fld f,.str s] (.bool (Xo f s)):=by
 have b:=Uz f j;have e:=GR s;have i:=Gi f.cases' s j;unfold Xo;cases h:ZT f;rw[h]at b;refine ZM func145 rfl ntmps145 results145 ?_;simp only[go_sem,fld];refine vc2 b ?_;simp only[go_sem,Jg];have k:=ZiI h;rw[h]at b;have g:decide ((s.length:Int)<=40)=decide ((s.length:Int)<41):=by rw[JD];simp;omega
 rw[g]at e;obtain⟨a,kind,d,c,w⟩:=f;simp only at k b e i ⊢;rcases k with rfl|rfl|rfl|rfl;refine ZM func145 rfl ntmps145 results145 ?_;simp only[go_sem,fld];refine vc2 b ?_;simp only[go_sem];rfl;refine ZM func145 rfl ntmps145 results145 ?_;simp only[go_sem,fld];refine vc2 b ?_;simp only[go_sem];refine vc1 e ?_;simp only[go_sem];simp;refine ZM func145 rfl ntmps145 results145 ?_;simp only[go_sem,fld];refine vc2 b ?_;simp only[go_sem];refine vc1 i ?_;simp only[go_sem];simp;refine ZM func145 rfl ntmps145 results145 ?_;simp only[go_sem,fld];refine vc2 b ?_;simp only[go_sem];refine vc1 e ?_;simp only[go_sem];simp
def G3 (l:List Fd) (o:Opn):Bool:=
 Ws o&&(if ZG o=Hf then Ht else decide ((Zp l o.at').2=0)&&(if o.kind=3 then decide ((Zp l o.at').1.kind=1)else if o.has=Ht then Xo (Zp l o.at').1 o.text else decide ((Zp l o.at').1.kind=4)))
def ZcE (l:List Fd) (o:Opn) (m:OkFs l) (r:o.drops.length<=maxLen):Pp 97 [Zt l,opv o] (.bool (G3 l o)):=by
 have a:=Gj o r;have b:=GB o;have h:=WK l o.at' (by have:=m.n;omega) m.c;have n:=Zj3 m o.at';have p:=ZcC (Zp l o.at').1 o.text (by rw[Zd];omega);unfold G3;cases q:Ws o;rw[q]at a;refine ZM func97 rfl ntmps97 results97 ?_;simp only[go_sem,Zt,opv];refine vc6 a ?_;simp only[go_sem,Jg];rw[q]at a;cases hp:ZG o;rw[hp]at b;refine ZM func97 rfl ntmps97 results97 ?_;simp only[go_sem,Zt,opv];refine vc6 a ?_;simp only[go_sem,opv];refine vc6 b ?_;simp only[go_sem,Jp,if_true];rw[hp]at b;simp only[Jp,JJ,if_false];generalize Zp l o.at'=y at *;obtain⟨f,c⟩:=y;simp only at p n ⊢;by_cases i:c=0;have e:(c !=0)=false:=by simpa using i
 simp only[i,decide_true,Jp];by_cases j:o.kind=3;have g:(o.kind==3)=true:=by simpa using j
 have k:(f.kind==1)=decide (f.kind=1):=by rw[JD];simp
 rw[if_pos j];refine ZM func97 rfl ntmps97 results97 ?_;simp only[go_sem,Zt,opv];refine vc6 a ?_;simp only[go_sem,opv];refine vc6 b ?_;simp only[go_sem];refine vc2 h ?_;simp only[go_sem,Za2,fld,e,g,k];have g:(o.kind==3)=false:=by simpa using j
 rw[if_neg j];have k:(f.kind==4)=decide (f.kind=4):=by rw[JD];simp
 cases d:o.has;refine ZM func97 rfl ntmps97 results97 ?_;simp only[go_sem,Zt,opv,d];refine YN a ?_ ?_ ?_;simp only[go_sem,opv];simp only[go_sem,opv,d];simp only[go_sem,opv];refine YN b ?_ ?_ ?_;simp only[go_sem,opv];simp only[go_sem,opv,d];simp only[go_sem];refine vc2 h ?_;simp only[go_sem,Za2,fld,e,g,k,if_false];refine ZM func97 rfl ntmps97 results97 ?_;simp only[go_sem,Zt,opv,d];refine YN a ?_ ?_ ?_;simp only[go_sem,opv];simp only[go_sem,opv,d];simp only[go_sem,opv];refine YN b ?_ ?_ ?_;simp only[go_sem,opv];simp only[go_sem,opv,d];simp only[go_sem];refine vc2 h ?_;simp only[go_sem,Za2,fld,e,g];refine vc2 p ?_;simp only[go_sem,if_true];have e:(c !=0)=true:=by simpa using i
 refine ZM func97 rfl ntmps97 results97 ?_;simp only[go_sem,Zt,opv];refine vc6 a ?_;simp only[go_sem,opv];refine vc6 b ?_;simp only[go_sem];refine vc2 h ?_;simp only[go_sem,Za2,fld,e,i,Jg]
def GE {f:Fd} (h:ZT f=Ht) (a:f.kind=1):1<=f.worth/\f.worth<=1048576:=by
 simp[ZT,a]at h;omega
def ZaZ {l:List Fd} {o:Opn} (h:G3 l o=Ht):Ws o=true:=by
 simp only[G3,Jc]at h;exact h.1
def ZgQ {o:Opn} (h:Ws o=Ht): -1048576<=o.delta/\o.delta<=1048576:=by
 simp[Ws]at h;omega
def Zt2 {o:Opn} (h:o.kind=3):ZG o=true:=by simp[ZG,h]
def Gq {l:List Fd} {o:Opn} (h:G3 l o=Ht) (hp:ZG o=Ht):(Zp l o.at').2=0/\
  (o.kind=3->(Zp l o.at').1.kind=1)/\(o.kind≠3->o.has=Ht->Xo (Zp l o.at').1 o.text=Ht)/\(o.kind≠3->o.has=Hf->(Zp l o.at').1.kind=4):=by
 simp only[G3,hp,Jc,JJ,if_false,decide_eq_true_eq]at h;obtain⟨_,c,a⟩:=h;refine⟨c,λk=> ?_,λk b=> ?_,λk b=> ?_⟩;rw[if_pos k]at a;simpa using a;rw[if_neg k,if_pos b]at a;exact a;rw[if_neg k,if_neg (by rw[b];simp)]at a;simpa using a
theorem X7 {l:List Rf} {r:Rf} (h:Yn l r<0):r∉l:=by
 unfold Yn idx at h;cases b:l.findIdx? λa=>decide (r=a)with
 |none=>
  rw[JC]at b;intro c;have:=b r c;simp at this
 |some i=>rw[b]at h;simp at h;omega
theorem VG {l:List Rf} {r:Rf} (h:¬Yn l r<0):∃g:Nat,Yn l r=(g:Int)/\g<l.length/\l.getD g Jd=r:=by
 unfold Yn idx at h ⊢;cases b:l.findIdx? λa=>decide (r=a)with
 |none=>rw[b]at h;exact absurd (by decide) h
 |some i=>
  rw[Ju]at b;obtain⟨c,d,_⟩:=b;refine⟨i,rfl,c,?_⟩;rw[getD_lt c];simpa using(of_decide_eq_true d).symm
def Y2 {a r:Rf} (h:¬Yn [a] r<0):a=r:=by
 obtain⟨g,_,b,c⟩:=VG h;have:g=0:=by simpa using b
 subst this;simpa using c
def ZrH {x:Ln} {o:Opn} (h:OkOp o):OkOp (Va x o).1:=by
 have hd:=h.d;refine⟨?_⟩;unfold Va Zj;repeat' split
 all_goals first|exact hd|exact Ji _
def Zge {d f:Int} (hd: -1099511627776<=d/\d<=1099511627776) (h:(SZ 0 d f).2=0):2<=f/\f<=1000/\(SZ 0 d f).1=f*d:=by
 unfold SZ at h ⊢;by_cases a:2<=f/\f<=1000;rw[if_neg (λg=>g a)]at h ⊢;have c: -1099511627776000<=f*d/\f*d<=1099511627776000:=by
  have i:f*d<=f*1099511627776:=Jw hd.2 (by omega);have j:f*(-1099511627776)<=f*d:=Jw hd.1 (by omega);omega
 have e:IntKind.i64.wrap (0+IntKind.i64.wrap (f*d))=f*d:=by
  rw[Sj (n:=f*d) (by omega),J9,Sj (by omega)]
 refine⟨a.1,a.2,?_⟩;split at h;cases h;rename_i hp;rw[if_neg hp];split at h;rename_i b;rw[if_pos b];exact e;cases h;rw[if_pos a]at h;cases h
def ZgD {l m:List Fd} {x:Ln} {o p:Opn} {f:Fd} (ha:ZW l x=(m,0)) (i:Zp l o.at'=(f,0)) (G:f.kind=1) (d:o.kind=3) (hd: -1099511627776<=o.delta/\o.delta<=1099511627776) (e:Va x o=(p,Ht)):
  ∃g,Zp m p.at'=(g,0)/\g.kind=1/\p.kind=3/\1<=g.worth/\g.worth<=1048576/\p.delta*g.worth=o.delta*f.worth:=by
 obtain⟨O,Y,cs,l1,c,e2,e3⟩:=Xb ha;obtain⟨a1,a2,a3,a4,a5⟩:=Ga O e2;obtain⟨b1,S,b3,b4,b5⟩:=WU a1 e3;have W:=(Yz Y).1;have X:=(ZL.1 b1).2;have k:=Y1 (l:=l) (r:=o.at') (by rw[i]);rw[i]at k;simp only at k;obtain⟨U,T⟩:=k;have fr:=(ZL.1 O).2.2 f U;have n:=GE fr G;have coming:∀g∈cs,Zp m g.at'=(g,0)/\ZT g=true:=λg V=>⟨YZ X.1 ((S g).2 (.inr V)),(b3 g V).1⟩
 unfold Va at e;rw[if_neg (by rw[Y];simp),if_neg (by omega)]at e;by_cases hp:Yn (ZN x) o.at'<0;rw[if_pos hp]at e;cases e;have L:f∈m:=(S f).2 (.inl ((a2 f).2 ⟨U,by rw[T];exact X7 hp⟩));have:=YZ X.1 L;rw[T]at this;exact⟨f,this,G,d,n.1,n.2,rfl⟩;rw[if_neg hp]at e;by_cases B:(Zj x o).2=Hf;rw[if_pos B]at e;simp at e;rw[if_neg B]at e;simp only[Ki.injEq,and_true]at e;subst e;have b:(Zj x o).2=true:=by simpa using B
 clear B b4 b5 a3 a4 a5;obtain⟨kind,at',nm,A,fac,E,F,D⟩:=x;simp only at W;have R:∀r,o.at'=at'->cs= [⟨r,f.kind,f.df,f.cases',f.worth⟩]-> ∃g,Zp m r=(g,0)/\g.kind=1/\1<=g.worth/\g.worth<=1048576/\o.delta*g.worth=o.delta*f.worth:=λr _ hc=>by
  have:=coming ⟨r,f.kind,f.df,f.cases',f.worth⟩ (by rw[hc];simp);exact⟨_,this.1,G,n.1,n.2,rfl⟩
 rcases W with rfl|rfl|rfl|rfl|rfl|rfl|rfl|rfl|rfl|rfl;have a:at'=o.at':=Y2 (by simpa[ZN]using hp);subst a;simp[WM,Zi,i]at c;obtain⟨g,q,s,t,u,v⟩:=R (Zy o.at' nm) rfl c.symm;exact⟨g,by simpa[Zj,Zr,Zi]using q,s,by simpa[Zj,Zr]using d,t,u,by simpa[Zj,Zr]using v⟩;exact absurd (show Yn (ZN ⟨2,at',nm,A,fac,E,F,D⟩) o.at'<0 from(by decide:(-1:Int)<0)) hp;simp[Zj]at b;have a:at'=o.at':=Y2 (by simpa[ZN]using hp);subst a;simp[WM,Zi,i]at c;obtain⟨g,q,s,t,u,v⟩:=R ⟨o.at'.sc,[],o.at'.nm⟩ rfl c.symm;exact⟨g,by simpa[Zj,Zr,Zi]using q,s,by simpa[Zj,Zr]using d,t,u,by simpa[Zj,Zr]using v⟩;have a:at'=o.at':=Y2 (by simpa[ZN]using hp);subst a;simp[WM,Zi,i]at c;obtain⟨g,q,s,t,u,v⟩:=R ⟨o.at'.sc,nm,o.at'.nm⟩ rfl c.symm;exact⟨g,by simpa[Zj,Zr,Zi]using q,s,by simpa[Zj,Zr]using d,t,u,by simpa[Zj,Zr]using v⟩;have a:at'=o.at':=Y2 (by simpa[ZN]using hp);subst a;simp[WM,i]at c;have:=coming ⟨Zy o.at' nm,1,[],[],f.worth⟩ (by rw[<-c.1];simp);exact⟨⟨Zy o.at' nm,1,[],[],f.worth⟩,by simpa[Zj,Zr,Zi]using this.1,rfl,by simpa[Zj,Zr]using d,n.1,n.2,by simp[Zj,Zr]⟩;simp[Zj,d]at b;simp[Zj,TI,d]at b;have z:ZN ⟨9,at',nm,A,fac,E,F,D⟩= [Zy at' nm,Zy at' A]:=by simp[ZN]
 rw[z]at hp;obtain⟨g,M,N,y⟩:=VG hp;simp[WM,Uu]at c;split at c;simp at c;split at c;simp at c;rename_i Z u2;simp only[not_or,Kj]at Z u2;simp only[Ki.injEq,and_true]at c;obtain⟨q1,q2⟩:=Z;obtain⟨q3,q4,C⟩:=u2;have hA:=Y1 q1;have j:=GE ((ZL.1 O).2.2 _ hA.1) q2;have J:=coming ⟨at',1,[],[],(Zp l (Zy at' nm)).1.worth⟩ (by rw[<-c];simp);have I:Zj ⟨9,at',nm,A,fac,E,F,D⟩ o=(Z5 o (V1 o (g:Int) fac).1,(V1 o (g:Int) fac).2):=by
  simp only[Zj,z,M];simp
 rw[I]at b ⊢;simp only at b;refine⟨⟨at',1,[],[],(Zp l (Zy at' nm)).1.worth⟩,by simpa[Zr,Zi,Z5]using J.1,rfl,by simpa[Zr,Z5]using d,j.1,j.2,?_⟩;simp only[Zr,Z5];have w:g=0\/g=1:=by simp at N;omega
 rcases w with rfl|rfl;have a:Zy at' nm=o.at':=by simpa using y
 rw[a,i];simp[V1,d];have a:Zy at' A=o.at':=by simpa using y
 have K:Xp o.delta=true:=Yw.2 ⟨by omega,by omega⟩;have P:V1 o ((1:Nat):Int) fac=((SZ 0 o.delta fac).1,decide ((SZ 0 o.delta fac).2=0)):=by
  unfold V1;rw[if_neg (λh=>h d),if_neg (by omega),if_pos K]
 rw[P]at b ⊢;obtain⟨j1,j2,j3⟩:=Zge hd (of_decide_eq_true b);rw[a,i]at C;simp only at C ⊢;have Q:IntKind.i64.wrap ((Zp l (Zy at' nm)).1.worth*fac)=(Zp l (Zy at' nm)).1.worth*fac:=by
  have p1:(Zp l (Zy at' nm)).1.worth*fac<=1048576*fac:=Jb j.2 (by omega);have p2:0<=(Zp l (Zy at' nm)).1.worth*fac:=Int.mul_nonneg (by omega) (by omega);exact Sj (by omega)
 rw[Q]at C;rw[j3,C,JY fac,Int.mul_assoc,JY fac];simp[Zj,d]at b
def Wd:List Ln->Opn->Opn×Bool
 | [],o=>(o,Ht)
 |x::xs,o=>if(Va x o).2=Hf then(Jd,Hf)else Wd xs (Va x o).1
theorem ZaD (x:Ln) (xs:List Ln) (o:Opn):Wd (x::xs) o=if(Va x o).2=Hf then(Jd,Hf)else Wd xs (Va x o).1:=rfl
structure Worth (l:List Fd) (o:Opn) (w:Int):Prop where
 k:o.kind=3
 f:∃f,Zp l o.at'=(f,0)/\f.kind=1/\1<=f.worth/\f.worth<=1048576/\o.delta*f.worth=w
 b: -1099511627776<=w/\w<=1099511627776
def Worth.delta {l:List Fd} {o:Opn} {w:Int} (h:Worth l o w): -1099511627776<=o.delta/\o.delta<=1099511627776:=by
 obtain⟨_,⟨f,_,_,a,d,b⟩,e,g⟩:=h;have i:o.delta*f.worth=w:=b;constructor;by_cases c:o.delta < -1099511627776;exfalso;have p:o.delta*f.worth<=o.delta*1:=Int.mul_le_mul_of_nonpos_left (by omega) a;omega;omega;by_cases c:1099511627776<o.delta;exfalso;have p:o.delta*1<=o.delta*f.worth:=Jw a (by omega);omega;omega
def Worth.over {l m:List Fd} {x:Ln} {o p:Opn} {w:Int} (h:Worth l o w) (q:ZW l x=(m,0)) (t:Va x o=(p,Ht)):Worth m p w:=by
 have hd:=h.delta;obtain⟨k,⟨f,j,s,u,v,n⟩,r⟩:=h;obtain⟨g,a,b,c,d,e,i⟩:=ZgD q j s k hd t;exact⟨c,⟨g,a,b,d,e,by rw[i,n]⟩,r⟩
def Worth.start {l:List Fd} {o:Opn} (g:G3 l o=Ht) (h:ZP l=Ht) (c:o.kind=3):∃w,Worth l o w:=by
 obtain⟨d,a,_,_⟩:=Gq g (Zt2 c);have a:=a c;have hd:=ZgQ (ZaZ g);have b:Zp l o.at'=((Zp l o.at').1,0):=Prod.ext rfl d;have i:=Y1 d;generalize (Zp l o.at').1=f at *;have e:=GE ((ZL.1 h).2.2 _ i.1) a;refine⟨o.delta*f.worth,c,⟨f,b,a,e.1,e.2,rfl⟩,?_⟩;have j:o.delta*f.worth<=1048576*f.worth:=Jb hd.2 (by omega);have k:(-1048576)*f.worth<=o.delta*f.worth:=Jb hd.1 (by omega);omega
def ZiD (c:Rf) (cs:List Rf):Yn (c::cs) c=0:=by
 unfold Yn idx;simp[JK]
def ZlO {l:List Rf} {r:Rf} (h:r∉l):Yn l r= -1:=by
 rcases ZgG l r with e|⟨g,d,e⟩;exact e;obtain⟨c,_,a,b⟩:=VG (l:=l) (r:=r) (by omega);exact absurd (b▸Zc a) h
def Tl {x:Ln} {o:Opn} (a:Zx x=Ht) (hp:ZG o=Ht):Va x o=if Yn (ZN x) o.at'<0 then(o,Ht)else if(Zj x o).2=Hf then(Jd,Hf)else(Zr (Zj x o).1 ((Zi x).getD 0 Jd),Ht):=by
 unfold Va;have:¬(o.kind≠3/\o.kind≠4):=by
  simp[ZG]at hp;omega
 rw[if_neg (by rw[a];simp),if_neg this]
def Zf0 {l:List Fd} {o:Opn} {f:Fd} (e:G3 l o=Ht) (hp:ZG o=Ht) (d:Zp l o.at'=(f,0)) (g:f.kind=1):o.kind=3:=by
 obtain⟨_,_,a,b⟩:=Gq e hp;rw[d]at a b;refine J7 λh=> ?_
 cases c:o.has;have:=b h c;simp only at this;omega;have:=a h c;simp[Xo,g]at this
def ZrG {x:Ln} {o p:Opn} (h:Va x o=(p,Ht)):p.id=o.id/\p.time=o.time/\p.kind=o.kind:=by
 have key:∀q:Opn×Bool,q=Va x o->q.2=Ht->q.1.id=o.id/\q.1.time=o.time/\q.1.kind=o.kind:=by
  intro q b a;subst b;revert a;unfold Va Zj;repeat' split
  all_goals first|(intro _;exact⟨rfl,rfl,rfl⟩)|(intro h;exact absurd h (by simp))
 exact key (p,Ht) h.symm rfl
def Zu7 (o:Opn) (t:Tg):Opn:=⟨o.id,t,o.time,o.cart,o.kind,o.item,o.at',o.delta,o.has,o.text,o.drops⟩
def Ztj (m:List Eg) (a b:Tg) (o:Opn):Opn×Bool:=
 if UO m a b≠0 then(Jd,Hf)else if(Wd (Zdy m a b).1 o).2=Hf then(Jd,Hf)else(Zu7 (Wd (Zdy m a b).1 o).1 b,Ht)
def S9 (m:List Eg) (o:Opn) (b:Tg):Int:=
 if Ws o=Hf then 5 else if upC m o.sch≠0 then upC m o.sch else if upC m b≠0 then upC m b else if G3 (YC (Ze m) o.sch).1 o=Hf then 16 else 0
structure SeenT where
 o:Opn
 ok:Bool
 c:Int
 deriving DecidableEq,Inhabited
def toT (m:List Eg) (o:Opn) (b:Tg):SeenT:=if S9 m o b≠0 then⟨Jd,Hf,S9 m o b⟩else⟨(Ztj m o.sch b o).1,(Ztj m o.sch b o).2,0⟩
def US (m:List Eg) (o:Opn):Bool:=Ws o&&(decide (upC m o.sch=0)&&G3 (YC (Ze m) o.sch).1 o)
def Zk7 {m:List Eg} {o:Opn} {b:Tg}:S9 m o b=0↔Ws o=Ht/\upC m o.sch=0/\upC m b=0/\G3 (YC (Ze m) o.sch).1 o=true:=by
 unfold S9;cases d:Ws o;simp;by_cases a:upC m o.sch=0;by_cases c:upC m b=0;cases e:G3 (YC (Ze m) o.sch).1 o;simp[a,c];simp[a,c];simp[a,c];simp[a]
def Zr1 {m:List Eg} (n:OkM m) (o:RightM m) {a b:Tg} (f:upC m a=0) (hv:upC m b=0):Gr (Zdy m a b).1 (YC (Ze m) a).1=some (YC (Ze m) b).1:=by
 obtain⟨g,k,_⟩:=XB f;obtain⟨q,l,_⟩:=XB hv;unfold Zdy;rw[if_neg (by rw[VF.2 ⟨f,hv⟩];simp)];have p:∀e∈Um m a,e.ln.kind<=8:=λe c=>ZfK (o.r e (g.mem e c))
 obtain⟨r,d,h⟩:=Za4 (lcp (Um m a) (Um m b)) k;obtain⟨ns,i,j⟩:=Za4 (lcp (Um m a) (Um m b)) l;rw[Zrq,i]at d;cases d;show Gr (G9 m (Zck (Um m a) (Um m b))) _=_;rw[Zlx n.a g.mem q.mem,Fx,ZjE _ (λe c=>p e (List.mem_of_mem_drop c)) h];rw[Option.bind_some,Zlj,j]
def ZgS {m:List Eg} (d:RightM m) {a:Tg} (f:upC m a=0):ZP (YC (Ze m) a).1=true:=by
 obtain⟨g,b,_⟩:=XB f;exact Za3 _ (λe c=>ZfK (d.r e (g.mem e c))) ZlU b
def Worth.sch {l:List Fd} {o:Opn} {w:Int} (h:Worth l o w) (t:Tg):Worth l (Zu7 o t) w:=⟨h.k,h.f,h.b⟩
def Zn5 {x:Ln} (b:Zx x=Ht):FV (FV x)=x:=by
 have a:=(Yz b).1;obtain⟨kind,⟨sc,g,h⟩,nm,i,c,e,f,d⟩:=x;simp only at a;rcases a with rfl|rfl|rfl|rfl|rfl|rfl|rfl|rfl|rfl|rfl
 all_goals simp[FV,Zx]at b ⊢
 all_goals simp_all
def FF {o:Opn} (h:ZG o=Ht):o.kind=3\/o.kind=4:=by simpa[ZG]using h
def Fg {x:Ln} {o:Opn} (a:Zx x=Ht) (h:ZG o=Hf):Va x o=(o,Ht):=by
 unfold Va;rw[if_neg (by rw[a];simp),if_pos];simpa[ZG]using h
structure AoS (rws:List Ln) (o0:Opn) where
 k:Nat
 o:Opn
 hk:k<=rws.length
 ok:OkOp o
 h:Wd (rws.drop k) o=Wd rws o0
def Zkz:List PV:= [.int .i64 0,.int .i64 0,.int .i64 0,.int .i64 0,.int .i64 0,.str [],.int .i64 0,.str [],.int .i64 0,.str [],.str [],.int .i64 0,.bool Hf,.str [],.sl .nil []]
def ZhK (a:List Ln) (o:Opn) (t:a.length<=1000) (q:∀x∈a,OkLn x) (j:OkOp o):Pp 147 [Zhw a,opv o] (opb (Wd a o)):=by
 have n:=XR o j;refine ZS func147 rfl ntmps147 results147 (ZE _) ?_;simp only[go_sem,Zhw,opv];refine Ze0 (ι:=AoS a o) 31 (λx=> [(0,Zhw a),(3,.ptr 3 0),(4,.ptr 4 0),(6,.int .i64 (x.k:Int))]) (λx=> [(3,Ge x.o,Hf),(4,Zkz,Hf)]) (λx=> []) (λx=>a.length-x.k) 0 _ (by exact rfl) (λx=>⟨(Fc4 rfl rfl rfl rfl),Fc2 rfl rfl⟩) (λx=> ?_) (λcut=> ?_);obtain⟨k,p,s,ok,h⟩:=x;simp only;by_cases i:k=a.length;have c:((k:Int)==(a.length:Int))=true:=by simp[i]
 have hd:Wd a o=(p,Ht):=by rw[<-h,i,List.drop_length];rfl
 simp only[go_sem,Zhw,c,hd,opb,opv,Ge,Zkz];have c:((k:Int)==(a.length:Int))=false:=by simp;omega
 have b:k<a.length:=by omega
 have l:=Ja k
 have m:(k:Int)<(a.length:Int):=by omega
 have r:=wk9 (k:=k) (by omega)
 have g:=ZmF (a.getD k Jd) p (q _ (Zc (d:=Jd) b)) ok;have f:=ZrH (x:=a.getD k Jd) ok;rw[ZtA b,ZaD]at h;cases e:(Va (a.getD k Jd) p).2
 ·rw[if_pos e]at h;simp only[go_sem,Zhw,c];refine vDq ?_;simp only[go_sem,ZnN b,lns,l,m,Ge,opv];refine vc6 g ?_;simp only[go_sem,opb,opv,e,<-h,Zkz];try rfl
 rw[if_neg (by rw[e];simp)]at h;simp only[go_sem,Zhw,c];refine vDq ?_;simp only[go_sem,ZnN b,lns,l,m,Ge,opv];refine vc6 g ?_;simp only[go_sem,opb,opv,e,r,Zkz];exact⟨⟨k+1,(Va (a.getD k Jd) p).1,by omega,f,h⟩,nx9 (by omega),⟨rfl,(Fc4 rfl rfl rfl rfl),Fc2 ⟨rfl,rfl⟩ ⟨rfl,rfl⟩,fnl⟩⟩;simp only[go_sem];refine vc6 n ?_;simp only[go_sem,opv];exact YS (cut ⟨0,o,Ji _,j,rfl⟩ _ ⟨rfl,(Fc4 rfl rfl rfl rfl),Fc2 ⟨rfl,rfl⟩ ⟨rfl,rfl⟩,fnl⟩)
def OkOp.len {o:Opn} (h:OkOp o):o.drops.length<=maxLen:=by have:=h.d;rw[Zd];omega
def ZiU (m:List Eg) (o:Opn) (a b:Tg) (l:OkM m) (q:RightM m) (p:OkOp o):Pp 98 [tr (Ze m),opv o,tg a,tg b] (opb (Ztj m a b o)):=by
 have i:=Zqf m a b l q;obtain⟨d,e⟩:=Zv0 (a:=a) (b:=b) l;have g:=ZhK (Zdy m a b).1 o d e p;have c:(Zdy m a b).2=UO m a b:=by unfold Zdy;split<;>simp_all
 unfold Ztj;by_cases f:UO m a b=0;rw[if_neg (λh=>h f)];rw[f]at c;generalize Zdy m a b=rw0 at *;obtain⟨k,r⟩:=rw0;simp only at c d e g ⊢;subst c;cases n:(Wd k o).2
 ·simp only[if_true];refine ZS func98 rfl ntmps98 results98 (ZE _) ?_;simp only[go_sem,tr,tg,opv];refine vc5 i ?_;simp only[go_sem,ZsS,Zhw];refine YN g ?_ ?_ ?_;iterate 2 simp only[go_sem,Zhw,opv]
  simp only[go_sem,opb,opv,n];try rfl
 ·simp only[JJ,if_false];refine ZS func98 rfl ntmps98 results98 (ZE _) ?_;simp only[go_sem,tr,tg,opv];refine vc5 i ?_;simp only[go_sem,ZsS,Zhw];refine YN g ?_ ?_ ?_;iterate 2 simp only[go_sem,Zhw,opv]
  simp only[go_sem,opb,opv,n,Zu7]
 have j:(UO m a b !=0)=true:=by simpa using f
 rw[if_pos f];refine ZS func98 rfl ntmps98 results98 (ZE _) ?_;simp only[go_sem,tr,tg,opv];refine vc5 i ?_;simp only[go_sem,ZsS,Zhw,c,j,opb,ZV];try rfl
def ZbJ (x:SeenT):PV:= .tup [opv x.o,.bool x.ok,.int .i64 x.c]
def UY (x:SeenT):(ZbJ x).dids= []:=by simp only[ZbJ,JZ,JO,Do,Je]
def Zdq {m:List Eg} {a:Tg} (d:OkM m) (f:upC m a=0):OkFs (YC (Ze m) a).1:=by
 obtain⟨g,b,_⟩:=XB f;exact ZoD _ (λe c=>d.l e (g.mem e c)) ZoG b
def ZmL (m:List Eg) (o:Opn) (b:Tg) (q:OkM m) (v:RightM m) (t:OkOp o):Pp 56 [tr (Ze m),opv o,tg b] (ZbJ (toT m o b)):=by
 have j:=Gj o t.len;have d:=Y6 m o.sch q;have k:=Y6 m b q;have p:=ZiU m o o.sch b q v t;cases h:Ws o
 ·rw[h]at j;have a:toT m o b=⟨Jd,Hf,5⟩:=by simp[toT,S9,h]
  rw[a];refine ZS func56 rfl ntmps56 results56 (UY _) ?_;simp only[go_sem,tr,tg,opv];refine vc6 j ?_;simp only[go_sem,ZbJ,ZV];try rfl
 rw[h]at j;by_cases c:upC m o.sch=0;have okA:=Zdq q c;have i:=ZcE (YC (Ze m) o.sch).1 o okA t.len;have f:(YC (Ze m) o.sch).2=0:=c;by_cases g:upC m b=0;have l:(YC (Ze m) b).2=0:=g;cases n:G3 (YC (Ze m) o.sch).1 o
 ·rw[n]at i;have a:toT m o b=⟨Jd,Hf,16⟩:=by simp[toT,S9,h,c,g,n]
  rw[a];clear a n c g okA p;generalize YC (Ze m) o.sch=ya at *;obtain⟨A,r⟩:=ya;generalize YC (Ze m) b=yb at *;obtain⟨B,u⟩:=yb;simp only at f l i;subst f l;refine ZS func56 rfl ntmps56 results56 (UY _) ?_;simp only[go_sem,tr,tg,opv];refine vc6 j ?_;simp only[go_sem];refine vc5 d ?_;simp only[go_sem,YX,Zt];refine vc5 k ?_;simp only[go_sem,YX,Zt];refine vc6 i ?_;simp only[go_sem,ZbJ,ZV];try rfl
 rw[n]at i;have a:toT m o b=⟨(Ztj m o.sch b o).1,(Ztj m o.sch b o).2,0⟩:=by simp[toT,S9,h,c,g,n]
 rw[a];clear a n c g okA;generalize Ztj m o.sch b o=yw at *;obtain⟨wq,w⟩:=yw;generalize YC (Ze m) o.sch=ya at *;obtain⟨A,r⟩:=ya;generalize YC (Ze m) b=yb at *;obtain⟨B,u⟩:=yb;simp only at f l i;subst f l;refine ZS func56 rfl ntmps56 results56 (UY _) ?_;simp only[go_sem,tr,tg,opv];refine vc6 j ?_;simp only[go_sem];refine vc5 d ?_;simp only[go_sem,YX,Zt];refine vc5 k ?_;simp only[go_sem,YX,Zt];refine vc6 i ?_;simp only[go_sem];refine vcn p ?_;simp only[go_sem,opb,opv,ZbJ]
 ·have l:((YC (Ze m) b).2 !=0)=true:=by have s:(YC (Ze m) b).2≠0:=g;simpa using s
  have a:toT m o b=⟨Jd,Hf,(YC (Ze m) b).2⟩:=by
   have e:upC m b=(YC (Ze m) b).2:=rfl;rw[<-e];simp[toT,S9,h,c,g]
  rw[a];clear a c g okA p;generalize YC (Ze m) o.sch=ya at *;obtain⟨A,r⟩:=ya;generalize YC (Ze m) b=yb at *;obtain⟨B,u⟩:=yb;simp only at f l i;subst f;refine ZS func56 rfl ntmps56 results56 (UY _) ?_;simp only[go_sem,tr,tg,opv];refine vc6 j ?_;simp only[go_sem];refine vc5 d ?_;simp only[go_sem,YX,Zt];refine vc5 k ?_;simp only[go_sem,YX,Zt,l,ZbJ,ZV];try rfl
 have f:((YC (Ze m) o.sch).2 !=0)=true:=by have s:(YC (Ze m) o.sch).2≠0:=c;simpa using s
 have a:toT m o b=⟨Jd,Hf,(YC (Ze m) o.sch).2⟩:=by
  have e:upC m o.sch=(YC (Ze m) o.sch).2:=rfl;rw[<-e];simp[toT,S9,h,c]
 rw[a];clear a c p;generalize YC (Ze m) o.sch=ya at *;obtain⟨A,r⟩:=ya;simp only at f;refine ZS func56 rfl ntmps56 results56 (UY _) ?_;simp only[go_sem,tr,tg,opv];refine vc6 j ?_;simp only[go_sem];refine vc5 d ?_;simp only[go_sem,YX,Zt,f,ZbJ,ZV];try rfl
def ZhM (m:List Eg) (o:Opn) (g:OkM m) (h:OkOp o):Pp 54 [tr (Ze m),opv o] (.bool (US m o)):=by
 have b:=Gj o h.len;have c:=Y6 m o.sch g;unfold US;cases e:Ws o;rw[e]at b;refine ZM func54 rfl ntmps54 results54 ?_;simp only[go_sem,tr,opv];refine vc6 b ?_;simp only[go_sem,Jg];rw[e]at b;by_cases a:upC m o.sch=0;have f:=ZcE (YC (Ze m) o.sch).1 o (Zdq g a) h.len;rw[decide_eq_true a];have d:(YC (Ze m) o.sch).2=0:=a;generalize YC (Ze m) o.sch=ya at *;obtain⟨A,j⟩:=ya;simp only at d f;subst d;refine ZM func54 rfl ntmps54 results54 ?_;simp only[go_sem,tr,opv];refine vc6 b ?_;simp only[go_sem,tg];refine vc5 c ?_;simp only[go_sem,YX,Zt];refine vc6 f ?_;simp only[go_sem,Jp];have d:((YC (Ze m) o.sch).2==0)=false:=by have i:(YC (Ze m) o.sch).2≠0:=a;simpa using i
 rw[decide_eq_false a];refine ZM func54 rfl ntmps54 results54 ?_;simp only[go_sem,tr,opv];refine vc6 b ?_;simp only[go_sem,tg];refine vc5 c ?_;simp only[go_sem,YX,Zt,d,Jg,Jq]
open Go.PL.Srt
def Wo (m:List Eg) (l:List Opn):List Opn:=l.filter λo=>US m o
def X0 (l:List Opn) (t:Tg):Bool:=l.any λo=>decide (t∈o.drops)
def VP (m:List Eg) (l:List Opn):List Opn:=(Wo m l).filter λo=> !X0 (Wo m l) o.id
def WH (m:List Eg) (l:List Opn):List Opn:=srt Ya (VP m l)
def ZbB (m:List Eg) (l:List Opn):(Wo m l).Sublist l:=JT
def UA (m:List Eg) (l:List Opn):(VP m l).Sublist l:=JT.trans (ZbB m l)
def ZiZ {l:List Opn} (h:(l.map Opn.id).Nodup):Unl Ya l:=by
 rw[List.nodup_iff_pairwise_ne,List.pairwise_map]at h;exact h.imp λh=>ZoI h
def Dg (m:List Eg) (l:List Opn):(WH m l).Perm (VP m l):=Wx _
def Ug (m:List Eg) (l:List Opn):(WH m l).length<=l.length:=by rw[(Dg m l).length_eq];exact(UA m l).length_le
def ZjU {m:List Eg} {l:List Opn} {o:Opn} (h:o∈WH m l):o∈l:=(UA m l).mem ((Dg m l).mem_iff.1 h)
theorem ZfU (t:Tg):∀(l:List Tg) (i:Nat),Td [.int,.int] [.int .i64 t.r,.int .i64 t.n] (l.map tg) i=some ((l.findIdx? λx=>decide (t=x)).map (· + i))
 | [],i=>rfl
 |n::l,i=>by
  have a:=ZfU t l (i+1);simp only[JV,tg,Td,ZC,UJ,if_true,JK,JN,Z6];by_cases h:t=n;simp[h];simp only[h,decide_false,a];simp only[Jy,if_false,J4];congr 2;funext x;simp;omega
def SA (t:Tg) (l:List Tg):Td [.int,.int] [.int .i64 t.r,.int .i64 t.n] (l.map tg) 0=some (l.findIdx? λx=>decide (t=x)):=by
 rw[ZfU];congr 1;cases J8 (λx=>decide (t=x)) l<;>rfl
def Zet {t:Tg} {l:List Tg}:(l.findIdx? λx=>decide (t=x))=none↔t∉l:=by
 rw[JC];constructor;intro h a;have:=h t a;simp at this;intro h x b;simp only[decide_eq_false_iff_not];intro e;exact h (e▸b)
def ZlT (m:List Eg) {l:List Opn} {k:Nat} (h:k<l.length):Wo m (l.take (k+1))=Wo m (l.take k)++(if US m (l.getD k Jd)=Ht then [l.getD k Jd]else []):=by
 unfold Wo;rw[ZQ (d:=Jd) h,Jt];congr 1;generalize l.getD k Jd=x;cases a:US m x;rw[Jn (by rw[a];simp),if_neg (by simp)];rfl;rw[Jo (by exact a),if_pos rfl];rfl
structure LivS (m:List Eg) (l:List Opn) where
 k:Nat
 ks:List Tg
 hk:k<=l.length
 h:∀t,t∈ks↔X0 (Wo m (l.take k)) t=Ht
def tgm (ks:List Tg):MapC:=⟨ks.map tg,ks.map λ_=> .agg []⟩
def Zld (l:List Opn) (o:Opn) (t:Tg):X0 (l++ [o]) t=Ht↔X0 l t=Ht\/t∈o.drops:=by simp[X0]
def ZlZ {i:Nat} {l:List Tg}:(l.map λ_=>Ka []).set i (Ka [])=l.map λ_=>Ka []:=by
 apply List.ext_getElem;simp;intro j a b;rw[List.getElem_set];split<;>simp
theorem Zdi (m:List Eg) (l:List Opn) (hm:OkM m) (hl:l.length<=20) (X:∀o∈l,OkOp o) (hU:(l.map Opn.id).Nodup):
  Eff prog 22 [tr (Ze m),Z1 l] noV (.vsl 63 (WH m l).length 15) (Zcx 63 (WH m l).length 15 59 ((WH m l).map opv)):=by
 have g:∀l:List Opn,∀p∈l.map opv,p.ids= []:=λl=>Yt Uv l
 refine Eff.vn [63] func22 (by decide) rfl ntmps22 results22 (by simp) (g _) (by simp[Jl,tr,Z1]) (by simp[Jl]) ?_;have xc:l.length<=maxLen:=by rw[Zd];omega
 simp only[go_sem,tr,Z1];intro b;refine YJ 5 32 15 59 rfl rfl ?_;refine Ul (ι:=LivS m l) 68 (λx=> [(0,tr (Ze m)),(5,.sl (.row 32) ((Wo m (l.take x.k)).map opv)),(6,.mref b),(19,Z1 l),(20,.int .i64 (l.length:Int)),(21,.int .i64 (x.k:Int))]) (λ_=> []) (λx=> [(32,.live (Wo m (l.take x.k)).length 15 59)]) (λx=> [(b,tgm x.ks)]) (λ_=> []) (λ_=> []) (λ_=> []) [] [] [63] (λx=>l.length-x.k) ⟨0,[],Ji _,λt=>by simp[X0,Wo]⟩
  (Zdb rfl (Fc6 rfl rfl rfl rfl rfl rfl) rfl (by simp[upd,Hp.setq,St.with,tgm])) (λx=>Zkw (Fc6 rfl rfl rfl rfl rfl rfl)) (λx=> ?_)
 obtain⟨k,ks,hk,h⟩:=x;simp only;by_cases w:(k:Int)<(l.length:Int);have c:k<l.length:=by omega
 have I:=Ja k
 have J:=wk9 (k:=k) (by omega)
 have K:=ZhM m (l.getD k Jd) hm (X _ (Zh c));have a:=ZlT m c;have S:(Wo m (l.take k)).length<=100000:=Jz (Jz (ZbB _ _).length_le (Jv _ _)) (by omega);cases f:US m (l.getD k Jd);rw[f]at K;rw[f]at a;simp only[Jy,if_false,Je]at a;simp only[go_sem,Z1,w,Z3 c,opv,I];refine vc7 K ?_;simp only[go_sem,J];exact⟨⟨k+1,ks,by omega,λt=>by rw[a];exact h t⟩,nx9 (by omega),Zdb rfl (by simp only;rw[a];exact(Fc6 rfl rfl rfl rfl rfl rfl)) (by simp only;rw[a];rfl) (by simp[upd,Hp.setq,St.with,mkStX,Yq])⟩;rw[f]at K;rw[f]at a;simp only[if_true]at a;have A:=YP (show(Wo m (l.take k)).length+1<=1000000 by omega) (show 176<=1000 by omega);have xa:=(X (l.getD k Jd) (Zh c)).d;generalize L:l.getD k Jd=x at *;have T:=Ww (Wo m (l.take k));have G:Sized 15 [opv x]:=Ww [x];have E:XF [opv x]:=Sv [x];have z:((Wo m (l.take k)).map opv).length=(Wo m (l.take k)).length:=Jf _;simp only[opv]at G E;simp only[go_sem,Z1,w,Z3 c,L,opv,I];refine vc7 K ?_;simp only[go_sem,z,A,T,G,E];refine Ul (ι:= { jk:Nat×List Tg // jk.1<=x.drops.length/\ ∀t,t∈jk.2↔(X0 (Wo m (l.take k)) t=Ht\/t∈x.drops.take jk.1) }) 68 (λy=> [(0,tr (Ze m)),(5,.sl (.row 32) ((Wo m (l.take k)++ [x]).map opv)),(6,.mref b),(19,Z1 l),(20,.int .i64 (l.length:Int)),(21,.int .i64 (k:Int)),(34,tgs x.drops),(35,.int .i64 (x.drops.length:Int)),(36,.int .i64 (y.1.1:Int))]) (λ_=> []) (λy=> [(32,.live ((Wo m (l.take k)).length+1) 15 59)]) (λy=> [(b,tgm y.1.2)]) (λ_=> []) (λ_=> []) (λ_=> []) [] [] [63] (λy=>x.drops.length-y.1.1) ⟨(0,ks),Ji _,λt=>by rw[h t];simp⟩
  (Zdb rfl (by rw[Jj];exact(Fc9 rfl rfl rfl rfl rfl rfl rfl rfl rfl)) rfl (by simp[upd,Hp.setq,St.with,mkStX,Yq])) (λy=>Zkw (Fc9 rfl rfl rfl rfl rfl rfl rfl rfl rfl)) (λy=> ?_)
 obtain⟨⟨j,ks'⟩,hj,B⟩:=y;simp only at hj B ⊢;by_cases v:(j:Int)<(x.drops.length:Int);have q:j<x.drops.length:=by omega
 have j0:=Ja j
 have w2:=wk9 (k:=j) (by omega)
 have s:∀t,t∈x.drops.take (j+1)↔t∈x.drops.take j\/t=x.drops.getD j Jd:=λt=>by rw[ZQ (d:=Jd) q];simp
 generalize Z:x.drops.getD j Jd=t at *;cases n:ks'.findIdx? (λy=>decide (t=y))with
 |none=>
  simp only[go_sem,tgs,v,YU q,Z,tg,j0,tgm,SA,n,w2];refine⟨⟨(j+1,ks'++ [t]),q,λu=> ?_⟩,nx9 (by omega),Zdb rfl (Fc9 rfl rfl rfl rfl rfl rfl rfl rfl rfl) rfl (by simp[upd,Hp.setq,St.with,mkStX,Yq,tgm,tg])⟩;rw[s,JQ,B,Jh,or_assoc]
 |some i=>
  simp only[go_sem,tgs,v,YU q,Z,tg,j0,tgm,SA,n,w2];have P:t∈ks':=J2.1 λR=>by rw[Zet.2 R]at n;cases n
  refine⟨⟨(j+1,ks'),q,λu=> ?_⟩,nx9 (by omega),Zdb rfl (Fc9 rfl rfl rfl rfl rfl rfl rfl rfl rfl) rfl (by simp[upd,Hp.setq,St.with,mkStX,Yq,tgm,ZlZ])⟩;rw[s,<-or_assoc,<-B];constructor
  ·exact .inl
  ·rintro (e|e)
   ·exact e
   ·rw[e];exact P
 obtain rfl:j=x.drops.length:=by omega
 rw[JA]at B;simp only[go_sem,v,J];refine⟨⟨k+1,ks',by omega,λt=>by rw[a,Zld];exact B t⟩,nx9 (by omega),Zdb rfl (by simp only;rw[a];exact(Fc6 rfl rfl rfl rfl rfl rfl)) (by simp only;rw[a,Jm];rfl) (by simp[upd,Hp.setq,St.with,mkStX,Yq])⟩;obtain rfl:k=l.length:=by omega
 rw[JA]at h;simp only[go_sem,w,JA];generalize f:Wo m l=rd at *;have S:rd.length<=100000:=by rw[<-f];exact Jz (ZbB _ _).length_le (by omega)
 have D:VP m l=rd.filter λo=> !X0 rd o.id:=by unfold VP;rw[f]
 refine ZcS 11 63 15 59 rfl rfl ?_;refine Ul (ι:= { k:Nat // k<=rd.length }) 68 (λy=> [(6,.mref b),(11,.vsl 63 ((rd.take y.1).filter λo=> !X0 rd o.id).length 15),(45,.sl (.row 32) (rd.map opv)),(46,.int .i64 (rd.length:Int)),(47,.int .i64 (y.1:Int))]) (λ_=> []) (λy=> [(63,.vec ((rd.take y.1).filter λo=> !X0 rd o.id).length 15 59),(32,.live rd.length 15 59)]) (λy=> [(b,tgm ks)]) (λ_=> []) (λy=> [(63,((rd.take y.1).filter λo=> !X0 rd o.id).map opv)]) (λ_=> []) [] [] [63] (λy=>rd.length-y.1) ⟨0,Ji _⟩
  (Zer rfl (Fc5 rfl rfl rfl rfl rfl) rfl rfl rfl (by simp[upd,Hp.setq,St.with,mkStX,Yq,tgm])) (λy=>ZpP (by simp[Jl,JE,ZR]) (Xd Uv _)) (λy=> ?_)
 obtain⟨k,hk⟩:=y;simp only;by_cases r:(k:Int)<(rd.length:Int);have c:k<rd.length:=by omega
 have I:=Ja k
 have J:=wk9 (k:=k) (by omega)
 have a:(rd.take (k+1)).filter (λo=> !X0 rd o.id)=(rd.take k).filter (λo=> !X0 rd o.id)++(if X0 rd (rd.getD k Jd).id=Ht then []else [rd.getD k Jd]):=by
  rw[ZQ (d:=Jd) c,Jt];congr 1;generalize rd.getD k Jd=x;cases Y:X0 rd x.id;rw[Jo (by rw[Y];rfl),if_neg (by simp)];rfl;rw[Jn (by rw[Y];simp),if_pos rfl];rfl
 have xb:((rd.take k).filter λo=> !X0 rd o.id).length<=k:=Jz (Jk _ _) (Jv _ _);have A:=YP (show((rd.take k).filter λo=> !X0 rd o.id).length+1<=1000000 by omega) (show 176<=1000 by omega);generalize L:rd.getD k Jd=x at *;generalize V:(rd.take k).filter (λo=> !X0 rd o.id)=al at *;have z:(al.map opv).length=al.length:=Jf _;have M:∀p∈al.map opv,p.ids= []:=g al;cases n:ks.findIdx? (λy=>decide (x.id=y))with
 |none=>
  have hd:X0 rd x.id=false:=by
   rw[Bool.eq_false_iff];exact λhh=>Zet.1 n ((h _).2 hh)
  rw[hd,if_neg (by simp)]at a;simp only[go_sem,Z1,r,Z3 c,L,opv,I,tgm,tg,SA,n,J,z,A];refine⟨λp hp=>by rw[Jh.1 hp];exact⟨rfl,rfl⟩,λp hp=>by rw[Jh.1 hp];exact Uv x,λp hp=> ?_,⟨k+1,by omega⟩,nx9 (by omega),Zer rfl ?_ ?_ rfl ?_ ?_⟩
  ·rcases JQ.1 hp with hp|hp
   ·rw[M p hp];simp
   ·rw[Jh.1 hp];simp[Jl,JE]
  ·simp only;rw[a,Jm];exact(Fc5 rfl rfl rfl rfl rfl)
  ·simp only;rw[a,Jm];rfl
  ·simp only;rw[a,Jj];rfl
  ·simp[upd,Hp.setq,St.with,mkStX,Yq,Zqx]
 |some i=>
  have hd:X0 rd x.id=true:=(h _).1 (J2.1 λR=>by rw[Zet.2 R]at n;cases n);rw[hd,if_pos rfl,Je]at a;have O:i<ks.length:=(Ju.1 n).1;have N:(ks.map λ_=>Ka []).getD i .any= .agg []:=by rw[getD_lt (by simpa using O)];simp
  simp only[go_sem,Z1,r,Z3 c,L,opv,I,tgm,tg,SA,n,J,N];refine⟨⟨k+1,by omega⟩,nx9 (by omega),Zer rfl ?_ ?_ rfl ?_ ?_⟩
  ·simp only;rw[a];exact(Fc5 rfl rfl rfl rfl rfl)
  ·simp only;rw[a];rfl
  ·simp only;rw[a];rfl
  ·simp[upd,Hp.setq,St.with,mkStX,Yq]
 have U:rd.take k=rd:=Jr (by omega);have C:=S6 ops_sort 59 (VP m l).length (by have:=(UA m l).length_le;omega) (VP m l) (ZiZ (List.Nodup.sublist ((UA m l).map _) hU)) rfl _ rfl;rw[D]at C;simp only[go_sem,Z1,r,U];refine DD 63 C (by simp[Jl,JE]) (g _) (g _) rfl rfl rfl ?_;simp only[go_sem];have F:WH m l=srt Ya (rd.filter λo=> !X0 rd o.id):=by unfold WH;rw[D]
 have Q:(WH m l).length=(rd.filter λo=> !X0 rd o.id).length:=by rw[F,VK]
 rw[Q,F];exact ZaW (r0:= .vsl 63 _ 15) (g _) rfl (.keep _ (by intro i W;simp[Jl]at W;subst W;exact⟨_,Jh.2 rfl,rfl⟩)) rfl rfl
open Go.Shelf Go.RowKit Go.Lib Go.Sort
def flatStr:Flat Str where
 p:= .str
 v:=λs=> [.string ⟨⟨s⟩⟩]
 sz:=1
 pos:=by decide
 hp:=λ_=>rfl
 hv:=λ_=>rfl
 to:=λS x j u a h=>by
  match j,a with
  |0,_=>cases h;rfl
 of:=λS x j a=>by
  match j,a with
  |0,_=>exact .str _
def Zyg {w:World} {b o:Nat} {vs:List Value} {e:TypeId} (h:w.heap[b]? = some (.cells ⟨vs⟩ e (0,0))) (a:o<vs.length):w.cell? ⟨b,o,none⟩=some (vs.getD o undef):=by
 rw[Yu h,List.getElem?_eq_getElem a,PL.getD_lt a]
def ZzC (xs:List Str) (j:Nat) (h:j<xs.length):xs.toArray[j]! = xs.getD j Jd:=by
 rw[PL.getD_lt h];simp[h]
def Zdt {w:World} {b:Nat} {xs:List Str} {e:TypeId} {vs:List Value} (d:w.heap[b]? = some (.cells ⟨vs⟩ e (0,0))) (g:xs.length*flatStr.sz<=vs.length)
  (hv:∀i j,i<xs.length->j<flatStr.sz->vs.getD (i*flatStr.sz+j) undef=(flatStr.v (xs.getD i Jd)).getD j undef):Holds encStr w b 0 xs.toArray:=by
 intro j f;have a:j<xs.length:=by simpa using f
 have h:xs.length<=vs.length:=by simpa[flatStr]using g
 have c:=hv j 0 a (by decide);simp only[flatStr,Ke,Kc,JU]at c;rw[Nat.zero_add,ZzC xs j a];refine⟨?_,?_⟩;rw[Zyg d (by omega),c];simp[World.frozen?,d]
def Zj7 {w:World} {b c n lo:Nat} {xs ys rest:List Str} {e:TypeId} {vs:List Value} {os:Array Obj} (h:lo<=b) (x:xs.length<=c) (o:w.heap[b]? = some (.cells ⟨vs⟩ e (0,0))) (s:xs.length*flatStr.sz<=vs.length) (u:(ys++rest).length=xs.length):
  Ft flatStr (grow (putRow encStr (Sort.ahead w n) b 0 (ys++rest).toArray) os) lo ys (.slice (some ⟨b,0,none⟩) ys.length c)/\BelowF (λk=>k<lo) w (grow (putRow encStr (Sort.ahead w n) b 0 (ys++rest).toArray) os):=by
 have p:b<w.heap.size:=(JL.1 o).1;have t:xs.length<=vs.length:=by simpa[flatStr]using s
 have v:ys.length<=xs.length:=by rw[<-u];simp
 have m:(grow (putRow encStr (Sort.ahead w n) b 0 (ys++rest).toArray) os).heap=w.heap.modify b (onCells (putCells encStr 0 (ys++rest).toArray))++os:=rfl;have a:∀k,k<w.heap.size->(grow (putRow encStr (Sort.ahead w n) b 0 (ys++rest).toArray) os).heap[k]? = (w.heap.modify b (onCells (putCells encStr 0 (ys++rest).toArray)))[k]? :=λk g=>by
  rw[m,Array.getElem?_append_left (by simpa using g)]
 refine⟨.inr ⟨b,c,e,(putCells encStr 0 (ys++rest).toArray ⟨vs⟩).toList,h,rfl,by omega,?_,?_,λi j l q=> ?_⟩,?_⟩;rw[a b p,JR,if_pos rfl,o];rfl;show ys.length*1<=_;simp only[putCells,Array.length_toList,Array.size_mapIdx,List.size_toArray];omega;have f:j=0:=by have:j<1:=q;omega
 subst f;have d:i<vs.length:=by omega
 show(putCells encStr 0 (ys++rest).toArray ⟨vs⟩).toList.getD (i*1+0) undef= [Value.string ⟨⟨ys.getD i Jd⟩⟩].getD 0 undef;simp only[Ke,Kc,JU];rw[PL.getD_lt (by simpa[putCells]using d)];simp only[putCells,Array.getElem_toList,Array.getElem_mapIdx];rw[if_pos ⟨Ji _,by simp;omega⟩];simp only[Nat.sub_zero];rw[ZzC (ys++rest) i (by simp;omega),PL.getD_lt (by simp;omega),PL.getD_lt l,List.getElem_append_left l];refine⟨rfl,rfl,rfl,?_,λk g=> ?_⟩;rw[m];simp;have r:k<lo:=g;rw[a k (by omega),JR,if_neg (by omega)]
def S4 (xs:List Str):List Str:=xs.mergeSort λx y=>decide (x<=y)
def Zl1 (xs:List Str) (lo:Nat) (w:World) (v:Value) (q:xs.length<=1000000) (p:Ft flatStr w lo xs v) (o:lo<=w.heap.size):
  Calls prog 60 #[v] w λe w'=>e= .returned (.tuple #[])/\Ft flatStr w' lo (S4 xs) v/\BelowF (λk=>k<lo) w w':=by
 rcases p with ⟨h,rfl⟩|⟨b,c,e,vs,i,rfl,j,f,g,l⟩;obtain rfl:=JP.1 h;refine(Any.slices_Sort_string_none Zo4 none 0 w).mono λe w' ⟨he,hw⟩=> ?_
 subst hw;exact⟨he,.inl ⟨by simp[S4],rfl⟩,Kf _ _⟩;have m:b<w.heap.size:=(JL.1 f).1;refine(Any.slices_Sort_string Zo4 b 0 c xs w (Zdt f g l) m (by omega)).mono λe w' ⟨he,n,os,hw⟩=>⟨he,?_⟩
 have a:(S4 xs++ []).length=xs.length:=by simp[S4]
 have d:=Zj7 (ys:=S4 xs) (rest:= []) (n:=n) (os:=os) i j f g a;rw[Je]at d a;rw[a]at d;rw[hw];exact d
def Ta (xs:List Str):(Lib.compact xs).length<=xs.length:=by
 unfold Lib.compact Lib.compactUpTo;rw[Jf];exact Jz (Jk _ _) (by simp)
def Zk9 (xs:List Str) (lo:Nat) (w:World) (v:Value) (p:xs.length<=1000000) (o:Ft flatStr w lo xs v):
  Calls prog 61 #[v] w λe w'=>∃u,e= .returned u/\Ft flatStr w' lo (Lib.compact xs) u/\BelowF (λk=>k<lo) w w':=by
 rcases o with ⟨h,rfl⟩|⟨b,c,e,vs,i,rfl,d,f,g,j⟩;obtain rfl:=JP.1 h;refine(Any.slices_Compact_string_empty Zng none 0 w).mono λe w' ⟨he,hw⟩=> ?_
 subst hw;exact⟨_,he,.inl ⟨by have:=Ta [];simpa using this,rfl⟩,Kf _ _⟩;refine(Any.slices_Compact_string Zng b 0 c xs w (Zdt f g j) (by omega) d).mono λe w' ⟨he,n,hw⟩=>⟨_,he,?_⟩
 have l:=Ta xs;have a:=Zj7 (ys:=Lib.compact xs) (rest:=List.replicate (xs.length-(Lib.compact xs).length) []) (n:=n) (os:= #[]) i d f g (by simp;omega);have m:∀W:World,grow W #[]=W:=λW=>by simp[grow]
 rw[m]at a;rw[hw];exact a
def Xl (l:List Opn) (c:Str):List Str:=(l.filter λo=>o.kind==1&&o.cart==c).map Opn.item
def Wl (l:List Opn) (c:Str):List Str:=Lib.compact (S4 (Xl l c))
def Ziq {l:List Opn} {k:Nat} (c:Str) (h:k<l.length):Xl (l.take (k+1)) c=Xl (l.take k) c++(if((l.getD k Jd).kind==1&&(l.getD k Jd).cart==c)=Ht then [(l.getD k Jd).item]else []):=by
 unfold Xl;rw[ZQ (d:=Jd) h,Jt,Jj];congr 1;generalize l.getD k Jd=x;cases a:(x.kind==1&&x.cart==c);rw[Jn (by rw[a];simp),if_neg (by simp)];rfl;rw[Jo (by exact a),if_pos rfl];rfl
def SL (l:List Opn) (c:Str):(Xl l c).length<=l.length:=by unfold Xl;rw[Jf];exact Jk _ _
def ZdF (l:List Str):Sized 1 (l.map .str):=λe a=>by
 obtain⟨o,_,rfl⟩:=JI.1 a;rfl
def Zlv (l:List Opn) (b:Str) (w:l.length<=100000) {c:Code} (r:f27.body=some c):Zs9 prog (λs=>s.n=33/\s.fr 5= .sl (.row 27) ((Xl l b).map .str)/\s.m.q 27=some (.live (Xl l b).length 1 9)) 3 c (St.init [Z1 l,.str b] 33):=by
 cases r;have g:l.length<=maxLen:=by rw[Zd];omega
 refine Vu ?_;simp only[go_sem];refine Vu ?_;simp only[go_sem];refine Vu ?_;simp only[go_sem,Z1];refine YJ 5 27 1 9 rfl rfl ?_;refine ZA (ι:= { x:Nat // x<=(l).length }) 33 (λx=> [(1,.str b),(5,.sl (.row 27) ((Xl (l.take x.1) b).map .str)),(8,Z1 l),(9,.int .i64 (l.length:Int)),(10,.int .i64 (x.1:Int))]) (λx=> []) (λx=> [(27,.live ((Xl (l.take x.1) b).length) (1) (9))]) (λx=>(l).length-x.1) ⟨0,Ji _⟩ ⟨rfl,(Fc5 rfl rfl rfl rfl rfl),fnl,(fcs rfl fnl)⟩ (λx=>⟨(Fc5 rfl (by simp[Jl,ZR]) rfl rfl rfl),fnl⟩) (λx=> ?_);obtain⟨k,t⟩:=x;simp only at t ⊢;by_cases h:(k:Int)<(l.length:Int)
 (have d:k<(l).length:=by omega);(have q:=Wa d (g));(have p:=Ja k)
 have a:=Ziq b d;have u:=SL (l.take k) b;have v:(l.take k).length<=k:=Jv _ _;have j:=YP (show(Xl (l.take k) b).length+1<=1000000 by omega) (show 16<=1000 by omega);have i:((Xl (l.take k) b).map J5).length=(Xl (l.take k) b).length:=Jf _;have m:=ZdF (Xl (l.take k) b);generalize o:l.getD k Jd=x at *;cases e:(x.kind==1);rw[e,Jg,if_neg (by simp),Je]at a;simp only[go_sem,Z1,h,Z3 d,o,opv,p,e,q];exact⟨⟨k+1,by omega⟩,nx9 (by omega),⟨rfl,by simp only;rw[a];exact(Fc5 rfl rfl rfl rfl rfl),fnl,by simp only;rw[a];exact fcs rfl fnl⟩⟩;cases f:(x.cart==b);rw[e,f,Jq,if_neg (by simp),Je]at a;simp only[go_sem,Z1,h,Z3 d,o,opv,p,e,f,q];exact⟨⟨k+1,by omega⟩,nx9 (by omega),⟨rfl,by simp only;rw[a];exact(Fc5 rfl rfl rfl rfl rfl),fnl,by simp only;rw[a];exact fcs rfl fnl⟩⟩;rw[e,f,Js,if_pos rfl]at a;simp only[go_sem,Z1,h,Z3 d,o,opv,p,e,f,q,i,m,j];exact⟨⟨k+1,by omega⟩,nx9 (by omega),⟨rfl,by simp only;rw[a,Jj];exact(Fc5 rfl rfl rfl rfl rfl),fnl,by simp only;rw[a,Jm];exact fcs rfl fnl⟩⟩;have n:l.take k=l:=Jr (by omega);simp only[go_sem,Z1,h,n];exact⟨rfl,rfl,rfl⟩
def Zlu (l:List Opn) (c:Str) (q:l.length<=100000):Pp 27 [Z1 l,.str c] (.sl .no ((Wl l c).map .str)):=by
 have r:=SL l c;refine PL.Pure.tail flatStr (k:=3) (i:=5) (d:=27) (N:=33) (G:=λxs=>xs=Xl l c) (g:=λxs=>Lib.compact (S4 xs)) func27 (by decide) rfl (by show 2<=33;decide) (by simp only[JZ,XI]) (Zlv l c q rfl) (λs ⟨h2,h3,h4⟩=>⟨Xl l c,_,rfl,h2,h3,h4⟩) ?_ (λxs h=>by rw[h];rfl);intro xs lo a w o hd p t j;subst o;have b:=Zl1 _ lo w _ (by omega) t j;refine Zhu (N:=33) p (by decide) (by decide) (by decide) (by decide) (by decide) (by decide) (by decide) func60 (by decide) (by intro h;cases h) func61 (by decide) (by intro h;cases h) ?_;refine b.mono λe w' ⟨he,h1,h2⟩=>⟨_,he,?_⟩
 refine(Zk9 _ lo w' _ (by simp[S4];omega) h1).mono λe v ⟨u,he,h3,h4⟩=>⟨u,he,λn f m=>⟨.inr rfl,by rw[f,hd],?_⟩⟩
 exact⟨n.tmps.getD 4 undef,Go.results_tmp rfl _ _ _,by rw[m];exact h3,h2.trans h4⟩
def ZrM (a b:Int):PV:=if Xp a=Ht/\Xp b=Ht then .tup [.cpx .f64 (WD a) (WD b),.int .i64 0]else .tup [.cpx .f64 0 0,.int .i64 3]
def ZnD:WD 0=0:=by decide+kernel
def ZmH (a b c d:Int) (k:Lim a) (l:Lim b) (m:Lim c) (hd:Lim d):Pp 100 [.cpx .f64 (WD a) (WD b),.cpx .f64 (WD c) (WD d)] (ZrM (a+c) (b+d)):=by
 have g:=DP a b k l;have i:=DP c d m hd;have e:=Sn a b k l;have f:=Sn c d m hd;have j:=ZhD (a+c) (b+d);have n:IntKind.i64.wrap (a+c)=a+c:=w64 (by obtain⟨_,_⟩:=k;obtain⟨_,_⟩:=m;omega);have o:IntKind.i64.wrap (b+d)=b+d:=w64 (by obtain⟨_,_⟩:=l;obtain⟨_,_⟩:=hd;omega);unfold ZrM;generalize Xp (a+c)=x at *;generalize Xp (b+d)=y at *;by_cases h:x=Ht/\y=Ht;rw[if_pos h]at j ⊢;refine ZM func100 rfl ntmps100 results100 ?_;simp only[go_sem];refine vc1 g ?_;simp only[go_sem];refine vc1 i ?_;simp only[go_sem];refine vc1 e ?_;simp only[go_sem];refine vc1 f ?_;simp only[go_sem,n,o];refine vc1 j ?_;simp only[go_sem];rw[if_neg h]at j ⊢;refine ZM func100 rfl ntmps100 results100 ?_;simp only[go_sem];refine vc1 g ?_;simp only[go_sem];refine vc1 i ?_;simp only[go_sem];refine vc1 e ?_;simp only[go_sem];refine vc1 f ?_;simp only[go_sem,n,o];refine vc1 j ?_;simp only[go_sem]
def Uw (s:Int) (o:Opn):Int:=if o.kind=3/\Xp o.delta=Ht/\Xp (s+o.delta)=Ht then s+o.delta else s
def Zhx (l:List Opn):Int:=l.foldl Uw 0
def Zpg {s:Int} {o:Opn} (h:Lim s):Lim (Uw s o):=by
 unfold Uw;split;rename_i a;exact Yw.1 a.2.2;exact h
theorem Zan:∀(l:List Opn) {s:Int},Lim s->Lim (l.foldl Uw s)
 | [],s,h=>h
 |o::l,s,h=>Zan l (Zpg h)
def Zu6:Lim 0:=by unfold Lim;omega
def Zpo {l:List Opn} {k:Nat} (h:k<l.length):Zhx (l.take (k+1))=Uw (Zhx (l.take k)) (l.getD k Jd):=by
 unfold Zhx;rw[ZQ (d:=Jd) h,List.foldl_append];rfl
def Zmc (l:List Opn) (v:l.length<=maxLen):Pp 59 [Z1 l] (.int .i64 (Zhx l)):=by
 have r:Xp 0=true:=by decide
 have t:=Sn (Zhx l) 0 (Zan l Zu6) Zu6;have p:=v;rw[Zd]at p;refine ZM func59 rfl ntmps59 results59 ?_;simp only[go_sem,Z1];refine ZA (ι:= { k:Nat // k<=l.length }) 47 (λx=> [(3,.cpx .f64 (WD (Zhx (l.take x.1))) (WD 0)),(13,Z1 l),(14,.int .i64 (l.length:Int)),(15,.int .i64 (x.1:Int))]) (λx=> []) (λx=> []) (λx=>l.length-x.1) ⟨0,Ji _⟩
  ⟨rfl,Fc4 (by show PV.cpx .f64 0 0=PV.cpx .f64 (WD 0) (WD 0);rw[ZnD]) rfl rfl rfl,fnl,fnl⟩ (λx=>⟨(Fc4 rfl rfl rfl rfl),fnl⟩) (λx=> ?_)
 obtain⟨k,y⟩:=x;simp only;by_cases h:(k:Int)<(l.length:Int);have c:k<l.length:=by omega
 have m:=Ja k
 have o:=wk9 (k:=k) (by omega)
 have b:=Zpo c;have w:Lim (Zhx (l.take k)):=Zan _ Zu6;generalize Zhx (l.take k)=s at *;generalize j:l.getD k Jd=x at *;by_cases n:x.kind=3;have f:(x.kind !=3)=false:=by simpa using n
 have d:=ZhD x.delta 0;cases g:Xp x.delta;rw[g]at d;have e:Uw s x=s:=by unfold Uw;rw[if_neg (by rw[g];simp)]
 rw[e]at b;simp only[Jy,false_and,if_false]at d;simp only[go_sem,Z1,h,Z3 c,j,opv,m,f];refine vc1 d ?_;simp only[go_sem,o];exact⟨⟨k+1,by omega⟩,nx9 (by omega),⟨rfl,Fc4 (by simp only;rw[b];rfl) rfl rfl rfl,fnl,fnl⟩⟩;have hd:Lim x.delta:=Yw.1 g;rw[g,r]at d;simp only[and_self,if_true]at d;have a:=ZmH s 0 x.delta 0 w Zu6 hd Zu6;cases i:Xp (s+x.delta);have e:Uw s x=s:=by unfold Uw;rw[if_neg (by rw[i];simp)]
 rw[e]at b;unfold ZrM at a;rw[i]at a;simp only[Jy,false_and,if_false]at a;simp only[go_sem,Z1,h,Z3 c,j,opv,m,f];refine vc1 d ?_;simp only[go_sem];refine vc1 a ?_;simp only[go_sem,o];exact⟨⟨k+1,by omega⟩,nx9 (by omega),⟨rfl,Fc4 (by simp only;rw[b];rfl) rfl rfl rfl,fnl,fnl⟩⟩;have e:Uw s x=s+x.delta:=by unfold Uw;rw[if_pos ⟨n,g,i⟩]
 rw[e]at b;unfold ZrM at a;rw[i,show Xp (0+0)=Ht by decide]at a;simp only[and_self,if_true,J9]at a;simp only[go_sem,Z1,h,Z3 c,j,opv,m,f];refine vc1 d ?_;simp only[go_sem];refine vc1 a ?_;simp only[go_sem,o];exact⟨⟨k+1,by omega⟩,nx9 (by omega),⟨rfl,Fc4 (by simp only;rw[b];rfl) rfl rfl rfl,fnl,fnl⟩⟩;have f:(x.kind !=3)=true:=by simpa using n
 have e:Uw s x=s:=by unfold Uw;rw[if_neg (λu=>n u.1)]
 rw[e]at b;simp only[go_sem,Z1,h,Z3 c,j,opv,m,f,o];exact⟨⟨k+1,by omega⟩,nx9 (by omega),⟨rfl,Fc4 (by simp only;rw[b];rfl) rfl rfl rfl,fnl,fnl⟩⟩;have q:l.take k=l:=Jr (by omega);simp only[go_sem,Z1,h,q];refine vc1 t ?_;simp only[go_sem]
def Yc (l:List Opn):List Str:=(l.filter λo=>o.kind==4&&o.has).map Opn.text
def ZiV {l:List Opn} {k:Nat} (h:k<l.length):Yc (l.take (k+1))=Yc (l.take k)++(if((l.getD k Jd).kind==4&&(l.getD k Jd).has)=Ht then [(l.getD k Jd).text]else []):=by
 unfold Yc;rw[ZQ (d:=Jd) h,Jt,Jj];congr 1;generalize l.getD k Jd=x;cases a:(x.kind==4&&x.has);rw[Jn (by rw[a];simp),if_neg (by simp)];rfl;rw[Jo (by exact a),if_pos rfl];rfl
def ST (l:List Opn):(Yc l).length<=l.length:=by unfold Yc;rw[Jf];exact Jk _ _
def TB (f:Fd) (ops:List Opn):En:=
 if f.kind=1 then⟨f.at',Zhx ops,(ZD f).l⟩
 else⟨f.at',0,if f.kind=4 then Yc ops else if(Yc ops).length=0 then(ZD f).l else [(Yc ops).getD ((Yc ops).length-1) []]⟩
def Zmm (f:Fd) (l:List Opn) (J:l.length<=100000):Pp 26 [fld f,Z1 l] (ent (TB f l)):=by
 have B:=ZcM f;have e:l.length<=maxLen:=by rw[Zd];omega
 have D:=Zmc l e;have g:(ZD f).at'=f.at':=rfl;have i:(ZD f).n=0:=rfl;unfold TB;generalize ZD f=v at *;obtain⟨K,vn,G⟩:=v;simp only at g i;subst g i;by_cases c:f.kind=1;have o:(f.kind==1)=true:=by simpa using c
 rw[if_pos c];refine ZS func26 rfl ntmps26 results26 (WV _) ?_;simp only[go_sem,fld,Z1];refine vc2 B ?_;simp only[go_sem,ent,o];refine vc7 D ?_;simp only[go_sem,ent];have o:(f.kind==1)=false:=by simpa using c
 rw[if_neg c];refine ZS func26 rfl ntmps26 results26 (WV _) ?_;simp only[go_sem,fld,Z1];refine vc2 B ?_;simp only[go_sem,ent,o];refine YJ 6 35 1 9 rfl rfl ?_;refine ZA (ι:= { x:Nat // x<=(l).length }) 56 (λx=> [(2,.ptr 2 0),(4,.ptr 4 0),(5,.ptr 5 0),(6,.sl (.row 35) ((Yc (l.take x.1)).map .str)),(18,Z1 l),(19,.int .i64 (l.length:Int)),(20,.int .i64 (x.1:Int))]) (λx=> [(2,[.int .i64 f.at'.sc,.str f.at'.gr,.str f.at'.nm,.int .i64 f.kind,.str f.df,.sl .no (f.cases'.map .str),.int .i64 f.worth],Hf),(4,[.int .i64 0,.str [],.str [],.int .i64 0,.sl .nil []],Hf),(5,[.int .i64 f.at'.sc,.str f.at'.gr,.str f.at'.nm,.int .i64 0,.sl .no (G.map .str)],Hf)]) (λx=> [(35,.live ((Yc (l.take x.1)).length) (1) (9))]) (λx=>(l).length-x.1) ⟨0,Ji _⟩ ⟨rfl,(Fc7 rfl rfl rfl rfl rfl rfl rfl),(Fc3 ⟨rfl,rfl⟩ ⟨rfl,rfl⟩ ⟨rfl,rfl⟩),(fcs rfl fnl)⟩ (λx=>⟨(Fc7 rfl rfl rfl (by simp[Jl,ZR]) rfl rfl rfl),(Fc3 rfl rfl rfl)⟩) (λx=> ?_);obtain⟨k,E⟩:=x;simp only at E ⊢;by_cases h:(k:Int)<(l.length:Int)
 (have b:k<(l).length:=by omega);(have z:=Wa b (e));(have y:=Ja k)
 have a:=ZiV b;have r:=ST (l.take k);have F:(l.take k).length<=k:=Jv _ _;have s:=YP (show(Yc (l.take k)).length+1<=1000000 by omega) (show 16<=1000 by omega);have d:((Yc (l.take k)).map J5).length=(Yc (l.take k)).length:=Jf _;have t:=ZdF (Yc (l.take k));generalize w:l.getD k Jd=x at *;cases c:(x.kind==4);rw[c,Jg,if_neg (by simp),Je]at a;simp only[go_sem,Z1,h,Z3 b,w,opv,y,c,z];exact⟨⟨k+1,by omega⟩,nx9 (by omega),⟨rfl,by simp only;rw[a];exact(Fc7 rfl rfl rfl rfl rfl rfl rfl),(Fc3 ⟨rfl,rfl⟩ ⟨rfl,rfl⟩ ⟨rfl,rfl⟩),by simp only;rw[a];exact fcs rfl fnl⟩⟩;cases m:x.has;rw[c,m,Jq,if_neg (by simp),Je]at a;simp only[go_sem,Z1,h,Z3 b,w,opv,y,c,m,z];exact⟨⟨k+1,by omega⟩,nx9 (by omega),⟨rfl,by simp only;rw[a];exact(Fc7 rfl rfl rfl rfl rfl rfl rfl),(Fc3 ⟨rfl,rfl⟩ ⟨rfl,rfl⟩ ⟨rfl,rfl⟩),by simp only;rw[a];exact fcs rfl fnl⟩⟩;rw[c,m,Js,if_pos rfl]at a;simp only[go_sem,Z1,h,Z3 b,w,opv,y,c,m,z,d,t,s];exact⟨⟨k+1,by omega⟩,nx9 (by omega),⟨rfl,by simp only;rw[a,Jj];exact(Fc7 rfl rfl rfl rfl rfl rfl rfl),(Fc3 ⟨rfl,rfl⟩ ⟨rfl,rfl⟩ ⟨rfl,rfl⟩),by simp only;rw[a,Jm];exact fcs rfl fnl⟩⟩;have u:l.take k=l:=Jr (by omega);rw[u];have r:=ST l;by_cases n:f.kind=4;have j:(f.kind==4)=true:=by simpa using n
 rw[if_pos n];simp only[go_sem,Z1,h,j,ent];have j:(f.kind==4)=false:=by simpa using n
 rw[if_neg n];have d:((Yc l).map J5).length=(Yc l).length:=Jf _;by_cases C:(Yc l).length=0;have p:¬(0:Int)<((Yc l).length:Int):=by omega
 rw[if_pos C];simp only[go_sem,Z1,h,j,ent,d,p];have p:(0:Int)<((Yc l).length:Int):=by omega
 have I:IntKind.i64.wrap (((Yc l).length:Int)-1)=(((Yc l).length-1:Nat):Int):=by rw[w64 (by omega)];omega
 have q:(Yc l).length-1<(Yc l).length:=by omega
 have A:(0:Int)<=(((Yc l).length-1:Nat):Int)/\(((Yc l).length-1:Nat):Int)<((Yc l).length:Int):=by omega
 rw[if_neg C];simp only[go_sem,Z1,h,j,ent,d,p,I,A.1,A.2,Z8 q]
def ZkA (m:List Eg) (l:List Opn) (r:OkM m) (n:l.length<=20) (e:∀o∈l,OkOp o) (j:(l.map Opn.id).Nodup):Pp 64 [tr (Ze m),Z1 l] (Z1 (WH m l)):=by
 have c:∀l:List Opn,∀p∈l.map opv,p.ids= []:=λl=>Yt Uv l
 have g:=Zdi m l r n e j;have q:=Ug m l;have d:∀o∈WH m l,OkOp o:=λo h=>e o (ZjU h)
 generalize WH m l=A at *;refine PL.Pure.of_p [] func64 (by decide) rfl ntmps64 results64 (by simp) (Zbq _) ?_;simp only[go_sem,tr,Z1];refine SU 10 g (c _) (by simp[Jl,tr,Z1]) rfl rfl ?_;simp only[go_sem,Kk,id];refine Ul (ι:= { k:Nat // k<=A.length }) 25 (λx=> [(5,.vsl 10 A.length 15),(11,.vsl 10 A.length 15),(12,.int .i64 (A.length:Int)),(13,.int .i64 (x.1:Int))]) (λ_=> []) (λ_=> [(10,.vec A.length 15 59)]) (λ_=> []) (λ_=> []) (λ_=> [(10,A.map opv)]) (λ_=> []) [] [] [] (λx=>A.length-x.1) ⟨0,Ji _⟩
  (TV rfl (Fc4 rfl rfl rfl rfl) rfl rfl) (λx=>DG (by simp[Jl,JE,ZR]) (Xd Uv _)) (λx=> ?_)
 obtain⟨k,t⟩:=x;simp only;by_cases h:(k:Int)<(A.length:Int);have a:k<A.length:=by omega
 have f:=Ja k
 have s:=wk9 (k:=k) (by omega)
 have i:=ZmE (A.getD k Jd) (d _ (Zh a));have b:(A.map opv).set k (opv (A.getD k Jd))=A.map opv:=by
  rw[To];congr 1;rw[getD_lt a];exact JF a
 simp only[opv]at b;simp only[go_sem,h,f,Z3 a,opv];refine vc6 i ?_;simp only[go_sem,h,f,Z3 a,opv,b,s];exact⟨⟨k+1,by omega⟩,nx9 (by omega),TV rfl (Fc4 rfl rfl rfl rfl) rfl rfl⟩;simp only[go_sem,h];exact⟨_,rfl,Kl (by simp) rfl (Jf _) (c _)⟩
def WG (m:List Eg) (l:List Opn) (b:Tg):List Opn:=(l.filter λo=>(toT m o b).c==0&&(toT m o b).ok).map λo=>(toT m o b).o
def ZlY (m:List Eg) {l:List Opn} (b:Tg) {k:Nat} (h:k<l.length):WG m (l.take (k+1)) b=WG m (l.take k) b++(if((toT m (l.getD k Jd) b).c==0&&(toT m (l.getD k Jd) b).ok)=Ht then [(toT m (l.getD k Jd) b).o]else []):=by
 unfold WG;rw[ZQ (d:=Jd) h,Jt,Jj];congr 1;generalize l.getD k Jd=x;cases a:((toT m x b).c==0&&(toT m x b).ok);rw[Jn (by rw[a];simp),if_neg (by simp)];rfl;rw[Jo (by exact a),if_pos rfl];rfl
def Du (m:List Eg) (l:List Opn) (b:Tg):(WG m l b).length<=l.length:=by unfold WG;rw[Jf];exact Jk _ _
def ZkV (m:List Eg) (l:List Opn) (b:Tg) (w:OkM m) (A:RightM m) (F:l.length<=100000) (z:∀o∈l,OkOp o):Pp 23 [tr (Ze m),Z1 l,tg b] (Z1 (WG m l b)):=by
 have j:l.length<=maxLen:=by rw[Zd];omega
 refine ZS func23 rfl ntmps23 results23 (Zbq _) ?_;simp only[go_sem,tr,Z1,tg];refine YJ 7 35 15 59 rfl rfl ?_;refine ZA (ι:= { x:Nat // x<=(l).length }) 38 (λx=> [(0,tr (Ze m)),(5,.ptr 5 0),(7,.sl (.row 35) ((WG m (l.take x.1) b).map opv)),(13,Z1 l),(14,.int .i64 (l.length:Int)),(15,.int .i64 (x.1:Int))]) (λx=> [(5,[.int .i64 b.r,.int .i64 b.n],Hf)]) (λx=> [(35,.live ((WG m (l.take x.1) b).length) (15) (59))]) (λx=>(l).length-x.1) ⟨0,Ji _⟩ ⟨rfl,(Fc6 rfl rfl rfl rfl rfl rfl),(fcs ⟨rfl,rfl⟩ fnl),(fcs rfl fnl)⟩ (λx=>⟨(Fc6 rfl rfl (by simp[Jl,ZR]) rfl rfl rfl),(fcs rfl fnl)⟩) (λx=> ?_);obtain⟨k,v⟩:=x;simp only at v ⊢;by_cases h:(k:Int)<(l.length:Int)
 (have c:k<(l).length:=by omega);(have u:=Wa c (j));(have t:=Ja k)
 have i:=ZmL m (l.getD k Jd) b w A (z _ (Zh c));have a:=ZlY m b c;have B:=Du m (l.take k) b;have C:(l.take k).length<=k:=Jv _ _;have p:=YP (show(WG m (l.take k) b).length+1<=1000000 by omega) (show 176<=1000 by omega);have n:((WG m (l.take k) b).map opv).length=(WG m (l.take k) b).length:=Jf _;have q:=Ww (WG m (l.take k) b);generalize toT m (l.getD k Jd) b=y at *;obtain⟨g,E,D⟩:=y;have f:Sized 15 [opv g]:=Ww [g];have e:XF [opv g]:=Sv [g];generalize s:l.getD k Jd=x at *;simp only at a;simp only[opv]at f e;cases d:(D==0);rw[d,Jg,if_neg (by simp),Je]at a;simp only[go_sem,Z1,h,Z3 c,s,opv,t];refine vc7 i ?_;simp only[go_sem,ZbJ,opv,d,u];exact⟨⟨k+1,by omega⟩,nx9 (by omega),⟨rfl,by simp only;rw[a];exact(Fc6 rfl rfl rfl rfl rfl rfl),fcs ⟨rfl,rfl⟩ fnl,by simp only;rw[a];exact fcs rfl fnl⟩⟩;cases E;rw[d,Jq,if_neg (by simp),Je]at a;simp only[go_sem,Z1,h,Z3 c,s,opv,t];refine vc7 i ?_;simp only[go_sem,ZbJ,opv,d,u];exact⟨⟨k+1,by omega⟩,nx9 (by omega),⟨rfl,by simp only;rw[a];exact(Fc6 rfl rfl rfl rfl rfl rfl),fcs ⟨rfl,rfl⟩ fnl,by simp only;rw[a];exact fcs rfl fnl⟩⟩;rw[d,Js,if_pos rfl]at a;simp only[go_sem,Z1,h,Z3 c,s,opv,t];refine vc7 i ?_;simp only[go_sem,ZbJ,opv,d,u,n,q,p,f,e];exact⟨⟨k+1,by omega⟩,nx9 (by omega),⟨rfl,by simp only;rw[a,Jj];exact(Fc6 rfl rfl rfl rfl rfl rfl),fcs ⟨rfl,rfl⟩ fnl,by simp only;rw[a,Jm];exact fcs rfl fnl⟩⟩;have r:l.take k=l:=Jr (by omega);simp only[go_sem,Z1,h,r]
structure Sp where
 item:Str
 at':Rf
 deriving DecidableEq,Inhabited
def spv (s:Sp):PV:= .agg [.str s.item,.int .i64 s.at'.sc,.str s.at'.gr,.str s.at'.nm]
def spO (o:Opn):Sp:=⟨o.item,o.at'⟩
def Zn (seen:List Opn) (s:Sp):List Opn:=seen.filter λo=>decide (spO o=s)
def Zua (a b:Sp):(a.item==b.item&&(a.at'.sc==b.at'.sc&&(a.at'.gr==b.at'.gr&&a.at'.nm==b.at'.nm)))=decide (a=b):=by
 obtain⟨e,c⟩:=a;obtain⟨f,d⟩:=b;cases c;cases d;rw[JD];simp
theorem ZfT (s:Sp):∀(l:List Sp) (i:Nat),Td [.str,.int,.str,.str] [.str s.item,.int .i64 s.at'.sc,.str s.at'.gr,.str s.at'.nm] (l.map spv) i=some ((l.findIdx? λx=>decide (s=x)).map (· + i))
 | [],i=>rfl
 |n::l,i=>by
  have a:=ZfT s l (i+1);simp only[JV,spv,Td,ZC,UJ,if_true,JK,JN,Zua];by_cases h:s=n;simp[h];simp only[h,decide_false,a];simp only[Jy,if_false,J4];congr 2;funext x;simp;omega
def Zc0 (s:Sp) (l:List Sp):Td [.str,.int,.str,.str] [.str s.item,.int .i64 s.at'.sc,.str s.at'.gr,.str s.at'.nm] (l.map spv) 0=some (l.findIdx? λx=>decide (s=x)):=by
 rw[ZfT];congr 1;cases J8 (λx=>decide (s=x)) l<;>rfl
def ZjK {t:Sp} {l:List Sp}:(l.findIdx? λx=>decide (t=x))=none↔t∉l:=by
 rw[JC];constructor;intro h a;have:=h t a;simp at this;intro h x b;simp only[decide_eq_false_iff_not];intro e;exact h (e▸b)
def ZnW {t:Sp} {l:List Sp} {i:Nat} (h:(l.findIdx? λx=>decide (t=x))=some i):i<l.length/\l.getD i Jd=t:=by
 obtain⟨a,b,_⟩:=Ju.1 h;exact⟨a,by rw[getD_lt a];exact(of_decide_eq_true b).symm⟩
def ZdP {seen:List Opn} {s:Sp} (h:¬ ∃o∈seen,spO o=s):Zn seen s= []:=by
 unfold Zn;rw[List.filter_eq_nil_iff];intro o a hd;exact h ⟨o,a,of_decide_eq_true hd⟩
def ZbS (seen:List Opn) (s:Sp):(Zn seen s).length<=seen.length:=Jk _ _
def Us (F:List Fd) (seen:List Opn) (sc:Int) (item:Str):List En:=(Zk F sc).map λf=>TB f (Zn seen ⟨item,f.at'⟩)
theorem Znz (F:List Fd) (seen:List Opn) (ks:List Sp) (sc:Int) (item:Str) (B:OkFs F) (Q:seen.length<=100000) (w:∀s,s∈ks↔ ∃o∈seen,spO o=s):
  Pp 24 [.int .i64 sc,.str item,.rptr [Zt F],.rptr [.rmap (ks.map spv) (ks.map λs=>Z1 (Zn seen s))]] (ZX (Us F seen sc item)):=by
 have K:=B.n;have u:=So F sc (by omega) B.c;have D:(Zk F sc).length<=F.length:=Jk _ _;unfold Us;generalize R:Zk F sc=A at *;have t:A.length<=maxLen:=by rw[Zd];omega
 have L:∀f s,Pp 26 [fld f,Z1 (Zn seen s)] (ent (TB f (Zn seen s))):=λf s=>Zmm f _ (Jz (ZbS _ _) Q)
 refine ZS func24 rfl ntmps24 results24 (VS _) ?_;simp only[go_sem,Zt];refine vc2 u ?_;simp only[go_sem,Zt];refine YJ 7 28 5 64 rfl rfl ?_;refine ZA (ι:= { x:Nat // x<=(A).length }) 31 (λx=> [(1,.str item),(3,.rptr [.rmap (ks.map spv) (ks.map λs=>Z1 (Zn seen s))]),(7,.sl (.row 28) (((A.take x.1).map λf=>TB f (Zn seen ⟨item,f.at'⟩)).map ent)),(12,Zt A),(13,.int .i64 (A.length:Int)),(14,.int .i64 (x.1:Int))]) (λx=> []) (λx=> [(28,.live (x.1) (5) (64))]) (λx=>(A).length-x.1) ⟨0,Ji _⟩ ⟨rfl,(Fc6 rfl rfl rfl rfl rfl rfl),fnl,(fcs rfl fnl)⟩ (λx=>⟨(Fc6 rfl rfl (by simp[Jl,ZR]) rfl rfl rfl),fnl⟩) (λx=> ?_);obtain⟨k,O⟩:=x;simp only at O ⊢;by_cases h:(k:Int)<(A.length:Int)
 (have b:k<(A).length:=by omega);(have J:=Wa b (t));(have I:=Ja k)
 have c:((A.take (k+1)).map λf=>TB f (Zn seen ⟨item,f.at'⟩))=((A.take k).map λf=>TB f (Zn seen ⟨item,f.at'⟩))++ [TB (A.getD k Jd) (Zn seen ⟨item,(A.getD k Jd).at'⟩)]:=by rw[ZQ (d:=Jd) b,Jj];rfl
 have z:((A.take k).map λf=>TB f (Zn seen ⟨item,f.at'⟩)).length=k:=by simp;omega
 have n:=YP (show k+1<=1000000 by omega) (show 72<=1000 by omega);have p:=Sc ((A.take k).map λf=>TB f (Zn seen ⟨item,f.at'⟩));have e:=L (A.getD k Jd) ⟨item,(A.getD k Jd).at'⟩;have a:=Zc0 ⟨item,(A.getD k Jd).at'⟩ ks;have l:∀i,i<ks.length->(ks.map λs=>Z1 (Zn seen s)).getD i .any=Z1 (Zn seen (ks.getD i Jd)):=λi r=>by rw[getD_lt (by simpa using r),getD_lt r,List.getElem_map]
 generalize G:A.getD k Jd=x at *;generalize ((A.take k).map λf=>TB f (Zn seen ⟨item,f.at'⟩))=E at *;generalize hv:TB x (Zn seen ⟨item,x.at'⟩)=v at *;have j:Sized 5 [ent v]:=Sc [v];have g:XF [ent v]:=Zfw [v];have m:(E.map ent).length=k:=by rw[Jf];exact z
 simp only[ent]at j g;simp only at a;cases q:ks.findIdx? (λy=>decide ((⟨item,x.at'⟩:Sp)=y))with
 |none=>
  rw[q]at a;have P:Zn seen ⟨item,x.at'⟩= []:=ZdP (λN=>ZjK.1 q ((w _).2 N));rw[P]at e;simp only[go_sem,Zt,h,ZY b,G,fld,I];refine vDq ?_;simp only[go_sem,a];refine vc7 e ?_;simp only[go_sem,ent,p,j,g,m,n,J];exact⟨⟨k+1,by omega⟩,nx9 (by omega),⟨rfl,by simp only;rw[c,Jj];exact(Fc6 rfl rfl rfl rfl rfl rfl),fnl,fcs rfl fnl⟩⟩
 |some i=>
  rw[q]at a;obtain⟨r,M⟩:=ZnW q;have C:=l i r;rw[M]at C;simp only[go_sem,Zt,h,ZY b,G,fld,I];refine vDq ?_;simp only[go_sem,a,C];refine vc7 e ?_;simp only[go_sem,ent,p,j,g,m,n,J];exact⟨⟨k+1,by omega⟩,nx9 (by omega),⟨rfl,by simp only;rw[c,Jj];exact(Fc6 rfl rfl rfl rfl rfl rfl),fnl,fcs rfl fnl⟩⟩
 have c:A.take k=A:=Jr (by omega);simp only[go_sem,Zt,h,c,ZX]
def Zib (f:Fd) (l:List Str) (n:f.cases'.length<=maxLen) (q:l.length<=maxLen):Pp 113 [fld f,Y5 l] (.bool (l.all (Xo f))):=by
 refine ZM func113 rfl ntmps113 results113 ?_;simp only[go_sem,fld,Y5];refine ZA (ι:= { x:Nat // x<=(l).length/\(∀j,j<x->Xo f (l.getD j [])=Ht) }) 18 (λx=> [(2,.ptr 2 0),(7,Y5 l),(8,.int .i64 (l.length:Int)),(9,.int .i64 (x.1:Int))]) (λx=> [(2,ZaX f,Hf)]) (λx=> []) (λx=>(l).length-x.1) ⟨0,Ji _,λj i=>absurd i (JG j)⟩ ⟨rfl,(Fc4 rfl rfl rfl rfl),(fcs ⟨rfl,rfl⟩ fnl),fnl⟩ (λx=>⟨(Fc4 rfl rfl rfl rfl),(fcs rfl fnl)⟩) (λx=> ?_);obtain⟨k,o,e⟩:=x;simp only at o e ⊢;by_cases h:(k:Int)<(l.length:Int)
 (have a:k<(l).length:=by omega);(have r:=Wa a (q));(have m:=Ja k)
 have b:=ZcC f (l.getD k []) n;cases c:Xo f (l.getD k []);rw[c]at b;have g:=ZmR (p:=Xo f) a c;simp only[go_sem,Y5,h,Z8 a,m,ZaX];refine vc2 b ?_;simp only[go_sem,g]
 ·rw[c]at b;simp only[go_sem,Y5,h,Z8 a,m,ZaX];refine vc2 b ?_;simp only[go_sem,r];exact⟨⟨k+1,by(try simp only);omega,Zm e c⟩,by show(l).length-(k+1)<(l).length-k;omega,⟨rfl,(Fc4 rfl rfl rfl rfl),(fcs ⟨rfl,rfl⟩ fnl),fnl⟩⟩
 have g:=Zqs (p:=Xo f) (d:= []) (l:=l) (λj i=>e j (by omega));simp only[go_sem,h,g]
def Sk (f:Fd) (e:En) (r:f.cases'.length<=maxLen) (s:e.l.length<=maxLen):Pp 74 [fld f,ent e] (.bool (YF f e)):=by
 have c:=Uz f r;have p:=Zib f e.l r s;cases k:ZT f;rw[k]at c;refine ZM func74 rfl ntmps74 results74 ?_;simp only[go_sem,fld,ent];refine vc2 c ?_;simp only[go_sem,YF,k,Jg];rw[k]at c;by_cases q:e.at'=f.at';have a:=decide_eq_true q;by_cases n:f.kind=1
 ·have d:(f.kind==1)=true:=by rw[n];rfl
  have l:YF f e=Zlh e:=by simp only[YF,k,a,Js,Jp,n,if_true]
  rw[l];refine ZM func74 rfl ntmps74 results74 ?_;simp only[go_sem,fld,ent];refine vc2 c ?_;simp only[go_sem,ZB,a,d];repeat' ((first|(first|apply Zw|apply Zv|apply ZK)<;>intro h|refine vDq ?_)<;>first|simp only[go_sem,h]|simp only[go_sem]|skip)
  all_goals (simp_all[Zlh];try(first|omega|(rw[decide_eq_true (show(-4503599627370497:Int)<e.n by omega),decide_eq_true (show e.n<4503599627370497 by omega)];simp)))
 have d:(f.kind==1)=false:=beq_eq_false_iff_ne.2 n;have l:YF f e=(FO f e&&FS0 f e):=by simp only[YF,k,a,Js,Jp,n,if_false]
 rw[l];by_cases j:e.n=0;have i:(e.n !=0)=false:=by rw[j];rfl
 by_cases o:f.kind=4;have m:(f.kind==4)=true:=by rw[o];rfl
 have b:(FO f e&&FS0 f e)=(decide ((e.l.length:Int)<=400)&&e.l.all (Xo f)):=by
  simp only[FO,FS0,o,if_true,j,decide_true,JN];congr 1;rw[JD];simp
 rw[b];by_cases g:(e.l.length:Int)<=400;refine ZM func74 rfl ntmps74 results74 ?_;simp only[go_sem,fld,ent];refine vc2 c ?_;simp only[go_sem,ZB,a,d,i,m,g];refine vc2 p ?_;simp only[go_sem,decide_eq_true g,Jp];refine ZM func74 rfl ntmps74 results74 ?_;simp only[go_sem,fld,ent];refine vc2 c ?_;simp only[go_sem,ZB,a,d,i,m,g,Jg];have m:(f.kind==4)=false:=beq_eq_false_iff_ne.2 o;have b:(FO f e&&FS0 f e)=(((e.l.length:Int)==1)&&e.l.all (Xo f)):=by
  simp only[FO,FS0,o,if_false,j,decide_true,JN];congr 1
 rw[b];cases g:(e.l.length:Int)==1;refine ZM func74 rfl ntmps74 results74 ?_;simp only[go_sem,fld,ent];refine vc2 c ?_;simp only[go_sem,ZB,a,d,i,m,g,Jg];refine ZM func74 rfl ntmps74 results74 ?_;simp only[go_sem,fld,ent];refine vc2 c ?_;simp only[go_sem,ZB,a,d,i,m,g];refine vc2 p ?_;simp only[go_sem,Jp];have i:(e.n !=0)=true:=bne_iff_ne.2 j;have b:(FO f e&&FS0 f e)=false:=by simp[FS0,j]
 rw[b];refine ZM func74 rfl ntmps74 results74 ?_;simp only[go_sem,fld,ent];refine vc2 c ?_;simp only[go_sem,ZB,a,d,i];have a:=decide_eq_false q;have l:YF f e=false:=by simp only[YF,a,Jq,Jg]
 rw[l];refine ZM func74 rfl ntmps74 results74 ?_;simp only[go_sem,fld,ent];refine vc2 c ?_;simp only[go_sem,ZB,a]
def Zq {l:List En} {i:Nat} (h:i<l.length):(l.map ent).getD i .any=ent (l.getD i Jd):=Xk h
def W6 {l:List Rw} {i:Nat} (h:i<l.length):(l.map row).getD i .any=row (l.getD i Jd):=Xk h
def UV (l:List Fd) (es:List En) (A:l.length<=maxLen) (y:es.length<=maxLen) (s:∀f∈l,f.cases'.length<=maxLen) (d:∀e∈es,e.l.length<=maxLen):Pp 70 [Zt l,ZX es] (.bool (Zo l es)):=by
 by_cases r:l.length=es.length;have b:((l.length:Int) !=(es.length:Int))=false:=by rw[r];exact bne_self_eq_false _
 have t:Zo l es=(JW l.length).all (λi=>YF (l.getD i Jd) (es.getD i Jd)):=by simp only[Zo,r,decide_true,Jp]
 rw[t];refine ZM func70 rfl ntmps70 results70 ?_;simp only[go_sem,Zt,ZX,b];refine ZA (ι:= { x:Nat // x<=(l).length/\(∀j,j<x->YF (l.getD j Jd) (es.getD j Jd)=Ht) }) 27 (λx=> [(1,ZX es),(12,Zt l),(13,.int .i64 (l.length:Int)),(14,.int .i64 (x.1:Int))]) (λx=> []) (λx=> []) (λx=>(l).length-x.1) ⟨0,Ji _,λj v=>absurd v (JG j)⟩ ⟨rfl,(Fc4 rfl rfl rfl rfl),fnl,fnl⟩ (λx=>⟨(Fc4 rfl rfl rfl rfl),fnl⟩) (λx=> ?_);obtain⟨k,z,q⟩:=x;simp only at z q ⊢;by_cases h:(k:Int)<(l.length:Int)
 (have a:k<(l).length:=by omega);(have B:=Wa a (A));(have o:=Ja k)
 have c:k<es.length:=by omega
 have w:(k:Int)<(es.length:Int):=by omega
 have g:=Sk (l.getD k Jd) (es.getD k Jd) (s _ (Zh a)) (d _ (Zh c));cases m:YF (l.getD k Jd) (es.getD k Jd);rw[m]at g;have u:=Yf (p:=λi=>YF (l.getD i Jd) (es.getD i Jd)) a m;simp only[go_sem,Zt,ZX,h,o,ZY a,fld];refine vDq ?_;simp only[go_sem,Zq c,ent,o,w];refine vc2 g ?_;simp only[go_sem,u]
 ·rw[m]at g;simp only[go_sem,Zt,ZX,h,o,ZY a,fld];refine vDq ?_;simp only[go_sem,Zq c,ent,o,w];refine vc2 g ?_;simp only[go_sem,B];exact⟨⟨k+1,by(try simp only);omega,Zm q m⟩,by show(l).length-(k+1)<(l).length-k;omega,⟨rfl,(Fc4 rfl rfl rfl rfl),fnl,fnl⟩⟩
 have u:=UR (p:=λi=>YF (l.getD i Jd) (es.getD i Jd)) (n:=l.length) (λj v=>q j (by omega));simp only[go_sem,h,u];have b:((l.length:Int) !=(es.length:Int))=true:=bne_iff_ne.2 (by omega);have t:Zo l es=false:=by simp only[Zo,r,decide_false,Jg]
 rw[t];refine ZM func70 rfl ntmps70 results70 ?_;simp only[go_sem,Zt,ZX,b]
def U4 (l:List Fd) (d:Dc) (N:l.length<=maxLen) (o:∀f∈l,f.cases'.length<=1000000) (hd:Zfd d):Pp 36 [Zt l,doc d] (.bool (Zz l d)):=by
 obtain⟨Q,d2,R,S⟩:=hd;have y:∀f∈l,f.cases'.length<=maxLen:=λf g=>by have:=o f g;rw[Zd];omega
 have r:=U6 l N y;cases A:ZP l;rw[A]at r;have q:Zz l d=false:=by simp only[Zz,Gb,A,Jg]
 refine ZM func36 rfl ntmps36 results36 ?_;simp only[go_sem,Zt,doc];refine vc2 r ?_;simp only[go_sem,q];rw[A]at r;have T:=Zdx A;have sl:∀sc,(Zk l sc).length<=maxLen:=λsc=>Jz (Jk _ _) N
 have sc:∀s,∀f∈Zk l s,f.cases'.length<=maxLen:=λs f g=>y f (List.mem_filter.1 g).1
 have v:=So l 0 (by omega) o;have F:=So l 1 (by omega) o;by_cases u:(400:Int)<(d.rows.length:Int);have q:Zz l d=false:=by simp only[Zz,Gb,u,decide_true,Bool.not_true,Jg,Jq]
 refine ZM func36 rfl ntmps36 results36 ?_;simp only[go_sem,Zt,doc];refine vc2 r ?_;simp only[go_sem,u,q];have B:=UV (Zk l 0) d.head (sl 0) Q (sc 0) R;cases D:Zo (Zk l 0) d.head;rw[D]at B;have q:Zz l d=false:=by simp only[Zz,Gb,D,Jg,Jq]
 refine ZM func36 rfl ntmps36 results36 ?_;simp only[go_sem,Zt,doc];refine vc2 r ?_;simp only[go_sem,u];refine vDq ?_;simp only[go_sem,Zt];refine vc2 v ?_;simp only[go_sem,Zt];refine vc2 B ?_;simp only[go_sem,q];rw[D]at B;have q:Zz l d=(JW d.rows.length).all (Ub l d.rows):=by simp only[Zz,Gb,A,u,D,decide_false,J6,Js,Jp]
 rw[q];refine ZM func36 rfl ntmps36 results36 ?_;simp only[go_sem,Zt,doc];refine vc2 r ?_;simp only[go_sem,u];refine vDq ?_;simp only[go_sem,Zt];refine vc2 v ?_;simp only[go_sem,Zt];refine vc2 B ?_;simp only[go_sem,Zt];refine vc2 F ?_;simp only[go_sem];refine ZA (ι:= { x:Nat // x<=(d.rows).length/\(∀j,j<x->Ub l d.rows j=Ht) }) 59 (λx=> [(3,.ptr 3 0),(5,Zt (Zk l 1)),(26,.sl .no (d.rows.map row)),(27,.int .i64 (d.rows.length:Int)),(28,.int .i64 (x.1:Int))]) (λx=> [(3,[.sl .no (d.head.map ent),.sl .no (d.rows.map row)],Hf)]) (λx=> []) (λx=>(d.rows).length-x.1) ⟨0,Ji _,λj M=>absurd M (JG j)⟩ ⟨rfl,(Fc5 rfl rfl rfl rfl rfl),(fcs ⟨rfl,rfl⟩ fnl),fnl⟩ (λx=>⟨(Fc5 rfl rfl (by simp[Jl,ZR]) (by simp[Jl,ZR]) rfl),(fcs (by simp[Jl,JE,ZR]) fnl)⟩) (λx=> ?_);obtain⟨k,U,C⟩:=x;simp only at U C ⊢;by_cases h:(k:Int)<(d.rows.length:Int)
 (have e:k<(d.rows).length:=by omega);(have P:=Wa e (d2));(have c:=Ja k)
 have m:=Y0 (d.rows.getD k Jd).item;have O:=S _ (Zh (d:=Jd) e);have b:=UV (Zk l 1) (d.rows.getD k Jd).l (sl 1) O.1 (sc 1) O.2;have a:=W6 e;cases z:Z0 (d.rows.getD k Jd).item;rw[z]at m;have i:=Yf (p:=Ub l d.rows) e (by simp only[Ub,z,Jg]);simp only[go_sem,h,a,row,c];refine vDq ?_;simp only[go_sem,h,a,row,c];refine vc1 m ?_;simp only[go_sem,i];rw[z]at m;by_cases t:0<(k:Int);have I:k-1<d.rows.length:=by omega
 have E:=W6 I;have L:IntKind.i64.wrap ((k:Int)-1)=((k-1:Nat):Int):=by
  rw[Zd]at d2;rw[w64 (by omega)];omega
 have J:(0:Int)<=((k-1:Nat):Int):=by omega
 have K:((k-1:Nat):Int)<(d.rows.length:Int):=by omega
 cases w:Zl (d.rows.getD (k-1) Jd).item (d.rows.getD k Jd).item;have i:=Yf (p:=Ub l d.rows) e (by simp only[Ub,w,decide_eq_false (show ¬k=0 by omega),Bool.or_self,Jq,Jg]);simp only[go_sem,h,a,row,c];refine vDq ?_;simp only[go_sem,h,a,row,c];refine vc1 m ?_;simp only[go_sem,t,L,E,a,row,h,c,J,K,w,i];cases g:Zo (Zk l 1) (d.rows.getD k Jd).l;rw[g]at b;have i:=Yf (p:=Ub l d.rows) e (by simp only[Ub,g,Jq]);simp only[go_sem,h,a,row,c];refine vDq ?_;simp only[go_sem,h,a,row,c];refine vc1 m ?_;simp only[go_sem,t,L,E,a,row,h,c,J,K,w,Zt];refine vc2 b ?_;simp only[go_sem,i]
 ·rw[g]at b;have ok:Ub l d.rows k=true:=by simp only[Ub,z,w,g,Bool.or_true,Js]
  simp only[go_sem,h,a,row,c];refine vDq ?_;simp only[go_sem,h,a,row,c];refine vc1 m ?_;simp only[go_sem,t,L,E,a,row,h,c,J,K,w,Zt];refine vc2 b ?_;simp only[go_sem,P];exact⟨⟨k+1,by(try simp only);omega,Zm C ok⟩,by show(d.rows).length-(k+1)<(d.rows).length-k;omega,⟨rfl,(Fc5 rfl rfl rfl rfl rfl),(fcs ⟨rfl,rfl⟩ fnl),fnl⟩⟩
 have G:k=0:=by omega
 cases g:Zo (Zk l 1) (d.rows.getD k Jd).l;rw[g]at b;have i:=Yf (p:=Ub l d.rows) e (by simp only[Ub,g,Jq]);simp only[go_sem,h,a,row,c];refine vDq ?_;simp only[go_sem,h,a,row,c];refine vc1 m ?_;simp only[go_sem,t,a,row,h,c,Zt];refine vc2 b ?_;simp only[go_sem,i]
 ·rw[g]at b;have ok:Ub l d.rows k=true:=by simp only[Ub,z,decide_eq_true G,g,Bool.true_or,Js]
  simp only[go_sem,h,a,row,c];refine vDq ?_;simp only[go_sem,h,a,row,c];refine vc1 m ?_;simp only[go_sem,t,a,row,h,c,Zt];refine vc2 b ?_;simp only[go_sem,P];exact⟨⟨k+1,by(try simp only);omega,Zm C ok⟩,by show(d.rows).length-(k+1)<(d.rows).length-k;omega,⟨rfl,(Fc5 rfl rfl rfl rfl rfl),(fcs ⟨rfl,rfl⟩ fnl),fnl⟩⟩
 have i:=UR (p:=Ub l d.rows) (n:=d.rows.length) (λj M=>C j (by omega));simp only[go_sem,h,i]
def V6 (l:List Rw):Sized 2 (l.map row):=λe a=>by
 obtain⟨x,_,rfl⟩:=JI.1 a;rfl
def Zbs (l:List En) (q:l.length<=100000) (f:∀e∈l,e.l.length<=1000000):Pp 71 [ZX l] (ZX l):=by
 have m:l.length<=maxLen:=by rw[Zd];omega
 refine ZS func71 rfl ntmps71 results71 (VS _) ?_;simp only[go_sem,ZX];refine YJ 3 16 5 64 rfl rfl ?_;refine ZA (ι:= { x:Nat×(List En) // x.1<=(l).length/\(x.2=l.take x.1) }) 19 (λx=> [(3,.sl (.row 16) (x.1.2.map ent)),(6,ZX l),(7,.int .i64 (l.length:Int)),(8,.int .i64 (x.1.1:Int))]) (λx=> []) (λx=> [(16,.live (x.1.2.length) (5) (64))]) (λx=>(l).length-x.1.1) ⟨(0,[]),Ji _,rfl⟩ ⟨rfl,(Fc4 rfl rfl rfl rfl),fnl,(fcs rfl fnl)⟩ (λx=>⟨(Fc4 (by simp[Jl,ZR]) rfl rfl rfl),fnl⟩) (λx=> ?_);obtain⟨⟨k,b⟩,j,c⟩:=x;simp only at j c ⊢;have g:b.length<=l.length:=by rw[c];exact WQ _ _
 by_cases h:(k:Int)<(l.length:Int)
 ·(have a:k<(l).length:=by omega);(have p:=Wa a (m));(have o:=Ja k)
  have n:=YP (show b.length+1<=1000000 by omega) (show 72<=1000 by omega);have i:=Vp (l.getD k Jd) (f _ (Zh a));simp only[go_sem,ZX,h,Zq a,ent,o];refine vc1 i ?_;simp only[go_sem,ent,Sc,n,p];exact⟨⟨(k+1,b++ [l.getD k Jd]),by(try simp only);omega,by simp only;rw[ZQ (d:=Jd) a,c]⟩,by show(l).length-(k+1)<(l).length-k;omega,⟨rfl,(Fc4 (by simp[upd,ent]) rfl rfl rfl),fnl,(fcs (by simp[upd]) fnl)⟩⟩
 obtain rfl:k=l.length:=by omega
 rw[JA]at c;subst c;simp only[go_sem,h,ZX]
def ZmW (l:List Rw):XF (l.map row):=λe a=>by
 obtain⟨t,_,rfl⟩:=JI.1 a;rfl
def Zr0 (r:Rw):(row r).dids= []:=by simp only[row,JZ,JO,TJ,Je]
theorem Znp (l:List Rw):JO (l.map row)= []:=by
 induction l with
 |nil=>rfl
 |cons t l ih=>simp only[JV,JO,ih,Zr0,Je]
def Zeh (d:Dc):(doc d).dids= []:=by simp only[doc,JZ,JO,TJ,Znp,Je]
def Zu0 (i:Nat) (l:List Rw):Nat->PV
 |0=> .sl .nil []
 |k+1=> .sl (.row i) ((l.take (k+1)).map row)
def Zu1 (i:Nat):Nat->List (Nat×Row)
 |0=> []
 |k+1=> [(i,.live (k+1) 2 90)]
def VL (a b:En) (d:a.l.length<=maxLen) (e:b.l.length<=maxLen):Pp 72 [ent a,ent b] (.bool (decide (a=b))):=by
 have c:=ZcB a.l b.l d e;refine ZM func72 rfl ntmps72 results72 ?_;simp only[go_sem,ent,ZB,List.append_eq,List.cons_append];repeat' ((first|(first|apply Zw|apply Zv|apply ZK)<;>intro h|refine vc1 c ?_|refine vDq ?_)<;>first|simp only[go_sem,h,ZB]|simp only[go_sem,ZB]|skip)
 all_goals (clear c d e;(cases a;cases b;simp_all)<;>rfl)
def Zas (a b:List En) (u:a.length<=maxLen) (y:b.length<=maxLen) (o:∀e∈a,e.l.length<=maxLen) (p:∀e∈b,e.l.length<=maxLen):Pp 82 [ZX a,ZX b,.fn 72 []] (.bool (decide (a=b))):=by
 by_cases q:a.length=b.length;have i:((a.length:Int) !=(b.length:Int))=false:=by simp[q]
 refine ZM func82 rfl ntmps82 results82 ?_;simp only[go_sem,ZX,i];refine ZA (ι:= { x:Nat // x<=(a).length/\(∀j,j<x->a.getD j Jd=b.getD j Jd) }) 32 (λx=> [(1,ZX b),(2,.fn 72 []),(15,ZX a),(16,.int .i64 (a.length:Int)),(17,.int .i64 (x.1:Int))]) (λx=> []) (λx=> []) (λx=>(a).length-x.1) ⟨0,Ji _,λj s=>absurd s (JG j)⟩ ⟨rfl,(Fc5 rfl rfl rfl rfl rfl),fnl,fnl⟩ (λx=>⟨(Fc5 rfl rfl rfl rfl rfl),fnl⟩) (λx=> ?_);obtain⟨k,v,n⟩:=x;simp only at v n ⊢;by_cases h:(k:Int)<(a.length:Int)
 (have f:k<(a).length:=by omega);(have w:=Wa f (u));(have t:=Ja k)
 have g:k<b.length:=by omega
 have r:(k:Int)<(b.length:Int):=by omega
 have l:=VL (a.getD k Jd) (b.getD k Jd) (o _ (Zh f)) (p _ (Zh g));by_cases m:a.getD k Jd=b.getD k Jd
 ·rw[decide_eq_true m]at l;simp only[go_sem,ZX,Zq f,Zq g,ent,t,h,r];refine vc1 l ?_;simp only[go_sem,w];exact⟨⟨k+1,by(try simp only);omega,Zm n m⟩,by show(a).length-(k+1)<(a).length-k;omega,⟨rfl,(Fc5 rfl rfl rfl rfl rfl),fnl,fnl⟩⟩
 rw[decide_eq_false m]at l;have c:¬a=b:=VD m;simp only[go_sem,ZX,Zq f,Zq g,ent,t,h,r];refine vc1 l ?_;simp only[go_sem,c];have c:decide (a=b)=true:=decide_eq_true (X3 (d:=Jd) q λj s=>n j (by omega));simp only[go_sem,ZX,h,c];have i:((a.length:Int) !=(b.length:Int))=true:=bne_iff_ne.2 (by omega);have c:¬a=b:=λe=>q (by rw[e])
 refine ZM func82 rfl ntmps82 results82 ?_;simp only[go_sem,ZX,i,c]
def Zek (e:En):(ent e).ids= []:=by simp[ent,Jl,JE]
def GN (x:En) (l:List En) (f:(x::l).length<=100000):
  Eff prog 108 [ZX (x::l)] noV (.vsl 7 (x::l).length 5) (Zcx 7 (x::l).length 5 64 ((x::l).map ent)):=by
 have b:∀l:List En,∀p∈l.map ent,p.ids= []:=λl=>Yt Zek l
 refine Eff.vn [5,7] func108 (by decide) rfl ntmps108 results108 (by simp) (b _) (by simp[Jl,ZX]) (by simp[Jl]) ?_;simp only[go_sem,ZX];have e:∀p∈ent x::l.map ent,∃y,p=ent y:=λp hp=>by
  rcases List.mem_cons.1 hp with rfl|hp;exact⟨x,rfl⟩;obtain⟨y,_,rfl⟩:=JI.1 hp;exact⟨y,rfl⟩
 have a:∀p∈ent x::l.map ent,p.ids= []:=λp hp=>by obtain⟨y,rfl⟩:=e p hp;exact Zek y
 have c:=YP (show l.length+1<=1000000 by simp only[List.length_cons]at f;omega) (show 72<=1000 by omega);refine⟨λp hp=>by obtain⟨y,rfl⟩:=e p hp;exact⟨rfl,rfl⟩,a,λp hp=>by rw[a p hp];simp,c,?_⟩;exact ZaW (r0:= .vsl 7 _ 5) a rfl (.keep _ (by intro i d;simp[Jl]at d;subst d;exact⟨_,Jh.2 rfl,rfl⟩)) rfl rfl
def ZdW:Pp 108 [ZX []] (ZX []):=by
 refine ZS func108 rfl ntmps108 results108 (VS _) ?_;simp only[go_sem,ZX];intro b;cases b;simp only[go_sem,ZX];exact Yl (by omega) (by omega);simp only[go_sem,ZX]
theorem TF (l:List En) (n:l.length<=100000) (f:∀e∈l,e.l.length<=1000000):Pp 66 [ZX l] (ZX l):=by
 have c:∀l:List En,∀p∈l.map ent,p.ids= []:=λl=>Yt Zek l
 cases l with
 |nil=>
  have d:=ZdW;simp only[ZX,Kd]at d;refine ZS func66 rfl ntmps66 results66 (VS _) ?_;simp only[go_sem,ZX];refine vc1 d ?_;simp only[go_sem,ZX];refine ZA (ι:= { x:Nat // x<=(([]:List En)).length }) 21 (λx=> [(0,.sl .no []),(7,.sl .no []),(8,.int .i64 0),(9,.int .i64 (x.1:Int))]) (λx=> []) (λx=> []) (λx=>(([]:List En)).length-x.1) ⟨0,Ji _⟩ ⟨rfl,(Fc4 rfl rfl rfl rfl),fnl,fnl⟩ (λx=>⟨(Fc4 rfl rfl rfl rfl),fnl⟩) (λx=> ?_);obtain⟨k,g⟩:=x;simp only at g ⊢;have j:¬(k:Int)<0:=by omega
  simp only[go_sem,j];simp only[ZX,Kd]
 |cons x l0=>
  have d:=GN x l0 n;generalize q:x::l0=A at *;refine PL.Pure.of_p [] func66 (by decide) rfl ntmps66 results66 (by simp) (VS _) ?_;simp only[go_sem,ZX];refine SU 6 d (c _) (by simp[Jl,ZX]) rfl (by simp only[go_sem,ZX]) ?_;simp only[go_sem,Kk,id];refine Ul (ι:= { k:Nat // k<=A.length }) 21 (λx=> [(0,.vsl 6 A.length 5),(7,.vsl 6 A.length 5),(8,.int .i64 (A.length:Int)),(9,.int .i64 (x.1:Int))]) (λ_=> []) (λ_=> [(6,.vec A.length 5 64)]) (λ_=> []) (λ_=> []) (λ_=> [(6,A.map ent)]) (λ_=> []) [] [] [] (λx=>A.length-x.1) ⟨0,Ji _⟩
   (TV rfl (Fc4 rfl rfl rfl rfl) rfl rfl) (λx=>DG (by simp[Jl,JE,ZR]) (Xd Zek _)) (λx=> ?_)
  obtain⟨k,g⟩:=x;simp only;by_cases h:(k:Int)<(A.length:Int);have a:k<A.length:=by omega
  have i:=Ja k
  have o:=wk9 (k:=k) (by omega)
  have m:=X2 (A.getD k Jd) (f _ (Zh a));have b:(A.map ent).set k (ent (A.getD k Jd))=A.map ent:=by
   rw[To];congr 1;rw[getD_lt a];exact JF a
  simp only[ent]at b;simp only[go_sem,h,i,Zq a,ent];refine vc1 m ?_;simp only[go_sem,h,i,Zq a,ent,b,o];exact⟨⟨k+1,by omega⟩,nx9 (by omega),TV rfl (Fc4 rfl rfl rfl rfl) rfl rfl⟩;simp only[go_sem,h];exact⟨_,rfl,Kl (by simp) rfl (Jf _) (c _)⟩
def Yo (it:Str) (a b:List En):List Cg:=((JW a.length).filter λi=> !decide (a.getD i Jd=b.getD i Jd)).map λi=>⟨1,it,a.getD i Jd,b.getD i Jd,[]⟩
def YV (it:Str) (a b:List En) (k:Nat):List Cg:=((JW k).filter λi=> !decide (a.getD i Jd=b.getD i Jd)).map λi=>⟨1,it,a.getD i Jd,b.getD i Jd,[]⟩
def Uj (it:Str) (a b:List En) (k:Nat):YV it a b (k+1)=YV it a b k++(if a.getD k Jd=b.getD k Jd then []else [⟨1,it,a.getD k Jd,b.getD k Jd,[]⟩]):=by
 unfold YV;rw[List.range_succ,Jt,Jj];congr 1;by_cases h:a.getD k Jd=b.getD k Jd;rw[if_pos h,Jn (by rw[decide_eq_true h];simp)];rfl;rw[if_neg h,Jo (by rw[decide_eq_false h];rfl)];rfl
def GA (it:Str) (a b:List En) (k:Nat):(YV it a b k).length<=k:=by
 unfold YV;rw[Jf];exact Jz (Jk _ _) (by simp)
def ZiC (it:Str) (a b:List En) (B:a.length<=100000) (A:a.length<=b.length) (l:∀e∈a,e.l.length<=1000000) (m:∀e∈b,e.l.length<=1000000):Pp 65 [.str it,ZX a,ZX b] (Zcd (Yo it a b)):=by
 have s:a.length<=maxLen:=by rw[Zd];omega
 have w:Yo it a b=YV it a b a.length:=rfl;rw[w];refine ZS func65 rfl ntmps65 results65 (ZfE _) ?_;simp only[go_sem,ZX];refine YJ 7 35 13 66 rfl rfl ?_;refine ZA (ι:= { x:Nat // x<=(a).length }) 38 (λx=> [(0,.str it),(2,ZX b),(7,.sl (.row 35) ((YV it a b x.1).map chg)),(10,ZX a),(11,.int .i64 (a.length:Int)),(12,.int .i64 (x.1:Int))]) (λx=> []) (λx=> [(35,.live ((YV it a b x.1).length) (13) (66))]) (λx=>(a).length-x.1) ⟨0,Ji _⟩ ⟨rfl,(Fc6 rfl rfl rfl rfl rfl rfl),fnl,(fcs rfl fnl)⟩ (λx=>⟨(Fc6 rfl rfl (by simp[Jl,ZR]) rfl rfl rfl),fnl⟩) (λx=> ?_);obtain⟨k,y⟩:=x;simp only at y ⊢;by_cases h:(k:Int)<(a.length:Int)
 (have c:k<(a).length:=by omega);(have v:=Wa c (s));(have j:=Ja k)
 have f:k<b.length:=by omega
 have i:(k:Int)<(b.length:Int):=by omega
 have g:=Uj it a b k;have z:=GA it a b k;have n:=VL (a.getD k Jd) (b.getD k Jd) (by have:=l _ (Zh (d:=Jd) c);rw[Zd];omega) (by have:=m _ (Zh (d:=Jd) f);rw[Zd];omega);have p:=X2 (a.getD k Jd) (l _ (Zh c));have q:=X2 (b.getD k Jd) (m _ (Zh f));have r:((YV it a b k).map chg).length=(YV it a b k).length:=Jf _;have u:=UZ (YV it a b k);have t:=YP (show(YV it a b k).length+1<=1000000 by omega) (show 192<=1000 by omega);by_cases o:a.getD k Jd=b.getD k Jd;rw[decide_eq_true o]at n;rw[if_pos o,Je]at g;simp only[go_sem,ZX,h,Zq c,Zq f,ent,j,i];refine vDq ?_;simp only[go_sem,ZX,h,Zq c,Zq f,ent,j,i];refine vc1 n ?_;simp only[go_sem,v];exact⟨⟨k+1,by omega⟩,nx9 (by omega),⟨rfl,by simp only;rw[g];exact(Fc6 rfl rfl rfl rfl rfl rfl),fnl,by simp only;rw[g];exact fcs rfl fnl⟩⟩;rw[decide_eq_false o]at n;rw[if_neg o]at g;simp only[go_sem,ZX,h,Zq c,Zq f,ent,j,i];refine vDq ?_;simp only[go_sem,ZX,h,Zq c,Zq f,ent,j,i];refine vc1 n ?_;simp only[go_sem];refine vDq ?_;simp only[go_sem,ZX,h,Zq c,Zq f,ent,j,i];refine vc1 p ?_;simp only[go_sem,ZX,h,Zq c,Zq f,ent,j,i];refine vc1 q ?_;simp only[go_sem,ent,r,u,t,Yb,Xr,v];exact⟨⟨k+1,by omega⟩,nx9 (by omega),⟨rfl,by simp only;rw[g,Jj];exact(Fc6 rfl rfl rfl rfl rfl rfl),fnl,by simp only;rw[g,Jm];exact fcs rfl fnl⟩⟩;obtain rfl:k=a.length:=by omega
 simp only[go_sem,Zcd,h]
def ZlH (it:Str) (a b:List En) (D:a.length<=100000) (C:a.length<=b.length) (m:∀e∈a,e.l.length<=1000000) (n:∀e∈b,e.l.length<=1000000):Eff prog 65 [.str it,ZX a,ZX b] noV (.sl (.row 35) ((Yo it a b).map chg)) (Zmz 35 (Yo it a b).length 13 66):=by
 have t:a.length<=maxLen:=by rw[Zd];omega
 have z:Yo it a b=YV it a b a.length:=rfl;rw[z];refine Eff.rn [] func65 (by decide) rfl ntmps65 results65 (by simp) (by simp[Jl,ZX]) (by simp[Jl]) ?_;simp only[go_sem,ZX];refine YJ 7 35 13 66 rfl rfl ?_;refine ZA (ι:= { x:Nat // x<=(a).length }) 38 (λx=> [(0,.str it),(2,ZX b),(7,.sl (.row 35) ((YV it a b x.1).map chg)),(10,ZX a),(11,.int .i64 (a.length:Int)),(12,.int .i64 (x.1:Int))]) (λx=> []) (λx=> [(35,.live ((YV it a b x.1).length) (13) (66))]) (λx=>(a).length-x.1) ⟨0,Ji _⟩ ⟨rfl,(Fc6 rfl rfl rfl rfl rfl rfl),fnl,(fcs rfl fnl)⟩ (λx=>⟨(Fc6 rfl rfl (by simp[Jl,ZR]) rfl rfl rfl),fnl⟩) (λx=> ?_);obtain⟨k,A⟩:=x;simp only at A ⊢;by_cases h:(k:Int)<(a.length:Int)
 (have c:k<(a).length:=by omega);(have y:=Wa c (t));(have l:=Ja k)
 have f:k<b.length:=by omega
 have j:(k:Int)<(b.length:Int):=by omega
 have g:=Uj it a b k;have B:=GA it a b k;have o:=VL (a.getD k Jd) (b.getD k Jd) (by have:=m _ (Zh (d:=Jd) c);rw[Zd];omega) (by have:=n _ (Zh (d:=Jd) f);rw[Zd];omega);have q:=X2 (a.getD k Jd) (m _ (Zh c));have r:=X2 (b.getD k Jd) (n _ (Zh f));have s:((YV it a b k).map chg).length=(YV it a b k).length:=Jf _;have v:=UZ (YV it a b k);have u:=YP (show(YV it a b k).length+1<=1000000 by omega) (show 192<=1000 by omega);by_cases p:a.getD k Jd=b.getD k Jd;rw[decide_eq_true p]at o;rw[if_pos p,Je]at g;simp only[go_sem,ZX,h,Zq c,Zq f,ent,l,j];refine vDq ?_;simp only[go_sem,ZX,h,Zq c,Zq f,ent,l,j];refine vc1 o ?_;simp only[go_sem,y];exact⟨⟨k+1,by omega⟩,nx9 (by omega),⟨rfl,by simp only;rw[g];exact(Fc6 rfl rfl rfl rfl rfl rfl),fnl,by simp only;rw[g];exact fcs rfl fnl⟩⟩;rw[decide_eq_false p]at o;rw[if_neg p]at g;simp only[go_sem,ZX,h,Zq c,Zq f,ent,l,j];refine vDq ?_;simp only[go_sem,ZX,h,Zq c,Zq f,ent,l,j];refine vc1 o ?_;simp only[go_sem];refine vDq ?_;simp only[go_sem,ZX,h,Zq c,Zq f,ent,l,j];refine vc1 q ?_;simp only[go_sem,ZX,h,Zq c,Zq f,ent,l,j];refine vc1 r ?_;simp only[go_sem,ent,s,v,u,Yb,Xr,y];exact⟨⟨k+1,by omega⟩,nx9 (by omega),⟨rfl,by simp only;rw[g,Jj];exact(Fc6 rfl rfl rfl rfl rfl rfl),fnl,by simp only;rw[g,Jm];exact fcs rfl fnl⟩⟩;obtain rfl:k=a.length:=by omega
 simp only[go_sem,Zcd,h];exact ZtB (r0:= .sl (.row 35) _) rfl (.keep _ (by intro i w;simp[Jl]at w;subst w;exact⟨_,Jh.2 rfl,rfl⟩)) rfl
def Znt (d:Dc) (n:Int):(PV.tup [doc d,.int .i64 n]).dids= []:=by simp only[JZ,JO,Zeh,Je]
def Zb4 (r:Rw):Cg:=⟨3,r.item,Jd,Jd,r.l⟩
def FM (r:Rw):Cg:=⟨2,r.item,Jd,Jd,r.l⟩
def YG:List Rw->List Rw->List Cg
 | [],[]=> []
 |p::ps,[]=>Zb4 p::YG ps []
 | [],q::qs=>FM q::YG [] qs
 |p::ps,q::qs=>if Zl p.item q.item=Ht then Zb4 p::YG ps (q::qs)else if Zl q.item p.item=Ht then FM q::YG (p::ps) qs else Yo q.item p.l q.l++YG ps qs
termination_by a b=>a.length+b.length
def W5 (l:List Fd) (a b:Dc):List Cg×Int:=if Zz l a=Hf\/Zz l b=Hf then([],5)else(Yo [] a.head b.head++YG a.rows b.rows,0)
structure DiS (p q:List Rw) (h0:List Cg) where
 i:Nat
 j:Nat
 acc:List Cg
 row:Nat
 hi:i<=p.length
 hj:j<=q.length
 hl:acc.length<=h0.length+16*(i+j)
 h:acc++YG (p.drop i) (q.drop j)=h0++YG p q
def Zyl (r:Rf) (e:En):Bool:=decide (e.at'=r)
def ZpY (es:List En) (r:Rf):Option En:=es.find? (Zyl r)
def ZlC (u p f:Int):Int×Int:=if Xp u=Ht/\Xp p=Ht then(if(SZ u p f).2=0 then((SZ u p f).1,0)else(0,3))else(0,3)
def ZnL (x:Ln) (f:Fd) (e:En):En:=
 if x.kind=6 then⟨f.at',e.n,(ZD f).l⟩
 else if x.kind=7 then⟨f.at',0,if 0<(e.l.length:Int)/\e.l.getD 0 []≠x.ot then [e.l.getD 0 []]else []⟩
 else if x.kind=10 then⟨f.at',0,if 0<(e.l.length:Int)then [e.l.getD (e.l.length-1) []]else(ZD f).l⟩
 else if x.kind=8 then⟨f.at',0,if 0<(e.l.length:Int)then [(Xc x.fo (e.l.getD 0 [])).1]else(ZD f).l⟩
 else if x.kind=3 then ZD f
 else⟨f.at',e.n,e.l⟩
def Zmy (x:Ln) (f:Fd) (i:Int) (es:List En):En×Int:=
 if x.kind=2\/(x.kind=6/\0<i)then(ZD f,0)else
 match ZpY es ((ZN x).getD 0 Jd)with
 |none=>(Jd,5)
 |some e=>
  if x.kind=9 then
   match ZpY es ((ZN x).getD 1 Jd)with
   |none=>(Jd,5)
   |some e2=>if(ZlC e.n e2.n x.fac).2=0 then(⟨f.at',(ZlC e.n e2.n x.fac).1,(ZD f).l⟩,0)else(Jd,(ZlC e.n e2.n x.fac).2)
  else(ZnL x f e,0)
def ZjZ {u p f:Int} (k:2<=f/\f<=1000) (e:Lim u) (hp:Lim p):IntKind.i64.wrap (p*f)=p*f/\IntKind.i64.wrap (u+IntKind.i64.wrap (p*f))=u+p*f/\ZlC u p f=if Xp (p*f)=Ht/\Xp (u+p*f)=Ht then(u+p*f,0)else(0,3):=by
 have m:=Zbj (w:=f) (by omega);unfold Lim at e hp;have r: -4503599627370496000<=p*f/\p*f<=4503599627370496000:=by
  have b:p*f<=4503599627370496*f:=Jb hp.2 (by omega);have q:(-4503599627370496)*f<=p*f:=Jb hp.1 (by omega);omega
 have c:f*p=p*f:=JY _ _;have g:IntKind.i64.wrap (p*f)=p*f:=Sj (by omega);have i:IntKind.i64.wrap (u+IntKind.i64.wrap (p*f))=u+p*f:=by rw[g];exact Sj (by omega)
 refine⟨g,i,?_⟩;have l:SZ u p f=if p < - Xe f\/Xe f<p then(0,3)else if Xp (u+p*f)=Ht then(u+p*f,0)else(0,3):=by
  unfold SZ;rw[if_neg (λh=>h k),c,i]
 unfold ZlC;rw[if_pos ⟨Yw.2 e,Yw.2 hp⟩,l];by_cases a:p < - Xe f\/Xe f<p;have n:¬Xp (p*f)=true:=λh=>by
  rw[Yw]at h;unfold Lim at h;rcases a with a|a;have b:p*f<=(- Xe f-1)*f:=Jb (by omega) (by omega);have j:(- Xe f-1)*f= - ((Xe f+1)*f):=by rw[<-Kg];congr 1;omega
  omega;have b:(Xe f+1)*f<=p*f:=Jb (by omega) (by omega);omega
 rw[if_pos a];simp[n];have o:Xp (p*f)=true:=by
  rw[Yw];unfold Lim;have b:p*f<=Xe f*f:=Jb (by omega) (by omega);have q:(- Xe f)*f<=p*f:=Jb (by omega) (by omega);have j:(- Xe f)*f= - (Xe f*f):=Kg _ _;omega
 rw[if_neg a];by_cases d:Xp (u+p*f)=Ht;simp[o,d];simp[d]
structure GotOk (x:Ln) (f:Fd) (i:Int) (es:List En):Prop where
 h3:x.kind≠3
 hi:0<=i/\i<=1
 e1:x.kind≠2-> ∃e,ZpY es ((ZN x).getD 0 Jd)=some e/\((x.kind=7\/x.kind=8)->0<e.l.length)/\(x.kind=9->Lim e.n)
 e2:x.kind=9->(∃e,ZpY es ((ZN x).getD 1 Jd)=some e/\Lim e.n)/\2<=x.fac/\x.fac<=1000
 v1:x.kind=6\/x.kind=9->(ZD f).l= []
 v10:x.kind=10->(ZD f).l= [x.ot]
def ZvR (x:Ln) (es:List En) (f:Fd):En×Int:=
 if Yn (Zi x) f.at'<0 then(match ZpY es f.at' with|none=>(Jd,5)|some e=>(e,0))else Zmy x f (Yn (Zi x) f.at') es
def Zvp (x:Ln) (es:List En) (f:Fd):Bool:=(ZvR x es f).2 !=0
def ZlQ (x:Ln) (fs:List Fd) (es:List En):List En×Int:=
 match fs.find? (Zvp x es)with
 |some f=>([],(ZvR x es f).2)
 |none=>(fs.map λf=>(ZvR x es f).1,0)
structure OkDc (d:Dc):Prop where
 h:d.head.length<=100000
 r:d.rows.length<=100000
 e:∀e∈d.head,e.l.length<=1000000
 s:∀r∈d.rows,r.l.length<=100000/\ ∀e∈r.l,e.l.length<=1000000
def Zvq (x:Ln) (fs:List Fd) (r:Rw):Bool:=(ZlQ x fs r.l).2 !=0
def newRow (x:Ln) (fs:List Fd) (r:Rw):Rw:=⟨r.item,(ZlQ x fs r.l).1⟩
def ZtX (l:List Fd) (x:Ln) (d:Dc):Dc×Int:=
 if(ZW l x).2≠0 then(Jd,(ZW l x).2)else if Zz l d=Hf then(Jd,5)else
 if(ZlQ x (Zk (ZW l x).1 0) d.head).2≠0 then(Jd,(ZlQ x (Zk (ZW l x).1 0) d.head).2)else
 match d.rows.find? (Zvq x (Zk (ZW l x).1 1))with
 |some r=>(Jd,(ZlQ x (Zk (ZW l x).1 1) r.l).2)
 |none=>(⟨(ZlQ x (Zk (ZW l x).1 0) d.head).1,d.rows.map (newRow x (Zk (ZW l x).1 1))⟩,0)
def Zme {l:List Fd} (h:ZP l=Ht) {f g:Fd} (d:f∈l) (i:g∈l) (e:f.at'=g.at'):f=g:=by
 have b:=(ZL.1 h).2.1;have a:=YZ b d;have c:=YZ b i;rw[e,c]at a;exact(Ki.inj a).1.symm
theorem ZzB {L:List Fd} {es:List En} (h:Zo L es=Ht) (u:∀f∈L,∀g∈L,f.at'=g.at'->f=g) {g:Fd} (q:g∈L):∃e,ZpY es g.at'=some e/\YF g e=true:=by
 simp only[Zo,Jc,decide_eq_true_eq,JB,JS]at h;obtain⟨r,a⟩:=h;have k:∀i,i<L.length->(es.getD i Jd).at'=(L.getD i Jd).at':=λi n=>by
  have:=a i n;simp only[YF,Jc,decide_eq_true_eq]at this;exact this.1.2
 obtain⟨i,n,rfl⟩:=JH q;have p:L.getD i Jd=L[i]:=getD_lt n;cases m:ZpY es L[i].at' with
 |none=>
  exfalso;unfold ZpY at m;have:=JX.1 m (es.getD i Jd) (Zc (by omega));apply this;simp only[Zyl,decide_eq_true_eq];rw[k i n,p]
 |some e=>
  refine⟨e,rfl,?_⟩;have s:=JM m;have hp:=List.find?_some m;simp only[Zyl,decide_eq_true_eq]at hp;obtain⟨j,t,rfl⟩:=JH s;have c:j<L.length:=by omega
  have l:es.getD j Jd=es[j]:=getD_lt t;have:=k j c;rw[l,hp]at this;have o:=u _ (Zc (d:=Jd) c) _ q this.symm;have b:=a j c;rw[l,o]at b;exact b
def Zvx {f:Fd} {e:En} (h:YF f e=Ht) (k:f.kind≠1):e.n=0/\(f.kind≠4->e.l.length=1)/\(f.kind=4->e.l.length<=400)/\ ∀s∈e.l,Xo f s=true:=by
 simp only[YF,k,if_false,FO,FS0,Jc,decide_eq_true_eq,JB]at h;obtain⟨_,a,c,d⟩:=h;refine⟨d,λb=> ?_,λb=> ?_,c⟩;rw[if_neg b]at a;simp at a;omega;rw[if_pos b]at a;simp at a;omega
def ZzE {f:Fd} {n:Int} (b:ZT f=Ht) (k:f.kind=1) (a:Lim n):YF f ⟨f.at',n,[]⟩=true:=by
 unfold Lim at a;simp only[YF,b,k,if_true,Zlh,Jc,decide_eq_true_eq,true_and,List.length_nil];exact⟨by omega,by omega,rfl⟩
def Zyp {f:Fd} {l:List Str} (c:ZT f=Ht) (k:f.kind≠1) (b:if f.kind=4 then l.length<=400 else l.length=1) (d:∀s∈l,Xo f s=Ht):YF f ⟨f.at',0,l⟩=true:=by
 simp only[YF,c,k,if_false,FO,FS0,Jc,decide_eq_true_eq,JB,true_and,and_true];refine⟨?_,d⟩;by_cases a:f.kind=4;rw[if_pos a]at b ⊢;simp;omega;rw[if_neg a]at b ⊢;simp;omega
def D4 {f:Fd} (a:ZT f=Ht) (b:f.kind≠1) (c:f.kind≠3) {s:Str}:Xo f s=Ht↔s.length<41:=by
 simp only[Xo,a,b,c,if_false,decide_false,J6,Js,Jp,decide_eq_true_eq];omega
def Zml {f:Fd} (b:ZT f=Ht):YF f (ZD f)=true:=by
 by_cases a:f.kind=1;have:ZD f=⟨f.at',0,[]⟩:=by simp[ZD,a]
 rw[this];exact ZzE b a ⟨by omega,by omega⟩;by_cases c:f.kind=4;have:ZD f=⟨f.at',0,[]⟩:=by simp[ZD,c]
 rw[this];exact Zyp b a (by rw[if_pos c];simp) (by simp);have:ZD f=⟨f.at',0,[f.df]⟩:=by simp[ZD,a,c]
 rw[this];refine Zyp b a (by rw[if_neg c];rfl) λs e=> ?_
 rw[Jh.1 e];have h:=b;simp only[ZT,a,if_false,Jc]at h;obtain⟨_,_,h⟩:=h;by_cases d:f.kind=3;rw[if_pos d]at h;simp only[ZbR,Jc]at h;simp only[Xo,b,a,d,if_true];simpa using h.2.2;rw[if_neg d]at h;rw[D4 b a d];simp only[Zha,Jc,J3,decide_eq_true_eq]at h;rcases h.2 with h|h;have:=h.2;omega;exact absurd h.1 c
def came {l m:List Fd} {x:Ln} (u:ZW l x=(m,0)) {f:Fd} (g:f∈m):
  (Yn (Zi x) f.at'<0/\f∈l)\/ ∃i:Nat,Yn (Zi x) f.at'=(i:Int)/\i<=1/\ ∃cs,WM l x=(cs,Ht)/\i<cs.length/\cs.getD i Jd=f:=by
 obtain⟨y,z,cs,I,e,q,r⟩:=Xb u;obtain⟨k,n,A,B,C⟩:=Ga y q;obtain⟨o,d,D,E,F⟩:=WU k r;have w:=(Yz z).1;have a:=Su w e;have v:=Zk8 x;by_cases hp:Yn (Zi x) f.at'<0;left;refine⟨hp,?_⟩;rcases(d f).1 g with h|h;exact((n f).1 h).1;exact absurd (by rw[<-a];exact JI.2 ⟨f,h,rfl⟩) (X7 hp);right;obtain⟨i,s,G,t⟩:=VG hp;have j:cs.length=(Zi x).length:=by rw[<-a,Jf]
 refine⟨i,s,by omega,cs,e,by omega,?_⟩;have c:i<cs.length:=by omega
 have b:(cs.getD i Jd).at'=f.at':=by
  have p:(cs.map (·.at')).getD i Jd=(cs.getD i Jd).at':=by
   rw[getD_lt (l:=cs.map (·.at')) (by simpa using c),getD_lt c];simp
  rw[<-p,a,t]
 exact Zme o ((d _).2 (.inr (Zc c))) g b
theorem Zg9 {t o:List Pr} (h:Xm t o=Ht) {s:Str} (f:UK t s=Ht):UK o (Xc t s).1=Ht/\(Xc t s).2=true:=by
 simp only[UK,List.any_eq_true,beq_iff_eq]at f;obtain⟨p,hp,rfl⟩:=f;obtain⟨q,e⟩:∃q,t.find? (λq=>q.fr'==p.fr')=some q:=by
  cases j:t.find? (λq=>q.fr'==p.fr')with
  |none=>exact absurd (by simp) (JX.1 j p hp)
  |some q=>exact⟨q,rfl⟩
 have a:=JM e;have g:Xc t p.fr'=(q.to',Ht):=by unfold Xc;rw[e]
 rw[g];refine⟨?_,rfl⟩;simp only[Xm,Jc,JB,JS]at h;obtain⟨i,d,rfl⟩:=JH a;have b:=h.2 i d;simp only[Vm,Jc]at b;have c:=b.2.2;rw[getD_lt d]at c;exact c
def Za6 {t:List Pr} {s:Str}:(X4 t).any (· == s)=UK t s:=by
 unfold X4 UK;rw[List.any_map];rfl
def toL:List Ln->List Fd->Dc->Dc×Int
 | [],_,d=>(d,0)
 |x::xs,l,d=>if(ZtX l x d).2≠0 then(Jd,(ZtX l x d).2)else toL xs (ZW l x).1 (ZtX l x d).1
structure ToS (row:List Ln) (l0:List Fd) (d0:Dc) where
 k:Nat
 l:List Fd
 d:Dc
 hk:k<=row.length
 okl:OkFs l
 okd:OkDc d
 h:toL (row.drop k) l d=toL row l0 d0
def FL (l:List Rw):Prop:=l.Pairwise λx y=>Zl x.item y.item=Ht
theorem ZeL {l:List Fd} {d:Dc} (h:Zz l d=Ht):FL d.rows:=by
 simp only[Zz,Jc,JB,JS]at h;have g:∀i,0<i->i<d.rows.length->Zl (d.rows.getD (i-1) Jd).item (d.rows.getD i Jd).item=true:=λi k b=>by
  have:=h.2 i b;simp only[Ub,Jc,J3,decide_eq_true_eq]at this;rcases this.1.2 with e|e;omega;exact e
 unfold FL;rw[List.pairwise_iff_getElem];intro i j b c f;rw[<-getD_lt (d:=Jd) b,<-getD_lt (d:=Jd) c];induction j with
 |zero=>omega
 |succ j ih=>
  have a:=g (j+1) (by omega) c;simp only[Nat.add_sub_cancel]at a;by_cases e:i=j;subst e;exact a;exact Ud (ih (by omega) (by omega)) a
def ZbI (r:Rw):(row r).ids= []:=by simp[row,ZX,Jl,JE]
open Go.RowKit
def YM (e:En):(ent e).ids= []:=by simp[ent,Jl,JE]
def S5 (l:List En) (t:l.length<=100000) (c:∀e∈l,e.l.length<=1000000):
  Eff prog 71 [ZX l] noV (.vsl 16 l.length 5) (Zcx 16 l.length 5 64 (l.map ent)):=by
 have b:∀l:List En,∀p∈l.map ent,p.ids= []:=λl=>Yt YM l
 have o:l.length<=maxLen:=by rw[Zd];omega
 refine Eff.vn [16] func71 (by decide) rfl ntmps71 results71 (by simp) (b _) (by simp[Jl,ZX]) (by simp[Jl]) ?_;simp only[go_sem,ZX];refine ZcS 3 16 5 64 rfl rfl ?_;refine Ul (ι:= { k:Nat // k<=l.length }) 19 (λx=> [(3,.vsl 16 x.1 5),(6,.sl .no (l.map ent)),(7,.int .i64 (l.length:Int)),(8,.int .i64 (x.1:Int))]) (λ_=> []) (λx=> [(16,.vec x.1 5 64)]) (λ_=> []) (λ_=> []) (λx=> [(16,(l.take x.1).map ent)]) (λ_=> []) [] [] [16] (λx=>l.length-x.1) ⟨0,Ji _⟩
  (TV rfl (Fc4 rfl rfl rfl rfl) rfl rfl) (λx=>DG (by simp[Jl,JE,ZR]) (Xd YM _)) (λx=> ?_)
 obtain⟨k,s⟩:=x;simp only;by_cases h:(k:Int)<(l.length:Int);have a:k<l.length:=by omega
 have r:=Wa a o;have q:=Ja k
 have n:=Vp (l.getD k Jd) (c _ (Zh a));have j:(l.take (k+1)).map ent=(l.take k).map ent++ [ent (l.getD k Jd)]:=by rw[ZQ (d:=Jd) a,Jj];rfl
 have f:((l.take k).map ent).length=k:=by simp;omega
 have g:=YP (show k+1<=1000000 by omega) (show 72<=1000 by omega);simp only[go_sem,h,Zq a,ent,q];refine vc1 n ?_;simp only[go_sem,ent,r,f,g];refine⟨λp hp=>by rw[Jh.1 hp];exact⟨rfl,rfl⟩,λp hp=>by rw[Jh.1 hp];exact YM _,λp hp=> ?_,⟨k+1,by omega⟩,nx9 (by omega),TV rfl (Fc4 rfl rfl rfl rfl) rfl ?_⟩;rcases JQ.1 hp with hp|hp;rw[b _ p hp];simp;rw[Jh.1 hp,show(Ka [PV.int IntKind.i64 (l.getD k Jd).at'.sc,J5 (l.getD k Jd).at'.gr,J5 (l.getD k Jd).at'.nm,PV.int IntKind.i64 (l.getD k Jd).n,PV.sl Tok.no (List.map J5 (l.getD k Jd).l)]).ids= []from YM _];simp;simp only;rw[j];rfl;obtain rfl:k=l.length:=by omega
 simp only[go_sem,h,JA];exact ZaW (r0:= .vsl 16 l.length 5) (b _) rfl (.keep _ (by intro i m;simp[Jl]at m;subst m;exact⟨_,Jh.2 rfl,rfl⟩)) rfl rfl
def Zhv (e:En):PV:= .agg [.int .i64 e.at'.sc,.str e.at'.gr,.str e.at'.nm,.int .i64 e.n,Kh (e.l.map .str)]
def ZA3 (c:Cg):PV:= .agg [.int .i64 c.kind,.str c.item,.int .i64 c.was.at'.sc,.str c.was.at'.gr,.str c.was.at'.nm,.int .i64 c.was.n,Kh (c.was.l.map .str),.int .i64 c.now.at'.sc,.str c.now.at'.gr,.str c.now.at'.nm,.int .i64 c.now.n,Kh (c.now.l.map .str),Kh (c.l.map Zhv)]
def Zq0 (e:En):(Zhv e).ids= []:=by simp[Zhv,Jl,JE,ZnK]
def ZaT (e:En):(Zhv e).dids= []:=by simp only[Zhv,JZ,JO,ZjG,XI,Je]
open Go.RowKit
def Zqe (x:En) (c:List En) (o:(x::c).length<=100000) (f:∀e∈x::c,e.l.length<=1000000):Eff prog 66 [ZX (x::c)] noV (.vsl 6 (x::c).length 5) (Zcx 6 (x::c).length 5 64 ((x::c).map ent)):=by
 have d:∀l:List En,∀p∈l.map ent,p.ids= []:=λl=>Yt YM l
 have m:=GN x c o;generalize r:x::c=A at *;refine Eff.vn [] func66 (by decide) rfl ntmps66 results66 (by simp) (d _) (by simp[Jl,ZX]) (by simp[Jl]) ?_;simp only[go_sem,ZX];refine SU 6 m (d _) (by simp[Jl,ZX]) rfl (by simp only[go_sem,ZX]) ?_;simp only[go_sem,Kk,id];refine Ul (ι:= { k:Nat // k<=A.length }) 21 (λx=> [(0,.vsl 6 A.length 5),(7,.vsl 6 A.length 5),(8,.int .i64 (A.length:Int)),(9,.int .i64 (x.1:Int))]) (λ_=> []) (λ_=> [(6,.vec A.length 5 64)]) (λ_=> []) (λ_=> []) (λ_=> [(6,A.map ent)]) (λ_=> []) [] [] [] (λx=>A.length-x.1) ⟨0,Ji _⟩
  (TV rfl (Fc4 rfl rfl rfl rfl) rfl rfl) (λx=>DG (by simp[Jl,JE,ZR]) (Xd YM _)) (λx=> ?_)
 obtain⟨k,s⟩:=x;simp only;by_cases h:(k:Int)<(A.length:Int);have a:k<A.length:=by omega
 have j:=Ja k
 have q:=wk9 (k:=k) (by omega)
 have n:=X2 (A.getD k Jd) (f _ (Zh a));have b:(A.map ent).set k (ent (A.getD k Jd))=A.map ent:=by
  rw[To];congr 1;rw[getD_lt a];exact JF a
 simp only[ent]at b;simp only[go_sem,h,j,Zq a,ent];refine vc1 n ?_;simp only[go_sem,h,j,Zq a,ent,b,q];exact⟨⟨k+1,by omega⟩,nx9 (by omega),TV rfl (Fc4 rfl rfl rfl rfl) rfl rfl⟩;simp only[go_sem,h];exact ZaW (r0:= .vsl 6 A.length 5) (d _) rfl (.keep _ (by intro i g;simp[Jl]at g;subst g;exact⟨_,Jh.2 rfl,rfl⟩)) rfl rfl
open Go.ChangeShapes Go.WideShapes Go.ChangeAt
theorem ZvK:Ze6 prog 23=false:=by kernel_rfl
def ZvT {p:PV} (h:PA prog 23 p):∃l:List Opn,p=Z1 l/\l.length<=maxLen:=by
 obtain⟨l,rfl,a,b⟩:=h.slice ZvK underlying23;obtain⟨xs,rfl,c⟩:=Sq (enc:=opv) (Q:=λ_=>True) (λp hp=>by
  obtain⟨s,rfl,_⟩:=Zyu (b p hp);exact⟨s,rfl,trivial⟩)
 exact⟨xs,rfl,by simpa using a⟩
def Zyn {x:Ln} (h:LenLn' x):LenLn x:=⟨h.c,h.f,h.b⟩
end Go.Proofs.YtcmpkokndngplaaGreat
