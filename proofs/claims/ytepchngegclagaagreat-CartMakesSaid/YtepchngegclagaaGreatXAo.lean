/- Lemmas of the proof. -/
import Derived.Test.YtepchngegclagaaGreatPlH
import Derived.Test.YtepchngegclagaaGreatXAa
import Derived.Test.YtepchngegclagaaGreatXAi
import Derived.Test.YtepchngegclagaaGreatXBd
import Derived.Test.YtepchngegclagaaGreatXBr
import Derived.ProofKit
set_option maxHeartbeats 64000000
set_option maxRecDepth 20000
set_option linter.unusedVariables false
set_option linter.unusedSimpArgs false
open Inhabited renaming default→Jd
open Bool renaming true→Ht,false→Hf
open Go.Proofs.Tryz
open Go Go.PL
open Bool renaming and_eq_true→Ja,eq_false_iff→Jk,true_and→Jn,false_and→Jo,eq_iff_iff→Jw,true_eq_false→JK,false_eq_true→JL
open Classical renaming not_not→J6
open Int renaming natCast_nonneg→Jb,toNat_natCast→J9
open List renaming length_append→Jc,filter_cons_of_neg→Je,filter_cons_of_pos→Jf,append_nil→Jg,mem_singleton→Ji,take_length→Jj,getElem_of_mem→Jl,take_of_length_le→Jm,length_filter_le→Jp,findIdx?_eq_some_iff_getElem→Jq,length_map→Jr,append_assoc→Js,length_take_le→Jt,filter_append→Ju,map_append→Jy,set_eq_take_append_cons_drop→Jz,singleton_append→JA,Nodup→JB,range→JC,length_cons→JD,map_cons→JE,mem_append→JF,filter_sublist→JH,takeWhile_cons→JI,findIdx?_eq_none_iff→JM,pairwise_iff_getElem→JN,ext_getElem→JR,take→JS,all_eq_true→JT,getElem_mem→JU,getElem_map→JV,length_drop→JW,length_take→JX,any_eq_true→JY,mem_range→JZ,take_zero→J2,drop→J3,flatMap_append→J4,pairwise_map→J5,foldl_append→J8,mem_flatMap→Ka,length_nil→Kb,range_succ→Kc,map_take→Ke,mem_map→Kf,Sublist→Kh
open Nat renaming zero_le→Jh,le_trans→JJ,not_lt_zero→Kd,lt_or_ge→Kg,le_refl→Ki
open Option renaming isSome_iff_exists→JQ
open PV renaming ids→Jv,int→JG,idsL→JO,givableL→JP,giveL→J7,agg→Kj
namespace Go.Proofs.YtepchngegclagaaGreat
open Go.PL
open Go.PL
theorem ZgZ (n:Int):Pp 263 [.int .i64 n] (.bool (!WJ n)):=by
 by_cases h1:4503599627370496<n;have e:WJ n=false:=by rw[Jk];simp[WJ];omega
 rw[e];refine ZM func263 rfl ntmps263 results263 ?_;simp only[go_sem,h1];by_cases h2:n < -4503599627370496;have e:WJ n=false:=by rw[Jk];simp[WJ];omega
 rw[e];refine ZM func263 rfl ntmps263 results263 ?_;simp only[go_sem,h1,h2];have e:WJ n=true:=by simp[WJ];omega
 rw[e];refine ZM func263 rfl ntmps263 results263 ?_;simp only[go_sem,h1,h2]
theorem Zgf {f:Fd} (h:Yc f=Ht):f.kind=1\/f.kind=2\/f.kind=3\/f.kind=4:=by
 simp only[Yc,Ja]at h;have h:=h.2;by_cases k1:f.kind=1;exact .inl k1;rw[if_neg k1]at h;by_cases k3:f.kind=3;exact .inr (.inr (.inl k3));simp only[if_neg k3,Ja]at h;have h:=h.2;simp[ZiY]at h;omega
theorem Zbe (f:Fd) (s:Str) (hf:f.cases'.length<=maxLen):Pp 56 [fld f,.str s] (.bool (UC f s)):=by
 have hR:=T4 f hf;have hT:=Gg s;have hC:=SH f.cases' s hf;unfold UC;cases hr:Yc f;rw[hr]at hR;refine ZM func56 rfl ntmps56 results56 ?_;simp only[go_sem,fld];refine vc2 hR ?_;simp only[go_sem,Jo];have hk:=Zgf hr;rw[hr]at hR;have e41:decide ((s.length:Int)<=40)=decide ((s.length:Int)<41):=by rw[Jw];simp;omega
 rw[e41]at hT;obtain⟨a,kind,d,c,w⟩:=f;simp only at hk hR hT hC ⊢;rcases hk with rfl|rfl|rfl|rfl;refine ZM func56 rfl ntmps56 results56 ?_;simp only[go_sem,fld];refine vc2 hR ?_;simp only[go_sem];rfl;refine ZM func56 rfl ntmps56 results56 ?_;simp only[go_sem,fld];refine vc2 hR ?_;simp only[go_sem];refine vc1 hT ?_;simp only[go_sem];simp;refine ZM func56 rfl ntmps56 results56 ?_;simp only[go_sem,fld];refine vc2 hR ?_;simp only[go_sem];refine vc1 hC ?_;simp only[go_sem];simp;refine ZM func56 rfl ntmps56 results56 ?_;simp only[go_sem,fld];refine vc2 hR ?_;simp only[go_sem];refine vc1 hT ?_;simp only[go_sem];simp
def Sv (l:List Fd) (o:Opn):Bool:=
 Yd o&&(if Yv o=Hf then Ht else decide ((Zv l o.at').2=0)&&(if o.kind=3 then decide ((Zv l o.at').1.kind=1)else if o.has=Ht then UC (Zv l o.at').1 o.text else decide ((Zv l o.at').1.kind=4)))
theorem G2 (l:List Fd) (o:Opn) (hl:OkFs l) (ho:o.drops.length<=maxLen):Pp 17 [Zh l,opv o] (.bool (Sv l o)):=by
 have hR:=UT o ho;have hP:=S6 o;have hF:=Vy l o.at' (by have:=hl.n;omega) hl.c;have okf:=Zew hl o.at';have hT:=Zbe (Zv l o.at').1 o.text (by rw[Zc];omega);unfold Sv;cases hr:Yd o;rw[hr]at hR;refine ZM func17 rfl ntmps17 results17 ?_;simp only[go_sem,Zh,opv];refine vc6 hR ?_;simp only[go_sem,Jo];rw[hr]at hR;cases hp:Yv o;rw[hp]at hP;refine ZM func17 rfl ntmps17 results17 ?_;simp only[go_sem,Zh,opv];refine vc6 hR ?_;simp only[go_sem,opv];refine vc6 hP ?_;simp only[go_sem,Jn,if_true];rw[hp]at hP;simp only[Jn,JK,if_false];generalize Zv l o.at'=y at *;obtain⟨f,c⟩:=y;simp only at hT okf ⊢;by_cases hc:c=0;have ec:(c !=0)=false:=by simpa using hc
 simp only[hc,decide_true,Jn];by_cases k3:o.kind=3;have e3:(o.kind==3)=true:=by simpa using k3
 have ek:(f.kind==1)=decide (f.kind=1):=by rw[Jw];simp
 rw[if_pos k3];refine ZM func17 rfl ntmps17 results17 ?_;simp only[go_sem,Zh,opv];refine vc6 hR ?_;simp only[go_sem,opv];refine vc6 hP ?_;simp only[go_sem];refine vc2 hF ?_;simp only[go_sem,Uu,fld,ec,e3,ek];have e3:(o.kind==3)=false:=by simpa using k3
 rw[if_neg k3];have ek:(f.kind==4)=decide (f.kind=4):=by rw[Jw];simp
 cases hh:o.has;refine ZM func17 rfl ntmps17 results17 ?_;simp only[go_sem,Zh,opv,hh];refine Zl hR ?_ ?_ ?_;simp only[go_sem,opv];simp only[go_sem,opv,hh];simp only[go_sem,opv];refine Zl hP ?_ ?_ ?_;simp only[go_sem,opv];simp only[go_sem,opv,hh];simp only[go_sem];refine vc2 hF ?_;simp only[go_sem,Uu,fld,ec,e3,ek,if_false];refine ZM func17 rfl ntmps17 results17 ?_;simp only[go_sem,Zh,opv,hh];refine Zl hR ?_ ?_ ?_;simp only[go_sem,opv];simp only[go_sem,opv,hh];simp only[go_sem,opv];refine Zl hP ?_ ?_ ?_;simp only[go_sem,opv];simp only[go_sem,opv,hh];simp only[go_sem];refine vc2 hF ?_;simp only[go_sem,Uu,fld,ec,e3];refine vc2 hT ?_;simp only[go_sem,if_true];have ec:(c !=0)=true:=by simpa using hc
 refine ZM func17 rfl ntmps17 results17 ?_;simp only[go_sem,Zh,opv];refine vc6 hR ?_;simp only[go_sem,opv];refine vc6 hP ?_;simp only[go_sem];refine vc2 hF ?_;simp only[go_sem,Uu,fld,ec,hc,Jo]
open Go.PL
theorem ZiF {l:List Rf} {r:Rf} (h:¬Xw l r<0):∃g:Nat,Xw l r=(g:Int)/\g<l.length/\l.getD g Jd=r:=by
 unfold Xw idx at h ⊢;cases hf:l.findIdx? λa=>decide (r=a)with
 |none=>rw[hf]at h;exact absurd (by decide) h
 |some i=>
  rw[Jq]at hf;obtain⟨h1,h2,_⟩:=hf;refine⟨i,rfl,h1,?_⟩;rw[getD_lt h1];simpa using(of_decide_eq_true h2).symm
theorem Zna {x:Ln} {o:Opn} (h:OkOp o):OkOp (Ut x o).1:=by
 have hd:=h.d;refine⟨?_⟩;unfold Ut ZQ;repeat' split
 all_goals first|exact hd|exact Jh _
open Go.PL
def XO:List Ln->Opn->Opn×Bool
 | [],o=>(o,Ht)
 |x::xs,o=>if(Ut x o).2=Hf then(Jd,Hf)else XO xs (Ut x o).1
theorem SO (x:Ln) (xs:List Ln) (o:Opn):XO (x::xs) o=if(Ut x o).2=Hf then(Jd,Hf)else XO xs (Ut x o).1:=rfl
structure Worth (l:List Fd) (o:Opn) (w:Int):Prop where
 k:o.kind=3
 f:∃f,Zv l o.at'=(f,0)/\f.kind=1/\1<=f.worth/\f.worth<=1048576/\o.delta*f.worth=w
 b: -1099511627776<=w/\w<=1099511627776
open Go.PL
open Go.PL
def Zsp (o:Opn) (t:Tg):Opn:=⟨o.id,t,o.time,o.cart,o.kind,o.item,o.at',o.delta,o.has,o.text,o.drops⟩
def Zfh (m:List Eg) (a b:Tg) (o:Opn):Opn×Bool:=
 if Wu m a b≠0 then(Jd,Hf)else if(XO (Zb6 m a b).1 o).2=Hf then(Jd,Hf)else(Zsp (XO (Zb6 m a b).1 o).1 b,Ht)
def Xi (m:List Eg) (o:Opn) (b:Tg):Int:=
 if Yd o=Hf then 5 else if upC m o.sch≠0 then upC m o.sch else if upC m b≠0 then upC m b else if Sv (Yk (Zd m) o.sch).1 o=Hf then 16 else 0
structure SeenT where
 o:Opn
 ok:Bool
 c:Int
 deriving DecidableEq,Inhabited
def toT (m:List Eg) (o:Opn) (b:Tg):SeenT:=if Xi m o b≠0 then⟨Jd,Hf,Xi m o b⟩else⟨(Zfh m o.sch b o).1,(Zfh m o.sch b o).2,0⟩
def Sx (m:List Eg) (o:Opn):Bool:=Yd o&&(decide (upC m o.sch=0)&&Sv (Yk (Zd m) o.sch).1 o)
theorem Zbw {m:List Eg} {o:Opn} {b:Tg}:Xi m o b=0↔Yd o=Ht/\upC m o.sch=0/\upC m b=0/\Sv (Yk (Zd m) o.sch).1 o=true:=by
 unfold Xi;cases h1:Yd o;simp;by_cases h2:upC m o.sch=0;by_cases h3:upC m b=0;cases h4:Sv (Yk (Zd m) o.sch).1 o;simp[h2,h3];simp[h2,h3];simp[h2,h3];simp[h2]
theorem Zif {m:List Eg} {o:Opn}:Xi m o Jd=0↔Sx m o=true:=by
 rw[Zbw];simp only[Sx,Ja,decide_eq_true_eq];have h0:upC m Jd=0:=rfl;constructor;rintro ⟨h1,h2,_,h4⟩;exact⟨h1,h2,h4⟩;rintro ⟨h1,h2,h4⟩;exact⟨h1,h2,h0,h4⟩
theorem Zk4 {m:List Eg} (hr:RightM m) {a:Tg} (hu:upC m a=0):Z7 (Yk (Zd m) a).1=true:=by
 obtain⟨wa,fa,_⟩:=YU hu;exact FW _ (λe he=>ZjY (hr.r e (wa.mem e he))) ZiO fa
theorem ZnO {m:List Eg} {a b:Tg} {o p:Opn} (h:Zfh m a b o=(p,Ht)):∃q,XO (Zb6 m a b).1 o=(q,Ht)/\p=Zsp q b:=by
 unfold Zfh at h;split at h;simp at h;split at h;simp at h;rename_i hq;have hq':(XO (Zb6 m a b).1 o).2=true:=by simpa using hq
 simp only[Prod.mk.injEq,and_true]at h;exact⟨_,Prod.ext rfl hq',h.symm⟩
theorem ZlF {m:List Eg} {a b:Tg} {o:Opn} (h:(Zfh m a b o).2=Hf):Zfh m a b o=(Jd,Hf):=by
 unfold Zfh at h ⊢;split;rfl;rename_i h1;rw[if_neg h1]at h;split;rfl;rename_i h2;rw[if_neg h2]at h;simp at h
theorem Zhw {m:List Eg} {o:Opn} {b:Tg} (h:(toT m o b).c≠0\/(toT m o b).ok=Hf):(toT m o b).o=Jd/\(toT m o b).ok=false:=by
 unfold toT at h ⊢;split;exact⟨rfl,rfl⟩;rename_i h1;rw[if_neg h1]at h;have:(Zfh m o.sch b o).2=false:=by simpa using h
 exact⟨by rw[ZlF this],this⟩
open Go.PL
open Go.PL
structure AoS (rws:List Ln) (o0:Opn) where
 k:Nat
 o:Opn
 hk:k<=rws.length
 ok:OkOp o
 h:XO (rws.drop k) o=XO rws o0
def D3:List PV:= [.int .i64 0,.int .i64 0,.int .i64 0,.int .i64 0,.int .i64 0,.str [],.int .i64 0,.str [],.int .i64 0,.str [],.str [],.int .i64 0,.bool Hf,.str [],.sl .nil []]
theorem Zfw (rws:List Ln) (o:Opn) (hl:rws.length<=1000) (hx:∀x∈rws,OkLn x) (ho:OkOp o):Pp 205 [SZ rws,opv o] (opb (XO rws o)):=by
 have hW:=XX o ho;refine ZB func205 rfl ntmps205 results205 (Zo _) ?_;simp only[go_sem,SZ,opv];refine ZgI (ι:=AoS rws o) 31 (λx=> [(0,SZ rws),(3,.ptr 3 0),(4,.ptr 4 0),(6,.int .i64 (x.k:Int))]) (λx=> [(3,Xc x.o,Hf),(4,D3,Hf)]) (λx=> []) (λx=>rws.length-x.k) 0 _ (by exact rfl) (λx=>⟨(Fc4 rfl rfl rfl rfl),Fc2 rfl rfl⟩) (λx=> ?_) (λcut=> ?_);obtain⟨k,p,hk,ok,h⟩:=x;simp only;by_cases he:k=rws.length;have hb:((k:Int)==(rws.length:Int))=true:=by simp[he]
 have hd:XO rws o=(p,Ht):=by rw[<-h,he,List.drop_length];rfl
 simp only[go_sem,SZ,hb,hd,opb,opv,Xc,D3];have hb:((k:Int)==(rws.length:Int))=false:=by simp;omega
 have hka:k<rws.length:=by omega
 have i0:=Jb k
 have i1:(k:Int)<(rws.length:Int):=by omega
 have w1:=wk9 (k:=k) (by omega)
 have hT:=Zjk (rws.getD k Jd) p (hx _ (Zf (d:=Jd) hka)) ok;have okn:=Zna (x:=rws.getD k Jd) ok;rw[ZjX hka,SO]at h;cases hz:(Ut (rws.getD k Jd) p).2
 ·rw[if_pos hz]at h;simp only[go_sem,SZ,hb];refine vDq ?_;simp only[go_sem,ZcI hka,lns,i0,i1,Xc,opv];refine vc6 hT ?_;simp only[go_sem,opb,opv,hz,<-h,D3];try rfl
 rw[if_neg (by rw[hz];simp)]at h;simp only[go_sem,SZ,hb];refine vDq ?_;simp only[go_sem,ZcI hka,lns,i0,i1,Xc,opv];refine vc6 hT ?_;simp only[go_sem,opb,opv,hz,w1,D3];exact⟨⟨k+1,(Ut (rws.getD k Jd) p).1,by omega,okn,h⟩,nx9 (by omega),⟨rfl,(Fc4 rfl rfl rfl rfl),Fc2 ⟨rfl,rfl⟩ ⟨rfl,rfl⟩,fnl⟩⟩;simp only[go_sem];refine vc6 hW ?_;simp only[go_sem,opv];exact Xe (cut ⟨0,o,Jh _,ho,rfl⟩ _ ⟨rfl,(Fc4 rfl rfl rfl rfl),Fc2 ⟨rfl,rfl⟩ ⟨rfl,rfl⟩,fnl⟩)
theorem OkOp.len {o:Opn} (h:OkOp o):o.drops.length<=maxLen:=by have:=h.d;rw[Zc];omega
theorem Zgr (m:List Eg) (o:Opn) (a b:Tg) (hm:OkM m) (hr:RightM m) (ho:OkOp o):Pp 160 [tr (Zd m),opv o,tg a,tg b] (opb (Zfh m a b o)):=by
 have hR:=Zl1 m a b hm hr;obtain⟨hrl,hro⟩:=Zoj (a:=a) (b:=b) hm;have hA:=Zfw (Zb6 m a b).1 o hrl hro ho;have hc2:(Zb6 m a b).2=Wu m a b:=by unfold Zb6;split<;>simp_all
 unfold Zfh;by_cases hc:Wu m a b=0;rw[if_neg (λh=>h hc)];rw[hc]at hc2;generalize Zb6 m a b=rw0 at *;obtain⟨rws,c0⟩:=rw0;simp only at hc2 hrl hro hA ⊢;subst hc2;cases hz:(XO rws o).2
 ·simp only[if_true];refine ZB func160 rfl ntmps160 results160 (Zo _) ?_;simp only[go_sem,tr,tg,opv];refine vc5 hR ?_;simp only[go_sem,Zhb,SZ];refine Zl hA ?_ ?_ ?_;iterate 2 simp only[go_sem,SZ,opv]
  simp only[go_sem,opb,opv,hz];try rfl
 ·simp only[JK,if_false];refine ZB func160 rfl ntmps160 results160 (Zo _) ?_;simp only[go_sem,tr,tg,opv];refine vc5 hR ?_;simp only[go_sem,Zhb,SZ];refine Zl hA ?_ ?_ ?_;iterate 2 simp only[go_sem,SZ,opv]
  simp only[go_sem,opb,opv,hz,Zsp]
 have hc':(Wu m a b !=0)=true:=by simpa using hc
 rw[if_pos hc];refine ZB func160 rfl ntmps160 results160 (Zo _) ?_;simp only[go_sem,tr,tg,opv];refine vc5 hR ?_;simp only[go_sem,Zhb,SZ,hc2,hc',opb,Za];try rfl
def TY (x:SeenT):PV:= .tup [opv x.o,.bool x.ok,.int .i64 x.c]
theorem WT (x:SeenT):(TY x).dids= []:=by simp only[TY,PV.dids,PV.didsL,Sk,Jg]
theorem SE {m:List Eg} {a:Tg} (hm:OkM m) (hu:upC m a=0):OkFs (Yk (Zd m) a).1:=by
 obtain⟨wa,fa,_⟩:=YU hu;exact ZkG _ (λe he=>hm.l e (wa.mem e he)) Zey fa
theorem Zjs (m:List Eg) (o:Opn) (b:Tg) (hm:OkM m) (hr:RightM m) (ho:OkOp o):Pp 120 [tr (Zd m),opv o,tg b] (TY (toT m o b)):=by
 have hR:=UT o ho.len;have hSa:=WH m o.sch hm;have hSb:=WH m b hm;have hA:=Zgr m o o.sch b hm hr ho;cases h1:Yd o
 ·rw[h1]at hR;have ht:toT m o b=⟨Jd,Hf,5⟩:=by simp[toT,Xi,h1]
  rw[ht];refine ZB func120 rfl ntmps120 results120 (WT _) ?_;simp only[go_sem,tr,tg,opv];refine vc6 hR ?_;simp only[go_sem,TY,Za];try rfl
 rw[h1]at hR;by_cases h2:upC m o.sch=0;have okA:=SE hm h2;have hF:=G2 (Yk (Zd m) o.sch).1 o okA ho.len;have v2:(Yk (Zd m) o.sch).2=0:=h2;by_cases h3:upC m b=0;have v3:(Yk (Zd m) b).2=0:=h3;cases h4:Sv (Yk (Zd m) o.sch).1 o
 ·rw[h4]at hF;have ht:toT m o b=⟨Jd,Hf,16⟩:=by simp[toT,Xi,h1,h2,h3,h4]
  rw[ht];clear ht h4 h2 h3 okA hA;generalize Yk (Zd m) o.sch=ya at *;obtain⟨A,ca⟩:=ya;generalize Yk (Zd m) b=yb at *;obtain⟨B,cb⟩:=yb;simp only at v2 v3 hF;subst v2 v3;refine ZB func120 rfl ntmps120 results120 (WT _) ?_;simp only[go_sem,tr,tg,opv];refine vc6 hR ?_;simp only[go_sem];refine vc5 hSa ?_;simp only[go_sem,ZC,Zh];refine vc5 hSb ?_;simp only[go_sem,ZC,Zh];refine vc6 hF ?_;simp only[go_sem,TY,Za];try rfl
 rw[h4]at hF;have ht:toT m o b=⟨(Zfh m o.sch b o).1,(Zfh m o.sch b o).2,0⟩:=by simp[toT,Xi,h1,h2,h3,h4]
 rw[ht];clear ht h4 h2 h3 okA;generalize Zfh m o.sch b o=yw at *;obtain⟨wq,wk⟩:=yw;generalize Yk (Zd m) o.sch=ya at *;obtain⟨A,ca⟩:=ya;generalize Yk (Zd m) b=yb at *;obtain⟨B,cb⟩:=yb;simp only at v2 v3 hF;subst v2 v3;refine ZB func120 rfl ntmps120 results120 (WT _) ?_;simp only[go_sem,tr,tg,opv];refine vc6 hR ?_;simp only[go_sem];refine vc5 hSa ?_;simp only[go_sem,ZC,Zh];refine vc5 hSb ?_;simp only[go_sem,ZC,Zh];refine vc6 hF ?_;simp only[go_sem];refine vcn hA ?_;simp only[go_sem,opb,opv,TY]
 ·have v3:((Yk (Zd m) b).2 !=0)=true:=by have h':(Yk (Zd m) b).2≠0:=h3;simpa using h'
  have ht:toT m o b=⟨Jd,Hf,(Yk (Zd m) b).2⟩:=by
   have e:upC m b=(Yk (Zd m) b).2:=rfl;rw[<-e];simp[toT,Xi,h1,h2,h3]
  rw[ht];clear ht h2 h3 okA hA;generalize Yk (Zd m) o.sch=ya at *;obtain⟨A,ca⟩:=ya;generalize Yk (Zd m) b=yb at *;obtain⟨B,cb⟩:=yb;simp only at v2 v3 hF;subst v2;refine ZB func120 rfl ntmps120 results120 (WT _) ?_;simp only[go_sem,tr,tg,opv];refine vc6 hR ?_;simp only[go_sem];refine vc5 hSa ?_;simp only[go_sem,ZC,Zh];refine vc5 hSb ?_;simp only[go_sem,ZC,Zh,v3,TY,Za];try rfl
 have v2:((Yk (Zd m) o.sch).2 !=0)=true:=by have h':(Yk (Zd m) o.sch).2≠0:=h2;simpa using h'
 have ht:toT m o b=⟨Jd,Hf,(Yk (Zd m) o.sch).2⟩:=by
  have e:upC m o.sch=(Yk (Zd m) o.sch).2:=rfl;rw[<-e];simp[toT,Xi,h1,h2]
 rw[ht];clear ht h2 hA;generalize Yk (Zd m) o.sch=ya at *;obtain⟨A,ca⟩:=ya;simp only at v2;refine ZB func120 rfl ntmps120 results120 (WT _) ?_;simp only[go_sem,tr,tg,opv];refine vc6 hR ?_;simp only[go_sem];refine vc5 hSa ?_;simp only[go_sem,ZC,Zh,v2,TY,Za];try rfl
theorem Zfy (m:List Eg) (o:Opn) (hm:OkM m) (ho:OkOp o):Pp 118 [tr (Zd m),opv o] (.bool (Sx m o)):=by
 have hR:=UT o ho.len;have hSa:=WH m o.sch hm;unfold Sx;cases h1:Yd o;rw[h1]at hR;refine ZM func118 rfl ntmps118 results118 ?_;simp only[go_sem,tr,opv];refine vc6 hR ?_;simp only[go_sem,Jo];rw[h1]at hR;by_cases h2:upC m o.sch=0;have hF:=G2 (Yk (Zd m) o.sch).1 o (SE hm h2) ho.len;rw[decide_eq_true h2];have v2:(Yk (Zd m) o.sch).2=0:=h2;generalize Yk (Zd m) o.sch=ya at *;obtain⟨A,ca⟩:=ya;simp only at v2 hF;subst v2;refine ZM func118 rfl ntmps118 results118 ?_;simp only[go_sem,tr,opv];refine vc6 hR ?_;simp only[go_sem,tg];refine vc5 hSa ?_;simp only[go_sem,ZC,Zh];refine vc6 hF ?_;simp only[go_sem,Jn];have v2:((Yk (Zd m) o.sch).2==0)=false:=by have h':(Yk (Zd m) o.sch).2≠0:=h2;simpa using h'
 rw[decide_eq_false h2];refine ZM func118 rfl ntmps118 results118 ?_;simp only[go_sem,tr,opv];refine vc6 hR ?_;simp only[go_sem,tg];refine vc5 hSa ?_;simp only[go_sem,ZC,Zh,v2,Jo,Bool.and_false]
open Go.PL Go.PL.Srt
def XV (m:List Eg) (l:List Opn):List Opn:=l.filter λo=>Sx m o
def XJ (l:List Opn) (t:Tg):Bool:=l.any λo=>decide (t∈o.drops)
def Tn (m:List Eg) (l:List Opn):List Opn:=(XV m l).filter λo=> !XJ (XV m l) o.id
def VY (m:List Eg) (l:List Opn):List Opn:=srt Yu (Tn m l)
theorem Zap (m:List Eg) (l:List Opn):(XV m l).Sublist l:=JH
theorem Vz (m:List Eg) (l:List Opn):(Tn m l).Sublist l:=JH.trans (Zap m l)
theorem Zgv {l:List Opn} (h:(l.map Opn.id).Nodup):Unl Yu l:=by
 rw[List.nodup_iff_pairwise_ne,J5]at h;exact h.imp λh=>ZkK h
theorem Zaa (m:List Eg) (l:List Opn):(VY m l).Perm (Tn m l):=Y4 _
theorem W0 (m:List Eg) (l:List Opn):(VY m l).length<=l.length:=by rw[(Zaa m l).length_eq];exact(Vz m l).length_le
theorem W4 {m:List Eg} {l:List Opn} {o:Opn} (h:o∈VY m l):o∈l:=(Vz m l).mem ((Zaa m l).mem_iff.1 h)
theorem Zea (t:Tg):∀(l:List Tg) (i:Nat),findP [.int,.int] [.int .i64 t.r,.int .i64 t.n] (l.map tg) i=some ((l.findIdx? λx=>decide (t=x)).map (· + i))
 | [],i=>rfl
 |n::l,i=>by
  have ih:=Zea t l (i+1);simp only[JE,tg,findP,ZH,To,if_true,List.findIdx?_cons,Bool.and_true,ZL];by_cases h:t=n;simp[h];simp only[h,decide_false,ih];simp only[JL,if_false,Option.map_map];congr 2;funext x;simp;omega
theorem Sd (t:Tg) (l:List Tg):findP [.int,.int] [.int .i64 t.r,.int .i64 t.n] (l.map tg) 0=some (l.findIdx? λx=>decide (t=x)):=by
 rw[Zea];congr 1;cases List.findIdx? (λx=>decide (t=x)) l<;>rfl
theorem ZcO {t:Tg} {l:List Tg}:(l.findIdx? λx=>decide (t=x))=none↔t∉l:=by
 rw[JM];constructor;intro h hm;have:=h t hm;simp at this;intro h x hx;simp only[decide_eq_false_iff_not];intro e;exact h (e▸hx)
theorem ZiL (m:List Eg) {l:List Opn} {k:Nat} (h:k<l.length):XV m (l.take (k+1))=XV m (l.take k)++(if Sx m (l.getD k Jd)=Ht then [l.getD k Jd]else []):=by
 unfold XV;rw[Yx (d:=Jd) h,Ju];congr 1;generalize l.getD k Jd=x;cases hr:Sx m x;rw[Je (by rw[hr];simp),if_neg (by simp)];rfl;rw[Jf (by exact hr),if_pos rfl];rfl
structure LivS (m:List Eg) (l:List Opn) where
 k:Nat
 ks:List Tg
 hk:k<=l.length
 h:∀t,t∈ks↔XJ (XV m (l.take k)) t=Ht
def tgm (ks:List Tg):MapC:=⟨ks.map tg,ks.map λ_=> .agg []⟩
theorem Zih (l:List Opn) (o:Opn) (t:Tg):XJ (l++ [o]) t=Ht↔XJ l t=Ht\/t∈o.drops:=by simp[XJ]
theorem ZiQ {i:Nat} {l:List Tg}:(l.map λ_=>Kj []).set i (Kj [])=l.map λ_=>Kj []:=by
 apply JR;simp;intro j h1 h2;rw[List.getElem_set];split<;>simp
theorem ZiA (m:List Eg) (l:List Opn) (hm:OkM m) (hl:l.length<=100000) (ho:∀o∈l,OkOp o) (hU:(l.map Opn.id).Nodup):
  Eff prog 64 [tr (Zd m),Zr l] noV (.vsl 63 (VY m l).length 15) (Zi9 63 (VY m l).length 15 48 ((VY m l).map opv)):=by
 have hcl:∀l:List Opn,∀p∈l.map opv,p.ids= []:=λl=>XE WP l
 refine Eff.vn [63] func64 (by decide) rfl ntmps64 results64 (by simp) (hcl _) (by simp[Jv,tr,Zr]) (by simp[Jv]) ?_;have hlm:l.length<=maxLen:=by rw[Zc];omega
 simp only[go_sem,tr,Zr];intro b;refine T8 5 32 15 48 rfl rfl ?_;refine Wx (ι:=LivS m l) 68 (λx=> [(0,tr (Zd m)),(5,.sl (.row 32) ((XV m (l.take x.k)).map opv)),(6,.mref b),(19,Zr l),(20,.int .i64 (l.length:Int)),(21,.int .i64 (x.k:Int))]) (λ_=> []) (λx=> [(32,.live (XV m (l.take x.k)).length 15 48)]) (λx=> [(b,tgm x.ks)]) (λ_=> []) (λ_=> []) (λ_=> []) [] [] [63] (λx=>l.length-x.k) ⟨0,[],Jh _,λt=>by simp[XJ,XV]⟩
  (ZbN rfl (Fc6 rfl rfl rfl rfl rfl rfl) rfl (by simp[upd,Hp.setq,St.with,tgm])) (λx=>ZhH (Fc6 rfl rfl rfl rfl rfl rfl)) (λx=> ?_)
 obtain⟨k,ks,hk,h⟩:=x;simp only;by_cases hlt:(k:Int)<(l.length:Int);have hka:k<l.length:=by omega
 have i0:=Jb k
 have w1:=wk9 (k:=k) (by omega)
 have hR:=Zfy m (l.getD k Jd) hm (ho _ (ZF hka));have hsn:=ZiL m hka;have hrl:(XV m (l.take k)).length<=100000:=JJ (JJ (Zap _ _).length_le (Jt _ _)) (by omega);cases hrd:Sx m (l.getD k Jd);rw[hrd]at hR;rw[hrd]at hsn;simp only[JL,if_false,Jg]at hsn;simp only[go_sem,Zr,hlt,ZZ hka,opv,i0];refine vc7 hR ?_;simp only[go_sem,w1];exact⟨⟨k+1,ks,by omega,λt=>by rw[hsn];exact h t⟩,nx9 (by omega),ZbN rfl (by simp only;rw[hsn];exact(Fc6 rfl rfl rfl rfl rfl rfl)) (by simp only;rw[hsn];rfl) (by simp[upd,Hp.setq,St.with,mkStX,YK])⟩;rw[hrd]at hR;rw[hrd]at hsn;simp only[if_true]at hsn;have hrm:=YX (show(XV m (l.take k)).length+1<=1000000 by omega) (show 176<=1000 by omega);have hdl:=(ho (l.getD k Jd) (ZF hka)).d;generalize hx:l.getD k Jd=x at *;have hsz:=Xr (XV m (l.take k));have hsx:Sized 15 [opv x]:=Xr [x];have hax:Vo [opv x]:=Vq [x];have hml:((XV m (l.take k)).map opv).length=(XV m (l.take k)).length:=Jr _;simp only[opv]at hsx hax;simp only[go_sem,Zr,hlt,ZZ hka,hx,opv,i0];refine vc7 hR ?_;simp only[go_sem,hml,hrm,hsz,hsx,hax];refine Wx (ι:= { jk:Nat×List Tg // jk.1<=x.drops.length/\ ∀t,t∈jk.2↔(XJ (XV m (l.take k)) t=Ht\/t∈x.drops.take jk.1) }) 68 (λy=> [(0,tr (Zd m)),(5,.sl (.row 32) ((XV m (l.take k)++ [x]).map opv)),(6,.mref b),(19,Zr l),(20,.int .i64 (l.length:Int)),(21,.int .i64 (k:Int)),(34,tgs x.drops),(35,.int .i64 (x.drops.length:Int)),(36,.int .i64 (y.1.1:Int))]) (λ_=> []) (λy=> [(32,.live ((XV m (l.take k)).length+1) 15 48)]) (λy=> [(b,tgm y.1.2)]) (λ_=> []) (λ_=> []) (λ_=> []) [] [] [63] (λy=>x.drops.length-y.1.1) ⟨(0,ks),Jh _,λt=>by rw[h t];simp⟩
  (ZbN rfl (by rw[Jy];exact(Fc9 rfl rfl rfl rfl rfl rfl rfl rfl rfl)) rfl (by simp[upd,Hp.setq,St.with,mkStX,YK])) (λy=>ZhH (Fc9 rfl rfl rfl rfl rfl rfl rfl rfl rfl)) (λy=> ?_)
 obtain⟨⟨j,ks'⟩,hj,h'⟩:=y;simp only at hj h' ⊢;by_cases hjt:(j:Int)<(x.drops.length:Int);have hja:j<x.drops.length:=by omega
 have j0:=Jb j
 have w2:=wk9 (k:=j) (by omega)
 have hmem:∀t,t∈x.drops.take (j+1)↔t∈x.drops.take j\/t=x.drops.getD j Jd:=λt=>by rw[Yx (d:=Jd) hja];simp
 generalize ht:x.drops.getD j Jd=t at *;cases hf:ks'.findIdx? (λy=>decide (t=y))with
 |none=>
  simp only[go_sem,tgs,hjt,ZO hja,ht,tg,j0,tgm,Sd,hf,w2];refine⟨⟨(j+1,ks'++ [t]),hja,λu=> ?_⟩,nx9 (by omega),ZbN rfl (Fc9 rfl rfl rfl rfl rfl rfl rfl rfl rfl) rfl (by simp[upd,Hp.setq,St.with,mkStX,YK,tgm,tg])⟩;rw[hmem,JF,h',Ji,or_assoc]
 |some i=>
  simp only[go_sem,tgs,hjt,ZO hja,ht,tg,j0,tgm,Sd,hf,w2];have hin:t∈ks':=J6.1 λhn=>by rw[ZcO.2 hn]at hf;cases hf
  refine⟨⟨(j+1,ks'),hja,λu=> ?_⟩,nx9 (by omega),ZbN rfl (Fc9 rfl rfl rfl rfl rfl rfl rfl rfl rfl) rfl (by simp[upd,Hp.setq,St.with,mkStX,YK,tgm,ZiQ])⟩;rw[hmem,<-or_assoc,<-h'];constructor
  ·exact .inl
  ·rintro (e|e)
   ·exact e
   ·rw[e];exact hin
 obtain rfl:j=x.drops.length:=by omega
 rw[Jj]at h';simp only[go_sem,hjt,w1];refine⟨⟨k+1,ks',by omega,λt=>by rw[hsn,Zih];exact h' t⟩,nx9 (by omega),ZbN rfl (by simp only;rw[hsn];exact(Fc6 rfl rfl rfl rfl rfl rfl)) (by simp only;rw[hsn,Jc];rfl) (by simp[upd,Hp.setq,St.with,mkStX,YK])⟩;obtain rfl:k=l.length:=by omega
 rw[Jj]at h;simp only[go_sem,hlt,Jj];generalize hrd:XV m l=rd at *;have hrl:rd.length<=100000:=by rw[<-hrd];exact JJ (Zap _ _).length_le hl
 have hal:Tn m l=rd.filter λo=> !XJ rd o.id:=by unfold Tn;rw[hrd]
 refine Zib 11 63 15 48 rfl rfl ?_;refine Wx (ι:= { k:Nat // k<=rd.length }) 68 (λy=> [(6,.mref b),(11,.vsl 63 ((rd.take y.1).filter λo=> !XJ rd o.id).length 15),(45,.sl (.row 32) (rd.map opv)),(46,.int .i64 (rd.length:Int)),(47,.int .i64 (y.1:Int))]) (λ_=> []) (λy=> [(63,.vec ((rd.take y.1).filter λo=> !XJ rd o.id).length 15 48),(32,.live rd.length 15 48)]) (λy=> [(b,tgm ks)]) (λ_=> []) (λy=> [(63,((rd.take y.1).filter λo=> !XJ rd o.id).map opv)]) (λ_=> []) [] [] [63] (λy=>rd.length-y.1) ⟨0,Jh _⟩
  (ZcK rfl (Fc5 rfl rfl rfl rfl rfl) rfl rfl rfl (by simp[upd,Hp.setq,St.with,mkStX,YK,tgm])) (λy=>ZlL (by simp[Jv,JO,ZV]) (YM WP _)) (λy=> ?_)
 obtain⟨k,hk⟩:=y;simp only;by_cases hlt2:(k:Int)<(rd.length:Int);have hka:k<rd.length:=by omega
 have i0:=Jb k
 have w1:=wk9 (k:=k) (by omega)
 have hsn:(rd.take (k+1)).filter (λo=> !XJ rd o.id)=(rd.take k).filter (λo=> !XJ rd o.id)++(if XJ rd (rd.getD k Jd).id=Ht then []else [rd.getD k Jd]):=by
  rw[Yx (d:=Jd) hka,Ju];congr 1;generalize rd.getD k Jd=x;cases hr:XJ rd x.id;rw[Jf (by rw[hr];rfl),if_neg (by simp)];rfl;rw[Je (by rw[hr];simp),if_pos rfl];rfl
 have hfl:((rd.take k).filter λo=> !XJ rd o.id).length<=k:=JJ (Jp _ _) (Jt _ _);have hrm:=YX (show((rd.take k).filter λo=> !XJ rd o.id).length+1<=1000000 by omega) (show 176<=1000 by omega);generalize hx:rd.getD k Jd=x at *;generalize hal2:(rd.take k).filter (λo=> !XJ rd o.id)=al at *;have hml:(al.map opv).length=al.length:=Jr _;have hai:∀p∈al.map opv,p.ids= []:=hcl al;cases hf:ks.findIdx? (λy=>decide (x.id=y))with
 |none=>
  have hd:XJ rd x.id=false:=by
   rw[Jk];exact λhh=>ZcO.1 hf ((h _).2 hh)
  rw[hd,if_neg (by simp)]at hsn;simp only[go_sem,Zr,hlt2,ZZ hka,hx,opv,i0,tgm,tg,Sd,hf,w1,hml,hrm];refine⟨λp hp=>by rw[Ji.1 hp];exact⟨rfl,rfl⟩,λp hp=>by rw[Ji.1 hp];exact WP x,λp hp=> ?_,⟨k+1,by omega⟩,nx9 (by omega),ZcK rfl ?_ ?_ rfl ?_ ?_⟩
  ·rcases JF.1 hp with hp|hp
   ·rw[hai p hp];simp
   ·rw[Ji.1 hp];simp[Jv,JO]
  ·simp only;rw[hsn,Jc];exact(Fc5 rfl rfl rfl rfl rfl)
  ·simp only;rw[hsn,Jc];rfl
  ·simp only;rw[hsn,Jy];rfl
  ·simp[upd,Hp.setq,St.with,mkStX,YK,Zmi]
 |some i=>
  have hd:XJ rd x.id=true:=(h _).1 (J6.1 λhn=>by rw[ZcO.2 hn]at hf;cases hf);rw[hd,if_pos rfl,Jg]at hsn;have hik:i<ks.length:=(Jq.1 hf).1;have hgd:(ks.map λ_=>Kj []).getD i .any= .agg []:=by rw[getD_lt (by simpa using hik)];simp
  simp only[go_sem,Zr,hlt2,ZZ hka,hx,opv,i0,tgm,tg,Sd,hf,w1,hgd];refine⟨⟨k+1,by omega⟩,nx9 (by omega),ZcK rfl ?_ ?_ rfl ?_ ?_⟩
  ·simp only;rw[hsn];exact(Fc5 rfl rfl rfl rfl rfl)
  ·simp only;rw[hsn];rfl
  ·simp only;rw[hsn];rfl
  ·simp[upd,Hp.setq,St.with,mkStX,YK]
 have htk:rd.take k=rd:=Jm (by omega);have hSS:=ZaX ops_sort 48 (Tn m l).length (by have:=(Vz m l).length_le;omega) (Tn m l) (Zgv (JB.sublist ((Vz m l).map _) hU)) rfl _ rfl;rw[hal]at hSS;simp only[go_sem,Zr,hlt2,htk];refine Xg 63 hSS (by simp[Jv,JO]) (hcl _) (hcl _) rfl rfl rfl ?_;simp only[go_sem];have hlv:VY m l=srt Yu (rd.filter λo=> !XJ rd o.id):=by unfold VY;rw[hal]
 have hll:(VY m l).length=(rd.filter λo=> !XJ rd o.id).length:=by rw[hlv,ZI]
 rw[hll,hlv];exact ZoS (r0:= .vsl 63 _ 15) (hcl _) rfl (.keep _ (by intro i hi;simp[Jv]at hi;subst hi;exact⟨_,Ji.2 rfl,rfl⟩)) rfl rfl
open Go.PL Go.PL.Srt
theorem ZhI (m:List Eg) (l:List Opn) (hm:OkM m) (hl:l.length<=100000) (ho:∀o∈l,OkOp o) (hU:(l.map Opn.id).Nodup):Pp 37 [tr (Zd m),Zr l] (Zr (VY m l)):=by
 have hcl:∀l:List Opn,∀p∈l.map opv,p.ids= []:=λl=>XE WP l
 have hL:=ZiA m l hm hl ho hU;have hll:=W0 m l;have hlo:∀o∈VY m l,OkOp o:=λo h=>ho o (W4 h)
 generalize VY m l=A at *;refine PL.Pure.of_p [] func37 (by decide) rfl ntmps37 results37 (by simp) (TS _) ?_;simp only[go_sem,tr,Zr];refine ZnK 10 hL (hcl _) (by simp[Jv,tr,Zr]) rfl rfl ?_;simp only[go_sem,PV.ren,id];refine Wx (ι:= { k:Nat // k<=A.length }) 25 (λx=> [(5,.vsl 10 A.length 15),(11,.vsl 10 A.length 15),(12,.int .i64 (A.length:Int)),(13,.int .i64 (x.1:Int))]) (λ_=> []) (λ_=> [(10,.vec A.length 15 48)]) (λ_=> []) (λ_=> []) (λ_=> [(10,A.map opv)]) (λ_=> []) [] [] [] (λx=>A.length-x.1) ⟨0,Jh _⟩
  (Zj8 rfl (Fc4 rfl rfl rfl rfl) rfl rfl) (λx=>ZlK (by simp[Jv,JO,ZV]) (YM WP _)) (λx=> ?_)
 obtain⟨k,hk⟩:=x;simp only;by_cases h:(k:Int)<(A.length:Int);have hka:k<A.length:=by omega
 have i0:=Jb k
 have w1:=wk9 (k:=k) (by omega)
 have hO:=Ge (A.getD k Jd) (hlo _ (ZF hka));have hset:(A.map opv).set k (opv (A.getD k Jd))=A.map opv:=by
  rw[Sn];congr 1;rw[getD_lt hka];exact List.set_getElem_self hka
 simp only[opv]at hset;simp only[go_sem,h,i0,ZZ hka,opv];refine vc6 hO ?_;simp only[go_sem,h,i0,ZZ hka,opv,hset,w1];exact⟨⟨k+1,by omega⟩,nx9 (by omega),Zj8 rfl (Fc4 rfl rfl rfl rfl) rfl rfl⟩;simp only[go_sem,h];exact⟨_,rfl,Pub.vec0 (by simp) rfl (Jr _) (hcl _)⟩
open Go.PL Go.PL.Srt
structure Sp where
 item:Str
 at':Rf
 deriving DecidableEq,Inhabited
open Go.PL
open Go.PL
open Go.PL Go.PL.Srt
open Go.PL Go.PL.Srt
open Go.PL Go.PL.Srt
open Go.PL
open Go.PL
open Go.PL
def Zpf (it:Str) (a b:List En):List Cg:=((JC a.length).filter λi=> !decide (a.getD i Jd=b.getD i Jd)).map λi=>⟨1,it,a.getD i Jd,b.getD i Jd,[]⟩
open Go.PL
open Go.PL
def Zsi (r:Rw):Cg:=⟨3,r.item,Jd,Jd,r.l⟩
def ZqC (r:Rw):Cg:=⟨2,r.item,Jd,Jd,r.l⟩
def ZcA:List Rw->List Rw->List Cg
 | [],[]=> []
 |p::ps,[]=>Zsi p::ZcA ps []
 | [],q::qs=>ZqC q::ZcA [] qs
 |p::ps,q::qs=>if Yy p.item q.item=Ht then Zsi p::ZcA ps (q::qs)else if Yy q.item p.item=Ht then ZqC q::ZcA (p::ps) qs else Zpf q.item p.l q.l++ZcA ps qs
termination_by a b=>a.length+b.length
structure DiS (p q:List Rw) (h0:List Cg) where
 i:Nat
 j:Nat
 acc:List Cg
 row:Nat
 hi:i<=p.length
 hj:j<=q.length
 hl:acc.length<=h0.length+16*(i+j)
 h:acc++ZcA (p.drop i) (q.drop j)=h0++ZcA p q
open Go.PL
def Gc (v:List Int):PV:= .agg (v.map (.int .i64))
def GK (v:List Int):Bool:=v.all λn=>decide (0<=n)&&decide (n<=400)
def Za0 (v:List Int) (t:Tg):Bool:=W6 t&&decide (t.n<=v.getD (t.r-1).toNat 0)
theorem XZ {v:List Int} {i:Nat} (h:i<v.length):(v.map (JG .i64)).getD i .any= .int .i64 (v.getD i 0):=by
 simp[List.getD_eq_getElem?_getD,h]
theorem Sq {v:List Int} (h:v.length=6):JS 6 (v.map (JG .i64))=v.map (JG .i64):=Jm (by simp[h])
theorem DU {v:List Int} {i:Nat} (h:i<v.length) (hn:¬(0<=v.getD i 0/\v.getD i 0<=400)):GK v=false:=by
 rw[Jk];intro hr;simp only[GK,JT,Ja,decide_eq_true_eq]at hr;apply hn;rw[getD_lt h];exact hr _ (JU h)
theorem Zav {v:List Int} (h:∀j,j<v.length->0<=v.getD j 0/\v.getD j 0<=400):GK v=true:=by
 simp only[GK,JT,Ja,decide_eq_true_eq];intro x hx;obtain⟨i,hi,rfl⟩:=Jl hx;have:=h i hi;rwa[getD_lt hi]at this
theorem Zk0 {v:List Int} (h:GK v=Ht) {j:Nat} (hj:j<v.length):0<=v.getD j 0/\v.getD j 0<=400:=by
 simp only[GK,JT,Ja,decide_eq_true_eq]at h;rw[getD_lt hj];exact h _ (JU hj)
theorem ZaG {t:Tg} (h:W6 t=Ht):IntKind.i64.wrap (t.r-1)=t.r-1/\0<=t.r-1/\t.r-1<6/\(t.r-1).toNat<6/\(t.r-1).toNat<=5:=by
 simp only[W6,Ja,decide_eq_true_eq]at h;exact⟨w64 (by omega),by omega,by omega,by omega,by omega⟩
structure Mo where
 id:Tg
 l:List Cg
deriving DecidableEq,Inhabited
def mo (x:Mo):PV:= .agg [.int .i64 x.id.r,.int .i64 x.id.n,.sl .no (x.l.map chg)]
def mos (l:List Mo):PV:= .sl .no (l.map mo)
theorem vc9 {x:Bool} {M:KH} {g:FuncId} {args args':List PV} {K:KR} {r:PV} (h1:Pp g args' r) (h2:K.k r M.m) (h0:JP M.m args:=by first|(simp only[go_sem,ref,ent,DK,doc,Y3,row,Zh,fld,lns,tg,refs,prs,pr,eg,egs,tgs,lg,lgs,Zk,opv,tr,Zr,chg,Zsl,mo,mos,Gc];done)|exact rfl) (he:J7 M.m args=args':=by first|(simp only[go_sem,ref,ent,DK,doc,Y3,row,Zh,fld,lns,tg,refs,prs,pr,eg,egs,tgs,lg,lgs,Zk,opv,tr,Zr,chg,Zsl,mo,mos,Gc];done)|exact rfl):@WX prog x M (some (g,args)) K:=Zl h1 h0 he h2
open Go.PL
def TK (m:List Opn) (t:Tg):Option Opn:=m.find? λo=>decide (o.id=t)
def WQ (m:List Opn) (o:Opn):List Opn×Int:=
 if Yd o=Hf then(m,5)else
 if TK m o.id=some o then(m,7)else
 if(TK m o.id).isSome=Ht then(m,15)else
 if 1<o.id.n/\(TK m ⟨o.id.r,o.id.n-1⟩).isSome=Hf then(m,17)else
 if 399<m.length then(m,9)else(m++ [o],0)
def Yn (m:List Opn) (i:Nat):List Opn:=m.filter λo=>decide (o.id.r=(i:Int)+1)
def Y2 (m:List Opn):List Int:=(JC 6).map λi=>((Yn m i).length:Int)
structure PoolOk (m:List Opn):Prop where
 l:m.length<=400
 t:∀o∈m,W6 o.id=Ht
 r:∀o∈m,Yd o=Ht
 n:∀i,i<6-> ∀j,j<(Yn m i).length->((Yn m i).getD j Jd).id=⟨(i:Int)+1,(j:Int)+1⟩
theorem ZiH:PoolOk []:=⟨by simp,by simp,by simp,λi _ j hj=>by simp[Yn]at hj⟩
theorem Zaw (m:List Opn) (o:Opn) (i:Nat):Yn (m++ [o]) i=Yn m i++(if o.id.r=(i:Int)+1 then [o]else []):=by
 unfold Yn;rw[Ju];congr 1;by_cases h:o.id.r=(i:Int)+1;rw[if_pos h,Jf (by simpa using h)];rfl;rw[if_neg h,Je (by simpa using h)];rfl
theorem XG (m:List Opn) (i:Nat):(Yn m i).length<=m.length:=Jp _ _
theorem Z0 (m:List Opn) {i:Nat} (h:i<6):(Y2 m).getD i 0=((Yn m i).length:Int):=by
 unfold Y2;rw[getD_lt (by simpa using h)];simp
theorem U8 {m:List Opn} {o:Opn} {i:Nat}:o∈Yn m i↔o∈m/\o.id.r=(i:Int)+1:=by simp[Yn]
theorem PoolOk.at' {m:List Opn} (h:PoolOk m) {o:Opn} (ho:o∈m):∃i j:Nat,i<6/\j<(Yn m i).length/\o.id=⟨(i:Int)+1,(j:Int)+1⟩/\(Yn m i).getD j Jd=o:=by
 have ht:=h.t o ho;simp only[W6,Ja,decide_eq_true_eq]at ht;obtain⟨j,hj,hjo⟩:=Jl (U8.2 ⟨ho,show o.id.r=(((o.id.r-1).toNat:Nat):Int)+1 by omega⟩);have hn:=h.n (o.id.r-1).toNat (by omega) j hj;rw[getD_lt hj,hjo]at hn;exact⟨_,j,by omega,hj,hn,by rw[getD_lt hj,hjo]⟩
theorem PoolOk.uni {m:List Opn} (h:PoolOk m) {o p:Opn} (ho:o∈m) (hp:p∈m) (e:o.id=p.id):o=p:=by
 obtain⟨i,j,_,_,h1,h2⟩:=h.at' ho;obtain⟨i',j',_,_,h3,h4⟩:=h.at' hp;rw[h1,h3]at e;injection e with e1 e2
 obtain rfl:i=i':=by omega
 obtain rfl:j=j':=by omega
 rw[<-h2,<-h4]
theorem Gx {m:List Opn} {t:Tg} {o:Opn} (h:TK m t=some o):o∈m/\o.id=t:=⟨List.mem_of_find?_eq_some h,by simpa using List.find?_some h⟩
theorem PoolOk.get {m:List Opn} (h:PoolOk m) {o:Opn} (ho:o∈m):TK m o.id=some o:=by
 cases hg:TK m o.id with
 |none=>exact absurd (decide_eq_true rfl) (List.find?_eq_none.1 hg o ho)
 |some p=>obtain⟨h1,h2⟩:=Gx hg;rw[h.uni h1 ho h2]
theorem PoolOk.has {m:List Opn} (h:PoolOk m) (t:Tg):Za0 (Y2 m) t=(TK m t).isSome:=by
 rw[Jw];constructor;intro hv;simp only[Za0,Ja,decide_eq_true_eq]at hv;obtain⟨h1,h2⟩:=hv;have h3:=ZaG h1;simp only[W6,Ja,decide_eq_true_eq]at h1;rw[Z0 m (by omega)]at h2;have hj:(t.n-1).toNat<(Yn m (t.r-1).toNat).length:=by omega
 have hn:=h.n (t.r-1).toNat (by omega) _ hj;have hm:=(U8.1 (ZF (d:=Jd) hj)).1;have he:((Yn m (t.r-1).toNat).getD (t.n-1).toNat Jd).id=t:=by
  rw[hn];cases t;simp only at h1 ⊢;congr 1<;>omega
 have:=h.get hm;rw[he]at this;rw[this];rfl;intro hs;obtain⟨o,ho⟩:=JQ.1 hs;obtain⟨hm,rfl⟩:=Gx ho;obtain⟨i,j,hi,hj,he,_⟩:=h.at' hm;simp only[Za0,Ja,decide_eq_true_eq];refine⟨h.t o hm,?_⟩;rw[he];have:((i:Int)+1-1).toNat=i:=by omega
 simp only[this];rw[Z0 m hi];omega
theorem PoolOk.found {m:List Opn} (h:PoolOk m) {t:Tg} (hv:Za0 (Y2 m) t=Ht):TK m t=some ((Yn m (t.r-1).toNat).getD (t.n-1).toNat Jd):=by
 rw[h.has]at hv;obtain⟨o,ho⟩:=JQ.1 hv;obtain⟨hm,rfl⟩:=Gx ho;obtain⟨i,j,hi,hj,he,e⟩:=h.at' hm;rw[ho,he];have e1:((i:Int)+1-1).toNat=i:=by omega
 have e2:((j:Int)+1-1).toNat=j:=by omega
 simp only[e1,e2,e]
open Go.PL
theorem GM {o:Opn} (h:Yd o=Ht):W6 o.id=true:=by
 cases ht:W6 o.id;simp[Yd,ht]at h;rfl
theorem Zc6 {m:List Opn} (h:PoolOk m) (o:Opn):WQ m o=
  if Yd o=Hf then(m,5)else
  if Za0 (Y2 m) o.id=Ht then(if(Yn m (o.id.r-1).toNat).getD (o.id.n-1).toNat Jd=o then(m,7)else(m,15))else
  if o.id.n≠((Yn m (o.id.r-1).toNat).length:Int)+1 then(m,17)else
  if 400<=m.length then(m,9)else(m++ [o],0):=by
 unfold WQ;cases hr:Yd o;simp only[if_true];simp only[JK,if_false];have ht:=GM hr;have ht':=ht;simp only[W6,Ja,decide_eq_true_eq]at ht;cases hv:Za0 (Y2 m) o.id;have hn:(TK m o.id).isSome=false:=by rw[<-h.has,hv]
 have hn':TK m o.id=none:=Option.not_isSome_iff_eq_none.1 (by rw[hn];simp);rw[hn'];simp only[reduceCtorEq,if_false,Option.isSome_none,JL];have hlen:((Yn m (o.id.r-1).toNat).length:Int)<o.id.n:=by
  rw[Jk]at hv;simp only[Za0,ht',Jn,ne_eq,decide_eq_true_eq,Z0 m (show(o.id.r-1).toNat<6 by omega)]at hv;omega
 have hl4:(399<m.length)=(400<=m.length):=by rw[Nat.lt_iff_add_one_le]
 simp only[hl4];have hg:(TK m ⟨o.id.r,o.id.n-1⟩).isSome=(W6 ⟨o.id.r,o.id.n-1⟩&&decide (o.id.n-1<=((Yn m (o.id.r-1).toNat).length:Int))):=by
  rw[<-h.has];simp only[Za0,Z0 m (show(o.id.r-1).toNat<6 by omega)]
 have hc:(1<o.id.n/\(TK m ⟨o.id.r,o.id.n-1⟩).isSome=Hf)↔o.id.n≠((Yn m (o.id.r-1).toNat).length:Int)+1:=by
  rw[hg];constructor;rintro ⟨h1,h2⟩ e;rw[Jk]at h2;apply h2;simp only[W6,Ja,decide_eq_true_eq];omega;intro e;refine⟨by omega,?_⟩;rw[Jk];intro h2;simp only[W6,Ja,decide_eq_true_eq]at h2;omega
 by_cases hq:o.id.n≠((Yn m (o.id.r-1).toNat).length:Int)+1;rw[if_pos (hc.2 hq),if_pos hq];rw[if_neg (λx=>hq (hc.1 x)),if_neg hq];have hf:=h.found hv;rw[hf];simp only[if_true,Option.isSome_some,Option.some.injEq]
theorem PoolOk.put {m:List Opn} (h:PoolOk m) (o:Opn):PoolOk (WQ m o).1:=by
 rw[Zc6 h];split;exact h;rename_i hr;have hr:Yd o=true:=by simpa using hr
 have ht:=GM hr;have ht':=ht;simp only[W6,Ja,decide_eq_true_eq]at ht;split;split<;>exact h
 split;exact h;rename_i hn;split;exact h;rename_i hl;refine⟨by rw[Jc];simp;omega,λx hx=> ?_,λx hx=> ?_,λi hi j hj=> ?_⟩;rcases JF.1 hx with hx|hx;exact h.t x hx;rw[Ji.1 hx];exact ht';rcases JF.1 hx with hx|hx;exact h.r x hx;rw[Ji.1 hx];exact hr;rw[Zaw]at hj ⊢;by_cases e:o.id.r=(i:Int)+1;rw[if_pos e]at hj ⊢;have ei:(o.id.r-1).toNat=i:=by omega
 rw[ei]at hn;by_cases hj2:j<(Yn m i).length;rw[getD_lt hj,List.getElem_append_left hj2];have:=h.n i hi j hj2;rwa[getD_lt hj2]at this;rw[Jc]at hj;simp only[JD,Kb]at hj;obtain rfl:j=(Yn m i).length:=by omega
 rw[getD_lt (by simp),List.getElem_append_right (Ki _)];simp only[Nat.sub_self,List.getElem_cons_zero];have hn2:o.id.n=((Yn m i).length:Int)+1:=by omega
 rw[<-e,<-hn2];rw[if_neg e]at hj ⊢;rw[Jg]at hj ⊢;exact h.n i hi j hj
open Go.PL
def Yh (m:List Opn):List Opn:=(JC 6).flatMap (Yn m)
theorem YV {m:List Opn} (h:PoolOk m) {o:Opn}:o∈Yh m↔o∈m:=by
 constructor;intro ho;obtain⟨i,_,hi⟩:=Ka.1 ho;exact(U8.1 hi).1;intro ho;obtain⟨i,j,hi,hj,_,e⟩:=h.at' ho;exact Ka.2 ⟨i,JZ.2 hi,by rw[<-e];exact ZF hj⟩
theorem ZeY (k:Nat):∀(m:List Opn),(∀o∈m,1<=o.id.r)->((JC k).flatMap (Yn m)).length=(m.filter λo=>decide (o.id.r<=(k:Int))).length:=by
 induction k with
 |zero=>
  intro m h;rw[List.filter_eq_nil_iff.2 (λo ho=>by have:=h o ho;simp only[decide_eq_true_eq];omega)];rfl
 |succ k ih=>
  intro m h;rw[Kc,J4,Jc,ih m h];simp only[List.flatMap_cons,List.flatMap_nil,Jg];induction m with
  |nil=>rfl
  |cons o m im=>
   have h0:=h o (by simp);have h1:=im (λx hx=>h x (by simp[hx]));unfold Yn at h1 ⊢;by_cases a:o.id.r<=(k:Int);rw[Jf (by simpa using a),Je (by simp only[decide_eq_true_eq];omega),Jf (by simp only[decide_eq_true_eq];omega)];simp only[JD];omega;by_cases b:o.id.r=(k:Int)+1;rw[Je (by simpa using a),Jf (by simpa using b),Jf (by simp only[decide_eq_true_eq];omega)];simp only[JD];omega;rw[Je (by simpa using a),Je (by simpa using b),Je (by simp only[decide_eq_true_eq];omega)];exact h1
theorem Vu {m:List Opn} (h:PoolOk m):(Yh m).length=m.length:=by
 have ht:∀o∈m,1<=o.id.r/\o.id.r<=6:=λo ho=>by
  have:=h.t o ho;simp only[W6,Ja,decide_eq_true_eq]at this;omega
 unfold Yh;rw[ZeY 6 m λo ho=>(ht o ho).1,List.filter_eq_self.2 λo ho=>by have:=ht o ho;simp only[decide_eq_true_eq];omega]
theorem PoolOk.nodup {m:List Opn} (h:PoolOk m):((Yh m).map Opn.id).Nodup:=by
 have hrow:∀i,i<6->((Yn m i).map Opn.id).Nodup:=λi hi=>by
  rw[JB,JN];intro a b ha hb hab;rw[Jr]at ha hb;have h1:=h.n i hi a ha;have h2:=h.n i hi b hb;rw[getD_lt ha]at h1;rw[getD_lt hb]at h2;rw[JV,JV,h1,h2];simp only[ne_eq,Tg.mk.injEq];omega
 unfold Yh;rw[List.map_flatMap,JB,List.pairwise_flatMap];refine⟨λi hi=>hrow i (JZ.1 hi),?_⟩;refine List.Pairwise.imp ?_ List.nodup_range;intro i j hij x hx y hy hxy;obtain⟨o,ho,rfl⟩:=Kf.1 hx;obtain⟨p,hp,e⟩:=Kf.1 hy;have h1:=(U8.1 ho).2;have h2:=(U8.1 hp).2;rw[e,<-hxy]at h2;exact hij (by omega)
open Go.PL
@[go_sem] theorem Zqd (m:Hp) (k:IntKind) (l:List Int):J7 m (l.map (.int k))=l.map (.int k):=by
 induction l with
 |nil=>rfl
 |cons a l ih=>simp only[JE,J7,ih,PV.give]
@[go_sem] theorem ZmH (m:Hp) (k:IntKind) (l:List Int):JP m (l.map (.int k))=True:=by
 induction l with
 |nil=>rfl
 |cons a l ih=>simp only[JE,JP,ih,PV.givable,and_self]
theorem Fl (v:List Int):JO (v.map (.int .i64))= []:=by
 induction v with
 |nil=>rfl
 |cons a v ih=>simp only[JE,JO,Jv,ih,Jg]
theorem Zfz (v:List Int) (hv:v.length=6):Pp 72 [Gc v] (.bool (GK v)):=by
 refine ZM func72 rfl ntmps72 results72 ?_;simp only[go_sem,Gc,hv,Sq hv];refine ZA (ι:= { i:Nat // i<=6/\ ∀j,j<i->0<=v.getD j 0/\v.getD j 0<=400 }) 16 (λi=> [(5,Gc v),(6,.int .i64 (i.1:Int))]) (λ_=> []) (λ_=> []) (λi=>6-i.1) ⟨0,by omega,λj hj=>by omega⟩
  ⟨rfl,(Fc2 rfl rfl),fnl,fnl⟩ (λi=>⟨Fc2 (by simp[Gc,Jv,Fl]) rfl,fnl⟩) (λi=> ?_)
 obtain⟨i,hi,hall⟩:=i;simp only;simp only[go_sem,Gc,hv];refine Zm (λh=> ?_) (λh=> ?_);have hi6:i<v.length:=by have:=of_decide_eq_true h;omega
 have i0:=Jb i
 have i5:i<=5:=by omega
 have i6:(i:Int)<6:=by omega
 simp only[go_sem,Gc,h,hv,i0,i5,i6,XZ hi6];refine Zs (λh1=> ?_) (λh1=> ?_);simp only[go_sem,h1,hv];exact(DU hi6 (by have:=of_decide_eq_true h1;omega));simp only[go_sem,h1,hv];refine Zm (λh2=> ?_) (λh2=> ?_);simp only[go_sem,h2];exact(DU hi6 (by have:=of_decide_eq_true h2;omega));simp only[go_sem,h2];have h3:=of_decide_eq_false h1;have h4:=of_decide_eq_false h2;rw[IntWalk.i64_in _ (by omega)];refine⟨⟨i+1,by omega,λj hj=> ?_⟩,by show 6-(i+1)<6-i;omega,⟨rfl,(Fc2 rfl rfl),fnl,fnl⟩⟩;rcases Kg j i with hlt|hge;exact hall j hlt;obtain rfl:j=i:=by omega
 omega;simp only[go_sem,h];exact(Zav (by rw[hv];intro j hj;exact hall j (by have:=of_decide_eq_false h;omega)))
theorem ZdP (v:List Int) (hv:v.length=6) (t:Tg):Pp 73 [Gc v,tg t] (.bool (Za0 v t)):=by
 have ht:=T5 t;cases hb:W6 t;rw[hb]at ht;refine ZM func73 rfl ntmps73 results73 ?_;simp only[go_sem,tg,Gc,hv];refine vDq ?_;simp only[go_sem,hv];refine vc3 ht ?_;simp only[go_sem,hv];simp[Za0,hb];rw[hb]at ht;obtain⟨e1,e2,e3,e4,e5⟩:=ZaG hb;refine ZM func73 rfl ntmps73 results73 ?_;simp only[go_sem,tg,Gc,hv];refine vDq ?_;simp only[go_sem,hv];refine vc3 ht ?_;simp only[go_sem,hv,e1,e2,e3,e4,e5,XZ];simp[Za0,hb]
open Go.PL
def m6 (m:List Opn):List PV:=(JC 6).map λi=>Zr (Yn m i)
theorem DP (m:List Opn):(m6 m).length=6:=by simp[m6]
theorem Zgq (m:List Opn):JS 6 (m6 m)=m6 m:=Jm (by rw[DP];exact Ki _)
theorem ZcJ (m:List Opn) {i:Nat} (h:i<6):(m6 m).getD i .any=Zr (Yn m i):=by
 unfold m6;rw[getD_lt (by simpa using h)];simp
theorem ZcN (m:List Opn):JO (m6 m)= []:=rfl
theorem YC (m:List Opn):(Y2 m).length=6:=by simp[Y2]
def ZfQ (m:List Opn) (k:Nat):List Int:=(JC 6).map λi=>if i<k then((Yn m i).length:Int)else 0
theorem ZcL (m:List Opn) (k:Nat):(ZfQ m k).length=6:=by simp[ZfQ]
theorem ZmN (m:List Opn):ZfQ m 6=Y2 m:=by
 unfold ZfQ Y2;exact List.map_congr_left λi hi=>if_pos (JZ.1 hi)
theorem ZmM (m:List Opn) {k:Nat} (h:k<6):JS k ((ZfQ m k).map (JG .i64))++ [.int .i64 ((Yn m k).length:Int)]++J3 (k+1) ((ZfQ m k).map (JG .i64))=(ZfQ m (k+1)).map (.int .i64):=by
 have hl:k<((ZfQ m k).map (JG .i64)).length:=by rw[Jr,ZcL];exact h
 have hs:((ZfQ m k).map (JG .i64)).set k (.int .i64 ((Yn m k).length:Int))=_:=Jz;rw[if_pos hl]at hs;rw[Js,JA,<-hs];refine JR (by simp[ZfQ]) λi h1 h2=> ?_
 by_cases e:k=i;subst e;rw[List.getElem_set_self];simp[ZfQ];rw[List.getElem_set_ne e];simp only[ZfQ,JV,List.getElem_range];have:(i<k+1)=(i<k):=by simp only[eq_iff_iff];omega
 simp only[this]
theorem Zka (m:List Opn):(ZfQ m 0).map (JG .i64)= [.int .i64 0,.int .i64 0,.int .i64 0,.int .i64 0,.int .i64 0,.int .i64 0]:=rfl
theorem Zfg (v:List Int):(v.map (JG .i64)).all PV.atom=true:=by
 induction v with
 |nil=>rfl
 |cons a v ih=>rw[JE,List.all_cons,ih];rfl
theorem G3 (m:List Opn):Pp 20 [.rptr (m6 m)] (Gc (Y2 m)):=by
 refine ZM func20 rfl ntmps20 results20 ?_;simp only[go_sem,DP,Zgq];refine ZA (ι:= { k:Nat // k<=6 }) 23 (λk=> [(2,.ptr 2 0),(3,.ptr 3 0),(12,.agg (m6 m)),(13,.int .i64 (k.1:Int))]) (λk=> [(2,(ZfQ m 0).map (.int .i64),Hf),(3,(ZfQ m k.1).map (.int .i64),Hf)]) (λ_=> []) (λk=>6-k.1) ⟨0,by omega⟩
  ⟨rfl,(Fc4 rfl rfl rfl rfl),Fc2 ⟨rfl,rfl⟩ ⟨rfl,rfl⟩,fnl⟩ (λk=>⟨(Fc4 rfl rfl rfl rfl),Fc2 rfl (by rw[Fl];rfl)⟩) (λk=> ?_)
 obtain⟨k,hk⟩:=k;simp only;by_cases h:(k:Int)<6;have k6:k<6:=by omega
 have k0:=Jb k
 have k5:k<=5:=by omega
 have k7:k+1<=6:=k6;have w1:=wk9 (k:=k) (by omega)
 simp only[go_sem,h,k0,k5,k6,k7,DP,ZcJ m k6,Zr,ZcL,ZmM m k6,w1];exact⟨⟨k+1,k6⟩,by show 6-(k+1)<6-k;omega,⟨rfl,(Fc4 rfl rfl rfl rfl),Fc2 ⟨rfl,rfl⟩ ⟨rfl,rfl⟩,fnl⟩⟩;obtain rfl:k=6:=by omega
 simp only[go_sem,h,Gc,ZmN,Zka,ZcL,YC,Sq (YC m),Zfg,Jc,Jg]
def ZdZ (m:List Opn) (k:Nat):List Opn:=(JC k).flatMap (Yn m)
theorem Gu (m:List Opn) (k:Nat):ZdZ m (k+1)=ZdZ m k++Yn m k:=by
 unfold ZdZ;rw[Kc,J4];simp
theorem ZjQ {m:List Opn} (h:PoolOk m) {k:Nat} (hk:k<=6):(ZdZ m k).length<=m.length:=by
 have ht:∀o∈m,1<=o.id.r:=λo ho=>by
  have:=h.t o ho;simp only[W6,Ja,decide_eq_true_eq]at this;omega
 unfold ZdZ;rw[ZeY k m ht];exact Jp _ _
theorem ZdF (m:List Opn) (hm:PoolOk m):Pp 15 [.rptr (m6 m)] (.int .i64 (m.length:Int)):=by
 have hH:=G3 m;have hL:(ZdZ m 6).length=m.length:=Vu hm;have hl:=hm.l;have hv:=YC m;refine ZM func15 rfl ntmps15 results15 ?_;simp only[go_sem];refine vc1 hH ?_;simp only[go_sem,Gc];refine ZA (ι:= { k:Nat // k<=6 }) 16 (λk=> [(3,.int .i64 ((ZdZ m k.1).length:Int)),(7,Gc (Y2 m)),(8,.int .i64 (k.1:Int))]) (λ_=> []) (λ_=> []) (λk=>6-k.1) ⟨0,by omega⟩
  ⟨rfl,(Fc3 rfl rfl rfl),fnl,fnl⟩ (λk=>⟨Fc3 rfl (by simp[Gc,Jv,Fl]) rfl,fnl⟩) (λk=> ?_)
 obtain⟨k,hk⟩:=k;simp only;by_cases h:(k:Int)<6;have k6:k<(Y2 m).length:=by rw[hv];omega
 have k0:=Jb k
 have k5:k<=5:=by omega
 have k7:(k:Int)<6:=by omega
 have w1:=wk9 (k:=k) (by omega)
 have hc:=ZjQ hm (k:=k+1) (by omega);have w2:IntKind.i64.wrap (((ZdZ m k).length:Int)+(Y2 m).getD k 0)=((ZdZ m (k+1)).length:Int):=by
  rw[Z0 m (by omega)];rw[Gu,Jc]at hc ⊢;rw[w64 (by omega)];omega
 simp only[go_sem,h,Gc,hv,k0,k5,k7,XZ k6,w1,w2];exact⟨⟨k+1,by omega⟩,by show 6-(k+1)<6-k;omega,⟨rfl,(Fc3 rfl rfl rfl),fnl,fnl⟩⟩;obtain rfl:k=6:=by omega
 simp only[go_sem,h,hL]
open Go.PL
def opc (x:Opn×Int):PV:= .tup [opv x.1,.int .i64 x.2]
theorem Xp (x:Opn×Int):(opc x).dids= []:=by simp only[opc,PV.dids,PV.didsL,Sk,Jg]
def findP (m:List Opn) (t:Tg):Opn×Int:=if Za0 (Y2 m) t=Ht then((Yn m (t.r-1).toNat).getD (t.n-1).toNat Jd,0)else(Jd,6)
theorem ZhP (m:List Opn) (t:Tg) (ho:∀o∈m,OkOp o):Pp 57 [.rptr (m6 m),tg t] (opc (findP m t)):=by
 have hH:=G3 m;have hV:=ZdP (Y2 m) (YC m) t;have hv:=YC m;cases hb:Za0 (Y2 m) t;rw[hb]at hV;have hf:findP m t=(Jd,6):=by simp[findP,hb]
 rw[hf];refine ZB func57 rfl ntmps57 results57 (Xp _) ?_;simp only[go_sem,tg];refine vDq ?_;simp only[go_sem];refine vc1 hH ?_;simp only[go_sem,hv,Sq hv];refine vc9 hV ?_;simp only[go_sem,opc,Za];rw[hb]at hV;have hf:findP m t=((Yn m (t.r-1).toNat).getD (t.n-1).toNat Jd,0):=by simp[findP,hb]
 rw[hf];have hb':=hb;simp only[Za0,Ja,decide_eq_true_eq]at hb';obtain⟨h1,h2⟩:=hb';obtain⟨e1,e2,e3,e4,e5⟩:=ZaG h1;rw[Z0 m e4]at h2;have h1':=h1;simp only[W6,Ja,decide_eq_true_eq]at h1';have n1:IntKind.i64.wrap (t.n-1)=t.n-1:=w64 (by omega);have n0:0<=t.n-1:=by omega
 have nl:(t.n-1).toNat<(Yn m (t.r-1).toNat).length:=by omega
 have nI:t.n-1<((Yn m (t.r-1).toNat).length:Int):=by omega
 have hO:=Ge _ (ho _ (U8.1 (ZF (d:=Jd) nl)).1);have hg:=ZZ nl;have h6:(J3 (t.r-1).toNat (m6 m)).getD 0 .any=Zr (Yn m (t.r-1).toNat):=by rw[Xu,Nat.add_zero];exact ZcJ m e4
 have e6:1<=6-(t.r-1).toNat:=by omega
 generalize (Yn m (t.r-1).toNat).getD (t.n-1).toNat Jd=x at *;refine ZB func57 rfl ntmps57 results57 (Xp _) ?_;simp only[go_sem,tg];refine vDq ?_;simp only[go_sem];refine vc1 hH ?_;simp only[go_sem,hv,Sq hv];refine vc9 hV ?_;simp only[go_sem];refine vDq ?_;simp only[go_sem,DP,e1,e2,e3,e4,e5,e6,n1,n0,nl,nI,h6,Zr,JW,hg,opv];refine vc6 hO ?_;simp only[go_sem,opc,opv]
theorem Zj7 {t:Tg}:Za0 [0,0,0,0,0,0] t=false:=by
 cases h:W6 t;simp[Za0,h];have h1:=h;simp only[W6,Ja,decide_eq_true_eq]at h1;obtain⟨_,_,_,e4,_⟩:=ZaG h;have:([0,0,0,0,0,0]:List Int).getD (t.r-1).toNat 0=0:=by
  generalize (t.r-1).toNat=i at e4;match i,e4 with
  |0,_=>rfl
  |1,_=>rfl
  |2,_=>rfl
  |3,_=>rfl
  |4,_=>rfl
  |5,_=>rfl
 simp only[Za0,h,this,Jn,decide_eq_false_iff_not];omega
theorem Zfo (m:List Opn) (hm:PoolOk m) (ho:∀o∈m,OkOp o):Pp 63 [.rptr (m6 m),Gc [0,0,0,0,0,0],.int .i64 400] (Zr (Yh m)):=by
 have hl:=hm.l;have hlen:∀k,k<6-> ∀j,j<=(Yn m k).length->(ZdZ m k++(Yn m k).take j).length<=400:=λk hk j hj=>by
  have:=ZjQ hm (k:=k+1) (by omega);rw[Gu,Jc]at this;rw[Jc,JX];omega
 refine ZB func63 rfl ntmps63 results63 (TS _) ?_;simp only[go_sem,Gc,DP,Zgq];refine T8 7 41 15 48 rfl rfl ?_;refine ZA (ι:= { k:Nat // k<=6 }) 45 (λx=> [(2,.int .i64 400),(4,.ptr 4 0),(7,.sl (.row 41) ((ZdZ m x.1).map opv)),(17,.agg (m6 m)),(18,.int .i64 (x.1:Int))]) (λx=> [(4,[.int .i64 0,.int .i64 0,.int .i64 0,.int .i64 0,.int .i64 0,.int .i64 0],Hf)]) (λx=> [(41,.live (ZdZ m x.1).length 15 48)]) (λx=>6-x.1) ⟨0,by omega⟩
  ⟨rfl,Fc5 rfl rfl rfl rfl rfl,fcs ⟨rfl,rfl⟩ fnl,(fcs rfl fnl)⟩ (λx=>⟨Fc5 rfl rfl (by simp[Jv,ZV]) (by rw[Jv,ZcN];rfl) rfl,fcs rfl fnl⟩) (λx=> ?_)
 obtain⟨k,hk⟩:=x;simp only;by_cases h:(k:Int)<6;have k6:k<6:=by omega
 have k0:=Jb k
 have k5:k<=5:=by omega
 have w1:=wk9 (k:=k) (by omega)
 have hlk:=hlen k k6;have hor:∀o∈Yn m k,OkOp o:=λo h=>ho o (U8.1 h).1
 have h6:=ZcJ m k6;have hcs:=Gu m k;generalize hR:Yn m k=R at *;generalize hC:ZdZ m k=C at *;simp only[go_sem,h,k0,k5,DP,h6,Zr];refine ZA (ι:= { j:Nat // j<=R.length }) 45 (λx=> [(2,.int .i64 400),(4,.ptr 4 0),(7,.sl (.row 41) ((C++R.take x.1).map opv)),(17,.agg (m6 m)),(18,.int .i64 (k:Int)),(21,Zr R),(22,.int .i64 (R.length:Int)),(23,.int .i64 (x.1:Int))]) (λx=> [(4,[.int .i64 0,.int .i64 0,.int .i64 0,.int .i64 0,.int .i64 0,.int .i64 0],Hf)]) (λx=> [(41,.live (C++R.take x.1).length 15 48)]) (λx=>R.length-x.1) ⟨0,Jh _⟩
  ⟨rfl,by simp only[J2,Jg];exact(Fc8 rfl rfl rfl rfl rfl rfl rfl rfl),fcs ⟨rfl,rfl⟩ fnl,by simp only[J2,Jg];exact(fcs rfl fnl)⟩ (λx=>⟨Fc8 rfl rfl (by simp[Jv,ZV]) (by rw[Jv,ZcN];rfl) rfl rfl rfl rfl,fcs rfl fnl⟩) (λx=> ?_)
 obtain⟨j,hj⟩:=x;simp only;by_cases h2:(j:Int)<(R.length:Int);have hja:j<R.length:=by omega
 have j0:=Jb j
 have w2:IntKind.i64.wrap ((j:Int)+1)=((j+1:Nat):Int):=by
  have:=hlk (j+1) hja;rw[Jc,JX]at this;rw[w64 (by omega)];rfl
 have hO:=Ge _ (hor _ (ZF (d:=Jd) hja));have hH:=ZdP [0,0,0,0,0,0] rfl (R.getD j Jd).id;rw[Zj7]at hH;have hgd:=ZZ hja;have hsn:=Yx (d:=Jd) hja;have hlt:¬(400:Int)<=((C++R.take j).length:Int):=by
  have:=hlk (j+1) hja;rw[hsn,<-Js,Jc]at this;simp only[JD,Kb]at this;omega
 have hrm:=YX (show(C++R.take j).length+1<=1000000 by have:=hlk j hj;omega) (show 176<=1000 by omega);have hml:((C++R.take j).map opv).length=(C++R.take j).length:=Jr _;have hsz:=Xr (C++R.take j);generalize hx:R.getD j Jd=x at *;have hsx:Sized 15 [opv x]:=Xr [x];have hax:Vo [opv x]:=Vq [x];generalize hT:R.take j=T at *;have e2:C++R.take (j+1)=(C++T)++ [x]:=by rw[hsn,Js]
 generalize C++T=CT at *;simp only[opv]at hsx hax;simp only[go_sem,h2,Zr,hgd,opv,j0,hlt,hml];refine vc9 hH ?_;simp only[go_sem,opv];refine vc6 hO ?_;simp only[go_sem,opv,hml,hrm,hsz,hsx,hax,w2];exact⟨⟨j+1,by omega⟩,nx9 (by omega),⟨rfl,by simp only;rw[e2,Jy];exact(Fc8 rfl rfl rfl rfl rfl rfl rfl rfl),fcs ⟨rfl,rfl⟩ fnl,by simp only;rw[e2,Jc];exact(fcs rfl fnl)⟩⟩;obtain rfl:j=R.length:=by omega
 simp only[go_sem,h2,Jj,w1];exact⟨⟨k+1,k6⟩,by show 6-(k+1)<6-k;omega,⟨rfl,by simp only;rw[hcs];exact(Fc5 rfl rfl rfl rfl rfl),fcs ⟨rfl,rfl⟩ fnl,by simp only;rw[hcs];exact(fcs rfl fnl)⟩⟩;obtain rfl:k=6:=by omega
 simp only[go_sem,h,Zr];rfl
theorem Zjl (m:List Opn) (hm:PoolOk m) (ho:∀o∈m,OkOp o):Pp 22 [.rptr (m6 m)] (Zr (Yh m)):=by
 have hS:=Zfo m hm ho;refine ZB func22 rfl ntmps22 results22 (TS _) ?_;simp only[go_sem];refine vc9 hS ?_;simp only[go_sem,Zr]
end Go.Proofs.YtepchngegclagaaGreat
namespace Go.PL
end Go.PL
namespace Go.Proofs.YtepchngegclagaaGreat
open Go.PL
open Go.PL
open Go.PL
structure RAtS (l:List Opn) where
 k:Nat
 hk:k<=l.length
 id:Nat
 hid:id=27
def ixO (l:List Opn) (t:Tg):Int:=(l.findIdx? λo=>decide (o.id=t)).elim (-1) Int.ofNat
theorem Zbi (l:List Opn) (t:Tg) (hl:l.length<=100000):Pp 84 [Zr l,tg t] (.int .i64 (ixO l t)):=by
 have hlm:l.length<=maxLen:=by rw[Zc];omega
 refine ZM func84 rfl ntmps84 results84 ?_;simp only[go_sem,Zr,tg];refine ZA (ι:= { x:Nat // x<=(l).length/\(∀j,j<x-> ¬(l.getD j Jd).id=t) }) 20 (λx=> [(0,Zr l),(3,.ptr 3 0),(5,.int .i64 (x.1:Int))]) (λx=> [(3,[.int .i64 t.r,.int .i64 t.n],Hf)]) (λx=> []) (λx=>(l).length-x.1) ⟨0,Jh _,λj hj=>absurd hj (Kd j)⟩ ⟨rfl,(Fc3 rfl rfl rfl),(fcs ⟨rfl,rfl⟩ fnl),fnl⟩ (λx=>⟨(Fc3 rfl rfl rfl),(fcs rfl fnl)⟩) (λx=> ?_);obtain⟨k,hk,hI⟩:=x;simp only at hk hI ⊢;by_cases h:(k:Int)<(l.length:Int)
 (have hka:k<(l).length:=by omega);(have w1:=WD hka (hlm));(have i1:=Jb k)
 by_cases he:(l.getD k Jd).id=t;have hix:ixO l t=(k:Int):=by
  unfold ixO;rw[show l.findIdx? (λo=>decide (o.id=t))=some k from Jq.2 ⟨hka,by rw[<-getD_lt (d:=Jd) hka];simpa using he,λj hj=>by rw[<-getD_lt (d:=Jd) (by omega)];simpa using hI j hj⟩];rfl
 simp only[go_sem,Zr,h];refine vDq ?_;simp only[go_sem,Zr,h,ZZ hka,opv,i1,tg,ZL,he,hix]
 ·simp only[go_sem,Zr,h];refine vDq ?_;simp only[go_sem,Zr,h,ZZ hka,opv,i1,tg,ZL,he,w1];exact⟨⟨k+1,by(try simp only);omega,Zu hI he⟩,by show(l).length-(k+1)<(l).length-k;omega,⟨rfl,(Fc3 rfl rfl rfl),(fcs ⟨rfl,rfl⟩ fnl),fnl⟩⟩
 have hix:ixO l t= -1:=by
  unfold ixO;rw[JM.2 λo ho=> ?_];rfl;obtain⟨j,hj,rfl⟩:=Jl ho;have:=hI j (by omega);rw[getD_lt hj]at this;simpa using this
 simp only[go_sem,Zr,h,hix]
open Go.PL
structure De where
 kind:Int
 cart:Str
 item:Str
 at':Rf
 n:Int
 text:Str
 tag:Tg
 ln:Ln
 deriving DecidableEq,Inhabited
def Yq (d:De):List PV:= [.int .i64 d.kind,.str d.cart,.str d.item,.int .i64 d.at'.sc,.str d.at'.gr,.str d.at'.nm,.int .i64 d.n,.str d.text,.int .i64 d.tag.r,.int .i64 d.tag.n,
 .int .i64 d.ln.kind,.int .i64 d.ln.at'.sc,.str d.ln.at'.gr,.str d.ln.at'.nm,.str d.ln.nm,.str d.ln.ot,.int .i64 d.ln.fac,.int .i64 d.ln.fd.at'.sc,.str d.ln.fd.at'.gr,.str d.ln.fd.at'.nm,.int .i64 d.ln.fd.kind,.str d.ln.fd.df,.sl .no (d.ln.fd.cases'.map .str),.int .i64 d.ln.fd.worth,.sl .no (d.ln.fo.map pr),.sl .no (d.ln.ba.map pr)]
def ded (d:De):PV:= .agg (Yq d)
def ZfR (d:De):Bool:=decide (200<(d.cart.length:Int))||decide (200<(d.item.length:Int))||decide (200<(d.at'.gr.length:Int))||decide (200<(d.at'.nm.length:Int))||decide (200<(d.text.length:Int))
theorem FD (d:De):Pp 9 [ded d] (.bool (ZfR d)):=by
 refine ZM func9 rfl ntmps9 results9 ?_;simp only[go_sem,ded,Yq];repeat' ((first|(first|apply Zt|apply Zs|apply Zm)<;>intro h|refine vDq ?_)<;>first|simp only[go_sem,h]|simp only[go_sem]|skip)
 all_goals simp_all[ZfR]
 all_goals omega
theorem Zh6 (v:List Int) (r:Int) (hv:v.length=6) (hR:GK v=Ht) (h1:1<=r) (h6:r<=6) (hf:v.getD (r-1).toNat 0<400):Pp 36 [Gc v,.int .i64 r] (tgc (⟨r,v.getD (r-1).toNat 0+1⟩,0)):=by
 have hV:=Zfz v hv;rw[hR]at hV;have e1:IntKind.i64.wrap (r-1)=r-1:=w64 (by omega);have e2:0<=r-1:=by omega
 have e3:r-1<6:=by omega
 have e4:(r-1).toNat<6:=by omega
 have e5:(r-1).toNat<=5:=by omega
 have e6:(r-1).toNat<v.length:=by omega
 have e7:(r-1).toNat+1<=v.length:=by omega
 have e8:¬r<1:=by omega
 have e9:¬6<r:=by omega
 have hra:=Zk0 hR e6;have hg:=XZ e6;generalize v.getD (r-1).toNat 0=n at *;have e10:¬400<=n:=by omega
 have e11:IntKind.i64.wrap (n+1)=n+1:=w64 (by omega);refine ZB func36 rfl ntmps36 results36 (rfl) ?_;simp only[go_sem,Gc,hv,Sq hv];refine vc9 hV ?_;simp only[go_sem,e1,e2,e3,e4,e5,e6,e7,e8,e9,e10,e11,hg,hv,tgc,tg]
def clk (l:List Opn):Int:=l.foldl (λa o=>max a o.time) 0
theorem Zmt {l:List Opn} {k:Nat} (h:k<l.length):clk (l.take (k+1))=max (clk (l.take k)) (l.getD k Jd).time:=by
 unfold clk;rw[Yx (d:=Jd) h,J8];rfl
theorem ZoN (a b:List Opn):clk (a++b)=b.foldl (λa o=>max a o.time) (clk a):=by unfold clk;rw[J8]
theorem X3 (l:List Opn) (hl:l.length<=100000):Pp 41 [Zr l] (.int .i64 (clk l)):=by
 have hlm:l.length<=maxLen:=by rw[Zc];omega
 refine ZM func41 rfl ntmps41 results41 ?_;simp only[go_sem,Zr];refine ZA (ι:= { x:Nat // x<=(l).length }) 24 (λx=> [(0,Zr l),(3,.int .i64 (clk (l.take x.1))),(4,.int .i64 (x.1:Int))]) (λx=> []) (λx=> []) (λx=>(l).length-x.1) ⟨0,Jh _⟩ ⟨rfl,(Fc3 rfl rfl rfl),fnl,fnl⟩ (λx=>⟨(Fc3 rfl rfl rfl),fnl⟩) (λx=> ?_);obtain⟨k,hk⟩:=x;simp only at hk ⊢;by_cases h:(k:Int)<(l.length:Int)
 (have hka:k<(l).length:=by omega);(have w1:=WD hka (hlm));(have i1:=Jb k)
 have hs:=Zmt hka;have hgd:=ZZ hka;generalize l.getD k Jd=x at *;generalize clk (l.take k)=c at *;by_cases hc:c<x.time;simp only[go_sem,Zr,h,hgd,opv,i1,hc,w1];rw[show max c x.time=x.time by omega]at hs;exact⟨⟨k+1,by omega⟩,nx9 (by omega),⟨rfl,by simp only;rw[hs];exact(Fc3 rfl rfl rfl),fnl,fnl⟩⟩;simp only[go_sem,Zr,h,hgd,opv,i1,hc,w1];rw[show max c x.time=c by omega]at hs;exact⟨⟨k+1,by omega⟩,nx9 (by omega),⟨rfl,by simp only;rw[hs];exact(Fc3 rfl rfl rfl),fnl,fnl⟩⟩;have htk:l.take k=l:=Jm (by omega);simp only[go_sem,Zr,h,htk]
theorem Zfn (m:List Opn) (hm:PoolOk m):Pp 35 [.rptr (m6 m)] (.int .i64 (clk (Yh m))):=by
 have hl:=hm.l;refine ZM func35 rfl ntmps35 results35 ?_;simp only[go_sem,DP,Zgq];refine ZA (ι:= { k:Nat // k<=6 }) 31 (λx=> [(3,.int .i64 (clk (ZdZ m x.1))),(14,.agg (m6 m)),(15,.int .i64 (x.1:Int))]) (λx=> []) (λx=> []) (λx=>6-x.1) ⟨0,by omega⟩
  ⟨rfl,(Fc3 rfl rfl rfl),fnl,fnl⟩ (λx=>⟨Fc3 rfl (by rw[Jv,ZcN];rfl) rfl,fnl⟩) (λx=> ?_)
 obtain⟨k,hk⟩:=x;simp only;by_cases h:(k:Int)<6;have k6:k<6:=by omega
 have k0:=Jb k
 have k5:k<=5:=by omega
 have w1:=wk9 (k:=k) (by omega)
 have h6:=ZcJ m k6;have hrl:=XG m k;have hcs:=Gu m k;generalize hR:Yn m k=R at *;simp only[go_sem,h,k0,k5,DP,h6,Zr];refine ZA (ι:= { j:Nat // j<=R.length }) 31 (λx=> [(3,.int .i64 (clk (ZdZ m k++R.take x.1))),(14,.agg (m6 m)),(15,.int .i64 (k:Int)),(18,Zr R),(19,.int .i64 (R.length:Int)),(20,.int .i64 (x.1:Int))]) (λx=> []) (λx=> []) (λx=>R.length-x.1) ⟨0,Jh _⟩
  ⟨rfl,by simp only[J2,Jg];exact(Fc6 rfl rfl rfl rfl rfl rfl),fnl,fnl⟩ (λx=>⟨Fc6 rfl (by rw[Jv,ZcN];rfl) rfl rfl rfl rfl,fnl⟩) (λx=> ?_)
 obtain⟨j,hj⟩:=x;simp only;by_cases h2:(j:Int)<(R.length:Int);have hja:j<R.length:=by omega
 have j0:=Jb j
 have w2:=wk9 (k:=j) (by omega)
 have hgd:=ZZ hja;have hs:clk (ZdZ m k++R.take (j+1))=max (clk (ZdZ m k++R.take j)) (R.getD j Jd).time:=by
  rw[Yx (d:=Jd) hja,<-Js,ZoN];rfl
 generalize R.getD j Jd=x at *;simp only[go_sem,h2,Zr,hgd,opv,j0,w2];exact⟨⟨j+1,by omega⟩,nx9 (by omega),⟨rfl,by simp only;rw[hs];exact(Fc6 rfl rfl rfl rfl rfl rfl),fnl,fnl⟩⟩;obtain rfl:j=R.length:=by omega
 simp only[go_sem,h2,Jj,w1];exact⟨⟨k+1,k6⟩,by show 6-(k+1)<6-k;omega,⟨rfl,by simp only;rw[hcs];exact(Fc3 rfl rfl rfl),fnl,fnl⟩⟩;obtain rfl:k=6:=by omega
 simp only[go_sem,h];rfl
open Go.PL
structure Mkr where
 own:Tg
 F:List Fd
 al:List Opn
 d:De
def Xa (g:List Eg) (x:Mkr):List PV:= [tr (Zd g),.int .i64 x.own.r,.int .i64 x.own.n,Zh x.F,Zr x.al,
 .int .i64 x.d.kind,.str x.d.cart,.str x.d.item,.int .i64 x.d.at'.sc,.str x.d.at'.gr,.str x.d.at'.nm,.int .i64 x.d.n,.str x.d.text,.int .i64 x.d.tag.r,.int .i64 x.d.tag.n,
 .int .i64 x.d.ln.kind,.int .i64 x.d.ln.at'.sc,.str x.d.ln.at'.gr,.str x.d.ln.at'.nm,.str x.d.ln.nm,.str x.d.ln.ot,.int .i64 x.d.ln.fac,.int .i64 x.d.ln.fd.at'.sc,.str x.d.ln.fd.at'.gr,.str x.d.ln.fd.at'.nm,.int .i64 x.d.ln.fd.kind,.str x.d.ln.fd.df,.sl .no (x.d.ln.fd.cases'.map .str),.int .i64 x.d.ln.fd.worth,.sl .no (x.d.ln.fo.map pr),.sl .no (x.d.ln.ba.map pr)]
def mkr (g:List Eg) (x:Mkr):PV:= .agg (Xa g x)
def YT (item:Str) (o:Opn):Bool:=(o.kind==1)&&(o.item==item)
theorem Zj6 (g:List Eg) (x:Mkr) (o:Opn):Pp 136 [opv o,.rptr (Xa g x)] (.bool (YT x.d.item o)):=by
 cases hk:(o.kind==1);refine ZM func136 rfl ntmps136 results136 ?_;simp only[go_sem,opv,Xa,hk,YT,Jo];refine ZM func136 rfl ntmps136 results136 ?_;simp only[go_sem,opv,Xa,hk,YT,Jn]
theorem ZdB (l:List Opn) (f:FuncId) (cs:List PV) (p:Opn->Bool) (hl:l.length<=maxLen) (hp:∀r∈l,Pp f [opv r,.rptr cs] (.bool (p r))):
  Pp 182 [Zr l,.fn f [.rptr cs]] (.int .i64 (idx p l)):=by
 refine ZM func182 rfl ntmps182 results182 ?_;simp only[go_sem,Zr];refine ZA (ι:= { k:Nat // k<=l.length/\ ∀j,j<k->p (l.getD j Jd)=Hf }) 19 (λx=> [(0,Zr l),(1,.fn f [.rptr cs]),(7,.int .i64 (l.length:Int)),(8,.int .i64 (x.1:Int))]) (λx=> []) (λx=> []) (λx=>l.length-x.1) ⟨0,by omega,λj hj=>by omega⟩
  ⟨rfl,(Fc4 rfl rfl rfl rfl),fnl,fnl⟩ (λx=>⟨(Fc4 rfl rfl rfl rfl),fnl⟩) (λx=> ?_)
 obtain⟨k,hk,hall⟩:=x;simp only;by_cases h:(k:Int)<(l.length:Int);have hka:k<l.length:=by omega
 have w1:=WD hka hl;have i1:=Jb k
 have hc:=hp _ (ZF (d:=Jd) hka);cases he:p (l.getD k Jd);rw[he]at hc;simp only[go_sem,h,Zr,ZZ hka,opv,i1];refine vc6 hc ?_;simp only[go_sem,w1];exact⟨⟨k+1,by omega,Zu hall he⟩,nx9 (by omega),⟨rfl,(Fc4 rfl rfl rfl rfl),fnl,fnl⟩⟩;rw[he]at hc;have hx:=Wn (p:=p) hka hall he;simp only[go_sem,h,Zr,ZZ hka,opv,i1];refine vc6 hc ?_;simp only[go_sem,hx];have hx:=Vt (p:=p) (d:=Jd) (l:=l) (λj hj=>hall j (by omega));simp only[go_sem,h,hx]
theorem Fu (l:List Opn) (f:FuncId) (cs:List PV) (p:Opn->Bool) (hl:l.length<=maxLen) (hp:∀r∈l,Pp f [opv r,.rptr cs] (.bool (p r))):
  Pp 135 [Zr l,.fn f [.rptr cs]] (.bool (l.any p)):=by
 have hI:=ZdB l f cs p hl hp;rw[<-Zkd];refine ZM func135 rfl ntmps135 results135 ?_;simp only[go_sem,Zr];refine vc7 hI ?_;simp only[go_sem]
theorem Zg4 (g:List Eg) (x:Mkr) (hl:x.al.length<=maxLen):Pp 85 [mkr g x] (.bool (x.al.any (YT x.d.item))):=by
 have hC:=Fu x.al 136 (Xa g x) (YT x.d.item) hl (λr _=>Zj6 g x r);refine ZM func85 rfl ntmps85 results85 ?_;simp only[go_sem,mkr,Xa,tr,Zh,Zr];refine Zl hC ?_ ?_ ?_;iterate 2 simp only[go_sem,Xa,tr,Zh,Zr]
 simp only[go_sem]
open Go.PL
def US (g:List Eg) (x:Mkr) (o:Opn):Opn×Bool:=
 if(toT g o x.own).c≠0 then(Jd,Hf)else if(toT g o x.own).ok=Hf then(Jd,Hf)else if(toT g o x.own).o.kind≠4 then(Jd,Hf)
 else if(toT g o x.own).o.at'≠x.d.at' then(Jd,Hf)else if x.d.at'.sc=1/\(toT g o x.own).o.item≠x.d.item then(Jd,Hf)else((toT g o x.own).o,Ht)
theorem D0 (g:List Eg) (x:Mkr) (o:Opn) (hm:OkM g) (hr:RightM g) (ho:OkOp o):Pp 142 [mkr g x,opv o] (opb (US g x o)):=by
 have hT:=Zjs g o x.own hm hr ho;unfold US;generalize toT g o x.own=y at *;obtain⟨yo,yk,yc⟩:=y;refine ZB func142 rfl ntmps142 results142 (Zo _) ?_;simp only[go_sem,mkr,Xa,opv,tr,Zh,Zr];refine vc7 hT ?_;simp only[go_sem,TY,opv,opb,Za,ZN];repeat' ((first|(first|apply Zt|apply Zs|apply Zm)<;>intro h|refine vDq ?_)<;>first|simp only[go_sem,h,TY,opv,opb,Za,ZN]|simp only[go_sem,TY,opv,opb,Za,ZN]|skip)
 all_goals simp_all[opb,Za]
 all_goals (repeat(first|exact rfl|refine⟨rfl,?_⟩))
open Go.PL
def UE (k:Int) (f:Fd):Bool:=if k=3 then f.kind==1 else if k=4 then(f.kind==2||f.kind==3)else f.kind==4
def ZP (x:Mkr):Fd×Int:=
 if(Zv x.F x.d.at').2≠0 then(Jd,(Zv x.F x.d.at').2)else if UE x.d.kind (Zv x.F x.d.at').1=Hf then(Jd,11)
 else if x.d.at'.sc=1/\x.al.any (YT x.d.item)=Hf then(Jd,12)else((Zv x.F x.d.at').1,0)
theorem Zij (g:List Eg) (x:Mkr) (hl:x.al.length<=maxLen) (hF:x.F.length<=100000) (hc:∀f∈x.F,f.cases'.length<=1000000):Pp 140 [mkr g x] (Uu (ZP x)):=by
 have hS:=Vy x.F x.d.at' hF hc;have hH:=Zg4 g x hl;unfold ZP;generalize Zv x.F x.d.at'=y at *;obtain⟨yf,yc⟩:=y;generalize x.al.any (YT x.d.item)=hs at *;refine ZB func140 rfl ntmps140 results140 (FV _) ?_;simp only[go_sem,mkr,Xa,tr,Zh,Zr];refine vc2 hS ?_;simp only[go_sem,Uu,fld];repeat' (first|(refine Zt (λh=> ?_) (λh=> ?_)<;>(try simp only[go_sem,h,Uu,fld,WK]))|(refine Zs (λh=> ?_) (λh=> ?_)<;>(try simp only[go_sem,h,Uu,fld,WK]))|(refine Zm (λh=> ?_) (λh=> ?_)<;>(try simp only[go_sem,h,Uu,fld,WK]))|((refine Zl hH ?_ ?_ ?_);(focus simp only[go_sem,mkr,Xa,tr,Zh,Zr]);(focus exact rfl);(try simp only[go_sem,Uu,fld,WK]))|((refine Zoo (by kernel_rfl) (by kernel_rfl) ?_);(try simp only[go_sem,Uu,fld,WK])))
 all_goals simp_all[Uu,UE]
 all_goals (repeat(first|exact rfl|refine⟨rfl,?_⟩))
open Go.PL
open Go.RowKit
theorem Zir (g:List Eg) (x:Mkr) (o:Opn):Pp 87 [opv o,.rptr (Xa g x)] (.bool (o.item==x.d.item)):=by
 refine ZM func87 rfl ntmps87 results87 ?_;simp only[go_sem,opv,Xa]
theorem Zis (o:Opn):Pp 88 [opv o] (.bool (o.item != [])):=by
 refine ZM func88 rfl ntmps88 results88 ?_;simp only[go_sem,opv];rfl
theorem ZeC (g:List Eg) (x:Mkr) (o:Opn) (hm:OkM g) (hr:RightM g) (ho:OkOp o):Pp 143 [opv o,.rptr (Xa g x)] (.bool (US g x o).2):=by
 have hW:=D0 g x o hm hr ho;generalize US g x o=y at *;obtain⟨yo,yk⟩:=y;refine ZM func143 rfl ntmps143 results143 ?_;simp only[go_sem,opv,Xa,tr,Zh,Zr];refine Zl hW ?_ ?_ ?_;iterate 2 simp only[go_sem,mkr,Xa,opv,tr,Zh,Zr]
 simp only[go_sem,opb,opv]
def Sy (g:List Eg) (x:Mkr) (o:Opn):Bool:=(US g x o).2&&((US g x o).1.has&&((US g x o).1.text==x.d.text))
theorem ZeB (g:List Eg) (x:Mkr) (o:Opn) (hm:OkM g) (hr:RightM g) (ho:OkOp o):Pp 141 [opv o,.rptr (Xa g x)] (.bool (Sy g x o)):=by
 have hW:=D0 g x o hm hr ho;unfold Sy;generalize US g x o=y at *;obtain⟨yo,yk⟩:=y;cases yk
 ·refine ZM func141 rfl ntmps141 results141 ?_;simp only[go_sem,opv,Xa,tr,Zh,Zr];refine Zl hW ?_ ?_ ?_;iterate 2 simp only[go_sem,mkr,Xa,opv,tr,Zh,Zr]
  simp only[go_sem,opb,opv,Jo]
 cases hh:yo.has
 ·refine ZM func141 rfl ntmps141 results141 ?_;simp only[go_sem,opv,Xa,tr,Zh,Zr];refine Zl hW ?_ ?_ ?_;iterate 2 simp only[go_sem,mkr,Xa,opv,tr,Zh,Zr]
  simp only[go_sem,opb,opv,hh,Jn,Jo]
 refine ZM func141 rfl ntmps141 results141 ?_;simp only[go_sem,opv,Xa,tr,Zh,Zr];refine Zl hW ?_ ?_ ?_;iterate 2 simp only[go_sem,mkr,Xa,opv,tr,Zh,Zr]
 simp only[go_sem,opb,opv,hh,Jn]
open Go.PL
open Go.RowKit
def Z2 (l:List Opn) (p:Opn->Bool):List Tg:=GS ((l.filter p).map Opn.id)
def Xh (l:List Opn) (p:Opn->Bool):List Tg:=(l.filter p).map Opn.id
theorem Zcg (p:Opn->Bool) {l:List Opn} {k:Nat} (h:k<l.length):Xh (l.take (k+1)) p=Xh (l.take k) p++(if p (l.getD k Jd)=Ht then [(l.getD k Jd).id]else []):=by
 unfold Xh;rw[Yx (d:=Jd) h,Ju,Jy];congr 1;generalize l.getD k Jd=x;cases hr:p x;rw[Je (by rw[hr];simp),if_neg (by simp)];rfl;rw[Jf (by exact hr),if_pos rfl];rfl
theorem ZaR (l:List Opn) (p:Opn->Bool):(Xh l p).length<=l.length:=by unfold Xh;rw[Jr];exact Jp _ _
theorem Zii (g:List Eg) (x:Mkr) (f:FuncId) (caps:List PV) (p:Opn->Bool) (hl:x.al.length<=100000) (hp:∀o∈x.al,Pp f (opv o::caps) (.bool (p o))) (hc1:∀m,JP m caps) (hc2:∀m,J7 m caps=caps) (hci:JO caps= []) {c:Code} (hc:f86.body=some c):
  Zpw prog (λs=>∃xs,xs=Xh x.al p/\s.n=27/\s.fr 5= .sl (.row 22) (xs.map tg)/\s.m.q 22=some (.live xs.length 2 25)) 3 c (St.init [mkr g x,.fn f caps] 27):=by
 cases hc;refine Zdo ?_;simp only[go_sem,mkr,Xa,tr,Zh,Zr];refine Zdo ?_;simp only[go_sem,mkr,Xa,tr,Zh,Zr];refine Zdo ?_;simp only[go_sem];refine T8 5 22 2 25 rfl rfl ?_;refine ZA (ι:= { k:Nat // k<=x.al.length }) 27 (λy=> [(1,.fn f caps),(5,.sl (.row 22) ((Xh (x.al.take y.1) p).map tg)),(9,Zr x.al),(10,.int .i64 (x.al.length:Int)),(11,.int .i64 (y.1:Int))]) (λ_=> []) (λy=> [(22,.live (Xh (x.al.take y.1) p).length 2 25)]) (λy=>x.al.length-y.1) ⟨0,Jh _⟩
  ⟨rfl,(Fc5 rfl rfl rfl rfl rfl),fnl,(fcs rfl fnl)⟩ (λy=>⟨Fc5 (by simp[Jv,hci]) (by simp[Jv,ZV]) rfl rfl rfl,fnl⟩) (λy=> ?_)
 obtain⟨k,hk⟩:=y;simp only;by_cases h:(k:Int)<(x.al.length:Int);have hka:k<x.al.length:=by omega
 have i1:=Jb k
 have w1:=wk9 (k:=k) (by omega)
 have hH:=hp _ (ZF (d:=Jd) hka);have hsn:=Zcg p hka;have hal:=ZaR (x.al.take k) p;have htl:(x.al.take k).length<=k:=Jt _ _;have hrm:=YX (show(Xh (x.al.take k) p).length+1<=1000000 by omega) (show 16<=1000 by omega);have hgd:=ZZ hka;generalize x.al.getD k Jd=o at *;generalize hW:Xh (x.al.take k) p=W at *;cases hb:p o;rw[hb]at hH;rw[hb,if_neg (by simp),Jg]at hsn;simp only[go_sem,Zr,h,hgd,opv,i1];refine Zl hH ?_ ?_ ?_;simp only[go_sem,hc1];simp only[go_sem,hc2,opv];simp only[go_sem,w1];exact⟨⟨k+1,by omega⟩,nx9 (by omega),⟨rfl,by simp only;rw[hsn];exact(Fc5 rfl rfl rfl rfl rfl),fnl,by simp only;rw[hsn];exact(fcs rfl fnl)⟩⟩;rw[hb]at hH;rw[hb,if_pos rfl]at hsn;simp only[go_sem,Zr,h,hgd,opv,i1];refine Zl hH ?_ ?_ ?_;simp only[go_sem,hc1];simp only[go_sem,hc2,opv];simp only[go_sem,hrm,W5,Gp,w1];exact⟨⟨k+1,by omega⟩,nx9 (by omega),⟨rfl,by simp only;rw[hsn,Jy];exact(Fc5 rfl rfl rfl rfl rfl),fnl,by simp only;rw[hsn,Jc];exact(fcs rfl fnl)⟩⟩;obtain rfl:k=x.al.length:=by omega
 simp only[go_sem,h,Jj];exact⟨_,rfl,rfl,rfl,rfl⟩
theorem Sa (g:List Eg) (x:Mkr) (f:FuncId) (caps:List PV) (p:Opn->Bool) (hl:x.al.length<=100000) (hp:∀o∈x.al,Pp f (opv o::caps) (.bool (p o))) (hc1:∀m,JP m caps) (hc2:∀m,J7 m caps=caps) (hci:JO caps= []):
  Pp 86 [mkr g x,.fn f caps] (tgs (Z2 x.al p)):=by
 refine PL.Pure.tail flatTg (k:=3) (i:=5) (d:=22) (N:=27) (G:=λxs=>xs=Xh x.al p) (g:=GS) func86 (by decide) rfl (by show 2<=27;decide) (Fr _) (Zii g x f caps p hl hp hc1 hc2 hci rfl) (λs ⟨xs,h1,h2,h3,h4⟩=>⟨xs,_,h1,h2,h3,h4⟩) ?_ (λxs h=>by rw[h];rfl);intro xs lo a w hG hd hN hr hlo;have hx:xs.length<=1000000:=by
  rw[hG];have:=ZaR x.al p;omega
 have hcall:=Zlb xs lo w _ hx hr hlo;refine ZgL (N:=27) hN (by decide) (by decide) (by decide) (by decide) (by decide) (by decide) (by decide) func137 (by decide) (by intro h;cases h) ?_;refine hcall.mono λe w' ⟨he,h1,h2⟩=>⟨_,he,λa' hd' hr'=>⟨.inr rfl,by rw[hd',hd],?_⟩⟩
 refine⟨a'.tmps.getD 4 undef,?_,by rw[hr'];exact h1,h2⟩;exact Go.results_tmp rfl _ _ _
open Go.PL Go.PL.Srt
theorem Zp3 {v:List Int} {i:Nat} (n:Int) (h:i<v.length):JS i (v.map (JG .i64))++ [.int .i64 n]++J3 (i+1) (v.map (JG .i64))=(v.set i n).map (.int .i64):=by
 have hs:(v.map (JG .i64)).set i (.int .i64 n)=_:=Jz;rw[if_pos (by simpa using h)]at hs;rw[Js,JA,<-hs,List.map_set]
theorem Zix {m:List Opn} {k:Nat} (h:k<m.length) {i:Nat} (hi:i<6) (hr:(m.getD k Jd).id.r=(i:Int)+1):Y2 (m.take (k+1))=(Y2 (m.take k)).set i ((Y2 (m.take k)).getD i 0+1):=by
 refine JR (by simp[Y2]) λj h1 h2=> ?_
 have hj:j<6:=by simpa[Y2]using h1
 rw[<-getD_lt (d:=0),<-getD_lt (d:=0),Z0 _ hj,Yx (d:=Jd) h,Zaw];by_cases e:i=j;subst e;rw[getD_setE (by rw[YC];exact hi),if_pos hr,Z0 _ hi,Jc];simp;rw[getD_setN e,if_neg (by omega),Z0 _ hj,Jg]
theorem WG (m:List Opn) (hm:PoolOk m):Pp 44 [Zr m] (Gc (Y2 m)):=by
 have hl:=hm.l;have hlm:m.length<=maxLen:=by rw[Zc];omega
 refine ZM func44 rfl ntmps44 results44 ?_;simp only[go_sem,Zr];refine ZA (ι:= { k:Nat // k<=m.length }) 24 (λx=> [(0,Zr m),(2,.ptr 2 0),(3,.ptr 3 0),(4,.int .i64 (x.1:Int))]) (λx=> [(2,[0,0,0,0,0,0].map (.int .i64),Hf),(3,(Y2 (m.take x.1)).map (.int .i64),Hf)]) (λx=> []) (λx=>m.length-x.1) ⟨0,Jh _⟩
  ⟨rfl,(Fc4 rfl rfl rfl rfl),Fc2 ⟨rfl,rfl⟩ ⟨rfl,rfl⟩,fnl⟩ (λx=>⟨(Fc4 rfl rfl rfl rfl),Fc2 rfl (by rw[Fl];rfl)⟩) (λx=> ?_)
 obtain⟨k,hk⟩:=x;simp only;by_cases h:(k:Int)<(m.length:Int);have hka:k<m.length:=by omega
 have i1:=Jb k
 have w1:=WD hka hlm;have hgd:=ZZ hka;obtain⟨e1,e2,e3,e4,e5⟩:=ZaG (hm.t _ (ZF (d:=Jd) hka));have hb:=hm.t _ (ZF (d:=Jd) hka);simp only[W6,Ja,decide_eq_true_eq]at hb;have hset:=Zix hka e4 (by omega);have hvl:=YC (m.take k);have hrow:=Z0 (m.take k) e4;have hrl:=XG (m.take k) ((m.getD k Jd).id.r-1).toNat;have htl:(m.take k).length<=k:=Jt _ _;generalize hx:m.getD k Jd=x at *;have hgv:((Y2 (m.take k)).map (JG .i64)).getD (x.id.r-1).toNat .any= .int .i64 ((Y2 (m.take k)).getD (x.id.r-1).toNat 0):=XZ (by rw[hvl];exact e4);have hcut:=Zp3 ((Y2 (m.take k)).getD (x.id.r-1).toNat 0+1) (show(x.id.r-1).toNat<(Y2 (m.take k)).length by rw[hvl];exact e4);have w2:IntKind.i64.wrap ((Y2 (m.take k)).getD (x.id.r-1).toNat 0+1)=(Y2 (m.take k)).getD (x.id.r-1).toNat 0+1:=by rw[hrow];exact w64 (by omega)
 have e6:(x.id.r-1).toNat+1<=6:=by omega
 simp only[go_sem,h,Zr,hgd,opv,i1,e1,e2,e3,e4,e5,e6,hgv,hvl,w1,w2,hcut];exact⟨⟨k+1,by omega⟩,nx9 (by omega),⟨rfl,(Fc4 rfl rfl rfl rfl),Fc2 ⟨rfl,rfl⟩ ⟨by show _=some ((Y2 (m.take (k+1))).map _);rw[hset];rfl,rfl⟩,fnl⟩⟩;obtain rfl:k=m.length:=by omega
 have hvl:=YC m;simp only[go_sem,h,Zr,Jj,Gc,hvl,Sq hvl,Zfg,Jc,Jg]
def ZlS (c it:Str) (o:Opn):Bool:=(o.kind==1)&&((o.cart==c)&&(o.item==it))
theorem X4 (l:List Opn) (c it:Str) (hl:l.length<=100000):Pp 43 [Zr l,.str c,.str it] (.bool (l.any (ZlS c it))):=by
 have hlm:l.length<=maxLen:=by rw[Zc];omega
 refine ZM func43 rfl ntmps43 results43 ?_;simp only[go_sem,Zr];refine ZA (ι:= { x:Nat // x<=(l).length/\(∀j,j<x->ZlS c it (l.getD j Jd)=Hf) }) 38 (λx=> [(0,Zr l),(1,.str c),(2,.str it),(7,.int .i64 (x.1:Int))]) (λx=> []) (λx=> []) (λx=>(l).length-x.1) ⟨0,Jh _,λj hj=>absurd hj (Kd j)⟩ ⟨rfl,(Fc4 rfl rfl rfl rfl),fnl,fnl⟩ (λx=>⟨(Fc4 rfl rfl rfl rfl),fnl⟩) (λx=> ?_);obtain⟨k,hk,hI⟩:=x;simp only at hk hI ⊢;by_cases h:(k:Int)<(l.length:Int)
 ·(have hka:k<(l).length:=by omega);(have w1:=WD hka (hlm));(have i1:=Jb k)
  have hgd:=ZZ hka;have hany:ZlS c it (l.getD k Jd)=Ht->l.any (ZlS c it)=true:=λhh=>JY.2 ⟨_,ZF hka,hh⟩
  have hnx:ZlS c it (l.getD k Jd)=Hf-> ∀j,j<k+1->ZlS c it (l.getD j Jd)=false:=λhh j hj=>by
   rcases Kg j k with h|h;exact hI j h;obtain rfl:j=k:=by omega
   exact hh
  unfold ZlS at hany hnx;cases a:((l.getD k Jd).kind==1)<;>cases b:((l.getD k Jd).cart==c)<;>cases d:((l.getD k Jd).item==it)<;>rw[a,b,d]at hany hnx
  case true.true.true=>
   have ht:=hany rfl;simp only[go_sem,Zr,h,hgd,opv,i1,a,b,d];exact ht
  all_goals
   simp only[go_sem,Zr,h,hgd,opv,i1,a,b,d,w1];exact⟨⟨k+1,by(try simp only);omega,hnx rfl⟩,by show(l).length-(k+1)<(l).length-k;omega,⟨rfl,(Fc4 rfl rfl rfl rfl),fnl,fnl⟩⟩
 have hf:l.any (ZlS c it)=false:=List.any_eq_false.2 λo ho=>by
  obtain⟨j,hj,rfl⟩:=Jl ho;have:=hI j (by omega);rw[getD_lt hj]at this;simp[this]
 simp only[go_sem,Zr,h,hf]
theorem Ub (k:Int) (f:Fd):Pp 46 [.int .i64 k,fld f] (.bool (UE k f)):=by
 refine ZM func46 rfl ntmps46 results46 ?_;simp only[go_sem,fld];repeat' ((first|(first|apply Zt|apply Zs|apply Zm)<;>intro h|refine vDq ?_)<;>first|simp only[go_sem,h]|simp only[go_sem]|skip)
 all_goals simp_all[UE]
open Go.PL
open Go.PL Go.PL.Srt
def FG (x y:Opn):Bool:= !Yu x y
def Um (out:List Opn) (x:Opn):Nat:=(out.takeWhile (FG x)).length
theorem ZkQ (out:List Opn) (x:Opn):Um out x<=out.length:=(List.takeWhile_prefix (FG x)).length_le
theorem Zgb:∀(out:List Opn) (x:Opn) (k:Nat),k<Um out x->Yu x (out.getD k Jd)=Hf
 | [],x,k,h=>by simp[Um]at h
 |y::out,x,k,h=>by
  unfold Um at h;rw[JI]at h;by_cases hx:FG x y=Ht;rw[if_pos hx]at h;cases k with
  |zero=>simpa[FG]using hx
  |succ k=>exact Zgb out x k (by simpa[Um]using h)
  rw[if_neg hx]at h;simp at h
theorem Zal:∀(out:List Opn) (x:Opn),Um out x<out.length->Yu x (out.getD (Um out x) Jd)=Ht
 | [],x,h=>by simp at h
 |y::out,x,h=>by
  by_cases hx:FG x y=Ht;have hp:Um (y::out) x=Um out x+1:=by unfold Um;rw[JI,if_pos hx];rfl
  rw[hp]at h ⊢;exact Zal out x (by simpa using h);have hp:Um (y::out) x=0:=by unfold Um;rw[JI,if_neg hx];rfl
  rw[hp];have:FG x y=false:=by simpa using hx
  simpa[FG]using this
theorem Zns {L:List Opn} {x:Opn} (hU:Unl Yu (L++ [x])):srt Yu (L++ [x])=(srt Yu L).take (Um (srt Yu L) x)++ [x]++(srt Yu L).drop (Um (srt Yu L) x):=by
 obtain⟨u1,_,u3⟩:=Unl.append.1 hU;have hI:=V6 oless_good u1;have hp:(srt Yu L).Perm L:=Y4 L;have hux:∀y∈srt Yu L,Yu y x=Ht\/Yu x y=true:=λy hy=>u3 y (hp.mem_iff.1 hy) x (by simp)
 generalize srt Yu L=out at *;have hsp:=List.take_append_drop (Um out x) out;rw[Js,JA];refine Zdj oless_good (by rw[hsp];exact hI) (λp hm=> ?_) (λq hm=> ?_) ?_;obtain⟨i,hi,rfl⟩:=Jl hm;have hi':i<Um out x:=by rw[JX]at hi;omega
 have h1:=Zgb out x i hi';have hio:i<out.length:=by have:=ZkQ out x;omega
 rw[List.getElem_take];rw[getD_lt hio]at h1;refine(hux _ (JU hio)).resolve_right (by rw[h1];simp);obtain⟨i,hi,rfl⟩:=Jl hm;have hi':Um out x+i<out.length:=by rw[JW]at hi;omega
 rw[List.getElem_drop];have h1:=Zal out x (by omega);rw[getD_lt (show Um out x<out.length by omega)]at h1;rcases Nat.eq_zero_or_pos i with rfl|hpos;exact h1;exact oless_good.trans _ _ _ h1 (JN.1 hI _ _ (by omega) hi' (by omega));refine(List.Perm.trans ?_ (hp.append_right [x]));have h2:(JS (Um out x) out++x::J3 (Um out x) out).Perm (x::(JS (Um out x) out++J3 (Um out x) out)):=List.perm_middle;rw[hsp]at h2;exact h2.trans (List.perm_append_comm (l₁:= [x]) (l₂:=out))
theorem Zd2 (l:List Opn) (k:Nat):cut (l.map opv) 0 (k:Int)=(l.take k).map opv:=by simp[cut,Ke]
theorem Zd0 (l:List Opn) (k:Nat):cut (l.map opv) (k:Int) (l.length:Int)=(l.drop k).map opv:=by
 unfold cut;rw[J9,J9,<-List.map_drop,<-Ke];congr 1;rw[Jm (by rw[JW];omega)]
def Zqx (m:List Eg) (l:List Opn) (o:Opn):Bool:=Sx m o&& !XJ (XV m l) o.id
def ZgO (m:List Eg) (l:List Opn) (k:Nat):List Opn:=srt Yu ((l.take k).filter (Zqx m l))
theorem Zmf (m:List Eg) (l:List Opn):ZgO m l l.length=VY m l:=by
 unfold ZgO VY Tn XV;rw[Jj,List.filter_filter];congr 1;exact List.filter_congr λo _=>by unfold Zqx;rw[Bool.and_comm];rfl
theorem Zmg (m:List Eg) (l:List Opn) (k:Nat):(ZgO m l k).length<=k:=by
 unfold ZgO;rw[ZI];exact JJ (Jp _ _) (Jt _ _)
theorem Zjz (m:List Eg) {l:List Opn} (hU:(l.map Opn.id).Nodup) {k:Nat} (h:k<l.length):
  ZgO m l (k+1)=if Zqx m l (l.getD k Jd)=Ht then(ZgO m l k).take (Um (ZgO m l k) (l.getD k Jd))++ [l.getD k Jd]++(ZgO m l k).drop (Um (ZgO m l k) (l.getD k Jd))else ZgO m l k:=by
 have hs:((l.take (k+1)).map Opn.id).Nodup:=JB.sublist ((List.take_sublist _ _).map _) hU;unfold ZgO;rw[Yx (d:=Jd) h]at hs ⊢;rw[Ju];generalize l.getD k Jd=x at *;cases hx:Zqx m l x;rw[Je (by rw[hx];simp),if_neg (by simp)];simp;rw[Jf (by exact hx),if_pos rfl,List.filter_nil];refine Zns (Zgv ?_);refine JB.sublist (Kh.map _ ?_) hs;exact(JH).append (Kh.refl _)
open Go.PL Go.PL.Srt
theorem DR {l:List Opn} (h:(l.map Opn.id).Nodup):l.Nodup:=by
 rw[JB,J5]at h;exact h.imp λh e=>h (congrArg _ e)
theorem V0 {m:List Opn} (h:PoolOk m) (hn:(m.map Opn.id).Nodup):(Yh m).Perm m:=by
 have h1:(Yh m).Nodup:=DR h.nodup;have h2:m.Nodup:=DR hn;exact(List.perm_ext_iff_of_nodup h1 h2).2 λo=>YV h
theorem U6 {g:List Eg} {l l':List Opn} (p:l.Perm l') (hn:(l.map Opn.id).Nodup):VY g l=VY g l':=by
 unfold VY;have hr:(XV g l).Perm (XV g l'):=p.filter _;have hd:∀t,XJ (XV g l) t=XJ (XV g l') t:=λt=>by
  rw[Jw];unfold XJ;rw[JY,JY];exact⟨λ⟨o,h1,h2⟩=>⟨o,hr.mem_iff.1 h1,h2⟩,λ⟨o,h1,h2⟩=>⟨o,hr.mem_iff.2 h1,h2⟩⟩
 have ha:(Tn g l).Perm (Tn g l'):=by
  unfold Tn;have:(λo:Opn=> !XJ (XV g l') o.id)=λo:Opn=> !XJ (XV g l) o.id:=by funext o;rw[hd]
  rw[this];exact hr.filter _
 exact ZaE oless_good (Zgv (JB.sublist ((Vz g l).map _) hn)) ha
theorem U0 {l l':List Opn} (p:l.Perm l'):clk l=clk l':=by
 unfold clk;exact p.foldl_eq' (λa _ b _ c=>by omega) 0
theorem SP (A:List Opn) (c it:Str):A.any (ZlS c it)=(A.filter λo=>o.cart==c).any (YT it):=by
 rw[List.any_filter];congr 1;funext o;unfold ZlS YT;cases(o.kind==1)<;>cases(o.cart==c)<;>rfl
open Go.PL
open Go.ChangeShapes Go.WideShapes Go.ChangeAt Go.RowKit
theorem ZqR:Zdx prog 46=false:=by kernel_rfl
theorem Zq2 {cs:List PV} (h:PT prog 46 cs):∃l:List Tg,cs= [.sl .no (l.map tg)]/\l.length<=maxLen:=by
 obtain⟨l,rfl,h1,h2⟩:=h.slice_inv ZqR underlying46;obtain⟨xs,rfl,_⟩:=T6 (enc:=tg) (Q:=λ_=>True) (λp hp=>by
  obtain⟨s,rfl⟩:=Zob (h2 p hp);exact⟨s,rfl,trivial⟩)
 exact⟨xs,rfl,by simpa using h1⟩
theorem Zs3 {p:PV} (h:PA prog 48 p):∃o:Opn,p=opv o/\o.drops.length<=maxLen:=by
 obtain⟨cs,rfl,h1⟩:=PA.agg Zpu h;have h1:PTs prog [25,25,2,9,3,9,27,2,4,9,46] cs:=h1.struct_inv underlying48;obtain⟨a1,b1,rfl,h2,h3⟩:=h1.cons_inv;obtain⟨a2,b2,rfl,h4,h5⟩:=h3.cons_inv;obtain⟨a3,b3,rfl,h6,h7⟩:=h5.cons_inv;obtain⟨a4,b4,rfl,h8,h9⟩:=h7.cons_inv;obtain⟨a5,b5,rfl,h10,h11⟩:=h9.cons_inv;obtain⟨a6,b6,rfl,h12,h13⟩:=h11.cons_inv;obtain⟨a7,b7,rfl,h14,h15⟩:=h13.cons_inv;obtain⟨a8,b8,rfl,h16,h17⟩:=h15.cons_inv;obtain⟨a9,b9,rfl,h18,h19⟩:=h17.cons_inv;obtain⟨aa,ba,rfl,h20,h21⟩:=h19.cons_inv;obtain⟨ab,bb,rfl,h22,h23⟩:=h21.cons_inv;obtain⟨x1,rfl⟩:=Zb1 h2;obtain⟨x2,rfl⟩:=Zb1 h4;obtain⟨x3,rfl,_⟩:=h6.int_inv underlying2;obtain⟨x4,rfl,_⟩:=h8.string_inv underlying9;obtain⟨x5,rfl,_⟩:=h10.int_inv underlying3;obtain⟨x6,rfl,_⟩:=h12.string_inv underlying9;obtain⟨x7,rfl⟩:=Zhk h14;obtain⟨x8,rfl,_⟩:=h16.int_inv underlying2;obtain⟨x9,rfl⟩:=h18.bool_inv underlying4;obtain⟨xa,rfl,_⟩:=h20.string_inv underlying9;obtain⟨xb,rfl,kb⟩:=Zq2 h22;rw[h23.nil_inv];exact⟨⟨x1,x2,x3,x4,x5,x6,x7,x8,x9,xa,xb⟩,rfl,kb⟩
open Go.PL
open Go.ChangeShapes Go.WideShapes Go.ChangeAt Go.RowKit
theorem ZqP:Zdx prog 23=false:=by kernel_rfl
theorem ZqZ {p:PV} (h:PA prog 23 p):∃l:List Opn,p=Zr l/\l.length<=maxLen:=by
 obtain⟨l,rfl,h1,h2⟩:=h.slice ZqP underlying23;obtain⟨xs,rfl,h3⟩:=T6 (enc:=opv) (Q:=λ_=>True) (λp hp=>by
  obtain⟨s,rfl,_⟩:=Zs3 (h2 p hp);exact⟨s,rfl,trivial⟩)
 exact⟨xs,rfl,by simpa using h1⟩
theorem ZsZ {x:Ln} (h:LenLn' x):LenLn x:=⟨h.c,h.f,h.b⟩
end Go.Proofs.YtepchngegclagaaGreat
