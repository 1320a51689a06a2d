/- Lemmas of the proof. -/
import Derived.Test.YtepchngegclagaaGreatPlH
import Derived.Test.YtepchngegclagaaGreatXAa
import Derived.Test.YtepchngegclagaaGreatXAh
import Derived.Test.YtepchngegclagaaGreatXAn
import Derived.Test.YtepchngegclagaaGreatXAz
import Derived.Test.YtepchngegclagaaGreatXBd
set_option maxHeartbeats 64000000
set_option maxRecDepth 20000
set_option linter.unusedVariables false
set_option linter.unusedSimpArgs false
open Inhabited renaming default→Jd
open Bool renaming true→Ht,false→Hf
open Go.Proofs.Tryz
open Go Go.PL
open Bool renaming and_eq_true→Jc,false_and→Jk,true_and→Ju,eq_iff_iff→Jy,eq_false_iff→Jz,true_eq_false→JK,and_false→JL,false_eq_true→JM,not_false→J2,and_self→J6
open Classical renaming not_not→JP
open Int renaming natCast_nonneg→Ja
open List renaming filter_cons_of_neg→Jb,append_nil→Je,filter_cons_of_pos→Jf,mem_singleton→Jg,length_append→Jh,length_filter_le→Ji,length_map→Jj,map_append→Jm,mem_append→Jn,getElem_map→Jo,take_of_length_le→Jp,filter_append→Jq,getElem_range→Jr,getElem_append_left→Js,length_take_le→Jt,take_length→Jv,range→JA,ext_getElem→JB,getElem_mem→JC,mem_map→JD,map_cons→JE,mem_cons_of_mem→JF,filter_sublist→JG,getElem_set_ne→JH,mem_cons_self→JN,getElem_append_right→JO,getElem_set→JS,all_eq_true→JT,length_cons→JU,getElem_cons_zero→JV,length_set→JW,mem_range→JZ,getElem_of_mem→J3,flatMap_append→J4,takeWhile_cons→J5,foldl_append→J8,append_assoc→J9,mem_flatMap→Ka,length_nil→Kd,range_succ→Ke,Nodup→Kf,Pairwise→Kg,take→Kh,set_set→Ki,set→Kk
open Nat renaming zero_le→Jl,le_trans→JI,le_refl→Kc,sub_self→Kj
open Option renaming isSome_iff_exists→JR
open PV renaming ids→Jw,idsL→JJ,givableL→JQ,sl→JX,int→JY,giveL→J7,agg→Kl,any→Km
namespace Go.Proofs.YtepchngegclagaaGreat
open Go.PL
theorem Zfu {f:Fd} (h:Yi f=Ht):f.kind=1\/f.kind=2\/f.kind=3\/f.kind=4:=by
 simp only[Yi,Jc]at h;have h:=h.2;by_cases k1:f.kind=1;exact .inl k1;rw[if_neg k1]at h;by_cases k3:f.kind=3;exact .inr (.inr (.inl k3));simp only[if_neg k3,Jc]at h;have h:=h.2;simp[Zil]at h;omega
theorem Zam (f:Fd) (s:Str) (hf:f.cases'.length<=maxLen):Pp 56 [fld f,.str s] (.bool (Da f s)):=by
 have hR:=Tf f hf;have hT:=Sb s;have hC:=TQ f.cases' s hf;unfold Da;cases hr:Yi f;rw[hr]at hR;refine ZF func56 rfl ntmps56 results56 ?_;simp only[go_sem,fld];refine vc2 hR ?_;simp only[go_sem,Jk];have hk:=Zfu hr;rw[hr]at hR;have e41:decide ((s.length:Int)<=40)=decide ((s.length:Int)<41):=by rw[Jy];simp;omega
 rw[e41]at hT;obtain⟨a,kind,d,c,w⟩:=f;simp only at hk hR hT hC ⊢;rcases hk with rfl|rfl|rfl|rfl;refine ZF func56 rfl ntmps56 results56 ?_;simp only[go_sem,fld];refine vc2 hR ?_;simp only[go_sem];rfl;refine ZF func56 rfl ntmps56 results56 ?_;simp only[go_sem,fld];refine vc2 hR ?_;simp only[go_sem];refine vc1 hT ?_;simp only[go_sem];simp;refine ZF func56 rfl ntmps56 results56 ?_;simp only[go_sem,fld];refine vc2 hR ?_;simp only[go_sem];refine vc1 hC ?_;simp only[go_sem];simp;refine ZF func56 rfl ntmps56 results56 ?_;simp only[go_sem,fld];refine vc2 hR ?_;simp only[go_sem];refine vc1 hT ?_;simp only[go_sem];simp
def DY (l:List Fd) (o:Opn):Bool:=
 Yk o&&(if Ye o=Hf then Ht else decide ((ZC l o.at').2=0)&&(if o.kind=3 then decide ((ZC l o.at').1.kind=1)else if o.has=Ht then Da (ZC l o.at').1 o.text else decide ((ZC l o.at').1.kind=4)))
theorem Zao (l:List Fd) (o:Opn) (hl:OkFs l) (ho:o.drops.length<=maxLen):Pp 17 [Zp l,opv o] (.bool (DY l o)):=by
 have hR:=Ua o ho;have hP:=T0 o;have hF:=WQ l o.at' (by have:=hl.n;omega) hl.c;have okf:=ZgE hl o.at';have hT:=Zam (ZC l o.at').1 o.text (by rw[Zd];omega);unfold DY;cases hr:Yk o;rw[hr]at hR;refine ZF func17 rfl ntmps17 results17 ?_;simp only[go_sem,Zp,opv];refine vc6 hR ?_;simp only[go_sem,Jk];rw[hr]at hR;cases hp:Ye o;rw[hp]at hP;refine ZF func17 rfl ntmps17 results17 ?_;simp only[go_sem,Zp,opv];refine vc6 hR ?_;simp only[go_sem,opv];refine vc6 hP ?_;simp only[go_sem,Ju,if_true];rw[hp]at hP;simp only[Ju,JK,if_false];generalize ZC l o.at'=y at *;obtain⟨f,c⟩:=y;simp only at hT okf ⊢;by_cases hc:c=0;have ec:(c !=0)=false:=by simpa using hc
 simp only[hc,decide_true,Ju];by_cases k3:o.kind=3;have e3:(o.kind==3)=true:=by simpa using k3
 have ek:(f.kind==1)=decide (f.kind=1):=by rw[Jy];simp
 rw[if_pos k3];refine ZF func17 rfl ntmps17 results17 ?_;simp only[go_sem,Zp,opv];refine vc6 hR ?_;simp only[go_sem,opv];refine vc6 hP ?_;simp only[go_sem];refine vc2 hF ?_;simp only[go_sem,VO,fld,ec,e3,ek];have e3:(o.kind==3)=false:=by simpa using k3
 rw[if_neg k3];have ek:(f.kind==4)=decide (f.kind=4):=by rw[Jy];simp
 cases hh:o.has;refine ZF func17 rfl ntmps17 results17 ?_;simp only[go_sem,Zp,opv,hh];refine Zk hR ?_ ?_ ?_;simp only[go_sem,opv];simp only[go_sem,opv,hh];simp only[go_sem,opv];refine Zk hP ?_ ?_ ?_;simp only[go_sem,opv];simp only[go_sem,opv,hh];simp only[go_sem];refine vc2 hF ?_;simp only[go_sem,VO,fld,ec,e3,ek,if_false];refine ZF func17 rfl ntmps17 results17 ?_;simp only[go_sem,Zp,opv,hh];refine Zk hR ?_ ?_ ?_;simp only[go_sem,opv];simp only[go_sem,opv,hh];simp only[go_sem,opv];refine Zk hP ?_ ?_ ?_;simp only[go_sem,opv];simp only[go_sem,opv,hh];simp only[go_sem];refine vc2 hF ?_;simp only[go_sem,VO,fld,ec,e3];refine vc2 hT ?_;simp only[go_sem,if_true];have ec:(c !=0)=true:=by simpa using hc
 refine ZF func17 rfl ntmps17 results17 ?_;simp only[go_sem,Zp,opv];refine vc6 hR ?_;simp only[go_sem,opv];refine vc6 hP ?_;simp only[go_sem];refine vc2 hF ?_;simp only[go_sem,VO,fld,ec,hc,Jk]
open Go.PL
theorem ZmH {x:Ln} {o:Opn} (h:OkOp o):OkOp (F7 x o).1:=by
 have hd:=h.d;refine⟨?_⟩;unfold F7 Yv;repeat' split
 all_goals first|exact hd|exact Jl _
open Go.PL
def TK:List Ln->Opn->Opn×Bool
 | [],o=>(o,Ht)
 |x::xs,o=>if(F7 x o).2=Hf then(Jd,Hf)else TK xs (F7 x o).1
theorem ZeN (x:Ln) (xs:List Ln) (o:Opn):TK (x::xs) o=if(F7 x o).2=Hf then(Jd,Hf)else TK xs (F7 x o).1:=rfl
structure Worth (l:List Fd) (o:Opn) (w:Int):Prop where
 k:o.kind=3
 f:∃f,ZC l o.at'=(f,0)/\f.kind=1/\1<=f.worth/\f.worth<=1048576/\o.delta*f.worth=w
 b: -1099511627776<=w/\w<=1099511627776
open Go.PL
open Go.PL
def Zt6 (o:Opn) (t:Tg):Opn:=⟨o.id,t,o.time,o.cart,o.kind,o.item,o.at',o.delta,o.has,o.text,o.drops⟩
def Zpt (m:List Eg) (a b:Tg) (o:Opn):Opn×Bool:=
 if Um m a b≠0 then(Jd,Hf)else if(TK (Zky m a b).1 o).2=Hf then(Jd,Hf)else(Zt6 (TK (Zky m a b).1 o).1 b,Ht)
def DQ (m:List Eg) (o:Opn) (b:Tg):Int:=
 if Yk o=Hf then 5 else if upC m o.sch≠0 then upC m o.sch else if upC m b≠0 then upC m b else if DY (Y0 (Zc m) o.sch).1 o=Hf then 16 else 0
structure SeenT where
 o:Opn
 ok:Bool
 c:Int
 deriving DecidableEq,Inhabited
def toT (m:List Eg) (o:Opn) (b:Tg):SeenT:=if DQ m o b≠0 then⟨Jd,Hf,DQ m o b⟩else⟨(Zpt m o.sch b o).1,(Zpt m o.sch b o).2,0⟩
def Zh8 (m:List Eg) (o:Opn):Bool:=Yk o&&(decide (upC m o.sch=0)&&DY (Y0 (Zc m) o.sch).1 o)
theorem Zkz {m:List Eg} (hr:RightM m) {a:Tg} (hu:upC m a=0):Yj (Y0 (Zc m) a).1=true:=by
 obtain⟨wa,fa,_⟩:=Xx hu;exact D3 _ (λe he=>Zjl (hr.r e (wa.mem e he))) Zh9 fa
open Go.PL
open Go.PL
structure AoS (rws:List Ln) (o0:Opn) where
 k:Nat
 o:Opn
 hk:k<=rws.length
 ok:OkOp o
 h:TK (rws.drop k) o=TK rws o0
def Zg7:List PV:= [.int .i64 0,.int .i64 0,.int .i64 0,.int .i64 0,.int .i64 0,.str [],.int .i64 0,.str [],.int .i64 0,.str [],.str [],.int .i64 0,.bool Hf,.str [],.sl .nil []]
theorem ZeG (rws:List Ln) (o:Opn) (hl:rws.length<=1000) (hx:∀x∈rws,OkLn x) (ho:OkOp o):Pp 205 [Zeq rws,opv o] (opb (TK rws o)):=by
 have hW:=Xs o ho;refine ZM func205 rfl ntmps205 results205 (Zu _) ?_;simp only[go_sem,Zeq,opv];refine Zf0 (ι:=AoS rws o) 31 (λx=> [(0,Zeq rws),(3,.ptr 3 0),(4,.ptr 4 0),(6,.int .i64 (x.k:Int))]) (λx=> [(3,Xg x.o,Hf),(4,Zg7,Hf)]) (λx=> []) (λx=>rws.length-x.k) 0 _ (by exact rfl) (λx=>⟨(Fc4 rfl rfl rfl rfl),Fc2 rfl rfl⟩) (λx=> ?_) (λcut=> ?_);obtain⟨k,p,hk,ok,h⟩:=x;simp only;by_cases he:k=rws.length;have hb:((k:Int)==(rws.length:Int))=true:=by simp[he]
 have hd:TK rws o=(p,Ht):=by rw[<-h,he,List.drop_length];rfl
 simp only[go_sem,Zeq,hb,hd,opb,opv,Xg,Zg7];have hb:((k:Int)==(rws.length:Int))=false:=by simp;omega
 have hka:k<rws.length:=by omega
 have i0:=Ja k
 have i1:(k:Int)<(rws.length:Int):=by omega
 have w1:=wk9 (k:=k) (by omega)
 have hT:=ZiJ (rws.getD k Jd) p (hx _ (Ze (d:=Jd) hka)) ok;have okn:=ZmH (x:=rws.getD k Jd) ok;rw[Zog hka,ZeN]at h;cases hz:(F7 (rws.getD k Jd) p).2
 ·rw[if_pos hz]at h;simp only[go_sem,Zeq,hb];refine vDq ?_;simp only[go_sem,Zjx hka,lns,i0,i1,Xg,opv];refine vc6 hT ?_;simp only[go_sem,opb,opv,hz,<-h,Zg7];try rfl
 rw[if_neg (by rw[hz];simp)]at h;simp only[go_sem,Zeq,hb];refine vDq ?_;simp only[go_sem,Zjx hka,lns,i0,i1,Xg,opv];refine vc6 hT ?_;simp only[go_sem,opb,opv,hz,w1,Zg7];exact⟨⟨k+1,(F7 (rws.getD k Jd) p).1,by omega,okn,h⟩,nx9 (by omega),⟨rfl,(Fc4 rfl rfl rfl rfl),Fc2 ⟨rfl,rfl⟩ ⟨rfl,rfl⟩,fnl⟩⟩;simp only[go_sem];refine vc6 hW ?_;simp only[go_sem,opv];exact YM (cut ⟨0,o,Jl _,ho,rfl⟩ _ ⟨rfl,(Fc4 rfl rfl rfl rfl),Fc2 ⟨rfl,rfl⟩ ⟨rfl,rfl⟩,fnl⟩)
theorem OkOp.len {o:Opn} (h:OkOp o):o.drops.length<=maxLen:=by have:=h.d;rw[Zd];omega
theorem ZfI (m:List Eg) (o:Opn) (a b:Tg) (hm:OkM m) (hr:RightM m) (ho:OkOp o):Pp 160 [tr (Zc m),opv o,tg a,tg b] (opb (Zpt m a b o)):=by
 have hR:=Zlz m a b hm hr;obtain⟨hrl,hro⟩:=ZqH (a:=a) (b:=b) hm;have hA:=ZeG (Zky m a b).1 o hrl hro ho;have hc2:(Zky m a b).2=Um m a b:=by unfold Zky;split<;>simp_all
 unfold Zpt;by_cases hc:Um m a b=0;rw[if_neg (λh=>h hc)];rw[hc]at hc2;generalize Zky m a b=rw0 at *;obtain⟨rws,c0⟩:=rw0;simp only at hc2 hrl hro hA ⊢;subst hc2;cases hz:(TK rws o).2
 ·simp only[if_true];refine ZM func160 rfl ntmps160 results160 (Zu _) ?_;simp only[go_sem,tr,tg,opv];refine vc5 hR ?_;simp only[go_sem,ZnF,Zeq];refine Zk hA ?_ ?_ ?_;iterate 2 simp only[go_sem,Zeq,opv]
  simp only[go_sem,opb,opv,hz];try rfl
 ·simp only[JK,if_false];refine ZM func160 rfl ntmps160 results160 (Zu _) ?_;simp only[go_sem,tr,tg,opv];refine vc5 hR ?_;simp only[go_sem,ZnF,Zeq];refine Zk hA ?_ ?_ ?_;iterate 2 simp only[go_sem,Zeq,opv]
  simp only[go_sem,opb,opv,hz,Zt6]
 have hc':(Um m a b !=0)=true:=by simpa using hc
 rw[if_pos hc];refine ZM func160 rfl ntmps160 results160 (Zu _) ?_;simp only[go_sem,tr,tg,opv];refine vc5 hR ?_;simp only[go_sem,ZnF,Zeq,hc2,hc',opb,Zi];try rfl
def SP (x:SeenT):PV:= .tup [opv x.o,.bool x.ok,.int .i64 x.c]
theorem V6 (x:SeenT):(SP x).dids= []:=by simp only[SP,PV.dids,PV.didsL,TA,Je]
theorem Za4 {m:List Eg} {a:Tg} (hm:OkM m) (hu:upC m a=0):OkFs (Y0 (Zc m) a).1:=by
 obtain⟨wa,fa,_⟩:=Xx hu;exact Zkb _ (λe he=>hm.l e (wa.mem e he)) Zke fa
theorem ZcO (m:List Eg) (o:Opn) (b:Tg) (hm:OkM m) (hr:RightM m) (ho:OkOp o):Pp 120 [tr (Zc m),opv o,tg b] (SP (toT m o b)):=by
 have hR:=Ua o ho.len;have hSa:=XB m o.sch hm;have hSb:=XB m b hm;have hA:=ZfI m o o.sch b hm hr ho;cases h1:Yk o
 ·rw[h1]at hR;have ht:toT m o b=⟨Jd,Hf,5⟩:=by simp[toT,DQ,h1]
  rw[ht];refine ZM func120 rfl ntmps120 results120 (V6 _) ?_;simp only[go_sem,tr,tg,opv];refine vc6 hR ?_;simp only[go_sem,SP,Zi];try rfl
 rw[h1]at hR;by_cases h2:upC m o.sch=0;have okA:=Za4 hm h2;have hF:=Zao (Y0 (Zc m) o.sch).1 o okA ho.len;have v2:(Y0 (Zc m) o.sch).2=0:=h2;by_cases h3:upC m b=0;have v3:(Y0 (Zc m) b).2=0:=h3;cases h4:DY (Y0 (Zc m) o.sch).1 o
 ·rw[h4]at hF;have ht:toT m o b=⟨Jd,Hf,16⟩:=by simp[toT,DQ,h1,h2,h3,h4]
  rw[ht];clear ht h4 h2 h3 okA hA;generalize Y0 (Zc m) o.sch=ya at *;obtain⟨A,ca⟩:=ya;generalize Y0 (Zc m) b=yb at *;obtain⟨B,cb⟩:=yb;simp only at v2 v3 hF;subst v2 v3;refine ZM func120 rfl ntmps120 results120 (V6 _) ?_;simp only[go_sem,tr,tg,opv];refine vc6 hR ?_;simp only[go_sem];refine vc5 hSa ?_;simp only[go_sem,YJ,Zp];refine vc5 hSb ?_;simp only[go_sem,YJ,Zp];refine vc6 hF ?_;simp only[go_sem,SP,Zi];try rfl
 rw[h4]at hF;have ht:toT m o b=⟨(Zpt m o.sch b o).1,(Zpt m o.sch b o).2,0⟩:=by simp[toT,DQ,h1,h2,h3,h4]
 rw[ht];clear ht h4 h2 h3 okA;generalize Zpt m o.sch b o=yw at *;obtain⟨wq,wk⟩:=yw;generalize Y0 (Zc m) o.sch=ya at *;obtain⟨A,ca⟩:=ya;generalize Y0 (Zc m) b=yb at *;obtain⟨B,cb⟩:=yb;simp only at v2 v3 hF;subst v2 v3;refine ZM func120 rfl ntmps120 results120 (V6 _) ?_;simp only[go_sem,tr,tg,opv];refine vc6 hR ?_;simp only[go_sem];refine vc5 hSa ?_;simp only[go_sem,YJ,Zp];refine vc5 hSb ?_;simp only[go_sem,YJ,Zp];refine vc6 hF ?_;simp only[go_sem];refine vcn hA ?_;simp only[go_sem,opb,opv,SP]
 ·have v3:((Y0 (Zc m) b).2 !=0)=true:=by have h':(Y0 (Zc m) b).2≠0:=h3;simpa using h'
  have ht:toT m o b=⟨Jd,Hf,(Y0 (Zc m) b).2⟩:=by
   have e:upC m b=(Y0 (Zc m) b).2:=rfl;rw[<-e];simp[toT,DQ,h1,h2,h3]
  rw[ht];clear ht h2 h3 okA hA;generalize Y0 (Zc m) o.sch=ya at *;obtain⟨A,ca⟩:=ya;generalize Y0 (Zc m) b=yb at *;obtain⟨B,cb⟩:=yb;simp only at v2 v3 hF;subst v2;refine ZM func120 rfl ntmps120 results120 (V6 _) ?_;simp only[go_sem,tr,tg,opv];refine vc6 hR ?_;simp only[go_sem];refine vc5 hSa ?_;simp only[go_sem,YJ,Zp];refine vc5 hSb ?_;simp only[go_sem,YJ,Zp,v3,SP,Zi];try rfl
 have v2:((Y0 (Zc m) o.sch).2 !=0)=true:=by have h':(Y0 (Zc m) o.sch).2≠0:=h2;simpa using h'
 have ht:toT m o b=⟨Jd,Hf,(Y0 (Zc m) o.sch).2⟩:=by
  have e:upC m o.sch=(Y0 (Zc m) o.sch).2:=rfl;rw[<-e];simp[toT,DQ,h1,h2]
 rw[ht];clear ht h2 hA;generalize Y0 (Zc m) o.sch=ya at *;obtain⟨A,ca⟩:=ya;simp only at v2;refine ZM func120 rfl ntmps120 results120 (V6 _) ?_;simp only[go_sem,tr,tg,opv];refine vc6 hR ?_;simp only[go_sem];refine vc5 hSa ?_;simp only[go_sem,YJ,Zp,v2,SP,Zi];try rfl
theorem ZeI (m:List Eg) (o:Opn) (hm:OkM m) (ho:OkOp o):Pp 118 [tr (Zc m),opv o] (.bool (Zh8 m o)):=by
 have hR:=Ua o ho.len;have hSa:=XB m o.sch hm;unfold Zh8;cases h1:Yk o;rw[h1]at hR;refine ZF func118 rfl ntmps118 results118 ?_;simp only[go_sem,tr,opv];refine vc6 hR ?_;simp only[go_sem,Jk];rw[h1]at hR;by_cases h2:upC m o.sch=0;have hF:=Zao (Y0 (Zc m) o.sch).1 o (Za4 hm h2) ho.len;rw[decide_eq_true h2];have v2:(Y0 (Zc m) o.sch).2=0:=h2;generalize Y0 (Zc m) o.sch=ya at *;obtain⟨A,ca⟩:=ya;simp only at v2 hF;subst v2;refine ZF func118 rfl ntmps118 results118 ?_;simp only[go_sem,tr,opv];refine vc6 hR ?_;simp only[go_sem,tg];refine vc5 hSa ?_;simp only[go_sem,YJ,Zp];refine vc6 hF ?_;simp only[go_sem,Ju];have v2:((Y0 (Zc m) o.sch).2==0)=false:=by have h':(Y0 (Zc m) o.sch).2≠0:=h2;simpa using h'
 rw[decide_eq_false h2];refine ZF func118 rfl ntmps118 results118 ?_;simp only[go_sem,tr,opv];refine vc6 hR ?_;simp only[go_sem,tg];refine vc5 hSa ?_;simp only[go_sem,YJ,Zp,v2,Jk,JL]
open Go.PL Go.PL.Srt
def YU (m:List Eg) (l:List Opn):List Opn:=l.filter λo=>Zh8 m o
def XD (l:List Opn) (t:Tg):Bool:=l.any λo=>decide (t∈o.drops)
def WJ (m:List Eg) (l:List Opn):List Opn:=(YU m l).filter λo=> !XD (YU m l) o.id
def UE (m:List Eg) (l:List Opn):List Opn:=srt XM (WJ m l)
theorem SG (m:List Eg) (l:List Opn):(YU m l).Sublist l:=JG
theorem XI (m:List Eg) (l:List Opn):(WJ m l).Sublist l:=JG.trans (SG m l)
theorem Zcl {l:List Opn} (h:(l.map Opn.id).Nodup):Unl XM l:=by
 rw[List.nodup_iff_pairwise_ne,List.pairwise_map]at h;exact h.imp λh=>Zkf h
theorem Fg (m:List Eg) (l:List Opn):(UE m l).Perm (WJ m l):=Yz _
theorem Sy (m:List Eg) (l:List Opn):(UE m l).length<=l.length:=by rw[(Fg m l).length_eq];exact(XI m l).length_le
theorem Dq {m:List Eg} {l:List Opn} {o:Opn} (h:o∈UE m l):o∈l:=(XI m l).mem ((Fg m l).mem_iff.1 h)
theorem Zda (t:Tg):∀(l:List Tg) (i:Nat),findP [.int,.int] [.int .i64 t.r,.int .i64 t.n] (l.map tg) i=some ((l.findIdx? λx=>decide (t=x)).map (· + i))
 | [],i=>rfl
 |n::l,i=>by
  have ih:=Zda t l (i+1);simp only[JE,tg,findP,Zt,VV,if_true,List.findIdx?_cons,Bool.and_true,ZB];by_cases h:t=n;simp[h];simp only[h,decide_false,ih];simp only[JM,if_false,Option.map_map];congr 2;funext x;simp;omega
theorem Tp (t:Tg) (l:List Tg):findP [.int,.int] [.int .i64 t.r,.int .i64 t.n] (l.map tg) 0=some (l.findIdx? λx=>decide (t=x)):=by
 rw[Zda];congr 1;cases List.findIdx? (λx=>decide (t=x)) l<;>rfl
theorem ZbO {t:Tg} {l:List Tg}:(l.findIdx? λx=>decide (t=x))=none↔t∉l:=by
 rw[List.findIdx?_eq_none_iff];constructor;intro h hm;have:=h t hm;simp at this;intro h x hx;simp only[decide_eq_false_iff_not];intro e;exact h (e▸hx)
theorem Zh7 (m:List Eg) {l:List Opn} {k:Nat} (h:k<l.length):YU m (l.take (k+1))=YU m (l.take k)++(if Zh8 m (l.getD k Jd)=Ht then [l.getD k Jd]else []):=by
 unfold YU;rw[ZT (d:=Jd) h,Jq];congr 1;generalize l.getD k Jd=x;cases hr:Zh8 m x;rw[Jb (by rw[hr];simp),if_neg (by simp)];rfl;rw[Jf (by exact hr),if_pos rfl];rfl
structure LivS (m:List Eg) (l:List Opn) where
 k:Nat
 ks:List Tg
 hk:k<=l.length
 h:∀t,t∈ks↔XD (YU m (l.take k)) t=Ht
def tgm (ks:List Tg):MapC:=⟨ks.map tg,ks.map λ_=> .agg []⟩
theorem Zhz (l:List Opn) (o:Opn) (t:Tg):XD (l++ [o]) t=Ht↔XD l t=Ht\/t∈o.drops:=by simp[XD]
theorem Zic {i:Nat} {l:List Tg}:(l.map λ_=>Kl []).set i (Kl [])=l.map λ_=>Kl []:=by
 apply JB;simp;intro j h1 h2;rw[JS];split<;>simp
theorem ZaW (m:List Eg) (l:List Opn) (hm:OkM m) (hl:l.length<=100000) (ho:∀o∈l,OkOp o) (hU:(l.map Opn.id).Nodup):
  Eff prog 64 [tr (Zc m),Zr l] noV (.vsl 63 (UE m l).length 15) (Ziy 63 (UE m l).length 15 48 ((UE m l).map opv)):=by
 have hcl:∀l:List Opn,∀p∈l.map opv,p.ids= []:=λl=>YX XF l
 refine Eff.vn [63] func64 (by decide) rfl ntmps64 results64 (by simp) (hcl _) (by simp[Jw,tr,Zr]) (by simp[Jw]) ?_;have hlm:l.length<=maxLen:=by rw[Zd];omega
 simp only[go_sem,tr,Zr];intro b;refine Y6 5 32 15 48 rfl rfl ?_;refine XP (ι:=LivS m l) 68 (λx=> [(0,tr (Zc m)),(5,.sl (.row 32) ((YU m (l.take x.k)).map opv)),(6,.mref b),(19,Zr l),(20,.int .i64 (l.length:Int)),(21,.int .i64 (x.k:Int))]) (λ_=> []) (λx=> [(32,.live (YU m (l.take x.k)).length 15 48)]) (λx=> [(b,tgm x.ks)]) (λ_=> []) (λ_=> []) (λ_=> []) [] [] [63] (λx=>l.length-x.k) ⟨0,[],Jl _,λt=>by simp[XD,YU]⟩
  (ZaQ rfl (Fc6 rfl rfl rfl rfl rfl rfl) rfl (by simp[upd,Hp.setq,St.with,tgm])) (λx=>Zg6 (Fc6 rfl rfl rfl rfl rfl rfl)) (λx=> ?_)
 obtain⟨k,ks,hk,h⟩:=x;simp only;by_cases hlt:(k:Int)<(l.length:Int);have hka:k<l.length:=by omega
 have i0:=Ja k
 have w1:=wk9 (k:=k) (by omega)
 have hR:=ZeI m (l.getD k Jd) hm (ho _ (Zy hka));have hsn:=Zh7 m hka;have hrl:(YU m (l.take k)).length<=100000:=JI (JI (SG _ _).length_le (Jt _ _)) (by omega);cases hrd:Zh8 m (l.getD k Jd);rw[hrd]at hR;rw[hrd]at hsn;simp only[JM,if_false,Je]at hsn;simp only[go_sem,Zr,hlt,ZI hka,opv,i0];refine vc7 hR ?_;simp only[go_sem,w1];exact⟨⟨k+1,ks,by omega,λt=>by rw[hsn];exact h t⟩,nx9 (by omega),ZaQ rfl (by simp only;rw[hsn];exact(Fc6 rfl rfl rfl rfl rfl rfl)) (by simp only;rw[hsn];rfl) (by simp[upd,Hp.setq,St.with,mkStX,Ya])⟩;rw[hrd]at hR;rw[hrd]at hsn;simp only[if_true]at hsn;have hrm:=YV (show(YU m (l.take k)).length+1<=1000000 by omega) (show 176<=1000 by omega);have hdl:=(ho (l.getD k Jd) (Zy hka)).d;generalize hx:l.getD k Jd=x at *;have hsz:=Yt (YU m (l.take k));have hsx:Sized 15 [opv x]:=Yt [x];have hax:XQ [opv x]:=Wj [x];have hml:((YU m (l.take k)).map opv).length=(YU m (l.take k)).length:=Jj _;simp only[opv]at hsx hax;simp only[go_sem,Zr,hlt,ZI hka,hx,opv,i0];refine vc7 hR ?_;simp only[go_sem,hml,hrm,hsz,hsx,hax];refine XP (ι:= { jk:Nat×List Tg // jk.1<=x.drops.length/\ ∀t,t∈jk.2↔(XD (YU m (l.take k)) t=Ht\/t∈x.drops.take jk.1) }) 68 (λy=> [(0,tr (Zc m)),(5,.sl (.row 32) ((YU m (l.take k)++ [x]).map opv)),(6,.mref b),(19,Zr l),(20,.int .i64 (l.length:Int)),(21,.int .i64 (k:Int)),(34,tgs x.drops),(35,.int .i64 (x.drops.length:Int)),(36,.int .i64 (y.1.1:Int))]) (λ_=> []) (λy=> [(32,.live ((YU m (l.take k)).length+1) 15 48)]) (λy=> [(b,tgm y.1.2)]) (λ_=> []) (λ_=> []) (λ_=> []) [] [] [63] (λy=>x.drops.length-y.1.1) ⟨(0,ks),Jl _,λt=>by rw[h t];simp⟩
  (ZaQ rfl (by rw[Jm];exact(Fc9 rfl rfl rfl rfl rfl rfl rfl rfl rfl)) rfl (by simp[upd,Hp.setq,St.with,mkStX,Ya])) (λy=>Zg6 (Fc9 rfl rfl rfl rfl rfl rfl rfl rfl rfl)) (λy=> ?_)
 obtain⟨⟨j,ks'⟩,hj,h'⟩:=y;simp only at hj h' ⊢;by_cases hjt:(j:Int)<(x.drops.length:Int);have hja:j<x.drops.length:=by omega
 have j0:=Ja j
 have w2:=wk9 (k:=j) (by omega)
 have hmem:∀t,t∈x.drops.take (j+1)↔t∈x.drops.take j\/t=x.drops.getD j Jd:=λt=>by rw[ZT (d:=Jd) hja];simp
 generalize ht:x.drops.getD j Jd=t at *;cases hf:ks'.findIdx? (λy=>decide (t=y))with
 |none=>
  simp only[go_sem,tgs,hjt,ZK hja,ht,tg,j0,tgm,Tp,hf,w2];refine⟨⟨(j+1,ks'++ [t]),hja,λu=> ?_⟩,nx9 (by omega),ZaQ rfl (Fc9 rfl rfl rfl rfl rfl rfl rfl rfl rfl) rfl (by simp[upd,Hp.setq,St.with,mkStX,Ya,tgm,tg])⟩;rw[hmem,Jn,h',Jg,or_assoc]
 |some i=>
  simp only[go_sem,tgs,hjt,ZK hja,ht,tg,j0,tgm,Tp,hf,w2];have hin:t∈ks':=JP.1 λhn=>by rw[ZbO.2 hn]at hf;cases hf
  refine⟨⟨(j+1,ks'),hja,λu=> ?_⟩,nx9 (by omega),ZaQ rfl (Fc9 rfl rfl rfl rfl rfl rfl rfl rfl rfl) rfl (by simp[upd,Hp.setq,St.with,mkStX,Ya,tgm,Zic])⟩;rw[hmem,<-or_assoc,<-h'];constructor
  ·exact .inl
  ·rintro (e|e)
   ·exact e
   ·rw[e];exact hin
 obtain rfl:j=x.drops.length:=by omega
 rw[Jv]at h';simp only[go_sem,hjt,w1];refine⟨⟨k+1,ks',by omega,λt=>by rw[hsn,Zhz];exact h' t⟩,nx9 (by omega),ZaQ rfl (by simp only;rw[hsn];exact(Fc6 rfl rfl rfl rfl rfl rfl)) (by simp only;rw[hsn,Jh];rfl) (by simp[upd,Hp.setq,St.with,mkStX,Ya])⟩;obtain rfl:k=l.length:=by omega
 rw[Jv]at h;simp only[go_sem,hlt,Jv];generalize hrd:YU m l=rd at *;have hrl:rd.length<=100000:=by rw[<-hrd];exact JI (SG _ _).length_le hl
 have hal:WJ m l=rd.filter λo=> !XD rd o.id:=by unfold WJ;rw[hrd]
 refine Zht 11 63 15 48 rfl rfl ?_;refine XP (ι:= { k:Nat // k<=rd.length }) 68 (λy=> [(6,.mref b),(11,.vsl 63 ((rd.take y.1).filter λo=> !XD rd o.id).length 15),(45,.sl (.row 32) (rd.map opv)),(46,.int .i64 (rd.length:Int)),(47,.int .i64 (y.1:Int))]) (λ_=> []) (λy=> [(63,.vec ((rd.take y.1).filter λo=> !XD rd o.id).length 15 48),(32,.live rd.length 15 48)]) (λy=> [(b,tgm ks)]) (λ_=> []) (λy=> [(63,((rd.take y.1).filter λo=> !XD rd o.id).map opv)]) (λ_=> []) [] [] [63] (λy=>rd.length-y.1) ⟨0,Jl _⟩
  (ZbJ rfl (Fc5 rfl rfl rfl rfl rfl) rfl rfl rfl (by simp[upd,Hp.setq,St.with,mkStX,Ya,tgm])) (λy=>Zll (by simp[Jw,JJ,ZN]) (Yh XF _)) (λy=> ?_)
 obtain⟨k,hk⟩:=y;simp only;by_cases hlt2:(k:Int)<(rd.length:Int);have hka:k<rd.length:=by omega
 have i0:=Ja k
 have w1:=wk9 (k:=k) (by omega)
 have hsn:(rd.take (k+1)).filter (λo=> !XD rd o.id)=(rd.take k).filter (λo=> !XD rd o.id)++(if XD rd (rd.getD k Jd).id=Ht then []else [rd.getD k Jd]):=by
  rw[ZT (d:=Jd) hka,Jq];congr 1;generalize rd.getD k Jd=x;cases hr:XD rd x.id;rw[Jf (by rw[hr];rfl),if_neg (by simp)];rfl;rw[Jb (by rw[hr];simp),if_pos rfl];rfl
 have hfl:((rd.take k).filter λo=> !XD rd o.id).length<=k:=JI (Ji _ _) (Jt _ _);have hrm:=YV (show((rd.take k).filter λo=> !XD rd o.id).length+1<=1000000 by omega) (show 176<=1000 by omega);generalize hx:rd.getD k Jd=x at *;generalize hal2:(rd.take k).filter (λo=> !XD rd o.id)=al at *;have hml:(al.map opv).length=al.length:=Jj _;have hai:∀p∈al.map opv,p.ids= []:=hcl al;cases hf:ks.findIdx? (λy=>decide (x.id=y))with
 |none=>
  have hd:XD rd x.id=false:=by
   rw[Jz];exact λhh=>ZbO.1 hf ((h _).2 hh)
  rw[hd,if_neg (by simp)]at hsn;simp only[go_sem,Zr,hlt2,ZI hka,hx,opv,i0,tgm,tg,Tp,hf,w1,hml,hrm];refine⟨λp hp=>by rw[Jg.1 hp];exact⟨rfl,rfl⟩,λp hp=>by rw[Jg.1 hp];exact XF x,λp hp=> ?_,⟨k+1,by omega⟩,nx9 (by omega),ZbJ rfl ?_ ?_ rfl ?_ ?_⟩
  ·rcases Jn.1 hp with hp|hp
   ·rw[hai p hp];simp
   ·rw[Jg.1 hp];simp[Jw,JJ]
  ·simp only;rw[hsn,Jh];exact(Fc5 rfl rfl rfl rfl rfl)
  ·simp only;rw[hsn,Jh];rfl
  ·simp only;rw[hsn,Jm];rfl
  ·simp[upd,Hp.setq,St.with,mkStX,Ya,ZlO]
 |some i=>
  have hd:XD rd x.id=true:=(h _).1 (JP.1 λhn=>by rw[ZbO.2 hn]at hf;cases hf);rw[hd,if_pos rfl,Je]at hsn;have hik:i<ks.length:=(List.findIdx?_eq_some_iff_getElem.1 hf).1;have hgd:(ks.map λ_=>Kl []).getD i .any= .agg []:=by rw[getD_lt (by simpa using hik)];simp
  simp only[go_sem,Zr,hlt2,ZI hka,hx,opv,i0,tgm,tg,Tp,hf,w1,hgd];refine⟨⟨k+1,by omega⟩,nx9 (by omega),ZbJ rfl ?_ ?_ rfl ?_ ?_⟩
  ·simp only;rw[hsn];exact(Fc5 rfl rfl rfl rfl rfl)
  ·simp only;rw[hsn];rfl
  ·simp only;rw[hsn];rfl
  ·simp[upd,Hp.setq,St.with,mkStX,Ya]
 have htk:rd.take k=rd:=Jp (by omega);have hSS:=FY ops_sort 48 (WJ m l).length (by have:=(XI m l).length_le;omega) (WJ m l) (Zcl (Kf.sublist ((XI m l).map _) hU)) rfl _ rfl;rw[hal]at hSS;simp only[go_sem,Zr,hlt2,htk];refine YP 63 hSS (by simp[Jw,JJ]) (hcl _) (hcl _) rfl rfl rfl ?_;simp only[go_sem];have hlv:UE m l=srt XM (rd.filter λo=> !XD rd o.id):=by unfold UE;rw[hal]
 have hll:(UE m l).length=(rd.filter λo=> !XD rd o.id).length:=by rw[hlv,Zx]
 rw[hll,hlv];exact Zok (r0:= .vsl 63 _ 15) (hcl _) rfl (.keep _ (by intro i hi;simp[Jw]at hi;subst hi;exact⟨_,Jg.2 rfl,rfl⟩)) rfl rfl
open Go.PL Go.PL.Srt
theorem Zg8 (m:List Eg) (l:List Opn) (hm:OkM m) (hl:l.length<=100000) (ho:∀o∈l,OkOp o) (hU:(l.map Opn.id).Nodup):Pp 37 [tr (Zc m),Zr l] (Zr (UE m l)):=by
 have hcl:∀l:List Opn,∀p∈l.map opv,p.ids= []:=λl=>YX XF l
 have hL:=ZaW m l hm hl ho hU;have hll:=Sy m l;have hlo:∀o∈UE m l,OkOp o:=λo h=>ho o (Dq h)
 generalize UE m l=A at *;refine PL.Pure.of_p [] func37 (by decide) rfl ntmps37 results37 (by simp) (U1 _) ?_;simp only[go_sem,tr,Zr];refine ZgZ 10 hL (hcl _) (by simp[Jw,tr,Zr]) rfl rfl ?_;simp only[go_sem,PV.ren,id];refine XP (ι:= { k:Nat // k<=A.length }) 25 (λx=> [(5,.vsl 10 A.length 15),(11,.vsl 10 A.length 15),(12,.int .i64 (A.length:Int)),(13,.int .i64 (x.1:Int))]) (λ_=> []) (λ_=> [(10,.vec A.length 15 48)]) (λ_=> []) (λ_=> []) (λ_=> [(10,A.map opv)]) (λ_=> []) [] [] [] (λx=>A.length-x.1) ⟨0,Jl _⟩
  (ZjC rfl (Fc4 rfl rfl rfl rfl) rfl rfl) (λx=>Zlk (by simp[Jw,JJ,ZN]) (Yh XF _)) (λx=> ?_)
 obtain⟨k,hk⟩:=x;simp only;by_cases h:(k:Int)<(A.length:Int);have hka:k<A.length:=by omega
 have i0:=Ja k
 have w1:=wk9 (k:=k) (by omega)
 have hO:=T9 (A.getD k Jd) (hlo _ (Zy hka));have hset:(A.map opv).set k (opv (A.getD k Jd))=A.map opv:=by
  rw[TE];congr 1;rw[getD_lt hka];exact List.set_getElem_self hka
 simp only[opv]at hset;simp only[go_sem,h,i0,ZI hka,opv];refine vc6 hO ?_;simp only[go_sem,h,i0,ZI hka,opv,hset,w1];exact⟨⟨k+1,by omega⟩,nx9 (by omega),ZjC rfl (Fc4 rfl rfl rfl rfl) rfl rfl⟩;simp only[go_sem,h];exact⟨_,rfl,Pub.vec0 (by simp) rfl (Jj _) (hcl _)⟩
def Up (m:List Eg) (l:List Opn) (b:Tg):List Opn:=(l.filter λo=>(toT m o b).c==0&&(toT m o b).ok).map λo=>(toT m o b).o
theorem Zib (m:List Eg) {l:List Opn} (b:Tg) {k:Nat} (h:k<l.length):Up m (l.take (k+1)) b=Up m (l.take k) b++(if((toT m (l.getD k Jd) b).c==0&&(toT m (l.getD k Jd) b).ok)=Ht then [(toT m (l.getD k Jd) b).o]else []):=by
 unfold Up;rw[ZT (d:=Jd) h,Jq,Jm];congr 1;generalize l.getD k Jd=x;cases hr:((toT m x b).c==0&&(toT m x b).ok);rw[Jb (by rw[hr];simp),if_neg (by simp)];rfl;rw[Jf (by exact hr),if_pos rfl];rfl
theorem FB (m:List Eg) (l:List Opn) (b:Tg):(Up m l b).length<=l.length:=by unfold Up;rw[Jj];exact Ji _ _
theorem Zhn (m:List Eg) (l:List Opn) (b:Tg) (hm:OkM m) (hr:RightM m) (hl:l.length<=100000) (ho:∀o∈l,OkOp o):Pp 65 [tr (Zc m),Zr l,tg b] (Zr (Up m l b)):=by
 have hlm:l.length<=maxLen:=by rw[Zd];omega
 refine ZM func65 rfl ntmps65 results65 (U1 _) ?_;simp only[go_sem,tr,Zr,tg];refine Y6 7 35 15 48 rfl rfl ?_;refine Zz (ι:= { x:Nat // x<=(l).length }) 38 (λx=> [(0,tr (Zc m)),(5,.ptr 5 0),(7,.sl (.row 35) ((Up m (l.take x.1) b).map opv)),(13,Zr l),(14,.int .i64 (l.length:Int)),(15,.int .i64 (x.1:Int))]) (λx=> [(5,[.int .i64 b.r,.int .i64 b.n],Hf)]) (λx=> [(35,.live ((Up m (l.take x.1) b).length) (15) (48))]) (λx=>(l).length-x.1) ⟨0,Jl _⟩ ⟨rfl,(Fc6 rfl rfl rfl rfl rfl rfl),(fcs ⟨rfl,rfl⟩ fnl),(fcs rfl fnl)⟩ (λx=>⟨(Fc6 rfl rfl (by simp[Jw,ZN]) rfl rfl rfl),(fcs rfl fnl)⟩) (λx=> ?_);obtain⟨k,hk⟩:=x;simp only at hk ⊢;by_cases h:(k:Int)<(l.length:Int)
 (have hka:k<(l).length:=by omega);(have w1:=Vt hka (hlm));(have i1:=Ja k)
 have hT:=ZcO m (l.getD k Jd) b hm hr (ho _ (Zy hka));have hsn:=Zib m b hka;have hsl:=FB m (l.take k) b;have htl:(l.take k).length<=k:=Jt _ _;have hrm:=YV (show(Up m (l.take k) b).length+1<=1000000 by omega) (show 176<=1000 by omega);have hml:((Up m (l.take k) b).map opv).length=(Up m (l.take k) b).length:=Jj _;have hsz:=Yt (Up m (l.take k) b);generalize toT m (l.getD k Jd) b=y at *;obtain⟨yo,yk,yc⟩:=y;have hsx:Sized 15 [opv yo]:=Yt [yo];have hax:XQ [opv yo]:=Wj [yo];generalize hx:l.getD k Jd=x at *;simp only at hsn;simp only[opv]at hsx hax;cases k1:(yc==0);rw[k1,Jk,if_neg (by simp),Je]at hsn;simp only[go_sem,Zr,h,ZI hka,hx,opv,i1];refine vc7 hT ?_;simp only[go_sem,SP,opv,k1,w1];exact⟨⟨k+1,by omega⟩,nx9 (by omega),⟨rfl,by simp only;rw[hsn];exact(Fc6 rfl rfl rfl rfl rfl rfl),fcs ⟨rfl,rfl⟩ fnl,by simp only;rw[hsn];exact fcs rfl fnl⟩⟩;cases yk;rw[k1,JL,if_neg (by simp),Je]at hsn;simp only[go_sem,Zr,h,ZI hka,hx,opv,i1];refine vc7 hT ?_;simp only[go_sem,SP,opv,k1,w1];exact⟨⟨k+1,by omega⟩,nx9 (by omega),⟨rfl,by simp only;rw[hsn];exact(Fc6 rfl rfl rfl rfl rfl rfl),fcs ⟨rfl,rfl⟩ fnl,by simp only;rw[hsn];exact fcs rfl fnl⟩⟩;rw[k1,J6,if_pos rfl]at hsn;simp only[go_sem,Zr,h,ZI hka,hx,opv,i1];refine vc7 hT ?_;simp only[go_sem,SP,opv,k1,w1,hml,hsz,hrm,hsx,hax];exact⟨⟨k+1,by omega⟩,nx9 (by omega),⟨rfl,by simp only;rw[hsn,Jm];exact(Fc6 rfl rfl rfl rfl rfl rfl),fcs ⟨rfl,rfl⟩ fnl,by simp only;rw[hsn,Jh];exact fcs rfl fnl⟩⟩;have htk:l.take k=l:=Jp (by omega);simp only[go_sem,Zr,h,htk]
open Go.PL
open Go.PL
theorem FE (l:List Rw):Sized 2 (l.map row):=λe he=>by
 obtain⟨x,_,rfl⟩:=JD.1 he;rfl
open Go.PL Go.PL.Srt
def Zjj (y:Dc×Int):PV:= .tup [doc y.1,.int .i64 y.2]
theorem Sm (y:Dc×Int):(Zjj y).dids= []:=by simp only[Zjj,PV.dids,PV.didsL,Zl4,Je]
def Xh (A:List Opn) (c:Str):List Opn:=A.filter λo=>o.cart==c
theorem ZhX {l:List Opn} {k:Nat} (c:Str) (h:k<l.length):Xh (l.take (k+1)) c=Xh (l.take k) c++(if((l.getD k Jd).cart==c)=Ht then [l.getD k Jd]else []):=by
 unfold Xh;rw[ZT (d:=Jd) h,Jq];congr 1;generalize l.getD k Jd=x;cases hr:(x.cart==c);rw[Jb (by rw[hr];simp),if_neg (by simp)];rfl;rw[Jf (by exact hr),if_pos rfl];rfl
def Zak (m:List Eg) (l:List Opn) (cart:Str) (b:Tg):Dc×Int:=
 if 400<(l.length:Int)then(Jd,14)else if ZL cart=Hf then(Jd,5)else if(Y0 (Zc m) b).2≠0 then(Jd,(Y0 (Zc m) b).2)
 else(⟨G9 (Y0 (Zc m) b).1 (Up m (Xh (UE m l) cart) b) 0 [],(GW (Xh (UE m l) cart) cart).map λi=>⟨i,G9 (Y0 (Zc m) b).1 (Up m (Xh (UE m l) cart) b) 1 i⟩⟩,0)
def vsV (pre:List Opn) (ks:List Sp):List PV:=(JA ks.length).map λj=> .sl (.row (1000+j)) ((Z4 pre (ks.getD j Jd)).map opv)
def qV (n:Nat) (pre:List Opn) (ks:List Sp):PL.Rows:=λi=>if i=59 then some (.live n 15 48)else if 1000<=i/\i<1000+ks.length then some (.live (Z4 pre (ks.getD (i-1000) Jd)).length 15 48)else none
theorem Vs (pre:List Opn) (ks:List Sp):(vsV pre ks).length=ks.length:=by simp[vsV]
theorem ZnZ (pre:List Opn) {ks:List Sp} {j:Nat} (h:j<ks.length):(vsV pre ks).getD j .any= .sl (.row (1000+j)) ((Z4 pre (ks.getD j Jd)).map opv):=by
 unfold vsV;rw[getD_lt (by simpa using h),Jo,Jr]
theorem XO (pre:List Opn) (o:Opn) (s:Sp):Z4 (pre++ [o]) s=Z4 pre s++(if spO o=s then [o]else []):=by
 unfold Z4;rw[Jq];congr 1;by_cases h:spO o=s<;>simp[h]
theorem Za2 {ks:List Sp} (h:ks.Nodup) {i j:Nat} (hi:i<ks.length) (hj:j<ks.length) (e:ks.getD i Jd=ks.getD j Jd):i=j:=by
 rw[getD_lt hi,getD_lt hj]at e;exact(List.getElem_inj h).1 e
theorem Zpr {pre:List Opn} {ks:List Sp} {o:Opn} {j:Nat} (hn:ks.Nodup) (hj:j<ks.length) (hs:ks.getD j Jd=spO o):
  (vsV pre ks).set j (.sl (.row (1000+j)) ((Z4 pre (spO o)++ [o]).map opv))=vsV (pre++ [o]) ks:=by
 apply JB;simp[vsV];intro i h1 h2;have hi:i<ks.length:=by simpa[vsV]using h2
 rw[JS];by_cases e:j=i;subst e;rw[if_pos rfl];simp only[vsV,Jo,Jr];rw[XO,hs,if_pos rfl];rw[if_neg e];simp only[vsV,Jo,Jr];rw[XO,if_neg (λh=>e (Za2 hn hj hi (by rw[hs,h]))),Je]
theorem Zpq {pre:List Opn} {ks:List Sp} {o:Opn} (hn:spO o∉ks) (h0:Z4 pre (spO o)= []) (z:PV):
  (vsV pre ks++ [z]).set ks.length (.sl (.row (1000+ks.length)) ([o].map opv))=vsV (pre++ [o]) (ks++ [spO o]):=by
 apply JB;simp[vsV];intro i h1 h2;have hi:i<ks.length+1:=by simpa[vsV]using h2
 rw[JS];by_cases e:ks.length=i;subst e;rw[if_pos rfl];simp only[vsV,Jo,Jr];have:(ks++ [spO o]).getD ks.length Jd=spO o:=by rw[getD_lt (by simp)];simp
 rw[this,XO,if_pos rfl,h0,List.nil_append];have hi':i<ks.length:=by omega
 rw[if_neg e,Js (by simpa[vsV]using hi')];simp only[vsV,Jo,Jr];have:(ks++ [spO o]).getD i Jd=ks.getD i Jd:=by rw[getD_lt (by simp;omega),getD_lt hi',Js hi']
 rw[this,XO,if_neg,Je];intro h;rw[getD_lt hi']at h;exact hn (h▸JC hi')
theorem ZdL (n:Nat) (pre:List Opn) {ks:List Sp} {j:Nat} (h:j<ks.length):qV n pre ks (1000+j)=some (.live (Z4 pre (ks.getD j Jd)).length 15 48):=by
 unfold qV;rw[if_neg (by omega),if_pos (by omega),show 1000+j-1000=j by omega]
theorem Zlf {pre:List Opn} {ks:List Sp} {i:Nat} (h:i<ks.length):∀r∈((vsV pre ks).getD i .any).ids,r= .r (1000+i):=λr hr=>by
 rw[ZnZ pre h]at hr;simpa[Jw]using hr
theorem Zkp {n:Nat} {pre:List Opn} {ks:List Sp} {x:Opn} {j i:Nat} (hnd:ks.Nodup) (hj:j<ks.length) (hje:ks.getD j Jd=spO x) (hi:i≠1000+j):qV n (pre++ [x]) ks i=qV n pre ks i:=by
 unfold qV;by_cases h1:i=59;rw[if_pos h1,if_pos h1];rw[if_neg h1,if_neg h1];by_cases h2:1000<=i/\i<1000+ks.length;rw[if_pos h2,if_pos h2,XO,if_neg,Je];intro e;have:=Za2 hnd hj (show i-1000<ks.length by omega) (by rw[hje,e]);omega;rw[if_neg h2,if_neg h2]
theorem ZnN {n:Nat} {pre:List Opn} {ks:List Sp} {x:Opn} {i:Nat} (hn:spO x∉ks) (hi:i≠1000+ks.length):qV n (pre++ [x]) (ks++ [spO x]) i=qV n pre ks i:=by
 unfold qV;by_cases h1:i=59;rw[if_pos h1,if_pos h1];rw[if_neg h1,if_neg h1];by_cases h2:1000<=i/\i<1000+ks.length;have hlt:i-1000<ks.length:=by omega
 have e:(ks++ [spO x]).getD (i-1000) Jd=ks.getD (i-1000) Jd:=by rw[getD_lt (by simp;omega),getD_lt hlt,Js hlt]
 rw[if_pos h2,if_pos (by simp;omega),e,XO,if_neg,Je];intro e;rw[getD_lt hlt]at e;exact hn (e▸JC hlt);rw[if_neg h2,if_neg (by simp;omega)]
def vwL (cart:Str) (mine seen:List Opn) (k:Nat):List (Nat×PV):= [(2,.str cart),(8,.ptr 8 0),(10,.ptr 10 0),(12,.sl (.row 59) (mine.map opv)),(15,.ptr 15 0),(65,Zr seen),(66,.int .i64 (seen.length:Int)),(67,.int .i64 (k:Int))]
def vwH (F:List Fd) (x:PV):List (Nat×List PV):= [(8,[.sl .nil [],.sl .nil []]),(10,[.sl .no (F.map fld)]),(15,[x])]
theorem Zcs {cart:Str} {mine seen:List Opn} {k:Nat} {F:List Fd} {x:PV} {q:PL.Rows} (h:q 59≠none):∀y∈vwL cart mine seen k,∀r∈y.2.ids,Zgs (vwH F x) q r/\ ∀d,1000<=d->r≠ .r d:=by
 refine fcs ?_ (fcs ?_ (fcs ?_ (fcs ?_ (fcs ?_ (fcs ?_ (fcs ?_ (fcs ?_ fnl)))))))<;>intro r hr<;>simp[Jw,Zr]at hr<;>subst hr
 exact⟨⟨_,JN,rfl⟩,λd _=>by simp⟩;exact⟨⟨_,JF _ JN,rfl⟩,λd _=>by simp⟩;exact⟨h,λd hd=>by simp;omega⟩;exact⟨⟨_,JF _ (JF _ JN),rfl⟩,λd _=>by simp⟩
theorem Zcr {F:List Fd} {x:PV} (hx:x.ids= []):∀y∈vwH F x,∀c∈y.2,c.ids= []:=
 Fc3 (by simp[Jw]) (by simp[Jw]) (by simp[hx])
theorem ZoI (n:Nat) (pre:List Opn) (ks:List Sp):qV n pre ks 59≠none:=by unfold qV;simp
theorem Zlg (pre:List Opn) (ks:List Sp):(vsV pre ks).map PV.share=ks.map λs=>Zr (Z4 pre s):=by
 apply JB;simp[vsV];intro i h1 h2;have hi:i<ks.length:=by simpa using h2
 simp only[vsV,Jo,Jr,PV.share,Tok.sh,Zr];rw[getD_lt hi]
theorem Zle (pre:List Opn) (ks:List Sp):∀p∈vsV pre ks,p.clean=true:=λp hp=>by
 obtain⟨j,_,rfl⟩:=JD.1 hp;rfl
def q59 (n:Nat):PL.Rows:=upd (λ_=>none) 59 (some (.live n 15 48))
theorem ZiQ (m:List Eg) (l:List Opn) (cart:Str) (b:Tg) (hm:OkM m) (hr:RightM m) (hl:l.length<=400) (ho:∀o∈l,OkOp o) (hU:(l.map Opn.id).Nodup) (hn:ZL cart=Ht) (hc:(Y0 (Zc m) b).2=0):
  Pp 23 [tr (Zc m),Zr l,.str cart,tg b] (Zjj (⟨G9 (Y0 (Zc m) b).1 (Up m (Xh (UE m l) cart) b) 0 [],(GW (Xh (UE m l) cart) cart).map λi=>⟨i,G9 (Y0 (Zc m) b).1 (Up m (Xh (UE m l) cart) b) 1 i⟩⟩,0)):=by
 have hcl:∀l:List Opn,∀p∈l.map opv,p.ids= []:=λl=>YX XF l
 have hN:=YA cart;rw[hn]at hN;have hS:=XB m b hm;have hF:=Za4 hm (a:=b) hc;have hL:=ZaW m l hm (by omega) ho hU;have hll:=Sy m l;have hlo:∀o∈UE m l,OkOp o:=λo h=>ho o (Dq h)
 generalize UE m l=A at *;have hmo:∀o∈Xh A cart,OkOp o:=λo h=>hlo o (List.mem_filter.1 h).1
 have hml0:(Xh A cart).length<=A.length:=Ji _ _;have hT:=Zhn m (Xh A cart) b hm hr (by omega) hmo;have hI:=ZhR (Xh A cart) cart (by omega);have hsl:=FB m (Xh A cart) b;have hfill:=λsc it ks hks=>Zjp (Y0 (Zc m) b).1 (Up m (Xh A cart) b) ks sc it hF (by omega) hks
 have c1:¬(400:Int)<(l.length:Int):=by omega
 have c2:((Y0 (Zc m) b).2 !=0)=false:=by simp[hc]
 generalize Y0 (Zc m) b=X at *;obtain⟨F,xc⟩:=X;simp only at hc hF hfill c2 ⊢;subst hc;refine ZM func23 rfl ntmps23 results23 (Sm _) ?_;simp only[go_sem,tr,Zr,tg,c1];refine vc1 hN ?_;simp only[go_sem];refine vc5 hS ?_;simp only[go_sem,YJ,Zp,c2];refine ZgZ 46 hL (hcl _) (by simp[Jw,tr,Zr]) rfl rfl ?_;simp only[go_sem,PV.ren,id];refine Y6 12 59 15 48 rfl rfl ?_;refine XP (ι:= { k:Nat // k<=A.length }) 109 (λx=> [(0,tr (Zc m)),(2,.str cart),(7,.ptr 7 0),(8,.ptr 8 0),(10,.ptr 10 0),(12,.sl (.row 59) ((Xh (A.take x.1) cart).map opv)),(46,.vsl 46 A.length 15),(47,.int .i64 (A.length:Int)),(48,.int .i64 (x.1:Int))]) (λ_=> [(7,[.int .i64 b.r,.int .i64 b.n],Hf),(8,[.sl .nil [],.sl .nil []],Hf),(10,[.sl .no (F.map fld)],Hf)]) (λx=> [(46,.vec A.length 15 48),(59,.live (Xh (A.take x.1) cart).length 15 48)]) (λ_=> []) (λ_=> []) (λ_=> [(46,A.map opv)]) (λ_=> []) [] [] [] (λx=>A.length-x.1) ⟨0,Jl _⟩
  ⟨⟨rfl,(Fc9 rfl rfl rfl rfl rfl rfl rfl rfl rfl),(Fc3 ⟨rfl,rfl⟩ ⟨rfl,rfl⟩ ⟨rfl,rfl⟩),(Fc2 rfl rfl)⟩,fnl,fnl,(fcs rfl fnl),fnl,fnl,fnl⟩ (λx=>⟨⟨(Fc9 rfl rfl rfl rfl rfl rfl rfl rfl rfl),(Fc3 rfl rfl rfl)⟩,by simp[Yh XF],fnl,by simp,fnl,fnl⟩) (λx=> ?_)
 obtain⟨k,hk⟩:=x;simp only;by_cases h:(k:Int)<(A.length:Int);have hka:k<A.length:=by omega
 have i0:=Ja k
 have w1:=wk9 (k:=k) (by omega)
 have hsn:=ZhX cart hka;have hml1:(Xh (A.take k) cart).length<=k:=JI (Ji _ _) (Jt _ _);have hrm:=YV (show(Xh (A.take k) cart).length+1<=1000000 by omega) (show 176<=1000 by omega);have hml:((Xh (A.take k) cart).map opv).length=(Xh (A.take k) cart).length:=Jj _;have hsz:=Yt (Xh (A.take k) cart);generalize hx:A.getD k Jd=x at *;have hsx:Sized 15 [opv x]:=Yt [x];have hax:XQ [opv x]:=Wj [x];simp only[opv]at hsx hax;cases k1:(x.cart==cart);rw[k1,if_neg (by simp),Je]at hsn;simp only[go_sem,h,i0,ZI hka,hx,opv,k1,w1];exact⟨⟨k+1,by omega⟩,nx9 (by omega),⟨⟨rfl,by simp only;rw[hsn];exact(Fc9 rfl rfl rfl rfl rfl rfl rfl rfl rfl),(Fc3 ⟨rfl,rfl⟩ ⟨rfl,rfl⟩ ⟨rfl,rfl⟩),by simp only;rw[hsn];exact(Fc2 rfl rfl)⟩,fnl,fnl,(fcs rfl fnl),fnl,fnl,fnl⟩⟩;rw[k1,if_pos rfl]at hsn;simp only[go_sem,h,i0,ZI hka,hx,opv,k1,w1,hml,hsz,hrm,hsx,hax];exact⟨⟨k+1,by omega⟩,nx9 (by omega),⟨⟨rfl,by simp only;rw[hsn,Jm];exact(Fc9 rfl rfl rfl rfl rfl rfl rfl rfl rfl),(Fc3 ⟨rfl,rfl⟩ ⟨rfl,rfl⟩ ⟨rfl,rfl⟩),by simp only;rw[hsn,Jh];exact(Fc2 rfl rfl)⟩,fnl,fnl,(fcs rfl fnl),fnl,fnl,fnl⟩⟩;have htk:A.take k=A:=Jp (by omega);simp only[go_sem,h,htk];intro mb;refine vc7 hT ?_;simp only[go_sem,Zr];generalize hse:Up m (Xh A cart) b=seen at *;generalize hmi:Xh A cart=mine at *;refine Zo8 (ι:= { x:Nat×List Sp // x.1<=seen.length/\(∀s,s∈x.2↔ ∃o∈seen.take x.1,spO o=s)/\x.2.Nodup })
  (λx=>vst 109 (vwL cart mine seen x.1.1) (vwH F (.mref mb)) (qV mine.length (seen.take x.1.1) x.1.2) (UF mb ⟨x.1.2.map spv,vsV (seen.take x.1.1) x.1.2⟩))
  (λx=>seen.length-x.1.1) ⟨(0,[]),Jl _,λs=>by simp,List.nodup_nil⟩ ?_ (λx=> ?_)
 refine(Gh.oToOm (b:=mb) (c:=⟨[],[]⟩) (by simp[upd,St.with,Hp.new])).trans (Zgk rfl (Fc8 rfl rfl rfl rfl rfl rfl rfl rfl) (Fc3 ⟨rfl,rfl⟩ ⟨rfl,rfl⟩ ⟨rfl,rfl⟩) (λi=> ?_) (λi=> ?_) (λy hy r hr=>(Zcs (ZoI _ _ _) y hy r hr).1) (λy hy c hc r hr=>by rw[Zcr (x:= .mref mb) rfl y hy c hc]at hr;cases hr) (λb' c' hbc p hp r hr=> ?_));by_cases e:i=59;right;subst e;rfl;left;show qV mine.length [] [] i=none;unfold qV;rw[if_neg e,if_neg (by rintro ⟨h1,h2⟩;rw[Kd]at h2;omega)];by_cases e:mb=i;right;subst e;show UF mb _ mb=upd _ mb _ mb;rw[Tz,Za];rfl;left;unfold UF;exact Zg _ _ e;obtain⟨rfl,rfl⟩:=ZbW hbc;simp[vsV]at hp;obtain⟨⟨k,ks⟩,hk,hks,hnd⟩:=x;simp only at hk hks hnd ⊢;by_cases h:(k:Int)<(seen.length:Int);refine⟨_,Gh.refl _,?_⟩;have hka:k<seen.length:=by omega
 have i0:=Ja k
 have w1:=wk9 (k:=k) (by omega)
 have htk1:seen.take (k+1)=seen.take k++ [seen.getD k Jd]:=ZT (d:=Jd) hka;generalize hx:seen.getD k Jd=x at *;have hfp:=ZaH (spO x) ks;simp only[spO]at hfp;have hsx:Sized 15 [opv x]:=Yt [x];have hax:XQ [opv x]:=Wj [x];simp only[opv]at hsx hax;have q80:qV mine.length (seen.take k) ks 80=none:=by unfold qV;rw[if_neg (by omega),if_neg (by omega)]
 have q82:qV mine.length (seen.take k) ks 82=none:=by unfold qV;rw[if_neg (by omega),if_neg (by omega)]
 have hr1:=YV (show 1<=1000000 by omega) (show 176<=1000 by omega);cases hf:ks.findIdx? (λy=>decide (spO x=y))with
 |none=>
  have hnk:spO x∉ks:=Zgq.1 hf;have h00:Z4 (seen.take k) (spO x)= []:=Zbl λhh=>hnk ((hks _).2 hh)
  have hnew:=Zpq hnk h00 (.sl .nil []);simp only[spO]at hf;rw[hf]at hfp;simp only[go_sem,vst,vwL,vwH,h,i0,Zr,ZI hka,hx,opv,Tz,hfp,q80,q82,hr1,w1];refine⟨by omega,by simp,⟨(k+1,ks++ [spO x]),hka,λs=> ?_,?_⟩,nx9 (by omega),?_⟩
  ·rw[htk1,Jn,hks s,Jg];constructor
   ·rintro (⟨o,h1,h2⟩|rfl)
    ·exact⟨o,Jn.2 (.inl h1),h2⟩
    ·exact⟨x,by simp,rfl⟩
   ·rintro ⟨o,h1,h2⟩
    rcases Jn.1 h1 with h1|h1
    ·exact .inl ⟨o,h1,h2⟩
    ·rw[Jg.1 h1]at h2;exact .inr h2.symm
  ·refine List.nodup_append.2 ⟨hnd,by simp,λa ha c hc e=> ?_⟩;rw[Jg.1 hc]at e;exact hnk (e▸ha)
  ·show Gh _ (vst 109 (vwL cart mine seen (k+1)) (vwH F (.mref mb)) (qV mine.length (seen.take (k+1)) (ks++ [spO x])) (UF mb ⟨(ks++ [spO x]).map spv,vsV (seen.take (k+1)) (ks++ [spO x])⟩));have e:((vsV (seen.take k) ks++ [JX .nil []]).set ks.length (.sl (.row 82) [opv x])).set ks.length (.sl (.row (1000+ks.length)) [opv x])=vsV (seen.take k++ [x]) (ks++ [spO x]):=by rw[Ki];exact hnew
   rw[htk1,<-e,Jm];refine Zdj (kk:=82) (d:=1000+ks.length) (sz:=15) (k:=1) (e:=48) (c:=⟨ks.map spv++ [spv (spO x)],(vsV (seen.take k) ks++ [JX .nil []]).set ks.length (.sl (.row 82) [opv x])⟩) (es:= [opv x]) rfl (Fc8 rfl rfl rfl rfl rfl rfl rfl rfl) (Fc3 ⟨rfl,rfl⟩ ⟨rfl,rfl⟩ ⟨rfl,rfl⟩) ?_ ?_ ?_ rfl (by omega) ?_ ?_ (λi h1 h2=> ?_) (λy hy r hr=> ?_) (λy hy c hc r hr=>by rw[Zcr (x:= .mref mb) rfl y hy c hc]at hr;cases hr) (λi h1 h2 r hr=> ?_)
   ·show upd _ mb _ mb=_;rw[Za];rfl
   ·simp[Vs]
   ·rw[getD_lt (by simp[Vs])];simp
   ·have hl0:ks.length<(ks++ [spO x]).length:=by simp
    rw[ZdL _ _ hl0,getD_lt hl0,JO (Kc _)];simp only[Kj,JV];rw[XO,h00,if_pos rfl];rfl
   ·rw[ZnN hnk (by omega)];exact q82
   ·rw[ZnN hnk h1]
    by_cases e80:i=80
    ·left;rw[e80];exact q80
    ·right;show _=upd (upd (qV mine.length (seen.take k) ks) 80 _) 82 _ i;rw[Zg _ _ (λe=>h2 e.symm),Zg _ _ (λe=>e80 e.symm)]
   ·have:=Zcs (F:=F) (x:= .mref mb) (ZoI mine.length (seen.take k++ [x]) (ks++ [spO x])) y hy r hr;exact⟨this.1,this.2 _ (by omega)⟩
   ·have hi:i<ks.length:=by simp[Vs]at h1;omega
    have hg:((vsV (seen.take k) ks++ [JX .nil []]).set ks.length (.sl (.row 82) [opv x])).getD i .any=(vsV (seen.take k) ks).getD i .any:=by
     rw[getD_lt (by simp[Vs];omega),getD_lt (by rw[Vs];exact hi),JH (by omega),Js (by rw[Vs];exact hi)]
    rw[show(({ ks:=ks.map spv++ [spv (spO x)],vs:=(vsV (seen.take k) ks++ [JX .nil []]).set ks.length (.sl (.row 82) [opv x]) }:MapC).vs.getD i .any)=(vsV (seen.take k) ks).getD i .any from hg]at hr;rw[Zlf hi r hr];refine⟨?_,by simp;omega⟩;show qV _ _ _ (1000+i)≠none;rw[ZdL _ _ (by simp;omega)];simp
 |some j=>
  obtain⟨hj,hje⟩:=ZjH hf;have hvs:=ZnZ (seen.take k) hj;have hqj:=ZdL mine.length (seen.take k) hj;rw[hje]at hvs hqj;have hset:=Zpr hnd hj hje (pre:=seen.take k);have htl:=FK (seen.take k) (spO x);have htk2:(seen.take k).length<=k:=Jt _ _;generalize hth:Z4 (seen.take k) (spO x)=th at *;have hml2:(th.map opv).length=th.length:=Jj _;have hszt:=Yt th;have hrm:=YV (show th.length+1<=1000000 by omega) (show 176<=1000 by omega);simp only[spO]at hf;rw[hf]at hfp;have n80:¬(80=1000+j):=by omega
  have n82:¬(82=1000+j):=by omega
  simp only[go_sem,vst,vwL,vwH,h,i0,Zr,ZI hka,hx,opv,Tz,hfp,q80,q82,hr1,w1,n80,n82,hvs,hqj,hml2,hszt,hrm,hsx,hax];refine⟨by omega,hj,⟨(k+1,ks),hka,λs=> ?_,hnd⟩,nx9 (by omega),?_⟩
  ·rw[htk1,hks s];constructor
   ·rintro ⟨o,h1,h2⟩;exact⟨o,Jn.2 (.inl h1),h2⟩
   ·rintro ⟨o,h1,h2⟩
    rcases Jn.1 h1 with h1|h1
    ·exact⟨o,h1,h2⟩
    ·rw[Jg.1 h1]at h2;have:spO x∈ks:=by rw[<-hje,getD_lt hj];exact JC hj
     obtain⟨o',h3,h4⟩:=(hks _).1 this;exact⟨o',h3,h4.trans h2⟩
  ·show Gh _ (vst 109 (vwL cart mine seen (k+1)) (vwH F (.mref mb)) (qV mine.length (seen.take (k+1)) ks) (UF mb ⟨ks.map spv,vsV (seen.take (k+1)) ks⟩));rw[Jm]at hset;have e:((vsV (seen.take k) ks).set j (.sl (.row 82) (th.map opv++ [opv x]))).set j (.sl (.row (1000+j)) (th.map opv++ [opv x]))=vsV (seen.take k++ [x]) ks:=by rw[Ki];exact hset
   rw[htk1,<-e];refine Zdj (kk:=82) (d:=1000+j) (sz:=15) (k:=th.length+1) (e:=48) (c:=⟨ks.map spv,(vsV (seen.take k) ks).set j (.sl (.row 82) (th.map opv++ [opv x]))⟩) (es:=th.map opv++ [opv x]) rfl (Fc8 rfl rfl rfl rfl rfl rfl rfl rfl) (Fc3 ⟨rfl,rfl⟩ ⟨rfl,rfl⟩ ⟨rfl,rfl⟩) ?_ ?_ ?_ rfl (by omega) ?_ ?_ (λi h1 h2=> ?_) (λy hy r hr=> ?_) (λy hy c hc r hr=>by rw[Zcr (x:= .mref mb) rfl y hy c hc]at hr;cases hr) (λi h1 h2 r hr=> ?_)
   ·show upd _ mb _ mb=_;rw[Za];rfl
   ·show j<(Kk _ _ _).length;rw[JW,Vs];exact hj
   ·show(Kk _ _ _).getD j Km=_;rw[getD_lt (by rw[JW,Vs];exact hj)];simp
   ·rw[ZdL _ _ hj,hje,XO,hth,if_pos rfl,Jh];rfl
   ·rw[Zkp hnd hj hje (by omega)];exact q82
   ·rw[Zkp hnd hj hje h1]
    by_cases e80:i=80
    ·left;rw[e80];exact q80
    ·right;show _=upd (upd (upd (qV mine.length (seen.take k) ks) 80 _) (1000+j) _) 82 _ i;rw[Zg _ _ (λe=>h2 e.symm),Zg _ _ (λe=>h1 e.symm),Zg _ _ (λe=>e80 e.symm)]
   ·have:=Zcs (F:=F) (x:= .mref mb) (ZoI mine.length (seen.take k++ [x]) ks) y hy r hr;exact⟨this.1,this.2 _ (by omega)⟩
   ·have hi:i<ks.length:=by simpa[Vs]using h1
    have hr:r∈((Kk (vsV (seen.take k) ks) j (.sl (.row 82) (th.map opv++ [opv x]))).getD i .any).ids:=hr;rw[getD_lt (d:=Km) (by rw[JW,Vs];exact hi),JH (Ne.symm h2),<-getD_lt (d:=Km) (by rw[Vs];exact hi)]at hr;rw[Zlf hi r hr];refine⟨?_,by simp;omega⟩;show qV _ _ _ (1000+i)≠none;rw[ZdL _ _ hi];simp
 have htk2:seen.take k=seen:=Jp (by omega);have hks2:=hks;rw[htk2]at hks2;have g:Gh (vst 109 (vwL cart mine seen k) (vwH F (.mref mb)) (qV mine.length seen ks) (UF mb ⟨ks.map spv,vsV seen ks⟩)) (vst 109 (vwL cart mine seen k) (vwH F (.rmap (ks.map spv) (ks.map λs=>Zr (Z4 seen s)))) (q59 mine.length) (λ_=>none)):=by
  refine(Gh.omToO (b:=mb) (c:=⟨ks.map spv,vsV seen ks⟩) (Tz _ _) (Zle _ _)).trans ?_;rw[Zlg];refine(Gh.pubMap (b:=mb) (i:=15) (c:=⟨ks.map spv,ks.map λs=>Zr (Z4 seen s)⟩) (Za _ _ _) rfl rfl).trans ?_;refine Zgk rfl (Fc8 rfl rfl rfl rfl rfl rfl rfl rfl) (Fc3 ⟨rfl,rfl⟩ ⟨rfl,rfl⟩ ⟨rfl,rfl⟩) (λi=> ?_) (λi=> .inl rfl) (λy hy r hr=>(Zcs (q:=q59 mine.length) (by simp[q59,upd]) y hy r hr).1) (λy hy c hc r hr=>by rw[Zcr (x:= .rmap (ks.map spv) (ks.map λs=>Zr (Z4 seen s))) rfl y hy c hc]at hr;cases hr) (λb' c' hbc=>by cases hbc);by_cases e:59=i;right;subst e;rfl;left;exact Zg _ _ e
 refine⟨_,by rw[htk2];exact g,?_⟩;have hf0:=hfill 0 [] ks hks2;have hf1:=λit=>hfill 1 it ks hks2
 generalize G9 F seen 0 []=E0 at *;have hrl:(GW mine cart).length<=1000:=by
  unfold GW;have h1:=Ue (SS (Xf mine cart));have h2:=Tx mine cart;have h3:(SS (Xf mine cart)).length=(Xf mine cart).length:=by simp[SS]
  omega
 generalize GW mine cart=its at *;generalize hfm:(λi=>G9 F seen 1 i)=fm at *;have hf1:∀it,Pp 66 [.int .i64 1,.str it,.rptr [Zp F],.rptr [.rmap (ks.map spv) (ks.map λs=>Zr (Z4 seen s))]] (UM (fm it)):=λit=>by rw[<-hfm];exact hf1 it
 have hrw:(its.map λi=>(⟨i,G9 F seen 1 i⟩:Rw))=its.map λi=>⟨i,fm i⟩:=by rw[<-hfm]
 rw[hrw];obtain⟨rws,hrws⟩:∃rws:List Rw,rws=its.map λi=>⟨i,fm i⟩:=⟨_,rfl⟩
 rw[<-hrws];have hlr:its.length=rws.length:=by rw[hrws];simp
 have hgr:∀k,k<rws.length->rws.getD k Jd=⟨its.getD k [],fm (its.getD k [])⟩:=λk hk=>by
  have hki:k<its.length:=by omega
  subst hrws;rw[getD_lt hk,getD_lt hki];simp
 clear hrw hfill hrws;have him:its.length<=maxLen:=by rw[Zd];omega
 simp only[go_sem,vst,vwL,vwH,h,q59];refine vc2 hf0 ?_;simp only[go_sem,UM];refine vc7 hI ?_;simp only[go_sem];rw[hlr];refine Zz (ι:= { k:Nat // k<=rws.length }) 109 (λx=> [(8,.ptr 8 0),(19,.fn 66 [.ptr 10 0,.ptr 15 0]),(20,.ptr 20 0),(91,.sl .no (its.map .str)),(92,.int .i64 (rws.length:Int)),(93,.int .i64 (x.1:Int))]) (λx=> [(8,[.sl .nil [],.sl .nil []],Hf),(10,[.sl .no (F.map fld)],Ht),(15,[.rmap (ks.map spv) (ks.map λs=>Zr (Z4 seen s))],Ht),(20,[.sl .no (E0.map ent),Zpz 105 rws x.1],Hf)]) (λx=>ZpA 105 x.1) (λx=>rws.length-x.1) ⟨0,Jl _⟩
  ⟨rfl,(Fc6 rfl rfl rfl rfl rfl rfl),Fc4 ⟨rfl,rfl⟩ ⟨rfl,rfl⟩ ⟨rfl,rfl⟩ ⟨rfl,rfl⟩,fnl⟩ (λx=> ?_) (λx=> ?_)
 obtain⟨k,hk⟩:=x;cases k with
 |zero=>exact⟨(Fc6 rfl rfl rfl rfl rfl rfl),(Fc4 rfl rfl rfl rfl)⟩
 |succ k=>exact⟨(Fc6 rfl rfl rfl rfl rfl rfl),Fc4 rfl rfl rfl (by simp[Zpz,ZpA,Jw,JJ,ZN])⟩
 clear hk hks hks2 hnd g h htk2;obtain⟨k,hk⟩:=x;simp only;by_cases h:(k:Int)<(rws.length:Int);have hka:k<rws.length:=by omega
 have hki:k<its.length:=by omega
 have w1:=wk9 (k:=k) (by omega)
 have i1:=Ja k
 have hli:(its.map PV.str).length=rws.length:=by rw[Jj,hlr]
 have hO:=hf1 (its.getD k []);have hsn:(rws.take (k+1)).map row=(rws.take k).map row++ [row (rws.getD k Jd)]:=by rw[ZT (d:=Jd) hka,Jm];rfl
 rw[hgr k hka]at hsn;have hsz:=FE (rws.take k);have hr0:=YV (show 1<=1000000 by omega) (show 40<=1000 by omega);have hln:((rws.take k).map row).length=k:=by simp;omega
 have g0:=ZY hki;generalize its.getD k []=it at *;have hat:=Zi1 [⟨it,fm it⟩];have hst:=FE [⟨it,fm it⟩];cases k with
 |zero=>
  have h':(0:Int)<(rws.length:Int):=by simpa using h
  simp only[go_sem,Zpz,ZpA,h',g0,i1,hli];refine vDq ?_;simp only[go_sem];refine vc2 hO ?_;have w0:IntKind.i64.wrap 1=1:=w64 (by omega);simp only[go_sem,UM,w1,w0];refine⟨hr0,⟨⟨0+1,by omega⟩,nx9 (by omega),⟨rfl,(Fc6 rfl rfl rfl rfl rfl rfl),Fc4 ⟨rfl,rfl⟩ ⟨rfl,rfl⟩ ⟨rfl,rfl⟩ ⟨?_,rfl⟩,fcs rfl fnl⟩⟩⟩;show some [JX .no _,JX (.row 105) _]=some [JX .no _,JX (.row 105) _];rw[hsn];rfl
 |succ k=>
  have hl3:(rws.take (k+1)).length=k+1:=by rw[List.length_take];omega
  have hr:=YV (show k+1+1<=1000000 by omega) (show 40<=1000 by omega);simp only[go_sem,Zpz,ZpA,h,g0,i1,hli];refine vDq ?_;simp only[go_sem];refine vc2 hO ?_;simp only[go_sem,UM,w1];refine⟨⟨hl3.symm,FE _,by rw[hl3];exact hr⟩,⟨⟨k+1+1,by omega⟩,by show rws.length-(k+1+1)<rws.length-(k+1);omega,⟨rfl,(Fc6 rfl rfl rfl rfl rfl rfl),Fc4 ⟨rfl,rfl⟩ ⟨rfl,rfl⟩ ⟨rfl,rfl⟩ ⟨?_,rfl⟩,fcs ?_ fnl⟩⟩⟩
  ·show some [JX .no _,JX (.row 105) _]=some [JX .no _,JX (.row 105) _];rw[hsn];rfl
  ·show some _=some _;rw[hl3]
 obtain rfl:k=rws.length:=by omega
 cases rws with
 |nil=>
  have h':¬(0:Int)<0:=by omega
  simp only[go_sem,Zpz,ZpA,h'];rfl
 |cons r rs=>
  have ht:(r::rs).take (rs.length+1)=r::rs:=Jv (l:=r::rs);have h':¬((rs.length+1:Nat):Int)<((rs.length+1:Nat):Int):=by omega
  simp only[go_sem,Zpz,ZpA,h',ht];rw[Jv];rfl
theorem ZbE:doc Jd= .agg [.sl .no [],.sl .no []]:=rfl
theorem ZcQ (m:List Eg) (l:List Opn) (cart:Str) (b:Tg) (hm:OkM m) (hr:RightM m) (ho:∀o∈l,OkOp o) (hU:(l.map Opn.id).Nodup):
  Pp 23 [tr (Zc m),Zr l,.str cart,tg b] (Zjj (Zak m l cart b)):=by
 unfold Zak;by_cases h1:400<(l.length:Int);rw[if_pos h1];refine ZM func23 rfl ntmps23 results23 (Sm _) ?_;simp only[go_sem,tr,Zr,tg,h1];simp only[Zjj,ZbE];rw[if_neg h1];have hN:=YA cart;cases h2:ZL cart;rw[h2]at hN;rw[if_pos rfl];refine ZM func23 rfl ntmps23 results23 (Sm _) ?_;simp only[go_sem,tr,Zr,tg,h1];refine vc1 hN ?_;simp only[go_sem];simp only[Zjj,ZbE];rw[if_neg (by simp)];by_cases h3:(Y0 (Zc m) b).2=0;rw[if_neg (by simpa using h3)];exact ZiQ m l cart b hm hr (by omega) ho hU h2 h3;rw[if_pos h3];rw[h2]at hN;have hS:=XB m b hm;have e3:((Y0 (Zc m) b).2 !=0)=true:=by simpa using h3
 generalize Y0 (Zc m) b=X at *;obtain⟨F,xc⟩:=X;simp only at h3 e3 ⊢;refine ZM func23 rfl ntmps23 results23 (Sm _) ?_;simp only[go_sem,tr,Zr,tg,h1];refine vc1 hN ?_;simp only[go_sem];refine vc5 hS ?_;simp only[go_sem,YJ,Zp,e3];simp only[Zjj,ZbE]
open Go.PL Go.PL.Srt
open Go.PL Go.PL.Srt
theorem Znp (f:Fd) (ops:List Opn):(Zg4 f ops).l.length<=ops.length+1:=by
 have h1:(Tc f).l.length<=1:=by unfold Tc;simp only;split<;>simp
 have h2:=GL ops;unfold Zg4;split;simp only;omega;simp only;split;omega;split;omega;simp
theorem ZjN (l:List Opn) (c:Str):(GW l c).length<=l.length:=by
 unfold GW;have h1:=Ue (SS (Xf l c));have h2:=Tx l c;have h3:(SS (Xf l c)).length=(Xf l c).length:=by simp[SS]
 omega
theorem Zjo {F:List Fd} {seen:List Opn} {sc:Int} {it:Str}:(G9 F seen sc it).length<=F.length/\ ∀e∈G9 F seen sc it,e.l.length<=seen.length+1:=by
 refine⟨by unfold G9;rw[Jj];exact Ji _ _,λe he=> ?_⟩;obtain⟨f,_,rfl⟩:=JD.1 he;have:=Znp f (Z4 seen ⟨it,f.at'⟩);have:=FK seen ⟨it,f.at'⟩;omega
theorem Zld {m:List Eg} {l:List Opn} {cart:Str} {b:Tg} (hm:OkM m):ZpY (Zak m l cart b).1:=by
 have hd:ZpY (Jd:Dc):=⟨Jl _,Jl _,(λe h=>by cases h),(λe h=>by cases h)⟩;unfold Zak;split;exact hd;split;exact hd;split;exact hd;rename_i h1 _ h3;have hF:=(Za4 hm (a:=b) (show(Y0 (Zc m) b).2=0 from JP.1 h3)).n;have hs:=FB m (Xh (UE m l) cart) b;have hmi:(Xh (UE m l) cart).length<=(UE m l).length:=Ji _ _;have hli:=Sy m l;have hit:=ZjN (Xh (UE m l) cart) cart;generalize (Y0 (Zc m) b).1=F at *;generalize Up m (Xh (UE m l) cart) b=seen at *;have f:=λsc it=>Zjo (F:=F) (seen:=seen) (sc:=sc) (it:=it)
 refine⟨by have:=(f 0 []).1;rw[Zd];simp only;omega,by rw[Zd];simp only[Jj];omega,λe he=> ?_,λr hr=> ?_⟩;have:=(f 0 []).2 e he;rw[Zd];omega;simp only[JD]at hr;obtain⟨i,_,rfl⟩:=hr;refine⟨by have:=(f 1 i).1;rw[Zd];simp only;omega,λe he=> ?_⟩;have:=(f 1 i).2 e he;rw[Zd];omega
theorem Zbg {α:Type} {lt:α->α->Bool} (g:Srt.Good lt) {L:List α} (h:Unl lt L) (p:α->Bool):(srt lt L).filter p=srt lt (L.filter p):=by
 symm;exact Zd2 g (Kg.sublist JG (Vo g h)) ((Yz L).filter p)
open Go.PL
open Go.PL
def ZoB (it:Str) (a b:List En):List Cg:=((JA a.length).filter λi=> !decide (a.getD i Jd=b.getD i Jd)).map λi=>⟨1,it,a.getD i Jd,b.getD i Jd,[]⟩
open Go.PL
open Go.PL
def ZrX (r:Rw):Cg:=⟨3,r.item,Jd,Jd,r.l⟩
def Zp6 (r:Rw):Cg:=⟨2,r.item,Jd,Jd,r.l⟩
def ZbD:List Rw->List Rw->List Cg
 | [],[]=> []
 |p::ps,[]=>ZrX p::ZbD ps []
 | [],q::qs=>Zp6 q::ZbD [] qs
 |p::ps,q::qs=>if Yc p.item q.item=Ht then ZrX p::ZbD ps (q::qs)else if Yc q.item p.item=Ht then Zp6 q::ZbD (p::ps) qs else ZoB q.item p.l q.l++ZbD ps qs
termination_by a b=>a.length+b.length
structure DiS (p q:List Rw) (h0:List Cg) where
 i:Nat
 j:Nat
 acc:List Cg
 row:Nat
 hi:i<=p.length
 hj:j<=q.length
 hl:acc.length<=h0.length+16*(i+j)
 h:acc++ZbD (p.drop i) (q.drop j)=h0++ZbD p q
open Go.PL
def FW (v:List Int):PV:= .agg (v.map (.int .i64))
def SH (v:List Int):Bool:=v.all λn=>decide (0<=n)&&decide (n<=400)
def F5 (v:List Int) (t:Tg):Bool:=Wy t&&decide (t.n<=v.getD (t.r-1).toNat 0)
theorem Do {v:List Int} {i:Nat} (h:i<v.length):(v.map (JY .i64)).getD i .any= .int .i64 (v.getD i 0):=by
 simp[List.getD_eq_getElem?_getD,h]
theorem SU {v:List Int} (h:v.length=6):Kh 6 (v.map (JY .i64))=v.map (JY .i64):=Jp (by simp[h])
theorem G2 {v:List Int} {i:Nat} (h:i<v.length) (hn:¬(0<=v.getD i 0/\v.getD i 0<=400)):SH v=false:=by
 rw[Jz];intro hr;simp only[SH,JT,Jc,decide_eq_true_eq]at hr;apply hn;rw[getD_lt h];exact hr _ (JC h)
theorem Fz {v:List Int} (h:∀j,j<v.length->0<=v.getD j 0/\v.getD j 0<=400):SH v=true:=by
 simp only[SH,JT,Jc,decide_eq_true_eq];intro x hx;obtain⟨i,hi,rfl⟩:=J3 hx;have:=h i hi;rwa[getD_lt hi]at this
theorem Zkw {v:List Int} (h:SH v=Ht) {j:Nat} (hj:j<v.length):0<=v.getD j 0/\v.getD j 0<=400:=by
 simp only[SH,JT,Jc,decide_eq_true_eq]at h;rw[getD_lt hj];exact h _ (JC hj)
theorem Zce {t:Tg} (h:Wy t=Ht):IntKind.i64.wrap (t.r-1)=t.r-1/\0<=t.r-1/\t.r-1<6/\(t.r-1).toNat<6/\(t.r-1).toNat<=5:=by
 simp only[Wy,Jc,decide_eq_true_eq]at h;exact⟨w64 (by omega),by omega,by omega,by omega,by omega⟩
structure Mo where
 id:Tg
 l:List Cg
deriving DecidableEq,Inhabited
def mo (x:Mo):PV:= .agg [.int .i64 x.id.r,.int .i64 x.id.n,.sl .no (x.l.map chg)]
def mos (l:List Mo):PV:= .sl .no (l.map mo)
theorem vc9 {x:Bool} {M:KH} {g:FuncId} {args args':List PV} {K:KR} {r:PV} (h1:Pp g args' r) (h2:K.k r M.m) (h0:JQ M.m args:=by first|(simp only[go_sem,ref,ent,UM,doc,Xd,row,Zp,fld,lns,tg,refs,prs,pr,eg,egs,tgs,lg,lgs,YD,opv,tr,Zr,chg,Zt1,mo,mos,FW];done)|exact rfl) (he:J7 M.m args=args':=by first|(simp only[go_sem,ref,ent,UM,doc,Xd,row,Zp,fld,lns,tg,refs,prs,pr,eg,egs,tgs,lg,lgs,YD,opv,tr,Zr,chg,Zt1,mo,mos,FW];done)|exact rfl):@Vr prog x M (some (g,args)) K:=Zk h1 h0 he h2
open Go.PL
def UT (m:List Opn) (t:Tg):Option Opn:=m.find? λo=>decide (o.id=t)
def X7 (m:List Opn) (o:Opn):List Opn×Int:=
 if Yk o=Hf then(m,5)else
 if UT m o.id=some o then(m,7)else
 if(UT m o.id).isSome=Ht then(m,15)else
 if 1<o.id.n/\(UT m ⟨o.id.r,o.id.n-1⟩).isSome=Hf then(m,17)else
 if 399<m.length then(m,9)else(m++ [o],0)
def Yl (m:List Opn) (i:Nat):List Opn:=m.filter λo=>decide (o.id.r=(i:Int)+1)
def VM (m:List Opn):List Int:=(JA 6).map λi=>((Yl m i).length:Int)
structure PoolOk (m:List Opn):Prop where
 l:m.length<=400
 t:∀o∈m,Wy o.id=Ht
 r:∀o∈m,Yk o=Ht
 n:∀i,i<6-> ∀j,j<(Yl m i).length->((Yl m i).getD j Jd).id=⟨(i:Int)+1,(j:Int)+1⟩
theorem Zh3:PoolOk []:=⟨by simp,by simp,by simp,λi _ j hj=>by simp[Yl]at hj⟩
theorem ZdR (m:List Opn) (o:Opn) (i:Nat):Yl (m++ [o]) i=Yl m i++(if o.id.r=(i:Int)+1 then [o]else []):=by
 unfold Yl;rw[Jq];congr 1;by_cases h:o.id.r=(i:Int)+1;rw[if_pos h,Jf (by simpa using h)];rfl;rw[if_neg h,Jb (by simpa using h)];rfl
theorem SL (m:List Opn) (i:Nat):(Yl m i).length<=m.length:=Ji _ _
theorem Xa (m:List Opn) {i:Nat} (h:i<6):(VM m).getD i 0=((Yl m i).length:Int):=by
 unfold VM;rw[getD_lt (by simpa using h)];simp
theorem Uj {m:List Opn} {o:Opn} {i:Nat}:o∈Yl m i↔o∈m/\o.id.r=(i:Int)+1:=by simp[Yl]
theorem PoolOk.at' {m:List Opn} (h:PoolOk m) {o:Opn} (ho:o∈m):∃i j:Nat,i<6/\j<(Yl m i).length/\o.id=⟨(i:Int)+1,(j:Int)+1⟩/\(Yl m i).getD j Jd=o:=by
 have ht:=h.t o ho;simp only[Wy,Jc,decide_eq_true_eq]at ht;obtain⟨j,hj,hjo⟩:=J3 (Uj.2 ⟨ho,show o.id.r=(((o.id.r-1).toNat:Nat):Int)+1 by omega⟩);have hn:=h.n (o.id.r-1).toNat (by omega) j hj;rw[getD_lt hj,hjo]at hn;exact⟨_,j,by omega,hj,hn,by rw[getD_lt hj,hjo]⟩
theorem PoolOk.uni {m:List Opn} (h:PoolOk m) {o p:Opn} (ho:o∈m) (hp:p∈m) (e:o.id=p.id):o=p:=by
 obtain⟨i,j,_,_,h1,h2⟩:=h.at' ho;obtain⟨i',j',_,_,h3,h4⟩:=h.at' hp;rw[h1,h3]at e;injection e with e1 e2
 obtain rfl:i=i':=by omega
 obtain rfl:j=j':=by omega
 rw[<-h2,<-h4]
theorem Sq {m:List Opn} {t:Tg} {o:Opn} (h:UT m t=some o):o∈m/\o.id=t:=⟨List.mem_of_find?_eq_some h,by simpa using List.find?_some h⟩
theorem PoolOk.get {m:List Opn} (h:PoolOk m) {o:Opn} (ho:o∈m):UT m o.id=some o:=by
 cases hg:UT m o.id with
 |none=>exact absurd (decide_eq_true rfl) (List.find?_eq_none.1 hg o ho)
 |some p=>obtain⟨h1,h2⟩:=Sq hg;rw[h.uni h1 ho h2]
theorem PoolOk.has {m:List Opn} (h:PoolOk m) (t:Tg):F5 (VM m) t=(UT m t).isSome:=by
 rw[Jy];constructor;intro hv;simp only[F5,Jc,decide_eq_true_eq]at hv;obtain⟨h1,h2⟩:=hv;have h3:=Zce h1;simp only[Wy,Jc,decide_eq_true_eq]at h1;rw[Xa m (by omega)]at h2;have hj:(t.n-1).toNat<(Yl m (t.r-1).toNat).length:=by omega
 have hn:=h.n (t.r-1).toNat (by omega) _ hj;have hm:=(Uj.1 (Zy (d:=Jd) hj)).1;have he:((Yl m (t.r-1).toNat).getD (t.n-1).toNat Jd).id=t:=by
  rw[hn];cases t;simp only at h1 ⊢;congr 1<;>omega
 have:=h.get hm;rw[he]at this;rw[this];rfl;intro hs;obtain⟨o,ho⟩:=JR.1 hs;obtain⟨hm,rfl⟩:=Sq ho;obtain⟨i,j,hi,hj,he,_⟩:=h.at' hm;simp only[F5,Jc,decide_eq_true_eq];refine⟨h.t o hm,?_⟩;rw[he];have:((i:Int)+1-1).toNat=i:=by omega
 simp only[this];rw[Xa m hi];omega
theorem PoolOk.found {m:List Opn} (h:PoolOk m) {t:Tg} (hv:F5 (VM m) t=Ht):UT m t=some ((Yl m (t.r-1).toNat).getD (t.n-1).toNat Jd):=by
 rw[h.has]at hv;obtain⟨o,ho⟩:=JR.1 hv;obtain⟨hm,rfl⟩:=Sq ho;obtain⟨i,j,hi,hj,he,e⟩:=h.at' hm;rw[ho,he];have e1:((i:Int)+1-1).toNat=i:=by omega
 have e2:((j:Int)+1-1).toNat=j:=by omega
 simp only[e1,e2,e]
open Go.PL
theorem SJ {o:Opn} (h:Yk o=Ht):Wy o.id=true:=by
 cases ht:Wy o.id;simp[Yk,ht]at h;rfl
theorem Du {m:List Opn} (h:PoolOk m) (o:Opn):X7 m o=
  if Yk o=Hf then(m,5)else
  if F5 (VM m) o.id=Ht then(if(Yl m (o.id.r-1).toNat).getD (o.id.n-1).toNat Jd=o then(m,7)else(m,15))else
  if o.id.n≠((Yl m (o.id.r-1).toNat).length:Int)+1 then(m,17)else
  if 400<=m.length then(m,9)else(m++ [o],0):=by
 unfold X7;cases hr:Yk o;simp only[if_true];simp only[JK,if_false];have ht:=SJ hr;have ht':=ht;simp only[Wy,Jc,decide_eq_true_eq]at ht;cases hv:F5 (VM m) o.id;have hn:(UT m o.id).isSome=false:=by rw[<-h.has,hv]
 have hn':UT m o.id=none:=Option.not_isSome_iff_eq_none.1 (by rw[hn];simp);rw[hn'];simp only[reduceCtorEq,if_false,Option.isSome_none,JM];have hlen:((Yl m (o.id.r-1).toNat).length:Int)<o.id.n:=by
  rw[Jz]at hv;simp only[F5,ht',Ju,ne_eq,decide_eq_true_eq,Xa m (show(o.id.r-1).toNat<6 by omega)]at hv;omega
 have hl4:(399<m.length)=(400<=m.length):=by rw[Nat.lt_iff_add_one_le]
 simp only[hl4];have hg:(UT m ⟨o.id.r,o.id.n-1⟩).isSome=(Wy ⟨o.id.r,o.id.n-1⟩&&decide (o.id.n-1<=((Yl m (o.id.r-1).toNat).length:Int))):=by
  rw[<-h.has];simp only[F5,Xa m (show(o.id.r-1).toNat<6 by omega)]
 have hc:(1<o.id.n/\(UT m ⟨o.id.r,o.id.n-1⟩).isSome=Hf)↔o.id.n≠((Yl m (o.id.r-1).toNat).length:Int)+1:=by
  rw[hg];constructor;rintro ⟨h1,h2⟩ e;rw[Jz]at h2;apply h2;simp only[Wy,Jc,decide_eq_true_eq];omega;intro e;refine⟨by omega,?_⟩;rw[Jz];intro h2;simp only[Wy,Jc,decide_eq_true_eq]at h2;omega
 by_cases hq:o.id.n≠((Yl m (o.id.r-1).toNat).length:Int)+1;rw[if_pos (hc.2 hq),if_pos hq];rw[if_neg (λx=>hq (hc.1 x)),if_neg hq];have hf:=h.found hv;rw[hf];simp only[if_true,Option.isSome_some,Option.some.injEq]
theorem PoolOk.put {m:List Opn} (h:PoolOk m) (o:Opn):PoolOk (X7 m o).1:=by
 rw[Du h];split;exact h;rename_i hr;have hr:Yk o=true:=by simpa using hr
 have ht:=SJ hr;have ht':=ht;simp only[Wy,Jc,decide_eq_true_eq]at ht;split;split<;>exact h
 split;exact h;rename_i hn;split;exact h;rename_i hl;refine⟨by rw[Jh];simp;omega,λx hx=> ?_,λx hx=> ?_,λi hi j hj=> ?_⟩;rcases Jn.1 hx with hx|hx;exact h.t x hx;rw[Jg.1 hx];exact ht';rcases Jn.1 hx with hx|hx;exact h.r x hx;rw[Jg.1 hx];exact hr;rw[ZdR]at hj ⊢;by_cases e:o.id.r=(i:Int)+1;rw[if_pos e]at hj ⊢;have ei:(o.id.r-1).toNat=i:=by omega
 rw[ei]at hn;by_cases hj2:j<(Yl m i).length;rw[getD_lt hj,Js hj2];have:=h.n i hi j hj2;rwa[getD_lt hj2]at this;rw[Jh]at hj;simp only[JU,Kd]at hj;obtain rfl:j=(Yl m i).length:=by omega
 rw[getD_lt (by simp),JO (Kc _)];simp only[Kj,JV];have hn2:o.id.n=((Yl m i).length:Int)+1:=by omega
 rw[<-e,<-hn2];rw[if_neg e]at hj ⊢;rw[Je]at hj ⊢;exact h.n i hi j hj
open Go.PL
def X6 (m:List Opn):List Opn:=(JA 6).flatMap (Yl m)
theorem SC {m:List Opn} (h:PoolOk m) {o:Opn}:o∈X6 m↔o∈m:=by
 constructor;intro ho;obtain⟨i,_,hi⟩:=Ka.1 ho;exact(Uj.1 hi).1;intro ho;obtain⟨i,j,hi,hj,_,e⟩:=h.at' ho;exact Ka.2 ⟨i,JZ.2 hi,by rw[<-e];exact Zy hj⟩
theorem Zd6 (k:Nat):∀(m:List Opn),(∀o∈m,1<=o.id.r)->((JA k).flatMap (Yl m)).length=(m.filter λo=>decide (o.id.r<=(k:Int))).length:=by
 induction k with
 |zero=>
  intro m h;rw[List.filter_eq_nil_iff.2 (λo ho=>by have:=h o ho;simp only[decide_eq_true_eq];omega)];rfl
 |succ k ih=>
  intro m h;rw[Ke,J4,Jh,ih m h];simp only[List.flatMap_cons,List.flatMap_nil,Je];induction m with
  |nil=>rfl
  |cons o m im=>
   have h0:=h o (by simp);have h1:=im (λx hx=>h x (by simp[hx]));unfold Yl at h1 ⊢;by_cases a:o.id.r<=(k:Int);rw[Jf (by simpa using a),Jb (by simp only[decide_eq_true_eq];omega),Jf (by simp only[decide_eq_true_eq];omega)];simp only[JU];omega;by_cases b:o.id.r=(k:Int)+1;rw[Jb (by simpa using a),Jf (by simpa using b),Jf (by simp only[decide_eq_true_eq];omega)];simp only[JU];omega;rw[Jb (by simpa using a),Jb (by simpa using b),Jb (by simp only[decide_eq_true_eq];omega)];exact h1
theorem Dt {m:List Opn} (h:PoolOk m):(X6 m).length=m.length:=by
 have ht:∀o∈m,1<=o.id.r/\o.id.r<=6:=λo ho=>by
  have:=h.t o ho;simp only[Wy,Jc,decide_eq_true_eq]at this;omega
 unfold X6;rw[Zd6 6 m λo ho=>(ht o ho).1,List.filter_eq_self.2 λo ho=>by have:=ht o ho;simp only[decide_eq_true_eq];omega]
theorem PoolOk.nodup {m:List Opn} (h:PoolOk m):((X6 m).map Opn.id).Nodup:=by
 have hrow:∀i,i<6->((Yl m i).map Opn.id).Nodup:=λi hi=>by
  rw[Kf,List.pairwise_iff_getElem];intro a b ha hb hab;rw[Jj]at ha hb;have h1:=h.n i hi a ha;have h2:=h.n i hi b hb;rw[getD_lt ha]at h1;rw[getD_lt hb]at h2;rw[Jo,Jo,h1,h2];simp only[ne_eq,Tg.mk.injEq];omega
 unfold X6;rw[List.map_flatMap,Kf,List.pairwise_flatMap];refine⟨λi hi=>hrow i (JZ.1 hi),?_⟩;refine Kg.imp ?_ List.nodup_range;intro i j hij x hx y hy hxy;obtain⟨o,ho,rfl⟩:=JD.1 hx;obtain⟨p,hp,e⟩:=JD.1 hy;have h1:=(Uj.1 ho).2;have h2:=(Uj.1 hp).2;rw[e,<-hxy]at h2;exact hij (by omega)
open Go.PL
def Vu (l:List Opn):List Opn:=l.foldl (λm o=>(X7 m o).1) []
theorem To (l:List Opn):PoolOk (Vu l):=by
 unfold Vu
 suffices h:∀m,PoolOk m->PoolOk (l.foldl (λm o=>(X7 m o).1) m)from h [] Zh3
 induction l with
 |nil=>intro m h;exact h
 |cons o l ih=>intro m h;exact ih _ (h.put o)
theorem ZhE {l:List Opn} {k:Nat} (h:k<l.length):Vu (l.take (k+1))=(X7 (Vu (l.take k)) (l.getD k Jd)).1:=by
 unfold Vu;rw[ZT (d:=Jd) h,J8];rfl
theorem Zko {m:List Opn} {o x:Opn} (h:x∈(X7 m o).1):x∈m\/x=o:=by
 unfold X7 at h;repeat' split at h
 all_goals first|exact .inl h|exact(Jn.1 h).imp id (λh=>Jg.1 h)
theorem Zc7 {l:List Opn} {x:Opn} (h:x∈Vu l):x∈l:=by
 unfold Vu at h
 suffices g:∀m,x∈l.foldl (λm o=>(X7 m o).1) m->x∈m\/x∈l from(g [] h).resolve_left (by simp)
 clear h;induction l with
 |nil=>intro m h;exact .inl h
 |cons o l ih=>
  intro m h;rcases ih _ h with h|h;rcases Zko h with h|rfl;exact .inl h;exact .inr (by simp);exact .inr (by simp[h])
open Go.PL
@[go_sem] theorem ZpB (m:Hp) (k:IntKind) (l:List Int):J7 m (l.map (.int k))=l.map (.int k):=by
 induction l with
 |nil=>rfl
 |cons a l ih=>simp only[JE,J7,ih,PV.give]
@[go_sem] theorem Zmg (m:Hp) (k:IntKind) (l:List Int):JQ m (l.map (.int k))=True:=by
 induction l with
 |nil=>rfl
 |cons a l ih=>simp only[JE,JQ,ih,PV.givable,and_self]
theorem ZbN (v:List Int):JJ (v.map (.int .i64))= []:=by
 induction v with
 |nil=>rfl
 |cons a v ih=>simp only[JE,JJ,Jw,ih,Je]
theorem ZeJ (v:List Int) (hv:v.length=6):Pp 72 [FW v] (.bool (SH v)):=by
 refine ZF func72 rfl ntmps72 results72 ?_;simp only[go_sem,FW,hv,SU hv];refine Zz (ι:= { i:Nat // i<=6/\ ∀j,j<i->0<=v.getD j 0/\v.getD j 0<=400 }) 16 (λi=> [(5,FW v),(6,.int .i64 (i.1:Int))]) (λ_=> []) (λ_=> []) (λi=>6-i.1) ⟨0,by omega,λj hj=>by omega⟩
  ⟨rfl,(Fc2 rfl rfl),fnl,fnl⟩ (λi=>⟨Fc2 (by simp[FW,Jw,ZbN]) rfl,fnl⟩) (λi=> ?_)
 obtain⟨i,hi,hall⟩:=i;simp only;simp only[go_sem,FW,hv];refine Zs (λh=> ?_) (λh=> ?_);have hi6:i<v.length:=by have:=of_decide_eq_true h;omega
 have i0:=Ja i
 have i5:i<=5:=by omega
 have i6:(i:Int)<6:=by omega
 simp only[go_sem,FW,h,hv,i0,i5,i6,Do hi6];refine Zj (λh1=> ?_) (λh1=> ?_);simp only[go_sem,h1,hv];exact(G2 hi6 (by have:=of_decide_eq_true h1;omega));simp only[go_sem,h1,hv];refine Zs (λh2=> ?_) (λh2=> ?_);simp only[go_sem,h2];exact(G2 hi6 (by have:=of_decide_eq_true h2;omega));simp only[go_sem,h2];have h3:=of_decide_eq_false h1;have h4:=of_decide_eq_false h2;rw[IntWalk.i64_in _ (by omega)];refine⟨⟨i+1,by omega,λj hj=> ?_⟩,by show 6-(i+1)<6-i;omega,⟨rfl,(Fc2 rfl rfl),fnl,fnl⟩⟩;rcases Nat.lt_or_ge j i with hlt|hge;exact hall j hlt;obtain rfl:j=i:=by omega
 omega;simp only[go_sem,h];exact(Fz (by rw[hv];intro j hj;exact hall j (by have:=of_decide_eq_false h;omega)))
theorem ZcP (v:List Int) (hv:v.length=6) (t:Tg):Pp 73 [FW v,tg t] (.bool (F5 v t)):=by
 have ht:=Th t;cases hb:Wy t;rw[hb]at ht;refine ZF func73 rfl ntmps73 results73 ?_;simp only[go_sem,tg,FW,hv];refine vDq ?_;simp only[go_sem,hv];refine vc3 ht ?_;simp only[go_sem,hv];simp[F5,hb];rw[hb]at ht;obtain⟨e1,e2,e3,e4,e5⟩:=Zce hb;refine ZF func73 rfl ntmps73 results73 ?_;simp only[go_sem,tg,FW,hv];refine vDq ?_;simp only[go_sem,hv];refine vc3 ht ?_;simp only[go_sem,hv,e1,e2,e3,e4,e5,Do];simp[F5,hb]
open Go.PL
def m6 (m:List Opn):List PV:=(JA 6).map λi=>Zr (Yl m i)
theorem GX (m:List Opn):(m6 m).length=6:=by simp[m6]
theorem ZfH (m:List Opn):Kh 6 (m6 m)=m6 m:=Jp (by rw[GX];exact Kc _)
theorem ZbI (m:List Opn) {i:Nat} (h:i<6):(m6 m).getD i .any=Zr (Yl m i):=by
 unfold m6;rw[getD_lt (by simpa using h)];simp
theorem ZbM (m:List Opn):JJ (m6 m)= []:=rfl
theorem VX (m:List Opn):(VM m).length=6:=by simp[VM]
def Ze5 (m:List Opn) (k:Nat):List Int:=(JA 6).map λi=>if i<k then((Yl m i).length:Int)else 0
theorem ZbK (m:List Opn) (k:Nat):(Ze5 m k).length=6:=by simp[Ze5]
theorem Zmk (m:List Opn):Ze5 m 6=VM m:=by
 unfold Ze5 VM;exact List.map_congr_left λi hi=>if_pos (JZ.1 hi)
theorem Zmj (m:List Opn) {k:Nat} (h:k<6):Kh k ((Ze5 m k).map (JY .i64))++ [.int .i64 ((Yl m k).length:Int)]++List.drop (k+1) ((Ze5 m k).map (JY .i64))=(Ze5 m (k+1)).map (.int .i64):=by
 have hl:k<((Ze5 m k).map (JY .i64)).length:=by rw[Jj,ZbK];exact h
 have hs:((Ze5 m k).map (JY .i64)).set k (.int .i64 ((Yl m k).length:Int))=_:=List.set_eq_take_append_cons_drop;rw[if_pos hl]at hs;rw[J9,List.singleton_append,<-hs];refine JB (by simp[Ze5]) λi h1 h2=> ?_
 by_cases e:k=i;subst e;rw[List.getElem_set_self];simp[Ze5];rw[JH e];simp only[Ze5,Jo,Jr];have:(i<k+1)=(i<k):=by simp only[eq_iff_iff];omega
 simp only[this]
theorem ZjE (m:List Opn):(Ze5 m 0).map (JY .i64)= [.int .i64 0,.int .i64 0,.int .i64 0,.int .i64 0,.int .i64 0,.int .i64 0]:=rfl
theorem Zlb (v:List Int):(v.map (JY .i64)).all PV.atom=true:=by
 induction v with
 |nil=>rfl
 |cons a v ih=>rw[JE,List.all_cons,ih];rfl
theorem S6 (m:List Opn):Pp 20 [.rptr (m6 m)] (FW (VM m)):=by
 refine ZF func20 rfl ntmps20 results20 ?_;simp only[go_sem,GX,ZfH];refine Zz (ι:= { k:Nat // k<=6 }) 23 (λk=> [(2,.ptr 2 0),(3,.ptr 3 0),(12,.agg (m6 m)),(13,.int .i64 (k.1:Int))]) (λk=> [(2,(Ze5 m 0).map (.int .i64),Hf),(3,(Ze5 m k.1).map (.int .i64),Hf)]) (λ_=> []) (λk=>6-k.1) ⟨0,by omega⟩
  ⟨rfl,(Fc4 rfl rfl rfl rfl),Fc2 ⟨rfl,rfl⟩ ⟨rfl,rfl⟩,fnl⟩ (λk=>⟨(Fc4 rfl rfl rfl rfl),Fc2 rfl (by rw[ZbN];rfl)⟩) (λk=> ?_)
 obtain⟨k,hk⟩:=k;simp only;by_cases h:(k:Int)<6;have k6:k<6:=by omega
 have k0:=Ja k
 have k5:k<=5:=by omega
 have k7:k+1<=6:=k6;have w1:=wk9 (k:=k) (by omega)
 simp only[go_sem,h,k0,k5,k6,k7,GX,ZbI m k6,Zr,ZbK,Zmj m k6,w1];exact⟨⟨k+1,k6⟩,by show 6-(k+1)<6-k;omega,⟨rfl,(Fc4 rfl rfl rfl rfl),Fc2 ⟨rfl,rfl⟩ ⟨rfl,rfl⟩,fnl⟩⟩;obtain rfl:k=6:=by omega
 simp only[go_sem,h,FW,Zmk,ZjE,ZbK,VX,SU (VX m),Zlb,Jh,Je]
def Zc1 (m:List Opn) (k:Nat):List Opn:=(JA k).flatMap (Yl m)
theorem Sl (m:List Opn) (k:Nat):Zc1 m (k+1)=Zc1 m k++Yl m k:=by
 unfold Zc1;rw[Ke,J4];simp
theorem Zjd {m:List Opn} (h:PoolOk m) {k:Nat} (hk:k<=6):(Zc1 m k).length<=m.length:=by
 have ht:∀o∈m,1<=o.id.r:=λo ho=>by
  have:=h.t o ho;simp only[Wy,Jc,decide_eq_true_eq]at this;omega
 unfold Zc1;rw[Zd6 k m ht];exact Ji _ _
theorem ZcE (m:List Opn) (hm:PoolOk m):Pp 15 [.rptr (m6 m)] (.int .i64 (m.length:Int)):=by
 have hH:=S6 m;have hL:(Zc1 m 6).length=m.length:=Dt hm;have hl:=hm.l;have hv:=VX m;refine ZF func15 rfl ntmps15 results15 ?_;simp only[go_sem];refine vc1 hH ?_;simp only[go_sem,FW];refine Zz (ι:= { k:Nat // k<=6 }) 16 (λk=> [(3,.int .i64 ((Zc1 m k.1).length:Int)),(7,FW (VM m)),(8,.int .i64 (k.1:Int))]) (λ_=> []) (λ_=> []) (λk=>6-k.1) ⟨0,by omega⟩
  ⟨rfl,(Fc3 rfl rfl rfl),fnl,fnl⟩ (λk=>⟨Fc3 rfl (by simp[FW,Jw,ZbN]) rfl,fnl⟩) (λk=> ?_)
 obtain⟨k,hk⟩:=k;simp only;by_cases h:(k:Int)<6;have k6:k<(VM m).length:=by rw[hv];omega
 have k0:=Ja k
 have k5:k<=5:=by omega
 have k7:(k:Int)<6:=by omega
 have w1:=wk9 (k:=k) (by omega)
 have hc:=Zjd hm (k:=k+1) (by omega);have w2:IntKind.i64.wrap (((Zc1 m k).length:Int)+(VM m).getD k 0)=((Zc1 m (k+1)).length:Int):=by
  rw[Xa m (by omega)];rw[Sl,Jh]at hc ⊢;rw[w64 (by omega)];omega
 simp only[go_sem,h,FW,hv,k0,k5,k7,Do k6,w1,w2];exact⟨⟨k+1,by omega⟩,by show 6-(k+1)<6-k;omega,⟨rfl,(Fc3 rfl rfl rfl),fnl,fnl⟩⟩;obtain rfl:k=6:=by omega
 simp only[go_sem,h,hL]
open Go.PL
theorem ZeF (a b:Tg):Pp 97 [tg a,tg b] (.bool (ZW a b)):=by
 refine ZF func97 rfl ntmps97 results97 ?_;simp only[go_sem,tg];repeat' ((first|(first|apply Zl|apply Zj|apply Zs)<;>intro h|refine vDq ?_)<;>first|simp only[go_sem,h]|simp only[go_sem]|skip)
 all_goals simp_all[ZW]
 all_goals (try omega)
theorem ZcJ (o:Opn):Pp 132 [opv o] (.bool (Wp o)):=by
 by_cases h60:60<(o.drops.length:Int);refine ZF func132 rfl ntmps132 results132 ?_;simp only[go_sem,opv,h60,Wp,Jk];have hm:o.drops.length<=maxLen:=by rw[Zd];omega
 have hx:Wp o=(JA o.drops.length).all (Yw o):=by simp only[Wp,h60,decide_false,J2,Ju]
 rw[hx];refine ZF func132 rfl ntmps132 results132 ?_;simp only[go_sem,opv,h60];refine Zz (ι:= { x:Nat // x<=(o.drops).length/\(∀j,j<x->Yw o j=Ht) }) 51 (λx=> [(1,.ptr 1 0),(3,.int .i64 (x.1:Int))]) (λx=> [(1,Xg o,Hf)]) (λx=> []) (λx=>(o.drops).length-x.1) ⟨0,Jl _,λj hj=>absurd hj (Nat.not_lt_zero j)⟩ ⟨rfl,(Fc2 rfl rfl),(fcs ⟨rfl,rfl⟩ fnl),fnl⟩ (λx=>⟨(Fc2 rfl rfl),(fcs rfl fnl)⟩) (λx=> ?_);obtain⟨k,hk,hI⟩:=x;simp only at hk hI ⊢;by_cases h:(k:Int)<(o.drops.length:Int)
 (have hka:k<(o.drops).length:=by omega);(have w1:=Vt hka (hm));(have i1:=Ja k)
 have hT:=UG (o.drops.getD k Jd);cases ht:Wy (o.drops.getD k Jd);rw[ht]at hT;have hz:=Yb (p:=Yw o) hka (by simp only[Yw,ht,Jk]);simp only[go_sem,Xg,h];refine vDq ?_;simp only[go_sem,Xg,h,ZK hka,tg,i1];refine vc3 hT ?_;simp only[go_sem,hz];rw[ht]at hT;cases he:decide (o.drops.getD k Jd=o.id);by_cases h0:0<(k:Int);have hk1:k-1<o.drops.length:=by omega
 have w2:IntKind.i64.wrap ((k:Int)-1)=((k-1:Nat):Int):=by rw[w64 (by omega)];omega
 have j1:(0:Int)<=((k-1:Nat):Int):=by omega
 have j2:((k-1:Nat):Int)<(o.drops.length:Int):=by omega
 have hL:=ZeF (o.drops.getD (k-1) Jd) (o.drops.getD k Jd);cases hb:ZW (o.drops.getD (k-1) Jd) (o.drops.getD k Jd);rw[hb]at hL;have hz:=Yb (p:=Yw o) hka (by simp only[Yw,hb,decide_eq_false (show ¬k=0 by omega),Bool.or_self,JL]);simp only[go_sem,Xg,h];refine vDq ?_;simp only[go_sem,Xg,h,ZK hka,tg,i1];refine vc3 hT ?_;simp only[go_sem,ZB,he,h0,w2,ZK hk1,ZK hka,tg,h,i1,j1,j2];refine vc3 hL ?_;simp only[go_sem,hz]
 ·rw[hb]at hL;have ok:Yw o k=true:=by simp only[Yw,ht,he,hb,Bool.or_true,J2,J6]
  simp only[go_sem,Xg,h];refine vDq ?_;simp only[go_sem,Xg,h,ZK hka,tg,i1];refine vc3 hT ?_;simp only[go_sem,ZB,he,h0,w2,ZK hk1,ZK hka,tg,h,i1,j1,j2];refine vc3 hL ?_;simp only[go_sem,w1];exact⟨⟨k+1,by(try simp only);omega,Zn hI ok⟩,by show(o.drops).length-(k+1)<(o.drops).length-k;omega,⟨rfl,(Fc2 rfl rfl),(fcs ⟨rfl,rfl⟩ fnl),fnl⟩⟩
 ·have ok:Yw o k=true:=by simp only[Yw,ht,he,decide_eq_true (show k=0 by omega),Bool.true_or,J2,J6]
  simp only[go_sem,Xg,h];refine vDq ?_;simp only[go_sem,Xg,h,ZK hka,tg,i1];refine vc3 hT ?_;simp only[go_sem,ZB,he,h0,w1,ZK hka,tg,i1,h];exact⟨⟨k+1,by(try simp only);omega,Zn hI ok⟩,by show(o.drops).length-(k+1)<(o.drops).length-k;omega,⟨rfl,(Fc2 rfl rfl),(fcs ⟨rfl,rfl⟩ fnl),fnl⟩⟩
 have hz:=Yb (p:=Yw o) hka (by simp only[Yw,he,Bool.not_true,Jk,JL]);simp only[go_sem,Xg,h];refine vDq ?_;simp only[go_sem,Xg,h,ZK hka,tg,i1];refine vc3 hT ?_;simp only[go_sem,ZB,he,hz,ZK hka,tg,i1,h];have hz:=U2 (p:=Yw o) (n:=o.drops.length) (λj hj=>hI j (by omega));simp only[go_sem,Xg,h,hz]
def Vi (o:Opn):Bool:=decide (o.at'=Jd)&&(decide (o.delta=0)&&(!o.has&&decide (o.text= [])))
theorem Fu (a:Rf):(a.sc==0&&(a.gr== []&&a.nm== []))=decide (a=Jd):=ZD a Jd
theorem ZcK (o:Opn):Pp 133 [opv o] (.bool (Vi o)):=by
 refine ZF func133 rfl ntmps133 results133 ?_;simp only[go_sem,opv,Fu];repeat' ((first|(first|apply Zl|apply Zj|apply Zs)<;>intro h|refine vDq ?_)<;>first|simp only[go_sem,h,Fu]|simp only[go_sem,Fu]|skip)
 all_goals (simp_all[Vi];try(rw[Jy];simp))
def Znx (id:Tg) (l:List Tg):Bool:=Wp ⟨id,Jd,0,[],0,[],Jd,0,Hf,[],l⟩
theorem Zl6 (o:Opn):Wp o=Znx o.id o.drops:=rfl
def Zku (o:Opn):Bool:=
 if((((!Wy o.id||(!decide (o.sch=Jd)&& !Wy o.sch))||decide (o.time<1))||decide (1099511627776<o.time))|| !ZL o.cart)|| !Wp o then Hf
 else if o.kind=5 then decide (o.item= [])&&Vi o
 else if o.kind=1 then(ZL o.item&&Vi o)&&decide ((o.drops.length:Int)=0)
 else if o.kind=2 then ZL o.item&&Vi o
 else if(!YY o.at'||(decide (o.at'.sc=1)&& !ZL o.item))||(decide (o.at'.sc=0)&& !decide (o.item= []))then Hf
 else if o.kind=3 then(((!o.has&&decide (o.text= []))&&decide ((o.drops.length:Int)=0))&&decide (-1048577<o.delta))&&decide (o.delta<1048577)
 else(decide (o.kind=4)&&decide (o.delta=0))&&((o.has&&decide ((o.text.length:Int)<41))||(!o.has&&decide (o.text= [])))
theorem Zkv (o:Opn):Zku o=Yk o:=by
 rw[Jy];unfold Zku Yk;rw[Zl6];obtain⟨id,sch,time,cart,kind,item,⟨sc,gr,nm⟩,delta,has,text,drops⟩:=o;simp only;generalize Znx id drops=db;by_cases k5:kind=5;subst k5;simp[Z6,VZ,Ye,Vi];constructor
 ·intro h;simp_all;try omega
 ·intro h;simp_all;try omega
 by_cases k1:kind=1;subst k1;simp[Z6,VZ,Ye,Vi];constructor
 ·intro h;simp_all;try omega
 ·intro h;simp_all;try omega
 by_cases k2:kind=2;subst k2;simp[Z6,VZ,Ye,Vi];constructor
 ·intro h;simp_all;try omega
 ·intro h;simp_all;try omega
 by_cases k3:kind=3;subst k3;by_cases s1:sc=1;subst s1;simp[Z6,VZ,Ye,Vi];constructor
 ·intro h;simp_all;try omega
 ·intro h;simp_all;try omega
 by_cases s0:sc=0;subst s0;simp[Z6,VZ,Ye,Vi];constructor
 ·intro h;simp_all;try omega
 ·intro h;simp_all;try omega
 simp[Z6,VZ,Ye,Vi,YY,s1,s0];by_cases k4:kind=4;subst k4;by_cases s1:sc=1
 ·subst s1;cases has;all_goals
   simp[Z6,VZ,Ye,Vi];constructor
   ·intro h;simp_all;try omega
   ·intro h;simp_all;try omega
 by_cases s0:sc=0
 ·subst s0;cases has;all_goals
   simp[Z6,VZ,Ye,Vi];constructor
   ·intro h;simp_all;try omega
   ·intro h;simp_all;try omega
 simp[Z6,VZ,Ye,Vi,YY,s1,s0];simp[Z6,k1,k2,k3,k4,k5]
end Go.Proofs.YtepchngegclagaaGreat
namespace Go.PL
end Go.PL
namespace Go.Proofs.YtepchngegclagaaGreat
open Go.PL
open Go.PL
open Go.PL
structure De where
 kind:Int
 cart:Str
 item:Str
 at':Rf
 n:Int
 text:Str
 tag:Tg
 ln:Ln
 deriving DecidableEq,Inhabited
def GS (d:De):List PV:= [.int .i64 d.kind,.str d.cart,.str d.item,.int .i64 d.at'.sc,.str d.at'.gr,.str d.at'.nm,.int .i64 d.n,.str d.text,.int .i64 d.tag.r,.int .i64 d.tag.n,
 .int .i64 d.ln.kind,.int .i64 d.ln.at'.sc,.str d.ln.at'.gr,.str d.ln.at'.nm,.str d.ln.nm,.str d.ln.ot,.int .i64 d.ln.fac,.int .i64 d.ln.fd.at'.sc,.str d.ln.fd.at'.gr,.str d.ln.fd.at'.nm,.int .i64 d.ln.fd.kind,.str d.ln.fd.df,.sl .no (d.ln.fd.cases'.map .str),.int .i64 d.ln.fd.worth,.sl .no (d.ln.fo.map pr),.sl .no (d.ln.ba.map pr)]
def ded (d:De):PV:= .agg (GS d)
def Ze6 (d:De):Bool:=decide (200<(d.cart.length:Int))||decide (200<(d.item.length:Int))||decide (200<(d.at'.gr.length:Int))||decide (200<(d.at'.nm.length:Int))||decide (200<(d.text.length:Int))
theorem DH (d:De):Pp 9 [ded d] (.bool (Ze6 d)):=by
 refine ZF func9 rfl ntmps9 results9 ?_;simp only[go_sem,ded,GS];repeat' ((first|(first|apply Zl|apply Zj|apply Zs)<;>intro h|refine vDq ?_)<;>first|simp only[go_sem,h]|simp only[go_sem]|skip)
 all_goals simp_all[Ze6]
 all_goals omega
theorem Zho (v:List Int) (r:Int) (hv:v.length=6) (hR:SH v=Ht) (h1:1<=r) (h6:r<=6) (hf:v.getD (r-1).toNat 0<400):Pp 36 [FW v,.int .i64 r] (tgc (⟨r,v.getD (r-1).toNat 0+1⟩,0)):=by
 have hV:=ZeJ v hv;rw[hR]at hV;have e1:IntKind.i64.wrap (r-1)=r-1:=w64 (by omega);have e2:0<=r-1:=by omega
 have e3:r-1<6:=by omega
 have e4:(r-1).toNat<6:=by omega
 have e5:(r-1).toNat<=5:=by omega
 have e6:(r-1).toNat<v.length:=by omega
 have e7:(r-1).toNat+1<=v.length:=by omega
 have e8:¬r<1:=by omega
 have e9:¬6<r:=by omega
 have hra:=Zkw hR e6;have hg:=Do e6;generalize v.getD (r-1).toNat 0=n at *;have e10:¬400<=n:=by omega
 have e11:IntKind.i64.wrap (n+1)=n+1:=w64 (by omega);refine ZM func36 rfl ntmps36 results36 (rfl) ?_;simp only[go_sem,FW,hv,SU hv];refine vc9 hV ?_;simp only[go_sem,e1,e2,e3,e4,e5,e6,e7,e8,e9,e10,e11,hg,hv,tgc,tg]
def clk (l:List Opn):Int:=l.foldl (λa o=>max a o.time) 0
theorem Zoe (a b:List Opn):clk (a++b)=b.foldl (λa o=>max a o.time) (clk a):=by unfold clk;rw[J8]
theorem Zex (m:List Opn) (hm:PoolOk m):Pp 35 [.rptr (m6 m)] (.int .i64 (clk (X6 m))):=by
 have hl:=hm.l;refine ZF func35 rfl ntmps35 results35 ?_;simp only[go_sem,GX,ZfH];refine Zz (ι:= { k:Nat // k<=6 }) 31 (λx=> [(3,.int .i64 (clk (Zc1 m x.1))),(14,.agg (m6 m)),(15,.int .i64 (x.1:Int))]) (λx=> []) (λx=> []) (λx=>6-x.1) ⟨0,by omega⟩
  ⟨rfl,(Fc3 rfl rfl rfl),fnl,fnl⟩ (λx=>⟨Fc3 rfl (by rw[Jw,ZbM];rfl) rfl,fnl⟩) (λx=> ?_)
 obtain⟨k,hk⟩:=x;simp only;by_cases h:(k:Int)<6;have k6:k<6:=by omega
 have k0:=Ja k
 have k5:k<=5:=by omega
 have w1:=wk9 (k:=k) (by omega)
 have h6:=ZbI m k6;have hrl:=SL m k;have hcs:=Sl m k;generalize hR:Yl m k=R at *;simp only[go_sem,h,k0,k5,GX,h6,Zr];refine Zz (ι:= { j:Nat // j<=R.length }) 31 (λx=> [(3,.int .i64 (clk (Zc1 m k++R.take x.1))),(14,.agg (m6 m)),(15,.int .i64 (k:Int)),(18,Zr R),(19,.int .i64 (R.length:Int)),(20,.int .i64 (x.1:Int))]) (λx=> []) (λx=> []) (λx=>R.length-x.1) ⟨0,Jl _⟩
  ⟨rfl,by simp only[List.take_zero,Je];exact(Fc6 rfl rfl rfl rfl rfl rfl),fnl,fnl⟩ (λx=>⟨Fc6 rfl (by rw[Jw,ZbM];rfl) rfl rfl rfl rfl,fnl⟩) (λx=> ?_)
 obtain⟨j,hj⟩:=x;simp only;by_cases h2:(j:Int)<(R.length:Int);have hja:j<R.length:=by omega
 have j0:=Ja j
 have w2:=wk9 (k:=j) (by omega)
 have hgd:=ZI hja;have hs:clk (Zc1 m k++R.take (j+1))=max (clk (Zc1 m k++R.take j)) (R.getD j Jd).time:=by
  rw[ZT (d:=Jd) hja,<-J9,Zoe];rfl
 generalize R.getD j Jd=x at *;simp only[go_sem,h2,Zr,hgd,opv,j0,w2];exact⟨⟨j+1,by omega⟩,nx9 (by omega),⟨rfl,by simp only;rw[hs];exact(Fc6 rfl rfl rfl rfl rfl rfl),fnl,fnl⟩⟩;obtain rfl:j=R.length:=by omega
 simp only[go_sem,h2,Jv,w1];exact⟨⟨k+1,k6⟩,by show 6-(k+1)<6-k;omega,⟨rfl,by simp only;rw[hcs];exact(Fc3 rfl rfl rfl),fnl,fnl⟩⟩;obtain rfl:k=6:=by omega
 simp only[go_sem,h];rfl
open Go.PL
structure Mkr where
 own:Tg
 F:List Fd
 al:List Opn
 d:De
def YK (g:List Eg) (x:Mkr):List PV:= [tr (Zc g),.int .i64 x.own.r,.int .i64 x.own.n,Zp x.F,Zr x.al,
 .int .i64 x.d.kind,.str x.d.cart,.str x.d.item,.int .i64 x.d.at'.sc,.str x.d.at'.gr,.str x.d.at'.nm,.int .i64 x.d.n,.str x.d.text,.int .i64 x.d.tag.r,.int .i64 x.d.tag.n,
 .int .i64 x.d.ln.kind,.int .i64 x.d.ln.at'.sc,.str x.d.ln.at'.gr,.str x.d.ln.at'.nm,.str x.d.ln.nm,.str x.d.ln.ot,.int .i64 x.d.ln.fac,.int .i64 x.d.ln.fd.at'.sc,.str x.d.ln.fd.at'.gr,.str x.d.ln.fd.at'.nm,.int .i64 x.d.ln.fd.kind,.str x.d.ln.fd.df,.sl .no (x.d.ln.fd.cases'.map .str),.int .i64 x.d.ln.fd.worth,.sl .no (x.d.ln.fo.map pr),.sl .no (x.d.ln.ba.map pr)]
def mkr (g:List Eg) (x:Mkr):PV:= .agg (YK g x)
def Vv (item:Str) (o:Opn):Bool:=(o.kind==1)&&(o.item==item)
theorem ZjA (g:List Eg) (x:Mkr) (o:Opn):Pp 136 [opv o,.rptr (YK g x)] (.bool (Vv x.d.item o)):=by
 cases hk:(o.kind==1);refine ZF func136 rfl ntmps136 results136 ?_;simp only[go_sem,opv,YK,hk,Vv,Jk];refine ZF func136 rfl ntmps136 results136 ?_;simp only[go_sem,opv,YK,hk,Vv,Ju]
theorem ZcA (l:List Opn) (f:FuncId) (cs:List PV) (p:Opn->Bool) (hl:l.length<=maxLen) (hp:∀r∈l,Pp f [opv r,.rptr cs] (.bool (p r))):
  Pp 182 [Zr l,.fn f [.rptr cs]] (.int .i64 (idx p l)):=by
 refine ZF func182 rfl ntmps182 results182 ?_;simp only[go_sem,Zr];refine Zz (ι:= { k:Nat // k<=l.length/\ ∀j,j<k->p (l.getD j Jd)=Hf }) 19 (λx=> [(0,Zr l),(1,.fn f [.rptr cs]),(7,.int .i64 (l.length:Int)),(8,.int .i64 (x.1:Int))]) (λx=> []) (λx=> []) (λx=>l.length-x.1) ⟨0,by omega,λj hj=>by omega⟩
  ⟨rfl,(Fc4 rfl rfl rfl rfl),fnl,fnl⟩ (λx=>⟨(Fc4 rfl rfl rfl rfl),fnl⟩) (λx=> ?_)
 obtain⟨k,hk,hall⟩:=x;simp only;by_cases h:(k:Int)<(l.length:Int);have hka:k<l.length:=by omega
 have w1:=Vt hka hl;have i1:=Ja k
 have hc:=hp _ (Zy (d:=Jd) hka);cases he:p (l.getD k Jd);rw[he]at hc;simp only[go_sem,h,Zr,ZI hka,opv,i1];refine vc6 hc ?_;simp only[go_sem,w1];exact⟨⟨k+1,by omega,Zn hall he⟩,nx9 (by omega),⟨rfl,(Fc4 rfl rfl rfl rfl),fnl,fnl⟩⟩;rw[he]at hc;have hx:=VY (p:=p) hka hall he;simp only[go_sem,h,Zr,ZI hka,opv,i1];refine vc6 hc ?_;simp only[go_sem,hx];have hx:=Su (p:=p) (d:=Jd) (l:=l) (λj hj=>hall j (by omega));simp only[go_sem,h,hx]
theorem Dz (l:List Opn) (f:FuncId) (cs:List PV) (p:Opn->Bool) (hl:l.length<=maxLen) (hp:∀r∈l,Pp f [opv r,.rptr cs] (.bool (p r))):
  Pp 135 [Zr l,.fn f [.rptr cs]] (.bool (l.any p)):=by
 have hI:=ZcA l f cs p hl hp;rw[<-ZjI];refine ZF func135 rfl ntmps135 results135 ?_;simp only[go_sem,Zr];refine vc7 hI ?_;simp only[go_sem]
theorem Zgm (g:List Eg) (x:Mkr) (hl:x.al.length<=maxLen):Pp 85 [mkr g x] (.bool (x.al.any (Vv x.d.item))):=by
 have hC:=Dz x.al 136 (YK g x) (Vv x.d.item) hl (λr _=>ZjA g x r);refine ZF func85 rfl ntmps85 results85 ?_;simp only[go_sem,mkr,YK,tr,Zp,Zr];refine Zk hC ?_ ?_ ?_;iterate 2 simp only[go_sem,YK,tr,Zp,Zr]
 simp only[go_sem]
open Go.PL
def GP (g:List Eg) (x:Mkr) (o:Opn):Opn×Bool:=
 if(toT g o x.own).c≠0 then(Jd,Hf)else if(toT g o x.own).ok=Hf then(Jd,Hf)else if(toT g o x.own).o.kind≠4 then(Jd,Hf)
 else if(toT g o x.own).o.at'≠x.d.at' then(Jd,Hf)else if x.d.at'.sc=1/\(toT g o x.own).o.item≠x.d.item then(Jd,Hf)else((toT g o x.own).o,Ht)
theorem G7 (g:List Eg) (x:Mkr) (o:Opn) (hm:OkM g) (hr:RightM g) (ho:OkOp o):Pp 142 [mkr g x,opv o] (opb (GP g x o)):=by
 have hT:=ZcO g o x.own hm hr ho;unfold GP;generalize toT g o x.own=y at *;obtain⟨yo,yk,yc⟩:=y;refine ZM func142 rfl ntmps142 results142 (Zu _) ?_;simp only[go_sem,mkr,YK,opv,tr,Zp,Zr];refine vc7 hT ?_;simp only[go_sem,SP,opv,opb,Zi,ZD];repeat' ((first|(first|apply Zl|apply Zj|apply Zs)<;>intro h|refine vDq ?_)<;>first|simp only[go_sem,h,SP,opv,opb,Zi,ZD]|simp only[go_sem,SP,opv,opb,Zi,ZD]|skip)
 all_goals simp_all[opb,Zi]
 all_goals (repeat(first|exact rfl|refine⟨rfl,?_⟩))
open Go.PL
def F4 (k:Int) (f:Fd):Bool:=if k=3 then f.kind==1 else if k=4 then(f.kind==2||f.kind==3)else f.kind==4
def Z1 (x:Mkr):Fd×Int:=
 if(ZC x.F x.d.at').2≠0 then(Jd,(ZC x.F x.d.at').2)else if F4 x.d.kind (ZC x.F x.d.at').1=Hf then(Jd,11)
 else if x.d.at'.sc=1/\x.al.any (Vv x.d.item)=Hf then(Jd,12)else((ZC x.F x.d.at').1,0)
theorem ZhD (g:List Eg) (x:Mkr) (hl:x.al.length<=maxLen) (hF:x.F.length<=100000) (hc:∀f∈x.F,f.cases'.length<=1000000):Pp 140 [mkr g x] (VO (Z1 x)):=by
 have hS:=WQ x.F x.d.at' hF hc;have hH:=Zgm g x hl;unfold Z1;generalize ZC x.F x.d.at'=y at *;obtain⟨yf,yc⟩:=y;generalize x.al.any (Vv x.d.item)=hs at *;refine ZM func140 rfl ntmps140 results140 (D0 _) ?_;simp only[go_sem,mkr,YK,tr,Zp,Zr];refine vc2 hS ?_;simp only[go_sem,VO,fld];repeat' (first|(refine Zl (λh=> ?_) (λh=> ?_)<;>(try simp only[go_sem,h,VO,fld,Wc]))|(refine Zj (λh=> ?_) (λh=> ?_)<;>(try simp only[go_sem,h,VO,fld,Wc]))|(refine Zs (λh=> ?_) (λh=> ?_)<;>(try simp only[go_sem,h,VO,fld,Wc]))|((refine Zk hH ?_ ?_ ?_);(focus simp only[go_sem,mkr,YK,tr,Zp,Zr]);(focus exact rfl);(try simp only[go_sem,VO,fld,Wc]))|((refine ZnV (by kernel_rfl) (by kernel_rfl) ?_);(try simp only[go_sem,VO,fld,Wc])))
 all_goals simp_all[VO,F4]
 all_goals (repeat(first|exact rfl|refine⟨rfl,?_⟩))
open Go.PL
open Go.RowKit
theorem ZhM (g:List Eg) (x:Mkr) (o:Opn):Pp 87 [opv o,.rptr (YK g x)] (.bool (o.item==x.d.item)):=by
 refine ZF func87 rfl ntmps87 results87 ?_;simp only[go_sem,opv,YK]
theorem ZhN (o:Opn):Pp 88 [opv o] (.bool (o.item != [])):=by
 refine ZF func88 rfl ntmps88 results88 ?_;simp only[go_sem,opv];rfl
theorem ZdF (g:List Eg) (x:Mkr) (o:Opn) (hm:OkM g) (hr:RightM g) (ho:OkOp o):Pp 143 [opv o,.rptr (YK g x)] (.bool (GP g x o).2):=by
 have hW:=G7 g x o hm hr ho;generalize GP g x o=y at *;obtain⟨yo,yk⟩:=y;refine ZF func143 rfl ntmps143 results143 ?_;simp only[go_sem,opv,YK,tr,Zp,Zr];refine Zk hW ?_ ?_ ?_;iterate 2 simp only[go_sem,mkr,YK,opv,tr,Zp,Zr]
 simp only[go_sem,opb,opv]
def Zcf (g:List Eg) (x:Mkr) (o:Opn):Bool:=(GP g x o).2&&((GP g x o).1.has&&((GP g x o).1.text==x.d.text))
theorem ZdE (g:List Eg) (x:Mkr) (o:Opn) (hm:OkM g) (hr:RightM g) (ho:OkOp o):Pp 141 [opv o,.rptr (YK g x)] (.bool (Zcf g x o)):=by
 have hW:=G7 g x o hm hr ho;unfold Zcf;generalize GP g x o=y at *;obtain⟨yo,yk⟩:=y;cases yk
 ·refine ZF func141 rfl ntmps141 results141 ?_;simp only[go_sem,opv,YK,tr,Zp,Zr];refine Zk hW ?_ ?_ ?_;iterate 2 simp only[go_sem,mkr,YK,opv,tr,Zp,Zr]
  simp only[go_sem,opb,opv,Jk]
 cases hh:yo.has
 ·refine ZF func141 rfl ntmps141 results141 ?_;simp only[go_sem,opv,YK,tr,Zp,Zr];refine Zk hW ?_ ?_ ?_;iterate 2 simp only[go_sem,mkr,YK,opv,tr,Zp,Zr]
  simp only[go_sem,opb,opv,hh,Ju,Jk]
 refine ZF func141 rfl ntmps141 results141 ?_;simp only[go_sem,opv,YK,tr,Zp,Zr];refine Zk hW ?_ ?_ ?_;iterate 2 simp only[go_sem,mkr,YK,opv,tr,Zp,Zr]
 simp only[go_sem,opb,opv,hh,Ju]
open Go.PL
open Go.RowKit
def Yp (l:List Opn) (p:Opn->Bool):List Tg:=GH ((l.filter p).map Opn.id)
def FT (l:List Opn) (p:Opn->Bool):List Tg:=(l.filter p).map Opn.id
theorem ZiB (p:Opn->Bool) {l:List Opn} {k:Nat} (h:k<l.length):FT (l.take (k+1)) p=FT (l.take k) p++(if p (l.getD k Jd)=Ht then [(l.getD k Jd).id]else []):=by
 unfold FT;rw[ZT (d:=Jd) h,Jq,Jm];congr 1;generalize l.getD k Jd=x;cases hr:p x;rw[Jb (by rw[hr];simp),if_neg (by simp)];rfl;rw[Jf (by exact hr),if_pos rfl];rfl
theorem Zen (l:List Opn) (p:Opn->Bool):(FT l p).length<=l.length:=by unfold FT;rw[Jj];exact Ji _ _
theorem ZhA (g:List Eg) (x:Mkr) (f:FuncId) (caps:List PV) (p:Opn->Bool) (hl:x.al.length<=100000) (hp:∀o∈x.al,Pp f (opv o::caps) (.bool (p o))) (hc1:∀m,JQ m caps) (hc2:∀m,J7 m caps=caps) (hci:JJ caps= []) {c:Code} (hc:f86.body=some c):
  ZnT prog (λs=>∃xs,xs=FT x.al p/\s.n=27/\s.fr 5= .sl (.row 22) (xs.map tg)/\s.m.q 22=some (.live xs.length 2 25)) 3 c (St.init [mkr g x,.fn f caps] 27):=by
 cases hc;refine TG ?_;simp only[go_sem,mkr,YK,tr,Zp,Zr];refine TG ?_;simp only[go_sem,mkr,YK,tr,Zp,Zr];refine TG ?_;simp only[go_sem];refine Y6 5 22 2 25 rfl rfl ?_;refine Zz (ι:= { k:Nat // k<=x.al.length }) 27 (λy=> [(1,.fn f caps),(5,.sl (.row 22) ((FT (x.al.take y.1) p).map tg)),(9,Zr x.al),(10,.int .i64 (x.al.length:Int)),(11,.int .i64 (y.1:Int))]) (λ_=> []) (λy=> [(22,.live (FT (x.al.take y.1) p).length 2 25)]) (λy=>x.al.length-y.1) ⟨0,Jl _⟩
  ⟨rfl,(Fc5 rfl rfl rfl rfl rfl),fnl,(fcs rfl fnl)⟩ (λy=>⟨Fc5 (by simp[Jw,hci]) (by simp[Jw,ZN]) rfl rfl rfl,fnl⟩) (λy=> ?_)
 obtain⟨k,hk⟩:=y;simp only;by_cases h:(k:Int)<(x.al.length:Int);have hka:k<x.al.length:=by omega
 have i1:=Ja k
 have w1:=wk9 (k:=k) (by omega)
 have hH:=hp _ (Zy (d:=Jd) hka);have hsn:=ZiB p hka;have hal:=Zen (x.al.take k) p;have htl:(x.al.take k).length<=k:=Jt _ _;have hrm:=YV (show(FT (x.al.take k) p).length+1<=1000000 by omega) (show 16<=1000 by omega);have hgd:=ZI hka;generalize x.al.getD k Jd=o at *;generalize hW:FT (x.al.take k) p=W at *;cases hb:p o;rw[hb]at hH;rw[hb,if_neg (by simp),Je]at hsn;simp only[go_sem,Zr,h,hgd,opv,i1];refine Zk hH ?_ ?_ ?_;simp only[go_sem,hc1];simp only[go_sem,hc2,opv];simp only[go_sem,w1];exact⟨⟨k+1,by omega⟩,nx9 (by omega),⟨rfl,by simp only;rw[hsn];exact(Fc5 rfl rfl rfl rfl rfl),fnl,by simp only;rw[hsn];exact(fcs rfl fnl)⟩⟩;rw[hb]at hH;rw[hb,if_pos rfl]at hsn;simp only[go_sem,Zr,h,hgd,opv,i1];refine Zk hH ?_ ?_ ?_;simp only[go_sem,hc1];simp only[go_sem,hc2,opv];simp only[go_sem,hrm,SR,Zbx,w1];exact⟨⟨k+1,by omega⟩,nx9 (by omega),⟨rfl,by simp only;rw[hsn,Jm];exact(Fc5 rfl rfl rfl rfl rfl),fnl,by simp only;rw[hsn,Jh];exact(fcs rfl fnl)⟩⟩;obtain rfl:k=x.al.length:=by omega
 simp only[go_sem,h,Jv];exact⟨_,rfl,rfl,rfl,rfl⟩
theorem Tl (g:List Eg) (x:Mkr) (f:FuncId) (caps:List PV) (p:Opn->Bool) (hl:x.al.length<=100000) (hp:∀o∈x.al,Pp f (opv o::caps) (.bool (p o))) (hc1:∀m,JQ m caps) (hc2:∀m,J7 m caps=caps) (hci:JJ caps= []):
  Pp 86 [mkr g x,.fn f caps] (tgs (Yp x.al p)):=by
 refine PL.Pure.tail flatTg (k:=3) (i:=5) (d:=22) (N:=27) (G:=λxs=>xs=FT x.al p) (g:=GH) func86 (by decide) rfl (by show 2<=27;decide) (Zch _) (ZhA g x f caps p hl hp hc1 hc2 hci rfl) (λs ⟨xs,h1,h2,h3,h4⟩=>⟨xs,_,h1,h2,h3,h4⟩) ?_ (λxs h=>by rw[h];rfl);intro xs lo a w hG hd hN hr hlo;have hx:xs.length<=1000000:=by
  rw[hG];have:=Zen x.al p;omega
 have hcall:=ZkG xs lo w _ hx hr hlo;refine Zf3 (N:=27) hN (by decide) (by decide) (by decide) (by decide) (by decide) (by decide) (by decide) func137 (by decide) (by intro h;cases h) ?_;refine hcall.mono λe w' ⟨he,h1,h2⟩=>⟨_,he,λa' hd' hr'=>⟨.inr rfl,by rw[hd',hd],?_⟩⟩
 refine⟨a'.tmps.getD 4 undef,?_,by rw[hr'];exact h1,h2⟩;exact Go.results_tmp rfl _ _ _
open Go.PL Go.PL.Srt
def ZgH (l:List Tg) (t:Tg):Nat:=(l.takeWhile λx=>ZW x t).length
def ZnC (l:List Tg) (t:Tg):List Tg:=l.take (ZgH l t)++(t::l.drop (ZgH l t))
theorem Zkm:∀(l:List Tg) (t:Tg) (k:Nat),k<ZgH l t->ZW (l.getD k Jd) t=Ht
 | [],t,k,h=>by simp[ZgH]at h
 |a::l,t,k,h=>by
  unfold ZgH at h;rw[J5]at h;split at h;rename_i ha;cases k with
  |zero=>simpa using ha
  |succ k=>simpa using Zkm l t k (by simpa[ZgH]using h)
  simp at h
theorem ZdG:∀(l:List Tg) (t:Tg),ZgH l t<l.length->ZW (l.getD (ZgH l t) Jd) t=Hf
 | [],t,h=>by simp at h
 |a::l,t,h=>by
  unfold ZgH at h ⊢;rw[J5]at h ⊢;split;rename_i ha;rw[if_pos ha]at h;have:=ZdG l t (by simpa[ZgH]using h);unfold ZgH at this;simpa using this;rename_i ha;simpa using ha
open Go.PL
open Go.ChangeShapes Go.WideShapes Go.ChangeAt Go.RowKit
theorem Zqx {p:PV} (h:PA prog 35 p):∃d:De,p=ded d:=by
 obtain⟨cs,rfl,h1⟩:=PA.agg ZoQ h;have h1:PTs prog [3,9,9,27,2,9,25,33] cs:=h1.struct_inv underlying35;obtain⟨a1,b1,rfl,h2,r1⟩:=h1.cons_inv;obtain⟨a2,b2,rfl,h3,r2⟩:=r1.cons_inv;obtain⟨a3,b3,rfl,h4,r3⟩:=r2.cons_inv;obtain⟨a4,b4,rfl,h5,r4⟩:=r3.cons_inv;obtain⟨a5,b5,rfl,h6,r5⟩:=r4.cons_inv;obtain⟨a6,b6,rfl,h7,r6⟩:=r5.cons_inv;obtain⟨a7,b7,rfl,h8,r7⟩:=r6.cons_inv;obtain⟨a8,b8,rfl,h9,r8⟩:=r7.cons_inv;obtain⟨x1,rfl,_⟩:=h2.int_inv underlying3;obtain⟨x2,rfl,_⟩:=h3.string_inv underlying9;obtain⟨x3,rfl,_⟩:=h4.string_inv underlying9;obtain⟨x4,rfl⟩:=ZgI h5;obtain⟨x5,rfl,_⟩:=h6.int_inv underlying2;obtain⟨x6,rfl,_⟩:=h7.string_inv underlying9;obtain⟨x7,rfl⟩:=Za6 h8;obtain⟨x8,rfl,_⟩:=Zkn h9;rw[r8.nil_inv];exact⟨⟨x1,x2,x3,x4,x5,x6,x7,x8⟩,rfl⟩
end Go.Proofs.YtepchngegclagaaGreat
