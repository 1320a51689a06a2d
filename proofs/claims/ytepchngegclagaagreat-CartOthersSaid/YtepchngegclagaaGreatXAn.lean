/- Lemmas of the proof. -/
import Derived.Test.YtepchngegclagaaGreatPlH
import Derived.Test.YtepchngegclagaaGreatXAa
import Derived.Test.YtepchngegclagaaGreatXAh
import Derived.Test.YtepchngegclagaaGreatXCk
import Derived.Test.YtepchngegclagaaGreatRows
import Derived.ProofKit
open Inhabited renaming default→Jd
open Bool renaming true→Ht,false→Hf
open Go.Proofs.Tryz
open Go Go.PL
open Bool renaming or_eq_true→Je,eq_iff_iff→Jg,and_eq_true→Jh,or_eq_false_iff→Jp,false_and→Js,false_or→Jv,and_self→Jw,not_false→JA,true_or→JD,not_eq_true'→JF,and_false→JJ,or_true→JM
open Decidable renaming byContradiction→JK
open Int renaming natCast_nonneg→Jf
open List renaming append_nil→Ja,length_append→Jc,pairwise_iff_getElem→Ji,sublist_append_right→Jj,pairwise_cons→Jl,append_assoc→Jn,mem_cons→Jo,getElem_of_mem→Jr,sublist_append_left→Jy,map_cons→JC,cons_append→JG,length_nil→JH,append_eq→JI,Pairwise→JL,Sublist→JN,range→JQ
open Nat renaming zero_le→Jq,not_lt_zero→Jz,lt_trichotomy→JE,le_refl→JP
open Op renaming bytesLess→Jb
open PV renaming didsL→Jk,idsL→Jm,ids→Jt,dids→Ju,nomapL→JB,givableL→JO,vsl→JR
namespace Go.Proofs.YtepchngegclagaaGreat
set_option maxHeartbeats 64000000
set_option maxRecDepth 20000
set_option linter.unusedVariables false
set_option linter.unusedSectionVars false
set_option linter.unusedSimpArgs false
open Go.PL
theorem ZqJ {a b:Rw} (h1:a.item=b.item) (h2:a.l=b.l):a=b:=by cases a;cases b;simp_all
theorem Zp8 {a b:Dc} (h1:a.head=b.head) (h2:a.rows=b.rows):a=b:=by cases a;cases b;simp_all
theorem ZeE (a b:Dc) (ha:ZpY a) (hb:ZpY b):Pp 24 [doc a,doc b] (.bool (decide (a=b))):=by
 obtain⟨a1,a2,a3,a4⟩:=ha;obtain⟨b1,b2,b3,b4⟩:=hb;have hH:=Uy a.head b.head a1 b1 a3 b3;by_cases hl:a.rows.length=b.rows.length;have hl':((a.rows.length:Int) !=(b.rows.length:Int))=false:=by rw[hl];exact bne_self_eq_false _
 by_cases hh:a.head=b.head;rw[decide_eq_true hh]at hH;refine ZF func24 rfl ntmps24 results24 ?_;simp only[go_sem,doc,hl'];refine vc1 hH ?_;simp only[go_sem];refine Zz (ι:= { k:Nat // k<=a.rows.length/\ ∀j,j<k->a.rows.getD j Jd=b.rows.getD j Jd }) 57 (λx=> [(2,.ptr 2 0),(3,.ptr 3 0),(5,.int .i64 (x.1:Int))]) (λx=> [(2,[.sl .no (a.head.map ent),.sl .no (a.rows.map row)],Hf),(3,[.sl .no (b.head.map ent),.sl .no (b.rows.map row)],Hf)]) (λx=> []) (λx=>a.rows.length-x.1) ⟨0,by omega,λj hj=>by omega⟩
  ⟨rfl,(Fc3 rfl rfl rfl),Fc2 ⟨rfl,rfl⟩ ⟨rfl,rfl⟩,fnl⟩ (λx=>⟨(Fc3 rfl rfl rfl),(Fc2 rfl rfl)⟩) (λx=> ?_)
 obtain⟨k,hk,hall⟩:=x;simp only;by_cases h:(k:Int)<(a.rows.length:Int);have hka:k<a.rows.length:=by omega
 have hkb:k<b.rows.length:=by omega
 have w1:=Vt hka a2;have i1:=Jf k
 have i2:(k:Int)<(b.rows.length:Int):=by omega
 have ra:=a4 _ (Zy (d:=Jd) hka);have rb:=b4 _ (Zy (d:=Jd) hkb);have hc:=Uy _ _ ra.1 rb.1 ra.2 rb.2;by_cases e1:(a.rows.getD k Jd).item=(b.rows.getD k Jd).item;have e1':((a.rows.getD k Jd).item==(b.rows.getD k Jd).item)=true:=beq_iff_eq.2 e1;by_cases e2:(a.rows.getD k Jd).l=(b.rows.getD k Jd).l;rw[decide_eq_true e2]at hc;simp only[go_sem,h];refine vDq ?_;simp only[go_sem,Tr hka,Tr hkb,row,h,i1,i2,e1'];refine vc1 hc ?_;simp only[go_sem,w1];exact⟨⟨k+1,by omega,Zn hall (ZqJ e1 e2)⟩,nx9 (by omega),⟨rfl,(Fc3 rfl rfl rfl),Fc2 ⟨rfl,rfl⟩ ⟨rfl,rfl⟩,fnl⟩⟩;rw[decide_eq_false e2]at hc;have hab:¬a=b:=λe=>e2 (by rw[e])
 simp only[go_sem,h];refine vDq ?_;simp only[go_sem,Tr hka,Tr hkb,row,h,i1,i2,e1'];refine vc1 hc ?_;simp only[go_sem,hab];have e1':((a.rows.getD k Jd).item==(b.rows.getD k Jd).item)=false:=beq_eq_false_iff_ne.2 e1;have hab:¬a=b:=λe=>e1 (by rw[e])
 simp only[go_sem,h];refine vDq ?_;simp only[go_sem,Tr hka,Tr hkb,row,h,i1,i2,e1',hab];have hab:decide (a=b)=true:=decide_eq_true (Zp8 hh (XJ (d:=Jd) hl λj hj=>hall j (by omega)));simp only[go_sem,h,hab];rw[decide_eq_false hh]at hH;have hab:¬a=b:=λe=>hh (by rw[e])
 refine ZF func24 rfl ntmps24 results24 ?_;simp only[go_sem,doc,hl'];refine vc1 hH ?_;simp only[go_sem,hab];have hl':((a.rows.length:Int) !=(b.rows.length:Int))=true:=bne_iff_ne.2 (by omega);have hab:¬a=b:=λe=>hl (by rw[e])
 refine ZF func24 rfl ntmps24 results24 ?_;simp only[go_sem,doc,hl',hab]
def ZaL (f:Fd):Bool:=XY 200 f.at'.gr||(XY 200 f.at'.nm||(XY 200 f.df||decide (20<(f.cases'.length:Int))))
def GU (f:Fd):Bool:=ZaL f||f.cases'.any (XY 200)
theorem ZcG (f:Fd) (hl:f.cases'.length<=maxLen):Pp 74 [fld f] (.bool (GU f)):=by
 have top:∀b,ZaL f=b->(∀(_:b=Ht),GU f=Ht):=λb hb h=>by simp only[GU,hb,h,JD]
 cases ht:ZaL f;have hx:GU f=f.cases'.any (XY 200):=by simp only[GU,ht,Jv]
 rw[hx];simp only[ZaL,XY,Jp,decide_eq_false_iff_not]at ht;obtain⟨t1,t2,t3,t4⟩:=ht;have t1:¬(200:Int)<(f.at'.gr.length:Int):=by omega
 have t2:¬(200:Int)<(f.at'.nm.length:Int):=by omega
 have t3:¬(200:Int)<(f.df.length:Int):=by omega
 refine ZF func74 rfl ntmps74 results74 ?_;simp only[go_sem,fld,t1,t2,t3,t4];refine Zz (ι:= { k:Nat // k<=f.cases'.length/\ ∀j,j<k->XY 200 (f.cases'.getD j [])=Hf }) 42 (λx=> [(1,.ptr 1 0),(3,.int .i64 (x.1:Int))]) (λx=> [(1,[.int .i64 f.at'.sc,.str f.at'.gr,.str f.at'.nm,.int .i64 f.kind,.str f.df,.sl .no (f.cases'.map .str),.int .i64 f.worth],Hf)]) (λx=> []) (λx=>f.cases'.length-x.1) ⟨0,by omega,λj hj=>by omega⟩
  ⟨rfl,(Fc2 rfl rfl),fcs ⟨rfl,rfl⟩ fnl,fnl⟩ (λx=>⟨(Fc2 rfl rfl),(fcs rfl fnl)⟩) (λx=> ?_)
 obtain⟨k,hk,hall⟩:=x;simp only;by_cases h:(k:Int)<(f.cases'.length:Int);have hka:k<f.cases'.length:=by omega
 have w1:=Vt hka hl;have i1:=Jf k
 by_cases g:(200:Int)<((f.cases'.getD k []).length:Int);have hz:=Uc (p:=XY 200) hka (d:= []) (by simp only[XY,decide_eq_true_eq];omega);simp only[go_sem,h,ZY hka,i1,g,hz];simp only[go_sem,h,ZY hka,i1,g,w1];exact⟨⟨k+1,by omega,Zn hall (by simp only[XY,decide_eq_false_iff_not];omega)⟩,nx9 (by omega),⟨rfl,(Fc2 rfl rfl),fcs ⟨rfl,rfl⟩ fnl,fnl⟩⟩;have hz:=VQ (p:=XY 200) (d:= []) (l:=f.cases') (λj hj=>hall j (by omega));simp only[go_sem,h,hz];have hx:=top _ ht rfl;rw[hx];simp only[ZaL,XY,Je,decide_eq_true_eq]at ht;by_cases t1:(200:Int)<(f.at'.gr.length:Int);refine ZF func74 rfl ntmps74 results74 ?_;simp only[go_sem,fld,t1];by_cases t2:(200:Int)<(f.at'.nm.length:Int);refine ZF func74 rfl ntmps74 results74 ?_;simp only[go_sem,fld,t1,t2];by_cases t3:(200:Int)<(f.df.length:Int);refine ZF func74 rfl ntmps74 results74 ?_;simp only[go_sem,fld,t1,t2,t3];have t4:(20:Int)<(f.cases'.length:Int):=by omega
 refine ZF func74 rfl ntmps74 results74 ?_;simp only[go_sem,fld,t1,t2,t3,t4]
open Go.PL
open Go.PL
theorem ZgL (r:Rf):(ref r).dids= []:=by simp only[ref,Ju,Jk,Ja]
theorem Zjh (l:List Rf):Jk (l.map ref)= []:=by
 induction l with
 |nil=>rfl
 |cons t l ih=>simp only[JC,Jk,ih,ZgL,Ja]
theorem ZdO (l:List Rf):(refs l).dids= []:=by simp only[refs,Ju,Zjh]
def YD (r:Rf) (s:Str):Rf:=⟨r.sc,r.gr,s⟩
theorem Ud (r:Rf) (s:Str):Pp 227 [ref r,.str s] (ref (YD r s)):=by
 refine ZM func227 rfl ntmps227 results227 (ZgL _) ?_;simp only[go_sem,ref,YD]
def Yx (x:Ln):List Rf:=if x.kind=2 then []else if x.kind=3 then [x.fd.at']else if x.kind=9 then [YD x.at' x.nm,YD x.at' x.ot]else [x.at']
def Zq (x:Ln):List Rf:=
 if x.kind=1 then [YD x.at' x.nm]else if x.kind=2 then [x.fd.at']else if x.kind=3 then []else if x.kind=4 then [⟨x.at'.sc,[],x.at'.nm⟩]
 else if x.kind=5 then [⟨x.at'.sc,x.nm,x.at'.nm⟩]else if x.kind=6 then [YD x.at' x.nm,YD x.at' x.ot]else [x.at']
def Zdk (x:Ln):List Rf:=if ZA x=Ht then Yx x else []
def ZaC (x:Ln):List Rf:=if ZA x=Ht then Zq x else []
theorem DB (x:Ln) (hx:OkLn x):Pp 179 [lns x] (refs (Zdk x)):=by
 have hR:=X9 x hx;have h1:=Ud x.at' x.nm;have h2:=Ud x.at' x.ot;unfold Zdk;refine ZM func179 rfl ntmps179 results179 (ZdO _) ?_;simp only[go_sem,lns];repeat' ((first|(first|apply Zl|apply Zj|apply Zs)<;>intro h|refine vc3 hR ?_|refine vc3 h1 ?_|refine vc3 h2 ?_|refine vDq ?_)<;>first|simp only[go_sem,h,ref]|simp only[go_sem,ref]|skip)
 all_goals (clear hR h1 h2 hx;simp_all[Yx,refs,YD,ref])
theorem Zal (x:Ln) (hx:OkLn x):Pp 225 [lns x] (refs (ZaC x)):=by
 have hR:=X9 x hx;have h1:=Ud x.at' x.nm;have h2:=Ud x.at' x.ot;unfold ZaC;refine ZM func225 rfl ntmps225 results225 (ZdO _) ?_;simp only[go_sem,lns];repeat' ((first|(first|apply Zl|apply Zj|apply Zs)<;>intro h|refine vc3 hR ?_|refine vc3 h1 ?_|refine vc3 h2 ?_|refine vDq ?_)<;>first|simp only[go_sem,h,ref]|simp only[go_sem,ref]|skip)
 all_goals (clear hR h1 h2 hx;simp_all[Zq,refs,YD,ref])
structure OkFs (l:List Fd):Prop where
 n:l.length<=1000
 c:∀f∈l,f.cases'.length<=1000000
theorem Ze3 {α:Type} {l:List α} {k:Nat} {d:α}:l.getD k d∈l\/l.getD k d=d:=by
 by_cases h:k<l.length;exact .inl (Zy h);right;rw[List.getD_eq_getElem?_getD,List.getElem?_eq_none (by omega)];rfl
theorem ZgE {l:List Fd} (h:OkFs l) (r:Rf):(ZC l r).1.cases'.length<=1000000:=by
 unfold ZC;split;exact Jq _;rcases Ze3 (l:=l) (k:=(idx (atF r) l).toNat) (d:=Jd)with h'|h';exact h.c _ h';rw[h'];exact Jq _
def Gv (l:List Fd) (x:Ln):List Fd×Bool:=
 if(ZC l (YD x.at' x.nm)).2≠0\/(ZC l (YD x.at' x.nm)).1.kind≠1 then([],Hf)
 else if(ZC l (YD x.at' x.ot)).2≠0\/(ZC l (YD x.at' x.ot)).1.kind≠1\/(ZC l (YD x.at' x.ot)).1.worth≠IntKind.i64.wrap ((ZC l (YD x.at' x.nm)).1.worth*x.fac)then([],Hf)
 else([⟨x.at',1,[],[],(ZC l (YD x.at' x.nm)).1.worth⟩],Ht)
def TJ (x:List Fd×Bool):PV:= .tup [Zp x.1,.bool x.2]
theorem YT (x:List Fd×Bool):(TJ x).dids= []:=by simp only[TJ,Ju,Jk,UR,Ja]
theorem Zff (l:List Fd) (x:Ln) (hl:OkFs l) (hx:OkLn x) (hr:ZA x=Ht) (h9:x.kind=9):Pp 224 [Zp l,lns x] (TJ (Gv l x)):=by
 have hG:=DB x hx;have hg:Zdk x= [YD x.at' x.nm,YD x.at' x.ot]:=by simp[Zdk,Yx,hr,h9]
 rw[hg]at hG;have f1:=WQ l (YD x.at' x.nm) (by have:=hl.n;omega) hl.c;have f2:=WQ l (YD x.at' x.ot) (by have:=hl.n;omega) hl.c;unfold Gv;generalize ZC l (YD x.at' x.nm)=a at *;generalize ZC l (YD x.at' x.ot)=b at *;obtain⟨a,a0⟩:=a;obtain⟨b,b0⟩:=b;have o1:((0:Int)<1+1)=True:=by simp
 refine ZM func224 rfl ntmps224 results224 (YT _) ?_;simp only[go_sem,Zp,lns];refine vc3 hG ?_;simp only[go_sem,refs,ref];refine vc2 f1 ?_;simp only[go_sem,VO,fld];repeat' ((first|(first|apply Zl|apply Zj|apply Zs)<;>intro h|refine vc2 f2 ?_|refine vDq ?_)<;>first|simp only[go_sem,h,refs,ref,VO,fld,Zp]|simp only[go_sem,refs,ref,VO,fld,Zp]|skip)
 all_goals (clear hG f1 f2 hl hx;simp_all[TJ,Zp,fld])
open Go.PL
def Gc (l:List Fd) (x:Ln):List Fd×Bool:=
 if x.kind=2 then([x.fd],Ht)
 else if x.kind=3 then([],decide ((ZC l x.fd.at').2=0)&&decide ((ZC l x.fd.at').1=x.fd))
 else if x.kind=9 then Gv l x
 else if(ZC l x.at').2≠0 then([],Hf)
 else if x.kind=6 then([⟨YD x.at' x.nm,1,[],[],(ZC l x.at').1.worth⟩,⟨YD x.at' x.ot,1,[],[],IntKind.i64.wrap ((ZC l x.at').1.worth*x.fac)⟩],decide ((ZC l x.at').1.kind=1))
 else if x.kind=7 then([⟨x.at',4,[],[],0⟩],decide ((ZC l x.at').1.kind=2)&&decide ((ZC l x.at').1.df=x.ot))
 else if x.kind=10 then([⟨x.at',2,x.ot,[],0⟩],decide ((ZC l x.at').1.kind=4))
 else if x.kind=8 then([⟨x.at',3,x.ot,WK x.ba,0⟩],decide ((ZC l x.at').1=⟨x.at',3,x.nm,WK x.fo,0⟩))
 else([⟨(Zq x).getD 0 Jd,(ZC l x.at').1.kind,(ZC l x.at').1.df,(ZC l x.at').1.cases',(ZC l x.at').1.worth⟩],Ht)
theorem ZaO (l:List Pr):(WK l).length=l.length:=by simp[WK]
theorem Zbw (l:List Fd) (x:Ln) (hl:OkFs l) (hx:OkLn x) (hr:ZA x=Ht):Pp 178 [Zp l,lns x] (TJ (Gc l x)):=by
 have hn:=hl.n;have hO:=XS x.fd hx.c;have okA:=ZgE hl x.at';have okF:=ZgE hl x.fd.at';have f1:=WQ l x.fd.at' (by omega) hl.c;have f2:=WQ l x.at' (by omega) hl.c;have s1:=S4 (ZC l x.fd.at').1 x.fd (by rw[Zd];omega) (by have:=hx.c;rw[Zd];omega);have s2:=S4 (ZC l x.at').1 ⟨x.at',3,x.nm,WK x.fo,0⟩ (by rw[Zd];omega) (by have:=hx.f;simp only[ZaO];rw[Zd];omega);have r1:=ZaP x.fo hx.f;have r2:=ZaP x.ba hx.b;have hC:=Zal x hx;have hc:ZaC x=Zq x:=by simp[ZaC,hr]
 rw[hc]at hC;unfold Gc;by_cases k9:x.kind=9;have hM:=Zff l x hl hx hr k9;rw[if_neg (by omega),if_neg (by omega),if_pos k9];generalize Gv l x=y at *;obtain⟨y,b⟩:=y;have e2:(x.kind==2)=false:=by rw[k9];rfl
 have e3:(x.kind==3)=false:=by rw[k9];rfl
 have e9:(x.kind==9)=true:=by rw[k9];rfl
 refine ZM func178 rfl ntmps178 results178 (YT _) ?_;simp only[go_sem,Zp,lns,e2,e3,e9];refine vc3 hM ?_;simp only[go_sem,TJ,Zp];have e9:(x.kind==9)=false:=beq_eq_false_iff_ne.2 k9;rw[if_neg k9];generalize ZC l x.fd.at'=a at *;generalize ZC l x.at'=b at *;obtain⟨a,a0⟩:=a;obtain⟨b,b0⟩:=b;simp only at *;by_cases k2:x.kind=2;have e2:(x.kind==2)=true:=by rw[k2];rfl
 rw[if_pos k2];refine ZM func178 rfl ntmps178 results178 (YT _) ?_;simp only[go_sem,Zp,lns,e2];refine vc2 hO ?_;simp only[go_sem,TJ,Zp,fld];have e2:(x.kind==2)=false:=beq_eq_false_iff_ne.2 k2;rw[if_neg k2];by_cases k3:x.kind=3
 ·have e3:(x.kind==3)=true:=by rw[k3];rfl
  rw[if_pos k3];refine ZM func178 rfl ntmps178 results178 (YT _) ?_;simp only[go_sem,Zp,lns,e2,e3];refine vc2 f1 ?_;simp only[go_sem,VO,fld];repeat' ((first|(first|apply Zl|apply Zj|apply Zs)<;>intro h|refine vc2 s1 ?_|refine vDq ?_)<;>first|simp only[go_sem,h,VO,fld,Zp]|simp only[go_sem,VO,fld,Zp]|skip)
  all_goals (clear hO f1 f2 s1 s2 r1 r2 hC hl hx okA okF;simp_all[TJ,Zp,fld])
 have e3:(x.kind==3)=false:=beq_eq_false_iff_ne.2 k3;rw[if_neg k3];by_cases hb:b0=0;subst hb;simp only[ne_eq,not_true_eq_false,if_false];by_cases k6:x.kind=6
 ·have e6:(x.kind==6)=true:=by rw[k6];rfl
  have hcc:Zq x= [YD x.at' x.nm,YD x.at' x.ot]:=by simp[Zq,k6]
  rw[hcc]at hC;rw[if_pos k6];refine ZM func178 rfl ntmps178 results178 (YT _) ?_;simp only[go_sem,Zp,lns,e2,e3,e9];refine vc2 f2 ?_;simp only[go_sem,VO,fld];refine vc3 hC ?_;simp only[go_sem,refs,ref,e6];repeat' ((first|(first|apply Zl|apply Zj|apply Zs)<;>intro h|refine vDq ?_)<;>first|simp only[go_sem,h,refs,ref,fld]|simp only[go_sem,refs,ref,fld]|skip)
  all_goals (clear hO f1 f2 s1 s2 r1 r2 hC hl hx okA okF;simp_all[TJ,Zp,fld]<;>(first|rfl|(rw[Jg];simp)))
 have e6:(x.kind==6)=false:=beq_eq_false_iff_ne.2 k6;rw[if_neg k6];by_cases k7:x.kind=7
 ·have e7:(x.kind==7)=true:=by rw[k7];rfl
  rw[if_pos k7];refine ZM func178 rfl ntmps178 results178 (YT _) ?_;simp only[go_sem,Zp,lns,e2,e3,e9];refine vc2 f2 ?_;simp only[go_sem,VO,fld];refine vc3 hC ?_;simp only[go_sem,refs,e6,e7];repeat' ((first|(first|apply Zl|apply Zj|apply Zs)<;>intro h|refine vDq ?_)<;>first|simp only[go_sem,h]|simp only[go_sem]|skip)
  all_goals (clear hO f1 f2 s1 s2 r1 r2 hC hl hx okA okF;simp_all[TJ,Zp,fld]<;>(first|rfl|(rw[Jg];simp)))
 have e7:(x.kind==7)=false:=beq_eq_false_iff_ne.2 k7;rw[if_neg k7];by_cases k10:x.kind=10
 ·have e10:(x.kind==10)=true:=by rw[k10];rfl
  rw[if_pos k10];refine ZM func178 rfl ntmps178 results178 (YT _) ?_;simp only[go_sem,Zp,lns,e2,e3,e9];refine vc2 f2 ?_;simp only[go_sem,VO,fld];refine vc3 hC ?_;simp only[go_sem,refs,e6,e7,e10];repeat' ((first|(first|apply Zl|apply Zj|apply Zs)<;>intro h|refine vDq ?_)<;>first|simp only[go_sem,h]|simp only[go_sem]|skip)
  all_goals (clear hO f1 f2 s1 s2 r1 r2 hC hl hx okA okF;simp_all[TJ,Zp,fld]<;>(first|rfl|(rw[Jg];simp)))
 have e10:(x.kind==10)=false:=beq_eq_false_iff_ne.2 k10;rw[if_neg k10];by_cases k8:x.kind=8
 ·have e8:(x.kind==8)=true:=by rw[k8];rfl
  rw[if_pos k8];refine ZM func178 rfl ntmps178 results178 (YT _) ?_;simp only[go_sem,Zp,lns,e2,e3,e9];refine vc2 f2 ?_;simp only[go_sem,VO,fld];refine vc3 hC ?_;simp only[go_sem,refs,e6,e7,e10,e8];repeat' ((first|(first|apply Zl|apply Zj|apply Zs)<;>intro h|refine vc3 r1 ?_|refine vc3 r2 ?_|refine vc3 s2 ?_|refine vDq ?_)<;>first|simp only[go_sem,h,Xd,fld]|simp only[go_sem,Xd,fld]|skip)
  all_goals (clear hO f1 f2 s1 s2 r1 r2 hC hl hx okA okF;simp_all[TJ,Zp,fld])
 have e8:(x.kind==8)=false:=beq_eq_false_iff_ne.2 k8;rw[if_neg k8];have hk:x.kind=1\/x.kind=4\/x.kind=5:=by
  refine JK λhne=> ?_
  simp[ZA,k2,k3,k6,k7,k8,k9,k10,show ¬x.kind=1 by omega,show ¬x.kind=4 by omega,show ¬x.kind=5 by omega]at hr
 obtain⟨c,hcc⟩:∃c,Zq x= [c]:=by
  rcases hk with h|h|h<;>simp[Zq,h]
 rw[hcc]at hC ⊢;refine ZM func178 rfl ntmps178 results178 (YT _) ?_;simp only[go_sem,Zp,lns,e2,e3,e9];refine vc2 f2 ?_;simp only[go_sem,VO,fld];refine vc3 hC ?_;simp only[go_sem,refs,ref,e6,e7,e10,e8,TJ,Zp,fld];have hb':(b0 !=0)=true:=bne_iff_ne.2 hb;rw[if_pos hb];refine ZM func178 rfl ntmps178 results178 (YT _) ?_;simp only[go_sem,Zp,lns,e2,e3,e9];refine vc2 f2 ?_;simp only[go_sem,VO,fld,hb',TJ,Zp]
open Go.PL
structure Opn where
 id:Tg
 sch:Tg
 time:Int
 cart:Str
 kind:Int
 item:Str
 at':Rf
 delta:Int
 has:Bool
 text:Str
 drops:List Tg
 deriving DecidableEq,Inhabited
def opv (o:Opn):PV:= .agg [.int .i64 o.id.r,.int .i64 o.id.n,.int .i64 o.sch.r,.int .i64 o.sch.n,.int .i64 o.time,.str o.cart,.int .i64 o.kind,.str o.item,.int .i64 o.at'.sc,.str o.at'.gr,.str o.at'.nm,.int .i64 o.delta,.bool o.has,.str o.text,.sl .no (o.drops.map tg)]
theorem vc6 {x:Bool} {M:KH} {g:FuncId} {args args':List PV} {K:KR} {r:PV} (h1:Pp g args' r) (h2:K.k r M.m) (h0:JO M.m args:=by first|(simp only[go_sem,ref,ent,UM,doc,Xd,row,Zp,fld,lns,tg,refs,prs,pr,eg,egs,tgs,lg,lgs,YD,opv];done)|exact rfl) (he:PV.giveL M.m args=args':=by first|(simp only[go_sem,ref,ent,UM,doc,Xd,row,Zp,fld,lns,tg,refs,prs,pr,eg,egs,tgs,lg,lgs,YD,opv];done)|exact rfl):@Vr prog x M (some (g,args)) K:=Zk h1 h0 he h2
theorem TA (o:Opn):(opv o).dids= []:=by simp only[opv,Ju,Jk,Zf9,Ja]
theorem Zi:opv Jd= .agg [.int .i64 0,.int .i64 0,.int .i64 0,.int .i64 0,.int .i64 0,.str [],.int .i64 0,.str [],.int .i64 0,.str [],.str [],.int .i64 0,.bool Hf,.str [],.sl .no []]:=rfl
theorem Zaq (a b:Opn) (ha:a.drops.length<=maxLen) (hb:b.drops.length<=maxLen):Pp 58 [opv a,opv b] (.bool (decide (a=b))):=by
 have hE:=ZiG a.drops b.drops ha hb;refine ZF func58 rfl ntmps58 results58 ?_;simp only[go_sem,opv,ZD,ZB,JI,JG];repeat' ((first|(first|apply Zl|apply Zj|apply Zs)<;>intro h|refine vc3 hE ?_|refine vDq ?_)<;>first|simp only[go_sem,h,ZD,ZB]|simp only[go_sem,ZD,ZB]|skip)
 all_goals (clear hE ha hb;(cases a;cases b;simp_all)<;>rfl)
theorem ZeB (a b:Opn) (ha:a.drops.length<=maxLen) (hb:b.drops.length<=maxLen):Pp 14 [opv a,opv b] (.bool (decide (a=b))):=by
 have hE:=Zhh a.drops b.drops ha hb;refine ZF func14 rfl ntmps14 results14 ?_;simp only[go_sem,opv,ZD,ZB,JI,JG];repeat' ((first|(first|apply Zl|apply Zj|apply Zs)<;>intro h|refine vc3 hE ?_|refine vDq ?_)<;>first|simp only[go_sem,h,ZD,ZB]|simp only[go_sem,ZD,ZB]|skip)
 all_goals (clear hE ha hb;(cases a;cases b;simp_all)<;>rfl)
def TM (o:Opn):Bool:=XY 200 o.cart||(XY 200 o.item||(XY 200 o.at'.gr||(XY 200 o.at'.nm||(XY 200 o.text||decide (200<(o.drops.length:Int))))))
theorem ZcH (o:Opn):Pp 30 [opv o] (.bool (TM o)):=by
 refine ZF func30 rfl ntmps30 results30 ?_;simp only[go_sem,opv];repeat' ((first|(first|apply Zl|apply Zj|apply Zs)<;>intro h|refine vDq ?_)<;>first|simp only[go_sem,h]|simp only[go_sem]|skip)
 all_goals (first|(simp_all[TM,XY];done)|(rw[Jg];simp[TM,XY]at *;omega))
def Ye (o:Opn):Bool:=(o.kind==3)||(o.kind==4)
theorem T0 (o:Opn):Pp 54 [opv o] (.bool (Ye o)):=by
 refine ZF func54 rfl ntmps54 results54 ?_;simp only[go_sem,opv];repeat' ((first|(first|apply Zl|apply Zj|apply Zs)<;>intro h|refine vDq ?_)<;>first|simp only[go_sem,h]|simp only[go_sem]|skip)
 all_goals simp_all[Ye]
def Yw (o:Opn) (i:Nat):Bool:=Wy (o.drops.getD i Jd)&&(!(decide (o.drops.getD i Jd=o.id))&&(decide (i=0)||ZW (o.drops.getD (i-1) Jd) (o.drops.getD i Jd)))
def Wp (o:Opn):Bool:= !decide (60<(o.drops.length:Int))&&(JQ o.drops.length).all (Yw o)
def Xg (o:Opn):List PV:= [.int .i64 o.id.r,.int .i64 o.id.n,.int .i64 o.sch.r,.int .i64 o.sch.n,.int .i64 o.time,.str o.cart,.int .i64 o.kind,.str o.item,.int .i64 o.at'.sc,.str o.at'.gr,.str o.at'.nm,.int .i64 o.delta,.bool o.has,.str o.text,.sl .no (o.drops.map tg)]
theorem Fy (o:Opn):Pp 105 [opv o] (.bool (Wp o)):=by
 by_cases h60:60<(o.drops.length:Int);refine ZF func105 rfl ntmps105 results105 ?_;simp only[go_sem,opv,h60,Wp,Js];have hm:o.drops.length<=maxLen:=by rw[Zd];omega
 have hx:Wp o=(JQ o.drops.length).all (Yw o):=by simp only[Wp,h60,decide_false,JA,Bool.true_and]
 rw[hx];refine ZF func105 rfl ntmps105 results105 ?_;simp only[go_sem,opv,h60];refine Zz (ι:= { x:Nat // x<=(o.drops).length/\(∀j,j<x->Yw o j=Ht) }) 40 (λx=> [(1,.ptr 1 0),(10,.sl .no (o.drops.map tg)),(11,.int .i64 (o.drops.length:Int)),(12,.int .i64 (x.1:Int))]) (λx=> [(1,Xg o,Hf)]) (λx=> []) (λx=>(o.drops).length-x.1) ⟨0,Jq _,λj hj=>absurd hj (Jz j)⟩ ⟨rfl,(Fc4 rfl rfl rfl rfl),(fcs ⟨rfl,rfl⟩ fnl),fnl⟩ (λx=>⟨(Fc4 rfl rfl rfl rfl),(fcs rfl fnl)⟩) (λx=> ?_);obtain⟨k,hk,hI⟩:=x;simp only at hk hI ⊢;by_cases h:(k:Int)<(o.drops.length:Int)
 (have hka:k<(o.drops).length:=by omega);(have w1:=Vt hka (hm));(have i1:=Jf k)
 have hT:=Th (o.drops.getD k Jd);cases ht:Wy (o.drops.getD k Jd);rw[ht]at hT;have hz:=Yb (p:=Yw o) hka (by simp only[Yw,ht,Js]);simp only[go_sem,Xg,h,ZK hka,tg,i1];refine vc3 hT ?_;simp only[go_sem,hz];rw[ht]at hT;cases he:decide (o.drops.getD k Jd=o.id);by_cases h0:0<(k:Int);have hk1:k-1<o.drops.length:=by omega
 have w2:IntKind.i64.wrap ((k:Int)-1)=((k-1:Nat):Int):=by rw[w64 (by omega)];omega
 have j1:(0:Int)<=((k-1:Nat):Int):=by omega
 have j2:((k-1:Nat):Int)<(o.drops.length:Int):=by omega
 have hL:=Zaw (o.drops.getD (k-1) Jd) (o.drops.getD k Jd);cases hb:ZW (o.drops.getD (k-1) Jd) (o.drops.getD k Jd);rw[hb]at hL;have hz:=Yb (p:=Yw o) hka (by simp only[Yw,hb,decide_eq_false (show ¬k=0 by omega),Bool.or_self,JJ]);simp only[go_sem,Xg,h,ZK hka,tg,i1];refine vc3 hT ?_;simp only[go_sem,ZB,he];refine vDq ?_;simp only[go_sem,h0,w2,ZK hk1,ZK hka,tg,h,i1,j1,j2];refine vc3 hL ?_;simp only[go_sem,hz]
 ·rw[hb]at hL;have ok:Yw o k=true:=by simp only[Yw,ht,he,hb,JM,JA,Jw]
  simp only[go_sem,Xg,h,ZK hka,tg,i1];refine vc3 hT ?_;simp only[go_sem,ZB,he];refine vDq ?_;simp only[go_sem,h0,w2,ZK hk1,ZK hka,tg,h,i1,j1,j2];refine vc3 hL ?_;simp only[go_sem,w1];exact⟨⟨k+1,by(try simp only);omega,Zn hI ok⟩,by show(o.drops).length-(k+1)<(o.drops).length-k;omega,⟨rfl,(Fc4 rfl rfl rfl rfl),(fcs ⟨rfl,rfl⟩ fnl),fnl⟩⟩
 ·have ok:Yw o k=true:=by simp only[Yw,ht,he,decide_eq_true (show k=0 by omega),JD,JA,Jw]
  simp only[go_sem,Xg,h,ZK hka,tg,i1];refine vc3 hT ?_;simp only[go_sem,ZB,he];refine vDq ?_;simp only[go_sem,h0,w1];exact⟨⟨k+1,by(try simp only);omega,Zn hI ok⟩,by show(o.drops).length-(k+1)<(o.drops).length-k;omega,⟨rfl,(Fc4 rfl rfl rfl rfl),(fcs ⟨rfl,rfl⟩ fnl),fnl⟩⟩
 have hz:=Yb (p:=Yw o) hka (by simp only[Yw,he,Bool.not_true,Js,JJ]);simp only[go_sem,Xg,h,ZK hka,tg,i1];refine vc3 hT ?_;simp only[go_sem,ZB,he,hz];have hz:=U2 (p:=Yw o) (n:=o.drops.length) (λj hj=>hI j (by omega));simp only[go_sem,h,hz]
def Z6 (o:Opn):Opn×Bool:=
 if o.kind=1 then(⟨o.id,o.sch,o.time,o.cart,o.kind,o.item,Jd,0,Hf,[],[]⟩,Ht)
 else if o.kind=2 then(⟨o.id,o.sch,o.time,o.cart,o.kind,o.item,Jd,0,Hf,[],o.drops⟩,Ht)
 else if o.kind=3 then(⟨o.id,o.sch,o.time,o.cart,o.kind,if o.at'.sc=1 then o.item else [],o.at',o.delta,Hf,[],[]⟩,Ht)
 else if o.kind=4 then(⟨o.id,o.sch,o.time,o.cart,o.kind,if o.at'.sc=1 then o.item else [],o.at',0,o.has,if o.has=Ht then o.text else [],o.drops⟩,Ht)
 else if o.kind=5 then(⟨o.id,o.sch,o.time,o.cart,o.kind,[],Jd,0,Hf,[],o.drops⟩,Ht)
 else(Jd,Hf)
def opb (x:Opn×Bool):PV:= .tup [opv x.1,.bool x.2]
theorem Zu (x:Opn×Bool):(opb x).dids= []:=by simp only[opb,Ju,Jk,TA,Ja]
theorem ZdB (o:Opn):Pp 101 [opv o] (opb (Z6 o)):=by
 have hP:=T0 o;unfold Ye at hP;obtain⟨id,sch,time,cart,kind,item,at',delta,has,text,drops⟩:=o;cases has;all_goals
  refine ZM func101 rfl ntmps101 results101 (Zu _) ?_;simp only[go_sem,opv];repeat' ((first|(first|apply Zl|apply Zj|apply Zs)<;>intro h|refine vc6 hP ?_|refine Zg2 [(1,4)] (by kernel_rfl) (by kernel_rfl) (by exact rfl) ?_|refine vDq ?_)<;>first|simp only[go_sem,h]|simp only[go_sem]|skip)
  all_goals (simp only[beq_iff_eq,beq_eq_false_iff_ne,ne_eq]at *;clear hP;simp_all[Z6,opb,opv];try decide)
open Go.PL
theorem DM:∀(a:Str),Yc a a=Hf
 | []=>rfl
 |x::a=>by
  have:=DM a;unfold Yc at *;simp[Jb,this]
theorem Zbz:∀ {a b c:Str},Yc a b=Ht->Yc b c=Ht->Yc a c=Ht
 | [],[],_,h,_=>by simp[Yc,Jb]at h
 | [],_::_,[],_,h=>by simp[Yc,Jb]at h
 | [],_::_,_::_,_,_=>by simp[Yc,Jb]
 |_::_,[],_,h,_=>by simp[Yc,Jb]at h
 |_::_,_::_,[],_,h=>by simp[Yc,Jb]at h
 |x::a,y::b,z::c,h1,h2=>by
  have ih:=Zbz (a:=a) (b:=b) (c:=c);unfold Yc at *;simp only[Jb,Je,decide_eq_true_eq,Jh,beq_iff_eq]at *;rcases h1 with h1|⟨rfl,h1⟩;rcases h2 with h2|⟨rfl,h2⟩;exact .inl (UInt8.lt_trans h1 h2);exact .inl h1;rcases h2 with h2|⟨rfl,h2⟩;exact .inl h2;exact .inr ⟨rfl,ih h1 h2⟩
theorem Zby:∀(a b:Str),Yc a b=Ht\/a=b\/Yc b a=Ht
 | [],[]=> .inr (.inl rfl)
 | [],_::_=> .inl (by simp[Yc,Jb])
 |_::_,[]=> .inr (.inr (by simp[Yc,Jb]))
 |x::a,y::b=>by
  have ih:=Zby a b;unfold Yc at *;simp only[Jb,Je,decide_eq_true_eq,Jh,beq_iff_eq]at *;rcases JE x.toNat y.toNat with h|h|h;exact .inl (.inl h);have e:x=y:=UInt8.toNat_inj.1 h;subst e;rcases ih with ih|rfl|ih;exact .inl (.inr ⟨rfl,ih⟩);exact .inr (.inl rfl);exact .inr (.inr (.inr ⟨rfl,ih⟩));exact .inr (.inr (.inl h))
theorem Vg (a:Rf):Vh a a=false:=by simp[Vh,DM]
theorem Zms (a b:Rf):Vh a b=Ht\/a=b\/Vh b a=true:=by
 unfold Vh;by_cases h1:a.sc=b.sc;by_cases h2:a.gr=b.gr;simp only[h1,h2,ne_eq,not_true_eq_false,if_false];rcases Zby a.nm b.nm with h|h|h;exact .inl h;exact .inr (.inl (by cases a;cases b;simp_all));exact .inr (.inr h);have h2':b.gr≠a.gr:=λe=>h2 e.symm
 simp only[h1,h2,h2',ne_eq,not_true_eq_false,not_false_eq_true,if_false,if_true];rcases Zby a.gr b.gr with h|h|h;exact .inl h;exact absurd h h2;exact .inr (.inr h);have h1':b.sc≠a.sc:=λe=>h1 e.symm
 simp only[h1,h1',ne_eq,not_false_eq_true,if_true,decide_eq_true_eq];omega
theorem ZbR {a b c:Rf} (h1:Vh a b=Ht) (h2:Vh b c=Ht):Vh a c=true:=by
 unfold Vh at *;by_cases e1:a.sc=b.sc;by_cases e2:b.sc=c.sc;simp only[e1,e2,ne_eq,not_true_eq_false,if_false]at *;by_cases g1:a.gr=b.gr;by_cases g2:b.gr=c.gr;simp only[g1,g2,not_true_eq_false,if_false]at *;exact Zbz h1 h2;simp only[g1,g2,not_true_eq_false,not_false_eq_true,if_false,if_true]at *;exact h2;by_cases g2:b.gr=c.gr;rw[<-g2];simp only[g1,not_false_eq_true,if_true]at *;exact h1;simp only[g1,g2,not_false_eq_true,if_true]at *;have:=Zbz h1 h2;have hn:¬a.gr=c.gr:=λe=>by rw[e,DM]at this;cases this
 simp only[hn,not_false_eq_true,if_true];exact this;simp only[e1,e2,ne_eq,not_false_eq_true,if_true]at *;exact h2;by_cases e2:b.sc=c.sc;rw[<-e2];simp only[e1,ne_eq,not_false_eq_true,if_true]at *;exact h1;simp only[e1,e2,ne_eq,not_false_eq_true,if_true,decide_eq_true_eq]at *;have hn:¬a.sc=c.sc:=by omega
 simp only[hn,not_false_eq_true,if_true,decide_eq_true_eq];omega
def Zlo (l:List Fd):Prop:=l.Pairwise λa b=>Vh a.at' b.at'=Ht
theorem SK:∀ {l:List Fd},(∀i,i<l.length->i=0\/Vh (l.getD (i-1) Jd).at' (l.getD i Jd).at'=Ht)->Zlo l
 | [],_=>JL.nil
 | [a],_=>List.pairwise_singleton _ _
 |a::b::l,h=>by
  have ih:Zlo (b::l):=SK λi hi=>by
   cases i with
   |zero=>exact .inl rfl
   |succ i=>
    have:=h (i+2) (by simp at hi ⊢;omega);right;simpa using this
  have hab:Vh a.at' b.at'=true:=by simpa using h 1 (by simp)
  refine Jl.2 ⟨λx hx=> ?_,ih⟩;rcases Jo.1 hx with rfl|hx;exact hab;exact ZbR hab ((Jl.1 ih).1 x hx)
theorem Zcb {l:List Fd} (h:Zlo l):∀i,i<l.length->i=0\/Vh (l.getD (i-1) Jd).at' (l.getD i Jd).at'=true:=λi hi=>by
 by_cases h0:i=0;exact .inl h0;right;rw[getD_lt (by omega),getD_lt hi];exact Ji.1 h (i-1) i (by omega) hi (by omega)
theorem Xq {l:List Fd}:Yj l=Ht↔l.length<=16/\Zlo l/\ ∀f∈l,Yi f=true:=by
 unfold Yj;simp only[Jh,JF,decide_eq_false_iff_not,List.all_eq_true,List.mem_range,So,Je,decide_eq_true_eq];constructor;rintro ⟨h1,h2⟩;refine⟨by omega,SK λi hi=>(h2 i hi).2,λf hf=> ?_⟩;obtain⟨i,hi,rfl⟩:=Jr hf;have:=(h2 i hi).1;rwa[getD_lt hi]at this;rintro ⟨h1,h2,h3⟩;exact⟨by omega,λi hi=>⟨h3 _ (Ze hi),Zcb h2 i hi⟩⟩
theorem Zb3:∀ {l m:List Fd},Zlo l->Zlo m->(∀f,f∈l↔f∈m)->l=m
 | [],[],_,_,_=>rfl
 | [],b::m,_,_,h=>by have:=(h b).2 (by simp);cases this
 |a::l,[],_,_,h=>by have:=(h a).1 (by simp);cases this
 |a::l,b::m,h1,h2,h=>by
  obtain⟨p1,q1⟩:=Jl.1 h1;obtain⟨p2,q2⟩:=Jl.1 h2;have e:a=b:=by
   rcases Jo.1 ((h a).1 (by simp))with e|ha;exact e;rcases Jo.1 ((h b).2 (by simp))with e|hb;exact e.symm;have:=ZbR (p1 b hb) (p2 a ha);rw[Vg]at this;cases this
  subst e;congr 1;refine Zb3 q1 q2 λf=>⟨λhf=> ?_,λhf=> ?_⟩
  rcases Jo.1 ((h f).1 (by simp[hf]))with e|hf';subst e;have:=p1 f hf;rw[Vg]at this;cases this;exact hf';rcases Jo.1 ((h f).2 (by simp[hf]))with e|hf';subst e;have:=p2 f hf;rw[Vg]at this;cases this;exact hf'
theorem Zfv {l:List Fd} (h:Zlo l) {f g:Fd} (hf:f∈l) (hg:g∈l) (e:f.at'=g.at'):f=g:=by
 obtain⟨i,hi,rfl⟩:=Jr hf;obtain⟨j,hj,rfl⟩:=Jr hg;rcases JE i j with h1|h1|h1;have:=Ji.1 h i j hi hj h1;rw[e,Vg]at this;cases this;subst h1;rfl;have:=Ji.1 h j i hj hi h1;rw[e,Vg]at this;cases this
open Go.PL
structure Nd where
 e:Eg
 st:Int
 sch:List Fd
 dep:Int
 deriving DecidableEq,Inhabited
def nd (n:Nd):PV:= .agg [.int .i64 n.e.id.r,.int .i64 n.e.id.n,.int .i64 n.e.par.r,.int .i64 n.e.par.n,.int .i64 n.e.ln.kind,.int .i64 n.e.ln.at'.sc,.str n.e.ln.at'.gr,.str n.e.ln.at'.nm,.str n.e.ln.nm,.str n.e.ln.ot,.int .i64 n.e.ln.fac,.int .i64 n.e.ln.fd.at'.sc,.str n.e.ln.fd.at'.gr,.str n.e.ln.fd.at'.nm,.int .i64 n.e.ln.fd.kind,.str n.e.ln.fd.df,.sl .no (n.e.ln.fd.cases'.map .str),.int .i64 n.e.ln.fd.worth,.sl .no (n.e.ln.fo.map pr),.sl .no (n.e.ln.ba.map pr),.int .i64 n.st,.sl .no (n.sch.map fld),.int .i64 n.dep]
def kts (l:List Nd):List PV:=l.map λn=>tg n.e.id
def nds (l:List Nd):List PV:=l.map nd
def tr (l:List Nd):PV:= .rptr [.rmap (kts l) (nds l)]
theorem vc5 {x:Bool} {M:KH} {g:FuncId} {args args':List PV} {K:KR} {r:PV} (h1:Pp g args' r) (h2:K.k r M.m) (h0:JO M.m args:=by first|(simp only[go_sem,ref,ent,UM,doc,Xd,row,Zp,fld,lns,tg,refs,prs,pr,eg,egs,tgs,lg,lgs,tr];done)|exact rfl) (he:PV.giveL M.m args=args':=by first|(simp only[go_sem,ref,ent,UM,doc,Xd,row,Zp,fld,lns,tg,refs,prs,pr,eg,egs,tgs,lg,lgs,tr];done)|exact rfl):@Vr prog x M (some (g,args)) K:=Zk h1 h0 he h2
def mc (l:List Nd):MapC:=⟨kts l,nds l⟩
theorem Zf8 (l:List Pr):Jk (l.map pr)= []:=by
 induction l with
 |nil=>rfl
 |cons t l ih=>simp only[JC,Jk,ih,pr,Ju,Ja]
theorem ZeX (e:Eg):(eg e).dids= []:=by simp only[eg,Ju,Jk,Zf8,Wo,Ja]
theorem Zfi (n:Nd):(nd n).dids= []:=by simp only[nd,Ju,Jk,Zf8,Zc2,Wo,Ja]
theorem ZoT (t:Tg):(tg t).dids= []:=by simp only[tg,Ju,Jk,Ja]
theorem Gx {α:Type} (f:α->PV) (h:∀x,(f x).nomap=Ht) (l:List α):JB (l.map f)=true:=Gw.2 λc hc=>by
 obtain⟨x,_,rfl⟩:=List.mem_map.1 hc;exact h x
theorem Za3 (l:List Str):JB (l.map .str)=true:=Gx _ (λ_=>rfl) l
theorem Zj8 (l:List Pr):JB (l.map pr)=true:=Gx _ (λ_=>rfl) l
theorem Zj9 (f:Fd):(fld f).nomap=true:=by simp only[fld,PV.nomap,JB,Za3,Jw]
theorem ZmC (n:Nd):(nd n).nomap=true:=by simp only[nd,PV.nomap,JB,Zj8,Za3,Gx _ Zj9,Jw]
theorem ZaI (id:Tg):∀(l:List Nd) (i:Nat),findP [.int,.int] [.int .i64 id.r,.int .i64 id.n] (kts l) i=some ((l.findIdx? λn=>decide (id=n.e.id)).map (· + i))
 | [],i=>rfl
 |n::l,i=>by
  have ih:=ZaI id l (i+1);simp only[kts,tg]at ih;simp only[kts,JC,tg,findP,Zt,VV,if_true,List.findIdx?_cons,Bool.and_true,ZB];by_cases h:id=n.e.id;simp[h];simp only[h,decide_false,ih];simp only[Bool.false_eq_true,if_false,Option.map_map];congr 2;funext x;simp;omega
theorem Yd (id:Tg) (l:List Nd):findP [.int,.int] [.int .i64 id.r,.int .i64 id.n] (kts l) 0=some (l.findIdx? λn=>decide (id=n.e.id)):=by
 rw[ZaI];congr 1;cases List.findIdx? (λn=>decide (id=n.e.id)) l<;>rfl
def Gm (l:List Nd) (id:Tg):Option Nd:=l.find? λn=>decide (id=n.e.id)
theorem UO {l:List Nd} {id:Tg}:(l.findIdx? λn=>decide (id=n.e.id))=none↔Gm l id=none:=by
 unfold Gm;rw[List.findIdx?_eq_none_iff,List.find?_eq_none];simp
theorem UP {l:List Nd} {id:Tg} {i:Nat} (h:(l.findIdx? λn=>decide (id=n.e.id))=some i):i<l.length/\Gm l id=some (l.getD i Jd):=by
 rw[List.findIdx?_eq_some_iff_getElem]at h;obtain⟨h1,h2,h3⟩:=h;refine⟨h1,?_⟩;unfold Gm;rw[List.find?_eq_some_iff_getElem];exact⟨by rw[getD_lt h1];exact h2,i,h1,(getD_lt h1).symm,λj hj=>by simpa using h3 j hj⟩
theorem D8 {l:List Nd} {i:Nat} (h:i<l.length):(nds l).getD i .any=nd (l.getD i Jd):=WM h
theorem Zjw {l:List Nd} {i:Nat} (h:i<l.length):(kts l).getD i .any=tg (l.getD i Jd).e.id:=WM (d:=Jd) h
theorem S9:Pp 98 [] (tg Jd):=by
 refine ZM func98 rfl ntmps98 results98 (rfl) ?_;simp only[go_sem];rfl
theorem Zhk:Pp 99 [] (Zp FA):=by
 refine ZM func99 rfl ntmps99 results99 (UR _) ?_;simp only[go_sem];repeat((with_reducible refine And.intro ?_ ?_);(focus((repeat' (with_reducible apply And.intro))<;>(first|omega|exact Xb (by omega) (by omega)|exact Xb (by simp;omega) (by omega)|exact Y4 _|(simp;done)|(simp;omega)))))
 rfl
def Zfw:Nd:=⟨Jd,2,FA,0⟩
def atN (l:List Nd) (id:Tg):Nd:=if id=Jd then Zfw else(Gm l id).getD Jd
theorem ZnH:PL.Mk prog 27 [] (λb=> .rptr [.mref b]) (mc []):=by
 refine PL.Mk.of_v func27 (by decide) rfl ntmps27 results27 (by simp) (λb=>rfl) ?_;simp only[go_sem];intro b;exact⟨b,3,[.mref b],rfl,by simp,rfl,by simp[mc,kts,nds],rfl⟩
theorem ZiZ (l:List Nd) (id:Tg):Pp 51 [tr l,tg id] (nd (atN l id)):=by
 unfold atN;by_cases h:id=Jd;rw[if_pos h];subst h;refine ZM func51 rfl ntmps51 results51 (Zfi _) ?_;simp only[go_sem,tr,tg];refine vDq ?_;simp only[go_sem];refine vc3 S9 ?_;simp only[go_sem,tg];refine vc3 Zhk ?_;simp only[go_sem,Zp];rfl;rw[if_neg h];have hd:decide (id=Jd)=false:=by simpa using h
 refine ZM func51 rfl ntmps51 results51 (Zfi _) ?_;simp only[go_sem,tr,tg];refine vDq ?_;simp only[go_sem];refine vc3 S9 ?_;simp only[go_sem,tg,ZB,hd];cases hf:l.findIdx? (λn=>decide (id=n.e.id))with
 |none=>
  have:=UO.1 hf;refine vDq ?_;simp only[go_sem,Yd,hf,this,Option.getD_none];rfl
 |some i=>
  obtain⟨h1,h2⟩:=UP hf;refine vDq ?_;simp only[go_sem,Yd,hf,h2,Option.getD_some,D8 h1,nd]
open Go.PL
def TT (e:Eg):Bool:=Wy e.id&&((decide (e.par=Jd)||(Wy e.par&& !decide (e.par=e.id)))&&(decide (1<=e.ln.kind)&&(decide (e.ln.kind<=8)&&ZA e.ln)))
theorem G4 {t:Tg} (h:Wy t=Ht):t≠Jd:=λe=>by subst e;exact absurd h (by decide)
theorem Zft {x:Ln} (h:ZA x=Ht):1<=x.kind:=by
 unfold ZA at h;split at h;rename_i hk;omega;split at h;omega;split at h;omega;split at h;omega;split at h;omega;split at h;omega;simp only[Jh,decide_eq_true_eq]at h;omega
theorem Zim (e:Eg) (he:OkLn e.ln):Pp 79 [eg e] (.bool (TT e)):=by
 have hT:=Th e.id;have hU:=Th e.par;have hR:=X9 e.ln he;unfold TT;cases ht:Wy e.id;rw[ht]at hT;refine ZF func79 rfl ntmps79 results79 ?_;simp only[go_sem,eg];refine vc3 hT ?_;simp only[go_sem,Js];rw[ht]at hT;generalize hdp:decide (e.par=Jd)=dp at *;generalize hde:decide (e.par=e.id)=de at *;generalize Wy e.par=tp at *;generalize ZA e.ln=rl at *;have hdp':(e.par.r==0&&e.par.n==0)=dp:=by rw[<-hdp];exact ZB e.par Jd
 refine ZF func79 rfl ntmps79 results79 ?_;simp only[go_sem,eg];refine vc3 hT ?_;simp only[go_sem];cases dp<;>cases tp<;>cases de
 all_goals
  refine vDq ?_;simp only[go_sem];refine vc3 S9 ?_;simp only[go_sem,tg,ZB,hdp,hde,hdp']
  (try refine vc3 hU ?_)
  (try simp only[go_sem,ZB,hde])
  (try repeat' ((first|(first|apply Zl|apply Zj|apply Zs)<;>intro h|refine vc3 hR ?_|refine vDq ?_)<;>first|simp only[go_sem,h]|simp only[go_sem]|skip))
  (try(all_goals simp_all))
open Go.PL
theorem UG (t:Tg):Pp 71 [tg t] (.bool (Wy t)):=by
 refine ZF func71 rfl ntmps71 results71 ?_;simp only[go_sem,tg];repeat' ((first|(first|apply Zl|apply Zj|apply Zs)<;>intro h|refine vDq ?_)<;>first|simp only[go_sem,h]|simp only[go_sem]|skip)
 all_goals (simp only[decide_eq_true_eq,decide_eq_false_iff_not]at *;rw[Jg];simp[Wy];omega)
theorem Zp9 (e:Eg):TT e=(Wy e.id&&((decide (e.par=Jd)||Wy e.par)&&(!decide (e.id=e.par)&&(ZA e.ln&&decide (e.ln.kind<9))))):=by
 unfold TT;rw[Jg];simp only[Jh,Je,decide_eq_true_eq,JF,decide_eq_false_iff_not];constructor;rintro ⟨h1,h2,h3,h4,h5⟩;refine⟨h1,?_,?_,h5,by omega⟩;rcases h2 with h2|h2;exact .inl h2;exact .inr h2.1;rcases h2 with h2|h2;exact λe1=>G4 h1 (e1.trans h2)
 exact λe1=>h2.2 e1.symm
 rintro ⟨h1,h2,h3,h4,h5⟩;refine⟨h1,?_,Zft h4,by omega,h4⟩;rcases h2 with h2|h2;exact .inl h2;exact .inr ⟨h2,λe1=>h3 e1.symm⟩
theorem Zhg (e:Eg) (he:OkLn e.ln):Pp 76 [eg e] (.bool (TT e)):=by
 have hT:=UG e.id;have hU:=UG e.par;have hR:=ZcI e.ln he;rw[Zp9];generalize hdp:decide (e.par=Jd)=dp at *;generalize hde:decide (e.id=e.par)=de at *;generalize Wy e.par=tp at *;generalize Wy e.id=ti at *;generalize ZA e.ln=rl at *;have hdp':(e.par.r==0&&e.par.n==0)=dp:=by rw[<-hdp];exact ZB e.par Jd
 refine ZF func76 rfl ntmps76 results76 ?_;simp only[go_sem,eg,hdp',ZB,hde];repeat' ((first|(first|apply Zl|apply Zj|apply Zs)<;>intro h|refine vc3 hT ?_|refine vc3 hU ?_|refine vc3 hR ?_|refine vDq ?_)<;>first|simp only[go_sem,h,hdp',ZB,hde]|simp only[go_sem,hdp',ZB,hde]|skip)
 all_goals simp_all
theorem Zip (a b:Eg) (ha:OkLn a.ln) (hb:OkLn b.ln):Pp 80 [eg a,eg b] (.bool (decide (a=b))):=by
 have hE:=Zan a.ln b.ln ha hb;refine ZF func80 rfl ntmps80 results80 ?_;simp only[go_sem,eg,ZB];repeat' ((first|(first|apply Zl|apply Zj|apply Zs)<;>intro h|refine vc3 hE ?_|refine vDq ?_)<;>first|simp only[go_sem,h,ZB]|simp only[go_sem,ZB]|skip)
 all_goals (clear hE ha hb;cases a;cases b;simp_all)
theorem Zez (a b:Eg) (ha:OkLn a.ln) (hb:OkLn b.ln):Pp 78 [eg a,eg b] (.bool (decide (a=b))):=by
 have hE:=ZeA a.ln b.ln ha hb;refine ZF func78 rfl ntmps78 results78 ?_;simp only[go_sem,eg,ZB];repeat' ((first|(first|apply Zl|apply Zj|apply Zs)<;>intro h|refine vc3 hE ?_|refine vDq ?_)<;>first|simp only[go_sem,h,ZB]|simp only[go_sem,ZB]|skip)
 all_goals (clear hE ha hb;cases a;cases b;simp_all)
theorem Zea (e:Eg) (he:OkLn e.ln):Pp 81 [eg e] (eg e):=by
 have hO:=DC e.ln he;refine ZM func81 rfl ntmps81 results81 (ZeX _) ?_;simp only[go_sem,eg];refine vDq ?_;simp only[go_sem];refine vc3 hO ?_;simp only[go_sem,lns];rfl
def Ul (p:Pr):Bool:=XY 200 p.fr'||XY 200 p.to'
def Ss (l:List Pr):Bool:=decide (20<(l.length:Int))||l.any Ul
theorem GQ (l:List Pr) (hl:l.length<=maxLen):Pp 75 [prs l] (.bool (Ss l)):=by
 by_cases h20:(20:Int)<(l.length:Int);refine ZF func75 rfl ntmps75 results75 ?_;simp only[go_sem,prs,h20,Ss];have hx:Ss l=l.any Ul:=by simp only[Ss,h20,decide_false,Jv]
 rw[hx];refine ZF func75 rfl ntmps75 results75 ?_;simp only[go_sem,prs,h20];refine Zz (ι:= { x:Nat // x<=(l).length/\(∀j,j<x->Ul (l.getD j Jd)=Hf) }) 29 (λx=> [(0,prs l),(3,.int .i64 (x.1:Int))]) (λx=> []) (λx=> []) (λx=>(l).length-x.1) ⟨0,Jq _,λj hj=>absurd hj (Jz j)⟩ ⟨rfl,(Fc2 rfl rfl),fnl,fnl⟩ (λx=>⟨(Fc2 rfl rfl),fnl⟩) (λx=> ?_);obtain⟨k,hk,hI⟩:=x;simp only at hk hI ⊢;by_cases h:(k:Int)<(l.length:Int)
 (have hka:k<(l).length:=by omega);(have w1:=Vt hka (hl));(have i1:=Jf k)
 by_cases g1:(200:Int)<((l.getD k Jd).fr'.length:Int);have hz:=Uc (p:=Ul) hka (d:=Jd) (by simp only[Ul,XY,Je,decide_eq_true_eq];omega);simp only[go_sem,prs,h,ZZ hka,pr,i1,g1,hz];by_cases g2:(200:Int)<((l.getD k Jd).to'.length:Int);have hz:=Uc (p:=Ul) hka (d:=Jd) (by simp only[Ul,XY,Je,decide_eq_true_eq];omega);simp only[go_sem,prs,h,ZZ hka,pr,i1,g1,g2,hz]
 ·simp only[go_sem,prs,h,ZZ hka,pr,i1,g1,g2,w1];exact⟨⟨k+1,by(try simp only);omega,Zn hI (by simp only[Ul,XY,Jp,decide_eq_false_iff_not];omega)⟩,by show(l).length-(k+1)<(l).length-k;omega,⟨rfl,(Fc2 rfl rfl),fnl,fnl⟩⟩
 have hz:=VQ (p:=Ul) (d:=Jd) (l:=l) (λj hj=>hI j (by omega));simp only[go_sem,prs,h,hz]
theorem ZsN (s:Str):XY 200 s=decide ((200:Int)<(s.length:Int)):=rfl
def VN (x:Ln):Bool:=XY 200 x.at'.gr||(XY 200 x.at'.nm||(XY 200 x.nm||(XY 200 x.ot||(GU x.fd||(Ss x.fo||Ss x.ba)))))
structure LenLn (x:Ln):Prop where
 c:x.fd.cases'.length<=maxLen
 f:x.fo.length<=maxLen
 b:x.ba.length<=maxLen
theorem Zbq (x:Ln) (hx:LenLn x):Pp 29 [lns x] (.bool (VN x)):=by
 have hF:=ZcG x.fd hx.c;have hP:=GQ x.fo hx.f;have hQ:=GQ x.ba hx.b;unfold VN;generalize GU x.fd=a1 at *;generalize Ss x.fo=a2 at *;generalize Ss x.ba=a3 at *;refine ZF func29 rfl ntmps29 results29 ?_;simp only[go_sem,lns];repeat' ((first|(first|apply Zl|apply Zj|apply Zs)<;>intro h|refine vc3 hF ?_|refine vc3 hP ?_|refine vc3 hQ ?_|refine vDq ?_)<;>first|simp only[go_sem,h]|simp only[go_sem]|skip)
 all_goals (clear hF hP hQ hx;simp only[ZsN, *,JD,JM,Jv,Bool.or_false])
def Fa (l:List Eg) (most:Int):Bool:=decide (most<(l.length:Int))||l.any λe=>VN e.ln
theorem ZcF (l:List Eg) (most:Int) (hl:l.length<=maxLen) (hx:∀e∈l,LenLn e.ln):Pp 7 [egs l,.int .i64 most] (.bool (Fa l most)):=by
 by_cases hm:most<(l.length:Int);refine ZF func7 rfl ntmps7 results7 ?_;simp only[go_sem,egs,hm,Fa];have hz:Fa l most=l.any λe=>VN e.ln:=by simp only[Fa,hm,decide_false,Jv]
 rw[hz];refine ZF func7 rfl ntmps7 results7 ?_;simp only[go_sem,egs,hm];refine Zz (ι:= { x:Nat // x<=(l).length/\(∀j,j<x->VN (l.getD j Jd).ln=Hf) }) 22 (λx=> [(0,egs l),(5,.int .i64 (x.1:Int))]) (λx=> []) (λx=> []) (λx=>(l).length-x.1) ⟨0,Jq _,λj hj=>absurd hj (Jz j)⟩ ⟨rfl,(Fc2 rfl rfl),fnl,fnl⟩ (λx=>⟨(Fc2 rfl rfl),fnl⟩) (λx=> ?_);obtain⟨k,hk,hI⟩:=x;simp only at hk hI ⊢;by_cases h:(k:Int)<(l.length:Int)
 (have hka:k<(l).length:=by omega);(have w1:=Vt hka (hl));(have i1:=Jf k)
 have hF:=Zbq (l.getD k Jd).ln (hx _ (Zy hka));cases hf:VN (l.getD k Jd).ln
 ·rw[hf]at hF;simp only[go_sem,egs,h,US hka,eg,i1];refine vc3 hF ?_;simp only[go_sem,w1];exact⟨⟨k+1,by(try simp only);omega,Zn hI hf⟩,by show(l).length-(k+1)<(l).length-k;omega,⟨rfl,(Fc2 rfl rfl),fnl,fnl⟩⟩
 rw[hf]at hF;have hz:=Uc (p:=λe:Eg=>VN e.ln) hka hf;simp only[go_sem,egs,h,US hka,eg,i1];refine vc3 hF ?_;simp only[go_sem,hz];have hz:=VQ (p:=λe:Eg=>VN e.ln) (d:=Jd) (l:=l) (λj hj=>hI j (by omega));simp only[go_sem,egs,h,hz]
theorem Zkd {x:Ln} (h:VN x=Hf):OkLn x:=by
 simp only[VN,GU,ZaL,Ss,Jp,decide_eq_false_iff_not]at h;obtain⟨_,_,_,_,⟨⟨_,_,_,h1⟩,_⟩,⟨h2,_⟩,h3,_⟩:=h;exact⟨by omega,by omega,by omega⟩
open Go.PL Go.PL.Srt
section
variable {α:Type} [Inhabited α] {pv:α->PV} {g:FuncId} {lt:α->α->Bool} {cv:α->α->Int}
inductive Blk (lt:α->α->Bool) (bs:Nat):List α->List α->Prop
 |last (l:List α) (h:l.length<=bs):Blk lt bs l (srt lt l)
 |more (l l' r':List α) (h:l.length=bs) (t:Blk lt bs l' r'):Blk lt bs (l++l') (srt lt l++r')
theorem Blk.small {bs:Nat} (hb:0<bs) {R C:List α} (h:Blk lt bs R C) (hR:R.length<=bs):C=srt lt R:=by
 cases h with
 |last l h=>rfl
 |more l l' r' h t=>
  simp only[Jc]at hR;have:l'= []:=List.length_eq_zero_iff.1 (by omega);subst this;have hr:r'= []:=by
   generalize hx:([]:List α)=x at t;cases t with
   |last l h=>subst hx;rfl
   |more l2 l3 r3 h t=>
    have:=congrArg List.length hx;simp only[JH,Jc]at this;omega
  subst hr;simp
theorem Blk.first {bs:Nat} {R C:List α} (h:Blk lt bs R C) (hR:bs<R.length):∃l l' r',R=l++l'/\C=srt lt l++r'/\l.length=bs/\Blk lt bs l' r':=by
 cases h with
 |last l h=>omega
 |more l l' r' h t=>exact⟨l,l',r',rfl,rfl,h,t⟩
theorem Blk.len {bs:Nat} {R C:List α} (h:Blk lt bs R C):C.length=R.length:=by
 induction h with
 |last l h=>exact Zx l
 |more l l' r' h t ih=>simp[Zx,ih]
theorem Blk.nil (bs:Nat):Blk lt bs ([]:List α) []:= .last [] (Jq _)
theorem Blk.two {bs:Nat} (hb:0<bs) {R C:List α} (h:Blk lt bs R C) (hR:2*bs<=R.length):∃l1 l2 R2 C2,R=l1++(l2++R2)/\C=srt lt l1++(srt lt l2++C2)/\l1.length=bs/\l2.length=bs/\Blk lt bs R2 C2:=by
 obtain⟨l1,l',r',rfl,rfl,h1,t⟩:=h.first (by omega)
 simp only[Jc]at hR;by_cases h2:bs<l'.length;obtain⟨l2,l3,r3,rfl,rfl,h3,t3⟩:=t.first h2
 exact⟨l1,l2,l3,r3,rfl,rfl,h1,h3,t3⟩;have:=t.small hb (by omega);subst this;exact⟨l1,l',[],[],by simp,by simp,h1,by omega,Blk.nil bs⟩
theorem ZkR (gd:Srt.Good lt) {l1 l2:List α} (h:Unl lt (l1++l2)):srt lt (srt lt l1++srt lt l2)=srt lt (l1++l2):=
 (FJ gd h ((Yz l1).append (Yz l2)).symm).symm
theorem Zcm {A B:List α} (h:Unl lt B) (s:A.Sublist B):Unl lt A:=JL.sublist s h
theorem GV (K:SortK pv g lt cv) (e:TypeId) (n:Nat) (X L Y:List α) (hU:Unl lt L) (hn:X.length+L.length+Y.length=n) (hm:n<=1000000000000) (l0 r:List PV) (hl0:l0=(X++(L++Y)).map pv) (hr:r=(X++(srt lt L++Y)).map pv) (ia ib:Int) (ha:ia=(X.length:Int)) (hb:ib=((X.length+L.length:Nat):Int)):
  Eff prog 194 [.vsl 1000 n 15,.int .i64 ia,.int .i64 ib,.fn g []] (WF n 15 e l0) (.tup []) (WF n 15 e r):=by
 subst ha hb hl0;exact ZbQ K e n X L Y hU hn hm r hr
theorem Zik (K:SortK pv g lt cv) (e:TypeId) (n:Nat) (hm:n<=1000000000000) (L:List α) (hU:Unl lt L) (hn:L.length=n) (r:List PV) (hr:r=(srt lt L).map pv):
  Eff prog 152 [.vsl 1000 n 15,.int .i64 (n:Int),.fn g []] (WF n 15 e (L.map pv)) (.tup []) (WF n 15 e r):=by
 subst hr;have hcl:∀l:List α,∀p∈l.map pv,p.ids= []:=λl=>YX K.ids l
 refine Eff.vw [] func152 (by decide) rfl ntmps152 results152 (by simp) (hcl _) (hcl _) (by simp[Jt,Jm]) (by simp[Jt,Jm]) λq=> ?_
 simp only[go_sem];refine XP (ι:= { s:List α×List α // (∀C,Blk lt 20 s.2 C->Blk lt 20 L (s.1++C))/\s.1.length+s.2.length=n/\s.2.Sublist L }) 63 (λy=> [(0,.vsl 1000 n 15),(1,.int .i64 (n:Int)),(2,.fn g []),(6,.int .i64 20),(7,.int .i64 (y.1.1.length:Int)),(8,.int .i64 ((y.1.1.length+20:Nat):Int))]) (λ_=> []) (λ_=> [(1000,.vec n 15 e)]) (λ_=> []) (λ_=> []) (λy=> [(1000,(y.1.1++y.1.2).map pv)]) (λ_=> []) [] [(1000,q)] [] (λy=>y.1.2.length) ⟨([],L),λC h=>h,by simpa using hn,JN.refl L⟩
  (Yg rfl (Fc6 rfl rfl rfl rfl rfl rfl) rfl rfl rfl) (λx=>Xe (by simp[Jt,Jm,ZN]) (Yh K.ids _)) (λy=> ?_)
 obtain⟨⟨D,R⟩,h1,h2,h3⟩:=y;simp only at h1 h2 h3 ⊢;by_cases hk:20<=R.length;have c1:((D.length+20:Nat):Int)<=(n:Int):=by omega
 have w1:IntKind.i64.wrap (((D.length+20:Nat):Int)+20)=((D.length+20+20:Nat):Int):=by rw[VK (by omega) (by omega)];omega
 have e1:R.take 20++R.drop 20=R:=List.take_append_drop _ _;have l1:(R.take 20).length=20:=by rw[List.length_take];omega
 generalize R.take 20=l at e1 l1;generalize R.drop 20=R' at e1;subst e1;simp only[Jc]at h2;simp only[go_sem,c1];refine YP 1000 (GV K e n D l R' (Zcm hU ((Jy _ _).trans h3)) (by omega) hm _ ((D++(srt lt l++R')).map pv) rfl rfl _ _ rfl (by omega)) (by simp[Jt,Jm]) (hcl _) (hcl _) rfl rfl rfl ?_;simp only[go_sem,w1];refine⟨⟨(D++srt lt l,R'),λC hC=>by rw[Jn];exact h1 _ (.more l R' C l1 hC),by simp[Zx];omega,(Jj _ _).trans h3⟩,by show R'.length<(l++R').length;simp;omega,Yg rfl ?_ rfl (by show some _=some _;simp) rfl⟩;show ∀x∈ [(0,JR 1000 n 15),(1,.int .i64 (n:Int)),(2,.fn g []),(6,.int .i64 20),(7,.int .i64 ((D++srt lt l).length:Int)),(8,.int .i64 (((D++srt lt l).length+20:Nat):Int))],_;rw[show(D++srt lt l).length=D.length+20 by simp[Zx,l1]];exact(Fc6 rfl rfl rfl rfl rfl rfl);have c1:¬((D.length+20:Nat):Int)<=(n:Int):=by omega
 simp only[go_sem,c1];refine YP 1000 (GV K e n D R [] (Zcm hU h3) (by simpa using h2) hm _ ((D++srt lt R).map pv) (by simp) (by simp) _ _ rfl (by omega)) (by simp[Jt,Jm]) (hcl _) (hcl _) rfl rfl rfl ?_;have hB:=h1 _ (.last R (by omega));generalize D++srt lt R=C at hB;clear h1 h2 h3 hk c1;simp only[go_sem];refine XP (ι:= { s:Nat×List α // Blk lt s.1 L s.2/\0<s.1/\(s.1=20\/s.1<=2*n) }) 63 (λy=> [(0,.vsl 1000 n 15),(1,.int .i64 (n:Int)),(2,.fn g []),(6,.int .i64 (y.1.1:Int))]) (λ_=> []) (λ_=> [(1000,.vec n 15 e)]) (λ_=> []) (λ_=> []) (λy=> [(1000,y.1.2.map pv)]) (λ_=> []) [] [(1000,q)] [] (λy=>n-y.1.1) ⟨(20,C),hB,by show 0<20;omega,.inl rfl⟩
  (Yg rfl (Fc4 rfl rfl rfl rfl) rfl rfl rfl) (λx=>Xe (by simp[Jt,Jm,ZN]) (Yh K.ids _)) (λy=> ?_)
 clear hB C;obtain⟨⟨bs,C⟩,hB,hb0,hb1⟩:=y;simp only at hB hb0 hb1 ⊢;by_cases hk:bs<n;have c1:(bs:Int)<(n:Int):=by omega
 have w1:IntKind.i64.wrap (2*(bs:Int))=((2*bs:Nat):Int):=by rw[VK (by omega) (by omega)];omega
 have w2:IntKind.i64.wrap ((bs:Int)*2)=((2*bs:Nat):Int):=by rw[VK (by omega) (by omega)];omega
 simp only[go_sem,c1,w1];refine XP (ι:= { s:List α×List α×List α // (∀C,Blk lt (2*bs) s.2.1 C->Blk lt (2*bs) L (s.1++C))/\Blk lt bs s.2.1 s.2.2/\s.1.length+s.2.1.length=n/\s.2.1.Sublist L }) 63 (λy=> [(0,.vsl 1000 n 15),(1,.int .i64 (n:Int)),(2,.fn g []),(6,.int .i64 (bs:Int)),(7,.int .i64 (y.1.1.length:Int)),(8,.int .i64 ((y.1.1.length+2*bs:Nat):Int))]) (λ_=> []) (λ_=> [(1000,.vec n 15 e)]) (λ_=> []) (λ_=> []) (λy=> [(1000,(y.1.1++y.1.2.2).map pv)]) (λ_=> []) [] [(1000,q)] [] (λy=>y.1.2.1.length) ⟨([],L,C),λC h=>h,hB,by simpa using hn,JN.refl L⟩
  (Yg rfl (by show ∀x∈ [(0,JR 1000 n 15),(1,.int .i64 (n:Int)),(2,.fn g []),(6,.int .i64 (bs:Int)),(7,.int .i64 0),(8,.int .i64 ((0+2*bs:Nat):Int))],_;rw[Nat.zero_add];exact(Fc6 rfl rfl rfl rfl rfl rfl)) rfl rfl rfl) (λx=>Xe (by simp[Jt,Jm,ZN]) (Yh K.ids _)) (λy=> ?_)
 obtain⟨⟨D,R,CR⟩,h1,h2,h3,h4⟩:=y;simp only at h1 h2 h3 h4 ⊢;by_cases hk2:2*bs<=R.length;have c2:((D.length+2*bs:Nat):Int)<=(n:Int):=by omega
 have w3:IntKind.i64.wrap ((D.length:Int)+(bs:Int))=((D.length+bs:Nat):Int):=by rw[VK (by omega) (by omega)];omega
 have w4:IntKind.i64.wrap (((D.length+2*bs:Nat):Int)+((2*bs:Nat):Int))=((D.length+2*bs+2*bs:Nat):Int):=by rw[VK (by omega) (by omega)];omega
 obtain⟨l1,l2,R2,C2,rfl,rfl,k1,k2,k3⟩:=h2.two hb0 hk2;have k4:=k3.len;simp only[Jc]at h3;have hU2:Unl lt (l1++l2):=Zcm hU ((by rw[<-Jn];exact Jy _ _:(l1++l2).Sublist (l1++(l2++R2))).trans h4);obtain⟨u1,u2,u3⟩:=Unl.append.1 hU2;have hU3:Unl lt (srt lt l1++srt lt l2):=Unl.perm hU2 ((Yz l1).append (Yz l2)).symm;simp only[go_sem,c2,w1,w3];refine YP 1000 (G3 K e n hm _ D (srt lt l1) (srt lt l2) C2 (JP _) (Vo K.good u1) (Vo K.good u2) hU3 (by rw[Zx];omega) (by rw[Zx];omega) (by simp only[Zx];omega) _ ((D++(srt lt (l1++l2)++C2)).map pv) (by simp) (by rw[ZkR K.good hU2]) _ _ _ rfl (by simp only[Zx];omega) (by simp only[Zx];omega)) (by simp[Jt,Jm]) (hcl _) (hcl _) rfl rfl rfl ?_;simp only[go_sem,w1,w4];have hx:(D++srt lt (l1++l2)).length=D.length+2*bs:=by simp[Zx];omega
 refine⟨⟨(D++srt lt (l1++l2),R2,C2),λC hC=>by rw[Jn];exact h1 _ (by rw[<-Jn];exact .more (l1++l2) R2 C (by simp;omega) hC),k3,by show(D++srt lt (l1++l2)).length+R2.length=n;rw[hx];omega,((Jj _ _).trans (Jj _ _)).trans h4⟩,by show R2.length<(l1++(l2++R2)).length;simp;omega,Yg rfl ?_ rfl (by show some _=some _;simp) rfl⟩;show ∀x∈ [(0,JR 1000 n 15),(1,.int .i64 (n:Int)),(2,.fn g []),(6,.int .i64 (bs:Int)),(7,.int .i64 ((D++srt lt (l1++l2)).length:Int)),(8,.int .i64 (((D++srt lt (l1++l2)).length+2*bs:Nat):Int))],_;rw[hx];exact(Fc6 rfl rfl rfl rfl rfl rfl);have c2:¬((D.length+2*bs:Nat):Int)<=(n:Int):=by omega
 have w3:IntKind.i64.wrap ((D.length:Int)+(bs:Int))=((D.length+bs:Nat):Int):=by rw[VK (by omega) (by omega)];omega
 by_cases hk3:bs<R.length;have c3:((D.length+bs:Nat):Int)<(n:Int):=by omega
 obtain⟨l1,R1,C1,rfl,rfl,k1,k2⟩:=h2.first hk3
 simp only[Jc]at h3 hk2 hk3;have:=k2.small hb0 (by omega);subst this;have hU2:Unl lt (l1++R1):=Zcm hU h4;obtain⟨u1,u2,u3⟩:=Unl.append.1 hU2;have hU3:Unl lt (srt lt l1++srt lt R1):=Unl.perm hU2 ((Yz l1).append (Yz R1)).symm;simp only[go_sem,c2,w3,c3];refine YP 1000 (G3 K e n hm _ D (srt lt l1) (srt lt R1) [] (JP _) (Vo K.good u1) (Vo K.good u2) hU3 (by rw[Zx];omega) (by rw[Zx];omega) (by simp only[Zx,JH];omega) _ ((D++srt lt (l1++R1)).map pv) (by simp) (by rw[ZkR K.good hU2];simp) _ _ _ rfl (by simp only[Zx];omega) (by simp only[Zx];omega)) (by simp[Jt,Jm]) (hcl _) (hcl _) rfl rfl rfl ?_;simp only[go_sem,w2];exact⟨⟨(2*bs,D++srt lt (l1++R1)),h1 _ (.last _ (by simp;omega)),by show 0<2*bs;omega,.inr (by show 2*bs<=2*n;omega)⟩,by show n-2*bs<n-bs;omega,Yg rfl (Fc4 rfl rfl rfl rfl) rfl rfl rfl⟩;have c3:¬((D.length+bs:Nat):Int)<(n:Int):=by omega
 have:=h2.small hb0 (by omega);subst this;simp only[go_sem,c2,w3,c3,w2];exact⟨⟨(2*bs,D++srt lt R),h1 _ (.last _ (by omega)),by show 0<2*bs;omega,.inr (by show 2*bs<=2*n;omega)⟩,by show n-2*bs<n-bs;omega,Yg rfl (Fc4 rfl rfl rfl rfl) rfl rfl rfl⟩;have c1:¬(bs:Int)<(n:Int):=by omega
 have:=hB.small hb0 (by omega);subst this;simp only[go_sem,c1];exact Ug (r0:= .tup []) (hcl _) rfl (.clean rfl) rfl rfl rfl
theorem FY (K:SortK pv g lt cv) (e:TypeId) (n:Nat) (hm:n<=1000000000000) (L:List α) (hU:Unl lt L) (hn:L.length=n) (r:List PV) (hr:r=(srt lt L).map pv):
  Eff prog 111 [.vsl 1000 n 15,.fn g []] (WF n 15 e (L.map pv)) (.tup []) (WF n 15 e r):=by
 subst hr;have hcl:∀l:List α,∀p∈l.map pv,p.ids= []:=λl=>YX K.ids l
 refine Eff.vw [] func111 (by decide) rfl ntmps111 results111 (by simp) (hcl _) (hcl _) (by simp[Jt,Jm]) (by simp[Jt,Jm]) λq=> ?_
 simp only[go_sem];refine YP 1000 (Zik K e n hm L hU hn _ rfl) (by simp[Jt,Jm]) (hcl _) (hcl _) rfl rfl rfl ?_;simp only[go_sem];exact Ug (r0:= .tup []) (hcl _) rfl (.clean rfl) rfl rfl rfl
end
open Go.PL
open Go.PL
open Go.ChangeShapes Go.WideShapes Go.ChangeAt Go.RowKit
theorem own:ownKnob prog.godebug=Option.none:=by kernel_rfl
theorem laidOut:laidOutB prog=true:=by kernel_rfl
theorem lays:ZaS prog=true:=by kernel_rfl
theorem Zox:Zcx prog 28=false:=by kernel_rfl
theorem Zqq:Zcx prog 31=false:=by kernel_rfl
theorem Zqo:Zcx prog 22=false:=by kernel_rfl
structure LenLn' (x:Ln):Prop where
 c:x.fd.cases'.length<=maxLen
 f:x.fo.length<=maxLen
 b:x.ba.length<=maxLen
theorem ZoH {cs:List PV} (h:PT prog 28 cs):∃l:List Str,cs= [.sl .no (l.map .str)]/\l.length<=maxLen:=by
 obtain⟨l,rfl,h1,h2⟩:=h.slice_inv Zox underlying28;obtain⟨xs,rfl,_⟩:=Ti (enc:=PV.str) (Q:=λ_=>True) (λp hp=>by
  obtain⟨s,rfl,_⟩:=(h2 p hp).string underlying9;exact⟨s,rfl,trivial⟩)
 exact⟨xs,rfl,by simpa using h1⟩
theorem Za6 {cs:List PV} (h:PT prog 25 cs):∃r:Tg,cs= [.int .i64 r.r,.int .i64 r.n]:=by
 have h1:PTs prog [3,3] cs:=h.struct_inv underlying25;obtain⟨a,b,rfl,h2,h3⟩:=h1.cons_inv;obtain⟨c,d,rfl,h4,h5⟩:=h3.cons_inv;obtain⟨x,rfl,_⟩:=h2.int_inv underlying3;obtain⟨y,rfl,_⟩:=h4.int_inv underlying3;rw[h5.nil_inv];exact⟨⟨x,y⟩,rfl⟩
theorem ZgI {cs:List PV} (h:PT prog 27 cs):∃r:Rf,cs= [.int .i64 r.sc,.str r.gr,.str r.nm]:=by
 have h1:PTs prog [3,9,9] cs:=h.struct_inv underlying27;obtain⟨a,b,rfl,h2,h3⟩:=h1.cons_inv;obtain⟨c,d,rfl,h4,h5⟩:=h3.cons_inv;obtain⟨e,f,rfl,h6,h7⟩:=h5.cons_inv;obtain⟨x,rfl,_⟩:=h2.int_inv underlying3;obtain⟨y,rfl,_⟩:=h4.string_inv underlying9;obtain⟨z,rfl,_⟩:=h6.string_inv underlying9;rw[h7.nil_inv];exact⟨⟨x,y,z⟩,rfl⟩
theorem ZqA {cs:List PV} (h:PT prog 30 cs):∃f:Fd,cs= [.int .i64 f.at'.sc,.str f.at'.gr,.str f.at'.nm,.int .i64 f.kind,.str f.df,.sl .no (f.cases'.map .str),.int .i64 f.worth]/\f.cases'.length<=maxLen:=by
 have h1:PTs prog [27,3,9,28,2] cs:=h.struct_inv underlying30;obtain⟨a1,b1,rfl,h2,h3⟩:=h1.cons_inv;obtain⟨a2,b2,rfl,h4,h5⟩:=h3.cons_inv;obtain⟨a3,b3,rfl,h6,h7⟩:=h5.cons_inv;obtain⟨a4,b4,rfl,h8,h9⟩:=h7.cons_inv;obtain⟨a5,b5,rfl,h10,h11⟩:=h9.cons_inv;obtain⟨r,rfl⟩:=ZgI h2;obtain⟨x,rfl,_⟩:=h4.int_inv underlying3;obtain⟨y,rfl,_⟩:=h6.string_inv underlying9;obtain⟨l,rfl,hl⟩:=ZoH h8;obtain⟨z,rfl,_⟩:=h10.int_inv underlying2;rw[h11.nil_inv];exact⟨⟨r,x,y,l,z⟩,rfl,hl⟩
theorem ZoF {p:PV} (h:PA prog 194 p):∃e:Pr,p=pr e:=by
 obtain⟨cs,rfl,h1⟩:=PA.agg Zm5 h;have h1:PTs prog [9,9] cs:=h1.struct_inv underlying194;obtain⟨a,b,rfl,h2,h3⟩:=h1.cons_inv;obtain⟨c,d,rfl,h4,h5⟩:=h3.cons_inv;obtain⟨x,rfl,_⟩:=h2.string_inv underlying9;obtain⟨y,rfl,_⟩:=h4.string_inv underlying9;rw[h5.nil_inv];exact⟨⟨x,y⟩,rfl⟩
theorem ZnL {cs:List PV} (h:PT prog 31 cs):∃l:List Pr,cs= [.sl .no (l.map pr)]/\l.length<=maxLen:=by
 obtain⟨l,rfl,h1,h2⟩:=h.slice_inv Zqq underlying31;obtain⟨xs,rfl,_⟩:=Ti (enc:=pr) (Q:=λ_=>True) (λp hp=>by
  obtain⟨s,rfl⟩:=ZoF (h2 p hp);exact⟨s,rfl,trivial⟩)
 exact⟨xs,rfl,by simpa using h1⟩
def Zmx (x:Ln):List PV:= [.int .i64 x.kind,.int .i64 x.at'.sc,.str x.at'.gr,.str x.at'.nm,.str x.nm,.str x.ot,.int .i64 x.fac,.int .i64 x.fd.at'.sc,.str x.fd.at'.gr,.str x.fd.at'.nm,.int .i64 x.fd.kind,.str x.fd.df,.sl .no (x.fd.cases'.map .str),.int .i64 x.fd.worth,.sl .no (x.fo.map pr),.sl .no (x.ba.map pr)]
theorem Zkn {cs:List PV} (h:PT prog 33 cs):∃x:Ln,cs=Zmx x/\LenLn' x:=by
 have h1:PTs prog [3,27,9,9,2,30,31,31] cs:=h.struct_inv underlying33;obtain⟨a1,b1,rfl,h2,h3⟩:=h1.cons_inv;obtain⟨a2,b2,rfl,h4,h5⟩:=h3.cons_inv;obtain⟨a3,b3,rfl,h6,h7⟩:=h5.cons_inv;obtain⟨a4,b4,rfl,h8,h9⟩:=h7.cons_inv;obtain⟨a5,b5,rfl,h10,h11⟩:=h9.cons_inv;obtain⟨a6,b6,rfl,h12,h13⟩:=h11.cons_inv;obtain⟨a7,b7,rfl,h14,h15⟩:=h13.cons_inv;obtain⟨a8,b8,rfl,h16,h17⟩:=h15.cons_inv;obtain⟨x1,rfl,_⟩:=h2.int_inv underlying3;obtain⟨x2,rfl⟩:=ZgI h4;obtain⟨x3,rfl,_⟩:=h6.string_inv underlying9;obtain⟨x4,rfl,_⟩:=h8.string_inv underlying9;obtain⟨x5,rfl,_⟩:=h10.int_inv underlying2;obtain⟨x6,rfl,k6⟩:=ZqA h12;obtain⟨x7,rfl,k7⟩:=ZnL h14;obtain⟨x8,rfl,k8⟩:=ZnL h16;rw[h17.nil_inv];exact⟨⟨x1,x2,x3,x4,x5,x6,x7,x8⟩,rfl,⟨k6,k7,k8⟩⟩
theorem ZoE {p:PV} (h:PA prog 82 p):∃e:Eg,p=eg e/\LenLn' e.ln:=by
 obtain⟨cs,rfl,h1⟩:=PA.agg ZoS h;have h1:PTs prog [25,25,33] cs:=h1.struct_inv underlying82;obtain⟨a1,b1,rfl,h2,h3⟩:=h1.cons_inv;obtain⟨a2,b2,rfl,h4,h5⟩:=h3.cons_inv;obtain⟨a3,b3,rfl,h6,h7⟩:=h5.cons_inv;obtain⟨x1,rfl⟩:=Za6 h2;obtain⟨x2,rfl⟩:=Za6 h4;obtain⟨x3,rfl,k3⟩:=Zkn h6;rw[h7.nil_inv];exact⟨⟨x1,x2,x3⟩,rfl,k3⟩
theorem ZmI {p:PV} (h:PA prog 22 p):∃l:List Eg,p=egs l/\l.length<=maxLen/\ ∀e∈l,LenLn' e.ln:=by
 obtain⟨l,rfl,h1,h2⟩:=h.slice Zqo underlying22;obtain⟨xs,rfl,h3⟩:=Ti (λp hp=>ZoE (h2 p hp));exact⟨xs,rfl,by simpa using h1,h3⟩
theorem Zki {p:PV} (h:PA prog 25 p):∃t:Tg,p=tg t:=by
 obtain⟨cs,rfl,h1⟩:=PA.agg ZoP h;obtain⟨r,rfl⟩:=Za6 h1;exact⟨r,rfl⟩
end Go.Proofs.YtepchngegclagaaGreat
