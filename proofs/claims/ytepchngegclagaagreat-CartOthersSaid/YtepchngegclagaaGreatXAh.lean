/- Lemmas of the proof. -/
import Derived.Test.YtepchngegclagaaGreatPlH
import Derived.Test.YtepchngegclagaaGreatXAa
import Derived.Laws.LoneSync
import Derived.Shelf.SlSortCmp.WholeK
import Derived.Shelf.SlSortCmp.NoneTotal
open Inhabited renaming default→Jd
open Option renaming some→Hs
open Bool renaming true→Ht,false→Hf
open Go.Proofs.Tryz
open Go Go.PL
open _root_.Array renaming getElem?_eq_some_iff→JF,getElem?_modify→JP,getElem?_push→JR
open Bool renaming false_and→Jb,eq_iff_iff→Je,true_and→Jg,and_false→Jm,false_eq_true→Jo,and_self→Jt,not_false→Jw,and_eq_true→Jy,or_eq_false_iff→Jz,not_true→JL,or_eq_true→JN,and_eq_false_iff→JO,true_eq_false→JW
open Int renaming natCast_nonneg→Ja,lt_trichotomy→JG,compare_eq_lt→JH,compare_eq_eq→JI,compare_eq_gt→JJ
open List renaming append_nil→Jh,getD_eq_getElem?_getD→Ji,getElem?_eq_getElem→Jj,length_take→Jk,range→Jl,length_map→Jq,all_eq_true→Jr,take_length→Js,all_eq_false→Ju,mem_range→Jv,eq_nil_of_length_eq_zero→JA,mem_map→JC,eraseIdx_of_length_le→JD,length_append→JE,any_eq_true→JM,getElem_of_mem→JQ,map_cons→JS,find?_eq_none→JT,filter_append→JV,any_eq_false→JX,filter_cons→JY,filter_nil→JZ,map_take→J2,take→J5
open Nat renaming zero_le→Jc,not_lt_zero→Jf,sub_zero→Jn,le_trans→J3,mul_comm→J4
open Op renaming negFloat→JK
open PV renaming didsL→Jp,dids→JB,ids→JU
namespace Go.Proofs.YtepchngegclagaaGreat
set_option maxHeartbeats 64000000
set_option maxRecDepth 20000
set_option linter.unusedVariables false
set_option linter.unusedSimpArgs false
open Go.PL
@[go_sem] theorem Zvb:((0:Nat):Int)=0:=rfl
@[go_sem] theorem Zvc:((1:Nat):Int)=1:=rfl
attribute [go_sem] Int.cast_ofNat_Int
def nm (s:Str) (i:Nat):Int:=((s.getD i 0).toNat:Int)
def ZhZ (s:Str) (i:Nat):Bool:=decide (97<=nm s i/\nm s i<=122)||(decide (48<=nm s i/\nm s i<=57)&&decide (i≠0))
def ZL (s:Str):Bool:=decide (1<=s.length/\s.length<=12)&&(Jl s.length).all (ZhZ s)
theorem WE (s:Str) (i:Nat):((s.getD i 0).toNat:Int)=nm s i:=rfl
theorem YA (s:Str):Pp 34 [.str s] (.bool (ZL s)):=by
 by_cases h1:(s.length:Int)<1;have hx:ZL s=false:=by simp only[ZL,show ¬(1<=s.length/\s.length<=12)by omega,decide_false,Jb]
 refine ZF func34 rfl ntmps34 results34 ?_;simp only[go_sem,h1,hx];by_cases h2:(12:Int)<(s.length:Int);have hx:ZL s=false:=by simp only[ZL,show ¬(1<=s.length/\s.length<=12)by omega,decide_false,Jb]
 refine ZF func34 rfl ntmps34 results34 ?_;simp only[go_sem,h1,h2,hx];have hn:ZL s=(Jl s.length).all (ZhZ s):=by simp only[ZL,show(1<=s.length/\s.length<=12)by omega,and_self,decide_true,Jg]
 refine ZF func34 rfl ntmps34 results34 ?_;simp only[go_sem,h1,h2];refine Zz (ι:= { k:Nat // k<=s.length/\ ∀j,j<k->ZhZ s j=Ht }) 50 (λx=> [(0,.str s),(15,.int .i64 (s.length:Int)),(16,.int .i64 (x.1:Int))]) (λx=> []) (λx=> []) (λx=>s.length-x.1) ⟨0,by omega,λj hj=>by omega⟩
  ⟨rfl,(Fc3 rfl rfl rfl),fnl,fnl⟩ (λx=>⟨(Fc3 rfl rfl rfl),fnl⟩) (λx=> ?_)
 obtain⟨k,hk,hall⟩:=x;simp only;by_cases h:(k:Int)<(s.length:Int);have hka:k<s.length:=by omega
 have w1:=wk9 (k:=k) (by omega)
 have i1:=Ja k
 cases ho:ZhZ s k;have hx:ZL s=false:=by
  rw[hn,Ju];exact⟨k,by simpa using hka,by simp[ho]⟩
 simp only[ZhZ,Jz,decide_eq_false_iff_not,JO]at ho;by_cases g1:97<=nm s k;have g2:¬nm s k<=122:=by omega
 have g3:48<=nm s k:=by omega
 have g4:¬nm s k<=57:=by omega
 simp only[go_sem,h,i1,WE,g1,g2,g3,g4,hx];by_cases g3:48<=nm s k;by_cases g4:nm s k<=57;have hk0:((k:Int)==0)=true:=by
  rw[beq_iff_eq];rcases ho.2 with h'|h'<;>omega
 simp only[go_sem,h,i1,WE,g1,g3,g4,hk0,hx];simp only[go_sem,h,i1,WE,g1,g3,g4,hx];simp only[go_sem,h,i1,WE,g1,g3,hx];have nx:∀j,j<k+1->ZhZ s j=true:=Zn hall ho;simp only[ZhZ,JN,decide_eq_true_eq,Jy]at ho;by_cases g1:97<=nm s k;have g2:nm s k<=122:=by omega
 have g3:48<=nm s k:=by omega
 have g4:¬nm s k<=57:=by omega
 simp only[go_sem,h,i1,WE,g1,g2,g3,g4,w1];exact⟨⟨k+1,by omega,nx⟩,nx9 (by omega),⟨rfl,(Fc3 rfl rfl rfl),fnl,fnl⟩⟩;have g3:48<=nm s k:=by omega
 have g4:nm s k<=57:=by omega
 have hk0:((k:Int)==0)=false:=beq_eq_false_iff_ne.2 (by omega);simp only[go_sem,h,i1,WE,g1,g3,g4,hk0,w1];exact⟨⟨k+1,by omega,nx⟩,nx9 (by omega),⟨rfl,(Fc3 rfl rfl rfl),fnl,fnl⟩⟩;have hx:ZL s=true:=by
  rw[hn,Jr];intro j hj;exact hall j (by have:=Jv.1 hj;omega)
 simp only[go_sem,h,hx]
def YY (r:Rf):Bool:=(decide (r.sc=0)||decide (r.sc=1))&&(ZL r.nm&&(decide (r.gr= [])||ZL r.gr))
theorem S7 (r:Rf):Pp 103 [ref r] (.bool (YY r)):=by
 have hN:=YA r.nm;have hG:=YA r.gr;by_cases hs:r.sc=0\/r.sc=1;have hs':(decide (r.sc=0)||decide (r.sc=1))=true:=by simpa using hs
 have key:Pp 103 [ref r] (.bool (ZL r.nm&&(decide (r.gr= [])||ZL r.gr))):=by
  cases hn:ZL r.nm;rw[hn]at hN;rcases hs with h0|h1;have q:(r.sc !=0)=false:=by rw[h0];rfl
  refine ZF func103 rfl ntmps103 results103 ?_;simp only[go_sem,ref,q];refine vc1 hN ?_;simp only[go_sem,Jb];have q:(r.sc !=0)=true:=by rw[h1];rfl
  have q1:(r.sc !=1)=false:=by rw[h1];rfl
  refine ZF func103 rfl ntmps103 results103 ?_;simp only[go_sem,ref,q,q1];refine vc1 hN ?_;simp only[go_sem,Jb];rw[hn]at hN;by_cases hg:r.gr= [];have hg':=Zob hg;rcases hs with h0|h1;have q:(r.sc !=0)=false:=by rw[h0];rfl
  refine ZF func103 rfl ntmps103 results103 ?_;simp only[go_sem,ref,q];refine vc1 hN ?_;simp only[go_sem,Jg,hg',decide_eq_true hg];have q:(r.sc !=0)=true:=by rw[h1];rfl
  have q1:(r.sc !=1)=false:=by rw[h1];rfl
  refine ZF func103 rfl ntmps103 results103 ?_;simp only[go_sem,ref,q,q1];refine vc1 hN ?_;simp only[go_sem,Jg,hg',decide_eq_true hg];have hg':=ZlZ hg;rcases hs with h0|h1;have q:(r.sc !=0)=false:=by rw[h0];rfl
  refine ZF func103 rfl ntmps103 results103 ?_;simp only[go_sem,ref,q];refine vc1 hN ?_;simp only[go_sem,hg'];refine vc1 hG ?_;simp only[go_sem,Jg,decide_eq_false hg];have q:(r.sc !=0)=true:=by rw[h1];rfl
  have q1:(r.sc !=1)=false:=by rw[h1];rfl
  refine ZF func103 rfl ntmps103 results103 ?_;simp only[go_sem,ref,q,q1];refine vc1 hN ?_;simp only[go_sem,hg'];refine vc1 hG ?_;simp only[go_sem,Jg,decide_eq_false hg]
 simp only[YY,hs',Jg];exact key;have q:(r.sc !=0)=true:=bne_iff_ne.2 (by omega);have q1:(r.sc !=1)=true:=bne_iff_ne.2 (by omega);have hx:YY r=false:=by
  have:(decide (r.sc=0)||decide (r.sc=1))=false:=by simp;omega
  simp only[YY,this,Jb]
 refine ZF func103 rfl ntmps103 results103 ?_;simp only[go_sem,ref,q,q1,hx]
theorem Sb (s:Str):Pp 104 [.str s] (.bool (decide ((s.length:Int)<=40))):=by
 refine ZF func104 rfl ntmps104 results104 ?_;simp only[go_sem]
open Go.PL
theorem Zd5 (l:List Str):(Xd l).dids= []:=by simp only[Xd,JB,Wo]
open Go.PL
theorem XH (s:Str):Pp 40 [.str s] (.bool (ZL s)):=by
 by_cases h1:(s.length:Int)<1;have hx:ZL s=false:=by simp only[ZL,show ¬(1<=s.length/\s.length<=12)by omega,decide_false,Jb]
 refine ZF func40 rfl ntmps40 results40 ?_;simp only[go_sem,h1,hx];by_cases h2:(12:Int)<(s.length:Int);have hx:ZL s=false:=by simp only[ZL,show ¬(1<=s.length/\s.length<=12)by omega,decide_false,Jb]
 refine ZF func40 rfl ntmps40 results40 ?_;simp only[go_sem,h1,h2,hx];have hn:ZL s=(Jl s.length).all (ZhZ s):=by simp only[ZL,show(1<=s.length/\s.length<=12)by omega,and_self,decide_true,Jg]
 refine ZF func40 rfl ntmps40 results40 ?_;simp only[go_sem,h1,h2];refine Zz (ι:= { k:Nat // k<=s.length/\ ∀j,j<k->ZhZ s j=Ht }) 50 (λx=> [(0,.str s),(3,.int .i64 (x.1:Int))]) (λx=> []) (λx=> []) (λx=>s.length-x.1) ⟨0,by omega,λj hj=>by omega⟩
  ⟨rfl,(Fc2 rfl rfl),fnl,fnl⟩ (λx=>⟨(Fc2 rfl rfl),fnl⟩) (λx=> ?_)
 obtain⟨k,hk,hall⟩:=x;simp only;by_cases h:(k:Int)<(s.length:Int);have hka:k<s.length:=by omega
 have w1:=wk9 (k:=k) (by omega)
 have i1:=Ja k
 cases ho:ZhZ s k;have hx:ZL s=false:=by
  rw[hn,Ju];exact⟨k,by simpa using hka,by simp[ho]⟩
 simp only[ZhZ,Jz,decide_eq_false_iff_not,JO]at ho;by_cases g1:97<=nm s k;have g2:¬nm s k<=122:=by omega
 have g3:48<=nm s k:=by omega
 have g4:¬nm s k<=57:=by omega
 simp only[go_sem,h,i1,WE,g1,g2,g3,g4,hx];by_cases g3:48<=nm s k;by_cases g4:nm s k<=57;have hk0:((k:Int)==0)=true:=by
  rw[beq_iff_eq];rcases ho.2 with h'|h'<;>omega
 simp only[go_sem,h,i1,WE,g1,g3,g4,hk0,hx];simp only[go_sem,h,i1,WE,g1,g3,g4,hx];simp only[go_sem,h,i1,WE,g1,g3,hx];have nx:∀j,j<k+1->ZhZ s j=true:=Zn hall ho;simp only[ZhZ,JN,decide_eq_true_eq,Jy]at ho;by_cases g1:97<=nm s k;have g2:nm s k<=122:=by omega
 have g3:48<=nm s k:=by omega
 have g4:¬nm s k<=57:=by omega
 simp only[go_sem,h,i1,WE,g1,g2,g3,g4,w1];exact⟨⟨k+1,by omega,nx⟩,nx9 (by omega),⟨rfl,(Fc2 rfl rfl),fnl,fnl⟩⟩;have g3:48<=nm s k:=by omega
 have g4:nm s k<=57:=by omega
 have hk0:((k:Int)==0)=false:=beq_eq_false_iff_ne.2 (by omega);simp only[go_sem,h,i1,WE,g1,g3,g4,hk0,w1];exact⟨⟨k+1,by omega,nx⟩,nx9 (by omega),⟨rfl,(Fc2 rfl rfl),fnl,fnl⟩⟩;have hx:ZL s=true:=by
  rw[hn,Jr];intro j hj;exact hall j (by have:=Jv.1 hj;omega)
 simp only[go_sem,h,hx]
theorem Zkk (r:Rf):YY r=(decide (0<=r.sc)&&(decide (r.sc<=1)&&(ZL r.nm&&(decide (r.gr= [])||ZL r.gr)))):=by
 have:(decide (r.sc=0)||decide (r.sc=1))=(decide (0<=r.sc)&&decide (r.sc<=1)):=by
  rw[Je];simp;omega
 rw[YY,this,Bool.and_assoc]
theorem TR (r:Rf):Pp 134 [ref r] (.bool (YY r)):=by
 rw[Zkk];have hN:=XH r.nm;have hG:=XH r.gr;refine ZF func134 rfl ntmps134 results134 ?_;simp only[go_sem,ref];repeat' ((first|(first|apply Zl|apply Zj|apply Zs)<;>intro h|refine vc1 hN ?_|refine vc1 hG ?_|refine vDq ?_)<;>first|simp only[go_sem,h]|simp only[go_sem]|skip)
 all_goals (simp_all)
theorem Sa (l:List Str) (s:Str) (hl:l.length<=maxLen):Pp 95 [Xd l,.str s] (.bool (l.any (· == s))):=by
 refine ZF func95 rfl ntmps95 results95 ?_;simp only[go_sem,Xd];refine Zz (ι:= { k:Nat // k<=l.length/\ ∀j,j<k->(l.getD j []==s)=Hf }) 18 (λx=> [(0,Xd l),(1,.str s),(5,.int .i64 (x.1:Int))]) (λx=> []) (λx=> []) (λx=>l.length-x.1) ⟨0,by omega,λj hj=>by omega⟩
  ⟨rfl,(Fc3 rfl rfl rfl),fnl,fnl⟩ (λx=>⟨(Fc3 rfl rfl rfl),fnl⟩) (λx=> ?_)
 obtain⟨k,hk,hall⟩:=x;simp only;by_cases h:(k:Int)<(l.length:Int);have hka:k<l.length:=by omega
 have w1:=Vt hka hl;have i1:=Ja k
 cases he:(l.getD k []==s);simp only[go_sem,Xd,h,ZY hka,i1,he,w1];exact⟨⟨k+1,by omega,Zn hall he⟩,nx9 (by omega),⟨rfl,(Fc3 rfl rfl rfl),fnl,fnl⟩⟩;have hx:=Uc (p:=(· == s)) hka he;simp only[go_sem,Xd,h,ZY hka,i1,he,hx];have hx:=VQ (p:=(· == s)) (d:= []) (l:=l) (λj hj=>hall j (by omega));simp only[go_sem,Xd,h,hx]
def Vh (a b:Rf):Bool:=if a.sc≠b.sc then decide (a.sc<b.sc)else if a.gr≠b.gr then Yc a.gr b.gr else Yc a.nm b.nm
open Go.PL
attribute [go_sem] Option.map_some Option.map_none Option.isNone_none
theorem Dw (l:List Str) (k:Nat):J5 k (l.map PV.str)=(l.take k).map PV.str:=by rw[J2]
def Vy (l:List Str) (i:Nat):Bool:=ZL (l.getD i [])&& !((l.take i).any (· == l.getD i []))
def Sj (l:List Str):Bool:=(Jl l.length).all (Vy l)
theorem Vz {l:List Str} {k:Nat} (hk:k<l.length) (h:Vy l k=Hf):Sj l=false:=by
 rw[Sj,Ju];exact⟨k,by simpa using hk,by simp[h]⟩
theorem DO {l:List Str} (h:∀j,j<l.length->Vy l j=Ht):Sj l=true:=by
 rw[Sj,Jr];intro j hj;exact h j (Jv.1 hj)
def Zac (f:Fd):Bool:=Sj f.cases'&&(decide ((f.cases'.length:Int)<7)&&f.cases'.any (· == f.df))
def Zil (f:Fd):Bool:= !decide (0<(f.cases'.length:Int))&&((decide (f.kind=2)&&decide ((f.df.length:Int)<41))||(decide (f.kind=4)&&decide (f.df= [])))
def Yi (f:Fd):Bool:=
 YY f.at'&&(if f.kind=1 then decide (f.df= [])&&(decide ((f.cases'.length:Int)=0)&&(decide (0<f.worth)&&decide (f.worth<1048577)))
  else decide (f.worth=0)&&(if f.kind=3 then Zac f else Zil f))
theorem ZeD (f:Fd) (hl:f.cases'.length<=maxLen):Pp 94 [fld f] (.bool (Yi f)):=by
 have hP:=TR f.at';by_cases h3:f.kind=3;have k1:(f.kind==1)=false:=by rw[h3];rfl
 have k3:(f.kind==3)=true:=by rw[h3];rfl
 cases hp:YY f.at';rw[hp]at hP;refine ZF func94 rfl ntmps94 results94 ?_;simp only[go_sem,fld];refine vc1 hP ?_;simp only[go_sem,Yi,hp,Jb];rw[hp]at hP;by_cases hw:f.worth=0;have hw':(f.worth !=0)=false:=by rw[hw];rfl
 have hx:Yi f=Zac f:=by
  simp only[Yi,hp,h3,hw,Jg,decide_true,if_true];rfl
 rw[hx];refine ZF func94 rfl ntmps94 results94 ?_;simp only[go_sem,fld];refine vc1 hP ?_;simp only[go_sem,k1,k3,hw'];refine Zz (ι:= { k:Nat // k<=f.cases'.length/\ ∀j,j<k->Vy f.cases' j=Ht }) 96 (λx=> [(1,.ptr 1 0),(3,.int .i64 (x.1:Int))]) (λx=> [(1,[.int .i64 f.at'.sc,.str f.at'.gr,.str f.at'.nm,.int .i64 f.kind,.str f.df,.sl .no (f.cases'.map .str),.int .i64 f.worth],Hf)]) (λx=> []) (λx=>f.cases'.length-x.1) ⟨0,by omega,λj hj=>by omega⟩
  ⟨rfl,(Fc2 rfl rfl),fcs ⟨rfl,rfl⟩ fnl,fnl⟩ (λx=>⟨(Fc2 rfl rfl),(fcs rfl fnl)⟩) (λx=> ?_)
 obtain⟨k,hk,hall⟩:=x;simp only;by_cases h:(k:Int)<(f.cases'.length:Int);have hka:k<f.cases'.length:=by omega
 have w1:=Vt hka hl;have i1:=Ja k
 have i2:(k:Int)<=(f.cases'.length:Int):=by omega
 have hN:=XH (f.cases'.getD k []);have hT:(f.cases'.take k).length<=maxLen:=by rw[Jk];omega
 have hH:=Sa (f.cases'.take k) (f.cases'.getD k []) hT;cases hn:ZL (f.cases'.getD k []);rw[hn]at hN;have hz:Zac f=false:=by simp only[Zac,Vz hka (by simp only[Vy,hn,Jb]),Jb]
 simp only[go_sem,h,i1];refine vDq ?_;simp only[go_sem,ZY hka,h,i1];refine vc1 hN ?_;simp only[go_sem,hz];rw[hn]at hN;cases hh:(f.cases'.take k).any (· == f.cases'.getD k []);rw[hh]at hH;have ok:Vy f.cases' k=true:=by simp only[Vy,hn,hh,Jw,Jt]
 simp only[go_sem,h,i1];refine vDq ?_;simp only[go_sem,ZY hka,h,i1];refine vc1 hN ?_;simp only[go_sem,ZY hka,h,i1,i2,cut,Jn,Dw,Y4];refine vc1 hH ?_;simp only[go_sem,w1];exact⟨⟨k+1,by omega,Zn hall ok⟩,nx9 (by omega),⟨rfl,(Fc2 rfl rfl),fcs ⟨rfl,rfl⟩ fnl,fnl⟩⟩;rw[hh]at hH;have hz:Zac f=false:=by simp only[Zac,Vz hka (by simp only[Vy,hn,hh,JL,Jm]),Jb]
 simp only[go_sem,h,i1];refine vDq ?_;simp only[go_sem,ZY hka,h,i1];refine vc1 hN ?_;simp only[go_sem,ZY hka,h,i1,i2,cut,Jn,Dw,Y4];refine vc1 hH ?_;simp only[go_sem,hz];have hc:=DO (l:=f.cases') (λj hj=>hall j (by omega));have hH:=Sa f.cases' f.df hl;by_cases h7:(f.cases'.length:Int)<7;simp only[go_sem,h,h7];refine vc1 hH ?_;simp only[go_sem,Zac,hc,h7,Jg];simp only[go_sem,h,h7,Zac,hc,Jg,Jb];have hw':(f.worth !=0)=true:=bne_iff_ne.2 hw;have hx:Yi f=false:=by
  simp only[Yi,hp,h3,hw,Jg,decide_false,Jb];rfl
 refine ZF func94 rfl ntmps94 results94 ?_;simp only[go_sem,fld];refine vc1 hP ?_;simp only[go_sem,k1,k3,hw',hx];have k3:(f.kind==3)=false:=beq_eq_false_iff_ne.2 h3;have hx:Yi f=(YY f.at'&&(if f.kind=1 then decide (f.df= [])&&(decide ((f.cases'.length:Int)=0)&&(decide (0<f.worth)&&decide (f.worth<1048577)))else decide (f.worth=0)&&Zil f)):=by
  simp only[Yi,h3,if_false]
 rw[hx];refine ZF func94 rfl ntmps94 results94 ?_;simp only[go_sem,fld];refine vc1 hP ?_;simp only[go_sem];repeat' ((first|(first|apply Zl|apply Zj|apply Zs)<;>intro h|refine vDq ?_)<;>first|simp only[go_sem,h,k3]|simp only[go_sem,k3]|skip)
 all_goals (simp_all[Zil])
 all_goals (cases f.df<;>simp)
def Da (f:Fd) (s:Str):Bool:=(Yi f&& !decide (f.kind=1))&&(if f.kind=3 then f.cases'.any (· == s)else decide ((s.length:Int)<41))
open Go.PL
theorem Yb {p:Nat->Bool} {n k:Nat} (hk:k<n) (h:p k=Hf):(Jl n).all p=false:=by
 rw[Ju];exact⟨k,by simpa using hk,by simp[h]⟩
theorem U2 {p:Nat->Bool} {n:Nat} (h:∀j,j<n->p j=Ht):(Jl n).all p=true:=by
 rw[Jr];intro j hj;exact h j (Jv.1 hj)
open Go.PL
def So (l:List Fd) (i:Nat):Bool:=Yi (l.getD i Jd)&&(decide (i=0)||Vh (l.getD (i-1) Jd).at' (l.getD i Jd).at')
def Yj (l:List Fd):Bool:= !decide (16<(l.length:Int))&&(Jl l.length).all (So l)
def U7 (l:List Fd) (sc:Int):List Fd:=l.filter λf=>f.at'.sc==sc
open Go.PL
structure Pr where
 fr':Str
 to':Str
 deriving DecidableEq,Inhabited
structure Ln where
 kind:Int
 at':Rf
 nm:Str
 ot:Str
 fac:Int
 fd:Fd
 fo:List Pr
 ba:List Pr
 deriving DecidableEq,Inhabited
structure Tg where
 r:Int
 n:Int
 deriving DecidableEq,Inhabited
structure Eg where
 id:Tg
 par:Tg
 ln:Ln
 deriving DecidableEq,Inhabited
structure Lg where
 id:Tg
 down:Bool
 deriving DecidableEq,Inhabited
def pr (p:Pr):PV:= .agg [.str p.fr',.str p.to']
def prs (l:List Pr):PV:= .sl .no (l.map pr)
def refs (l:List Rf):PV:= .sl .no (l.map ref)
def lns (x:Ln):PV:= .agg [.int .i64 x.kind,.int .i64 x.at'.sc,.str x.at'.gr,.str x.at'.nm,.str x.nm,.str x.ot,.int .i64 x.fac,.int .i64 x.fd.at'.sc,.str x.fd.at'.gr,.str x.fd.at'.nm,.int .i64 x.fd.kind,.str x.fd.df,.sl .no (x.fd.cases'.map .str),.int .i64 x.fd.worth,.sl .no (x.fo.map pr),.sl .no (x.ba.map pr)]
def tg (t:Tg):PV:= .agg [.int .i64 t.r,.int .i64 t.n]
def tgs (l:List Tg):PV:= .sl .no (l.map tg)
def lg (t:Lg):PV:= .agg [.int .i64 t.id.r,.int .i64 t.id.n,.bool t.down]
def lgs (l:List Lg):PV:= .sl .no (l.map lg)
def eg (e:Eg):PV:= .agg [.int .i64 e.id.r,.int .i64 e.id.n,.int .i64 e.par.r,.int .i64 e.par.n,.int .i64 e.ln.kind,.int .i64 e.ln.at'.sc,.str e.ln.at'.gr,.str e.ln.at'.nm,.str e.ln.nm,.str e.ln.ot,.int .i64 e.ln.fac,.int .i64 e.ln.fd.at'.sc,.str e.ln.fd.at'.gr,.str e.ln.fd.at'.nm,.int .i64 e.ln.fd.kind,.str e.ln.fd.df,.sl .no (e.ln.fd.cases'.map .str),.int .i64 e.ln.fd.worth,.sl .no (e.ln.fo.map pr),.sl .no (e.ln.ba.map pr)]
def egs (l:List Eg):PV:= .sl .no (l.map eg)
theorem vc3 {x:Bool} {M:KH} {g:FuncId} {args args':List PV} {K:KR} {r:PV} (h1:Pp g args' r) (h2:K.k r M.m) (h0:PV.givableL M.m args:=by first|(simp only[go_sem,ref,ent,UM,doc,Xd,row,Zp,fld,lns,tg,refs,prs,pr,eg,egs,tgs,lg,lgs];done)|exact rfl) (he:PV.giveL M.m args=args':=by first|(simp only[go_sem,ref,ent,UM,doc,Xd,row,Zp,fld,lns,tg,refs,prs,pr,eg,egs,tgs,lg,lgs];done)|exact rfl):@Vr prog x M (Hs (g,args)) K:=Zk h1 h0 he h2
theorem WM {α:Type} {enc:α->PV} {l:List α} {i:Nat} {d:α} (h:i<l.length):(l.map enc).getD i .any=enc (l.getD i d):=by
 simp[Ji,h]
theorem ZZ {l:List Pr} {i:Nat} (h:i<l.length):(l.map pr).getD i .any=pr (l.getD i Jd):=WM h
theorem Xw {l:List Rf} {i:Nat} (h:i<l.length):(l.map ref).getD i .any=ref (l.getD i Jd):=WM h
theorem ZK {l:List Tg} {i:Nat} (h:i<l.length):(l.map tg).getD i .any=tg (l.getD i Jd):=WM h
theorem Zoo {l:List Lg} {i:Nat} (h:i<l.length):(l.map lg).getD i .any=lg (l.getD i Jd):=WM h
theorem US {l:List Eg} {i:Nat} (h:i<l.length):(l.map eg).getD i .any=eg (l.getD i Jd):=WM h
theorem ZbZ (a b:Pr):(a.fr'==b.fr'&&a.to'==b.to')=decide (a=b):=by
 cases a;cases b;rw[Je];simp
theorem ZB (a b:Tg):(a.r==b.r&&a.n==b.n)=decide (a=b):=by
 cases a;cases b;rw[Je];simp
theorem Zhb (a b:List Str) (ha:a.length<=maxLen) (hb:b.length<=maxLen):Pp 222 [Xd a,Xd b] (.bool (decide (a=b))):=by
 by_cases hl:a.length=b.length;have hl':((a.length:Int) !=(b.length:Int))=false:=by rw[hl];exact bne_self_eq_false _
 refine ZF func222 rfl ntmps222 results222 ?_;simp only[go_sem,Xd,hl'];refine Zz (ι:= { x:Nat // x<=(a).length/\(∀j,j<x->a.getD j []=b.getD j []) }) 26 (λx=> [(0,Xd a),(1,Xd b),(12,.int .i64 (a.length:Int)),(13,.int .i64 (x.1:Int))]) (λx=> []) (λx=> []) (λx=>(a).length-x.1) ⟨0,Jc _,λj hj=>absurd hj (Jf j)⟩ ⟨rfl,(Fc4 rfl rfl rfl rfl),fnl,fnl⟩ (λx=>⟨(Fc4 rfl rfl rfl rfl),fnl⟩) (λx=> ?_);obtain⟨k,hk,hI⟩:=x;simp only at hk hI ⊢;by_cases h:(k:Int)<(a.length:Int)
 (have hka:k<(a).length:=by omega);(have w1:=Vt hka (ha));(have i1:=Ja k)
 have hkb:k<b.length:=by omega
 have i2:(k:Int)<(b.length:Int):=by omega
 by_cases he:a.getD k []=b.getD k []
 ·have he':(a.getD k []==b.getD k [])=true:=beq_iff_eq.2 he;simp only[go_sem,Xd,h];refine vDq ?_;simp only[go_sem,ZY hka,ZY hkb,h,i1,i2,he',w1];exact⟨⟨k+1,by(try simp only);omega,Zn hI he⟩,by show(a).length-(k+1)<(a).length-k;omega,⟨rfl,(Fc4 rfl rfl rfl rfl),fnl,fnl⟩⟩
 have he':(a.getD k []==b.getD k [])=false:=beq_eq_false_iff_ne.2 he;have hab:¬a=b:=WU he;simp only[go_sem,Xd,h];refine vDq ?_;simp only[go_sem,ZY hka,ZY hkb,h,i1,i2,he',hab];have hab:decide (a=b)=true:=decide_eq_true (XJ (d:= []) hl λj hj=>hI j (by omega));simp only[go_sem,Xd,h,hab];have hl':((a.length:Int) !=(b.length:Int))=true:=bne_iff_ne.2 (by omega);have hab:¬a=b:=λe=>hl (by rw[e])
 refine ZF func222 rfl ntmps222 results222 ?_;simp only[go_sem,Xd,hl',hab]
theorem ZiG (a b:List Tg) (ha:a.length<=maxLen) (hb:b.length<=maxLen):Pp 109 [tgs a,tgs b] (.bool (decide (a=b))):=by
 by_cases hl:a.length=b.length;have hl':((a.length:Int) !=(b.length:Int))=false:=by rw[hl];exact bne_self_eq_false _
 refine ZF func109 rfl ntmps109 results109 ?_;simp only[go_sem,tgs,hl'];refine Zz (ι:= { x:Nat // x<=(a).length/\(∀j,j<x->a.getD j Jd=b.getD j Jd) }) 26 (λx=> [(0,tgs a),(1,tgs b),(12,.int .i64 (a.length:Int)),(13,.int .i64 (x.1:Int))]) (λx=> []) (λx=> []) (λx=>(a).length-x.1) ⟨0,Jc _,λj hj=>absurd hj (Jf j)⟩ ⟨rfl,(Fc4 rfl rfl rfl rfl),fnl,fnl⟩ (λx=>⟨(Fc4 rfl rfl rfl rfl),fnl⟩) (λx=> ?_);obtain⟨k,hk,hI⟩:=x;simp only at hk hI ⊢;by_cases h:(k:Int)<(a.length:Int)
 (have hka:k<(a).length:=by omega);(have w1:=Vt hka (ha));(have i1:=Ja k)
 have hkb:k<b.length:=by omega
 have i2:(k:Int)<(b.length:Int):=by omega
 by_cases he:a.getD k Jd=b.getD k Jd
 ·have he':decide (a.getD k Jd=b.getD k Jd)=true:=decide_eq_true he;simp only[go_sem,tgs,h];refine vDq ?_;simp only[go_sem,ZK hka,ZK hkb,h,i1,i2,tg,ZB,he',w1];exact⟨⟨k+1,by(try simp only);omega,Zn hI he⟩,by show(a).length-(k+1)<(a).length-k;omega,⟨rfl,(Fc4 rfl rfl rfl rfl),fnl,fnl⟩⟩
 have he':decide (a.getD k Jd=b.getD k Jd)=false:=decide_eq_false he;have hab:¬a=b:=WU he;simp only[go_sem,tgs,h];refine vDq ?_;simp only[go_sem,ZK hka,ZK hkb,h,i1,i2,tg,ZB,he',hab];have hab:decide (a=b)=true:=decide_eq_true (XJ (d:=Jd) hl λj hj=>hI j (by omega));simp only[go_sem,tgs,h,hab];have hl':((a.length:Int) !=(b.length:Int))=true:=bne_iff_ne.2 (by omega);have hab:¬a=b:=λe=>hl (by rw[e])
 refine ZF func109 rfl ntmps109 results109 ?_;simp only[go_sem,tgs,hl',hab]
theorem Zcz (a b:List Pr) (ha:a.length<=maxLen) (hb:b.length<=maxLen):Pp 176 [prs a,prs b] (.bool (decide (a=b))):=by
 by_cases hl:a.length=b.length;have hl':((a.length:Int) !=(b.length:Int))=false:=by rw[hl];exact bne_self_eq_false _
 refine ZF func176 rfl ntmps176 results176 ?_;simp only[go_sem,prs,hl'];refine Zz (ι:= { x:Nat // x<=(a).length/\(∀j,j<x->a.getD j Jd=b.getD j Jd) }) 26 (λx=> [(0,prs a),(1,prs b),(12,.int .i64 (a.length:Int)),(13,.int .i64 (x.1:Int))]) (λx=> []) (λx=> []) (λx=>(a).length-x.1) ⟨0,Jc _,λj hj=>absurd hj (Jf j)⟩ ⟨rfl,(Fc4 rfl rfl rfl rfl),fnl,fnl⟩ (λx=>⟨(Fc4 rfl rfl rfl rfl),fnl⟩) (λx=> ?_);obtain⟨k,hk,hI⟩:=x;simp only at hk hI ⊢;by_cases h:(k:Int)<(a.length:Int)
 (have hka:k<(a).length:=by omega);(have w1:=Vt hka (ha));(have i1:=Ja k)
 have hkb:k<b.length:=by omega
 have i2:(k:Int)<(b.length:Int):=by omega
 by_cases he:a.getD k Jd=b.getD k Jd
 ·have he':decide (a.getD k Jd=b.getD k Jd)=true:=decide_eq_true he;simp only[go_sem,prs,h];refine vDq ?_;simp only[go_sem,ZZ hka,ZZ hkb,h,i1,i2,pr,ZbZ,he',w1];exact⟨⟨k+1,by(try simp only);omega,Zn hI he⟩,by show(a).length-(k+1)<(a).length-k;omega,⟨rfl,(Fc4 rfl rfl rfl rfl),fnl,fnl⟩⟩
 have he':decide (a.getD k Jd=b.getD k Jd)=false:=decide_eq_false he;have hab:¬a=b:=WU he;simp only[go_sem,prs,h];refine vDq ?_;simp only[go_sem,ZZ hka,ZZ hkb,h,i1,i2,pr,ZbZ,he',hab];have hab:decide (a=b)=true:=decide_eq_true (XJ (d:=Jd) hl λj hj=>hI j (by omega));simp only[go_sem,prs,h,hab];have hl':((a.length:Int) !=(b.length:Int))=true:=bne_iff_ne.2 (by omega);have hab:¬a=b:=λe=>hl (by rw[e])
 refine ZF func176 rfl ntmps176 results176 ?_;simp only[go_sem,prs,hl',hab]
theorem Zat (a b:List Pr) (ha:a.length<=maxLen) (hb:b.length<=maxLen):Pp 171 [prs a,prs b] (.bool (decide (a=b))):=by
 by_cases hl:a.length=b.length;have hl':((a.length:Int) !=(b.length:Int))=false:=by rw[hl];exact bne_self_eq_false _
 refine ZF func171 rfl ntmps171 results171 ?_;simp only[go_sem,prs,hl'];refine Zz (ι:= { x:Nat // x<=(a).length/\(∀j,j<x->a.getD j Jd=b.getD j Jd) }) 26 (λx=> [(0,prs a),(1,prs b),(5,.int .i64 (x.1:Int))]) (λx=> []) (λx=> []) (λx=>(a).length-x.1) ⟨0,Jc _,λj hj=>absurd hj (Jf j)⟩ ⟨rfl,(Fc3 rfl rfl rfl),fnl,fnl⟩ (λx=>⟨(Fc3 rfl rfl rfl),fnl⟩) (λx=> ?_);obtain⟨k,hk,hI⟩:=x;simp only at hk hI ⊢;by_cases h:(k:Int)<(a.length:Int)
 (have hka:k<(a).length:=by omega);(have w1:=Vt hka (ha));(have i1:=Ja k)
 have hkb:k<b.length:=by omega
 have i2:(k:Int)<(b.length:Int):=by omega
 by_cases he:a.getD k Jd=b.getD k Jd
 ·have he':decide (a.getD k Jd=b.getD k Jd)=true:=decide_eq_true he;simp only[go_sem,prs,h];refine vDq ?_;simp only[go_sem,ZZ hka,ZZ hkb,h,i1,i2,pr,ZbZ,he',w1];exact⟨⟨k+1,by(try simp only);omega,Zn hI he⟩,by show(a).length-(k+1)<(a).length-k;omega,⟨rfl,(Fc3 rfl rfl rfl),fnl,fnl⟩⟩
 have he':decide (a.getD k Jd=b.getD k Jd)=false:=decide_eq_false he;have hab:¬a=b:=WU he;simp only[go_sem,prs,h];refine vDq ?_;simp only[go_sem,ZZ hka,ZZ hkb,h,i1,i2,pr,ZbZ,he',hab];have hab:decide (a=b)=true:=decide_eq_true (XJ (d:=Jd) hl λj hj=>hI j (by omega));simp only[go_sem,prs,h,hab];have hl':((a.length:Int) !=(b.length:Int))=true:=bne_iff_ne.2 (by omega);have hab:¬a=b:=λe=>hl (by rw[e])
 refine ZF func171 rfl ntmps171 results171 ?_;simp only[go_sem,prs,hl',hab]
theorem Zhh (a b:List Tg) (ha:a.length<=maxLen) (hb:b.length<=maxLen):Pp 50 [tgs a,tgs b] (.bool (decide (a=b))):=by
 by_cases hl:a.length=b.length;have hl':((a.length:Int) !=(b.length:Int))=false:=by rw[hl];exact bne_self_eq_false _
 refine ZF func50 rfl ntmps50 results50 ?_;simp only[go_sem,tgs,hl'];refine Zz (ι:= { x:Nat // x<=(a).length/\(∀j,j<x->a.getD j Jd=b.getD j Jd) }) 26 (λx=> [(0,tgs a),(1,tgs b),(5,.int .i64 (x.1:Int))]) (λx=> []) (λx=> []) (λx=>(a).length-x.1) ⟨0,Jc _,λj hj=>absurd hj (Jf j)⟩ ⟨rfl,(Fc3 rfl rfl rfl),fnl,fnl⟩ (λx=>⟨(Fc3 rfl rfl rfl),fnl⟩) (λx=> ?_);obtain⟨k,hk,hI⟩:=x;simp only at hk hI ⊢;by_cases h:(k:Int)<(a.length:Int)
 (have hka:k<(a).length:=by omega);(have w1:=Vt hka (ha));(have i1:=Ja k)
 have hkb:k<b.length:=by omega
 have i2:(k:Int)<(b.length:Int):=by omega
 by_cases he:a.getD k Jd=b.getD k Jd
 ·have he':decide (a.getD k Jd=b.getD k Jd)=true:=decide_eq_true he;simp only[go_sem,tgs,h];refine vDq ?_;simp only[go_sem,ZK hka,ZK hkb,h,i1,i2,tg,ZB,he',w1];exact⟨⟨k+1,by(try simp only);omega,Zn hI he⟩,by show(a).length-(k+1)<(a).length-k;omega,⟨rfl,(Fc3 rfl rfl rfl),fnl,fnl⟩⟩
 have he':decide (a.getD k Jd=b.getD k Jd)=false:=decide_eq_false he;have hab:¬a=b:=WU he;simp only[go_sem,tgs,h];refine vDq ?_;simp only[go_sem,ZK hka,ZK hkb,h,i1,i2,tg,ZB,he',hab];have hab:decide (a=b)=true:=decide_eq_true (XJ (d:=Jd) hl λj hj=>hI j (by omega));simp only[go_sem,tgs,h,hab];have hl':((a.length:Int) !=(b.length:Int))=true:=bne_iff_ne.2 (by omega);have hab:¬a=b:=λe=>hl (by rw[e])
 refine ZF func50 rfl ntmps50 results50 ?_;simp only[go_sem,tgs,hl',hab]
theorem Zeu (l:List Str) (s:Str) (hl:l.length<=maxLen):Pp 151 [Xd l,.str s] (.int .i64 (idx (λx=>s==x) l)):=by
 refine ZF func151 rfl ntmps151 results151 ?_;simp only[go_sem,Xd];refine Zz (ι:= { x:Nat // x<=(l).length/\(∀j,j<x->(λx=>s==x) (l.getD j [])=Hf) }) 19 (λx=> [(0,Xd l),(1,.str s),(7,.int .i64 (l.length:Int)),(8,.int .i64 (x.1:Int))]) (λx=> []) (λx=> []) (λx=>(l).length-x.1) ⟨0,Jc _,λj hj=>absurd hj (Jf j)⟩ ⟨rfl,(Fc4 rfl rfl rfl rfl),fnl,fnl⟩ (λx=>⟨(Fc4 rfl rfl rfl rfl),fnl⟩) (λx=> ?_);obtain⟨k,hk,hI⟩:=x;simp only at hk hI ⊢;by_cases h:(k:Int)<(l.length:Int)
 (have hka:k<(l).length:=by omega);(have w1:=Vt hka (hl));(have i1:=Ja k)
 cases he:(λx=>s==x) (l.getD k [])
 ·have he0:=he;simp only at he;simp only[go_sem,Xd,h];simp only[go_sem,ZY hka,h,i1,he,w1];exact⟨⟨k+1,by(try simp only);omega,Zn hI he0⟩,by show(l).length-(k+1)<(l).length-k;omega,⟨rfl,(Fc4 rfl rfl rfl rfl),fnl,fnl⟩⟩
 have hx:=VY (p:=λx=>s==x) hka hI he;simp only at he;simp only[go_sem,Xd,h];simp only[go_sem,ZY hka,h,i1,he,hx];have hx:=Su (p:=λx=>s==x) (d:= []) (l:=l) (λj hj=>hI j (by omega));simp only[go_sem,Xd,h,hx]
theorem Zet (l:List Rf) (r:Rf) (hl:l.length<=maxLen):Pp 269 [refs l,ref r] (.int .i64 (idx (λx=>decide (r=x)) l)):=by
 refine ZF func269 rfl ntmps269 results269 ?_;simp only[go_sem,refs,ref];refine Zz (ι:= { x:Nat // x<=(l).length/\(∀j,j<x->(λx=>decide (r=x)) (l.getD j Jd)=Hf) }) 19 (λx=> [(0,refs l),(3,.ptr 3 0),(7,.int .i64 (l.length:Int)),(8,.int .i64 (x.1:Int))]) (λx=> [(3,[.int .i64 r.sc,.str r.gr,.str r.nm],Hf)]) (λx=> []) (λx=>(l).length-x.1) ⟨0,Jc _,λj hj=>absurd hj (Jf j)⟩ ⟨rfl,(Fc4 rfl rfl rfl rfl),(fcs ⟨rfl,rfl⟩ fnl),fnl⟩ (λx=>⟨(Fc4 rfl rfl rfl rfl),(fcs rfl fnl)⟩) (λx=> ?_);obtain⟨k,hk,hI⟩:=x;simp only at hk hI ⊢;by_cases h:(k:Int)<(l.length:Int)
 (have hka:k<(l).length:=by omega);(have w1:=Vt hka (hl));(have i1:=Ja k)
 cases he:(λx=>decide (r=x)) (l.getD k Jd)
 ·have he0:=he;simp only at he;simp only[go_sem,refs,h];refine vDq ?_;simp only[go_sem,Xw hka,h,i1,ref,ZD,he,w1];exact⟨⟨k+1,by(try simp only);omega,Zn hI he0⟩,by show(l).length-(k+1)<(l).length-k;omega,⟨rfl,(Fc4 rfl rfl rfl rfl),(fcs ⟨rfl,rfl⟩ fnl),fnl⟩⟩
 have hx:=VY (p:=λx=>decide (r=x)) hka hI he;simp only at he;simp only[go_sem,refs,h];refine vDq ?_;simp only[go_sem,Xw hka,h,i1,ref,ZD,he,hx];have hx:=Su (p:=λx=>decide (r=x)) (d:=Jd) (l:=l) (λj hj=>hI j (by omega));simp only[go_sem,refs,h,hx]
theorem S5 (l:List Fd) (r:Rf) (hl:l.length<=maxLen):Pp 106 [Zp l,ref r] (.int .i64 (idx (λx=>decide (x.at'=r)) l)):=by
 refine ZF func106 rfl ntmps106 results106 ?_;simp only[go_sem,Zp,ref];refine Zz (ι:= { x:Nat // x<=(l).length/\(∀j,j<x->(λx=>decide (x.at'=r)) (l.getD j Jd)=Hf) }) 20 (λx=> [(3,.ptr 3 0),(7,Zp l),(8,.int .i64 (l.length:Int)),(9,.int .i64 (x.1:Int))]) (λx=> [(3,[.int .i64 r.sc,.str r.gr,.str r.nm],Hf)]) (λx=> []) (λx=>(l).length-x.1) ⟨0,Jc _,λj hj=>absurd hj (Jf j)⟩ ⟨rfl,(Fc4 rfl rfl rfl rfl),(fcs ⟨rfl,rfl⟩ fnl),fnl⟩ (λx=>⟨(Fc4 rfl rfl rfl rfl),(fcs rfl fnl)⟩) (λx=> ?_);obtain⟨k,hk,hI⟩:=x;simp only at hk hI ⊢;by_cases h:(k:Int)<(l.length:Int)
 (have hka:k<(l).length:=by omega);(have w1:=Vt hka (hl));(have i1:=Ja k)
 cases he:(λx=>decide (x.at'=r)) (l.getD k Jd)
 ·have he0:=he;simp only at he;simp only[go_sem,Zp,h];simp only[go_sem,ZX hka,h,i1,fld,ZD,he,w1];exact⟨⟨k+1,by(try simp only);omega,Zn hI he0⟩,by show(l).length-(k+1)<(l).length-k;omega,⟨rfl,(Fc4 rfl rfl rfl rfl),(fcs ⟨rfl,rfl⟩ fnl),fnl⟩⟩
 have hx:=VY (p:=λx=>decide (x.at'=r)) hka hI he;simp only at he;simp only[go_sem,Zp,h];simp only[go_sem,ZX hka,h,i1,fld,ZD,he,hx];have hx:=Su (p:=λx=>decide (x.at'=r)) (d:=Jd) (l:=l) (λj hj=>hI j (by omega));simp only[go_sem,Zp,h,hx]
theorem ZiM (l:List Eg) (t:Tg) (hl:l.length<=maxLen):Pp 77 [egs l,tg t] (.int .i64 (idx (λx=>decide (x.id=t)) l)):=by
 refine ZF func77 rfl ntmps77 results77 ?_;simp only[go_sem,egs,tg];refine Zz (ι:= { x:Nat // x<=(l).length/\(∀j,j<x->(λx=>decide (x.id=t)) (l.getD j Jd)=Hf) }) 20 (λx=> [(0,egs l),(3,.ptr 3 0),(5,.int .i64 (x.1:Int))]) (λx=> [(3,[.int .i64 t.r,.int .i64 t.n],Hf)]) (λx=> []) (λx=>(l).length-x.1) ⟨0,Jc _,λj hj=>absurd hj (Jf j)⟩ ⟨rfl,(Fc3 rfl rfl rfl),(fcs ⟨rfl,rfl⟩ fnl),fnl⟩ (λx=>⟨(Fc3 rfl rfl rfl),(fcs rfl fnl)⟩) (λx=> ?_);obtain⟨k,hk,hI⟩:=x;simp only at hk hI ⊢;by_cases h:(k:Int)<(l.length:Int)
 (have hka:k<(l).length:=by omega);(have w1:=Vt hka (hl));(have i1:=Ja k)
 cases he:(λx=>decide (x.id=t)) (l.getD k Jd)
 ·have he0:=he;simp only at he;simp only[go_sem,egs,h];refine vDq ?_;simp only[go_sem,US hka,h,i1,eg,ZB,he,w1];exact⟨⟨k+1,by(try simp only);omega,Zn hI he0⟩,by show(l).length-(k+1)<(l).length-k;omega,⟨rfl,(Fc3 rfl rfl rfl),(fcs ⟨rfl,rfl⟩ fnl),fnl⟩⟩
 have hx:=VY (p:=λx=>decide (x.id=t)) hka hI he;simp only at he;simp only[go_sem,egs,h];refine vDq ?_;simp only[go_sem,US hka,h,i1,eg,ZB,he,hx];have hx:=Su (p:=λx=>decide (x.id=t)) (d:=Jd) (l:=l) (λj hj=>hI j (by omega));simp only[go_sem,egs,h,hx]
open Go.PL
theorem Zgi (f:Fd):(fld f).dids= []:=by simp only[fld,JB,Jp,Wo,Jh]
theorem ZjI {α:Type} (p:α->Bool) (l:List α):decide ((0:Int)<=idx p l)=l.any p:=by
 unfold idx;cases h:l.findIdx? p with
 |none=>
  have:l.any p=false:=by
   rw[JX];intro x hx;have:=List.findIdx?_eq_none_iff.1 h x hx;simp[this]
  rw[this];rfl
 |some i=>
  rw[List.findIdx?_eq_some_iff_getElem]at h;obtain⟨hi,hp,_⟩:=h;have:l.any p=true:=JM.2 ⟨_,List.getElem_mem hi,hp⟩;rw[this];exact decide_eq_true (show(0:Int)<=(i:Int)by omega)
theorem ZlN (l:List Str) (s:Str):l.any (λx=>s==x)=l.any (· == s):=by
 congr 1;funext x;rw[Je];simp only[beq_iff_eq];exact eq_comm
theorem YV {n b:Nat} (hn:n<=1000000) (hb:b<=1000):Zhj n b:=Xb (by omega) hb
theorem XS (f:Fd) (hf:f.cases'.length<=1000000):Pp 100 [fld f] (fld f):=by
 have hr:=YV hf (show 16<=1000 by omega);refine ZM func100 rfl ntmps100 results100 (Zgi _) ?_;simp only[go_sem,fld,Y4,Zi2,hr]
theorem ZcD (a b:Rf):Pp 223 [ref a,ref b] (.bool (Vh a b)):=by
 refine ZF func223 rfl ntmps223 results223 ?_;simp only[go_sem,ref];repeat' ((first|(first|apply Zl|apply Zj|apply Zs)<;>intro h|refine vDq ?_)<;>first|simp only[go_sem,h]|simp only[go_sem]|skip)
 all_goals (simp_all[Vh])
theorem TQ (l:List Str) (s:Str) (hl:l.length<=maxLen):Pp 108 [Xd l,.str s] (.bool (l.any (· == s))):=by
 have hI:=Zeu l s hl;refine ZF func108 rfl ntmps108 results108 ?_;simp only[go_sem,Xd];refine vc1 hI ?_;simp only[go_sem,ZjI,ZlN]
def Sk (l:List Str):Bool:=decide (1<=l.length/\l.length<=6)&&Sj l
theorem Zha (l:List Str):Pp 150 [Xd l] (.bool (Sk l)):=by
 by_cases h1:(l.length:Int)<1;have hx:Sk l=false:=by simp only[Sk,show ¬(1<=l.length/\l.length<=6)by omega,decide_false,Jb]
 refine ZF func150 rfl ntmps150 results150 ?_;simp only[go_sem,Xd,h1,hx];by_cases h2:(6:Int)<(l.length:Int);have hx:Sk l=false:=by simp only[Sk,show ¬(1<=l.length/\l.length<=6)by omega,decide_false,Jb]
 refine ZF func150 rfl ntmps150 results150 ?_;simp only[go_sem,Xd,h1,h2,hx];have hm:l.length<=maxLen:=by rw[Zd];omega
 have hx:Sk l=Sj l:=by simp only[Sk,show(1<=l.length/\l.length<=6)by omega,and_self,decide_true,Jg]
 rw[hx];refine ZF func150 rfl ntmps150 results150 ?_;simp only[go_sem,Xd,h1,h2];refine Zz (ι:= { x:Nat // x<=(l).length/\(∀j,j<x->Vy l j=Ht) }) 31 (λx=> [(0,Xd l),(13,Xd l),(14,.int .i64 (l.length:Int)),(15,.int .i64 (x.1:Int))]) (λx=> []) (λx=> []) (λx=>(l).length-x.1) ⟨0,Jc _,λj hj=>absurd hj (Jf j)⟩ ⟨rfl,(Fc4 rfl rfl rfl rfl),fnl,fnl⟩ (λx=>⟨(Fc4 rfl rfl rfl rfl),fnl⟩) (λx=> ?_);obtain⟨k,hk,hI⟩:=x;simp only at hk hI ⊢;by_cases h:(k:Int)<(l.length:Int)
 (have hka:k<(l).length:=by omega);(have w1:=Vt hka (hm));(have i1:=Ja k)
 have i2:(k:Int)<=(l.length:Int):=by omega
 have hN:=YA (l.getD k []);have hT:(l.take k).length<=maxLen:=by rw[Jk];omega
 have hH:=TQ (l.take k) (l.getD k []) hT;cases hn:ZL (l.getD k []);rw[hn]at hN;have hz:=Vz hka (by simp only[Vy,hn,Jb]);simp only[go_sem,Xd,h,i1,ZY hka];refine vc1 hN ?_;simp only[go_sem,hz];rw[hn]at hN;cases hh:(l.take k).any (· == l.getD k [])
 ·rw[hh]at hH;have ok:Vy l k=true:=by simp only[Vy,hn,hh,Jw,Jt]
  simp only[go_sem,Xd,h,i1,ZY hka];refine vc1 hN ?_;simp only[go_sem,i1,i2,Y4,cut,Jn,Dw];refine vc1 hH ?_;simp only[go_sem,w1];exact⟨⟨k+1,by(try simp only);omega,Zn hI ok⟩,by show(l).length-(k+1)<(l).length-k;omega,⟨rfl,(Fc4 rfl rfl rfl rfl),fnl,fnl⟩⟩
 rw[hh]at hH;have hz:=Vz hka (by simp only[Vy,hn,hh,JL,Jm]);simp only[go_sem,Xd,h,i1,ZY hka];refine vc1 hN ?_;simp only[go_sem,i1,i2,Y4,cut,Jn,Dw];refine vc1 hH ?_;simp only[go_sem,hz];have hz:=DO (l:=l) (λj hj=>hI j (by omega));simp only[go_sem,Xd,h,hz]
theorem Zhq {l:List Str} {s:Str} (h:l.any (· == s)=Ht):1<=l.length:=by
 cases l with
 |nil=>simp at h
 |cons a l=>simp
theorem Tf (f:Fd) (hl:f.cases'.length<=maxLen):Pp 107 [fld f] (.bool (Yi f)):=by
 have hP:=S7 f.at';have hT:=Sb f.df;have hC:=Zha f.cases';have hK:=TQ f.cases' f.df hl;have key:Yi f=(YY f.at'&&(if f.kind=1 then(f.df== [])&&(((f.cases'.length:Int)==0)&&(decide (1<=f.worth)&&decide (f.worth<=1048576)))
   else if f.kind=2 then decide ((f.df.length:Int)<=40)&&(((f.cases'.length:Int)==0)&&(f.worth==0))
   else if f.kind=3 then Sk f.cases'&&(f.cases'.any (· == f.df)&&(f.worth==0))
   else if f.kind=4 then(f.df== [])&&(((f.cases'.length:Int)==0)&&(f.worth==0))else Hf)):=by
  unfold Yi;congr 1
  by_cases h1:f.kind=1
  ·rw[if_pos h1,if_pos h1,Je];simp;omega
  ·rw[if_neg h1,if_neg h1]
   by_cases h3:f.kind=3
   ·rw[if_pos h3,if_neg (by omega),if_pos h3];unfold Zac Sk;cases ha:f.cases'.any (· == f.df)
    ·simp
    ·have:=Zhq ha;rw[Je];simp;constructor
     ·rintro ⟨a,b,c⟩;exact⟨⟨⟨this,by omega⟩,b⟩,a⟩
     ·rintro ⟨⟨⟨a,b⟩,c⟩,d⟩;exact⟨d,c,by omega⟩
   ·rw[if_neg h3,if_neg h3];unfold Zil
    by_cases h2:f.kind=2
    ·rw[if_pos h2,Je];simp[h2];constructor<;>rintro ⟨a,b,c⟩<;>refine⟨?_,?_,?_⟩<;>first|assumption|omega
    ·rw[if_neg h2]
     by_cases h4:f.kind=4
     ·rw[if_pos h4,Je];simp[h4];constructor
      ·rintro ⟨a,b,c⟩;exact⟨c,b,a⟩
      ·rintro ⟨a,b,c⟩;exact⟨c,b,a⟩
     ·rw[if_neg h4];simp[h2,h4]
 rw[key];cases hp:YY f.at';rw[hp]at hP;refine ZF func107 rfl ntmps107 results107 ?_;simp only[go_sem,fld];refine vc1 hP ?_;simp only[go_sem,Jb];rw[hp]at hP;rw[Jg];by_cases h1:f.kind=1
 ·have k1:(f.kind==1)=true:=by rw[h1];rfl
  rw[if_pos h1];refine ZF func107 rfl ntmps107 results107 ?_;simp only[go_sem,fld];refine vc1 hP ?_;simp only[go_sem,k1];repeat' ((first|(first|apply Zl|apply Zj|apply Zs)<;>intro h|refine vDq ?_)<;>first|simp only[go_sem,h]|simp only[go_sem]|skip)
  all_goals simp_all
 have k1:(f.kind==1)=false:=beq_eq_false_iff_ne.2 h1;rw[if_neg h1];by_cases h2:f.kind=2
 ·have k2:(f.kind==2)=true:=by rw[h2];rfl
  rw[if_pos h2];refine ZF func107 rfl ntmps107 results107 ?_;simp only[go_sem,fld];refine vc1 hP ?_;simp only[go_sem,k1,k2];refine vc1 hT ?_;simp only[go_sem,k1,k2];repeat' ((first|(first|apply Zl|apply Zj|apply Zs)<;>intro h|refine vDq ?_)<;>first|simp only[go_sem,h]|simp only[go_sem]|skip)
  all_goals simp_all
 have k2:(f.kind==2)=false:=beq_eq_false_iff_ne.2 h2;rw[if_neg h2];by_cases h3:f.kind=3
 ·have k3:(f.kind==3)=true:=by rw[h3];rfl
  rw[if_pos h3];refine ZF func107 rfl ntmps107 results107 ?_;simp only[go_sem,fld];refine vc1 hP ?_;simp only[go_sem,k1,k2,k3];refine vc1 hC ?_;simp only[go_sem,k1,k2,k3];repeat' ((first|(first|apply Zl|apply Zj|apply Zs)<;>intro h|refine vc1 hK ?_|refine vDq ?_)<;>first|simp only[go_sem,h]|simp only[go_sem]|skip)
  all_goals simp_all
 have k3:(f.kind==3)=false:=beq_eq_false_iff_ne.2 h3;rw[if_neg h3];by_cases h4:f.kind=4
 ·have k4:(f.kind==4)=true:=by rw[h4];rfl
  rw[if_pos h4];refine ZF func107 rfl ntmps107 results107 ?_;simp only[go_sem,fld];refine vc1 hP ?_;simp only[go_sem,k1,k2,k3,k4];repeat' ((first|(first|apply Zl|apply Zj|apply Zs)<;>intro h|refine vDq ?_)<;>first|simp only[go_sem,h]|simp only[go_sem]|skip)
  all_goals simp_all
 have k4:(f.kind==4)=false:=beq_eq_false_iff_ne.2 h4;rw[if_neg h4];refine ZF func107 rfl ntmps107 results107 ?_;simp only[go_sem,fld];refine vc1 hP ?_;simp only[go_sem,k1,k2,k3,k4]
theorem S4 (a b:Fd) (ha:a.cases'.length<=maxLen) (hb:b.cases'.length<=maxLen):Pp 175 [fld a,fld b] (.bool (decide (a=b))):=by
 have hE:=Zhb a.cases' b.cases' ha hb;refine ZF func175 rfl ntmps175 results175 ?_;simp only[go_sem,fld,ZD];repeat' ((first|(first|apply Zl|apply Zj|apply Zs)<;>intro h|refine vc1 hE ?_|refine vDq ?_)<;>first|simp only[go_sem,h,ZD]|simp only[go_sem,ZD]|skip)
 all_goals ((cases a;cases b;simp_all)<;>rfl)
theorem DI (a b:List Str) (ha:a.length<=maxLen) (hb:b.length<=maxLen):Pp 219 [Xd a,Xd b] (.bool (decide (a=b))):=by
 have hE:=Zau a b ha hb;refine ZF func219 rfl ntmps219 results219 ?_;simp only[go_sem,Xd];refine vc1 hE ?_;simp only[go_sem]
theorem DF (a b:Fd) (ha:a.cases'.length<=maxLen) (hb:b.cases'.length<=maxLen):Pp 170 [fld a,fld b] (.bool (decide (a=b))):=by
 have hE:=DI a.cases' b.cases' ha hb;refine ZF func170 rfl ntmps170 results170 ?_;simp only[go_sem,fld,ZD];repeat' ((first|(first|apply Zl|apply Zj|apply Zs)<;>intro h|refine vc1 hE ?_|refine vDq ?_)<;>first|simp only[go_sem,h,ZD]|simp only[go_sem,ZD]|skip)
 all_goals ((cases a;cases b;simp_all)<;>rfl)
open Go.PL
def X4 (l:List Pr) (s:Str):Str×Bool:=match l.find? (λp=>p.fr'==s)with|some p=>(p.to',Ht)|none=>([],Hf)
def Zbj (x:Str×Bool):PV:= .tup [.str x.1,.bool x.2]
theorem ZaJ {α:Type} {p:α->Bool} {l:List α} {k:Nat} {d:α} (hk:k<l.length) (h:∀j,j<k->p (l.getD j d)=Hf) (hp:p (l.getD k d)=Ht):l.find? p=Hs (l.getD k d):=by
 have h1:=VY hk h hp;rw[List.find?_eq_some_iff_getElem];refine⟨hp,k,hk,by rw[Ji,Jj hk];rfl,λj hj=> ?_⟩;have:=h j hj;rw[Ji,Jj (by omega)]at this;simpa using this
theorem Zdc {α:Type} {p:α->Bool} {l:List α} {d:α} (h:∀j,j<l.length->p (l.getD j d)=Hf):l.find? p=none:=by
 rw[JT];intro x hx;obtain⟨j,hj,rfl⟩:=JQ hx;have:=h j hj;rw[Ji,Jj hj]at this;simpa using this
theorem T8 (l:List Pr) (s:Str) (hl:l.length<=maxLen):Pp 221 [prs l,.str s] (Zbj (X4 l s)):=by
 refine ZF func221 rfl ntmps221 results221 ?_;simp only[go_sem,prs];refine Zz (ι:= { x:Nat // x<=(l).length/\(∀j,j<x->((l.getD j Jd).fr'==s)=Hf) }) 21 (λx=> [(1,.str s),(8,prs l),(9,.int .i64 (l.length:Int)),(10,.int .i64 (x.1:Int))]) (λx=> []) (λx=> []) (λx=>(l).length-x.1) ⟨0,Jc _,λj hj=>absurd hj (Jf j)⟩ ⟨rfl,(Fc4 rfl rfl rfl rfl),fnl,fnl⟩ (λx=>⟨(Fc4 rfl rfl rfl rfl),fnl⟩) (λx=> ?_);obtain⟨k,hk,hI⟩:=x;simp only at hk hI ⊢;by_cases h:(k:Int)<(l.length:Int)
 (have hka:k<(l).length:=by omega);(have w1:=Vt hka (hl));(have i1:=Ja k)
 cases he:((l.getD k Jd).fr'==s)
 ·simp only[go_sem,prs,h,ZZ hka,pr,i1,he,w1];exact⟨⟨k+1,by(try simp only);omega,Zn hI he⟩,by show(l).length-(k+1)<(l).length-k;omega,⟨rfl,(Fc4 rfl rfl rfl rfl),fnl,fnl⟩⟩
 have hx:=ZaJ (p:=λp:Pr=>p.fr'==s) hka hI he;simp only[go_sem,prs,h,ZZ hka,pr,i1,he,Zbj,X4,hx];have hx:=Zdc (p:=λp:Pr=>p.fr'==s) (d:=Jd) (l:=l) (λj hj=>hI j (by omega));simp only[go_sem,prs,h,Zbj,X4,hx]
theorem Zas (l:List Pr) (s:Str) (hl:l.length<=maxLen):Pp 168 [prs l,.str s] (Zbj (X4 l s)):=by
 refine ZF func168 rfl ntmps168 results168 ?_;simp only[go_sem,prs];refine Zz (ι:= { x:Nat // x<=(l).length/\(∀j,j<x->((l.getD j Jd).fr'==s)=Hf) }) 25 (λx=> [(0,prs l),(1,.str s),(6,.int .i64 (x.1:Int))]) (λx=> []) (λx=> []) (λx=>(l).length-x.1) ⟨0,Jc _,λj hj=>absurd hj (Jf j)⟩ ⟨rfl,(Fc3 rfl rfl rfl),fnl,fnl⟩ (λx=>⟨(Fc3 rfl rfl rfl),fnl⟩) (λx=> ?_);obtain⟨k,hk,hI⟩:=x;simp only at hk hI ⊢;by_cases h:(k:Int)<(l.length:Int)
 (have hka:k<(l).length:=by omega);(have w1:=Vt hka (hl));(have i1:=Ja k)
 cases he:((l.getD k Jd).fr'==s)
 ·simp only[go_sem,prs,h,ZZ hka,pr,i1,he,w1];exact⟨⟨k+1,by(try simp only);omega,Zn hI he⟩,by show(l).length-(k+1)<(l).length-k;omega,⟨rfl,(Fc3 rfl rfl rfl),fnl,fnl⟩⟩
 have hx:=ZaJ (p:=λp:Pr=>p.fr'==s) hka hI he;simp only[go_sem,prs,h,ZZ hka,pr,i1,he,Zbj,X4,hx];have hx:=Zdc (p:=λp:Pr=>p.fr'==s) (d:=Jd) (l:=l) (λj hj=>hI j (by omega));simp only[go_sem,prs,h,Zbj,X4,hx]
theorem ZgA {α β:Type} [Inhabited α] (f:α->β) {l:List α} {k:Nat} (h:k<l.length):(l.take (k+1)).map f=(l.take k).map f++ [f (l.getD k Jd)]:=by
 rw[ZT h (d:=Jd),List.map_append];rfl
theorem Vp {α:Type} (l:List α) (k:Nat):(l.take k).length<=l.length:=by rw[Jk];omega
def WK (l:List Pr):List Str:=l.map (·.fr')
theorem ZaP (l:List Pr) (hl:l.length<=1000000):Pp 226 [prs l] (Xd (WK l)):=by
 have hm:l.length<=maxLen:=by rw[Zd];omega
 have hr0:=YV hl (show 16<=1000 by omega);refine ZM func226 rfl ntmps226 results226 (Zd5 _) ?_;simp only[go_sem,prs,hr0,hm];refine⟨by omega,?_⟩;refine Ym 3 8 19 0 1 9 [] rfl rfl rfl ?_;refine Zz (ι:= { x:Nat×(List Str) // x.1<=(l).length/\(x.2=(l.take x.1).map (·.fr')) }) 22 (λx=> [(3,.sl (.row 19) (x.1.2.map .str)),(9,prs l),(10,.int .i64 (l.length:Int)),(11,.int .i64 (x.1.1:Int))]) (λx=> []) (λx=> [(19,.live (x.1.2.length) (1) (9))]) (λx=>(l).length-x.1.1) ⟨(0,[]),Jc _,rfl⟩ ⟨rfl,(Fc4 rfl rfl rfl rfl),fnl,(fcs rfl fnl)⟩ (λx=>⟨(Fc4 (by simp[JU,ZN]) rfl rfl rfl),fnl⟩) (λx=> ?_);obtain⟨⟨k,acc⟩,hk,hI⟩:=x;simp only at hk hI ⊢;have hacc:acc.length<=l.length:=by rw[hI,Jq];exact Vp _ _
 by_cases h:(k:Int)<(l.length:Int)
 ·(have hka:k<(l).length:=by omega);(have w1:=Vt hka (hm));(have i1:=Ja k)
  have hr:=YV (show acc.length+1<=1000000 by rw[hI,Jq,Jk];omega) (show 16<=1000 by omega);simp only[go_sem,prs,h,ZZ hka,pr,i1,Y4,hr,w1];exact⟨⟨(k+1,acc++ [(l.getD k Jd).fr']),by(try simp only);omega,by simp only;rw[ZgA _ hka,hI]⟩,by show(l).length-(k+1)<(l).length-k;omega,⟨rfl,(Fc4 (by simp[upd]) rfl rfl rfl),fnl,(fcs (by simp[upd]) fnl)⟩⟩
 obtain rfl:k=l.length:=by omega
 rw[Js]at hI;subst hI;simp only[go_sem,prs,h,Xd,WK]
theorem DG (l:List Pr) (hl:l.length<=1000000):Pp 190 [prs l] (Xd (WK l)):=by
 have hm:l.length<=maxLen:=by rw[Zd];omega
 refine ZM func190 rfl ntmps190 results190 (Zd5 _) ?_;simp only[go_sem,prs];refine Ym 3 5 19 0 1 9 [] rfl rfl rfl ?_;refine Zz (ι:= { x:Nat×(List Str) // x.1<=(l).length/\(x.2=(l.take x.1).map (·.fr')) }) 21 (λx=> [(0,prs l),(3,.sl (.row 19) (x.1.2.map .str)),(4,.int .i64 (x.1.1:Int))]) (λx=> []) (λx=> [(19,.live (x.1.2.length) (1) (9))]) (λx=>(l).length-x.1.1) ⟨(0,[]),Jc _,rfl⟩ ⟨rfl,(Fc3 rfl rfl rfl),fnl,(fcs rfl fnl)⟩ (λx=>⟨(Fc3 rfl (by simp[JU,ZN]) rfl),fnl⟩) (λx=> ?_);obtain⟨⟨k,acc⟩,hk,hI⟩:=x;simp only at hk hI ⊢;have hacc:acc.length<=l.length:=by rw[hI,Jq];exact Vp _ _
 by_cases h:(k:Int)<(l.length:Int)
 ·(have hka:k<(l).length:=by omega);(have w1:=Vt hka (hm));(have i1:=Ja k)
  have hr:=YV (show acc.length+1<=1000000 by rw[hI,Jq,Jk];omega) (show 16<=1000 by omega);simp only[go_sem,prs,h,ZZ hka,pr,i1,Y4,hr,w1];exact⟨⟨(k+1,acc++ [(l.getD k Jd).fr']),by(try simp only);omega,by simp only;rw[ZgA _ hka,hI]⟩,by show(l).length-(k+1)<(l).length-k;omega,⟨rfl,(Fc3 rfl (by simp[upd]) rfl),fnl,(fcs (by simp[upd]) fnl)⟩⟩
 obtain rfl:k=l.length:=by omega
 rw[Js]at hI;subst hI;simp only[go_sem,prs,h,Xd,WK]
theorem ZcN (l:List Fd) (hl:l.length<=100000) (hc:∀f∈l,f.cases'.length<=1000000):Pp 52 [Zp l] (Zp l):=by
 have hm:l.length<=maxLen:=by rw[Zd];omega
 have hr0:=YV (show l.length<=1000000 by omega) (show 96<=1000 by omega);refine ZM func52 rfl ntmps52 results52 (UR _) ?_;simp only[go_sem,Zp,hr0,hm];refine⟨by omega,?_⟩;refine Ym 3 8 19 0 7 30 [] rfl rfl rfl ?_;refine Zz (ι:= { x:Nat×(List Fd) // x.1<=(l).length/\(x.2=l.take x.1) }) 22 (λx=> [(3,.sl (.row 19) (x.1.2.map fld)),(9,Zp l),(10,.int .i64 (l.length:Int)),(11,.int .i64 (x.1.1:Int))]) (λx=> []) (λx=> [(19,.live (x.1.2.length) (7) (30))]) (λx=>(l).length-x.1.1) ⟨(0,[]),Jc _,rfl⟩ ⟨rfl,(Fc4 rfl rfl rfl rfl),fnl,(fcs rfl fnl)⟩ (λx=>⟨(Fc4 (by simp[JU,ZN]) rfl rfl rfl),fnl⟩) (λx=> ?_);obtain⟨⟨k,acc⟩,hk,hI⟩:=x;simp only at hk hI ⊢;have hacc:acc.length<=l.length:=by rw[hI];exact Vp _ _
 by_cases h:(k:Int)<(l.length:Int)
 ·(have hka:k<(l).length:=by omega);(have w1:=Vt hka (hm));(have i1:=Ja k)
  have hr:=YV (show acc.length+1<=1000000 by omega) (show 96<=1000 by omega);have hO:=XS (l.getD k Jd) (hc _ (Zy hka));simp only[go_sem,Zp,h,ZX hka,fld,i1];refine vc2 hO ?_;simp only[go_sem,fld,Vn,hr,w1];exact⟨⟨(k+1,acc++ [l.getD k Jd]),by(try simp only);omega,by simp only;rw[ZT hka (d:=Jd),hI]⟩,by show(l).length-(k+1)<(l).length-k;omega,⟨rfl,(Fc4 (by simp[upd,fld]) rfl rfl rfl),fnl,(fcs (by simp[upd]) fnl)⟩⟩
 obtain rfl:k=l.length:=by omega
 rw[Js]at hI;subst hI;simp only[go_sem,h,Zp]
open Go.PL
theorem Zhl (l:List Fd) (sc:Int) (hl:l.length<=100000) (hc:∀f∈l,f.cases'.length<=1000000):Pp 67 [Zp l,.int .i64 sc] (Zp (U7 l sc)):=by
 have hm:l.length<=maxLen:=by rw[Zd];omega
 refine ZM func67 rfl ntmps67 results67 (UR _) ?_;simp only[go_sem,Zp];refine Y6 5 23 7 30 rfl rfl ?_;refine Zz (ι:= { x:Nat×(List Fd) // x.1<=(l).length/\(x.2=U7 (l.take x.1) sc) }) 26 (λx=> [(1,.int .i64 sc),(5,.sl (.row 23) (x.1.2.map fld)),(8,Zp l),(9,.int .i64 (l.length:Int)),(10,.int .i64 (x.1.1:Int))]) (λx=> []) (λx=> [(23,.live (x.1.2.length) (7) (30))]) (λx=>(l).length-x.1.1) ⟨(0,[]),Jc _,rfl⟩ ⟨rfl,(Fc5 rfl rfl rfl rfl rfl),fnl,(fcs rfl fnl)⟩ (λx=>⟨(Fc5 rfl (by simp[JU,ZN]) rfl rfl rfl),fnl⟩) (λx=> ?_);obtain⟨⟨k,acc⟩,hk,hI⟩:=x;simp only at hk hI ⊢;have hacc:acc.length<=l.length:=by
  rw[hI];exact J3 (List.length_filter_le _ _) (Vp _ _)
 by_cases h:(k:Int)<(l.length:Int)
 (have hka:k<(l).length:=by omega);(have w1:=Vt hka (hm));(have i1:=Ja k)
 have hr:=YV (show acc.length+1<=1000000 by omega) (show 96<=1000 by omega);have hO:=XS (l.getD k Jd) (hc _ (Zy hka));cases he:((l.getD k Jd).at'.sc==sc)
 ·have hs:U7 (l.take (k+1)) sc=U7 (l.take k) sc:=by
   rw[ZT hka (d:=Jd)];simp only[U7,JV,JY,he,Jo,if_false,JZ,Jh]
  simp only[go_sem,Zp,h,ZX hka,fld,i1,he,w1];exact⟨⟨(k+1,acc),by(try simp only);omega,by simp only;rw[hs,hI]⟩,by show(l).length-(k+1)<(l).length-k;omega,⟨rfl,(Fc5 rfl (by simp[upd,fld]) rfl rfl rfl),fnl,(fcs (by simp[upd]) fnl)⟩⟩
 ·have hs:U7 (l.take (k+1)) sc=U7 (l.take k) sc++ [l.getD k Jd]:=by
   rw[ZT hka (d:=Jd)];simp only[U7,JV,JY,he,if_true,JZ]
  simp only[go_sem,Zp,h,ZX hka,fld,i1,he];refine vc2 hO ?_;simp only[go_sem,fld,Vn,hr,w1];exact⟨⟨(k+1,acc++ [l.getD k Jd]),by(try simp only);omega,by simp only;rw[hs,hI]⟩,by show(l).length-(k+1)<(l).length-k;omega,⟨rfl,(Fc5 rfl (by simp[upd,fld]) rfl rfl rfl),fnl,(fcs (by simp[upd]) fnl)⟩⟩
 obtain rfl:k=l.length:=by omega
 rw[Js]at hI;subst hI;simp only[go_sem,h,Zp]
def atF (r:Rf):Fd->Bool:=λx=>decide (x.at'=r)
def ZC (l:List Fd) (r:Rf):Fd×Int:=if idx (atF r) l<0 then(Jd,6)else(l.getD (idx (atF r) l).toNat Jd,0)
def VO (x:Fd×Int):PV:= .tup [fld x.1,.int .i64 x.2]
def YJ (x:List Fd×Int):PV:= .tup [Zp x.1,.int .i64 x.2]
theorem D0 (x:Fd×Int):(VO x).dids= []:=by simp only[VO,JB,Jp,Zgi,Jh]
theorem Z5 (x:List Fd×Int):(YJ x).dids= []:=by simp only[YJ,JB,Jp,UR,Jh]
theorem Wc:fld Jd= .agg [.int .i64 0,.str [],.str [],.int .i64 0,.str [],.sl .no [],.int .i64 0]:=rfl
theorem WQ (l:List Fd) (r:Rf) (hl:l.length<=100000) (hc:∀f∈l,f.cases'.length<=1000000):Pp 55 [Zp l,ref r] (VO (ZC l r)):=by
 have hm:l.length<=maxLen:=by rw[Zd];omega
 have hI:Pp 106 [Zp l,ref r] (.int .i64 (idx (atF r) l)):=S5 l r hm;unfold ZC;rcases Fb (atF r) l with h2|⟨k,hk,h2⟩;rw[h2]at hI ⊢;refine ZM func55 rfl ntmps55 results55 (D0 _) ?_;simp only[go_sem,Zp,ref];refine vc2 hI ?_;simp only[go_sem,VO,Wc];have i1:=Ja k
 have i2:(k:Int)<(l.length:Int):=by omega
 have i3:¬(k:Int)<0:=by omega
 have hO:=XS (l.getD k Jd) (hc _ (Zy hk));rw[h2]at hI;rw[h2,if_neg i3];refine ZM func55 rfl ntmps55 results55 (D0 _) ?_;simp only[go_sem,Zp,ref];refine vc2 hI ?_;simp only[go_sem,i1,i2,i3,ZX hk,fld];refine vc2 hO ?_;simp only[go_sem,VO,fld]
theorem TS (l:List Fd) (hl:l.length<=maxLen) (hl':∀f∈l,f.cases'.length<=maxLen):Pp 177 [Zp l] (.bool (Yj l)):=by
 by_cases h16:16<(l.length:Int);refine ZF func177 rfl ntmps177 results177 ?_;simp only[go_sem,Zp,h16,Yj,Jb];have hx:Yj l=(Jl l.length).all (So l):=by simp only[Yj,h16,decide_false,Jw,Jg]
 rw[hx];refine ZF func177 rfl ntmps177 results177 ?_;simp only[go_sem,Zp,h16];refine Zz (ι:= { x:Nat // x<=(l).length/\(∀j,j<x->So l j=Ht) }) 33 (λx=> [(0,Zp l),(8,Zp l),(9,.int .i64 (l.length:Int)),(10,.int .i64 (x.1:Int))]) (λx=> []) (λx=> []) (λx=>(l).length-x.1) ⟨0,Jc _,λj hj=>absurd hj (Jf j)⟩ ⟨rfl,(Fc4 rfl rfl rfl rfl),fnl,fnl⟩ (λx=>⟨(Fc4 rfl rfl rfl rfl),fnl⟩) (λx=> ?_);obtain⟨k,hk,hI⟩:=x;simp only at hk hI ⊢;by_cases h:(k:Int)<(l.length:Int)
 (have hka:k<(l).length:=by omega);(have w1:=Vt hka (hl));(have i1:=Ja k)
 have hR:=Tf (l.getD k Jd) (hl' _ (Zy hka));cases hr:Yi (l.getD k Jd);rw[hr]at hR;have hz:=Yb (p:=So l) hka (by simp only[So,hr,Jb]);simp only[go_sem,Zp,h,ZX hka,fld,i1];refine vc2 hR ?_;simp only[go_sem,hz];rw[hr]at hR;by_cases h0:0<(k:Int);have hk1:k-1<l.length:=by omega
 have w2:IntKind.i64.wrap ((k:Int)-1)=((k-1:Nat):Int):=by
  rw[Zd]at hl;rw[w64 (by omega)];omega
 have j1:(0:Int)<=((k-1:Nat):Int):=by omega
 have j2:((k-1:Nat):Int)<(l.length:Int):=by omega
 have hL:=ZcD (l.getD (k-1) Jd).at' (l.getD k Jd).at';cases hb:Vh (l.getD (k-1) Jd).at' (l.getD k Jd).at';rw[hb]at hL;have hz:=Yb (p:=So l) hka (by simp only[So,hb,decide_eq_false (show ¬k=0 by omega),Bool.or_self,Jm]);simp only[go_sem,Zp,h,ZX hka,fld,i1];refine vc2 hR ?_;simp only[go_sem];refine vDq ?_;simp only[go_sem,h0,w2,ZX hk1,ZX hka,fld,h,i1,j1,j2];refine vc1 hL ?_;simp only[go_sem,hz]
 ·rw[hb]at hL;have ok:So l k=true:=by simp only[So,hr,hb,Bool.or_true,Jt]
  simp only[go_sem,Zp,h,ZX hka,fld,i1];refine vc2 hR ?_;simp only[go_sem];refine vDq ?_;simp only[go_sem,h0,w2,ZX hk1,ZX hka,fld,h,i1,j1,j2];refine vc1 hL ?_;simp only[go_sem,w1];exact⟨⟨k+1,by(try simp only);omega,Zn hI ok⟩,by show(l).length-(k+1)<(l).length-k;omega,⟨rfl,(Fc4 rfl rfl rfl rfl),fnl,fnl⟩⟩
 ·have ok:So l k=true:=by simp only[So,hr,decide_eq_true (show k=0 by omega),Bool.true_or,Jt]
  simp only[go_sem,Zp,h,ZX hka,fld,i1];refine vc2 hR ?_;simp only[go_sem];refine vDq ?_;simp only[go_sem,h0,w1];exact⟨⟨k+1,by(try simp only);omega,Zn hI ok⟩,by show(l).length-(k+1)<(l).length-k;omega,⟨rfl,(Fc4 rfl rfl rfl rfl),fnl,fnl⟩⟩
 have hz:=U2 (p:=So l) (n:=l.length) (λj hj=>hI j (by omega));simp only[go_sem,Zp,h,hz]
theorem ZhC {α:Type} {l:List α} {k g:Nat} {d:α} (h:k<l.length):(l.take (k+1)).eraseIdx g=(l.take k).eraseIdx g++(if k=g then []else [l.getD k d]):=by
 have hlen:(l.take k).length=k:=by rw[Jk];omega
 rw[ZT h (d:=d)];rcases Nat.lt_or_ge g k with h1|h1;rw[List.eraseIdx_append_of_lt_length (by omega),if_neg (by omega)];have e2:(l.take k).eraseIdx g=l.take k:=JD (by omega);rw[List.eraseIdx_append_of_length_le (by omega),e2,hlen];by_cases e:k=g;subst e;simp;rw[if_neg e,JD (by simp;omega)]
def YZ (l:List Fd) (r:Rf):List Fd×Int:=if Yj l=Hf then([],5)else if idx (atF r) l<0 then([],6)else(l.eraseIdx (idx (atF r) l).toNat,0)
theorem ZcR (l:List Fd) (r:Rf) (hl:l.length<=100000) (hc:∀f∈l,f.cases'.length<=1000000):Pp 180 [Zp l,ref r] (YJ (YZ l r)):=by
 have hm:l.length<=maxLen:=by rw[Zd];omega
 have hR:=TS l hm (λf hf=>by have:=hc f hf;rw[Zd];omega);have hI:Pp 106 [Zp l,ref r] (.int .i64 (idx (atF r) l)):=S5 l r hm;unfold YZ;cases hr:Yj l;rw[hr]at hR;refine ZM func180 rfl ntmps180 results180 (Z5 _) ?_;simp only[go_sem,Zp,ref];refine vc2 hR ?_;simp only[go_sem,YJ,Zp];rw[hr]at hR;rcases Fb (atF r) l with h2|⟨g,hg,h2⟩;rw[h2]at hI ⊢;refine ZM func180 rfl ntmps180 results180 (Z5 _) ?_;simp only[go_sem,Zp,ref];refine vc2 hR ?_;simp only[go_sem,Zp];refine vc2 hI ?_;simp only[go_sem,YJ,Zp];have i3:¬(g:Int)<0:=by omega
 have w2:IntKind.i64.wrap ((l.length:Int)-1)=((l.length-1:Nat):Int):=by rw[w64 (by omega)];omega
 rw[h2]at hI;rw[h2,if_neg i3];simp only[JW,if_false,Int.toNat_natCast];refine ZM func180 rfl ntmps180 results180 (Z5 _) ?_;simp only[go_sem,Zp,ref];refine vc2 hR ?_;simp only[go_sem,Zp];refine vc2 hI ?_;simp only[go_sem,Zp,i3,w2];refine⟨by omega,?_⟩;refine Ym 7 21 36 0 7 30 [] rfl rfl rfl ?_;refine Zz (ι:= { x:Nat×(List Fd) // x.1<=(l).length/\(x.2=(l.take x.1).eraseIdx g) }) 39 (λx=> [(6,.int .i64 (g:Int)),(7,.sl (.row 36) (x.1.2.map fld)),(22,Zp l),(23,.int .i64 (l.length:Int)),(24,.int .i64 (x.1.1:Int))]) (λx=> []) (λx=> [(36,.live (x.1.2.length) (7) (30))]) (λx=>(l).length-x.1.1) ⟨(0,[]),Jc _,rfl⟩ ⟨rfl,(Fc5 rfl rfl rfl rfl rfl),fnl,(fcs rfl fnl)⟩ (λx=>⟨(Fc5 rfl (by simp[JU,ZN]) rfl rfl rfl),fnl⟩) (λx=> ?_);obtain⟨⟨k,acc⟩,hk,hI⟩:=x;simp only at hk hI ⊢;have hacc:acc.length<=l.length:=by
  rw[hI];exact J3 (List.length_eraseIdx_le _ _) (Vp _ _)
 by_cases h:(k:Int)<(l.length:Int)
 (have hka:k<(l).length:=by omega);(have w1:=Vt hka (hm));(have i1:=Ja k)
 have hr:=YV (show acc.length+1<=1000000 by omega) (show 96<=1000 by omega);have hO:=XS (l.getD k Jd) (hc _ (Zy hka));have hs:=ZhC (l:=l) (k:=k) (g:=g) (d:=Jd) hka;by_cases he:k=g
 ·have he':((k:Int) !=(g:Int))=false:=by rw[he];exact bne_self_eq_false _
  rw[if_pos he,Jh]at hs;simp only[go_sem,Zp,h,ZX hka,fld,i1,he',w1];exact⟨⟨(k+1,acc),by(try simp only);omega,by simp only;rw[hs,hI]⟩,by show(l).length-(k+1)<(l).length-k;omega,⟨rfl,(Fc5 rfl (by simp[upd,fld]) rfl rfl rfl),fnl,(fcs (by simp[upd]) fnl)⟩⟩
 ·have he':((k:Int) !=(g:Int))=true:=bne_iff_ne.2 (by omega);rw[if_neg he]at hs;simp only[go_sem,Zp,h,ZX hka,fld,i1,he'];refine vc2 hO ?_;simp only[go_sem,fld,Vn,hr,w1];exact⟨⟨(k+1,acc++ [l.getD k Jd]),by(try simp only);omega,by simp only;rw[hs,hI]⟩,by show(l).length-(k+1)<(l).length-k;omega,⟨rfl,(Fc5 rfl (by simp[upd,fld]) rfl rfl rfl),fnl,(fcs (by simp[upd]) fnl)⟩⟩
 obtain rfl:k=l.length:=by omega
 rw[Js]at hI;subst hI;simp only[go_sem,h,Zp,YJ]
open Go.PL
def ZhU (r:Rf):Fd->Bool:=λf=>Vh f.at' r
def Zdm (l:List Fd) (f:Fd):List Fd:=l.takeWhile (ZhU f.at')++f::l.dropWhile (ZhU f.at')
def SX (l:List Fd) (f:Fd):List Fd×Int:=if Yj l=Hf\/Yi f=Hf then([],5)else if 0<=idx (atF f.at') l then([],7)else if 16<=(l.length:Int)then([],14)else(Zdm l f,0)
structure WA (l:List Fd) (f:Fd) where
 k:Nat
 acc:List Fd
 hk:k<=l.length
 h:acc++Zdm (l.drop k) f=Zdm l f
structure WB (l:List Fd) (f:Fd) where
 k:Nat
 acc:List Fd
 hk:k<=l.length
 h:acc++l.drop k=Zdm l f
theorem VU {α:Type} {l:List α} {k:Nat} {d:α} (h:k<l.length):l.drop k=l.getD k d::l.drop (k+1):=by
 rw[Ji,Jj h];exact List.drop_eq_getElem_cons h
theorem Zqh {l:List Fd} {f x:Fd} (h:Vh x.at' f.at'=Ht):Zdm (x::l) f=x::Zdm l f:=by
 simp[Zdm,ZhU,h]
theorem Zqg {l:List Fd} {f x:Fd} (h:Vh x.at' f.at'=Hf):Zdm (x::l) f=f::x::l:=by
 simp[Zdm,ZhU,h]
theorem ZbP (l:List Fd) (f:Fd):(Zdm l f).length=l.length+1:=by
 unfold Zdm;have:=congrArg List.length (List.takeWhile_append_dropWhile (p:=ZhU f.at') (l:=l));simp only[JE,List.length_cons]at *;omega
def Zgd (f:Fd):List PV:= [.int .i64 f.at'.sc,.str f.at'.gr,.str f.at'.nm,.int .i64 f.kind,.str f.df,.sl .no (f.cases'.map .str),.int .i64 f.worth]
theorem ZiR (l:List Fd) (f:Fd) (hl:l.length<=100000) (hc:∀f∈l,f.cases'.length<=1000000) (hf:f.cases'.length<=1000000):Pp 181 [Zp l,fld f] (YJ (SX l f)):=by
 have hm:l.length<=maxLen:=by rw[Zd];omega
 have hR:=TS l hm (λf hf=>by have:=hc f hf;rw[Zd];omega);have hF:=Tf f (by rw[Zd];omega);have hI:Pp 106 [Zp l,ref f.at'] (.int .i64 (idx (atF f.at') l)):=S5 l f.at' hm;have hOf:=XS f hf;unfold SX;cases hr:Yj l;rw[hr]at hR;simp only[true_or,if_true];refine ZM func181 rfl ntmps181 results181 (Z5 _) ?_;simp only[go_sem,Zp,fld];refine T6 ?_;simp only[go_sem];refine vc2 hR ?_;simp only[go_sem,YJ,Zp];rw[hr]at hR;cases hrf:Yi f;rw[hrf]at hF;simp only[or_true,if_true];refine ZM func181 rfl ntmps181 results181 (Z5 _) ?_;simp only[go_sem,Zp,fld];refine T6 ?_;simp only[go_sem];refine vc2 hR ?_;simp only[go_sem];refine vc2 hF ?_;simp only[go_sem,YJ,Zp];rw[hrf]at hF;simp only[JW,or_self,if_false];by_cases h2:(0:Int)<=idx (atF f.at') l;rw[if_pos h2];refine ZM func181 rfl ntmps181 results181 (Z5 _) ?_;simp only[go_sem,Zp,fld];refine T6 ?_;simp only[go_sem];refine vc2 hR ?_;simp only[go_sem];refine vc2 hF ?_;simp only[go_sem];refine vc2 hI ?_;simp only[go_sem,h2,YJ,Zp];rw[if_neg h2];by_cases h3:(16:Int)<=(l.length:Int);rw[if_pos h3];refine ZM func181 rfl ntmps181 results181 (Z5 _) ?_;simp only[go_sem,Zp,fld];refine T6 ?_;simp only[go_sem];refine vc2 hR ?_;simp only[go_sem];refine vc2 hF ?_;simp only[go_sem];refine vc2 hI ?_;simp only[go_sem,h2,h3,YJ,Zp];rw[if_neg h3];have w0:IntKind.i64.wrap ((l.length:Int)+1)=((l.length+1:Nat):Int):=by rw[w64 (by omega)];rfl
 refine ZM func181 rfl ntmps181 results181 (Z5 _) ?_;simp only[go_sem,Zp,fld];refine Zph (ι0:=WA l f) (ι1:=WB l f) 72
  (λx=> [(0,Zp l),(3,.ptr 3 0),(6,.sl (.row 49) (x.acc.map fld)),(7,.int .i64 (x.k:Int))]) (λx=> [(3,Zgd f,Hf)]) (λx=> [(49,.live x.acc.length 7 30)]) (λx=>l.length-x.k)
  (λx=> [(0,Zp l),(6,.sl (.row 68) (x.acc.map fld)),(7,.int .i64 (x.k:Int))]) (λx=> []) (λx=> [(68,.live x.acc.length 7 30)]) (λx=>l.length-x.k) (l.length+1) (λj=>by show l.length-j.k<l.length+1;omega)
  0 1 _ _ (by exact rfl) (by exact rfl)
  (λx=>⟨Fc4 rfl rfl (by simp[JU,ZN]) rfl,(fcs rfl fnl)⟩)
  (λx=>⟨Fc3 rfl (by simp[JU,ZN]) rfl,fnl⟩)
  (λx cut=> ?_) (λx=> ?_) (λcut=> ?_)
 obtain⟨k,acc,hk,hx⟩:=x;simp only at cut ⊢;have hacc:acc.length<=l.length+1:=by rw[<-ZbP l f,<-hx,JE];omega
 have hrm:=YV (show acc.length+1<=1000000 by omega) (show 96<=1000 by omega);by_cases h:(k:Int)<(l.length:Int);have hka:k<l.length:=by omega
 have w1:=Vt hka hm;have i1:=Ja k
 have hL:=ZcD (l.getD k Jd).at' f.at';have hO:=XS (l.getD k Jd) (hc _ (Zy hka));rw[VU hka (d:=Jd)]at hx;cases hb:Vh (l.getD k Jd).at' f.at';rw[hb]at hL;rw[Zqg hb]at hx;simp only[go_sem,Zp,Zgd];refine vDq ?_;simp only[go_sem,h,i1,ZX hka,fld];refine vc1 hL ?_;simp only[go_sem];refine vc2 hOf ?_;simp only[go_sem,fld,Vn,hrm];refine Ym 6 56 68 (acc.length+1) 7 30 ((acc++ [f]).map fld) (by simp[upd,fld]) rfl rfl ?_;refine YM (cut ⟨k,acc++ [f],hk,by rw[VU hka (d:=Jd),<-hx];simp⟩ _ ⟨rfl,Fc3 rfl rfl rfl,fnl,fcs (by simp[upd,Hp.setq,St.with]) fnl⟩);rw[hb]at hL;rw[Zqh hb]at hx;simp only[go_sem,Zp,Zgd];refine vDq ?_;simp only[go_sem,h,i1,ZX hka,fld];refine vc1 hL ?_;simp only[go_sem,h,i1,ZX hka,fld];refine vc2 hO ?_;simp only[go_sem,fld,Vn,hrm,w1];exact Or.inl ⟨rfl,⟨k+1,acc++ [l.getD k Jd],by omega,by rw[<-hx];simp⟩,nx9 (by omega),⟨rfl,Fc4 rfl rfl (by simp[upd,fld]) rfl,fcs ⟨rfl,rfl⟩ fnl,fcs (by simp[upd]) fnl⟩⟩;obtain rfl:k=l.length:=by omega
 simp only[go_sem,Zp,Zgd];refine vDq ?_;simp only[go_sem,h];refine vc2 hOf ?_;simp only[go_sem,fld,Vn,hrm];refine Ym 6 56 68 (acc.length+1) 7 30 ((acc++ [f]).map fld) (by simp[upd,fld]) rfl rfl ?_;refine YM (cut ⟨l.length,acc++ [f],hk,by rw[<-hx];simp[Zdm]⟩ _ ⟨rfl,Fc3 rfl rfl rfl,fnl,fcs (by simp[upd,Hp.setq,St.with]) fnl⟩);obtain⟨k,acc,hk,hx⟩:=x;simp only;have hacc:acc.length<=l.length+1:=by rw[<-ZbP l f,<-hx,JE];omega
 have hrm:=YV (show acc.length+1<=1000000 by omega) (show 96<=1000 by omega);by_cases h:(k:Int)<(l.length:Int);have hka:k<l.length:=by omega
 have w1:=Vt hka hm;have i1:=Ja k
 have hO:=XS (l.getD k Jd) (hc _ (Zy hka));rw[VU hka (d:=Jd)]at hx;simp only[go_sem,Zp,h,i1,ZX hka,fld];refine vc2 hO ?_;simp only[go_sem,fld,Vn,hrm,w1];exact⟨⟨k+1,acc++ [l.getD k Jd],by omega,by rw[<-hx];simp⟩,nx9 (by omega),⟨rfl,Fc3 rfl (by simp[upd,fld]) rfl,fnl,fcs (by simp[upd]) fnl⟩⟩;obtain rfl:k=l.length:=by omega
 rw[List.drop_length,Jh]at hx;subst hx;simp only[go_sem,Zp,h,YJ];simp only[go_sem];refine vc2 hR ?_;simp only[go_sem];refine vc2 hF ?_;simp only[go_sem];refine vc2 hI ?_;simp only[go_sem,h2,h3,w0];refine⟨by omega,?_⟩;refine Ym 6 27 49 0 7 30 [] rfl rfl rfl ?_;exact YM (cut ⟨0,[],Jc _,rfl⟩ _ ⟨rfl,(Fc4 rfl rfl rfl rfl),fcs ⟨rfl,rfl⟩ fnl,fcs rfl fnl⟩)
open Go.PL
def Gq (l:List Pr) (s:Str):Bool:=l.any λq=>q.fr'==s
theorem ZcZ (l:List Pr) (s:Str):(X4 l s).2=Gq l s:=by
 unfold X4 Gq;cases h:l.find? (λp=>p.fr'==s)with
 |none=>
  symm
  rw[JX];intro x hx;exact JT.1 h x hx
 |some p=>
  symm
  exact JM.2 ⟨p,List.mem_of_find?_eq_some h,List.find?_some (p:=λp:Pr=>p.fr'==s) h⟩
theorem ZjD (l:List Pr) (s:Str):(WK l).any (· == s)=Gq l s:=by
 simp[WK,Gq,List.any_map,Function.comp_def]
def WO (t o:List Pr) (i:Nat):Bool:=ZL (t.getD i Jd).fr'&&(!(Gq (t.take i) (t.getD i Jd).fr')&&Gq o (t.getD i Jd).to')
def Xu (t o:List Pr):Bool:=decide (1<=t.length/\t.length<=6)&&(Jl t.length).all (WO t o)
theorem Zcg (l:List Pr) (k:Nat):J5 k (l.map pr)=(l.take k).map pr:=by rw[J2]
theorem SQ (l:List Pr):Sized 2 (l.map pr):=λe he=>by
 obtain⟨x,_,rfl⟩:=JC.1 he;rfl
theorem ZlS (l:List Pr):XQ (l.map pr):=λe he=>by
 obtain⟨x,_,rfl⟩:=JC.1 he;rfl
theorem ZhP {l:List Pr} {s:Str} {k:Nat} (hk:k<l.length) (h:((l.getD k Jd).fr'==s)=Ht):Gq l s=true:=Uc (p:=λq:Pr=>q.fr'==s) hk h
theorem Ze4 {l:List Pr} {s:Str} (h:∀j,j<l.length->((l.getD j Jd).fr'==s)=Hf):Gq l s=false:=VQ (p:=λq:Pr=>q.fr'==s) (d:=Jd) h
theorem U5 (t o:List Pr) (ho:o.length<=maxLen):Pp 220 [prs t,prs o] (.bool (Xu t o)):=by
 by_cases h1:(t.length:Int)<1;have hx:Xu t o=false:=by simp only[Xu,show ¬(1<=t.length/\t.length<=6)by omega,decide_false,Jb]
 refine ZF func220 rfl ntmps220 results220 ?_;simp only[go_sem,prs,h1,hx];by_cases h2:(6:Int)<(t.length:Int);have hx:Xu t o=false:=by simp only[Xu,show ¬(1<=t.length/\t.length<=6)by omega,decide_false,Jb]
 refine ZF func220 rfl ntmps220 results220 ?_;simp only[go_sem,prs,h1,h2,hx];have hm:t.length<=maxLen:=by rw[Zd];omega
 have hx:Xu t o=(Jl t.length).all (WO t o):=by simp only[Xu,show(1<=t.length/\t.length<=6)by omega,and_self,decide_true,Jg]
 rw[hx];refine ZF func220 rfl ntmps220 results220 ?_;simp only[go_sem,prs,h1,h2];refine Zz (ι:= { x:Nat // x<=(t).length/\(∀j,j<x->WO t o j=Ht) }) 54 (λx=> [(0,prs t),(1,prs o),(19,prs t),(20,.int .i64 (t.length:Int)),(21,.int .i64 (x.1:Int))]) (λx=> []) (λx=> []) (λx=>(t).length-x.1) ⟨0,Jc _,λj hj=>absurd hj (Jf j)⟩ ⟨rfl,(Fc5 rfl rfl rfl rfl rfl),fnl,fnl⟩ (λx=>⟨(Fc5 rfl rfl rfl rfl rfl),fnl⟩) (λx=> ?_);obtain⟨k,hk,hI⟩:=x;simp only at hk hI ⊢;by_cases h:(k:Int)<(t.length:Int)
 (have hka:k<(t).length:=by omega);(have w1:=Vt hka (hm));(have i1:=Ja k)
 have i2:(k:Int)<=(t.length:Int):=by omega
 have hN:=YA (t.getD k Jd).fr';cases hn:ZL (t.getD k Jd).fr';rw[hn]at hN;have hz:=Yb (p:=WO t o) hka (by simp only[WO,hn,Jb]);simp only[go_sem,prs,h,i1,ZZ hka,pr];refine vc1 hN ?_;simp only[go_sem,hz];rw[hn]at hN;have hT:(t.take k).length<=maxLen:=by rw[Jk];omega
 simp only[go_sem,prs,h,i1,ZZ hka,pr];refine vc1 hN ?_;simp only[go_sem,i1,i2,SQ,cut,Jn,Zcg];refine Zz (ι:= { x:Nat // x<=(t.take k).length/\(∀j,j<x->(((t.take k).getD j Jd).fr'==(t.getD k Jd).fr')=Hf) }) 54 (λx=> [(0,prs t),(1,prs o),(6,.ptr 6 0),(19,prs t),(20,.int .i64 (t.length:Int)),(21,.int .i64 (k:Int)),(32,.sl .no ((t.take k).map pr)),(33,.int .i64 ((t.take k).length:Int)),(34,.int .i64 (x.1:Int))]) (λx=> [(6,[.str (t.getD k Jd).fr',.str (t.getD k Jd).to'],Hf)]) (λx=> []) (λx=>(t.take k).length-x.1) ⟨0,Jc _,λj hj=>absurd hj (Jf j)⟩ ⟨rfl,(Fc9 rfl rfl rfl rfl rfl rfl rfl rfl rfl),(fcs ⟨rfl,rfl⟩ fnl),fnl⟩ (λx=>⟨(Fc9 rfl rfl rfl rfl rfl rfl rfl rfl rfl),(fcs rfl fnl)⟩) (λx=> ?_);obtain⟨kb,hkb,hIb⟩:=x;simp only at hkb hIb ⊢;by_cases hb:(kb:Int)<((t.take k).length:Int)
 (have hkab:kb<(t.take k).length:=by omega);(have w1b:=Vt hkab (hT));(have i1b:=Ja kb)
 cases he:(((t.take k).getD kb Jd).fr'==(t.getD k Jd).fr')
 ·simp only[go_sem,prs,hb,ZZ hkab,pr,i1b,he,w1b];exact⟨⟨kb+1,by(try simp only);omega,Zn hIb he⟩,by show(t.take k).length-(kb+1)<(t.take k).length-kb;omega,⟨rfl,(Fc9 rfl rfl rfl rfl rfl rfl rfl rfl rfl),(fcs ⟨rfl,rfl⟩ fnl),fnl⟩⟩
 have hz:=Yb (p:=WO t o) hka (by simp only[WO,ZhP hkab he,JL,Jb,Jm]);simp only[go_sem,prs,hb,ZZ hkab,pr,i1b,he,hz];have hf:=Ze4 (l:=t.take k) (s:=(t.getD k Jd).fr') (λj hj=>hIb j (by omega));have hC:=T8 o (t.getD k Jd).to' ho;have hs:=ZcZ o (t.getD k Jd).to';cases hh:Gq o (t.getD k Jd).to';have hz:=Yb (p:=WO t o) hka (by simp only[WO,hh,Jm]);rw[hh]at hs;simp only[go_sem,prs,hb];refine vc3 hC ?_;simp only[go_sem,Zbj,hs,hz]
 ·have ok:WO t o k=true:=by simp only[WO,hn,hf,hh,Jw,Jt]
  rw[hh]at hs;simp only[go_sem,prs,hb];refine vc3 hC ?_;simp only[go_sem,Zbj,hs,w1];exact⟨⟨k+1,by(try simp only);omega,Zn hI ok⟩,by show(t).length-(k+1)<(t).length-k;omega,⟨rfl,(Fc5 rfl rfl rfl rfl rfl),fnl,fnl⟩⟩
 have hz:=U2 (p:=WO t o) (n:=t.length) (λj hj=>hI j (by omega));simp only[go_sem,prs,h,hz]
theorem DJ (t o:List Pr) (ho:o.length<=1000000):Pp 169 [prs t,prs o] (.bool (Xu t o)):=by
 by_cases h1:(t.length:Int)=0;have hx:Xu t o=false:=by simp only[Xu,show ¬(1<=t.length/\t.length<=6)by omega,decide_false,Jb]
 have h1':((t.length:Int)==0)=true:=by rw[h1];rfl
 refine ZF func169 rfl ntmps169 results169 ?_;simp only[go_sem,prs,h1',hx];have h1':((t.length:Int)==0)=false:=beq_eq_false_iff_ne.2 h1;by_cases h2:(6:Int)<(t.length:Int);have hx:Xu t o=false:=by simp only[Xu,show ¬(1<=t.length/\t.length<=6)by omega,decide_false,Jb]
 refine ZF func169 rfl ntmps169 results169 ?_;simp only[go_sem,prs,h1',h2,hx];have hm:t.length<=maxLen:=by rw[Zd];omega
 have hx:Xu t o=(Jl t.length).all (WO t o):=by simp only[Xu,show(1<=t.length/\t.length<=6)by omega,and_self,decide_true,Jg]
 rw[hx];refine ZF func169 rfl ntmps169 results169 ?_;simp only[go_sem,prs,h1',h2];refine Zz (ι:= { x:Nat // x<=(t).length/\(∀j,j<x->WO t o j=Ht) }) 50 (λx=> [(0,prs t),(1,prs o),(5,.int .i64 (x.1:Int))]) (λx=> []) (λx=> []) (λx=>(t).length-x.1) ⟨0,Jc _,λj hj=>absurd hj (Jf j)⟩ ⟨rfl,(Fc3 rfl rfl rfl),fnl,fnl⟩ (λx=>⟨(Fc3 rfl rfl rfl),fnl⟩) (λx=> ?_);obtain⟨k,hk,hI⟩:=x;simp only at hk hI ⊢;by_cases h:(k:Int)<(t.length:Int)
 (have hka:k<(t).length:=by omega);(have w1:=Vt hka (hm));(have i1:=Ja k)
 have i2:(k:Int)<=(t.length:Int):=by omega
 have hN:=XH (t.getD k Jd).fr';have hT:(t.take k).length<=1000000:=by rw[Jk];omega
 have hF1:=DG (t.take k) hT;have hF2:=DG o ho;have hH1:=Sa (WK (t.take k)) (t.getD k Jd).fr' (by rw[WK,Jq,Zd];omega);have hH2:=Sa (WK o) (t.getD k Jd).to' (by rw[WK,Jq,Zd];omega);rw[ZjD]at hH1 hH2;cases hn:ZL (t.getD k Jd).fr';rw[hn]at hN;have hz:=Yb (p:=WO t o) hka (by simp only[WO,hn,Jb]);simp only[go_sem,prs,h,i1];refine vDq ?_;simp only[go_sem,prs,h,i1,ZZ hka,pr];refine vc1 hN ?_;simp only[go_sem,hz];rw[hn]at hN;cases hf:Gq (t.take k) (t.getD k Jd).fr';rw[hf]at hH1;cases hh:Gq o (t.getD k Jd).to';rw[hh]at hH2;have hz:=Yb (p:=WO t o) hka (by simp only[WO,hh,Jm]);simp only[go_sem,prs,h,i1];refine vDq ?_;simp only[go_sem,prs,h,i1,ZZ hka,pr];refine vc1 hN ?_;simp only[go_sem,prs,h,i1,i2,SQ,cut,Jn,Zcg];refine vc3 hF1 ?_;simp only[go_sem,prs,h,i1,i2,ZZ hka,pr];refine vc1 hH1 ?_;simp only[go_sem,prs];refine vc3 hF2 ?_;simp only[go_sem,prs,h,i1,i2,ZZ hka,pr];refine vc1 hH2 ?_;simp only[go_sem,hz]
 ·rw[hh]at hH2;have ok:WO t o k=true:=by simp only[WO,hn,hf,hh,Jw,Jt]
  simp only[go_sem,prs,h,i1];refine vDq ?_;simp only[go_sem,prs,h,i1,ZZ hka,pr];refine vc1 hN ?_;simp only[go_sem,prs,h,i1,i2,SQ,cut,Jn,Zcg];refine vc3 hF1 ?_;simp only[go_sem,prs,h,i1,i2,ZZ hka,pr];refine vc1 hH1 ?_;simp only[go_sem,prs];refine vc3 hF2 ?_;simp only[go_sem,prs,h,i1,i2,ZZ hka,pr];refine vc1 hH2 ?_;simp only[go_sem,w1];exact⟨⟨k+1,by(try simp only);omega,Zn hI ok⟩,by show(t).length-(k+1)<(t).length-k;omega,⟨rfl,(Fc3 rfl rfl rfl),fnl,fnl⟩⟩
 rw[hf]at hH1;have hz:=Yb (p:=WO t o) hka (by simp only[WO,hf,JL,Jb,Jm]);simp only[go_sem,prs,h,i1];refine vDq ?_;simp only[go_sem,prs,h,i1,ZZ hka,pr];refine vc1 hN ?_;simp only[go_sem,prs,h,i1,i2,SQ,cut,Jn,Zcg];refine vc3 hF1 ?_;simp only[go_sem,prs,h,i1,i2,ZZ hka,pr];refine vc1 hH1 ?_;simp only[go_sem,hz];have hz:=U2 (p:=WO t o) (n:=t.length) (λj hj=>hI j (by omega));simp only[go_sem,prs,h,hz]
theorem Dr (x:Ln):(lns x).dids= []:=by
 have:∀l:List Pr,Jp (l.map pr)= []:=λl=>by
  induction l with
  |nil=>rfl
  |cons t l ih=>simp only[JS,Jp,ih,pr,JB,Jh]
 simp only[lns,JB,Jp,Wo,this,Jh]
structure OkLn (x:Ln):Prop where
 c:x.fd.cases'.length<=1000000
 f:x.fo.length<=1000000
 b:x.ba.length<=1000000
theorem DC (x:Ln) (hx:OkLn x):Pp 130 [lns x] (lns x):=by
 have hF:=XS x.fd hx.c;have r1:=YV hx.f (show 32<=1000 by omega);have r2:=YV hx.b (show 32<=1000 by omega);refine ZM func130 rfl ntmps130 results130 (Dr _) ?_;simp only[go_sem,lns];refine vc2 hF ?_;simp only[go_sem,fld,lns,SQ,ZlS,r1,r2]
theorem Zan (a b:Ln) (ha:OkLn a) (hb:OkLn b):Pp 129 [lns a,lns b] (.bool (decide (a=b))):=by
 have hF:=S4 a.fd b.fd (by have:=ha.c;rw[Zd];omega) (by have:=hb.c;rw[Zd];omega);have h1:=Zcz a.fo b.fo (by have:=ha.f;rw[Zd];omega) (by have:=hb.f;rw[Zd];omega);have h2:=Zcz a.ba b.ba (by have:=ha.b;rw[Zd];omega) (by have:=hb.b;rw[Zd];omega);clear ha hb;refine ZF func129 rfl ntmps129 results129 ?_;simp only[go_sem,lns,ZD];repeat' ((first|(first|apply Zl|apply Zj|apply Zs)<;>intro h|refine vc3 hF ?_|refine vc3 h1 ?_|refine vc3 h2 ?_|refine vDq ?_)<;>first|simp only[go_sem,h,ZD]|simp only[go_sem,ZD]|skip)
 all_goals (clear hF h1 h2;(cases a;cases b;simp_all)<;>rfl)
theorem ZeA (a b:Ln) (ha:OkLn a) (hb:OkLn b):Pp 127 [lns a,lns b] (.bool (decide (a=b))):=by
 have hF:=DF a.fd b.fd (by have:=ha.c;rw[Zd];omega) (by have:=hb.c;rw[Zd];omega);have h1:=Zat a.fo b.fo (by have:=ha.f;rw[Zd];omega) (by have:=hb.f;rw[Zd];omega);have h2:=Zat a.ba b.ba (by have:=ha.b;rw[Zd];omega) (by have:=hb.b;rw[Zd];omega);clear ha hb;refine ZF func127 rfl ntmps127 results127 ?_;simp only[go_sem,lns,ZD];repeat' ((first|(first|apply Zl|apply Zj|apply Zs)<;>intro h|refine vc3 hF ?_|refine vc3 h1 ?_|refine vc3 h2 ?_|refine vDq ?_)<;>first|simp only[go_sem,h,ZD]|simp only[go_sem,ZD]|skip)
 all_goals (clear hF h1 h2;(cases a;cases b;simp_all)<;>rfl)
open Go.PL
def Wv (x:Ln):Ln×Bool:=
 if x.kind=1\/x.kind=5 then(⟨x.kind,x.at',x.nm,[],0,Jd,[],[]⟩,Ht)
 else if x.kind=2\/x.kind=3 then(⟨x.kind,Jd,[],[],0,x.fd,[],[]⟩,Ht)
 else if x.kind=4 then(⟨x.kind,x.at',[],[],0,Jd,[],[]⟩,Ht)
 else if x.kind=6\/x.kind=9 then(⟨x.kind,x.at',x.nm,x.ot,x.fac,Jd,[],[]⟩,Ht)
 else if x.kind=7\/x.kind=10 then(⟨x.kind,x.at',[],x.ot,0,Jd,[],[]⟩,Ht)
 else if x.kind=8 then(⟨x.kind,x.at',x.nm,x.ot,0,Jd,x.fo,x.ba⟩,Ht)
 else(Jd,Hf)
def lnb (x:Ln×Bool):PV:= .tup [lns x.1,.bool x.2]
theorem Zmw (x:Ln×Bool):(lnb x).dids= []:=by simp only[lnb,JB,Jp,Dr,Jh]
theorem Fh:lns Jd= .agg [.int .i64 0,.int .i64 0,.str [],.str [],.str [],.str [],.int .i64 0,.int .i64 0,.str [],.str [],.int .i64 0,.str [],.sl .no [],.int .i64 0,.sl .no [],.sl .no []]:=rfl
theorem Zh0 (x:Ln):Pp 172 [lns x] (lnb (Wv x)):=by
 refine ZM func172 rfl ntmps172 results172 (Zmw _) ?_;simp only[go_sem,lns];repeat' ((first|(first|apply Zl|apply Zj|apply Zs)<;>intro h|refine Zg2 [(1,4)] (by kernel_rfl) (by kernel_rfl) (by exact rfl) ?_|refine vDq ?_)<;>first|simp only[go_sem,h]|simp only[go_sem]|skip)
 all_goals (simp only[beq_iff_eq,beq_eq_false_iff_ne,ne_eq]at *;simp[Wv,lnb,lns, *];try decide)
theorem Zoz {x:Ln} (hx:OkLn x):OkLn (Wv x).1:=by
 unfold Wv;repeat' split
 all_goals exact⟨by first|exact hx.c|exact Jc _,by first|exact hx.f|exact Jc _,by first|exact hx.b|exact Jc _⟩
def rtM (x:Ln):Bool:=ZL x.nm&&(Xu x.fo x.ba&&(Xu x.ba x.fo&&(((X4 x.fo x.nm).2&&((X4 x.fo x.nm).1==x.ot))&&((X4 x.ba x.ot).2&&((X4 x.ba x.ot).1==x.nm)))))
theorem Df (x:Ln) (hx:OkLn x):Pp 174 [lns x] (.bool (rtM x)):=by
 have mf:x.fo.length<=maxLen:=by have:=hx.f;rw[Zd];omega
 have mb:x.ba.length<=maxLen:=by have:=hx.b;rw[Zd];omega
 have hN:=YA x.nm;have h1:=U5 x.fo x.ba mb;have h2:=U5 x.ba x.fo mf;have h3:=T8 x.fo x.nm mf;have h4:=T8 x.ba x.ot mb;unfold rtM;generalize X4 x.fo x.nm=c at *;generalize X4 x.ba x.ot=d at *;obtain⟨c1,c2⟩:=c;obtain⟨d1,d2⟩:=d;refine ZF func174 rfl ntmps174 results174 ?_;simp only[go_sem,lns];repeat' ((first|(first|apply Zl|apply Zj|apply Zs)<;>intro h|refine vc3 hN ?_|refine vc3 h1 ?_|refine vc3 h2 ?_|refine vc3 h3 ?_|refine vc3 h4 ?_|refine vDq ?_)<;>first|simp only[go_sem,h,Zbj]|simp only[go_sem,Zbj]|skip)
 all_goals (clear hN h1 h2 h3 h4 mf mb hx;simp_all)
theorem DA (n:Int):Pp 173 [.int .i64 n] (.bool (decide (2<=n)&&decide (n<=1000))):=by
 refine ZF func173 rfl ntmps173 results173 ?_;simp only[go_sem];repeat' ((first|(first|apply Zl|apply Zj|apply Zs)<;>intro h|refine vDq ?_)<;>first|simp only[go_sem,h]|simp only[go_sem]|skip)
 all_goals simp_all
def Xy (x:Ln):Bool:=
 if(Wv x).2=Hf\/ ¬x=(Wv x).1 then Hf
 else if x.kind=2\/x.kind=3 then Yi x.fd
 else if YY x.at'=Hf then Hf
 else if x.kind=1 then ZL x.nm
 else if x.kind=4 then !(x.at'.gr== [])
 else if x.kind=5 then(x.at'.gr== [])&&ZL x.nm
 else if x.kind=6\/x.kind=9 then ZL x.nm&&(ZL x.ot&&(!(x.nm==x.ot)&&(decide (2<=x.fac)&&decide (x.fac<=1000))))
 else if x.kind=7\/x.kind=10 then decide ((x.ot.length:Int)<=40)
 else rtM x
theorem ZcC (x:Ln) (hx:OkLn x):Pp 128 [lns x] (.bool (Xy x)):=by
 have hP:=Zh0 x;have hS:=Zan x (Wv x).1 hx (Zoz hx);have hF:=Tf x.fd (by have:=hx.c;rw[Zd];omega);have hA:=S7 x.at';have hN:=YA x.nm;have hO:=YA x.ot;have hT:=Sb x.ot;have hK:=DA x.fac;have hR:=Df x hx;unfold Xy;generalize Wv x=y at *;obtain⟨y,b⟩:=y;refine ZF func128 rfl ntmps128 results128 ?_;simp only[go_sem,lns];repeat' ((first|(first|apply Zl|apply Zj|apply Zs)<;>intro h|refine vc3 hP ?_|refine vc3 hS ?_|refine vc3 hF ?_|refine vc3 hA ?_|refine vc3 hN ?_|refine vc3 hO ?_|refine vc3 hT ?_|refine vc3 hK ?_|refine vc3 hR ?_|refine vDq ?_)<;>first|simp only[go_sem,h,lnb,lns]|simp only[go_sem,lnb,lns]|skip)
 all_goals (clear hP hS hF hA hN hO hT hK hR hx;simp_all)
open Go.PL
def T4 (x:Ln):Bool:=decide (0<(x.fo.length:Int))||decide (0<(x.ba.length:Int))
def ZA (x:Ln):Bool:=
 if x.kind=2\/x.kind=3 then decide (x.at'=Jd)&&(decide (x.nm= [])&&(decide (x.ot= [])&&(decide (x.fac=0)&&(!T4 x&&Yi x.fd))))
 else(YY x.at'&&decide (x.fd=Jd))&&(if x.kind=8 then decide (x.fac=0)&&(Xu x.fo x.ba&&(Xu x.ba x.fo&&((X4 x.fo x.nm).2&&((X4 x.ba x.ot).2&&(((X4 x.fo x.nm).1==x.ot)&&((X4 x.ba x.ot).1==x.nm))))))
  else !T4 x&&(if x.kind=6\/x.kind=9 then ZL x.nm&&(ZL x.ot&&(!(x.nm==x.ot)&&(decide (1<x.fac)&&decide (x.fac<1001))))
   else decide (x.fac=0)&&(if x.kind=7\/x.kind=10 then decide (x.nm= [])&&decide ((x.ot.length:Int)<41)
    else decide (x.ot= [])&&(if x.kind=1 then ZL x.nm else if x.kind=4 then decide (x.nm= [])&& !(x.at'.gr== [])else decide (x.kind=5)&&(decide (x.at'.gr= [])&&ZL x.nm)))))
theorem Zm4 {t o:List Pr} {s:Str} (h:Xu t o=Ht) (hs:Gq t s=Ht):ZL s=true:=by
 simp only[Gq,JM,beq_iff_eq]at hs;obtain⟨p,hp,rfl⟩:=hs;obtain⟨i,hi,rfl⟩:=JQ hp;simp only[Xu,Jy,Jr,Jv]at h;have:=h.2 i hi;simp only[WO,Jy]at this;have h1:=this.1;rw[Ji,Jj hi]at h1;exact h1
theorem Ut {x:Ln}:T4 x=Hf↔x.fo= []/\x.ba= []:=by
 simp only[T4,Jz,decide_eq_false_iff_not];constructor;rintro ⟨a,b⟩;exact⟨JA (by omega),JA (by omega)⟩;rintro ⟨a,b⟩;rw[a,b];exact⟨by decide,by decide⟩
theorem ZmT (x:Ln):Xy x=ZA x:=by
 obtain⟨kind,at',nm,ot,fac,fd,fo,ba⟩:=x;have ht:=Ut (x:=⟨kind,at',nm,ot,fac,fd,fo,ba⟩);simp only at ht;have d1:(Jd:Ln)=⟨0,Jd,[],[],0,Jd,[],[]⟩:=rfl;by_cases k1:kind=1;subst k1;rw[Je];simp[Xy,ZA,Wv,ht];constructor;rintro ⟨⟨a,b,c,d,e⟩,f,g⟩;exact⟨⟨f,c⟩,⟨d,e⟩,b,a,g⟩;rintro ⟨⟨f,c⟩,⟨d,e⟩,b,a,g⟩;exact⟨⟨a,b,c,d,e⟩,f,g⟩;by_cases k2:kind=2;subst k2;rw[Je];simp[Xy,ZA,Wv,ht,and_assoc];by_cases k3:kind=3;subst k3;rw[Je];simp[Xy,ZA,Wv,ht,and_assoc];by_cases k4:kind=4;subst k4;rw[Je];simp[Xy,ZA,Wv,ht];constructor;rintro ⟨⟨n,a,b,c,d,e⟩,f,g⟩;exact⟨⟨f,c⟩,⟨d,e⟩,b,a,n,g⟩;rintro ⟨⟨f,c⟩,⟨d,e⟩,b,a,n,g⟩;exact⟨⟨n,a,b,c,d,e⟩,f,g⟩;by_cases k5:kind=5;subst k5;rw[Je];simp[Xy,ZA,Wv,ht];constructor;rintro ⟨⟨a,b,c,d,e⟩,f,g⟩;exact⟨⟨f,c⟩,⟨d,e⟩,b,a,g⟩;rintro ⟨⟨f,c⟩,⟨d,e⟩,b,a,g⟩;exact⟨⟨a,b,c,d,e⟩,f,g⟩;by_cases k69:kind=6\/kind=9;have e1:¬(kind=2\/kind=3):=by omega
 have e3:¬(kind=1\/kind=5):=by omega
 have e8:¬kind=8:=by omega
 rw[Je];simp[Xy,ZA,Wv,ht,e1,e3,k69,k1,k4,k5,e8];constructor;rintro ⟨⟨a,b,c⟩,f,g,h,i,j,k⟩;exact⟨⟨f,a⟩,⟨b,c⟩,g,h,i,by omega,by omega⟩;rintro ⟨⟨f,a⟩,⟨b,c⟩,g,h,i,j,k⟩;exact⟨⟨a,b,c⟩,f,g,h,i,by omega,by omega⟩;by_cases k7:kind=7\/kind=10;have e1:¬(kind=2\/kind=3):=by omega
 have e3:¬(kind=1\/kind=5):=by omega
 have e8:¬kind=8:=by omega
 rw[Je];simp[Xy,ZA,Wv,ht,e1,e3,k69,k7,k1,k4,k5,e8];constructor;rintro ⟨⟨n,b,c,d,e⟩,f,g⟩;exact⟨⟨f,c⟩,⟨d,e⟩,b,n,by omega⟩;rintro ⟨⟨f,c⟩,⟨d,e⟩,b,n,g⟩;exact⟨⟨n,b,c,d,e⟩,f,by omega⟩;by_cases k8:kind=8;subst k8;rw[Je];have hn:Xu fo ba=Ht->(X4 fo nm).2=Ht->ZL nm=true:=λh h'=>Zm4 h (by rw[<-ZcZ];exact h')
 simp[Xy,ZA,Wv,ht,rtM];constructor;rintro ⟨⟨a,b⟩,f,g,h,i,⟨j,k⟩,l,m⟩;exact⟨⟨f,b⟩,a,h,i,j,l,k,m⟩;rintro ⟨⟨f,b⟩,a,h,i,j,l,k,m⟩;exact⟨⟨a,b⟩,f,hn h j,h,i,⟨j,k⟩,l,m⟩;have e1:¬(kind=2\/kind=3):=by omega
 have e3:¬(kind=1\/kind=5):=by omega
 simp[Xy,ZA,Wv,e1,e3,k69,k7,k1,k4,k5,k8]
theorem X9 (x:Ln) (hx:OkLn x):Pp 128 [lns x] (.bool (ZA x)):=by
 rw[<-ZmT];exact ZcC x hx
theorem ZcM (x:Ln):Pp 166 [lns x] (.bool (T4 x)):=by
 refine ZF func166 rfl ntmps166 results166 ?_;simp only[go_sem,lns];repeat' ((first|(first|apply Zl|apply Zj|apply Zs)<;>intro h|refine vDq ?_)<;>first|simp only[go_sem,h]|simp only[go_sem]|skip)
 all_goals simp_all[T4]
theorem Zhi (x:Ln) (hx:OkLn x):Pp 167 [lns x] (.bool (decide (x.fd=Jd))):=by
 have h:=DF x.fd Jd (by have:=hx.c;rw[Zd];omega) (Jc _);refine ZF func167 rfl ntmps167 results167 ?_;simp only[go_sem,lns];refine Zk h ?_ ?_ ?_;simp only[go_sem];rfl;simp only[go_sem]
theorem ZcI (x:Ln) (hx:OkLn x):Pp 126 [lns x] (.bool (ZA x)):=by
 have mf:x.fo.length<=maxLen:=by have:=hx.f;rw[Zd];omega
 have mb:x.ba.length<=maxLen:=by have:=hx.b;rw[Zd];omega
 have hF:=ZeD x.fd (by have:=hx.c;rw[Zd];omega);have hT:=ZcM x;have hA:=TR x.at';have hO:=Zhi x hx;have h1:=Zas x.fo x.nm mf;have h2:=Zas x.ba x.ot mb;have h3:=DJ x.fo x.ba hx.b;have h4:=DJ x.ba x.fo hx.f;have h5:=XH x.nm;have h6:=XH x.ot;unfold ZA;generalize X4 x.fo x.nm=c at *;generalize X4 x.ba x.ot=d at *;obtain⟨c1,c2⟩:=c;obtain⟨d1,d2⟩:=d;have rd:∀a:Rf,(a.sc==0&&(a.gr== []&&a.nm== []))=decide (a=Jd):=λa=>ZD a Jd
 refine ZF func126 rfl ntmps126 results126 ?_;simp only[go_sem,lns,rd];repeat' ((first|(first|apply Zl|apply Zj|apply Zs)<;>intro h|refine vc3 hF ?_|refine vc3 hT ?_|refine vc3 hA ?_|refine vc3 hO ?_|refine vc3 h1 ?_|refine vc3 h2 ?_|refine vc3 h3 ?_|refine vc3 h4 ?_|refine vc3 h5 ?_|refine vc3 h6 ?_|refine vDq ?_)<;>first|simp only[go_sem,h,Zbj,rd]|simp only[go_sem,Zbj,rd]|skip)
 all_goals (clear hF hT hA hO h1 h2 h3 h4 h5 h6 hx mf mb rd;simp_all)
open Go.PL
theorem Zf9 (l:List Tg):Jp (l.map tg)= []:=by
 induction l with
 |nil=>rfl
 |cons t l ih=>simp only[JS,Jp,ih,tg,JB,Jh]
theorem SR (l:List Tg):Sized 2 (l.map tg):=λe he=>by
 obtain⟨x,_,rfl⟩:=JC.1 he;rfl
theorem Zbx (l:List Tg):XQ (l.map tg):=λe he=>by
 obtain⟨x,_,rfl⟩:=JC.1 he;rfl
def Wy (t:Tg):Bool:=decide (1<=t.r)&&(decide (t.r<=6)&&(decide (1<=t.n)&&decide (t.n<=1099511627776)))
theorem Th (t:Tg):Pp 102 [tg t] (.bool (Wy t)):=by
 refine ZF func102 rfl ntmps102 results102 ?_;simp only[go_sem,tg];repeat' ((first|(first|apply Zl|apply Zj|apply Zs)<;>intro h|refine vDq ?_)<;>first|simp only[go_sem,h]|simp only[go_sem]|skip)
 all_goals (simp_all[Wy]<;>(intros;omega))
def ZW (a b:Tg):Bool:=if a.r=b.r then decide (a.n<b.n)else decide (a.r<b.r)
theorem Zaw (a b:Tg):Pp 139 [tg a,tg b] (.bool (ZW a b)):=by
 refine ZF func139 rfl ntmps139 results139 ?_;simp only[go_sem,tg];repeat' ((first|(first|apply Zl|apply Zj|apply Zs)<;>intro h|refine vDq ?_)<;>first|simp only[go_sem,h]|simp only[go_sem]|skip)
 all_goals simp_all[ZW]
open Go.PL
@[go_sem] theorem Zum:tcv prog 2 259= .flt .f64:=by kernel_rfl
@[go_sem] theorem Zul:tcv prog 259 2= .int .i64:=by kernel_rfl
theorem Znz (a b:Int):((Hs (compare a b):Option Ordering)==Hs .gt||(Hs (compare a b):Option Ordering)==Hs .eq)=decide (b<=a):=by
 rcases JG a b with h|h|h;rw[JH.2 h,decide_eq_false (by omega)];rfl;subst h;rw[JI.2 rfl,decide_eq_true (by omega)];rfl;rw[JJ.2 h,decide_eq_true (by omega)];rfl
theorem ZnE (a b:Int):((Hs (compare a b):Option Ordering)==Hs .lt||(Hs (compare a b):Option Ordering)==Hs .eq)=decide (a<=b):=by
 rcases JG a b with h|h|h;rw[JH.2 h,decide_eq_true (by omega)];rfl;subst h;rw[JI.2 rfl,decide_eq_true (by omega)];rfl;rw[JJ.2 h,decide_eq_false (by omega)];rfl
theorem ZnJ (a b:Int):((Hs (compare a b):Option Ordering) !=Hs .eq)=decide (a≠b):=by
 rcases JG a b with h|h|h;rw[JH.2 h,decide_eq_true (by omega)];rfl;subst h;rw[JI.2 rfl,decide_eq_false (by omega)];rfl;rw[JJ.2 h,decide_eq_true (by omega)];rfl
theorem Zj1:(4841369599423283200:Nat)=X3 4503599627370496:=by decide+kernel
theorem Zj0:JK .f64 4841369599423283200=X3 (-4503599627370496):=by decide+kernel
theorem Zpv:Extern.findNext f279=none:=by kernel_rfl
theorem Zpu:Extern.find f279=Hs (Extern.MathFloor.toIntegral "math.archTrunc" .zero):=by kernel_rfl
theorem ZkY (n:Int) (h:n.natAbs<2 ^ 53) (P:Program) (w:World):(Extern.MathFloor.toIntegral "math.archTrunc" .zero #[.float .f64 (X3 n)]).run P w= .ok (.float .f64 (X3 n)) w:=by
 obtain⟨s,m,p,hp⟩:=Zka n h;have ht:=Znc n h;rw[hp]at ht;show(Extern.MathFloor.toIntegral.match_1 (λ_=>Sem Value) (FloatKind.f64.decode (X3 n)) _ _:Sem Value).run P w=_;rw[hp];show Result.ok (Value.float .f64 (FloatKind.f64.encode ((Ieee.Datum.number s m p).integral .zero))) w=_;rw[ht]
theorem ZcS (n:Int) (h:n.natAbs<2 ^ 53):PL.Xt prog 279 [.flt .f64 (X3 n)] (.flt .f64 (X3 n)):=by
 intro w S vs hl hr;match vs,hl with
 | [v],_=>
  have h0:=hr 0 (by simp);simp only[List.getD_cons_zero]at h0;cases h0;refine⟨.float .f64 (X3 n),.flt _ _,?_⟩;rw[run_callFunc_extern func279 (by decide) rfl Zpv Zpu];show((Extern.MathFloor.toIntegral "math.archTrunc" .zero #[.float .f64 (X3 n)]).run prog w).andThen _=_;rw[ZkY n h];rfl
theorem Zax (n:Int) (h:n.natAbs<2 ^ 53):Pp 273 [.flt .f64 (X3 n)] (.flt .f64 (X3 n)):=by
 have hT:=ZcS n h;refine ZF func273 rfl ntmps273 results273 ?_;simp only[go_sem];refine Znm hT ?_ ?_ ?_;simp only[go_sem];simp only[go_sem];simp only[go_sem]
theorem Zf4 (a b:Nat):Pp 272 [.cpx .f64 a b] (.agg [.flt .f64 a,.flt .f64 b]):=by
 refine ZF func272 rfl ntmps272 results272 ?_;simp only[go_sem]
def Lim (n:Int):Prop:= -4503599627370496<=n/\n<=4503599627370496
theorem Lim.abs {n:Int} (h:Lim n):n.natAbs<2 ^ 53:=by have:=h.1;have:=h.2;omega
theorem Zf2 (a b:Int) (ha:Lim a) (hb:Lim b):Pp 249 [.cpx .f64 (X3 a) (X3 b),.flt .f64 4841369599423283200] (.bool Ht):=by
 have hZ:=Zf4 (X3 a) (X3 b);have hTa:=Zax a ha.abs;have hTb:=Zax b hb.abs;have m1:(4503599627370496:Int).natAbs<2 ^ 53:=by decide
 have m2:(-4503599627370496:Int).natAbs<2 ^ 53:=by decide
 have ga:(FloatKind.f64.format.order (X3 a) (JK .f64 4841369599423283200)==Hs .gt||FloatKind.f64.format.order (X3 a) (JK .f64 4841369599423283200)==Hs .eq)=true:=by
  rw[Zj0,TB _ _ ha.abs m2,Znz];simpa using ha.1
 have gb:(FloatKind.f64.format.order (X3 b) (JK .f64 4841369599423283200)==Hs .gt||FloatKind.f64.format.order (X3 b) (JK .f64 4841369599423283200)==Hs .eq)=true:=by
  rw[Zj0,TB _ _ hb.abs m2,Znz];simpa using hb.1
 have la:(FloatKind.f64.format.order (X3 a) 4841369599423283200==Hs .lt||FloatKind.f64.format.order (X3 a) 4841369599423283200==Hs .eq)=true:=by
  rw[Zj1,TB _ _ ha.abs m1,ZnE];simpa using ha.2
 have lb:(FloatKind.f64.format.order (X3 b) 4841369599423283200==Hs .lt||FloatKind.f64.format.order (X3 b) 4841369599423283200==Hs .eq)=true:=by
  rw[Zj1,TB _ _ hb.abs m1,ZnE];simpa using hb.2
 have na:(FloatKind.f64.format.order (X3 a) (X3 a) !=Hs .eq)=false:=by rw[TB _ _ ha.abs ha.abs,ZnJ];simp
 have nb:(FloatKind.f64.format.order (X3 b) (X3 b) !=Hs .eq)=false:=by rw[TB _ _ hb.abs hb.abs,ZnJ];simp
 have c0:((0:Nat):Int)=0:=rfl;have c1:((1:Nat):Int)=1:=rfl;have c2:((2:Nat):Int)=2:=rfl;have w0:IntKind.i64.wrap (0+1)=((1:Nat):Int):=by decide
 have w1:IntKind.i64.wrap (1+1)=((2:Nat):Int):=by decide
 refine ZF func249 rfl ntmps249 results249 ?_;simp only[go_sem];refine vc1 hZ ?_;simp only[go_sem];refine Zz (ι:= { k:Nat // k<=2 }) 29 (λx=> [(1,.flt .f64 4841369599423283200),(8,.agg [.flt .f64 (X3 a),.flt .f64 (X3 b)]),(9,.int .i64 (x.1:Int))]) (λx=> []) (λx=> []) (λx=>2-x.1) ⟨0,by omega⟩
  ⟨rfl,(Fc3 rfl rfl rfl),fnl,fnl⟩ (λx=>⟨Fc3 rfl (by simp[JU,PV.idsL]) rfl,fnl⟩) (λx=> ?_)
 obtain⟨k,hk⟩:=x;simp only;obtain rfl|rfl|rfl:k=0\/k=1\/k=2:=by omega
 simp only[go_sem,c0,ga,la];refine vc1 hTa ?_;simp only[go_sem,na,w0];exact⟨⟨1,by omega⟩,by show 2-1<2-0;omega,⟨rfl,(Fc3 rfl rfl rfl),fnl,fnl⟩⟩;simp only[go_sem,c1,gb,lb];refine vc1 hTb ?_;simp only[go_sem,nb,w1];exact⟨⟨2,by omega⟩,by show 2-2<2-1;omega,⟨rfl,(Fc3 rfl rfl rfl),fnl,fnl⟩⟩;simp only[go_sem,c2]
theorem Ga (a b:Int) (ha:Lim a) (hb:Lim b):Pp 207 [.cpx .f64 (X3 a) (X3 b)] (.bool Ht):=by
 have hW:=Zf2 a b ha hb;refine ZF func207 rfl ntmps207 results207 ?_;simp only[go_sem];refine vc1 hW ?_;simp only[go_sem]
theorem Te (a b:Int) (ha:Lim a) (hb:Lim b):Pp 163 [.cpx .f64 (X3 a) (X3 b)] (.tup [.int .i64 a,.int .i64 b,.int .i64 0]):=by
 have hW:=Ga a b ha hb;have ta:=ZgV a ha.abs;have tb:=ZgV b hb.abs;have l1:IntKind.i64.min<=a:=by rw[show IntKind.i64.min= -9223372036854775808 by decide];have:=ha.1;omega
 have l2:a<=IntKind.i64.max:=by rw[show IntKind.i64.max=9223372036854775807 by decide];have:=ha.2;omega
 have l3:IntKind.i64.min<=b:=by rw[show IntKind.i64.min= -9223372036854775808 by decide];have:=hb.1;omega
 have l4:b<=IntKind.i64.max:=by rw[show IntKind.i64.max=9223372036854775807 by decide];have:=hb.2;omega
 refine ZM func163 rfl ntmps163 results163 (rfl) ?_;simp only[go_sem];refine vc1 hW ?_;simp only[go_sem,ta,tb,l1,l2,l3,l4]
def WD (n:Int):Bool:=decide (-4503599627370496<=n)&&decide (n<=4503599627370496)
theorem Sn {n:Int}:WD n=Ht↔Lim n:=by simp[WD,Lim]
theorem Zde (n:Int):Pp 206 [.int .i64 n] (.bool (WD n)):=by
 refine ZF func206 rfl ntmps206 results206 ?_;simp only[go_sem];repeat' ((first|(first|apply Zl|apply Zj|apply Zs)<;>intro h|refine vDq ?_)<;>first|simp only[go_sem,h]|simp only[go_sem]|skip)
 all_goals (simp_all[WD];try omega)
theorem Zew (a b:Int):Pp 161 [.int .i64 a,.int .i64 b] (if WD a=Ht/\WD b=Ht then .tup [.cpx .f64 (X3 a) (X3 b),.int .i64 0]else .tup [.cpx .f64 0 0,.int .i64 3]):=by
 have hA:=Zde a;have hB:=Zde b;have ea:FloatKind.f64.nearest a=X3 a:=rfl;have eb:FloatKind.f64.nearest b=X3 b:=rfl;cases h1:WD a;rw[h1]at hA;simp only[Jo,false_and,if_false];refine ZM func161 rfl ntmps161 results161 (rfl) ?_;simp only[go_sem];refine vc1 hA ?_;simp only[go_sem];rw[h1]at hA;cases h2:WD b;rw[h2]at hB;simp only[Jo,and_false,if_false];refine ZM func161 rfl ntmps161 results161 (rfl) ?_;simp only[go_sem];refine vc1 hA ?_;simp only[go_sem];refine vc1 hB ?_;simp only[go_sem];rw[h2]at hB;simp only[and_self,if_true];refine ZM func161 rfl ntmps161 results161 (rfl) ?_;simp only[go_sem];refine vc1 hA ?_;simp only[go_sem];refine vc1 hB ?_;simp only[go_sem,ea,eb]
theorem Zi3 (n:Int):Pp 281 [.int .i64 n] (.bool (!WD n)):=by
 refine ZF func281 rfl ntmps281 results281 ?_;simp only[go_sem];repeat' ((first|(first|apply Zl|apply Zj|apply Zs)<;>intro h|refine vDq ?_)<;>first|simp only[go_sem,h]|simp only[go_sem]|skip)
 all_goals (simp_all[WD];try omega)
 all_goals (rw[<-decide_not];congr 1;simp only[eq_iff_iff];omega)
open Go.PL
theorem Zi1 (l:List Rw):XQ (l.map row):=λe he=>by
 obtain⟨t,_,rfl⟩:=JC.1 he;rfl
theorem ZmU (r:Rw):(row r).dids= []:=by simp only[row,JB,Jp,DR,Jh]
theorem Zji (l:List Rw):Jp (l.map row)= []:=by
 induction l with
 |nil=>rfl
 |cons t l ih=>simp only[JS,Jp,ih,ZmU,Jh]
theorem Zl4 (d:Dc):(doc d).dids= []:=by simp only[doc,JB,Jp,DR,Zji,Jh]
def Zpz (i:Nat) (l:List Rw):Nat->PV
 |0=> .sl .nil []
 |k+1=> .sl (.row i) ((l.take (k+1)).map row)
def ZpA (i:Nat):Nat->List (Nat×Row)
 |0=> []
 |k+1=> [(i,.live (k+1) 2 142)]
open Go.PL
open Go.PL
open Go.PL
open Go.PL
open Go.PL
def flatTg:Flat Tg where
 p:=tg
 v:=λt=> [.int .i64 t.r,.int .i64 t.n]
 sz:=2
 pos:=by decide
 hp:=λ_=>rfl
 hv:=λ_=>rfl
 to:=λS x j u hj h=>by
  match j,hj with
  |0,_=>cases h;rfl
  |1,_=>cases h;rfl
 of:=λS x j hj=>by
  match j,hj with
  |0,_=>exact .int _ _
  |1,_=>exact .int _ _
def leT (x y:Tg):Bool:= !(ZW y x)
def GH (xs:List Tg):List Tg:=xs.mergeSort leT
theorem FN (a b:Tg):ZW a b=Ht↔a.r<b.r\/(a.r=b.r/\a.n<b.n):=by
 unfold ZW;split;rename_i h;rw[decide_eq_true_eq];exact⟨λk=> .inr ⟨h,k⟩,λk=>by rcases k with k|k;exact absurd h (by omega);exact k.2⟩;rename_i h;rw[decide_eq_true_eq];exact⟨.inl,λk=>by rcases k with k|k;exact k;exact absurd k.1 h⟩
theorem Gr (a b:Tg):leT a b=Ht↔a.r<b.r\/(a.r=b.r/\a.n<=b.n):=by
 unfold leT;rw[Bool.not_eq_true',<-Bool.not_eq_true,FN];omega
theorem Sv (a b c:Tg) (h1:leT a b=Ht) (h2:leT b c=Ht):leT a c=true:=by
 rw[Gr]at *;omega
theorem Zdq (a b:Tg):(leT a b||leT b a)=true:=by
 rw[JN,Gr,Gr];omega
theorem Zmt {a b:Tg} (h1:leT a b=Ht) (h2:leT b a=Ht):a=b:=by
 rw[Gr]at h1 h2;obtain⟨x,y⟩:=a;obtain⟨z,w⟩:=b;simp only at h1 h2;obtain rfl:x=z:=by omega
 obtain rfl:y=w:=by omega
 rfl
theorem ZjV {a b:Tg} (h:ZW a b=Ht):leT a b=true:=by
 rw[FN]at h;rw[Gr];omega
theorem Zm1 {l l':List Tg} (hp:l.Perm l') (hs:l.Pairwise λa b=>leT a b=Ht):l=GH l':=
 List.Perm.eq_of_pairwise (le:=λa b=>leT a b=Ht) (λa b _ _ h1 h2=>Zmt h1 h2) hs (List.pairwise_mergeSort Sv Zdq l') (hp.trans (List.mergeSort_perm l' leT).symm)
open Go.Shelf Go.RowKit Go.Lib Go.Sort
section
variable {α:Type} [Inhabited α] (F:Flat α)
theorem ZbB {w:World} {b o:Nat} {vs:List Value} {e:TypeId} (h:w.heap[b]? = Hs (.cells ⟨vs⟩ e (0,0))) (ho:o<vs.length):w.cell? ⟨b,o,none⟩=Hs (vs.getD o undef):=by
 rw[YB h,Jj ho,PL.getD_lt ho]
theorem ZnQ {k:Nat} (h:0<k) {n j:Nat} (hj:j<n*k):j / k<n/\j % k<k/\j=j / k*k+j % k:=by
 refine⟨?_,Nat.mod_lt _ h,?_⟩;exact Nat.div_lt_of_lt_mul (by rwa[J4]);rw[J4];exact(Nat.div_add_mod j k).symm
theorem Zgg (xs:List α) (j:Nat) (hj:j<xs.length*F.sz):(flatK F.v F.sz xs.toArray)[j]! = (F.v (xs.getD (j / F.sz) Jd)).getD (j % F.sz) undef:=by
 obtain⟨h1,h2,h3⟩:=ZnQ F.pos hj;rw[get_flatK _ _ _ _ (by simpa using hj)];have e1:(xs.toArray)[j / F.sz]! = xs.getD (j / F.sz) Jd:=by
  rw[PL.getD_lt h1];simp[h1]
 rw[e1];have hv:=F.hv (xs.getD (j / F.sz) Jd);generalize F.v (xs.getD (j / F.sz) Jd)=L at hv ⊢;have hL:j % F.sz<L.length:=by omega
 rw[PL.getD_lt hL];exact getElem!_pos L _ hL
theorem raw_holds {w:World} {b c:Nat} {xs:List α} {e:TypeId} {vs:List Value} (hw:w.heap[b]? = Hs (.cells ⟨vs⟩ e (0,0))) (hl:xs.length*F.sz<=vs.length)
  (hv:∀i j,i<xs.length->j<F.sz->vs.getD (i*F.sz+j) undef=(F.v (xs.getD i Jd)).getD j undef):HoldsK F.v F.sz w b 0 xs.toArray:=by
 intro j hj;have hj':j<xs.length*F.sz:=by simpa using hj
 obtain⟨h1,h2,h3⟩:=ZnQ F.pos hj';rw[Zgg F xs j hj',Nat.zero_add];refine⟨?_,?_⟩;rw[ZbB hw (by omega),<-hv _ _ h1 h2,<-h3];rfl;simp[World.frozen?,hw]
theorem Zh6 {w:World} {b c n lo:Nat} {xs ys:List α} {e:TypeId} {vs:List Value} {os:Array Obj} (hlo:lo<=b) (hc:xs.length<=c) (hw:w.heap[b]? = Hs (.cells ⟨vs⟩ e (0,0))) (hl:xs.length*F.sz<=vs.length) (hy:ys.length=xs.length):
  UH F (sortWorldK F.v F.sz w b 0 n ys.toArray os) lo ys (.slice (Hs ⟨b,0,none⟩) ys.length c)/\BelowF (λk=>k<lo) w (sortWorldK F.v F.sz w b 0 n ys.toArray os):=by
 have hb:b<w.heap.size:=(JF.1 hw).1;have hs:(sortWorldK F.v F.sz w b 0 n ys.toArray os).heap=w.heap.modify b (onCells (putCells id 0 (flatK F.v F.sz ys.toArray)))++os:=rfl;have hat:∀k,k<w.heap.size->(sortWorldK F.v F.sz w b 0 n ys.toArray os).heap[k]? = (w.heap.modify b (onCells (putCells id 0 (flatK F.v F.sz ys.toArray))))[k]? :=λk hk=>by
  rw[hs,Array.getElem?_append_left (by simpa using hk)]
 refine⟨.inr ⟨b,c,e,(putCells id 0 (flatK F.v F.sz ys.toArray) ⟨vs⟩).toList,hlo,rfl,by omega,?_,?_,λi j hi hj=> ?_⟩,?_⟩;rw[hat b hb,JP,if_pos rfl,hw];rfl;rw[hy];simpa[putCells]using hl;have q1:(i+1)*F.sz<=ys.length*F.sz:=Nat.mul_le_mul_right _ (by omega);rw[Nat.succ_mul]at q1;have hij:i*F.sz+j<vs.length:=by rw[hy]at q1;omega
 have d1:(i*F.sz+j) / F.sz=i:=(blk_iff F.sz i _ F.pos).1 ⟨by omega,by omega⟩;have d2:(i*F.sz+j) % F.sz=j:=by rw[Nat.mod_eq_sub_div_mul,d1];omega
 have hf:=Zgg F ys (i*F.sz+j) (by omega);rw[d1,d2]at hf;rw[PL.getD_lt (by simpa[putCells]using hij)];rw[<-hf];simp only[putCells,Array.getElem_toList,Array.getElem_mapIdx];rw[if_pos ⟨Jc _,by rw[size_flatK];simp;omega⟩];rfl;refine⟨rfl,rfl,rfl,?_,λk hk=> ?_⟩;rw[hs];simp;have hk':k<lo:=hk;rw[hat k (by omega),JP,if_neg (by omega)]
end
open Go.PL
open Go.Shelf Go.RowKit Go.Lib Go.Sort
def Zlq (a b:Tg):Int:=if ZW a b then-1 else if ZW b a then 1 else 0
def Grew (W w':World):Prop:=∃q os',w'=grow (W.drewN q) os'
theorem Grew.trans {a b c:World} (h:Grew a b) (k:Grew b c):Grew a c:=by
 obtain⟨q,os,rfl⟩:=h;obtain⟨p,os',rfl⟩:=k;refine⟨q+p,os++os',?_⟩;rw[<-grow_grow];show grow (grow ((a.drewN q).drewN p) os) os'=_;rw[World.drewN_drewN]
theorem Zop (W:World) (o1 o2:Obj):Grew W ((W.alloc o1).alloc o2):=⟨0,_,by rw[alloc_eq_grow,alloc_eq_grow,grow_grow];rfl⟩
theorem Zqk (x y:Tg) (W:World):Calls prog 139 #[.agg #[.int .i64 x.r,.int .i64 x.n],.agg #[.int .i64 y.r,.int .i64 y.n]] W λe w'=>e= .returned (.bool (ZW x y))/\Grew W w':=by
 unfold ZW
 go_enter func139,ntmps139
 go_wp2
 all_goals
  go_ret
  refine⟨?_,Zop _ _ _⟩;simp_all
theorem Zl0 {W w':World} {c1 c2:List Value} {t1 t2:TypeId} (h:Grew ((W.alloc (.cells ⟨c1⟩ t1)).alloc (.cells ⟨c2⟩ t2)) w'):
  (∀o,w'.cell? ⟨W.heap.size,o,none⟩=c1[o]?)/\ ∀o,w'.cell? ⟨W.heap.size+1,o,none⟩=c2[o]? :=by
 obtain⟨q,os,rfl⟩:=h;have hsz:(((W.alloc (.cells ⟨c1⟩ t1)).alloc (.cells ⟨c2⟩ t2)).drewN q).heap.size=W.heap.size+2:=by
  show((W.heap.push _).push _).size=_;simp
 refine⟨λo=> ?_,λo=> ?_⟩;rw[cell?_grow _ _ _ (by rw[hsz];show W.heap.size<_;omega)];refine YB (t:=t1) (f:=(0,0)) ?_;show((W.heap.push _).push _)[W.heap.size]? = _;simp[JR];rw[cell?_grow _ _ _ (by rw[hsz];show W.heap.size+1<_;omega)];refine YB (t:=t2) (f:=(0,0)) ?_;show((W.heap.push _).push _)[W.heap.size+1]? = _;rw[JR,if_pos (by simp)]
theorem Zof (x y:Tg) (W:World):Calls prog 138 #[.agg #[.int .i64 x.r,.int .i64 x.n],.agg #[.int .i64 y.r,.int .i64 y.n]] W λe w'=>e= .returned (.int .i64 (Zlq x y))/\Grew W w':=by
 unfold Zlq;generalize h1:ZW x y=b1;generalize h2:ZW y x=b2;have c1:=λW=>Zqk x y W
 have c2:=λW=>Zqk y x W
 rw[h1]at c1;rw[h2]at c2;clear h1 h2;cases b1
 ·cases b2;all_goals
   simp only[if_true,if_false,Jo]
   go_enter func138,ntmps138
   go_wp2_with (go_at_call 139;refine(c1 _).mono ?_;rintro e w' ⟨rfl,hw⟩;have k1:=(Zl0 hw).1 0;have k2:=(Zl0 hw).1 1;have k3:=(Zl0 hw).2 0;have k4:=(Zl0 hw).2 1;simp only[List.getElem?_cons_zero,List.getElem?_cons_succ]at k1 k2 k3 k4;clear c1)
   refine(c2 _).mono ?_
   rintro e w2 ⟨rfl,hw2⟩
   clear c2
   go_wp2
   go_ret
   exact⟨rfl,((Zop _ _ _).trans hw).trans hw2⟩
 simp only[if_true,if_false,Jo]
 go_enter func138,ntmps138
 go_wp2_with (go_at_call 139;refine(c1 _).mono ?_;rintro e w' ⟨rfl,hw⟩;clear c1)
 go_ret
 exact⟨rfl,(Zop _ _ _).trans hw⟩
theorem ltT (x y:Tg):ltOf Zlq x y=ZW x y:=by
 unfold ltOf Zlq;cases h1:ZW x y;cases h2:ZW y x<;>rfl
 rfl
theorem Zvn:SWO (ltOf Zlq) where
 irrefl x:=by rw[ltT];simp[ZW]
 trans x y z h1 h2:=by
  rw[ltT]at *;unfold ZW at *
  by_cases a:x.r=y.r<;>by_cases b:y.r=z.r<;>by_cases c:x.r=z.r<;>simp[a,b,c]at * <;> first|omega|(simp_all;omega)
 ntrans x y z h1 h2:=by
  rw[ltT]at *;unfold ZW at *
  by_cases a:x.r=y.r<;>by_cases b:y.r=z.r<;>by_cases c:x.r=z.r<;>simp[a,b,c]at * <;> first|omega|(simp_all;omega)
theorem Zvt (x y:Tg) (h1:ltOf Zlq x y=Hf) (h2:ltOf Zlq y x=Hf):x=y:=by
 rw[ltT]at *;unfold ZW at *;obtain⟨a,b⟩:=x;obtain⟨c,d⟩:=y;simp only at h1 h2;by_cases e:a=c;subst e;simp at h1 h2;have:b=d:=by omega
 rw[this];have e':¬c=a:=λh=>e h.symm
 simp[e,e']at h1 h2;omega
theorem ZkG (xs:List Tg) (lo:Nat) (w:World) (v:Value) (hx:xs.length<=1000000) (hr:UH flatTg w lo xs v) (hlo:lo<=w.heap.size):
  Calls prog 137 #[v,.func (.func 138) #[] #[]] w λe w'=>e= .returned (.tuple #[])/\UH flatTg w' lo (GH xs) v/\BelowF (λk=>k<lo) w w':=by
 rcases hr with ⟨h0,rfl⟩|⟨b,c,e,vs,h1,rfl,h3,h4,h5,h6⟩;obtain rfl:=List.length_eq_zero_iff.1 h0;refine(AnyF.slices_SortFunc_none ZkF none 0 (.func (.func 138) #[] #[]) w).mono λe w' ⟨he,hw⟩=> ?_
 subst hw;exact⟨he,.inl ⟨by simp[GH],rfl⟩,BelowF.refl _ _⟩;have hk:∀x:Tg,(flatTg.v x).length=2:=λ_=>rfl
 have h1c:∀x:Tg,∀v∈flatTg.v x,v.oneCell'=true:=λx v hv=>by
  simp only[flatTg,List.mem_cons,List.not_mem_nil,or_false]at hv;rcases hv with rfl|rfl<;>rfl
 have hcmp:CmpLays prog 138 #[] flatTg.v 2 Zlq b 0 xs.toArray.size w:=λ_ _ _ _ x y=>Zof x y _
 have eg:∀args w,(callFunc 138 args).run prog w= .ok (.enter 138 args) w:=enters_of func138 (by kernel_rfl) rfl;have hH:=raw_holds flatTg (c:=c) h4 h5 h6;have hb:b<w.heap.size:=(JF.1 h4).1;have hcon:=AnyQ.slices_SortFunc_total ZkF 2 isAgg25 sizeOf25 flatTg.v hk h1c Zlq Zvn 138 #[] b 0 c xs.toArray w eg hcmp hH hb (by simp;omega) Zvt;have hsz:xs.toArray.size=xs.length:=by simp
 rw[hsz]at hcon;refine hcon.mono λe w' ⟨he,n,os,hw⟩=>⟨he,?_⟩
 have hms:(xs.toArray.toList.mergeSort λx y=> !(ltOf Zlq) y x)=GH xs:=by
  unfold GH leT;simp only[ltT]
 rw[hms]at hw;have hly:(GH xs).length=xs.length:=by unfold GH;simp
 have hrs:=Zh6 flatTg (ys:=GH xs) (n:=n) (os:=os) h1 h3 h4 h5 hly;rw[hly]at hrs;rw[hw];exact hrs
end Go.Proofs.YtepchngegclagaaGreat
