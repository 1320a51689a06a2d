/- Lemmas of the proof. -/
import Derived.Test.YtadgngamdofhiaaGreatPlH
import Derived.Test.YtadgngamdofhiaaGreatXAa
import Derived.Test.YtadgngamdofhiaaGreatXAo
import Derived.Test.YtadgngamdofhiaaGreatXBc
import Derived.Test.YtadgngamdofhiaaGreatXBr
import Derived.Test.YtadgngamdofhiaaGreatXCh
import Derived.Test.YtadgngamdofhiaaGreatXEb
import Derived.Test.YtadgngamdofhiaaGreatXEf
set_option maxHeartbeats 64000000
set_option maxRecDepth 20000
set_option linter.unusedVariables false
set_option linter.unusedSimpArgs false
open Inhabited renaming default→Jd
open Bool renaming true→Ht,false→Hf
open Go.Proofs.Tryz
open Go Go.PL
open Bool renaming and_eq_true→Jc,false_and→Jo,true_and→Jq,eq_iff_iff→Js,and_self→Jv,or_false→Jy,true_eq_false→JE,or_true→JH,not_eq_true'→JI,or_eq_true→JP,and_true→JW
open Classical renaming not_not→JJ
open Gh renaming weak→J3
open Has renaming weak→J2
open Int renaming natCast_nonneg→Ja,le_refl→JB,reduceEq→JZ
open List renaming append_nil→Je,map_append→Jf,length_filter_le→Jg,length_append→Jh,take_of_length_le→Ji,take_sublist→Jj,length_take_le→Jk,filter_cons_of_pos→Jl,length_map→Jn,take_length→Jp,mem_cons→Jr,mem_filter→Jt,filter_cons_of_neg→Ju,map_nil→Jw,any_eq_true→Jz,length_take→JA,length_take_le'→JC,getElem_of_mem→JD,filter_append→JF,filter_filter→JG,all_eq_true→JK,getElem_map→JL,length_drop→JM,not_mem_nil→JN,mem_append→JQ,mem_range→JS,Nodup→JU,map_cons→JX
open Nat renaming zero_le→Jb,le_trans→Jm
open PV renaming nomapL→JO,ids→JR,sl→JT,nomap→JV,str→J5
open Pub renaming clean→J4
open Refs renaming mkSt→JY
namespace Go.Proofs.YtadgngamdofhiaaGreat
open Go.PL
theorem Zg8 (l:List Fd) (o:Opn) (hl:OkFs l):Pp 184 [Zh l,opv o] (.bool (T0 l o)):=by
 have hR:=Ft o;have hlm:l.length<=maxLen:=by have:=hl.n;rw[Zb];omega
 have hI:Pp 175 [Zh l,ref o.at'] (.int .i64 (idx (atF o.at') l)):=F4 l o.at' hlm;unfold T0;obtain⟨id,sch,time,cart,kind,item,at',delta,has,text,drops⟩:=o;simp only at hI ⊢;generalize hq:XD ⟨id,sch,time,cart,kind,item,at',delta,has,text,drops⟩=q at *;cases q;refine ZM func184 rfl ntmps184 results184 ?_;simp only[go_sem,Zh,opv];refine vc6 hR ?_;simp only[go_sem,Jo];simp only[Jq,ZK];by_cases k3:kind=3;have e3:(kind==3)=true:=by simpa using k3
 have e3':(kind !=3)=false:=by simpa using k3
 simp only[e3,Bool.true_or,JE,if_false,if_pos k3];rcases Y0 (atF at') l with h2|⟨g,hg,h2⟩;rw[h2]at hI;have hf:ZD l at'=(Jd,6):=by unfold ZD;rw[h2];rfl
 rw[hf];refine ZM func184 rfl ntmps184 results184 ?_;simp only[go_sem,Zh,opv];refine vc6 hR ?_;simp only[go_sem,e3'];refine vc2 hI ?_;simp only[go_sem,JZ,Jo];rw[h2]at hI;have n1:¬(g:Int)<0:=by omega
 have n2:=Ja g
 have n3:(g:Int)<(l.length:Int):=by omega
 have hf:ZD l at'=(l.getD g Jd,0):=by unfold ZD;rw[h2,if_neg (by omega)];simp
 rw[hf];have ek:((l.getD g Jd).kind==1)=decide ((l.getD g Jd).kind=1):=by rw[Js];simp
 refine ZM func184 rfl ntmps184 results184 ?_;simp only[go_sem,Zh,opv];refine vc6 hR ?_;simp only[go_sem,e3'];refine vc2 hI ?_;simp only[go_sem,e3,n1,n2,n3,Zy hg,fld,ek,Jq];have e3:(kind==3)=false:=by simpa using k3
 have e3':(kind !=3)=true:=by simpa using k3
 by_cases k4:kind=4;have e4:(kind==4)=true:=by simpa using k4
 have e4':(kind !=4)=false:=by simpa using k4
 simp only[e3,e4,JH,JE,if_false,if_neg k3];rcases Y0 (atF at') l with h2|⟨g,hg,h2⟩;rw[h2]at hI;have hf:ZD l at'=(Jd,6):=by unfold ZD;rw[h2];rfl
 rw[hf];refine ZM func184 rfl ntmps184 results184 ?_;simp only[go_sem,Zh,opv];refine vc6 hR ?_;simp only[go_sem,e3',e4'];refine vc2 hI ?_;simp only[go_sem,JZ,Jo];rw[h2]at hI;have n1:¬(g:Int)<0:=by omega
 have n2:=Ja g
 have n3:(g:Int)<(l.length:Int):=by omega
 have hf:ZD l at'=(l.getD g Jd,0):=by unfold ZD;rw[h2,if_neg (by omega)];simp
 rw[hf];have hcs:=hl.c _ (Ze (d:=Jd) hg);have hT:=Zcu (l.getD g Jd) text (by rw[Zb];omega);have ek:((l.getD g Jd).kind==4)=decide ((l.getD g Jd).kind=4):=by rw[Js];simp
 cases has;refine ZM func184 rfl ntmps184 results184 ?_;simp only[go_sem,Zh,opv];refine vc6 hR ?_;simp only[go_sem,e3',e4'];refine vc2 hI ?_;simp only[go_sem,e3,n1,n2,n3,Zy hg,fld,ek,Jq,if_false];refine ZM func184 rfl ntmps184 results184 ?_;simp only[go_sem,Zh,opv];refine vc6 hR ?_;simp only[go_sem,e3',e4'];refine vc2 hI ?_;simp only[go_sem,e3,n1];refine vDq ?_;simp only[go_sem,n1,n2,n3,Zy hg,fld];refine vc2 hT ?_;simp only[go_sem,Jq,if_true];have e4:(kind==4)=false:=by simpa using k4
 have e4':(kind !=4)=true:=by simpa using k4
 refine ZM func184 rfl ntmps184 results184 ?_;simp only[go_sem,Zh,opv];refine vc6 hR ?_;simp only[go_sem,e3',e4',e3,e4,if_true]
open Go.PL
theorem Zax (m:List Eg) (o:Opn) (b:Tg) (hm:OkM m):Pp 137 [egs m,opv o,tg b] (.int .i64 (Xx m o b)):=by
 have hR:=Ft o;have hSa:=Wn m o.sch hm;have hSb:=Wn m b hm;cases h1:XD o;rw[h1]at hR;have ht:Xx m o b=5:=by simp[ Xx,h1]
 rw[ht];refine ZM func137 rfl ntmps137 results137 ?_;simp only[go_sem,egs,tg,opv];refine vc6 hR ?_;simp only[go_sem];rw[h1]at hR;by_cases h2:upC m o.sch=0;have okA:=G9 hm h2;have hF:=Zg8 (Ye (Zd m) o.sch).1 o okA;have v2:(Ye (Zd m) o.sch).2=0:=h2;by_cases h3:upC m b=0;have v3:(Ye (Zd m) b).2=0:=h3;cases h4:T0 (Ye (Zd m) o.sch).1 o;rw[h4]at hF;have ht:Xx m o b=16:=by simp[ Xx,h1,h2,h3,h4]
 rw[ht];clear ht h4 h2 h3 okA;generalize Ye (Zd m) o.sch=ya at *;obtain⟨A,ca⟩:=ya;generalize Ye (Zd m) b=yb at *;obtain⟨B,cb⟩:=yb;simp only at v2 v3 hF;subst v2 v3;refine ZM func137 rfl ntmps137 results137 ?_;simp only[go_sem,egs,tg,opv];refine vc6 hR ?_;simp only[go_sem];refine vc3 hSa ?_;simp only[go_sem,ZP,Zh];refine vc3 hSb ?_;simp only[go_sem,ZP,Zh];refine vc6 hF ?_;simp only[go_sem];rw[h4]at hF;have ht:Xx m o b=0:=by simp[Xx,h1,h2,h3,h4]
 rw[ht];clear ht h4 h2 h3 okA;generalize Ye (Zd m) o.sch=ya at *;obtain⟨A,ca⟩:=ya;generalize Ye (Zd m) b=yb at *;obtain⟨B,cb⟩:=yb;simp only at v2 v3 hF;subst v2 v3;refine ZM func137 rfl ntmps137 results137 ?_;simp only[go_sem,egs,tg,opv];refine vc6 hR ?_;simp only[go_sem];refine vc3 hSa ?_;simp only[go_sem,ZP,Zh];refine vc3 hSb ?_;simp only[go_sem,ZP,Zh];refine vc6 hF ?_;simp only[go_sem];have v3:((Ye (Zd m) b).2 !=0)=true:=by have h':(Ye (Zd m) b).2≠0:=h3;simpa using h'
 have ht:Xx m o b=(Ye (Zd m) b).2:=by
  have e:upC m b=(Ye (Zd m) b).2:=rfl;rw[<-e];simp[Xx,h1,h2,h3]
 rw[ht];clear ht h2 h3 okA;generalize Ye (Zd m) o.sch=ya at *;obtain⟨A,ca⟩:=ya;generalize Ye (Zd m) b=yb at *;obtain⟨B,cb⟩:=yb;simp only at v2 v3 hF;subst v2;refine ZM func137 rfl ntmps137 results137 ?_;simp only[go_sem,egs,tg,opv];refine vc6 hR ?_;simp only[go_sem];refine vc3 hSa ?_;simp only[go_sem,ZP,Zh];refine vc3 hSb ?_;simp only[go_sem,ZP,Zh,v3];have v2:((Ye (Zd m) o.sch).2 !=0)=true:=by have h':(Ye (Zd m) o.sch).2≠0:=h2;simpa using h'
 have ht:Xx m o b=(Ye (Zd m) o.sch).2:=by
  have e:upC m o.sch=(Ye (Zd m) o.sch).2:=rfl;rw[<-e];simp[Xx,h1,h2]
 rw[ht];clear ht h2;generalize Ye (Zd m) o.sch=ya at *;obtain⟨A,ca⟩:=ya;simp only at v2;refine ZM func137 rfl ntmps137 results137 ?_;simp only[go_sem,egs,tg,opv];refine vc6 hR ?_;simp only[go_sem];refine vc3 hSa ?_;simp only[go_sem,ZP,Zh,v2]
theorem Zj9 (m:List Eg) (o:Opn) (b:Tg) (hm:OkM m) (hr:RightM m):Pp 96 [egs m,opv o,tg b] (Sj (toT m o b)):=by
 have hK:=Zax m o b hm;have hA:=Zka m o o.sch b hm hr;unfold toT;by_cases hc:Xx m o b=0;rw[hc]at hK;rw[hc,if_neg (λh=>h rfl)];generalize ZoN m o.sch b o=y at *;obtain⟨q,ok⟩:=y;refine Zx func96 rfl ntmps96 results96 (Ve _) ?_;simp only[go_sem,egs,tg,opv];refine vc6 hK ?_;simp only[go_sem];refine vc6 hA ?_;simp only[go_sem,opb,opv,Sj];rw[if_pos hc];have hc':(Xx m o b !=0)=true:=by simpa using hc
 refine Zx func96 rfl ntmps96 results96 (Ve _) ?_;simp only[go_sem,egs,tg,opv];refine vc6 hK ?_;simp only[go_sem,hc',Sj,Zz];try rfl
theorem Zcz (m:List Eg) (o:Opn) (hm:OkM m):Pp 94 [egs m,opv o] (.bool (X9 m o)):=by
 have hK:=Zax m o Jd hm;have e:(Xx m o Jd==0)=X9 m o:=by
  rw[Js,beq_iff_eq];exact Zkt
 refine ZM func94 rfl ntmps94 results94 ?_;simp only[go_sem,egs,opv];refine YD hK ?_ ?_ ?_;iterate 2 simp only[go_sem,egs,opv,SS]
 simp only[go_sem,e]
open Go.PL Go.PL.Srt
theorem ZaB (a b:Opn):Pp 83 [opv a,opv b] (.bool (ZJ a b)):=by
 have hT:=ZaD a.id b.id;unfold ZJ;by_cases h:a.time=b.time;have e1:¬a.time<b.time:=by omega
 have e2:(a.time==b.time)=true:=by simpa using h
 rw[if_pos h];refine ZM func83 rfl ntmps83 results83 ?_;simp only[go_sem,opv,e1,e2];refine vc3 hT ?_;simp only[go_sem];have e2:(a.time==b.time)=false:=by simpa using h
 rw[if_neg h];by_cases e1:a.time<b.time;refine ZM func83 rfl ntmps83 results83 ?_;simp only[go_sem,opv,e1,e2];refine ZM func83 rfl ntmps83 results83 ?_;simp only[go_sem,opv,e1,e2]
theorem ZrU {l:List Tg} {t:Tg}:0<=idx (λx=>decide (x=t)) l↔t∈l:=by
 unfold idx;cases h:l.findIdx? λx=>decide (x=t)with
 |none=>
  rw[List.findIdx?_eq_none_iff]at h;refine⟨λhh=>absurd hh (by decide),λhm=> ?_⟩;simpa using h t hm
 |some i=>
  obtain⟨h1,h2,_⟩:=List.findIdx?_eq_some_iff_getElem.1 h;refine⟨λ_=> ?_,λ_=>Ja i⟩;have:l[i]=t:=by simpa using h2
  rw[<-this];exact List.getElem_mem h1
def drO (m:List Eg) (o:Opn) (t:Tg):Bool:=decide (t∈o.drops)&&X9 m o
theorem ZmC (m:List Eg) (l:List Opn) (t:Tg):XQ (X8 m l) t=l.any λo=>drO m o t:=by
 rw[Js];simp only[XQ,X8,Jz,Jt,drO,Jc,decide_eq_true_eq];exact⟨λ⟨o,⟨h1,h2⟩,h3⟩=>⟨o,h1,h3,h2⟩,λ⟨o,h1,h3,h2⟩=>⟨o,⟨h1,h2⟩,h3⟩⟩
theorem ZdJ (m:List Eg) (l:List Opn) (t:Tg) (hm:OkM m) (hl:l.length<=100000) (ho:∀o∈l,OkOp o):Pp 95 [egs m,Zu l,tg t] (.bool (XQ (X8 m l) t)):=by
 have hlm:l.length<=maxLen:=by rw[Zb];omega
 rw[ZmC];refine ZM func95 rfl ntmps95 results95 ?_;simp only[go_sem,egs,Zu,tg];refine Zs (ι:= { x:Nat // x<=(l).length/\(∀j,j<x->drO m (l.getD j Jd) t=Hf) }) 30 (λx=> [(0,egs m),(1,Zu l),(5,.ptr 5 0),(7,.int .i64 (x.1:Int))]) (λx=> [(5,[.int .i64 t.r,.int .i64 t.n],Hf)]) (λx=> []) (λx=>(l).length-x.1) ⟨0,Jb _,λj hj=>absurd hj (Nat.not_lt_zero j)⟩ ⟨rfl,(Fc4 rfl rfl rfl rfl),(fcs ⟨rfl,rfl⟩ fnl),fnl⟩ (λx=>⟨(Fc4 rfl rfl rfl rfl),(fcs rfl fnl)⟩) (λx=> ?_);obtain⟨k,hk,hI⟩:=x;simp only at hk hI ⊢;by_cases h:(k:Int)<(l.length:Int)
 (have hka:k<(l).length:=by omega);(have w1:=Xi hka (hlm));(have i1:=Ja k)
 have hR:=Zcz m (l.getD k Jd) hm;have hH:=Zcw (l.getD k Jd).drops t (by have:=(ho _ (Zp (d:=Jd) hka)).d;rw[Zb];omega);have hmem:=ZrU (l:=(l.getD k Jd).drops) (t:=t);have hdr:drO m (l.getD k Jd) t=(decide (t∈(l.getD k Jd).drops)&&X9 m (l.getD k Jd)):=rfl;have hat:drO m (l.getD k Jd) t=Ht->(l.any λo=>drO m o t)=true:=λhh=>Jz.2 ⟨_,Ze hka,hh⟩
 generalize hx:l.getD k Jd=x at *;generalize idx (λy=>decide (y=t)) x.drops=q at *;by_cases hq:0<=q;rw[decide_eq_true (hmem.1 hq),Jq]at hdr;cases hrd:X9 m x
 ·rw[hrd]at hR hdr;simp only[go_sem,egs,Zu,h];refine vDq ?_;simp only[go_sem,Zu,h,Zw hka,hx,opv,i1];refine vc3 hH ?_;simp only[go_sem,hq,Zu,h,Zw hka,hx,opv,i1];refine vc6 hR ?_;simp only[go_sem,w1];exact⟨⟨k+1,by(try simp only);omega,Zm hI (by rw[hx];exact hdr)⟩,by show(l).length-(k+1)<(l).length-k;omega,⟨rfl,(Fc4 rfl rfl rfl rfl),(fcs ⟨rfl,rfl⟩ fnl),fnl⟩⟩
 rw[hrd]at hR hdr;have hz:=hat hdr;simp only[go_sem,egs,Zu,h];refine vDq ?_;simp only[go_sem,Zu,h,Zw hka,hx,opv,i1];refine vc3 hH ?_;simp only[go_sem,hq,Zu,h,Zw hka,hx,opv,i1];refine vc6 hR ?_;simp only[go_sem,hz]
 ·rw[decide_eq_false λhh=>hq (hmem.2 hh),Jo]at hdr;simp only[go_sem,egs,Zu,h];refine vDq ?_;simp only[go_sem,Zu,h,Zw hka,hx,opv,i1];refine vc3 hH ?_;simp only[go_sem,hq,w1];exact⟨⟨k+1,by(try simp only);omega,Zm hI (by rw[hx];exact hdr)⟩,by show(l).length-(k+1)<(l).length-k;omega,⟨rfl,(Fc4 rfl rfl rfl rfl),(fcs ⟨rfl,rfl⟩ fnl),fnl⟩⟩
 have hz:(l.any λo=>drO m o t)=false:=by
  rw[List.any_eq_false];intro o ho';obtain⟨j,hj,rfl⟩:=JD ho';have:=hI j (by omega);rw[getD_lt hj]at this;rw[this];simp
 simp only[go_sem,Zu,h,hz]
theorem Zhd (m:List Eg) (l:List Opn) (b:Tg) (hm:OkM m) (hr:RightM m) (hl:l.length<=100000):Pp 47 [egs m,Zu l,tg b] (Zu (YK m l b)):=by
 have hlm:l.length<=maxLen:=by rw[Zb];omega
 refine Zx func47 rfl ntmps47 results47 (U2 _) ?_;simp only[go_sem,egs,Zu,tg];refine ZL 7 12 38 0 15 62 [] rfl rfl rfl ?_;refine Zs (ι:= { x:Nat // x<=(l).length }) 40 (λx=> [(0,egs m),(1,Zu l),(5,.ptr 5 0),(7,.sl (.row 38) ((YK m (l.take x.1) b).map opv)),(8,.int .i64 (x.1:Int))]) (λx=> [(5,[.int .i64 b.r,.int .i64 b.n],Hf)]) (λx=> [(38,.live ((YK m (l.take x.1) b).length) (15) (62))]) (λx=>(l).length-x.1) ⟨0,Jb _⟩ ⟨rfl,(Fc5 rfl rfl rfl rfl rfl),(fcs ⟨rfl,rfl⟩ fnl),(fcs rfl fnl)⟩ (λx=>⟨(Fc5 rfl rfl rfl (by simp[JR,ZX]) rfl),(fcs rfl fnl)⟩) (λx=> ?_);obtain⟨k,hk⟩:=x;simp only at hk ⊢;by_cases h:(k:Int)<(l.length:Int)
 (have hka:k<(l).length:=by omega);(have w1:=Xi hka (hlm));(have i1:=Ja k)
 have hT:=Zj9 m (l.getD k Jd) b hm hr;have hsn:=Zdo m b hka;have hsl:=Ug m (l.take k) b;have htl:(l.take k).length<=k:=Jk _ _;have hrm:=Ya (show(YK m (l.take k) b).length+1<=1000000 by omega) (show 176<=1000 by omega);have hml:((YK m (l.take k) b).map opv).length=(YK m (l.take k) b).length:=Jn _;have hsz:=Yv (YK m (l.take k) b);generalize toT m (l.getD k Jd) b=y at *;obtain⟨yo,yk,yc⟩:=y;have hsx:Sized 15 [opv yo]:=Yv [yo];have hax:XO [opv yo]:=WE [yo];generalize hx:l.getD k Jd=x at *;simp only at hsn;simp only[opv]at hsx hax;cases k0:(yc==0);rw[k0,Jo,if_neg (by simp),Je]at hsn;simp only[go_sem,egs,Zu,h];refine vDq ?_;simp only[go_sem,Zu,h,Zw hka,hx,opv,i1];refine vc6 hT ?_;simp only[go_sem,Sj,opv,k0,w1];exact⟨⟨k+1,by omega⟩,nx9 (by omega),⟨rfl,by simp only;rw[hsn];exact(Fc5 rfl rfl rfl rfl rfl),fcs ⟨rfl,rfl⟩ fnl,by simp only;rw[hsn];exact fcs rfl fnl⟩⟩;cases k1:yk;rw[k1,Bool.and_false,if_neg (by simp),Je]at hsn;simp only[go_sem,egs,Zu,h];refine vDq ?_;simp only[go_sem,Zu,h,Zw hka,hx,opv,i1];refine vc6 hT ?_;simp only[go_sem,Sj,opv,k0,k1,w1];exact⟨⟨k+1,by omega⟩,nx9 (by omega),⟨rfl,by simp only;rw[hsn];exact(Fc5 rfl rfl rfl rfl rfl),fcs ⟨rfl,rfl⟩ fnl,by simp only;rw[hsn];exact fcs rfl fnl⟩⟩;rw[k0,k1,Jv,if_pos rfl]at hsn;simp only[go_sem,egs,Zu,h];refine vDq ?_;simp only[go_sem,Zu,h,Zw hka,hx,opv,i1];refine vc6 hT ?_;simp only[go_sem,Sj,opv,k0,k1,w1,hml,hsz,hrm,hsx,hax];exact⟨⟨k+1,by omega⟩,nx9 (by omega),⟨rfl,by simp only;rw[hsn,Jf];exact(Fc5 rfl rfl rfl rfl rfl),fcs ⟨rfl,rfl⟩ fnl,by simp only;rw[hsn,Jh];exact fcs rfl fnl⟩⟩;have htk:l.take k=l:=Ji (by omega);simp only[go_sem,Zu,h,htk]
open Go.PL Go.PL.Srt
theorem Zm6 {m:List Eg} {ops:List Opn} {cart it:Str} (h:it∈Xc (Xk m ops) cart):Yj it=true:=by
 obtain⟨o,h1,h2,_,h4⟩:=Zm8 h;have hr:=Zbg h1;simp only[X9,Jc]at hr;have hr:=hr.1;simp only[XD,Jc,JI,Bool.and_eq_false_iff,Bool.not_eq_false']at hr;have:=hr.2.2.2.2.1;rcases this with h|h;simp[FT,h2]at h;rw[<-h4];exact h
theorem ZlG {m:List Eg} (hm:OkM m) (hr:RightM m) {a:Tg} (hu:upC m a=0) {ops:List Opn} {cart:Str} (hn:ops.length<=400):
  YB (Ye (Zd m) a).1 ⟨WV (Ye (Zd m) a).1 (YK m (Yq (Xk m ops) cart) a) 0 [],(Xc (Xk m ops) cart).map λi=>⟨i,WV (Ye (Zd m) a).1 (YK m (Yq (Xk m ops) cart) a) 1 i⟩⟩=true:=by
 have hl:=ZbE hr hu;have hmine:∀o∈Yq (Xk m ops) cart,X9 m o=true:=λo ho=>Zbg (Jt.1 ho).1
 have hS:=Zjq hm hr hu hmine;rw[<-Si hu hmine]at hS;have hsl:(YK m (Yq (Xk m ops) cart) a).length<=400:=by
  have h1:=Ug m (Yq (Xk m ops) cart) a;have h2:(Yq (Xk m ops) cart).length<=(Xk m ops).length:=Jg _ _;have h3:=Uv m ops;omega
 have hit:=GZ (Xk m ops) cart;have hli:=Uv m ops;have hinc:=ZfT (Xk m ops) cart;have hname:∀i∈Xc (Xk m ops) cart,Yj i=true:=λi hi=>Zm6 hi
 generalize YK m (Yq (Xk m ops) cart) a=S at *;generalize Xc (Xk m ops) cart=I at *;generalize (Ye (Zd m) a).1=F at *;unfold YB T4;simp only[hl,Jq,Jc,Jn,ZcP hl hS hsl,JW,JI,decide_eq_false_iff_not,JK,JS];refine⟨by omega,λi hi=> ?_⟩;have hg:∀j,j<I.length->(I.map λi=>(⟨i,WV F S 1 i⟩:Rw)).getD j Jd=⟨I.getD j [],WV F S 1 (I.getD j [])⟩:=λj hj=>by
  rw[getD_lt (by simpa using hj),getD_lt hj,JL]
 unfold XT;rw[hg i hi];simp only[ZcP hl hS hsl,JW,Jc,JP,decide_eq_true_eq];refine⟨hname _ (Ze hi),?_⟩;by_cases h0:i=0;exact .inl h0;right;rw[hg (i-1) (by omega)];rw[List.pairwise_iff_getElem]at hinc;have:=hinc (i-1) i (by omega) hi (by omega);rw[getD_lt (by omega),getD_lt hi];exact this
theorem Dx {m:List Eg} {l:List Opn} {cart:Str} {b:Tg} (h:(ZT m l cart b).2=0):upC m b=0/\ZT m l cart b=(⟨WV (Ye (Zd m) b).1 (YK m (Yq (Xk m l) cart) b) 0 [],(Xc (Xk m l) cart).map λi=>⟨i,WV (Ye (Zd m) b).1 (YK m (Yq (Xk m l) cart) b) 1 i⟩⟩,0):=by
 unfold ZT at h ⊢;split at h;simp at h;rename_i h1;split at h;simp at h;rename_i h2;split at h;rename_i h3;exact absurd h h3;rename_i h3;rw[if_neg h1,if_neg h2,if_neg h3,Zc6];exact⟨JJ.1 h3,rfl⟩
end Go.Proofs.YtadgngamdofhiaaGreat
namespace Go.PL
open Srt
section
variable {s:St}
theorem Gh.plainB {b j d:Nat} {es cs:List PV} (hb:s.m.h b=some cs) (hz:s.m.z b=Hf) (hj:j<cs.length) (hjd:cs.getD j .any= .sl (.row d) es):
  Gh s (s.with { s.m with h:=upd s.m.h b (some (cs.set j (.sl .no es))) }):=λB S M a w hs=>by
 have hB:=hs.blk b cs hb;rw[hz]at hB;obtain⟨_,_,_,h6⟩:=hB;refine⟨S,M,hs.tellBlk hb hz List.length_set (λk v hk hr=> ?_) (λc hc i hi=> ?_),Ext.refl _ _ _⟩;by_cases ek:j=k;subst ek;rw[ZmT hj];rw[hjd]at hr;exact .clean hr.sl_inv;rw[ZfP ek];exact hr;rcases List.mem_or_eq_of_mem_set hc with hc|rfl;exact h6 c hc i hi;simp[JR]at hi
end
end Go.PL
namespace Go.Proofs.YtadgngamdofhiaaGreat
open Go.PL Go.PL.Srt
theorem Zg1 (m:List Eg) (l:List Opn) (hm:OkM m) (hl:l.length<=100000) (ho:∀o∈l,OkOp o) (hU:(l.map Opn.id).Nodup):Pp 46 [egs m,Zu l] (Zu (Xk m l)):=by
 have hL:=λa b=>ZaB a b
 rw[<-Zpm];refine Zx func46 rfl ntmps46 results46 (U2 _) ?_;simp only[go_sem,egs,Zu];refine ZgL (ι:= { k:Nat // k<=l.length }) 69 (λx=> [(0,egs m),(1,Zu l),(5,Zu (ZiF m l x.1)),(6,.int .i64 (x.1:Int))]) (λx=> []) (λx=> []) (λx=>l.length-x.1) ⟨0,Jb _⟩
  ⟨rfl,Fc4 (.same rfl) (.same rfl) (.row 9 []) (.same rfl),fnl,fnl⟩ (λx=>⟨(Fc4 rfl rfl rfl rfl),fnl⟩) (λx=> ?_)
 obtain⟨k,hk⟩:=x;simp only;have hlen:=Zpn m l k;by_cases hlt:(k:Int)<(l.length:Int);have hka:k<l.length:=by omega
 have i0:=Ja k
 have w1:=wk9 (k:=k) (by omega)
 have hs:=Zl6 m hU hka;have hgd:=Zw hka;have hR:=Zcz m (l.getD k Jd) hm;have hD:=ZdJ m l (l.getD k Jd).id hm hl ho;have hab:Ztz m l (l.getD k Jd)=(X9 m (l.getD k Jd)&& !XQ (X8 m l) (l.getD k Jd).id):=rfl;generalize ZiF m l k=out at *;generalize hs2:ZiF m l (k+1)=out2 at *;generalize he:l.getD k Jd=e at *;generalize XQ (X8 m l) e.id=dr at *;cases hr:X9 m e;rw[hr]at hR hab;rw[hab,Jo,if_neg (by simp)]at hs;simp only[go_sem,egs,Zu,hlt,hgd,i0,opv];refine vc6 hR ?_;simp only[go_sem,w1];refine⟨⟨k+1,by omega⟩,nx9 (by omega),?_⟩;simp only[hs2,hs];exact⟨rfl,Fc4 (.same rfl) (.same rfl) (.same rfl) (.same rfl),fnl,fnl⟩;rw[hr]at hR hab;cases hdr:dr;rw[hdr]at hD hab;rw[hab,if_pos (by rfl)]at hs;have hpl:=Zh2 out e;have hX:out2.map opv=(out.take (Wf out e)).map opv++ [opv e]++(out.drop (Wf out e)).map opv:=by
  rw[hs];simp only[Jf,JX,Jw]
 have hpI:((Wf out e:Nat):Int)<=(out.length:Int):=by omega
 have hlp:(out.take (Wf out e)).length=Wf out e:=by rw[JA];omega
 have hld:(out.drop (Wf out e)).length=out.length-Wf out e:=by rw[JM]
 have hrm1:=Ya (show Wf out e<=1000000 by omega) (show 176<=1000 by omega);have hrm2:=Ya (show Wf out e+1<=1000000 by omega) (show 176<=1000 by omega);have hrm3:=Ya (show Wf out e+1+(out.length-Wf out e)<=1000000 by omega) (show 176<=1000 by omega);have hs1:∀(a:List Opn),Sized 15 (a.map opv++ [opv e]):=λa=>by have:=Yv (a++ [e]);rwa[Jf]at this
 simp only[go_sem,egs,Zu,hlt,hgd,i0,opv];refine vc6 hR ?_;simp only[go_sem,hgd,i0,hlt,opv];refine vc7 hD ?_;simp only[go_sem];refine Zs (ι:= { j:Nat // j<=Wf out e }) 69 (λx=> [(0,egs m),(1,Zu l),(5,Zu out),(6,.int .i64 (k:Int)),(7,.int .i64 (x.1:Int))]) (λx=> []) (λx=> []) (λx=>Wf out e-x.1) ⟨0,Jb _⟩ ⟨rfl,(Fc5 rfl rfl rfl rfl rfl),fnl,fnl⟩ (λx=>⟨(Fc5 rfl rfl rfl rfl rfl),fnl⟩) (λx=> ?_);obtain⟨j,hj⟩:=x;simp only;by_cases hjl:(j:Int)<(out.length:Int);have hja:j<out.length:=by omega
 have j0:=Ja j
 have hgj:=Zw hja;by_cases hjp:j<Wf out e;have ht:=Zeu out e j hjp;have w2:=wk9 (k:=j) (by omega)
 simp only[go_sem,Zu,hjl];refine vDq ?_;simp only[go_sem,Zu,hjl,hgd,hgj,opv,i0,j0,hlt];refine vc6 (hL e (out.getD j Jd)) ?_;simp only[go_sem,ht,w2];exact⟨⟨j+1,by omega⟩,by show Wf out e-(j+1)<Wf out e-j;omega,⟨rfl,(Fc5 rfl rfl rfl rfl rfl),fnl,fnl⟩⟩;obtain rfl:j=Wf out e:=by omega
 have ht:=De out e hja;simp only[go_sem,Zu,hjl];refine vDq ?_;simp only[go_sem,Zu,hjl,hgd,hgj,opv,i0,j0,hlt];refine vc6 (hL e (out.getD (Wf out e) Jd)) ?_;simp only[go_sem,ht,hgd,i0,j0,hpI,hlt,Vn,GP,Yv,hs1,WE,hrm1,hrm2,hrm3,hlp,hld,Jh,w1,opv];refine⟨JB _,hs1 _,⟨k+1,by omega⟩,nx9 (by omega),?_⟩;simp only[hs2,Zu,hX];exact⟨rfl,Fc4 (.same rfl) (.same rfl) (.row 67 _) (.same rfl),fnl,fnl⟩;obtain rfl:j=Wf out e:=by omega
 have j0:(0:Int)<=((Wf out e:Nat):Int):=by omega
 simp only[go_sem,Zu,hjl];refine vDq ?_;simp only[go_sem,Zu,hjl,hgd,i0,j0,hpI,hlt,Vn,GP,Yv,hs1,WE,hrm1,hrm2,hrm3,hlp,hld,Jh,w1,opv];refine⟨JB _,hs1 _,⟨k+1,by omega⟩,nx9 (by omega),?_⟩;simp only[hs2,Zu,hX];exact⟨rfl,Fc4 (.same rfl) (.same rfl) (.row 67 _) (.same rfl),fnl,fnl⟩;rw[hdr]at hD hab;rw[hab,if_neg (by simp)]at hs;simp only[go_sem,egs,Zu,hlt,hgd,i0,opv];refine vc6 hR ?_;simp only[go_sem,hgd,i0,hlt,opv];refine vc7 hD ?_;simp only[go_sem,w1];refine⟨⟨k+1,by omega⟩,nx9 (by omega),?_⟩;simp only[hs2,hs];exact⟨rfl,Fc4 (.same rfl) (.same rfl) (.same rfl) (.same rfl),fnl,fnl⟩;obtain rfl:k=l.length:=by omega
 simp only[go_sem,Zu,hlt]
open Go.PL Go.PL.Srt
theorem Fv (f:Fd) (hk:f.kind=1\/f.kind=4):Pp 140 [fld f] (.agg [.int .i64 f.at'.sc,.str f.at'.gr,.str f.at'.nm,.int .i64 0,.sl .nil []]):=by
 refine PL.Pure.of_p [] func140 (by decide) rfl ntmps140 results140 (by simp) rfl ?_;rcases hk with h1|h4;have k1:(f.kind==1)=true:=by rw[h1];rfl
 simp only[go_sem,fld,k1];exact⟨_,rfl,J4 rfl⟩;have k1:(f.kind==1)=false:=by rw[h4];rfl
 have k4:(f.kind==4)=true:=by rw[h4];rfl
 simp only[go_sem,fld,k1,k4];exact⟨_,rfl,J4 rfl⟩
theorem Zad {S:List Opn} {k:Nat} (p:Opn->Bool) (h:k<S.length):(S.take (k+1)).filter p=(S.take k).filter p++(if p (S.getD k Jd)=Ht then [S.getD k Jd]else []):=by
 rw[Z0 (d:=Jd) h,JF];congr 1;generalize S.getD k Jd=x;cases hr:p x;rw[Ju (by rw[hr];simp),if_neg (by simp)];rfl;rw[Jl (by exact hr),if_pos rfl];rfl
theorem ZmE (l:List Opn) (o:Opn):Fz (l++ [o])=Fz l+o.delta:=by simp[Fz]
theorem Zdw (l:List Opn) (o:Opn):ZV (l++ [o])=ZV l++(if(o.kind==4&&o.has)=Ht then [o.text]else []):=by
 unfold ZV;rw[JF,Jf];congr 1;cases hr:(o.kind==4&&o.has);rw[Ju (by rw[hr];simp),if_neg (by simp)];rfl;rw[Jl (by exact hr),if_pos rfl];rfl
def gtC (i:Nat):List Str->PV
 | []=> .sl .nil []
 |x::l=> .sl (.row i) ((x::l).map .str)
def gtR (i:Nat):List Str->List (Nat×Row)
 | []=> []
 |x::l=> [(i,.live (x::l).length 1 9)]
theorem ZmU (i:Nat):gtC i []= .sl .nil []:=rfl
theorem ZmV (i:Nat):gtR i []= []:=rfl
theorem Zi0 (i:Nat) (x:Str) (l:List Str):gtC i (x::l)= .sl (.row i) ((x::l).map .str):=rfl
theorem Zd8 (i:Nat) (x:Str) (l:List Str):gtR i (x::l)= [(i,.live (x::l).length 1 9)]:=rfl
def Znd (W:List Str) (d:Str):List Str:=if W.length=0 then [d]else [W.getD (W.length-1) []]
theorem ZkQ (W:List Str) (d t:Str):Znd (W++ [t]) d= [t]:=by
 unfold Znd;rw[if_neg (by simp)];simp
theorem Ze2 (f:Fd) (S:List Opn) (c it:Str) (hl:S.length<=1000) (hf:f.kind=1) (hSm:Sm (S.filter (Vy c it f.at'))):Pp 97 [fld f,Zu S,.str c,.str it] (ent ⟨f.at',Fz (S.filter (Vy c it f.at')),[]⟩):=by
 have hV:=Fv f (.inl hf);have hlm:S.length<=maxLen:=by rw[Zb];omega
 have ef1:(f.kind==1)=true:=by rw[hf];rfl
 have ef2:(f.kind==2)=false:=by rw[hf];rfl
 have ef3:(f.kind==3)=false:=by rw[hf];rfl
 have ef4:(f.kind==4)=false:=by rw[hf];rfl
 refine Zx func97 rfl ntmps97 results97 (Xq _) ?_;simp only[go_sem,fld,Zu];refine vc2 hV ?_;simp only[go_sem,ent];refine Zs (ι:= { x:Nat // x<=(S).length }) 96 (λx=> [(1,Zu S),(2,.str c),(3,.str it),(4,.ptr 4 0),(8,.ptr 8 0),(9,.ptr 9 0),(10,.int .i64 (x.1:Int))]) (λx=> [(4,[.int .i64 f.at'.sc,.str f.at'.gr,.str f.at'.nm,.int .i64 f.kind,.str f.df,.sl .no (f.cases'.map .str),.int .i64 f.worth],Hf),(8,[.int .i64 0,.str [],.str [],.int .i64 0,.sl .nil []],Hf),(9,[.int .i64 f.at'.sc,.str f.at'.gr,.str f.at'.nm,.int .i64 (Fz ((S.take x.1).filter (Vy c it f.at'))),.sl .nil []],Hf)]) (λx=> []) (λx=>(S).length-x.1) ⟨0,Jb _⟩ ⟨rfl,(Fc7 rfl rfl rfl rfl rfl rfl rfl),(Fc3 ⟨rfl,rfl⟩ ⟨rfl,rfl⟩ ⟨rfl,rfl⟩),fnl⟩ (λx=>⟨(Fc7 rfl rfl rfl rfl rfl rfl rfl),(Fc3 rfl rfl rfl)⟩) (λx=> ?_);obtain⟨k,hk⟩:=x;simp only at hk ⊢;by_cases h:(k:Int)<(S.length:Int)
 (have hka:k<(S).length:=by omega);(have w1:=Xi hka (hlm));(have i1:=Ja k)
 have hsn:=Zad (Vy c it f.at') hka;have hT:∀o∈(S.take (k+1)).filter (Vy c it f.at'),o∈S.filter (Vy c it f.at'):=λo ho=>((Jj _ _).filter _).mem ho
 have hTl:((S.take k).filter (Vy c it f.at')).length<=1000:=Jm (Jg _ _) (Jm (Jk _ _) (by omega));have hlim:=GT (l:=(S.take k).filter (Vy c it f.at')) (λo ho=>hSm o (((Jj _ _).filter _).mem ho));generalize (S.take k).filter (Vy c it f.at')=T at *;generalize hT2:(S.take (k+1)).filter (Vy c it f.at')=T2 at *;generalize hx:S.getD k Jd=x at *;have skip:Vy c it f.at' x=Hf->T2=T:=λhh=>by rw[hsn,hh];simp
 cases k1:(x.cart==c);obtain rfl:=skip (by simp[Vy,k1]);simp only[go_sem,Zu,h,Zw hka,hx,opv,i1,k1,w1];exact⟨⟨k+1,by omega⟩,nx9 (by omega),⟨rfl,(Fc7 rfl rfl rfl rfl rfl rfl rfl),Fc3 ⟨rfl,rfl⟩ ⟨rfl,rfl⟩ ⟨by simp only;rw[hT2];rfl,rfl⟩,fnl⟩⟩;cases k2:(x.item==it);obtain rfl:=skip (by simp[Vy,k1,k2]);simp only[go_sem,Zu,h,Zw hka,hx,opv,i1,k1,k2,w1];exact⟨⟨k+1,by omega⟩,nx9 (by omega),⟨rfl,(Fc7 rfl rfl rfl rfl rfl rfl rfl),Fc3 ⟨rfl,rfl⟩ ⟨rfl,rfl⟩ ⟨by simp only;rw[hT2];rfl,rfl⟩,fnl⟩⟩;by_cases k3:x.at'=f.at';have hown:Vy c it f.at' x=true:=by simp[Vy,k1,k2,k3]
 rw[hown,if_pos rfl]at hsn;obtain⟨x3,x4,x5⟩:=hSm x (hT x (by rw[hsn];simp));have e3:(x.kind==3)=true:=by rw[x3];rfl
 have hds:=ZmE T x;rw[<-hsn]at hds;have ww:IntKind.i64.wrap (Fz T+x.delta)=Fz T+x.delta:=w64 (by omega);simp only[go_sem,Zu,h,Zw hka,hx,opv,i1,k1,k2,Zr,k3,ef1,ef2,ef3,ef4,e3,ww,w1];exact⟨⟨k+1,by omega⟩,nx9 (by omega),⟨rfl,(Fc7 rfl rfl rfl rfl rfl rfl rfl),Fc3 ⟨rfl,rfl⟩ ⟨rfl,rfl⟩ ⟨by simp only;rw[hT2,hds];rfl,rfl⟩,fnl⟩⟩;obtain rfl:=skip (by simp[Vy,k3]);simp only[go_sem,Zu,h,Zw hka,hx,opv,i1,k1,k2,Zr,k3,w1];exact⟨⟨k+1,by omega⟩,nx9 (by omega),⟨rfl,(Fc7 rfl rfl rfl rfl rfl rfl rfl),Fc3 ⟨rfl,rfl⟩ ⟨rfl,rfl⟩ ⟨by simp only;rw[hT2];rfl,rfl⟩,fnl⟩⟩;have htk:S.take k=S:=Ji (by omega);simp only[go_sem,Zu,h,htk,ent]
theorem Ze1 (f:Fd) (S:List Opn) (c it:Str) (hl:S.length<=1000) (hf:f.kind=4):Pp 97 [fld f,Zu S,.str c,.str it] (ent ⟨f.at',0,ZV (S.filter (Vy c it f.at'))⟩):=by
 have hV:=Fv f (.inr hf);have hlm:S.length<=maxLen:=by rw[Zb];omega
 have ef1:(f.kind==1)=false:=by rw[hf];rfl
 have ef2:(f.kind==2)=false:=by rw[hf];rfl
 have ef3:(f.kind==3)=false:=by rw[hf];rfl
 have ef4:(f.kind==4)=true:=by rw[hf];rfl
 refine Zx func97 rfl ntmps97 results97 (Xq _) ?_;simp only[go_sem,fld,Zu];refine vc2 hV ?_;simp only[go_sem,ent];refine Zs (ι:= { k:Nat // k<=S.length }) 96 (λx=> [(1,Zu S),(2,.str c),(3,.str it),(4,.ptr 4 0),(8,.ptr 8 0),(9,.ptr 9 0),(10,.int .i64 (x.1:Int))]) (λx=> [(4,[.int .i64 f.at'.sc,.str f.at'.gr,.str f.at'.nm,.int .i64 f.kind,.str f.df,.sl .no (f.cases'.map .str),.int .i64 f.worth],Hf),(8,[.int .i64 0,.str [],.str [],.int .i64 0,.sl .nil []],Hf),(9,[.int .i64 f.at'.sc,.str f.at'.gr,.str f.at'.nm,.int .i64 0,gtC 72 (ZV ((S.take x.1).filter (Vy c it f.at')))],Hf)]) (λx=>gtR 72 (ZV ((S.take x.1).filter (Vy c it f.at')))) (λx=>S.length-x.1) ⟨0,Jb _⟩
  ⟨rfl,(Fc7 rfl rfl rfl rfl rfl rfl rfl),Fc3 ⟨rfl,rfl⟩ ⟨rfl,rfl⟩ ⟨rfl,rfl⟩,fnl⟩ (λx=> ?_) (λx=> ?_)
 generalize ZV ((S.take x.1).filter (Vy c it f.at'))=W;cases W with
 |nil=>exact⟨(Fc7 rfl rfl rfl rfl rfl rfl rfl),(Fc3 rfl rfl rfl)⟩
 |cons w W=>exact⟨(Fc7 rfl rfl rfl rfl rfl rfl rfl),Fc3 rfl rfl (by simp[gtC,gtR,JR,PV.idsL,ZX])⟩
 obtain⟨k,hk⟩:=x;simp only;by_cases h:(k:Int)<(S.length:Int);have hka:k<S.length:=by omega
 have i1:=Ja k
 have w1:=Xi hka hlm;have hsn:=Zad (Vy c it f.at') hka;have hTl:((S.take k).filter (Vy c it f.at')).length<=1000:=Jm (Jg _ _) (Jm (Jk _ _) (by omega));have hWl:=U7 ((S.take k).filter (Vy c it f.at'));have hts:=Zdw ((S.take k).filter (Vy c it f.at')) (S.getD k Jd);have hr0:=Ya (show 1<=1000000 by omega) (show 16<=1000 by omega);generalize hx:S.getD k Jd=x at *;by_cases ho:Vy c it f.at' x=Ht/\(x.kind==4&&x.has)=Ht;obtain⟨ho,ho2⟩:=ho;rw[ho,if_pos rfl]at hsn;rw[<-hsn,ho2,if_pos rfl]at hts;clear hsn;generalize ZV ((S.take k).filter (Vy c it f.at'))=W at *;simp only[Vy,Jc,decide_eq_true_eq]at ho ho2;obtain⟨k1,k2,k3⟩:=ho;obtain⟨q1,q2⟩:=ho2;cases W with
 |nil=>
  rw[ZmU,ZmV];simp only[go_sem,Zu,h,Zw hka,hx,opv,i1,k1,k2,Zr,k3,ef1,ef2,ef3,ef4,q1,q2,w1];refine⟨hr0,⟨k+1,by omega⟩,nx9 (by omega),?_⟩;simp only;rw[hts];exact⟨rfl,(Fc7 rfl rfl rfl rfl rfl rfl rfl),Fc3 ⟨rfl,rfl⟩ ⟨rfl,rfl⟩ ⟨rfl,rfl⟩,fcs rfl fnl⟩
 |cons w W=>
  have hrm:=Ya (show(w::W).length+1<=1000000 by omega) (show 16<=1000 by omega);have hml:((w::W).map J5).length=(w::W).length:=Jn _;have hsz:=Fh (w::W);have hap:((w::W)++ [x.text]).map J5=(w::W).map J5++ [.str x.text]:=by simp
  rw[Zi0,Zd8];have hne3:gtC 72 (w::W++ [x.text])= .sl (.row 72) ((w::W).map .str++ [.str x.text]):=by rw[<-hap];rfl
  have hne4:gtR 72 (w::W++ [x.text])= [(72,.live ((w::W).length+1) 1 9)]:=by rw[List.cons_append,Zd8];simp
  generalize w::W=V at *;simp only[go_sem,Zu,h,Zw hka,hx,opv,i1,k1,k2,Zr,k3,ef1,ef2,ef3,ef4,q1,q2,w1,hrm,hml,hsz];refine⟨⟨k+1,by omega⟩,nx9 (by omega),?_⟩;simp only;rw[hts,hne3,hne4];exact⟨rfl,(Fc7 rfl rfl rfl rfl rfl rfl rfl),Fc3 ⟨rfl,rfl⟩ ⟨rfl,rfl⟩ ⟨rfl,rfl⟩,fcs rfl fnl⟩
 have hts':ZV ((S.take (k+1)).filter (Vy c it f.at'))=ZV ((S.take k).filter (Vy c it f.at')):=by
  by_cases ho1:Vy c it f.at' x=Ht;rw[ho1,if_pos rfl]at hsn;rw[<-hsn,if_neg (λh2=>ho ⟨ho1,h2⟩),Je]at hts;exact hts;rw[if_neg ho1,Je]at hsn;rw[hsn]
 clear hts hsn;generalize ZV ((S.take k).filter (Vy c it f.at'))=W at *;have key:∀b1 b2 b3 b4 b5,(x.cart==c)=b1->(x.item==it)=b2->decide (x.at'=f.at')=b3->(x.kind==4)=b4->x.has=b5-> ¬((b1&&(b2&&b3))=Ht/\(b4&&b5)=Ht):=λb1 b2 b3 b4 b5 h1 h2 h3 h4 h5=>by
  subst h1 h2 h3 h4 h5;exact ho
 cases k1:(x.cart==c);simp only[go_sem,Zu,h,Zw hka,hx,opv,i1,k1,w1];refine⟨⟨k+1,by omega⟩,nx9 (by omega),?_⟩;simp only;rw[hts'];exact⟨rfl,(Fc7 rfl rfl rfl rfl rfl rfl rfl),Fc3 ⟨rfl,rfl⟩ ⟨rfl,rfl⟩ ⟨rfl,rfl⟩,(by cases W<;>first|exact fnl|exact fcs rfl fnl)⟩;cases k2:(x.item==it);simp only[go_sem,Zu,h,Zw hka,hx,opv,i1,k1,k2,w1];refine⟨⟨k+1,by omega⟩,nx9 (by omega),?_⟩;simp only;rw[hts'];exact⟨rfl,(Fc7 rfl rfl rfl rfl rfl rfl rfl),Fc3 ⟨rfl,rfl⟩ ⟨rfl,rfl⟩ ⟨rfl,rfl⟩,(by cases W<;>first|exact fnl|exact fcs rfl fnl)⟩;by_cases k3:x.at'=f.at';cases q1:(x.kind==4);simp only[go_sem,Zu,h,Zw hka,hx,opv,i1,k1,k2,Zr,k3,ef1,ef2,ef3,ef4,q1,w1];refine⟨⟨k+1,by omega⟩,nx9 (by omega),?_⟩;simp only;rw[hts'];exact⟨rfl,(Fc7 rfl rfl rfl rfl rfl rfl rfl),Fc3 ⟨rfl,rfl⟩ ⟨rfl,rfl⟩ ⟨rfl,rfl⟩,(by cases W<;>first|exact fnl|exact fcs rfl fnl)⟩;cases q2:x.has;simp only[go_sem,Zu,h,Zw hka,hx,opv,i1,k1,k2,Zr,k3,ef1,ef2,ef3,ef4,q1,q2,w1];refine⟨⟨k+1,by omega⟩,nx9 (by omega),?_⟩;simp only;rw[hts'];exact⟨rfl,(Fc7 rfl rfl rfl rfl rfl rfl rfl),Fc3 ⟨rfl,rfl⟩ ⟨rfl,rfl⟩ ⟨rfl,rfl⟩,(by cases W<;>first|exact fnl|exact fcs rfl fnl)⟩;exact absurd ⟨rfl,rfl⟩ (key Ht Ht Ht Ht Ht k1 k2 (by simpa using k3) q1 q2);simp only[go_sem,Zu,h,Zw hka,hx,opv,i1,k1,k2,Zr,k3,w1];refine⟨⟨k+1,by omega⟩,nx9 (by omega),?_⟩;simp only;rw[hts'];exact⟨rfl,(Fc7 rfl rfl rfl rfl rfl rfl rfl),Fc3 ⟨rfl,rfl⟩ ⟨rfl,rfl⟩ ⟨rfl,rfl⟩,(by cases W<;>first|exact fnl|exact fcs rfl fnl)⟩;have htk:S.take k=S:=Ji (by omega);rw[htk];generalize ZV (S.filter (Vy c it f.at'))=W;cases W with
 |nil=>
  rw[ZmU,ZmV];simp only[go_sem,Zu,h,ent]
 |cons w W=>
  rw[Zi0,Zd8];simp only[go_sem,Zu,h,ent]
open Go.PL Go.PL.Srt
def tsL (S:List Opn) (c it:Str) (k:Nat):List (Nat×PV):= [(1,Zu S),(2,.str c),(3,.str it),(4,.ptr 4 0),(8,.ptr 8 0),(9,.ptr 9 0),(10,.int .i64 (k:Int))]
def tsH (f:Fd) (W:List Str):List (Nat×List PV×Bool):= [(4,[.int .i64 f.at'.sc,.str f.at'.gr,.str f.at'.nm,.int .i64 f.kind,.str f.df,.sl .no (f.cases'.map .str),.int .i64 f.worth],Hf),(8,[.int .i64 0,.str [],.str [],.int .i64 0,.sl .nil []],Hf),(9,[.int .i64 f.at'.sc,.str f.at'.gr,.str f.at'.nm,.int .i64 0,.sl .no ((Znd W f.df).map .str)],Hf)]
theorem Zin (S:List Opn) (c it:Str) (k:Nat) (f:Fd) (W:List Str):F3 (tsL S c it k) (tsH f W) []:=⟨(Fc7 rfl rfl rfl rfl rfl rfl rfl),(Fc3 rfl rfl rfl)⟩
theorem Fr (f:Fd) (S:List Opn) (c it:Str) (hl:S.length<=1000) (hf:f.kind=2\/f.kind=3):Pp 97 [fld f,Zu S,.str c,.str it] (ent ⟨f.at',0,Znd (ZV (S.filter (Vy c it f.at'))) f.df⟩):=by
 have hV:=ZdP f;have hlm:S.length<=maxLen:=by rw[Zb];omega
 have hva:Z6 f=⟨f.at',0,[f.df]⟩:=by unfold Z6;rw[if_neg (by omega)]
 rw[hva]at hV;have ef1:(f.kind==1)=false:=by rcases hf with h|h<;>rw[h]<;>rfl
 have ef23:((f.kind==2)=Ht/\(f.kind==3)=Hf)\/((f.kind==2)=Hf/\(f.kind==3)=Ht):=by rcases hf with h|h<;>simp[h]
 have ef4:(f.kind==4)=false:=by rcases hf with h|h<;>rw[h]<;>rfl
 refine Zx func97 rfl ntmps97 results97 (Xq _) ?_;simp only[go_sem,fld,Zu];refine vc2 hV ?_;simp only[go_sem,ent];refine Zvd (ι:= { k:Nat // k<=S.length }) (λx=>mkSt 96 (tsL S c it x.1) (tsH f (ZV ((S.take x.1).filter (Vy c it f.at')))) []) (λx=>S.length-x.1) ⟨0,Jb _⟩
  (J3 (J2 ⟨rfl,(Fc7 rfl rfl rfl rfl rfl rfl rfl),Fc3 ⟨rfl,rfl⟩ ⟨rfl,rfl⟩ ⟨rfl,rfl⟩,fnl⟩) (JY (Zin _ _ _ _ _ _))) (λx=> ?_)
 obtain⟨k,hk⟩:=x;simp only;by_cases h:(k:Int)<(S.length:Int);have hka:k<S.length:=by omega
 have i1:=Ja k
 have w1:=Xi hka hlm;have hsn:=Zad (Vy c it f.at') hka;have hts:=Zdw ((S.take k).filter (Vy c it f.at')) (S.getD k Jd);have hr0:=Ya (show 1<=1000000 by omega) (show 16<=1000 by omega);have hgo:∀(s':St) (j:Nat),j=k+1->j<=S.length->Gh s' (mkSt 96 (tsL S c it j) (tsH f (ZV ((S.take j).filter (Vy c it f.at')))) [])-> ∃j: { k:Nat // k<=S.length },S.length-j.1<S.length-k/\Gh s' (mkSt 96 (tsL S c it j.1) (tsH f (ZV ((S.take j.1).filter (Vy c it f.at')))) []):=λs' j hj hj2 hg=>⟨⟨j,hj2⟩,by show S.length-j<S.length-k;omega,hg⟩
 generalize hx:S.getD k Jd=x at *;by_cases ho:Vy c it f.at' x=Ht/\(x.kind==4&&x.has)=Ht
 ·obtain⟨ho,ho2⟩:=ho;rw[ho,if_pos rfl]at hsn;rw[<-hsn,ho2,if_pos rfl]at hts;have hW2:Znd (ZV ((S.take (k+1)).filter (Vy c it f.at'))) f.df= [x.text]:=by rw[hts,ZkQ]
  simp only[Vy,Jc,decide_eq_true_eq]at ho ho2;obtain⟨k1,k2,k3⟩:=ho;obtain⟨q1,q2⟩:=ho2;rcases ef23 with ⟨ef2,ef3⟩|⟨ef2,ef3⟩
  all_goals
   simp only[go_sem,tsL,tsH,Zu,h,Zw hka,hx,opv,i1,k1,k2,Zr,k3,ef1,ef2,ef3,ef4,q1,q2,w1,hr0];refine hgo _ (k+1) rfl (by omega) ((Gh.plainB (b:=9) (j:=4) (d:=93) (es:= [.str x.text]) rfl rfl (by show 4<5;omega) rfl).trans (J3 (J2 ?_) (JY (Zin _ _ _ _ _ _))));unfold tsH;rw[hW2];exact⟨rfl,(Fc7 rfl rfl rfl rfl rfl rfl rfl),Fc3 ⟨rfl,rfl⟩ ⟨rfl,rfl⟩ ⟨rfl,rfl⟩,fnl⟩
 have hts':ZV ((S.take (k+1)).filter (Vy c it f.at'))=ZV ((S.take k).filter (Vy c it f.at')):=by
  by_cases ho1:Vy c it f.at' x=Ht;rw[ho1,if_pos rfl]at hsn;rw[<-hsn,if_neg (λh2=>ho ⟨ho1,h2⟩),Je]at hts;exact hts;rw[if_neg ho1,Je]at hsn;rw[hsn]
 have key:∀b1 b2 b3 b4 b5,(x.cart==c)=b1->(x.item==it)=b2->decide (x.at'=f.at')=b3->(x.kind==4)=b4->x.has=b5-> ¬((b1&&(b2&&b3))=Ht/\(b4&&b5)=Ht):=λb1 b2 b3 b4 b5 h1 h2 h3 h4 h5=>by
  subst h1 h2 h3 h4 h5;exact ho
 have hstay:=λs' (hs':Has 96 (tsL S c it (k+1)) (tsH f (ZV ((S.take k).filter (Vy c it f.at')))) [] s')=>hgo s' (k+1) rfl (by omega) (J3 (J2 (by rw[hts'];exact hs')) (JY (Zin _ _ _ _ _ _)))
 clear hgo hts hsn hts';generalize ZV ((S.take k).filter (Vy c it f.at'))=W at *;cases k1:(x.cart==c);simp only[go_sem,tsL,tsH,Zu,h,Zw hka,hx,opv,i1,k1,w1];exact hstay _ ⟨rfl,(Fc7 rfl rfl rfl rfl rfl rfl rfl),Fc3 ⟨rfl,rfl⟩ ⟨rfl,rfl⟩ ⟨rfl,rfl⟩,fnl⟩;cases k2:(x.item==it);simp only[go_sem,tsL,tsH,Zu,h,Zw hka,hx,opv,i1,k1,k2,w1];exact hstay _ ⟨rfl,(Fc7 rfl rfl rfl rfl rfl rfl rfl),Fc3 ⟨rfl,rfl⟩ ⟨rfl,rfl⟩ ⟨rfl,rfl⟩,fnl⟩;by_cases k3:x.at'=f.at';cases q1:(x.kind==4)
 ·rcases ef23 with ⟨ef2,ef3⟩|⟨ef2,ef3⟩
  all_goals
   simp only[go_sem,tsL,tsH,Zu,h,Zw hka,hx,opv,i1,k1,k2,Zr,k3,ef1,ef2,ef3,ef4,q1,w1];exact hstay _ ⟨rfl,(Fc7 rfl rfl rfl rfl rfl rfl rfl),Fc3 ⟨rfl,rfl⟩ ⟨rfl,rfl⟩ ⟨rfl,rfl⟩,fnl⟩
 cases q2:x.has
 ·rcases ef23 with ⟨ef2,ef3⟩|⟨ef2,ef3⟩
  all_goals
   simp only[go_sem,tsL,tsH,Zu,h,Zw hka,hx,opv,i1,k1,k2,Zr,k3,ef1,ef2,ef3,ef4,q1,q2,w1];exact hstay _ ⟨rfl,(Fc7 rfl rfl rfl rfl rfl rfl rfl),Fc3 ⟨rfl,rfl⟩ ⟨rfl,rfl⟩ ⟨rfl,rfl⟩,fnl⟩
 exact absurd ⟨rfl,rfl⟩ (key Ht Ht Ht Ht Ht k1 k2 (by simpa using k3) q1 q2);simp only[go_sem,tsL,tsH,Zu,h,Zw hka,hx,opv,i1,k1,k2,Zr,k3,w1];exact hstay _ ⟨rfl,(Fc7 rfl rfl rfl rfl rfl rfl rfl),Fc3 ⟨rfl,rfl⟩ ⟨rfl,rfl⟩ ⟨rfl,rfl⟩,fnl⟩;have htk:S.take k=S:=Ji (by omega);rw[htk];simp only[go_sem,tsL,tsH,Zu,h,ent]
theorem ZdL (f:Fd) (S:List Opn) (c it:Str) (hl:S.length<=1000) (hk:f.kind=1\/f.kind=2\/f.kind=3\/f.kind=4) (hSm:f.kind=1->Sm (S.filter (Vy c it f.at'))):Pp 97 [fld f,Zu S,.str c,.str it] (ent (Ta f (S.filter (Vy c it f.at')))):=by
 have hTl:(S.filter (Vy c it f.at')).length<=1000:=Jm (Jg _ _) hl;rcases hk with k1|k2|k3|k4;have hE:=Ze2 f S c it hl k1 (hSm k1);unfold Ta;rw[if_pos k1,ZeI (hSm k1) hTl,show(Z6 f).l= []by simp[Z6,k1]];exact hE;have hE:=Fr f S c it hl (.inl k2);unfold Ta;rw[if_neg (by omega),if_neg (by omega),show(Z6 f).l= [f.df]by simp[Z6,k2]];exact hE;have hE:=Fr f S c it hl (.inr k3);unfold Ta;rw[if_neg (by omega),if_neg (by omega),show(Z6 f).l= [f.df]by simp[Z6,k3]];exact hE;have hE:=Ze1 f S c it hl k4;unfold Ta;rw[if_neg (by omega),if_pos k4];exact hE
theorem Zaz (F:List Fd) (S:List Opn) (c it:Str) (E:Fd->En) (hF:F.length<=100000) (hE:∀f∈F,Pp 97 [fld f,Zu S,.str c,.str it] (ent (E f))):Pp 48 [Zh F,Zu S,.str c,.str it] (Yd (F.map E)):=by
 have hm:F.length<=maxLen:=by rw[Zb];omega
 refine Zx func48 rfl ntmps48 results48 (UU _) ?_;simp only[go_sem,Zh,Zu];refine ZL 9 11 28 0 5 65 [] rfl rfl rfl ?_;refine Zs (ι:= { x:Nat // x<=(F).length }) 30 (λx=> [(0,Zh F),(1,Zu S),(2,.str c),(3,.str it),(9,.sl (.row 28) (((F.take x.1).map E).map ent)),(10,.int .i64 (x.1:Int))]) (λx=> []) (λx=> [(28,.live ((F.take x.1).length) (5) (65))]) (λx=>(F).length-x.1) ⟨0,Jb _⟩ ⟨rfl,(Fc6 rfl rfl rfl rfl rfl rfl),fnl,(fcs rfl fnl)⟩ (λx=>⟨(Fc6 rfl rfl rfl rfl (by simp[JR,ZX]) rfl),fnl⟩) (λx=> ?_);obtain⟨k,hk⟩:=x;simp only at hk ⊢;by_cases h:(k:Int)<(F.length:Int)
 (have hka:k<(F).length:=by omega);(have w1:=Xi hka (hm));(have i1:=Ja k)
 have hV:=hE (F.getD k Jd) (Zp (d:=Jd) hka);have hml:(((F.take k).map E).map ent).length=(F.take k).length:=by simp
 have hkl:(F.take k).length<=k:=Jk _ _;have hrm:=Ya (show(F.take k).length+1<=1000000 by omega) (show 72<=1000 by omega);have htl:(F.take (k+1)).length=(F.take k).length+1:=by simp;omega
 have hsz:Sized 5 (((F.take k).map E).map ent):=Sk _;have hsn:(F.take (k+1)).map E=(F.take k).map E++ [E (F.getD k Jd)]:=by rw[Z0 (d:=Jd) hka,Jf];rfl
 generalize hx:F.getD k Jd=x at *;generalize hv:E x=v at *;simp only[go_sem,Zh,Zu,h,Zy hka,hx,fld,i1];refine vc7 hV ?_;simp only[go_sem,ent,Sk,Zlf,Zko,hml,hrm,w1];exact⟨⟨k+1,by omega⟩,nx9 (by omega),⟨rfl,by simp only;rw[hsn,Jf];exact(Fc6 rfl rfl rfl rfl rfl rfl),fnl,by simp only;rw[htl];exact fcs rfl fnl⟩⟩;have htk:F.take k=F:=Ji (by omega);simp only[go_sem,Zh,h,htk,Yd]
open Go.PL Go.PL.Srt
theorem Ze8 (m:List Eg) (l:List Opn) (cart:Str) (b:Tg) (hm:OkM m) (hr:RightM m) (hl:l.length<=400) (ho:∀o∈l,OkOp o) (hU:(l.map Opn.id).Nodup) (hn:Yj cart=Ht) (hc:(Ye (Zd m) b).2=0):
  Pp 17 [egs m,Zu l,.str cart,tg b] (UG (⟨WV (Ye (Zd m) b).1 (YK m (Yq (Xk m l) cart) b) 0 [],(Xc (Xk m l) cart).map λi=>⟨i,WV (Ye (Zd m) b).1 (YK m (Yq (Xk m l) cart) b) 1 i⟩⟩,0)):=by
 have hN:=Y7 cart;rw[hn]at hN;have hS:=Wn m b hm;have hA:=Zg1 m l hm (by omega) ho hU;have hll:=Uv m l;have hrd:∀o∈Xk m l,X9 m o=true:=λo h=>Zbg h
 have hT:=Zhd m (Xk m l) b hm hr (by omega);have hsl:=Ug m (Xk m l) b;have hI:=ZdO (Xk m l) cart (by omega);rw[Zm7]at hI;have hil:=GZ (Xk m l) cart;have hrl:=ZbE hr (show upC m b=0 from hc);have hF:=(G9 hm (a:=b) hc).n;have hSm:∀o∈YK m (Yq (Xk m l) cart) b,FitW (Ye (Zd m) b).1 o:=by
  have e2:YK m (Yq (Xk m l) cart) b=(Yq (Xk m l) cart).filterMap (Zo2 m b):=Si (show upC m b=0 from hc) (λo h=>hrd o (Jt.1 h).1);rw[e2];exact Zjq hm hr hc λo h=>hrd o (Jt.1 h).1
 have hot:=λit r=>ZnL (show upC m b=0 from hc) cart it r hrd
 have hE:∀sc it,Pp 48 [Zh (ZY (Ye (Zd m) b).1 sc),Zu (YK m (Xk m l) b),.str cart,.str it] (Yd (WV (Ye (Zd m) b).1 (YK m (Yq (Xk m l) cart) b) sc it)):=λsc it=>by
  unfold WV;refine Zaz _ _ cart it _ (Jm (Jg _ _) (by omega)) λf hf=> ?_
  have hfm:=(Zep hf).1;have:=ZdL f (YK m (Xk m l) b) cart it (by omega) (ZbC ((Z3.1 hrl).2.2 f hfm)) (λk1=>by rw[hot];exact Ds hrl hSm hfm k1);rwa[hot]at this
 have hsc:∀sc,Pp 49 [Zh (Ye (Zd m) b).1,.int .i64 sc] (Zh (ZY (Ye (Zd m) b).1 sc)):=λsc=>S8 _ sc (by omega)
 have c1:¬(400:Int)<(l.length:Int):=by omega
 have c2:((Ye (Zd m) b).2 !=0)=false:=by simp[hc]
 clear hrl hSm hot hrd;generalize hrws:(Xc (Xk m l) cart).map (λi=>(⟨i,WV (Ye (Zd m) b).1 (YK m (Yq (Xk m l) cart) b) 1 i⟩:Rw))=rws;have hrl:rws.length=(Xc (Xk m l) cart).length:=by rw[<-hrws,Jn]
 have hrd:∀k,k<rws.length->rws.getD k Jd=⟨(Xc (Xk m l) cart).getD k [],WV (Ye (Zd m) b).1 (YK m (Yq (Xk m l) cart) b) 1 ((Xc (Xk m l) cart).getD k [])⟩:=λk hk=>by
  rw[getD_lt hk,getD_lt (show k<(Xc (Xk m l) cart).length by omega)];subst hrws;rw[JL]
 clear hrws;generalize Xc (Xk m l) cart=its at *;generalize Xk m l=A at *;generalize YK m (Yq A cart) b=T at *;generalize YK m A b=seen at *;generalize Ye (Zd m) b=X at *;obtain⟨F,xc⟩:=X;simp only at hc hF hsc hE hrd c2 ⊢;subst hc;generalize hhd:WV F T 0 []=hd at *;have hE0:=hE 0 [];rw[hhd]at hE0;refine Zx func17 rfl ntmps17 results17 (Vo _) ?_;simp only[go_sem,egs,Zu,tg,c1];refine vc1 hN ?_;simp only[go_sem];refine vc3 hS ?_;simp only[go_sem,ZP,Zh,c2];refine vc7 hA ?_;simp only[go_sem,Zu];refine vc7 hT ?_;simp only[go_sem,Zu];refine vc2 (hsc 0) ?_;simp only[go_sem,Zh];refine vc7 hE0 ?_;simp only[go_sem,Yd];refine vc7 hI ?_;simp only[go_sem,Yo];refine Zs (ι:= { k:Nat // k<=rws.length }) 77 (λx=> [(2,.str cart),(8,.ptr 8 0),(10,Zh F),(13,Zu seen),(14,.ptr 14 0),(15,Yo its),(16,.int .i64 (x.1:Int))]) (λx=> [(8,[.sl .nil [],.sl .nil []],Hf),(14,[.sl .no (hd.map ent),ZlK 74 rws x.1],Hf)]) (λx=>ZlL 74 x.1) (λx=>rws.length-x.1) ⟨0,Jb _⟩
  ⟨rfl,(Fc7 rfl rfl rfl rfl rfl rfl rfl),Fc2 ⟨rfl,rfl⟩ ⟨rfl,rfl⟩,fnl⟩ (λx=> ?_) (λx=> ?_)
 obtain⟨k,hk⟩:=x;cases k with
 |zero=>exact⟨(Fc7 rfl rfl rfl rfl rfl rfl rfl),Fc2 rfl rfl⟩
 |succ k=>exact⟨(Fc7 rfl rfl rfl rfl rfl rfl rfl),Fc2 rfl (by simp[ZlK,ZlL,JR,PV.idsL,ZX])⟩
 obtain⟨k,hk⟩:=x;simp only;by_cases h:(k:Int)<(its.length:Int);have hka:k<rws.length:=by omega
 have hki:k<its.length:=by omega
 have w1:=wk9 (k:=k) (by omega)
 have i1:=Ja k
 have hO:=hE 1 (its.getD k []);have hrk:=hrd k hka;have hsn:(rws.take (k+1)).map row=(rws.take k).map row++ [row (rws.getD k Jd)]:=by rw[Z0 (d:=Jd) hka,Jf];rfl
 rw[hrk]at hsn;have hsz:=WP (rws.take k);have hr0:=Ya (show 1<=1000000 by omega) (show 40<=1000 by omega);have hln:((rws.take k).map row).length=k:=by simp;omega
 generalize WV F T 1 (its.getD k [])=es at *;cases k with
 |zero=>
  have h':(0:Int)<(its.length:Int):=by simpa using h
  have g0:=ZQ hki;simp only[go_sem,ZlK,ZlL,Yo,h',g0,i1,hki];refine vDq ?_;simp only[go_sem,Yo,h',g0,i1,hki];refine vc2 (hsc 1) ?_;simp only[go_sem,Yo,h',g0,i1,hki];refine vc7 hO ?_;have w0:IntKind.i64.wrap 1=1:=w64 (by omega);simp only[go_sem,Yd,w1,w0];refine⟨hr0,⟨⟨0+1,by omega⟩,nx9 (by omega),⟨rfl,(Fc7 rfl rfl rfl rfl rfl rfl rfl),Fc2 ⟨rfl,rfl⟩ ⟨?_,rfl⟩,fcs rfl fnl⟩⟩⟩;show some [JT .no _,JT (.row 74) _]=some [JT .no _,JT (.row 74) _];rw[hsn];rfl
 |succ k=>
  have hl3:(rws.take (k+1)).length=k+1:=by rw[JA];omega
  have hr:=Ya (show k+1+1<=1000000 by omega) (show 40<=1000 by omega);simp only[go_sem,ZlK,ZlL,Yo,h,ZQ hki,i1];refine vDq ?_;simp only[go_sem,Yo,h,ZQ hki,i1];refine vc2 (hsc 1) ?_;simp only[go_sem,Yo,h,ZQ hki,i1];refine vc7 hO ?_;simp only[go_sem,Yd,w1];refine⟨⟨hl3.symm,WP _,by rw[hl3];exact hr⟩,⟨⟨k+1+1,by omega⟩,by show rws.length-(k+1+1)<rws.length-(k+1);omega,⟨rfl,(Fc7 rfl rfl rfl rfl rfl rfl rfl),Fc2 ⟨rfl,rfl⟩ ⟨?_,rfl⟩,fcs ?_ fnl⟩⟩⟩
  ·show some [JT .no _,JT (.row 74) _]=some [JT .no _,JT (.row 74) _];rw[hsn];rfl
  ·show some _=some _;rw[hl3]
 obtain rfl:k=rws.length:=by omega
 cases rws with
 |nil=>
  have h':¬(0:Int)<(its.length:Int):=h;simp only[go_sem,ZlK,ZlL,Yo,h'];rfl
 |cons r rs=>
  have ht:(r::rs).take (rs.length+1)=r::rs:=Jp (l:=r::rs);have h':¬((rs.length+1:Nat):Int)<(its.length:Int):=h;simp only[go_sem,ZlK,ZlL,Yo,h',ht];try rw[Jp]
  try rfl
theorem TR (m:List Eg) (l:List Opn) (cart:Str) (b:Tg) (hm:OkM m) (hr:RightM m) (ho:∀o∈l,OkOp o) (hU:(l.map Opn.id).Nodup) (hl:l.length<=maxLen):
  Pp 17 [egs m,Zu l,.str cart,tg b] (UG (ZT m l cart b)):=by
 unfold ZT;by_cases h1:400<(l.length:Int);rw[if_pos h1];refine Zx func17 rfl ntmps17 results17 (Vo _) ?_;simp only[go_sem,egs,Zu,tg,h1];simp only[UG,Us];rw[if_neg h1];have hN:=Y7 cart;cases h2:Yj cart;rw[h2]at hN;rw[if_pos rfl];refine Zx func17 rfl ntmps17 results17 (Vo _) ?_;simp only[go_sem,egs,Zu,tg,h1];refine vc1 hN ?_;simp only[go_sem];simp only[UG,Us];rw[if_neg (by simp)];by_cases h3:(Ye (Zd m) b).2=0;rw[if_neg (by simpa using h3),Zc6];exact Ze8 m l cart b hm hr (by omega) ho hU h2 h3;rw[if_pos h3];rw[h2]at hN;have hS:=Wn m b hm;have e3:((Ye (Zd m) b).2 !=0)=true:=by simpa using h3
 generalize Ye (Zd m) b=X at *;obtain⟨F,xc⟩:=X;simp only at h3 e3 ⊢;refine Zx func17 rfl ntmps17 results17 (Vo _) ?_;simp only[go_sem,egs,Zu,tg,h1];refine vc1 hN ?_;simp only[go_sem];refine vc3 hS ?_;simp only[go_sem,ZP,Zh,e3];simp only[UG,Us]
open Go.PL Go.PL.Srt
theorem Zb4 (l:List Opn) (hl:l.length<=100000) (hU:(l.map Opn.id).Nodup):Pp 36 [Zu l] (Zu (srt ZJ l)):=by
 have hL:=λa b=>ZaB a b
 refine Zx func36 rfl ntmps36 results36 (U2 _) ?_;simp only[go_sem,Zu];refine ZgL (ι:= { k:Nat // k<=l.length }) 50 (λx=> [(0,Zu l),(3,Zu (srt ZJ (l.take x.1))),(4,.int .i64 (x.1:Int))]) (λx=> []) (λx=> []) (λx=>l.length-x.1) ⟨0,Jb _⟩
  ⟨rfl,Fc3 (.same rfl) (.row 7 []) (.same rfl),fnl,fnl⟩ (λx=>⟨(Fc3 rfl rfl rfl),fnl⟩) (λx=> ?_)
 obtain⟨k,hk⟩:=x;simp only;by_cases hlt:(k:Int)<(l.length:Int);have hka:k<l.length:=by omega
 have i0:=Ja k
 have w1:=wk9 (k:=k) (by omega)
 have hs:=Zjt (L:=l.take k) (x:=l.getD k Jd) (by rw[<-Z0 (d:=Jd) hka];exact ZbQ (JU.sublist ((Jj _ _).map _) hU));rw[<-Z0 (d:=Jd) hka]at hs;have hlen:(srt ZJ (l.take k)).length<=k:=by rw[Wu];exact Jk _ _
 have hgd:=Zw hka;generalize srt ZJ (l.take k)=out at *;generalize hs2:srt ZJ (l.take (k+1))=out2 at *;generalize he:l.getD k Jd=e at *;have hpl:=Zh2 out e;have hX:out2.map opv=(out.take (Wf out e)).map opv++ [opv e]++(out.drop (Wf out e)).map opv:=by
  rw[hs];simp only[Jf,JX,Jw]
 have hpI:((Wf out e:Nat):Int)<=(out.length:Int):=by omega
 have hlp:(out.take (Wf out e)).length=Wf out e:=by rw[JA];omega
 have hld:(out.drop (Wf out e)).length=out.length-Wf out e:=by rw[JM]
 have hrm1:=Ya (show Wf out e<=1000000 by omega) (show 176<=1000 by omega);have hrm2:=Ya (show Wf out e+1<=1000000 by omega) (show 176<=1000 by omega);have hrm3:=Ya (show Wf out e+1+(out.length-Wf out e)<=1000000 by omega) (show 176<=1000 by omega);have hs1:∀(a:List Opn),Sized 15 (a.map opv++ [opv e]):=λa=>by have:=Yv (a++ [e]);rwa[Jf]at this
 simp only[go_sem,Zu,hlt];refine Zs (ι:= { j:Nat // j<=Wf out e }) 50 (λx=> [(0,Zu l),(3,Zu out),(4,.int .i64 (k:Int)),(5,.int .i64 (x.1:Int))]) (λx=> []) (λx=> []) (λx=>Wf out e-x.1) ⟨0,Jb _⟩ ⟨rfl,(Fc4 rfl rfl rfl rfl),fnl,fnl⟩ (λx=>⟨(Fc4 rfl rfl rfl rfl),fnl⟩) (λx=> ?_);obtain⟨j,hj⟩:=x;simp only;by_cases hjl:(j:Int)<(out.length:Int);have hja:j<out.length:=by omega
 have j0:=Ja j
 have hgj:=Zw hja;by_cases hjp:j<Wf out e;have ht:=Zeu out e j hjp;have w2:=wk9 (k:=j) (by omega)
 simp only[go_sem,Zu,hjl];refine vDq ?_;simp only[go_sem,Zu,hjl,hgd,hgj,opv,i0,j0,hlt];refine vc6 (hL e (out.getD j Jd)) ?_;simp only[go_sem,ht,w2];exact⟨⟨j+1,by omega⟩,by show Wf out e-(j+1)<Wf out e-j;omega,⟨rfl,(Fc4 rfl rfl rfl rfl),fnl,fnl⟩⟩;obtain rfl:j=Wf out e:=by omega
 have ht:=De out e hja;simp only[go_sem,Zu,hjl];refine vDq ?_;simp only[go_sem,Zu,hjl,hgd,hgj,opv,i0,j0,hlt];refine vc6 (hL e (out.getD (Wf out e) Jd)) ?_;simp only[go_sem,ht,hgd,i0,j0,hpI,hlt,Vn,GP,Yv,hs1,WE,hrm1,hrm2,hrm3,hlp,hld,Jh,w1,opv];refine⟨JB _,hs1 _,⟨k+1,by omega⟩,nx9 (by omega),?_⟩;simp only[hs2,Zu,hX];exact⟨rfl,Fc3 (.same rfl) (.row 48 _) (.same rfl),fnl,fnl⟩;obtain rfl:j=Wf out e:=by omega
 have j0:(0:Int)<=((Wf out e:Nat):Int):=by omega
 simp only[go_sem,Zu,hjl];refine vDq ?_;simp only[go_sem,Zu,hjl,hgd,i0,j0,hpI,hlt,Vn,GP,Yv,hs1,WE,hrm1,hrm2,hrm3,hlp,hld,Jh,w1,opv];refine⟨JB _,hs1 _,⟨k+1,by omega⟩,nx9 (by omega),?_⟩;simp only[hs2,Zu,hX];exact⟨rfl,Fc3 (.same rfl) (.row 48 _) (.same rfl),fnl,fnl⟩;obtain rfl:k=l.length:=by omega
 rw[Jp];simp only[go_sem,Zu,hlt]
open Go.PL Go.PL.Srt
theorem ZnK {o:Opn} (h:XD o=Ht):o.id∉o.drops:=λhm=>by
 obtain⟨i,hi,he⟩:=JD hm;simp only[XD,Jc]at h;obtain⟨_,_,_,_,_,_,_,hd⟩:=h;unfold V2 at hd;rw[Jc,JK]at hd;have h1:=hd.2 i (JS.2 hi);unfold Y6 at h1;rw[getD_lt hi,he]at h1;simp at h1
def Fb (m:List Eg) (cart:Str) (o:Opn):Bool:=((o.cart==cart)||decide (0<o.drops.length))&&X9 m o
theorem Zk4 (m:List Eg) (cart:Str) (o:Opn):Zbu m o cart=Fb m cart o:=by
 unfold Zbu Fb;congr 1;have h1:(Xk m [o]).length=(UL m [o]).length:=(G2 m [o]).length_eq;rw[h1];unfold UL X8;cases hr:X9 m o;rw[Ju (by rw[hr];simp)];simp;have hright:XD o=true:=by
  simp only[X9,Jc]at hr;exact hr.1
 have hn:XQ [o] o.id=false:=by
  simp only[XQ,List.any_cons,List.any_nil,Jy,decide_eq_false_iff_not];exact ZnK hright
 rw[Jl (by exact hr),List.filter_nil,Jl (by rw[hn];rfl)];simp
theorem ZnM (m:List Eg) (l:List Opn) (c:Str) (t:Tg):XQ (X8 m (l.filter (Fb m c))) t=XQ (X8 m l) t:=by
 rw[Js];unfold XQ X8;rw[JG];simp only[Jz,Jt,Jc,JP,decide_eq_true_eq,Fb];constructor;rintro ⟨o,⟨h1,h2,h3⟩,h4⟩;exact⟨o,⟨h1,h2⟩,h4⟩;rintro ⟨o,⟨h1,h2⟩,h4⟩;exact⟨o,⟨h1,h2,.inr (List.length_pos_of_mem h4),h2⟩,h4⟩
theorem Zgf {m:List Eg} {l:List Opn} {cart:Str} {b:Tg} (h:(l.map Opn.id).Nodup) (hl:l.length<=400):ZT m (l.filter (Fb m cart)) cart b=ZT m l cart b:=by
 have hf:(l.filter (Fb m cart)).length<=l.length:=Jg _ _;refine ZlF (by omega) hl ?_;rw[Znj h,Znj (l:=l.filter (Fb m cart)) (Znu h List.filter_sublist)];congr 1;simp only[ZnM];rw[JG];refine List.filter_congr λo _=> ?_
 unfold Fb;cases o.cart==cart<;>cases X9 m o<;>simp
def Zln (m:List Eg) (F:List Fd) (cart:Str) (b:Tg) (s:List Opn) (i:Nat):List Mo:=
 if(WG F (ZT m (s.take i) cart b).1 (ZT m (s.take (i+1)) cart b).1).1= []then []else [⟨(s.getD i Jd).id,(WG F (ZT m (s.take i) cart b).1 (ZT m (s.take (i+1)) cart b).1).1⟩]
def Zbj (m:List Eg) (F:List Fd) (cart:Str) (b:Tg) (s:List Opn) (k:Nat):List Mo:=(List.range k).flatMap (Zln m F cart b s)
theorem D4 (m:List Eg) (F:List Fd) (cart:Str) (b:Tg) (s:List Opn) (k:Nat):Zbj m F cart b s (k+1)=Zbj m F cart b s k++Zln m F cart b s k:=by
 unfold Zbj;rw[List.range_succ,List.flatMap_append];simp
theorem Zbk (m:List Eg) (F:List Fd) (cart:Str) (b:Tg) (s:List Opn):∀k,(Zbj m F cart b s k).length<=k
 |0=>by simp[Zbj]
 |k+1=>by
  have h:=Zbk m F cart b s k;rw[D4,Jh];unfold Zln;split;simp;omega;simp;omega
theorem Zmz (F:List Fd) (d:Dc):(WG F d d).1= []:=by
 unfold WG;split;rfl;have h1:∀it (a:List En),Z2 it a a= []:=λit a=>by
  unfold Z2;rw[List.filter_eq_nil_iff.2 (λi _=>by simp)];rfl
 have h2:∀P:List Rw,Y9 P P= []:=by
  intro P;induction P with
  |nil=>rw[Y9]
  |cons p P ih=>rw[Y9,if_neg (by rw[X0];simp),if_neg (by rw[X0];simp),h1,ih];rfl
 rw[h1,h2];rfl
theorem ZiB {m:List Eg} {l:List Opn} {cart:Str} {b:Tg} (hl:l.length<=400) (hn:Yj cart=Ht) (hs:(Ye (Zd m) b).2=0):(ZT m l cart b).2=0:=by
 unfold ZT;rw[if_neg (by omega),if_neg (by rw[hn];simp),if_neg (by simpa using hs)]
theorem ZbY {m:List Eg} (hm:OkM m) (hr:RightM m) {l:List Opn} {cart:Str} {b:Tg} (hl:l.length<=400) (hn:Yj cart=Ht) (hs:(Ye (Zd m) b).2=0):YB (Ye (Zd m) b).1 (ZT m l cart b).1=true:=by
 obtain⟨h1,h2⟩:=Dx (ZiB (m:=m) (b:=b) hl hn hs);rw[h2];exact ZlG hm hr h1 hl
theorem ZmA {F:List Fd} {a b:Dc} (ha:YB F a=Ht) (hb:YB F b=Ht):(WG F a b).2=0:=by
 unfold WG;rw[if_neg (by rw[ha,hb];simp)]
theorem ZfS {m:List Eg} (hm:OkM m) (hr:RightM m) {cart:Str} {b:Tg} {s:List Opn} (hU:(s.map Opn.id).Nodup) (hl:s.length<=400) (hn:Yj cart=Ht) (hs:(Ye (Zd m) b).2=0):
  ∀(n k:Nat),k+n=s.length->FS m (Ye (Zd m) b).1 cart b ((s.take k).filter (Fb m cart)) (ZT m (s.take k) cart b).1 (s.drop k) (Zbj m (Ye (Zd m) b).1 cart b s k)=(Zbj m (Ye (Zd m) b).1 cart b s s.length,0)
 |0,k,h=>by
  obtain rfl:k=s.length:=by omega
  rw[List.drop_length];rfl
 |n+1,k,h=>by
  have hka:k<s.length:=by omega
  have ih:=ZfS hm hr hU hl hn hs n (k+1) (by omega);have hdr:s.drop k=s.getD k Jd::s.drop (k+1):=by rw[List.drop_eq_getElem_cons hka,getD_lt hka]
  have hU1:∀j,((s.take j).map Opn.id).Nodup:=λj=>JU.sublist ((Jj _ _).map _) hU
  have hl1:∀j,(s.take j).length<=400:=λj=>Jm (JC _ _) hl
  have hsn:(s.take (k+1)).filter (Fb m cart)=(s.take k).filter (Fb m cart)++(if Fb m cart (s.getD k Jd)=Ht then [s.getD k Jd]else []):=Zad _ hka;have hpv:=Zgf (m:=m) (cart:=cart) (b:=b) (hU1 (k+1)) (hl1 (k+1));have hpk:=Zgf (m:=m) (cart:=cart) (b:=b) (hU1 k) (hl1 k);have hmo:=D4 m (Ye (Zd m) b).1 cart b s k;have hst:Zln m (Ye (Zd m) b).1 cart b s k=if(WG (Ye (Zd m) b).1 (ZT m (s.take k) cart b).1 (ZT m (s.take (k+1)) cart b).1).1= []then []else [⟨(s.getD k Jd).id,(WG (Ye (Zd m) b).1 (ZT m (s.take k) cart b).1 (ZT m (s.take (k+1)) cart b).1).1⟩]:=rfl
  rw[hdr];unfold FS;rw[Zk4];cases hp:Fb m cart (s.getD k Jd);rw[if_pos rfl];rw[hp,if_neg (by simp),Je]at hsn;rw[hsn,hpk]at hpv;rw[<-hpv,Zmz,if_pos rfl]at hst;rw[hst,Je]at hmo;rw[hsn,<-hpv,hmo]at ih;exact ih;rw[if_neg (by simp)];rw[hp,if_pos rfl]at hsn;rw[hsn]at hpv;rw[hpv,if_neg (by rw[ZiB (hl1 (k+1)) hn hs];simp),if_neg (by rw[ZmA (ZbY hm hr (hl1 k) hn hs) (ZbY hm hr (hl1 (k+1)) hn hs)];simp)];rw[hsn,hmo,hst]at ih;rw[<-ih];congr 1;split;rw[Je];rfl
open Go.PL Go.PL.Srt
def D0 (m:List Eg) (l:List Opn) (cart:Str) (b:Tg):List Mo×Int:=
 if(ZT m l cart b).2≠0 then([],(ZT m l cart b).2)else(Zbj m (Ye (Zd m) b).1 cart b (srt ZJ l) l.length,0)
theorem ZmZ {m:List Eg} (hm:OkM m) (hr:RightM m) {l:List Opn} {cart:Str} {b:Tg} (hU:(l.map Opn.id).Nodup):Zcb m l cart b=D0 m l cart b:=by
 unfold Zcb D0;by_cases hv:(ZT m l cart b).2=0;have hv':=hv;unfold ZT at hv';split at hv';simp at hv';split at hv';simp at hv';split at hv';rename_i h1 h2 h3;exact absurd hv' h3;rename_i h1 h2 h3;have hn:Yj cart=true:=by simpa using h2
 have hs:(Ye (Zd m) b).2=0:=JJ.1 h3;have hpm:=WQ (lt:=ZJ) l;rw[if_neg (by rw[hv];simp),if_neg (by rw[hs];simp),if_neg (by rw[ZiB (by simp) hn hs];simp),if_neg (by rw[hv];simp)];have:=ZfS hm hr (cart:=cart) (b:=b) (s:=srt ZJ l) ((hpm.map Opn.id).nodup_iff.2 hU) (by rw[Wu];omega) hn hs (srt ZJ l).length 0 (by omega);rw[Wu]at this;exact this;rw[if_pos hv,if_pos hv]
theorem Zj4 (m:List Eg) (l:List Opn) (cart:Str) (b:Tg) (hm:OkM m) (hr:RightM m) (ho:∀o∈l,OkOp o) (hU:(l.map Opn.id).Nodup) (hl:l.length<=100000):
  Pp 11 [egs m,Zu l,.str cart,tg b] (Gx (D0 m l cart b)):=by
 have hV:=TR m l cart b hm hr ho hU (by rw[Zb];omega);unfold D0;by_cases hv:(ZT m l cart b).2=0;rw[if_neg (by rw[hv];simp)];have hs:(Ye (Zd m) b).2=0:=(Dx hv).1;have hS:=Wn m b hm;have hF:=G9 hm (a:=b) hs;have hSo:=Zb4 l hl hU;have hpm:=WQ (lt:=ZJ) l;have hsU:((srt ZJ l).map Opn.id).Nodup:=(hpm.map Opn.id).nodup_iff.2 hU;have hso:∀o∈srt ZJ l,OkOp o:=λo h=>ho o (hpm.mem_iff.1 h)
 have hsl:(srt ZJ l).length=l.length:=hpm.length_eq;have hvo:=λah=>TC (m:=m) (l:=ah) (cart:=cart) (b:=b) hm
 have hVk:=λk=>TR m ((srt ZJ l).take k) cart b hm hr (λo h=>hso o ((Jj _ _).mem h)) (JU.sublist ((Jj _ _).map _) hsU) (by rw[Zb];have:=JC k (srt ZJ l);omega)
 have hsn:=D4 m (Ye (Zd m) b).1 cart b (srt ZJ l);have hml:=Zbk m (Ye (Zd m) b).1 cart b (srt ZJ l);have hst:∀k,Zln m (Ye (Zd m) b).1 cart b (srt ZJ l) k=if(WG (Ye (Zd m) b).1 (ZT m ((srt ZJ l).take k) cart b).1 (ZT m ((srt ZJ l).take (k+1)) cart b).1).1= []then []else [⟨((srt ZJ l).getD k Jd).id,(WG (Ye (Zd m) b).1 (ZT m ((srt ZJ l).take k) cart b).1 (ZT m ((srt ZJ l).take (k+1)) cart b).1).1⟩]:=λk=>rfl
 have hD:=λx y=>Zj1 (Ye (Zd m) b).1 x y (by rw[Zb];have:=hF.n;omega) (λf hf=>by rw[Zb];have:=hF.c f hf;omega)
 have hlm:(srt ZJ l).length<=maxLen:=by rw[Zb];omega
 have e1:((ZT m l cart b).2 !=0)=false:=by simp[hv]
 have e2:((Ye (Zd m) b).2 !=0)=false:=by simp[hs]
 have hs5:(srt ZJ l).length<=100000:=by omega
 rw[<-hsl];clear hF hsl;generalize ZT m l cart b=V at *;obtain⟨vd,vc⟩:=V;obtain⟨vh,vr⟩:=vd;generalize Ye (Zd m) b=X at *;obtain⟨F,xc⟩:=X;generalize srt ZJ l=s at *;simp only at hv hs e1 e2 hsn hml hst hD ⊢;subst hv hs;generalize Zbj m F cart b s=G at *;have hG0:G 0= []:=List.eq_nil_of_length_eq_zero (by have:=hml 0;omega);refine Zx func11 rfl ntmps11 results11 (Uc _) ?_;simp only[go_sem,egs,Zu,tg];refine vc7 hV ?_;simp only[go_sem,UG,doc,e1];refine vc3 hS ?_;simp only[go_sem,ZP,Zh];refine vc7 hSo ?_;simp only[go_sem,Zu];refine ZL 15 42 89 0 3 70 [] rfl rfl rfl ?_;refine Zs (ι:= { k:Nat // k<=s.length }) 91 (λx=> [(0,egs m),(2,.str cart),(7,.ptr 7 0),(12,Zh F),(14,Zu s),(15,.sl (.row 89) ((G x.1).map mo)),(16,.int .i64 (x.1:Int))]) (λx=> [(7,[.int .i64 b.r,.int .i64 b.n],Hf)]) (λx=> [(89,.live (G x.1).length 3 70)]) (λx=>s.length-x.1) ⟨0,Jb _⟩
  ⟨rfl,by simp only;rw[hG0];exact(Fc7 rfl rfl rfl rfl rfl rfl rfl),fcs ⟨rfl,rfl⟩ fnl,by simp only;rw[hG0];exact(fcs rfl fnl)⟩ (λx=>⟨Fc7 rfl rfl rfl rfl rfl (by simp[JR,ZX]) rfl,(fcs rfl fnl)⟩) (λx=> ?_)
 obtain⟨k,hk⟩:=x;simp only;by_cases h:(k:Int)<(s.length:Int);have hka:k<s.length:=by omega
 have i1:=Ja k
 have w1:=Xi hka hlm;have hkI:(k:Int)<=(s.length:Int):=by omega
 have hkI2:((k+1:Nat):Int)<=(s.length:Int):=by omega
 have i2:(0:Int)<=((k+1:Nat):Int):=by omega
 have hVa:=hVk k;have hVb:=hVk (k+1);have hDk:=hD (ZT m (s.take k) cart b).1 (ZT m (s.take (k+1)) cart b).1 (hvo _) (hvo _);have hsk:=hsn k;rw[hst k]at hsk;have hGk:=hml k;have hrm2:=Ya (show(G k).length+1<=1000000 by omega) (show 40<=1000 by omega);have hsz2:=Zah (G k);have hml2:((G k).map mo).length=(G k).length:=Jn _;have hgd:=Zw hka;generalize ZT m (s.take k) cart b=Y1 at *;generalize ZT m (s.take (k+1)) cart b=Y2 at *;obtain⟨⟨yh,yr⟩,yc⟩:=Y1;obtain⟨⟨zh,zr⟩,zc⟩:=Y2;simp only at hsk hDk;generalize WG F ⟨yh,yr⟩ ⟨zh,zr⟩=D at *;obtain⟨dl,dc⟩:=D;simp only at hsk hDk;generalize s.getD k Jd=x at *;cases dl with
 |nil=>
  rw[if_pos rfl,Je]at hsk;simp only[go_sem,egs,Zu,h];refine ZjH [] [(7,17)] (by kernel_rfl) (by kernel_rfl) (by exact rfl) (by exact rfl) ?_;simp only[go_sem,Zu,i1,hkI,Vn,Yv];refine vc7 hVa ?_;simp only[go_sem,UG,doc];refine ZjH [] [(7,19)] (by kernel_rfl) (by kernel_rfl) (by exact rfl) (by exact rfl) ?_;simp only[go_sem,Zu,w1,i2,hkI2,Vn,Yv];refine vc7 hVb ?_;simp only[go_sem,UG,doc];refine vc2 hDk ?_;simp only[go_sem,SU,Tk,w1];exact⟨⟨k+1,by omega⟩,nx9 (by omega),⟨rfl,by simp only;rw[hsk];exact(Fc7 rfl rfl rfl rfl rfl rfl rfl),fcs ⟨rfl,rfl⟩ fnl,by simp only;rw[hsk];exact(fcs rfl fnl)⟩⟩
 |cons d0 dl=>
  rw[if_neg (by simp)]at hsk;have hsm:Sized 3 [mo ⟨x.id,d0::dl⟩]:=Zah [⟨x.id,d0::dl⟩];have ham:XO [mo ⟨x.id,d0::dl⟩]:=ZiK [⟨x.id,d0::dl⟩];have hdl:(0:Int)<((d0::dl).length:Int):=by rw[List.length_cons];omega
  generalize d0::dl=ds at *;simp only[mo]at hsm ham;simp only[go_sem,egs,Zu,h];refine ZjH [] [(7,17)] (by kernel_rfl) (by kernel_rfl) (by exact rfl) (by exact rfl) ?_;simp only[go_sem,Zu,i1,hkI,Vn,Yv];refine vc7 hVa ?_;simp only[go_sem,UG,doc];refine ZjH [] [(7,19)] (by kernel_rfl) (by kernel_rfl) (by exact rfl) (by exact rfl) ?_;simp only[go_sem,Zu,w1,i2,hkI2,Vn,Yv];refine vc7 hVb ?_;simp only[go_sem,UG,doc];refine vc2 hDk ?_;simp only[go_sem,SU,Tk,hdl,hgd,opv,i1,h,hml2,hrm2,hsz2,hsm,ham,w1];exact⟨⟨k+1,by omega⟩,nx9 (by omega),⟨rfl,by simp only;rw[hsk,Jf];exact(Fc7 rfl rfl rfl rfl rfl rfl rfl),fcs ⟨rfl,rfl⟩ fnl,by simp only;rw[hsk,Jh];exact(fcs rfl fnl)⟩⟩
 obtain rfl:k=s.length:=by omega
 simp only[go_sem,Zu,h,Gx,mos];rw[if_pos hv];have e1:((ZT m l cart b).2 !=0)=true:=by simpa using hv
 generalize ZT m l cart b=V at *;obtain⟨⟨vh,vr⟩,vc⟩:=V;simp only at e1 ⊢;refine Zx func11 rfl ntmps11 results11 (Uc _) ?_;simp only[go_sem,egs,Zu,tg];refine vc7 hV ?_;simp only[go_sem,UG,doc,e1,Gx,mos]
open Go.PL Go.PL.Srt
theorem ZeV:Pp 30 [Zu []] (Zu []):=by
 refine Zx func30 rfl ntmps30 results30 (U2 _) ?_;simp only[go_sem,Zu];intro b;cases b;simp only[go_sem,Zu];exact Yw (by omega) (by omega);simp only[go_sem,Zu]
theorem ZrG (g:FuncId):Pp 118 [Zu [],.int .i64 0,.int .i64 0,.fn g []] (.tup []):=by
 have w0:IntKind.i64.wrap (0+1)=1:=w64 (by omega);have w1:IntKind.i64.wrap 1=1:=w64 (by omega);refine ZM func118 rfl ntmps118 results118 ?_;simp only[go_sem,Zu,w0,w1];refine Zs (ι:=Unit) 53 (λ_=> [(8,.int .i64 1),(2,.int .i64 0)]) (λ_=> []) (λ_=> []) (λ_=>0) () ⟨rfl,(Fc2 rfl rfl),fnl,fnl⟩ (λ_=>⟨(Fc2 rfl rfl),fnl⟩) (λ_=> ?_);simp only[go_sem]
theorem Zkf (g:FuncId):Pp 76 [Zu [],.int .i64 0,.fn g []] (.tup []):=by
 have hI:=ZrG g;simp only[Zu,Jw]at hI;refine ZM func76 rfl ntmps76 results76 ?_;simp only[go_sem,Zu];refine Zs (ι:=Unit) 63 (λ_=> [(0,.sl .no []),(1,.int .i64 0),(2,.fn g []),(6,.int .i64 20),(7,.int .i64 0),(8,.int .i64 20)]) (λ_=> []) (λ_=> []) (λ_=>0) () ⟨rfl,(Fc6 rfl rfl rfl rfl rfl rfl),fnl,fnl⟩ (λ_=>⟨(Fc6 rfl rfl rfl rfl rfl rfl),fnl⟩) (λ_=> ?_);simp only[go_sem];refine vc1 hI ?_;simp only[go_sem];refine Zs (ι:=Unit) 63 (λ_=> [(0,.sl .no []),(1,.int .i64 0),(2,.fn g []),(6,.int .i64 20)]) (λ_=> []) (λ_=> []) (λ_=>0) () ⟨rfl,(Fc4 rfl rfl rfl rfl),fnl,fnl⟩ (λ_=>⟨(Fc4 rfl rfl rfl rfl),fnl⟩) (λ_=> ?_);simp only[go_sem]
theorem Zb5 (g:FuncId):Pp 31 [Zu [],.fn g []] (.tup []):=by
 have hS:=Zkf g;simp only[Zu,Jw]at hS;refine ZM func31 rfl ntmps31 results31 ?_;simp only[go_sem,Zu];refine vc1 hS ?_;simp only[go_sem]
theorem Zo7 (m:List Eg) (cart:Str) (b:Tg) (hm:OkM m) (hr:RightM m):Pp 10 [tr (Zd m),Zu [],.str cart,tg b] (Gx (Zcb m [] cart b)):=by
 have hV:=VX m [] cart b hm hr (by simp) (λo h=>by cases h) (by simp);have hS:=XH m b hm;have hC:=ZeV;have hSS:=Zb5 32;have hh:Zcb m [] cart b=([],(ZT m [] cart b).2):=by
  unfold Zcb;by_cases hv:(ZT m [] cart b).2=0;have hs:(Ye (Zd m) b).2=0:=(Dx hv).1;rw[if_neg (by rw[hv];simp),if_neg (by rw[hs];simp),if_neg (by rw[hv];simp),hv];rfl;rw[if_pos hv]
 rw[hh];have hs:(ZT m [] cart b).2=0->(Ye (Zd m) b).2=0:=λh=>(Dx h).1
 generalize ZT m [] cart b=V at *;obtain⟨⟨vh,vr⟩,vc⟩:=V;simp only[Zu,Jw]at hV hC hSS hs ⊢;by_cases hv:vc=0;have hs1:=hs hv;clear hs;subst hv;have e2:((Ye (Zd m) b).2 !=0)=false:=by simp[hs1]
 generalize Ye (Zd m) b=X at *;obtain⟨F,xc⟩:=X;simp only at hs1 e2;subst hs1;refine Zx func10 rfl ntmps10 results10 (Uc _) ?_;simp only[go_sem,tr,tg];refine vc5 hV ?_;simp only[go_sem,UG,doc];refine vc5 hS ?_;simp only[go_sem,ZP,Zh,e2];refine vc5 hV ?_;simp only[go_sem,UG,doc];refine vc1 hC ?_;simp only[go_sem];refine vc1 hSS ?_;simp only[go_sem];refine Zs (ι:=Unit) 106 (λ_=> [(16,.sl .nil []),(58,.int .i64 0),(59,.int .i64 0)]) (λ_=> []) (λ_=> []) (λ_=>0) () ⟨rfl,(Fc3 rfl rfl rfl),fnl,fnl⟩ (λ_=>⟨(Fc3 rfl rfl rfl),fnl⟩) (λ_=> ?_);simp only[go_sem,Gx,mos];have e1:(vc !=0)=true:=by simpa using hv
 refine Zx func10 rfl ntmps10 results10 (Uc _) ?_;simp only[go_sem,tr,tg];refine vc5 hV ?_;simp only[go_sem,UG,doc,e1,Gx,mos]
theorem Zo6 (m:List Eg) (l:List Opn) (cart:Str) (b:Tg) (hm:OkM m) (hr:RightM m) (hl:l.length<=20) (ho:∀o∈l,OkOp o) (hU:(l.map Opn.id).Nodup):
  Pp 10 [tr (Zd m),Zu l,.str cart,tg b] (Gx (Zcb m l cart b)):=by
 cases l with
 |nil=>exact Zo7 m cart b hm hr
 |cons x0 l0=>exact ZeX m x0 l0 cart b hm hr hl ho hU
theorem Zfd (l:List Opn) (cart:Str) (b:Tg):Pp 28 [.nilp,Zu l,.str cart,tg b] (UG (Jd,1)):=by
 refine Zx func28 rfl ntmps28 results28 (Vo _) ?_;simp only[go_sem,Zu,tg];simp only[UG,Us]
theorem ZlT (l:List Opn) (cart:Str) (b:Tg):Pp 10 [.nilp,Zu l,.str cart,tg b] (Gx ([],1)):=by
 have hV:=Zfd l cart b;simp only[UG,Us]at hV;refine Zx func10 rfl ntmps10 results10 (Uc _) ?_;simp only[go_sem,Zu,tg];refine vc7 hV ?_;simp only[go_sem,Gx,mos]
theorem ZjR (l:List Opn) (cart:Str) (b:Tg) (item:Str) (place:Rf):Pp 12 [.nilp,Zu l,.str cart,tg b,.str item,ref place] (tgc (Jd,1)):=by
 have hV:=Zfd l cart b;simp only[UG,Us]at hV;refine Zx func12 rfl ntmps12 results12 (WS _) ?_;simp only[go_sem,Zu,tg,ref];refine vc7 hV ?_;simp only[go_sem,tgc,tg];rfl
def Zfr (V:Dc×Int) (Fi:En×Int) (H:List Mo×Int) (item:Str) (place:Rf):Tg×Int:=
 if V.2≠0 then(Jd,V.2)else if Fi.2≠0 then(Jd,Fi.2)else if H.2≠0 then(Jd,H.2)else((H.1.reverse.find? (ZgV item place)).elim Jd Mo.id,0)
theorem ZlP (m:List Eg) (L:List Opn) (cart:Str) (b:Tg) (item:Str) (place:Rf) (V:Dc×Int) (Fi:En×Int) (H:List Mo×Int)
  (hV:Pp 28 [tr (Zd m),Zu L,.str cart,tg b] (UG V))
  (hFi:Pp 38 [doc V.1,.str item,ref place] (ZaT Fi))
  (hH:Pp 10 [tr (Zd m),Zu L,.str cart,tg b] (Gx H))
  (hl:H.1.length<=100000) (hx:∀x∈H.1,x.l.length<=1000000):
  Pp 12 [tr (Zd m),Zu L,.str cart,tg b,.str item,ref place] (tgc (Zfr V Fi H item place)):=by
 unfold Zfr;obtain⟨vd,vc⟩:=V;obtain⟨fe,fc⟩:=Fi;obtain⟨H,hc⟩:=H;simp only at hFi hl hx ⊢;by_cases h1:vc=0;subst h1;rw[if_neg (by simp)];by_cases h2:fc=0;subst h2;rw[if_neg (by simp)];by_cases h3:hc=0;subst h3;rw[if_neg (by simp)];exact DA m L cart b item place vd fe H hV hFi hH hl hx;rw[if_pos h3];have e:(hc !=0)=true:=by simpa using h3
 obtain⟨vh,vr⟩:=vd;refine Zx func12 rfl ntmps12 results12 (WS _) ?_;simp only[go_sem,tr,Zu,tg,ref];refine vc7 hV ?_;simp only[go_sem,UG,doc];refine vc1 hFi ?_;simp only[go_sem,ZaT,ent];refine vc7 hH ?_;simp only[go_sem,Gx,mos,e,tgc,tg];rfl;rw[if_pos h2];have e:(fc !=0)=true:=by simpa using h2
 obtain⟨vh,vr⟩:=vd;refine Zx func12 rfl ntmps12 results12 (WS _) ?_;simp only[go_sem,tr,Zu,tg,ref];refine vc7 hV ?_;simp only[go_sem,UG,doc];refine vc1 hFi ?_;simp only[go_sem,ZaT,ent,e,tgc,tg];rfl;rw[if_pos h1];have e:(vc !=0)=true:=by simpa using h1
 obtain⟨vh,vr⟩:=vd;refine Zx func12 rfl ntmps12 results12 (WS _) ?_;simp only[go_sem,tr,Zu,tg,ref];refine vc7 hV ?_;simp only[go_sem,UG,doc,e,tgc,tg];rfl
open Go.PL Go.PL.Srt
def ZmX (m:List Eg) (F:List Fd) (cart:Str) (b:Tg):List Opn->Dc->List Opn->List Mo->List Mo×Int
 |_,_,[],acc=>(acc,0)
 |ah,was,o::s,acc=>
  if Zbu m o cart=Hf then ZmX m F cart b ah was s acc
  else if(ZT m (ah++ [o]) cart b).2≠0 then([],(ZT m (ah++ [o]) cart b).2)
  else if(Zhv F was (ZT m (ah++ [o]) cart b).1).2≠0 then([],(Zhv F was (ZT m (ah++ [o]) cart b).1).2)
  else ZmX m F cart b (ah++ [o]) (ZT m (ah++ [o]) cart b).1 s (if(Zhv F was (ZT m (ah++ [o]) cart b).1).1= []then acc else acc++ [⟨o.id,(Zhv F was (ZT m (ah++ [o]) cart b).1).1⟩])
theorem ZmY {m:List Eg} (hm:OkM m) {F:List Fd} {cart:Str} {b:Tg}:∀(s ah:List Opn) (was:Dc) (acc:List Mo),OkDd was->FS m F cart b ah was s acc=ZmX m F cart b ah was s acc
 | [],ah,was,acc,h=>rfl
 |o::s,ah,was,acc,h=>by
  have hv:=TC (m:=m) (l:=ah++ [o]) (cart:=cart) (b:=b) hm;have hd:WG F was (ZT m (ah++ [o]) cart b).1=Zhv F was (ZT m (ah++ [o]) cart b).1:=ZpH (by have:=h.r;have:=hv.r;omega);unfold FS ZmX;rw[hd,ZmY hm s ah was acc h,ZmY hm s (ah++ [o]) (ZT m (ah++ [o]) cart b).1 _ hv]
def awP:Opn:=⟨⟨1,2⟩,Jd,2,[97],3,[112,101,97,114],⟨1,[],[113,116,121]⟩,3,Hf,[],[]⟩
def Zb8:Dc:=⟨[⟨⟨0,[],[99,111,117,112,111,110]⟩,0,[[]]⟩],[⟨[112,101,97,114],[⟨⟨1,[],[110,111,116,101]⟩,0,[[]]⟩,⟨⟨1,[],[113,116,121]⟩,3,[]⟩,⟨⟨1,[],[115,105,122,101]⟩,0,[[109,101,100,105,117,109]]⟩,⟨⟨1,[],[116,97,103,115]⟩,0,[]⟩]⟩]⟩
def awC:Cg:=⟨2,[112,101,97,114],Jd,Jd,[⟨⟨1,[],[110,111,116,101]⟩,0,[[]]⟩,⟨⟨1,[],[113,116,121]⟩,0,[]⟩,⟨⟨1,[],[115,105,122,101]⟩,0,[[109,101,100,105,117,109]]⟩,⟨⟨1,[],[116,97,103,115]⟩,0,[]⟩]⟩
def awO38:Cg:=⟨1,[112,101,97,114],⟨⟨1,[],[113,116,121]⟩,0,[]⟩,⟨⟨1,[],[113,116,121]⟩,3,[]⟩,[]⟩
def awH:List Mo:= [⟨⟨1,1⟩,[awC]⟩,⟨⟨1,2⟩,[awO38]⟩]
theorem awV:ZT [] [awP,svA] [97] Jd=(Zb8,0):=by decide+kernel
theorem ZyF:ZhC Zb8 [112,101,97,114] ⟨1,[],[113,116,121]⟩=(⟨⟨1,[],[113,116,121]⟩,3,[]⟩,0):=by decide+kernel
theorem ZyG:ZhC Zb8 [112,101,97,114] ⟨1,[],[110,111,116,101]⟩=(⟨⟨1,[],[110,111,116,101]⟩,0,[[]]⟩,0):=by decide+kernel
theorem ZyH:ZmX [] (Ye (Zd []) Jd).1 [97] Jd [] (ZT [] [] [97] Jd).1 (srt ZJ [awP,svA]) []=(awH,0):=by decide+kernel
theorem ZyI:Zcb [] [awP,svA] [97] Jd=(awH,0):=by
 unfold Zcb;rw[if_neg (by rw[awV];simp),if_neg (by decide+kernel),if_neg (by decide+kernel),ZmY Gp _ _ _ _ (TC Gp),ZyH]
theorem Zxu:∀o∈ [awP,svA],OkOp o:=by
 intro o ho;simp only[Jr,JN,or_false]at ho;rcases ho with rfl|rfl<;>exact⟨by decide⟩
theorem ZiM:ZoX Zb8/\Ztw Zb8:=by
 refine⟨⟨by rw[Zb];decide,by rw[Zb];decide,?_,?_⟩,?_,?_⟩<;>simp[Zb8,Zb]
theorem ZyD:(awH.reverse.find? (ZgV [112,101,97,114] ⟨1,[],[113,116,121]⟩)).elim Jd Mo.id=⟨1,2⟩:=by decide+kernel
theorem ZyE:(awH.reverse.find? (ZgV [112,101,97,114] ⟨1,[],[110,111,116,101]⟩)).elim Jd Mo.id=⟨1,1⟩:=by decide+kernel
theorem Znw (c:Cg):(chg c).nomap=true:=by simp only[chg,JV,JO,SJ,VP _ Znx,Jv]
theorem Zqc (x:Mo):(mo x).nomap=true:=by simp only[mo,JV,JO,VP _ Znw,Jv]
theorem ZkX (x:List Mo×Int):(Gx x).nomap=true:=by simp only[Gx,mos,JV,JO,VP _ Zqc,Jv]
theorem Zf6 (x:Tg×Int):(tgc x).nomap=true:=by simp only[tgc,tg,JV,JO,Jv]
theorem Up:Pp 5 [] (.bool Ht):=by
 have hV:=VX [] [awP,svA] [97] Jd Gp ZbD (by simp) Zxu (by decide);have hF1:=Zat Zb8 [112,101,97,114] ⟨1,[],[113,116,121]⟩ ZiM.1 ZiM.2;have hF2:=Zat Zb8 [112,101,97,114] ⟨1,[],[110,111,116,101]⟩ ZiM.1 ZiM.2;have hH:=ZeX [] awP [svA] [97] Jd Gp ZbD (by simp) Zxu (by decide);rw[awV]at hV;rw[ZyF]at hF1;rw[ZyG]at hF2;rw[ZyI]at hH;have hx:∀x∈awH,x.l.length<=1000000:=by
  intro x hx;simp only[awH,Jr,JN,or_false]at hx;rcases hx with rfl|rfl<;>simp
 have hB1:=DA [] [awP,svA] [97] Jd _ _ Zb8 _ awH hV hF1 hH (by simp[awH]) hx;have hB2:=DA [] [awP,svA] [97] Jd _ _ Zb8 _ awH hV hF2 hH (by simp[awH]) hx;rw[ZyD]at hB1;rw[ZyE]at hB2;have hn1:=ZkX (awH,0);have hn2:=Zf6 (⟨1,2⟩,0);have hn3:=Zf6 (⟨1,1⟩,0);have hm1:awH.map mo= [mo ⟨⟨1,1⟩,[awC]⟩,mo ⟨⟨1,2⟩,[awO38]⟩]:=rfl;have hk1:awC.kind=2:=rfl;have hk2:awO38.kind=1:=rfl;generalize awC=C at *;generalize awO38=O at *;refine PL.Pure.of_vs func5 (by decide) rfl ntmps5 results5 (by simp) rfl ?_;simp only[go_sem];refine ZjE Zrg ?_ ?_ (λb hb=> ?_);simp only[go_sem];simp only[go_sem];simp only[go_sem];refine Zan hH hn1 ?_ ?_ ?_;simp only[go_sem];simp only[go_sem,mc];rfl;simp only[go_sem,Gx,mos,hm1];refine Zan hB1 hn2 ?_ ?_ ?_;simp only[go_sem];simp only[go_sem,mc];rfl;simp only[go_sem,tgc,tg];refine Zan hB2 hn3 ?_ ?_ ?_;simp only[go_sem];simp only[go_sem,mc];rfl;simp only[go_sem,tgc,tg,mo,chg,hk1,hk2];exact⟨_,rfl,rfl⟩
open Go.PL Go.PL.Srt
def Zef (H:List Mo) (item:Str) (place:Rf) (k:Nat):Tg:=(((H.take k).reverse.find? (ZgV item place)).elim Jd Mo.id)
theorem ZkP {H:List Mo} {item:Str} {place:Rf} {k:Nat} (h:k<H.length):Zef H item place (k+1)=if ZgV item place (H.getD k Jd)=Ht then(H.getD k Jd).id else Zef H item place k:=by
 unfold Zef;rw[Z0 (d:=Jd) h,List.reverse_append,List.reverse_singleton,List.singleton_append,List.find?_cons];cases ZgV item place (H.getD k Jd)<;>simp
def Zrb (item:Str) (place:Rf) (l:List Cg) (j:Nat):Bool:=(l.take j).any λc=>Vx c item place
theorem Zm0 {item:Str} {place:Rf} {l:List Cg} {j:Nat} (h:j<l.length):Zrb item place l (j+1)=(Zrb item place l j||Vx (l.getD j Jd) item place):=by
 unfold Zrb;rw[Z0 (d:=Jd) h,List.any_append];simp
theorem Zg4 (m:List Eg) (L:List Opn) (cart:Str) (b:Tg) (item:Str) (place:Rf) (vd:Dc) (fe:En) (H:List Mo)
  (hV:Pp 17 [egs m,Zu L,.str cart,tg b] (UG (vd,0)))
  (hFi:Pp 41 [doc vd,.str item,ref place] (ZaT (fe,0)))
  (hH:Pp 11 [egs m,Zu L,.str cart,tg b] (Gx (H,0)))
  (hl:H.length<=100000) (hx:∀x∈H,x.l.length<=1000000):
  Pp 13 [egs m,Zu L,.str cart,tg b,.str item,ref place] (tgc (Zef H item place H.length,0)):=by
 have hHm:H.length<=maxLen:=by rw[Zb];omega
 obtain⟨vh,vr⟩:=vd;refine Zx func13 rfl ntmps13 results13 (WS _) ?_;simp only[go_sem,egs,Zu,tg,ref];refine vc7 hV ?_;simp only[go_sem,UG,doc];refine vc1 hFi ?_;simp only[go_sem,ZaT,ent];refine vc7 hH ?_;simp only[go_sem,Gx,mos];refine Zs (ι:= { x:Nat // x<=(H).length }) 107 (λx=> [(4,.str item),(11,.ptr 11 0),(12,.ptr 12 0),(18,mos H),(20,.ptr 20 0),(21,.int .i64 (x.1:Int))]) (λx=> [(11,[.int .i64 place.sc,.str place.gr,.str place.nm],Hf),(12,[.int .i64 0,.int .i64 0],Hf),(20,[.int .i64 (Zef H item place x.1).r,.int .i64 (Zef H item place x.1).n],Hf)]) (λx=> []) (λx=>(H).length-x.1) ⟨0,Jb _⟩ ⟨rfl,(Fc6 rfl rfl rfl rfl rfl rfl),(Fc3 ⟨rfl,rfl⟩ ⟨rfl,rfl⟩ ⟨rfl,rfl⟩),fnl⟩ (λx=>⟨(Fc6 rfl rfl rfl rfl rfl rfl),(Fc3 rfl rfl rfl)⟩) (λx=> ?_);obtain⟨k,hk⟩:=x;simp only at hk ⊢;by_cases h:(k:Int)<(H.length:Int)
 (have hka:k<(H).length:=by omega);(have w1:=Xi hka (hHm));(have i1:=Ja k)
 have hls:=ZkP (item:=item) (place:=place) hka;have hxl:=hx _ (Zp (d:=Jd) hka);have hgd:=Zd7 hka;generalize Zef H item place k=t at *;generalize hT2:Zef H item place (k+1)=t2 at *;generalize H.getD k Jd=x at *;have hlm:x.l.length<=maxLen:=by rw[Zb];omega
 have hit:ZgV item place x=Zrb item place x.l x.l.length:=by unfold Zrb ZgV;rw[Jp]
 rw[hit]at hls;have hml:(x.l.map chg).length=x.l.length:=Jn _;simp only[go_sem,mos,h];refine Zs (ι:= { j:Nat // j<=x.l.length }) 107 (λy=> [(4,.str item),(11,.ptr 11 0),(12,.ptr 12 0),(18,mos H),(20,.ptr 20 0),(21,.int .i64 (k:Int)),(22,.int .i64 (y.1:Int))]) (λy=> [(11,[.int .i64 place.sc,.str place.gr,.str place.nm],Hf),(12,[.int .i64 0,.int .i64 0],Hf),(20,[.int .i64 (if Zrb item place x.l y.1=Ht then x.id else t).r,.int .i64 (if Zrb item place x.l y.1=Ht then x.id else t).n],Hf)]) (λy=> []) (λy=>x.l.length-y.1) ⟨0,Jb _⟩
  ⟨rfl,(Fc7 rfl rfl rfl rfl rfl rfl rfl),Fc3 ⟨rfl,rfl⟩ ⟨rfl,rfl⟩ ⟨rfl,rfl⟩,fnl⟩ (λy=>⟨(Fc7 rfl rfl rfl rfl rfl rfl rfl),(Fc3 rfl rfl rfl)⟩) (λy=> ?_)
 obtain⟨j,hj⟩:=y;simp only;by_cases h2:(j:Int)<(x.l.length:Int);have hja:j<x.l.length:=by omega
 have j0:=Ja j
 have w2:=wk9 (k:=j) (by omega)
 have hks:=Zm0 (item:=item) (place:=place) hja;have hgc:=To hja;generalize Zrb item place x.l j=hb at *;generalize x.l.getD j Jd=c at *;cases k1:(c.item==item);have ht:Vx c item place=false:=by simp[Vx,k1]
 rw[ht,Jy]at hks;simp only[go_sem,mos,h,h2,hgd,hgc,mo,chg,i1,j0,hml,k1,w2];exact⟨⟨j+1,by omega⟩,nx9 (by omega),⟨rfl,(Fc7 rfl rfl rfl rfl rfl rfl rfl),Fc3 ⟨rfl,rfl⟩ ⟨rfl,rfl⟩ ⟨by simp only;rw[hks];rfl,rfl⟩,fnl⟩⟩;cases k2:(c.kind==2);cases k3:(c.kind==1);have ht:Vx c item place=false:=by simp[Vx,k1,k2,k3]
 rw[ht,Jy]at hks;simp only[go_sem,mos,h,h2,hgd,hgc,mo,chg,i1,j0,hml,k1,k2,k3,w2];exact⟨⟨j+1,by omega⟩,nx9 (by omega),⟨rfl,(Fc7 rfl rfl rfl rfl rfl rfl rfl),Fc3 ⟨rfl,rfl⟩ ⟨rfl,rfl⟩ ⟨by simp only;rw[hks];rfl,rfl⟩,fnl⟩⟩;by_cases k4:c.now.at'=place;have ht:Vx c item place=true:=by simp[Vx,k1,k3,k4]
 rw[ht,JH]at hks;simp only[go_sem,mos,h,h2,hgd,hgc,mo,chg,i1,j0,hml,k1,k2,k3,Zr,k4,w2];exact⟨⟨j+1,by omega⟩,nx9 (by omega),⟨rfl,(Fc7 rfl rfl rfl rfl rfl rfl rfl),Fc3 ⟨rfl,rfl⟩ ⟨rfl,rfl⟩ ⟨by simp only;rw[hks];rfl,rfl⟩,fnl⟩⟩;have ht:Vx c item place=false:=by simp[Vx,k1,k2,k4]
 rw[ht,Jy]at hks;simp only[go_sem,mos,h,h2,hgd,hgc,mo,chg,i1,j0,hml,k1,k2,k3,Zr,k4,w2];exact⟨⟨j+1,by omega⟩,nx9 (by omega),⟨rfl,(Fc7 rfl rfl rfl rfl rfl rfl rfl),Fc3 ⟨rfl,rfl⟩ ⟨rfl,rfl⟩ ⟨by simp only;rw[hks];rfl,rfl⟩,fnl⟩⟩;have ht:Vx c item place=true:=by simp[Vx,k1,k2]
 rw[ht,JH]at hks;simp only[go_sem,mos,h,h2,hgd,hgc,mo,chg,i1,j0,hml,k1,k2,w2];exact⟨⟨j+1,by omega⟩,nx9 (by omega),⟨rfl,(Fc7 rfl rfl rfl rfl rfl rfl rfl),Fc3 ⟨rfl,rfl⟩ ⟨rfl,rfl⟩ ⟨by simp only;rw[hks];rfl,rfl⟩,fnl⟩⟩;obtain rfl:j=x.l.length:=by omega
 rw[<-hls];simp only[go_sem,mos,h,h2,hgd,mo,chg,i1,hml,w1];exact⟨⟨k+1,by omega⟩,nx9 (by omega),⟨rfl,(Fc6 rfl rfl rfl rfl rfl rfl),Fc3 ⟨rfl,rfl⟩ ⟨rfl,rfl⟩ ⟨by simp only;rw[hT2];rfl,rfl⟩,fnl⟩⟩;obtain rfl:k=H.length:=by omega
 simp only[go_sem,mos,h,tgc,tg]
theorem Zj0 (m:List Eg) (L:List Opn) (cart:Str) (b:Tg) (item:Str) (place:Rf) (V:Dc×Int) (Fi:En×Int) (H:List Mo×Int) (hVH:V.2=0->H.2=0)
  (hV:Pp 17 [egs m,Zu L,.str cart,tg b] (UG V))
  (hFi:Pp 41 [doc V.1,.str item,ref place] (ZaT Fi))
  (hH:Pp 11 [egs m,Zu L,.str cart,tg b] (Gx H))
  (hl:H.1.length<=100000) (hx:∀x∈H.1,x.l.length<=1000000):
  Pp 13 [egs m,Zu L,.str cart,tg b,.str item,ref place] (tgc (Zfr V Fi H item place)):=by
 unfold Zfr;obtain⟨vd,vc⟩:=V;obtain⟨fe,fc⟩:=Fi;obtain⟨H,hc⟩:=H;simp only at hFi hl hx hVH ⊢;by_cases h1:vc=0;subst h1;obtain rfl:=hVH rfl;rw[if_neg (by simp)];by_cases h2:fc=0;subst h2;rw[if_neg (by simp),if_neg (by simp)];have:=Zg4 m L cart b item place vd fe H hV hFi hH hl hx;unfold Zef at this;rwa[Jp]at this;rw[if_pos h2];have e:(fc !=0)=true:=by simpa using h2
 obtain⟨vh,vr⟩:=vd;refine Zx func13 rfl ntmps13 results13 (WS _) ?_;simp only[go_sem,egs,Zu,tg,ref];refine vc7 hV ?_;simp only[go_sem,UG,doc];refine vc1 hFi ?_;simp only[go_sem,ZaT,ent,e,tgc,tg];rfl;rw[if_pos h1];have e:(vc !=0)=true:=by simpa using h1
 obtain⟨vh,vr⟩:=vd;refine Zx func13 rfl ntmps13 results13 (WS _) ?_;simp only[go_sem,egs,Zu,tg,ref];refine vc7 hV ?_;simp only[go_sem,UG,doc,e,tgc,tg];rfl
theorem Zhb (l:List Mo) (hl:l.length<=100000) (hs:∀x∈l,Pp 42 [Tk x.l,Tk x.l] (.bool Ht)):Pp 14 [mos l,mos l] (.bool Ht):=by
 have hlm:l.length<=maxLen:=by rw[Zb];omega
 have e0:((l.length:Int) !=(l.length:Int))=false:=by simp
 refine ZM func14 rfl ntmps14 results14 ?_;simp only[go_sem,mos,e0];refine Zs (ι:= { x:Nat // x<=(l).length }) 42 (λx=> [(0,mos l),(1,mos l),(5,.int .i64 (x.1:Int))]) (λx=> []) (λx=> []) (λx=>(l).length-x.1) ⟨0,Jb _⟩ ⟨rfl,(Fc3 rfl rfl rfl),fnl,fnl⟩ (λx=>⟨(Fc3 rfl rfl rfl),fnl⟩) (λx=> ?_);obtain⟨k,hk⟩:=x;simp only at hk ⊢;by_cases h:(k:Int)<(l.length:Int)
 (have hka:k<(l).length:=by omega);(have w1:=Xi hka (hlm));(have i1:=Ja k)
 have hS:=hs _ (Zp (d:=Jd) hka);have hgd:=Zd7 hka;generalize l.getD k Jd=x at *;have e1:(x.id.r==x.id.r&&x.id.n==x.id.n)=true:=by simp
 simp only[go_sem,mos,h];refine vDq ?_;simp only[go_sem,mos,h,hgd,mo,i1,e1];refine vc8 hS ?_;simp only[go_sem,w1];exact⟨⟨k+1,by omega⟩,nx9 (by omega),⟨rfl,(Fc3 rfl rfl rfl),fnl,fnl⟩⟩;simp only[go_sem,mos,h]
open Go.PL Go.PL.Srt
def ZtV (r:Rw):Prop:=r.l.length<=100000/\ ∀e∈r.l,e.l.length<=1000000
theorem ZfO {l:List En} {i:Nat} (h:∀e∈l,e.l.length<=1000000):(l.getD i Jd).l.length<=maxLen:=by
 rw[Zb];by_cases hi:i<l.length;have:=h _ (Zp (d:=Jd) hi);omega;rw[VB (by omega)];exact Jb _
theorem Dl {r:Rw} {k:Int} {it:Str} (h:ZtV r):FineC ⟨k,it,Jd,Jd,r.l⟩:=by
 have e:=Zb;exact⟨Jb _,Jb _,by have:=h.1;simp only;omega,λx hx=>by have:=h.2 x hx;omega⟩
theorem FJ {it:Str} {a b:List En} (ha:∀e∈a,e.l.length<=1000000) (hb:∀e∈b,e.l.length<=1000000):∀c∈Z2 it a b,FineC c:=λc hc=>by
 obtain⟨i,_,rfl⟩:=List.mem_map.1 hc;exact⟨ZfO ha,ZfO hb,Jb _,λe h=>by cases h⟩
theorem W4:∀(n:Nat) (P Q:List Rw),P.length+Q.length<=n->(∀r∈P,ZtV r)->(∀r∈Q,ZtV r)-> ∀c∈Y9 P Q,FineC c
 |_,[],[],_,_,_=>by rw[Y9];simp
 |0,p::ps,Q,h,_,_=>by simp at h
 |0,[],q::qs,h,_,_=>by simp at h
 |n+1,p::ps,[],h,hP,hQ=>λc hc=>by
  rw[Y9,Jr]at hc;rcases hc with rfl|hc;exact Dl (hP p (by simp));exact W4 n ps [] (by simp at h ⊢;omega) (λr hr=>hP r (by simp[hr])) hQ c hc
 |n+1,[],q::qs,h,hP,hQ=>λc hc=>by
  rw[Y9,Jr]at hc;rcases hc with rfl|hc;exact Dl (hQ q (by simp));exact W4 n [] qs (by simp at h ⊢;omega) hP (λr hr=>hQ r (by simp[hr])) c hc
 |n+1,p::ps,q::qs,h,hP,hQ=>λc hc=>by
  have hP':∀r∈ps,ZtV r:=λr hr=>hP r (by simp[hr])
  have hQ':∀r∈qs,ZtV r:=λr hr=>hQ r (by simp[hr])
  rw[Y9]at hc;split at hc;rcases Jr.1 hc with rfl|hc;exact Dl (hP p (by simp));exact W4 n ps (q::qs) (by simp at h ⊢;omega) hP' hQ c hc;split at hc;rcases Jr.1 hc with rfl|hc;exact Dl (hQ q (by simp));exact W4 n (p::ps) qs (by simp at h ⊢;omega) hP hQ' c hc;rcases JQ.1 hc with hc|hc;exact FJ (hP p (by simp)).2 (hQ q (by simp)).2 c hc;exact W4 n ps qs (by simp at h ⊢;omega) hP' hQ' c hc
theorem Zhw {F:List Fd} {a b:Dc} (ha:OkDd a) (hb:OkDd b):∀c∈(WG F a b).1,FineC c:=λc hc=>by
 unfold WG at hc;split at hc;cases hc;rcases JQ.1 hc with hc|hc;exact FJ ha.e hb.e c hc;exact W4 _ _ _ (Nat.le_refl _) ha.s hb.s c hc
theorem ZkW {m:List Eg} (hm:OkM m) {F:List Fd} {cart:Str} {b:Tg} {s:List Opn} {k:Nat}:∀x∈Zbj m F cart b s k,x.l.length<=1000000/\ ∀c∈x.l,FineC c:=λx hx=>by
 unfold Zbj at hx;obtain⟨i,_,hi⟩:=List.mem_flatMap.1 hx;unfold Zln at hi;split at hi;cases hi;rw[List.mem_singleton.1 hi];exact⟨Zkx _ _ _,Zhw (TC hm) (TC hm)⟩
theorem PastTells_pure (l:List Eg) (ops:List Opn) (cart:Str) (b:Tg) (item:Str) (place:Rf) (hl:l.length<=maxLen) (hx:∀e∈l,LenLn e.ln) (hol:ops.length<=maxLen):Pp 3 [egs l,Zu ops,.str cart,tg b,.str item,ref place] (.bool Ht):=by
 have hH:=Ze3 l 50 hl hx;have hJ:=Zb2 ops 20 hol;have hA:=Zg3 ops hol;cases hh:Zbb l 50;rw[hh]at hH;cases hj:Tp ops 20;rw[hj]at hJ;cases ha:apartB ops;rw[ha]at hA;refine ZM func3 rfl ntmps3 results3 ?_;simp only[go_sem,egs,Zu,tg,ref];refine vc1 Up ?_;simp only[go_sem];refine vc3 hH ?_;simp only[go_sem];refine vc7 hJ ?_;simp only[go_sem];refine vc7 hA ?_;simp only[go_sem];rw[ha]at hA;have hU:(ops.map Opn.id).Nodup:=of_decide_eq_true ha;obtain⟨o1,o2⟩:=okL hh;obtain⟨p1,p2⟩:=Zwj (most:=20) hj;have hG:=ZjV l (by omega) o2;have hm:OkM (V7 l):=ZhX _ Gp o2;have hr:RightM (V7 l):=Zdl _ ZbD;generalize V7 l=m at *;have hfi:ZoX (ZT m ops cart b).1:=ZoI hm;have hok:=TC (m:=m) (l:=ops) (cart:=cart) (b:=b) hm;have hV:=VX m ops cart b hm hr (by omega) p2 hU;have hW:=TR m ops cart b hm hr p2 hU hol;have hF1:=Zat (ZT m ops cart b).1 item place hfi ⟨hok.e,λr hr=>(hok.s r hr).2⟩;have hF2:=Zj3 (ZT m ops cart b).1 item place hfi;have hs1:=Zo6 m ops cart b hm hr (by omega) p2 hU;have hs2:=Zj4 m ops cart b hm hr p2 hU (by omega);rw[ZmZ hm hr hU]at hs1;have hlen:(D0 m ops cart b).1.length<=100000:=by
  unfold D0;split;exact Jb _;exact Jm (Zbk _ _ _ _ _ _) (by omega)
 have hfc:∀x∈(D0 m ops cart b).1,x.l.length<=1000000/\ ∀c∈x.l,FineC c:=by
  unfold D0;split;intro x hx;cases hx;exact ZkW hm
 have hVH:(ZT m ops cart b).2=0->(D0 m ops cart b).2=0:=λh=>by
  unfold D0;rw[if_neg (by rw[h];simp)]
 have hB1:=ZlP m ops cart b item place _ _ _ hV hF1 hs1 hlen λx hx=>(hfc x hx).1
 have hB2:=Zj0 m ops cart b item place _ _ _ hVH hW hF2 hs2 hlen λx hx=>(hfc x hx).1
 have hSm:=Zhb (D0 m ops cart b).1 hlen λx hx=>by
  have e1:x.l.length<=maxLen:=by rw[Zb];have:=(hfc x hx).1;omega
  have:=Zb3 x.l x.l e1 e1 (hfc x hx).2 (hfc x hx).2;rwa[decide_eq_true rfl]at this
 have hN1:=ZlT ops cart b;have hN2:=ZjR ops cart b item place;clear hlen hfc hVH hV hW hF1 hF2 hfi hok;generalize Zfr (ZT m ops cart b) (ZhC (ZT m ops cart b).1 item place) (D0 m ops cart b) item place=T at *;generalize D0 m ops cart b=H at *;obtain⟨hl1,hc1⟩:=H;obtain⟨⟨tr1,tn1⟩,tc⟩:=T;simp only at hSm;have q1:(hc1==hc1)=true:=by simp
 have q2:(tc==tc)=true:=by simp
 have q3:(tr1==tr1)=true:=by simp
 have q4:(tn1==tn1)=true:=by simp
 refine ZM func3 rfl ntmps3 results3 ?_;simp only[go_sem,egs,Zu,tg,ref];refine vc1 Up ?_;simp only[go_sem];refine vc3 hH ?_;simp only[go_sem];refine vc7 hJ ?_;simp only[go_sem];refine vc7 hA ?_;simp only[go_sem];refine vc3 hG ?_;simp only[go_sem,grv];refine vc7 hs1 ?_;simp only[go_sem,Gx,mos];refine vc7 hs2 ?_;simp only[go_sem,Gx,mos];refine vc7 hB1 ?_;simp only[go_sem,tgc,tg];refine vc7 hB2 ?_;simp only[go_sem,tgc,tg];refine vc7 hN1 ?_;simp only[go_sem,Gx,mos];refine vc7 hN2 ?_;simp only[go_sem,tgc,tg,q1];refine vc9 hSm ?_;simp only[go_sem,q1,q2,q3,q4];rw[hj]at hJ;refine ZM func3 rfl ntmps3 results3 ?_;simp only[go_sem,egs,Zu,tg,ref];refine vc1 Up ?_;simp only[go_sem];refine vc3 hH ?_;simp only[go_sem];refine vc7 hJ ?_;simp only[go_sem];rw[hh]at hH;refine ZM func3 rfl ntmps3 results3 ?_;simp only[go_sem,egs,Zu,tg,ref];refine vc1 Up ?_;simp only[go_sem];refine vc3 hH ?_;simp only[go_sem]
end Go.Proofs.YtadgngamdofhiaaGreat
