/- Lemmas of the proof. -/
import Derived.Test.YtadgngamdofhiaaGreatPlH
import Derived.Test.YtadgngamdofhiaaGreatXAa
import Derived.Test.YtadgngamdofhiaaGreatXAe
import Derived.Test.YtadgngamdofhiaaGreatXAi
import Derived.Test.YtadgngamdofhiaaGreatXAz
import Derived.Test.YtadgngamdofhiaaGreatXBc
import Derived.Test.YtadgngamdofhiaaGreatXBd
import Derived.Test.YtadgngamdofhiaaGreatXBs
open Inhabited renaming default→Jd
open Go.Proofs.Tryz
open Bool renaming false_and→Ja,true_and→Jb,eq_iff_iff→Jc,and_eq_true→Jf,and_self→Ji,and_false→Jj,not_false→Jk,true_eq_false→Jl,eq_false_iff→Jm,and_true→Jn
open Int renaming natCast_nonneg→Je
open List renaming range→Jo
open Nat renaming not_lt_zero→Jg,zero_le→Jh
namespace Go.Proofs.YtadgngamdofhiaaGreat
set_option maxHeartbeats 64000000
set_option maxRecDepth 20000
set_option linter.unusedVariables false
set_option linter.unusedSimpArgs false
open Go.PL
theorem Zh8 (n:Int):Pp 246 [.int .i64 n] (.bool (!Y6 n)):=by
 by_cases h1:4503599627370496<n;have e:Y6 n=false:=by rw[Jm];simp[Y6];omega
 rw[e];refine ZH func246 rfl ntmps246 results246 ?_;simp only[go_sem,h1];by_cases h2:n < -4503599627370496;have e:Y6 n=false:=by rw[Jm];simp[Y6];omega
 rw[e];refine ZH func246 rfl ntmps246 results246 ?_;simp only[go_sem,h1,h2];have e:Y6 n=true:=by simp[Y6];omega
 rw[e];refine ZH func246 rfl ntmps246 results246 ?_;simp only[go_sem,h1,h2]
theorem ZaG {f:Fd} (h:ZY f=true):f.kind=1\/f.kind=2\/f.kind=3\/f.kind=4:=by
 simp only[ZY,Jf]at h;have h:=h.2;by_cases k1:f.kind=1;exact .inl k1;rw[if_neg k1]at h;by_cases k3:f.kind=3;exact .inr (.inr (.inl k3));simp only[if_neg k3,Jf]at h;have h:=h.2;simp[Zkm]at h;omega
theorem Zbr (f:Fd) (s:Str) (hf:f.cases'.length<=maxLen):Pp 203 [fld f,.str s] (.bool (WN f s)):=by
 have hR:=Uk f hf;have hT:=S8 s;have hC:=Sz f.cases' s hf;unfold WN;cases hr:ZY f;rw[hr]at hR;refine ZH func203 rfl ntmps203 results203 ?_;simp only[go_sem,fld];refine vc2 hR ?_;simp only[go_sem,Ja];have hk:=ZaG hr;rw[hr]at hR;have e41:decide ((s.length:Int)<=40)=decide ((s.length:Int)<41):=by rw[Jc];simp;omega
 rw[e41]at hT;obtain⟨a,kind,d,c,w⟩:=f;simp only at hk hR hT hC ⊢;rcases hk with rfl|rfl|rfl|rfl;refine ZH func203 rfl ntmps203 results203 ?_;simp only[go_sem,fld];refine vc2 hR ?_;simp only[go_sem];rfl;refine ZH func203 rfl ntmps203 results203 ?_;simp only[go_sem,fld];refine vc2 hR ?_;simp only[go_sem];refine vc1 hT ?_;simp only[go_sem];simp;refine ZH func203 rfl ntmps203 results203 ?_;simp only[go_sem,fld];refine vc2 hR ?_;simp only[go_sem];refine vc1 hC ?_;simp only[go_sem];simp;refine ZH func203 rfl ntmps203 results203 ?_;simp only[go_sem,fld];refine vc2 hR ?_;simp only[go_sem];refine vc1 hT ?_;simp only[go_sem];simp
def Tz (l:List Fd) (o:Opn):Bool:=
 X9 o&&(if Z1 o=false then true else decide ((ZJ l o.at').2=0)&&(if o.kind=3 then decide ((ZJ l o.at').1.kind=1)else if o.has=true then WN (ZJ l o.at').1 o.text else decide ((ZJ l o.at').1.kind=4)))
theorem Zbt (l:List Fd) (o:Opn) (hl:OkFs l) (ho:o.drops.length<=maxLen):Pp 162 [Zi l,opv o] (.bool (Tz l o)):=by
 have hR:=SA o ho;have hP:=ST o;have hF:=Ul l o.at' (by have:=hl.n;omega) hl.c;have okf:=Zfk hl o.at';have hT:=Zbr (ZJ l o.at').1 o.text (by rw[Zb];omega);unfold Tz;cases hr:X9 o;rw[hr]at hR;refine ZH func162 rfl ntmps162 results162 ?_;simp only[go_sem,Zi,opv];refine vc6 hR ?_;simp only[go_sem,Ja];rw[hr]at hR;cases hp:Z1 o;rw[hp]at hP;refine ZH func162 rfl ntmps162 results162 ?_;simp only[go_sem,Zi,opv];refine vc6 hR ?_;simp only[go_sem,opv];refine vc6 hP ?_;simp only[go_sem,Jb,if_true];rw[hp]at hP;simp only[Jb,Jl,if_false];generalize ZJ l o.at'=y at *;obtain⟨f,c⟩:=y;simp only at hT okf ⊢;by_cases hc:c=0;have ec:(c !=0)=false:=by simpa using hc
 simp only[hc,decide_true,Jb];by_cases k3:o.kind=3;have e3:(o.kind==3)=true:=by simpa using k3
 have ek:(f.kind==1)=decide (f.kind=1):=by rw[Jc];simp
 rw[if_pos k3];refine ZH func162 rfl ntmps162 results162 ?_;simp only[go_sem,Zi,opv];refine vc6 hR ?_;simp only[go_sem,opv];refine vc6 hP ?_;simp only[go_sem];refine vc2 hF ?_;simp only[go_sem,Zbb,fld,ec,e3,ek];have e3:(o.kind==3)=false:=by simpa using k3
 rw[if_neg k3];have ek:(f.kind==4)=decide (f.kind=4):=by rw[Jc];simp
 cases hh:o.has;refine ZH func162 rfl ntmps162 results162 ?_;simp only[go_sem,Zi,opv,hh];refine Yh hR ?_ ?_ ?_;simp only[go_sem,opv];simp only[go_sem,opv,hh];simp only[go_sem,opv];refine Yh hP ?_ ?_ ?_;simp only[go_sem,opv];simp only[go_sem,opv,hh];simp only[go_sem];refine vc2 hF ?_;simp only[go_sem,Zbb,fld,ec,e3,ek,if_false];refine ZH func162 rfl ntmps162 results162 ?_;simp only[go_sem,Zi,opv,hh];refine Yh hR ?_ ?_ ?_;simp only[go_sem,opv];simp only[go_sem,opv,hh];simp only[go_sem,opv];refine Yh hP ?_ ?_ ?_;simp only[go_sem,opv];simp only[go_sem,opv,hh];simp only[go_sem];refine vc2 hF ?_;simp only[go_sem,Zbb,fld,ec,e3];refine vc2 hT ?_;simp only[go_sem,if_true];have ec:(c !=0)=true:=by simpa using hc
 refine ZH func162 rfl ntmps162 results162 ?_;simp only[go_sem,Zi,opv];refine vc6 hR ?_;simp only[go_sem,opv];refine vc6 hP ?_;simp only[go_sem];refine vc2 hF ?_;simp only[go_sem,Zbb,fld,ec,hc,Ja]
open Go.PL
theorem SU {f:Fd} (h:ZY f=true) (hk:f.kind=1):1<=f.worth/\f.worth<=1048576:=by
 simp[ZY,hk]at h;omega
theorem FU {l:List Fd} {o:Opn} (h:Tz l o=true):X9 o=true:=by
 simp only[Tz,Jf]at h;exact h.1
theorem ZfD {o:Opn} (h:X9 o=true): -1048576<=o.delta/\o.delta<=1048576:=by
 simp[X9]at h;omega
theorem Zrd {o:Opn} (h:o.kind=3):Z1 o=true:=by simp[Z1,h]
theorem SI {l:List Fd} {o:Opn} (h:Tz l o=true) (hp:Z1 o=true):(ZJ l o.at').2=0/\
  (o.kind=3->(ZJ l o.at').1.kind=1)/\(o.kind≠3->o.has=true->WN (ZJ l o.at').1 o.text=true)/\(o.kind≠3->o.has=false->(ZJ l o.at').1.kind=4):=by
 simp only[Tz,hp,Jf,Jl,if_false,decide_eq_true_eq]at h;obtain⟨_,h1,h2⟩:=h;refine⟨h1,λk=> ?_,λk hh=> ?_,λk hh=> ?_⟩;rw[if_pos k]at h2;simpa using h2;rw[if_neg k,if_pos hh]at h2;exact h2;rw[if_neg k,if_neg (by rw[hh];simp)]at h2;simpa using h2
theorem Zci {l:List Rf} {r:Rf} (h:Yw l r<0):r∉l:=by
 unfold Yw idx at h;cases hf:l.findIdx? λa=>decide (r=a)with
 |none=>
  rw[List.findIdx?_eq_none_iff]at hf;intro hm;have:=hf r hm;simp at this
 |some i=>rw[hf]at h;simp at h;omega
theorem Zcj {l:List Rf} {r:Rf} (h:¬Yw l r<0):∃g:Nat,Yw l r=(g:Int)/\g<l.length/\l.getD g Jd=r:=by
 unfold Yw idx at h ⊢;cases hf:l.findIdx? λa=>decide (r=a)with
 |none=>rw[hf]at h;exact absurd (by decide) h
 |some i=>
  rw[List.findIdx?_eq_some_iff_getElem]at hf;obtain⟨h1,h2,_⟩:=hf;refine⟨i,rfl,h1,?_⟩;rw[getD_lt h1];simpa using(of_decide_eq_true h2).symm
theorem Y3 {a r:Rf} (h:¬Yw [a] r<0):a=r:=by
 obtain⟨g,_,h2,h3⟩:=Zcj h;have:g=0:=by simpa using h2
 subst this;simpa using h3
theorem Zpc {x:Ln} {o:Opn} (h:OkOp o):OkOp (Wu x o).1:=by
 have hd:=h.d;refine⟨?_⟩;unfold Wu Zp;repeat' split
 all_goals first|exact hd|exact Jh _
open Go.PL
theorem ZgT (f:Fd) (l:List Str) (hf:f.cases'.length<=maxLen) (hl:l.length<=maxLen):Pp 220 [fld f,Yq l] (.bool (l.all (WN f))):=by
 refine ZH func220 rfl ntmps220 results220 ?_;simp only[go_sem,fld,Yq];refine Zt (ι:= { x:Nat // x<=(l).length/\(∀j,j<x->WN f (l.getD j [])=true) }) 18 (λx=> [(2,.ptr 2 0),(7,Yq l),(8,.int .i64 (l.length:Int)),(9,.int .i64 (x.1:Int))]) (λx=> [(2,Tu f,false)]) (λx=> []) (λx=>(l).length-x.1) ⟨0,Jh _,λj hj=>absurd hj (Jg j)⟩ ⟨rfl,(Fc4 rfl rfl rfl rfl),(fcs ⟨rfl,rfl⟩ fnl),fnl⟩ (λx=>⟨(Fc4 rfl rfl rfl rfl),(fcs rfl fnl)⟩) (λx=> ?_);obtain⟨k,hk,hI⟩:=x;simp only at hk hI ⊢;by_cases h:(k:Int)<(l.length:Int)
 (have hka:k<(l).length:=by omega);(have w1:=Xb hka (hl));(have i1:=Je k)
 have hF:=Zbr f (l.getD k []) hf;cases hq:WN f (l.getD k []);rw[hq]at hF;have hz:=ZkZ (p:=WN f) hka hq;simp only[go_sem,Yq,h,ZV hka,i1,Tu];refine vc2 hF ?_;simp only[go_sem,hz]
 ·rw[hq]at hF;simp only[go_sem,Yq,h,ZV hka,i1,Tu];refine vc2 hF ?_;simp only[go_sem,w1];exact⟨⟨k+1,by(try simp only);omega,Zm hI hq⟩,by show(l).length-(k+1)<(l).length-k;omega,⟨rfl,(Fc4 rfl rfl rfl rfl),(fcs ⟨rfl,rfl⟩ fnl),fnl⟩⟩
 have hz:=Zoe (p:=WN f) (d:= []) (l:=l) (λj hj=>hI j (by omega));simp only[go_sem,h,hz]
theorem Zi1 (f:Fd) (e:En) (hl:f.cases'.length<=maxLen) (he:e.l.length<=maxLen):Pp 171 [fld f,ent e] (.bool (Gs f e)):=by
 have hR:=Uk f hl;have hA:=ZgT f e.l hl he;cases hr:ZY f;rw[hr]at hR;refine ZH func171 rfl ntmps171 results171 ?_;simp only[go_sem,fld,ent];refine vc2 hR ?_;simp only[go_sem,Gs,hr,Ja];rw[hr]at hR;by_cases ha:e.at'=f.at';have ha':=decide_eq_true ha;by_cases h1:f.kind=1
 ·have k1:(f.kind==1)=true:=by rw[h1];rfl
  have hx:Gs f e=ZqL e:=by simp only[Gs,hr,ha',Ji,Jb,h1,if_true]
  rw[hx];refine ZH func171 rfl ntmps171 results171 ?_;simp only[go_sem,fld,ent];refine vc2 hR ?_;simp only[go_sem,Zr,ha',k1];repeat' ((first|(first|apply Zw|apply Zu|apply ZF)<;>intro h|refine vDq ?_)<;>first|simp only[go_sem,h]|simp only[go_sem]|skip)
  all_goals (simp_all[ZqL];try(first|omega|(rw[decide_eq_true (show(-4503599627370497:Int)<e.n by omega),decide_eq_true (show e.n<4503599627370497 by omega)];simp)))
 have k1:(f.kind==1)=false:=beq_eq_false_iff_ne.2 h1;have hx:Gs f e=(ZgK f e&&ZeW f e):=by simp only[Gs,hr,ha',Ji,Jb,h1,if_false]
 rw[hx];by_cases hn:e.n=0;have n1:(e.n !=0)=false:=by rw[hn];rfl
 by_cases h4:f.kind=4;have k4:(f.kind==4)=true:=by rw[h4];rfl
 have hx2:(ZgK f e&&ZeW f e)=(decide ((e.l.length:Int)<=400)&&e.l.all (WN f)):=by
  simp only[ZgK,ZeW,h4,if_true,hn,decide_true,Jn];congr 1;rw[Jc];simp
 rw[hx2];by_cases h5:(e.l.length:Int)<=400;refine ZH func171 rfl ntmps171 results171 ?_;simp only[go_sem,fld,ent];refine vc2 hR ?_;simp only[go_sem,Zr,ha',k1,n1,k4,h5];refine vc2 hA ?_;simp only[go_sem,decide_eq_true h5,Jb];refine ZH func171 rfl ntmps171 results171 ?_;simp only[go_sem,fld,ent];refine vc2 hR ?_;simp only[go_sem,Zr,ha',k1,n1,k4,h5,Ja];have k4:(f.kind==4)=false:=beq_eq_false_iff_ne.2 h4;have hx2:(ZgK f e&&ZeW f e)=(((e.l.length:Int)==1)&&e.l.all (WN f)):=by
  simp only[ZgK,ZeW,h4,if_false,hn,decide_true,Jn];congr 1
 rw[hx2];cases h5:(e.l.length:Int)==1;refine ZH func171 rfl ntmps171 results171 ?_;simp only[go_sem,fld,ent];refine vc2 hR ?_;simp only[go_sem,Zr,ha',k1,n1,k4,h5,Ja];refine ZH func171 rfl ntmps171 results171 ?_;simp only[go_sem,fld,ent];refine vc2 hR ?_;simp only[go_sem,Zr,ha',k1,n1,k4,h5];refine vc2 hA ?_;simp only[go_sem,Jb];have n1:(e.n !=0)=true:=bne_iff_ne.2 hn;have hx2:(ZgK f e&&ZeW f e)=false:=by simp[ZeW,hn]
 rw[hx2];refine ZH func171 rfl ntmps171 results171 ?_;simp only[go_sem,fld,ent];refine vc2 hR ?_;simp only[go_sem,Zr,ha',k1,n1];have ha':=decide_eq_false ha;have hx:Gs f e=false:=by simp only[Gs,ha',Jj,Ja]
 rw[hx];refine ZH func171 rfl ntmps171 results171 ?_;simp only[go_sem,fld,ent];refine vc2 hR ?_;simp only[go_sem,Zr,ha']
theorem ZU {l:List En} {i:Nat} (h:i<l.length):(l.map ent).getD i .any=ent (l.getD i Jd):=XE h
theorem Ze2 {l:List Rw} {i:Nat} (h:i<l.length):(l.map row).getD i .any=row (l.getD i Jd):=XE h
theorem UC (l:List Fd) (es:List En) (hl:l.length<=maxLen) (hes:es.length<=maxLen) (hl':∀f∈l,f.cases'.length<=maxLen) (hes':∀e∈es,e.l.length<=maxLen):Pp 122 [Zi l,YG es] (.bool (XV l es)):=by
 by_cases he:l.length=es.length;have he':((l.length:Int) !=(es.length:Int))=false:=by rw[he];exact bne_self_eq_false _
 have hx:XV l es=(Jo l.length).all (λi=>Gs (l.getD i Jd) (es.getD i Jd)):=by simp only[XV,he,decide_true,Jb]
 rw[hx];refine ZH func122 rfl ntmps122 results122 ?_;simp only[go_sem,Zi,YG,he'];refine Zt (ι:= { x:Nat // x<=(l).length/\(∀j,j<x->Gs (l.getD j Jd) (es.getD j Jd)=true) }) 27 (λx=> [(1,YG es),(12,Zi l),(13,.int .i64 (l.length:Int)),(14,.int .i64 (x.1:Int))]) (λx=> []) (λx=> []) (λx=>(l).length-x.1) ⟨0,Jh _,λj hj=>absurd hj (Jg j)⟩ ⟨rfl,(Fc4 rfl rfl rfl rfl),fnl,fnl⟩ (λx=>⟨(Fc4 rfl rfl rfl rfl),fnl⟩) (λx=> ?_);obtain⟨k,hk,hI⟩:=x;simp only at hk hI ⊢;by_cases h:(k:Int)<(l.length:Int)
 (have hka:k<(l).length:=by omega);(have w1:=Xb hka (hl));(have i1:=Je k)
 have hkb:k<es.length:=by omega
 have i2:(k:Int)<(es.length:Int):=by omega
 have hF:=Zi1 (l.getD k Jd) (es.getD k Jd) (hl' _ (Zs hka)) (hes' _ (Zs hkb));cases hf:Gs (l.getD k Jd) (es.getD k Jd);rw[hf]at hF;have hz:=Z0 (p:=λi=>Gs (l.getD i Jd) (es.getD i Jd)) hka hf;simp only[go_sem,Zi,YG,h,i1,Zx hka,fld];refine vDq ?_;simp only[go_sem,ZU hkb,ent,i1,i2];refine vc2 hF ?_;simp only[go_sem,hz]
 ·rw[hf]at hF;simp only[go_sem,Zi,YG,h,i1,Zx hka,fld];refine vDq ?_;simp only[go_sem,ZU hkb,ent,i1,i2];refine vc2 hF ?_;simp only[go_sem,w1];exact⟨⟨k+1,by(try simp only);omega,Zm hI hf⟩,by show(l).length-(k+1)<(l).length-k;omega,⟨rfl,(Fc4 rfl rfl rfl rfl),fnl,fnl⟩⟩
 have hz:=W9 (p:=λi=>Gs (l.getD i Jd) (es.getD i Jd)) (n:=l.length) (λj hj=>hI j (by omega));simp only[go_sem,h,hz];have he':((l.length:Int) !=(es.length:Int))=true:=bne_iff_ne.2 (by omega);have hx:XV l es=false:=by simp only[XV,he,decide_false,Ja]
 rw[hx];refine ZH func122 rfl ntmps122 results122 ?_;simp only[go_sem,Zi,YG,he']
open Go.PL
theorem FE (a b:Tg):Pp 129 [tg a,tg b] (.bool (Vd a b)):=by
 refine ZH func129 rfl ntmps129 results129 ?_;simp only[go_sem,tg];repeat' ((first|(first|apply Zw|apply Zu|apply ZF)<;>intro h|refine vDq ?_)<;>first|simp only[go_sem,h]|simp only[go_sem]|skip)
 all_goals simp_all[Vd]
 all_goals (try omega)
theorem Zef (o:Opn):Pp 224 [opv o] (.bool (V4 o)):=by
 by_cases h60:60<(o.drops.length:Int);refine ZH func224 rfl ntmps224 results224 ?_;simp only[go_sem,opv,h60,V4,Ja];have hm:o.drops.length<=maxLen:=by rw[Zb];omega
 have hx:V4 o=(Jo o.drops.length).all (YZ o):=by simp only[V4,h60,decide_false,Jk,Jb]
 rw[hx];refine ZH func224 rfl ntmps224 results224 ?_;simp only[go_sem,opv,h60];refine Zt (ι:= { x:Nat // x<=(o.drops).length/\(∀j,j<x->YZ o j=true) }) 51 (λx=> [(1,.ptr 1 0),(3,.int .i64 (x.1:Int))]) (λx=> [(1,Y8 o,false)]) (λx=> []) (λx=>(o.drops).length-x.1) ⟨0,Jh _,λj hj=>absurd hj (Jg j)⟩ ⟨rfl,(Fc2 rfl rfl),(fcs ⟨rfl,rfl⟩ fnl),fnl⟩ (λx=>⟨(Fc2 rfl rfl),(fcs rfl fnl)⟩) (λx=> ?_);obtain⟨k,hk,hI⟩:=x;simp only at hk hI ⊢;by_cases h:(k:Int)<(o.drops.length:Int)
 (have hka:k<(o.drops).length:=by omega);(have w1:=Xb hka (hm));(have i1:=Je k)
 have hT:=Uj (o.drops.getD k Jd);cases ht:SZ (o.drops.getD k Jd);rw[ht]at hT;have hz:=Z0 (p:=YZ o) hka (by simp only[YZ,ht,Ja]);simp only[go_sem,Y8,h];refine vDq ?_;simp only[go_sem,Y8,h,ZK hka,tg,i1];refine vc3 hT ?_;simp only[go_sem,hz];rw[ht]at hT;cases he:decide (o.drops.getD k Jd=o.id);by_cases h0:0<(k:Int);have hk1:k-1<o.drops.length:=by omega
 have w2:IntKind.i64.wrap ((k:Int)-1)=((k-1:Nat):Int):=by rw[w64 (by omega)];omega
 have j1:(0:Int)<=((k-1:Nat):Int):=by omega
 have j2:((k-1:Nat):Int)<(o.drops.length:Int):=by omega
 have hL:=FE (o.drops.getD (k-1) Jd) (o.drops.getD k Jd);cases hb:Vd (o.drops.getD (k-1) Jd) (o.drops.getD k Jd);rw[hb]at hL;have hz:=Z0 (p:=YZ o) hka (by simp only[YZ,hb,decide_eq_false (show ¬k=0 by omega),Bool.or_self,Jj]);simp only[go_sem,Y8,h];refine vDq ?_;simp only[go_sem,Y8,h,ZK hka,tg,i1];refine vc3 hT ?_;simp only[go_sem,ZN,he,h0,w2,ZK hk1,ZK hka,tg,h,i1,j1,j2];refine vc3 hL ?_;simp only[go_sem,hz]
 ·rw[hb]at hL;have ok:YZ o k=true:=by simp only[YZ,ht,he,hb,Bool.or_true,Jk,Ji]
  simp only[go_sem,Y8,h];refine vDq ?_;simp only[go_sem,Y8,h,ZK hka,tg,i1];refine vc3 hT ?_;simp only[go_sem,ZN,he,h0,w2,ZK hk1,ZK hka,tg,h,i1,j1,j2];refine vc3 hL ?_;simp only[go_sem,w1];exact⟨⟨k+1,by(try simp only);omega,Zm hI ok⟩,by show(o.drops).length-(k+1)<(o.drops).length-k;omega,⟨rfl,(Fc2 rfl rfl),(fcs ⟨rfl,rfl⟩ fnl),fnl⟩⟩
 ·have ok:YZ o k=true:=by simp only[YZ,ht,he,decide_eq_true (show k=0 by omega),Bool.true_or,Jk,Ji]
  simp only[go_sem,Y8,h];refine vDq ?_;simp only[go_sem,Y8,h,ZK hka,tg,i1];refine vc3 hT ?_;simp only[go_sem,ZN,he,h0,w1,ZK hka,tg,i1,h];exact⟨⟨k+1,by(try simp only);omega,Zm hI ok⟩,by show(o.drops).length-(k+1)<(o.drops).length-k;omega,⟨rfl,(Fc2 rfl rfl),(fcs ⟨rfl,rfl⟩ fnl),fnl⟩⟩
 have hz:=Z0 (p:=YZ o) hka (by simp only[YZ,he,Bool.not_true,Ja,Jj]);simp only[go_sem,Y8,h];refine vDq ?_;simp only[go_sem,Y8,h,ZK hka,tg,i1];refine vc3 hT ?_;simp only[go_sem,ZN,he,hz,ZK hka,tg,i1,h];have hz:=W9 (p:=YZ o) (n:=o.drops.length) (λj hj=>hI j (by omega));simp only[go_sem,Y8,h,hz]
def VR (o:Opn):Bool:=decide (o.at'=Jd)&&(decide (o.delta=0)&&(!o.has&&decide (o.text= [])))
theorem ZaA (a:Rf):(a.sc==0&&(a.gr== []&&a.nm== []))=decide (a=Jd):=Zr a Jd
theorem Zeg (o:Opn):Pp 225 [opv o] (.bool (VR o)):=by
 refine ZH func225 rfl ntmps225 results225 ?_;simp only[go_sem,opv,ZaA];repeat' ((first|(first|apply Zw|apply Zu|apply ZF)<;>intro h|refine vDq ?_)<;>first|simp only[go_sem,h,ZaA]|simp only[go_sem,ZaA]|skip)
 all_goals (simp_all[VR];try(rw[Jc];simp))
def Zp4 (id:Tg) (l:List Tg):Bool:=V4 ⟨id,Jd,0,[],0,[],Jd,0,false,[],l⟩
theorem ZoC (o:Opn):V4 o=Zp4 o.id o.drops:=rfl
def ZmH (o:Opn):Bool:=
 if((((!SZ o.id||(!decide (o.sch=Jd)&& !SZ o.sch))||decide (o.time<1))||decide (1099511627776<o.time))|| !Ym o.cart)|| !V4 o then false
 else if o.kind=5 then decide (o.item= [])&&VR o
 else if o.kind=1 then(Ym o.item&&VR o)&&decide ((o.drops.length:Int)=0)
 else if o.kind=2 then Ym o.item&&VR o
 else if(!XS o.at'||(decide (o.at'.sc=1)&& !Ym o.item))||(decide (o.at'.sc=0)&& !decide (o.item= []))then false
 else if o.kind=3 then(((!o.has&&decide (o.text= []))&&decide ((o.drops.length:Int)=0))&&decide (-1048577<o.delta))&&decide (o.delta<1048577)
 else(decide (o.kind=4)&&decide (o.delta=0))&&((o.has&&decide ((o.text.length:Int)<41))||(!o.has&&decide (o.text= [])))
theorem ZmI (o:Opn):ZmH o=X9 o:=by
 rw[Jc];unfold ZmH X9;rw[ZoC];obtain⟨id,sch,time,cart,kind,item,⟨sc,gr,nm⟩,delta,has,text,drops⟩:=o;simp only;generalize Zp4 id drops=db;by_cases k5:kind=5;subst k5;simp[Xh,Zac,Z1,VR];constructor
 ·intro h;simp_all;try omega
 ·intro h;simp_all;try omega
 by_cases k1:kind=1;subst k1;simp[Xh,Zac,Z1,VR];constructor
 ·intro h;simp_all;try omega
 ·intro h;simp_all;try omega
 by_cases k2:kind=2;subst k2;simp[Xh,Zac,Z1,VR];constructor
 ·intro h;simp_all;try omega
 ·intro h;simp_all;try omega
 by_cases k3:kind=3;subst k3;by_cases s1:sc=1;subst s1;simp[Xh,Zac,Z1,VR];constructor
 ·intro h;simp_all;try omega
 ·intro h;simp_all;try omega
 by_cases s0:sc=0;subst s0;simp[Xh,Zac,Z1,VR];constructor
 ·intro h;simp_all;try omega
 ·intro h;simp_all;try omega
 simp[Xh,Zac,Z1,VR,XS,s1,s0];by_cases k4:kind=4;subst k4;by_cases s1:sc=1
 ·subst s1;cases has;all_goals
   simp[Xh,Zac,Z1,VR];constructor
   ·intro h;simp_all;try omega
   ·intro h;simp_all;try omega
 by_cases s0:sc=0
 ·subst s0;cases has;all_goals
   simp[Xh,Zac,Z1,VR];constructor
   ·intro h;simp_all;try omega
   ·intro h;simp_all;try omega
 simp[Xh,Zac,Z1,VR,XS,s1,s0];simp[Xh,k1,k2,k3,k4,k5]
theorem Zi7 (l:List Rf) (r:Rf) (hl:l.length<=maxLen):Pp 245 [refs l,ref r] (.int .i64 (Yw l r)):=by
 have hsym:Yw l r=idx (λx=>decide (x=r)) l:=by unfold Yw;congr 1;funext x;simp[eq_comm]
 rw[hsym];refine ZH func245 rfl ntmps245 results245 ?_;simp only[go_sem,refs,ref];refine Zt (ι:= { x:Nat // x<=(l).length/\(∀j,j<x->(λx=>decide (x=r)) (l.getD j Jd)=false) }) 19 (λx=> [(0,refs l),(3,.ptr 3 0),(5,.int .i64 (x.1:Int))]) (λx=> [(3,[.int .i64 r.sc,.str r.gr,.str r.nm],false)]) (λx=> []) (λx=>(l).length-x.1) ⟨0,Jh _,λj hj=>absurd hj (Jg j)⟩ ⟨rfl,(Fc3 rfl rfl rfl),(fcs ⟨rfl,rfl⟩ fnl),fnl⟩ (λx=>⟨(Fc3 rfl rfl rfl),(fcs rfl fnl)⟩) (λx=> ?_);obtain⟨k,hk,hI⟩:=x;simp only at hk hI ⊢;by_cases h:(k:Int)<(l.length:Int)
 (have hka:k<(l).length:=by omega);(have w1:=Xb hka (hl));(have i1:=Je k)
 cases he:(λx=>decide (x=r)) (l.getD k Jd)
 ·have he0:=he;simp only at he;simp only[go_sem,refs,h];refine vDq ?_;simp only[go_sem,Yf hka,h,i1,ref,Zr,he,w1];exact⟨⟨k+1,by(try simp only);omega,Zm hI he0⟩,by show(l).length-(k+1)<(l).length-k;omega,⟨rfl,(Fc3 rfl rfl rfl),(fcs ⟨rfl,rfl⟩ fnl),fnl⟩⟩
 have hx:=XN (p:=λx=>decide (x=r)) hka hI he;simp only at he;simp only[go_sem,refs,h];refine vDq ?_;simp only[go_sem,Yf hka,h,i1,ref,Zr,he,hx];have hx:=WY (p:=λx=>decide (x=r)) (d:=Jd) (l:=l) (λj hj=>hI j (by omega));simp only[go_sem,refs,h,hx]
end Go.Proofs.YtadgngamdofhiaaGreat
