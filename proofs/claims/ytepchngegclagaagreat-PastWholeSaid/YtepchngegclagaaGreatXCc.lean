/- Lemmas of the proof. -/
import Derived.Test.YtepchngegclagaaGreatPlH
import Derived.Test.YtepchngegclagaaGreatXAa
import Derived.Test.YtepchngegclagaaGreatXAi
import Derived.Test.YtepchngegclagaaGreatXAy
import Derived.Test.YtepchngegclagaaGreatXBd
open Inhabited renaming default→Jd
open Go.Proofs.Tryz
open Go Go.PL
open Bool renaming false_and→Ja,eq_iff_iff→Jb,true_and→Jc,or_eq_false_iff→Je,not_false→Jf,and_eq_true→Jh,and_false→Jk,and_self→Jl
open Int renaming natCast_nonneg→Jg
open List renaming mem_map→Jm
open Nat renaming zero_le→Ji,not_lt_zero→Jj
open PV renaming givableL→Jn
namespace Go.Proofs.YtepchngegclagaaGreat
set_option maxHeartbeats 64000000
set_option maxRecDepth 20000
set_option linter.unusedVariables false
set_option linter.unusedSimpArgs false
open Go.PL
theorem Zfi {f:Fd} (h:Y5 f=true):f.kind=1\/f.kind=2\/f.kind=3\/f.kind=4:=by
 simp only[Y5,Jh]at h;have h:=h.2;by_cases k1:f.kind=1;exact .inl k1;rw[if_neg k1]at h;by_cases k3:f.kind=3;exact .inr (.inr (.inl k3));simp only[if_neg k3,Jh]at h;have h:=h.2;simp[ZkJ]at h;omega
theorem F9 (f:Fd) (s:Str) (hf:f.cases'.length<=maxLen):Pp 56 [fld f,.str s] (.bool (DL f s)):=by
 have hR:=VJ f hf;have hT:=Sd s;have hC:=TP f.cases' s hf;unfold DL;cases hr:Y5 f;rw[hr]at hR;refine Zz func56 rfl ntmps56 results56 ?_;simp only[go_sem,fld];refine vc2 hR ?_;simp only[go_sem,Ja];have hk:=Zfi hr;rw[hr]at hR;have e41:decide ((s.length:Int)<=40)=decide ((s.length:Int)<41):=by rw[Jb];simp;omega
 rw[e41]at hT;obtain⟨a,kind,d,c,w⟩:=f;simp only at hk hR hT hC ⊢;rcases hk with rfl|rfl|rfl|rfl;refine Zz func56 rfl ntmps56 results56 ?_;simp only[go_sem,fld];refine vc2 hR ?_;simp only[go_sem];rfl;refine Zz func56 rfl ntmps56 results56 ?_;simp only[go_sem,fld];refine vc2 hR ?_;simp only[go_sem];refine vc1 hT ?_;simp only[go_sem];simp;refine Zz func56 rfl ntmps56 results56 ?_;simp only[go_sem,fld];refine vc2 hR ?_;simp only[go_sem];refine vc1 hC ?_;simp only[go_sem];simp;refine Zz func56 rfl ntmps56 results56 ?_;simp only[go_sem,fld];refine vc2 hR ?_;simp only[go_sem];refine vc1 hT ?_;simp only[go_sem];simp
def Zjn (l:List Fd) (o:Opn):Bool:=
 XJ o&&(if Y4 o=false then true else decide ((YM l o.at').2=0)&&(if o.kind=3 then decide ((YM l o.at').1.kind=1)else if o.has=true then DL (YM l o.at').1 o.text else decide ((YM l o.at').1.kind=4)))
theorem Zab (l:List Fd) (o:Opn) (hl:OkFs l) (ho:o.drops.length<=maxLen):Pp 17 [Zs l,opv o] (.bool (Zjn l o)):=by
 have hR:=V8 o ho;have hP:=T3 o;have hF:=VK l o.at' (by have:=hl.n;omega) hl.c;have okf:=Zgq hl o.at';have hT:=F9 (YM l o.at').1 o.text (by rw[Zb];omega);unfold Zjn;cases hr:XJ o;rw[hr]at hR;refine Zz func17 rfl ntmps17 results17 ?_;simp only[go_sem,Zs,opv];refine vc6 hR ?_;simp only[go_sem,Ja];rw[hr]at hR;cases hp:Y4 o;rw[hp]at hP;refine Zz func17 rfl ntmps17 results17 ?_;simp only[go_sem,Zs,opv];refine vc6 hR ?_;simp only[go_sem,opv];refine vc6 hP ?_;simp only[go_sem,Jc,if_true];rw[hp]at hP;simp only[Jc,Bool.true_eq_false,if_false];generalize YM l o.at'=y at *;obtain⟨f,c⟩:=y;simp only at hT okf ⊢;by_cases hc:c=0;have ec:(c !=0)=false:=by simpa using hc
 simp only[hc,decide_true,Jc];by_cases k3:o.kind=3;have e3:(o.kind==3)=true:=by simpa using k3
 have ek:(f.kind==1)=decide (f.kind=1):=by rw[Jb];simp
 rw[if_pos k3];refine Zz func17 rfl ntmps17 results17 ?_;simp only[go_sem,Zs,opv];refine vc6 hR ?_;simp only[go_sem,opv];refine vc6 hP ?_;simp only[go_sem];refine vc2 hF ?_;simp only[go_sem,FN,fld,ec,e3,ek];have e3:(o.kind==3)=false:=by simpa using k3
 rw[if_neg k3];have ek:(f.kind==4)=decide (f.kind=4):=by rw[Jb];simp
 cases hh:o.has;refine Zz func17 rfl ntmps17 results17 ?_;simp only[go_sem,Zs,opv,hh];refine Z6 hR ?_ ?_ ?_;simp only[go_sem,opv];simp only[go_sem,opv,hh];simp only[go_sem,opv];refine Z6 hP ?_ ?_ ?_;simp only[go_sem,opv];simp only[go_sem,opv,hh];simp only[go_sem];refine vc2 hF ?_;simp only[go_sem,FN,fld,ec,e3,ek,if_false];refine Zz func17 rfl ntmps17 results17 ?_;simp only[go_sem,Zs,opv,hh];refine Z6 hR ?_ ?_ ?_;simp only[go_sem,opv];simp only[go_sem,opv,hh];simp only[go_sem,opv];refine Z6 hP ?_ ?_ ?_;simp only[go_sem,opv];simp only[go_sem,opv,hh];simp only[go_sem];refine vc2 hF ?_;simp only[go_sem,FN,fld,ec,e3];refine vc2 hT ?_;simp only[go_sem,if_true];have ec:(c !=0)=true:=by simpa using hc
 refine Zz func17 rfl ntmps17 results17 ?_;simp only[go_sem,Zs,opv];refine vc6 hR ?_;simp only[go_sem,opv];refine vc6 hP ?_;simp only[go_sem];refine vc2 hF ?_;simp only[go_sem,FN,fld,ec,hc,Ja]
open Go.PL
theorem ZmC {x:Ln} {o:Opn} (h:OkOp o):OkOp (FQ x o).1:=by
 have hd:=h.d;refine⟨?_⟩;unfold FQ Yv;repeat' split
 all_goals first|exact hd|exact Ji _
open Go.PL Go.PL.Srt
def Yl (a b:Opn):Bool:=if a.time=b.time then Wv a.id b.id else decide (a.time<b.time)
theorem Th (a b:Opn):Pp 153 [opv a,opv b] (.bool (Yl a b)):=by
 have hT:=Zai a.id b.id;unfold Yl;by_cases h:a.time=b.time;have e:(a.time !=b.time)=false:=by simpa using h
 rw[if_pos h];refine Zz func153 rfl ntmps153 results153 ?_;simp only[go_sem,opv,e];refine vc3 hT ?_;simp only[go_sem];have e:(a.time !=b.time)=true:=by simpa using h
 rw[if_neg h];refine Zz func153 rfl ntmps153 results153 ?_;simp only[go_sem,opv,e]
def Zdl (a b:Opn):Int:=if Yl a b=true then-1 else if Yl b a=true then 1 else 0
theorem Zef (a b:Opn):Pp 119 [opv a,opv b] (.int .i64 (Zdl a b)):=by
 have h1:=Th a b;have h2:=Th b a;unfold Zdl;cases e1:Yl a b
 ·cases e2:Yl b a;all_goals
   rw[e1]at h1;rw[e2]at h2;refine Zz func119 rfl ntmps119 results119 ?_;simp only[go_sem,opv];refine vc6 h1 ?_;simp only[go_sem];refine vc6 h2 ?_;simp only[go_sem]
 rw[e1]at h1;refine Zz func119 rfl ntmps119 results119 ?_;simp only[go_sem,opv];refine vc6 h1 ?_;simp only[go_sem]
theorem V6 (a b:Tg):Wv a b=true↔a.r<b.r\/(a.r=b.r/\a.n<b.n):=by
 unfold Wv;split;rename_i h;rw[decide_eq_true_eq];exact⟨λk=> .inr ⟨h,k⟩,λk=>by rcases k with k|k;exact absurd h (by omega);exact k.2⟩;rename_i h;rw[decide_eq_true_eq];exact⟨.inl,λk=>by rcases k with k|k;exact k;exact absurd k.1 h⟩
theorem Zic {a b:Tg} (h:Wv a b=true):Wv b a=false:=by
 rw[Bool.eq_false_iff,ne_eq,V6];rw[V6]at h;omega
theorem Zfw {a b c:Tg} (h1:Wv a b=true) (h2:Wv b c=true):Wv a c=true:=by
 rw[V6]at *;omega
theorem ZkN {a b:Tg} (h:a≠b):Wv a b=true\/Wv b a=true:=by
 rw[V6,V6];by_cases e:a.r=b.r;have hn:a.n≠b.n:=λen=>h (by cases a;cases b;simp only at e en;subst e en;rfl)
 omega;omega
theorem ZaT:Srt.Good Yl where
 asym a b h:=by
  unfold Yl at *
  by_cases e:a.time=b.time
  ·rw[if_pos e]at h;rw[if_pos e.symm];exact Zic h
  ·rw[if_neg e]at h;rw[if_neg (λx=>e x.symm)];simp at h ⊢;omega
 trans a b c h1 h2:=by
  unfold Yl at *
  by_cases p:a.time=b.time
  ·rw[if_pos p]at h1
   by_cases q:b.time=c.time
   ·rw[if_pos q]at h2;rw[if_pos (p.trans q)];exact Zfw h1 h2
   ·rw[if_neg q]at h2;rw[if_neg (λx=>q (p.symm.trans x))];simp at h2 ⊢;omega
  ·rw[if_neg p]at h1
   by_cases q:b.time=c.time
   ·rw[if_pos q]at h2;rw[if_neg (λx=>p (x.trans q.symm))];simp at h1 ⊢;omega
   ·rw[if_neg q]at h2;simp at h1 h2;rw[if_neg (by omega)];simp;omega
theorem Zkb {a b:Opn} (h:a.id≠b.id):Yl a b=true\/Yl b a=true:=by
 unfold Yl;by_cases e:a.time=b.time;rw[if_pos e,if_pos e.symm];exact ZkN h;rw[if_neg e,if_neg (λx=>e x.symm)];simp;omega
theorem ops_sort:SortK opv 119 Yl Zdl where
 len _:=rfl
 atom a:=rfl
 ids a:=by simp[opv,PV.ids,PV.idsL]
 known _:=rfl
 give a m:=by simp[opv,PV.give,PV.giveL]
 givable a m:=by simp[opv,PV.givable,Jn]
 part a:=rfl
 cmp:=Zef
 cv a b:=by
  unfold Zdl;cases h1:Yl a b
  ·cases h2:Yl b a<;>simp
  ·simp
 good:=ZaT
def Zt (l:List Opn):PV:= .sl .no (l.map opv)
theorem vc7 {x:Bool} {M:KH} {g:FuncId} {args args':List PV} {K:KR} {r:PV} (h1:Pp g args' r) (h2:K.k r M.m) (h0:Jn M.m args:=by first|(simp only[go_sem,ref,ent,Ys,doc,YD,row,Zs,fld,lns,tg,refs,prs,pr,eg,egs,tgs,lg,lgs,YS,opv,tr,Zt];done)|exact rfl) (he:PV.giveL M.m args=args':=by first|(simp only[go_sem,ref,ent,Ys,doc,YD,row,Zs,fld,lns,tg,refs,prs,pr,eg,egs,tgs,lg,lgs,YS,opv,tr,Zt];done)|exact rfl):@Vo prog x M (some (g,args)) K:=Z6 h1 h0 he h2
theorem Yb (l:List Opn):Sized 15 (l.map opv):=λe he=>by
 obtain⟨o,_,rfl⟩:=Jm.1 he;rfl
theorem Xr (l:List Opn):YZ (l.map opv):=λe he=>by
 obtain⟨o,_,rfl⟩:=Jm.1 he;rfl
theorem Zl0 (l:List Opn):PV.didsL (l.map opv)= []:=by
 induction l with
 |nil=>rfl
 |cons o l ih=>simp only[List.map_cons,PV.didsL,Ty,ih,List.append_nil]
theorem Wn (l:List Opn):(Zt l).dids= []:=by simp only[Zt,PV.dids,Zl0]
theorem ZC {l:List Opn} {k:Nat} (h:k<l.length):(l.map opv).getD k .any=opv (l.getD k Jd):=Xa h
theorem YU (o:Opn):(opv o).ids= []:=ops_sort.ids o
theorem Sa (o:Opn) (ho:OkOp o):Pp 59 [opv o] (opv o):=by
 have hr:=Ym ho.d (show 16<=1000 by omega);refine ZF func59 rfl ntmps59 results59 (Ty _) ?_;simp only[go_sem,opv,Dh,ZfU,hr]
def Ug (l:List Opn) (most:Int):Bool:=decide (most<(l.length:Int))||l.any TK
theorem FG (l:List Opn) (most:Int) (hl:l.length<=maxLen):Pp 8 [Zt l,.int .i64 most] (.bool (Ug l most)):=by
 by_cases hm:most<(l.length:Int);refine Zz func8 rfl ntmps8 results8 ?_;simp only[go_sem,Zt,hm,Ug];have hz:Ug l most=l.any TK:=by simp only[Ug,hm,decide_false,Bool.false_or]
 rw[hz];refine Zz func8 rfl ntmps8 results8 ?_;simp only[go_sem,Zt,hm];refine Zr (ι:= { x:Nat // x<=(l).length/\(∀j,j<x->TK (l.getD j Jd)=false) }) 21 (λx=> [(0,Zt l),(5,.int .i64 (x.1:Int))]) (λx=> []) (λx=> []) (λx=>(l).length-x.1) ⟨0,Ji _,λj hj=>absurd hj (Jj j)⟩ ⟨rfl,(Fc2 rfl rfl),fnl,fnl⟩ (λx=>⟨(Fc2 rfl rfl),fnl⟩) (λx=> ?_);obtain⟨k,hk,hI⟩:=x;simp only at hk hI ⊢;by_cases h:(k:Int)<(l.length:Int)
 (have hka:k<(l).length:=by omega);(have w1:=We hka (hl));(have i1:=Jg k)
 have hF:=Zcm (l.getD k Jd);cases hf:TK (l.getD k Jd)
 ·rw[hf]at hF;simp only[go_sem,Zt,h,ZC hka,opv,i1];refine vc6 hF ?_;simp only[go_sem,w1];exact⟨⟨k+1,by(try simp only);omega,Zi hI hf⟩,by show(l).length-(k+1)<(l).length-k;omega,⟨rfl,(Fc2 rfl rfl),fnl,fnl⟩⟩
 rw[hf]at hF;have hz:=Ub (p:=TK) hka hf;simp only[go_sem,Zt,h,ZC hka,opv,i1];refine vc6 hF ?_;simp only[go_sem,hz];have hz:=VM (p:=TK) (d:=Jd) (l:=l) (λj hj=>hI j (by omega));simp only[go_sem,Zt,h,hz]
theorem Zsp {l:List Opn} {most:Nat} (h:Ug l (most:Int)=false):l.length<=most/\ ∀o∈l,OkOp o:=by
 simp only[Ug,Je,decide_eq_false_iff_not,List.any_eq_false]at h;refine⟨by omega,λo ho=>⟨?_⟩⟩;have:=h.2 o ho;simp only[TK,Bool.not_eq_true,Je,decide_eq_false_iff_not]at this;omega
def apartB (l:List Opn):Bool:=decide (l.map Opn.id).Nodup
open Go.PL
theorem Zep (a b:Tg):Pp 97 [tg a,tg b] (.bool (Wv a b)):=by
 refine Zz func97 rfl ntmps97 results97 ?_;simp only[go_sem,tg];repeat' ((first|(first|apply Zl|apply Zj|apply Zp)<;>intro h|refine vDq ?_)<;>first|simp only[go_sem,h]|simp only[go_sem]|skip)
 all_goals simp_all[Wv]
 all_goals (try omega)
theorem Zco (o:Opn):Pp 132 [opv o] (.bool (Vs o)):=by
 by_cases h60:60<(o.drops.length:Int);refine Zz func132 rfl ntmps132 results132 ?_;simp only[go_sem,opv,h60,Vs,Ja];have hm:o.drops.length<=maxLen:=by rw[Zb];omega
 have hx:Vs o=(List.range o.drops.length).all (Yz o):=by simp only[Vs,h60,decide_false,Jf,Jc]
 rw[hx];refine Zz func132 rfl ntmps132 results132 ?_;simp only[go_sem,opv,h60];refine Zr (ι:= { x:Nat // x<=(o.drops).length/\(∀j,j<x->Yz o j=true) }) 51 (λx=> [(1,.ptr 1 0),(3,.int .i64 (x.1:Int))]) (λx=> [(1,Xd o,false)]) (λx=> []) (λx=>(o.drops).length-x.1) ⟨0,Ji _,λj hj=>absurd hj (Jj j)⟩ ⟨rfl,(Fc2 rfl rfl),(fcs ⟨rfl,rfl⟩ fnl),fnl⟩ (λx=>⟨(Fc2 rfl rfl),(fcs rfl fnl)⟩) (λx=> ?_);obtain⟨k,hk,hI⟩:=x;simp only at hk hI ⊢;by_cases h:(k:Int)<(o.drops.length:Int)
 (have hka:k<(o.drops).length:=by omega);(have w1:=We hka (hm));(have i1:=Jg k)
 have hT:=VI (o.drops.getD k Jd);cases ht:Vl (o.drops.getD k Jd);rw[ht]at hT;have hz:=ZM (p:=Yz o) hka (by simp only[Yz,ht,Ja]);simp only[go_sem,Xd,h];refine vDq ?_;simp only[go_sem,Xd,h,ZE hka,tg,i1];refine vc3 hT ?_;simp only[go_sem,hz];rw[ht]at hT;cases he:decide (o.drops.getD k Jd=o.id);by_cases h0:0<(k:Int);have hk1:k-1<o.drops.length:=by omega
 have w2:IntKind.i64.wrap ((k:Int)-1)=((k-1:Nat):Int):=by rw[w64 (by omega)];omega
 have j1:(0:Int)<=((k-1:Nat):Int):=by omega
 have j2:((k-1:Nat):Int)<(o.drops.length:Int):=by omega
 have hL:=Zep (o.drops.getD (k-1) Jd) (o.drops.getD k Jd);cases hb:Wv (o.drops.getD (k-1) Jd) (o.drops.getD k Jd);rw[hb]at hL;have hz:=ZM (p:=Yz o) hka (by simp only[Yz,hb,decide_eq_false (show ¬k=0 by omega),Bool.or_self,Jk]);simp only[go_sem,Xd,h];refine vDq ?_;simp only[go_sem,Xd,h,ZE hka,tg,i1];refine vc3 hT ?_;simp only[go_sem,ZD,he,h0,w2,ZE hk1,ZE hka,tg,h,i1,j1,j2];refine vc3 hL ?_;simp only[go_sem,hz]
 ·rw[hb]at hL;have ok:Yz o k=true:=by simp only[Yz,ht,he,hb,Bool.or_true,Jf,Jl]
  simp only[go_sem,Xd,h];refine vDq ?_;simp only[go_sem,Xd,h,ZE hka,tg,i1];refine vc3 hT ?_;simp only[go_sem,ZD,he,h0,w2,ZE hk1,ZE hka,tg,h,i1,j1,j2];refine vc3 hL ?_;simp only[go_sem,w1];exact⟨⟨k+1,by(try simp only);omega,Zi hI ok⟩,by show(o.drops).length-(k+1)<(o.drops).length-k;omega,⟨rfl,(Fc2 rfl rfl),(fcs ⟨rfl,rfl⟩ fnl),fnl⟩⟩
 ·have ok:Yz o k=true:=by simp only[Yz,ht,he,decide_eq_true (show k=0 by omega),Bool.true_or,Jf,Jl]
  simp only[go_sem,Xd,h];refine vDq ?_;simp only[go_sem,Xd,h,ZE hka,tg,i1];refine vc3 hT ?_;simp only[go_sem,ZD,he,h0,w1,ZE hka,tg,i1,h];exact⟨⟨k+1,by(try simp only);omega,Zi hI ok⟩,by show(o.drops).length-(k+1)<(o.drops).length-k;omega,⟨rfl,(Fc2 rfl rfl),(fcs ⟨rfl,rfl⟩ fnl),fnl⟩⟩
 have hz:=ZM (p:=Yz o) hka (by simp only[Yz,he,Bool.not_true,Ja,Jk]);simp only[go_sem,Xd,h];refine vDq ?_;simp only[go_sem,Xd,h,ZE hka,tg,i1];refine vc3 hT ?_;simp only[go_sem,ZD,he,hz,ZE hka,tg,i1,h];have hz:=Vb (p:=Yz o) (n:=o.drops.length) (λj hj=>hI j (by omega));simp only[go_sem,Xd,h,hz]
def Va (o:Opn):Bool:=decide (o.at'=Jd)&&(decide (o.delta=0)&&(!o.has&&decide (o.text= [])))
theorem Ff (a:Rf):(a.sc==0&&(a.gr== []&&a.nm== []))=decide (a=Jd):=Zo a Jd
theorem Zcp (o:Opn):Pp 133 [opv o] (.bool (Va o)):=by
 refine Zz func133 rfl ntmps133 results133 ?_;simp only[go_sem,opv,Ff];repeat' ((first|(first|apply Zl|apply Zj|apply Zp)<;>intro h|refine vDq ?_)<;>first|simp only[go_sem,h,Ff]|simp only[go_sem,Ff]|skip)
 all_goals (simp_all[Va];try(rw[Jb];simp))
def Znq (id:Tg) (l:List Tg):Bool:=Vs ⟨id,Jd,0,[],0,[],Jd,0,false,[],l⟩
theorem Zl4 (o:Opn):Vs o=Znq o.id o.drops:=rfl
def Zkm (o:Opn):Bool:=
 if((((!Vl o.id||(!decide (o.sch=Jd)&& !Vl o.sch))||decide (o.time<1))||decide (1099511627776<o.time))|| !Z0 o.cart)|| !Vs o then false
 else if o.kind=5 then decide (o.item= [])&&Va o
 else if o.kind=1 then(Z0 o.item&&Va o)&&decide ((o.drops.length:Int)=0)
 else if o.kind=2 then Z0 o.item&&Va o
 else if(!XI o.at'||(decide (o.at'.sc=1)&& !Z0 o.item))||(decide (o.at'.sc=0)&& !decide (o.item= []))then false
 else if o.kind=3 then(((!o.has&&decide (o.text= []))&&decide ((o.drops.length:Int)=0))&&decide (-1048577<o.delta))&&decide (o.delta<1048577)
 else(decide (o.kind=4)&&decide (o.delta=0))&&((o.has&&decide ((o.text.length:Int)<41))||(!o.has&&decide (o.text= [])))
theorem Zkn (o:Opn):Zkm o=XJ o:=by
 rw[Jb];unfold Zkm XJ;rw[Zl4];obtain⟨id,sch,time,cart,kind,item,⟨sc,gr,nm⟩,delta,has,text,drops⟩:=o;simp only;generalize Znq id drops=db;by_cases k5:kind=5;subst k5;simp[YT,DW,Y4,Va];constructor
 ·intro h;simp_all;try omega
 ·intro h;simp_all;try omega
 by_cases k1:kind=1;subst k1;simp[YT,DW,Y4,Va];constructor
 ·intro h;simp_all;try omega
 ·intro h;simp_all;try omega
 by_cases k2:kind=2;subst k2;simp[YT,DW,Y4,Va];constructor
 ·intro h;simp_all;try omega
 ·intro h;simp_all;try omega
 by_cases k3:kind=3;subst k3;by_cases s1:sc=1;subst s1;simp[YT,DW,Y4,Va];constructor
 ·intro h;simp_all;try omega
 ·intro h;simp_all;try omega
 by_cases s0:sc=0;subst s0;simp[YT,DW,Y4,Va];constructor
 ·intro h;simp_all;try omega
 ·intro h;simp_all;try omega
 simp[YT,DW,Y4,Va,XI,s1,s0];by_cases k4:kind=4;subst k4;by_cases s1:sc=1
 ·subst s1;cases has;all_goals
   simp[YT,DW,Y4,Va];constructor
   ·intro h;simp_all;try omega
   ·intro h;simp_all;try omega
 by_cases s0:sc=0
 ·subst s0;cases has;all_goals
   simp[YT,DW,Y4,Va];constructor
   ·intro h;simp_all;try omega
   ·intro h;simp_all;try omega
 simp[YT,DW,Y4,Va,XI,s1,s0];simp[YT,k1,k2,k3,k4,k5]
end Go.Proofs.YtepchngegclagaaGreat
