/- Lemmas of the proof. -/
import Derived.Test.YtepchngegclagaaGreatPlH
import Derived.Test.YtepchngegclagaaGreatXAa
open Inhabited renaming default→Jd
open Go.Proofs.Tryz
open Go Go.PL
open List renaming take_append_drop→Ja,append_assoc→Jb,length_eq_zero_iff→Je,length_take→Jg,sublist_append_right→Jh,sublist_append_left→Ji,getElem_mem→Jj,getElem_of_mem→Jk,length_drop→Jm,Pairwise→Jn,take→Jo,length_eq_one_iff→Jp,Sublist→Jq,length_set→Jr,drop_length→Jt,take_length→Ju,perm_middle→Jv
open Nat renaming le_refl→Jl,zero_le→Js,not_lt_zero→Jw
open PV renaming idsL→Jc,ids→Jf
namespace Go.Proofs.YtepchngegclagaaGreat
set_option maxHeartbeats 64000000
set_option maxRecDepth 20000
set_option linter.unusedVariables false
set_option linter.unusedSectionVars false
set_option linter.unusedSimpArgs false
open Go.PL Go.PL.Srt
section
variable {α:Type} [Inhabited α] {pv:α->PV} {g:FuncId} {lt:α->α->Bool} {cv:α->α->Int}
theorem Xk {l:List α} {i:Nat} (h:i<l.length):l.drop i=l.getD i Jd::l.drop (i+1):=by rw[List.drop_eq_getElem_cons h,getD_lt h]
theorem ST {l:List α} {i:Nat} (h:i<l.length):l.take (i+1)=l.take i++ [l.getD i Jd]:=by rw[List.take_succ_eq_append_getElem h,getD_lt h]
theorem Us (K:SortK pv g lt cv) (e:TypeId) (n:Nat) (X A B C Y:List α) (hAC:A.length=C.length) (hn:X.length+A.length+B.length+C.length+Y.length=n) (hm:n<=1000000000000) (l0 r:List PV) (hl0:l0=(X++(A++(B++(C++Y)))).map pv) (hr:r=(X++(C++(B++(A++Y)))).map pv) (ia ib ic:Int) (ha:ia=(X.length:Int)) (hb:ib=((X.length+A.length+B.length:Nat):Int)) (hc:ic=(A.length:Int)):
  Eff prog 264 [.vsl 1000 n 15,.int .i64 ia,.int .i64 ib,.int .i64 ic,.fn g []] (WF n 15 e l0) (.tup []) (WF n 15 e r):=by
 subst hr hl0 ha hb hc;have hcl:∀l:List α,∀p∈l.map pv,p.ids= []:=λl=>YX K.ids l
 refine Eff.vw [] func264 (by decide) rfl ntmps264 results264 (by simp) (hcl _) (hcl _) (by simp[Jf,Jc]) (by simp[Jf,Jc]) λq=> ?_
 have klen:=K.len;have kpart:=K.part;have katom:=K.atom;have kknown:=K.known;simp only[go_sem]at klen kpart katom kknown;simp only[go_sem];refine XP (ι:= { i:Nat // i<=A.length }) 38 (λx=> [(0,.vsl 1000 n 15),(1,.int .i64 (X.length:Int)),(2,.int .i64 ((X.length+A.length+B.length:Nat):Int)),(3,.int .i64 (A.length:Int)),(10,.int .i64 (x.1:Int))]) (λ_=> []) (λ_=> [(1000,.vec n 15 e)]) (λ_=> []) (λ_=> []) (λx=> [(1000,(X++(C.take x.1++(A.drop x.1++(B++(A.take x.1++(C.drop x.1++Y)))))).map pv)]) (λ_=> []) [] [(1000,q)] [] (λx=>A.length-x.1) ⟨0,Js _⟩
  (Yg rfl (Fc5 rfl rfl rfl rfl rfl) rfl (by show some _=some _;simp) rfl) (λx=>Xe (by simp[Jf,Jc,ZN]) (Yh K.ids _)) (λx=> ?_)
 obtain⟨i,hi⟩:=x;simp only;by_cases hk:i<A.length
 ·have hk':i<C.length:=by omega
  have c1:(i:Int)<(A.length:Int):=by omega
  obtain⟨p,hp⟩:∃p,p=X.length+i:=⟨_,rfl⟩;obtain⟨p2,hp2⟩:∃p2,p2=X.length+A.length+B.length+i:=⟨_,rfl⟩;have w1:IntKind.i64.wrap ((X.length:Int)+(i:Int))=(p:Int):=by rw[VK (by omega) (by omega)];omega
  have w2:IntKind.i64.wrap (((X.length+A.length+B.length:Nat):Int)+(i:Int))=(p2:Int):=by rw[VK (by omega) (by omega)];omega
  have w3:IntKind.i64.wrap ((i:Int)+1)=((i+1:Nat):Int):=by rw[VK (by omega) (by omega)];omega
  have el:X++(C.take i++(A.drop i++(B++(A.take i++(C.drop i++Y)))))=(X++C.take i)++A.getD i Jd::((A.drop (i+1)++(B++A.take i))++C.getD i Jd::(C.drop (i+1)++Y)):=by
   rw[Xk hk,Xk hk'];simp
  have en:X++(C.take (i+1)++(A.drop (i+1)++(B++(A.take (i+1)++(C.drop (i+1)++Y)))))=(X++C.take i)++C.getD i Jd::((A.drop (i+1)++(B++A.take i))++A.getD i Jd::(C.drop (i+1)++Y)):=by
   rw[ST hk,ST hk'];simp
  have hx1:p=(X++C.take i).length:=by simp;omega
  have hx2:p2=(X++C.take i).length+1+(A.drop (i+1)++(B++A.take i)).length:=by simp;omega
  have hlen:((X++C.take i)++A.getD i Jd::((A.drop (i+1)++(B++A.take i))++C.getD i Jd::(C.drop (i+1)++Y))).length=n:=by simp;omega
  rw[el];obtain⟨G,hG⟩:∃G:List α,G=X++(C.take (i+1)++(A.drop (i+1)++(B++(A.take (i+1)++(C.drop (i+1)++Y))))):=⟨_,rfl⟩;rw[<-hG]at en;generalize C.drop (i+1)++Y=Z at hx1 hx2 hlen en ⊢;generalize A.drop (i+1)++(B++A.take i)=M at hx1 hx2 hlen en ⊢;generalize X++C.take i=X' at hx1 hx2 hlen en ⊢;generalize A.getD i Jd=a at hx1 hx2 hlen en ⊢;generalize C.getD i Jd=c at hx1 hx2 hlen en ⊢;have sw:=Zcc X' M Z a c (i:=p) (j:=p2) hx1 hx2;have d0:(X'++a::(M++c::Z)).getD p Jd=a:=YC _ _ _ hx1;have d1:(X'++a::(M++c::Z)).getD p2 Jd=c:=by
   rw[show X'++a::(M++c::Z)=(X'++a::M)++c::Z by simp,YC _ _ _ (by simp;omega)]
  have hpl:p2<n:=by omega
  generalize X'++a::(M++c::Z)=l at sw d0 d1 hlen ⊢;unfold swap at sw
  rw[d0,d1]at sw;have g0:(l.map pv).getD p .any=pv a:=by rw[ZR (by omega),d0]
  have g1:(l.map pv).getD p2 .any=pv c:=by rw[ZR (by omega),d1]
  have g2:((l.set p c).map pv).getD p2 .any=pv c:=by
   rw[ZR (by simp;omega),Xl (by omega),d1]
  have b0:0<=(p:Int)/\(p:Int)<(n:Int):=by omega
  have b1:0<=(p2:Int)/\(p2:Int)<(n:Int):=by omega
  simp only[go_sem,c1];refine vDq ?_;simp only[go_sem,w1,w2,w3,b1.1,b1.2,b0.1,b0.2,g0,g1,klen,kpart,katom,kknown,hlen,TE,g2,Jr,sw];exact⟨⟨i+1,by omega⟩,nx9 (by omega),Yg rfl (Fc5 rfl rfl rfl rfl rfl) rfl (by show some _=some _;rw[<-en,hG]) rfl⟩
 have c1:¬(i:Int)<(A.length:Int):=by omega
 have hi:i=A.length:=by omega
 subst hi;simp only[go_sem,c1];refine Ug (r0:= .tup []) (hcl _) rfl (.clean rfl) rfl ?_ rfl;show some _=some _;rw[Jt,Ju,show C.take A.length=C by rw[hAC,Ju],show C.drop A.length= []by rw[hAC,Jt]];simp
end
open Go.PL Go.PL.Srt
section
variable {α:Type} [Inhabited α] {pv:α->PV} {g:FuncId} {lt:α->α->Bool} {cv:α->α->Int}
def Zu9 (R:List α) (m:Nat) (s:List α×List α×List α×List α):Prop:=s.1++(s.2.2.1++(s.2.1++s.2.2.2))=R/\s.1.length+s.2.1.length=m/\0<s.2.1.length/\0<s.2.2.1.length
theorem Zba (K:SortK pv g lt cv) (e:TypeId) (n:Nat) (X A B Y:List α) (hA:0<A.length) (hB:0<B.length) (hn:X.length+A.length+B.length+Y.length=n) (hm:n<=1000000000000) (l0 r:List PV) (hl0:l0=(X++(A++(B++Y))).map pv) (hr:r=(X++(B++(A++Y))).map pv) (ia ib ic:Int) (ha:ia=(X.length:Int)) (hb:ib=((X.length+A.length:Nat):Int)) (hc:ic=((X.length+A.length+B.length:Nat):Int)):
  Eff prog 242 [.vsl 1000 n 15,.int .i64 ia,.int .i64 ib,.int .i64 ic,.fn g []] (WF n 15 e l0) (.tup []) (WF n 15 e r):=by
 subst hr hl0 ha hb hc;have hcl:∀l:List α,∀p∈l.map pv,p.ids= []:=λl=>YX K.ids l
 refine Eff.vw [] func242 (by decide) rfl ntmps242 results242 (by simp) (hcl _) (hcl _) (by simp[Jf,Jc]) (by simp[Jf,Jc]) λq=> ?_
 have w1:IntKind.i64.wrap (((X.length+A.length:Nat):Int)-(X.length:Int))=(A.length:Int):=by rw[VK (by omega) (by omega)];omega
 have w2:IntKind.i64.wrap (((X.length+A.length+B.length:Nat):Int)-((X.length+A.length:Nat):Int))=(B.length:Int):=by rw[VK (by omega) (by omega)];omega
 simp only[go_sem,w1,w2];generalize hR:X++(B++(A++Y))=R;generalize hM:X.length+A.length=m;have hRl:R.length=n:=by rw[<-hR];simp;omega
 refine XP (ι:= { s:List α×List α×List α×List α // Zu9 R m s }) 58 (λx=> [(0,.vsl 1000 n 15),(2,.int .i64 (m:Int)),(4,.fn g []),(10,.int .i64 (x.1.2.1.length:Int)),(11,.int .i64 (x.1.2.2.1.length:Int))]) (λ_=> []) (λ_=> [(1000,.vec n 15 e)]) (λ_=> []) (λ_=> []) (λx=> [(1000,(x.1.1++(x.1.2.1++(x.1.2.2.1++x.1.2.2.2))).map pv)]) (λ_=> []) [] [(1000,q)] [] (λx=>x.1.2.1.length+x.1.2.2.1.length) ⟨(X,A,B,Y),hR,hM,hA,hB⟩
  (Yg rfl (Fc5 rfl rfl rfl rfl rfl) rfl rfl rfl) (λx=>Xe (by simp[Jf,Jc,ZN]) (Yh K.ids _)) (λx=> ?_)
 obtain⟨⟨X',A',B',Y'⟩,h1,h2,h3,h4⟩:=x;simp only at h1 h2 h3 h4 ⊢;have hlen:X'.length+A'.length+B'.length+Y'.length=n:=by rw[<-hRl,<-h1];simp;omega
 have w3:IntKind.i64.wrap ((m:Int)-(A'.length:Int))=(X'.length:Int):=by rw[VK (by omega) (by omega)];omega
 by_cases hne:(A'.length:Int)=(B'.length:Int);have hne':A'.length=B'.length:=by omega
 have w4:IntKind.i64.wrap ((m:Int)-(B'.length:Int))=(X'.length:Int):=by rw[<-hne];exact w3
 simp only[go_sem,hne,w4];refine YP 1000 (Us K e n X' A' [] B' Y' hne' (by simp;omega) hm _ (R.map pv) (by simp) (by rw[<-h1];simp) _ _ _ rfl (by simp;omega) hne.symm) (by simp[Jf,Jc]) (hcl _) (hcl _) rfl rfl rfl ?_;simp only[go_sem];exact Ug (r0:= .tup []) (hcl _) rfl (.clean rfl) rfl rfl rfl;have hbn:((A'.length:Int) !=(B'.length:Int))=true:=bne_iff_ne.2 hne;by_cases hgt:(B'.length:Int)<(A'.length:Int);have e1:A'.take B'.length++A'.drop B'.length=A':=Ja _ _;have l1:(A'.take B'.length).length=B'.length:=by rw[Jg];omega
 have l2:(A'.drop B'.length).length=A'.length-B'.length:=Jm;generalize A'.take B'.length=A1 at e1 l1;generalize A'.drop B'.length=A2 at e1 l2;subst e1;have w5:IntKind.i64.wrap (((A1++A2).length:Int)-(B'.length:Int))=(A2.length:Int):=by rw[VK (by omega) (by omega)];omega
 simp only[go_sem,hbn,hgt,w3,w5];refine YP 1000 (Us K e n X' A1 A2 B' Y' l1 (by simp at hlen;omega) hm _ ((X'++(B'++(A2++(A1++Y')))).map pv) (by simp) rfl _ _ _ rfl (by simp at h2;omega) (by omega)) (by simp[Jf,Jc]) (hcl _) (hcl _) rfl rfl rfl ?_;simp only[go_sem,w5];refine⟨⟨(X'++B',A2,A1,Y'),by simpa using h1,by simp at h2 ⊢;omega,by show 0<A2.length;omega,by show 0<A1.length;omega⟩,by show A2.length+A1.length<(A1++A2).length+B'.length;simp;omega,Yg rfl ?_ rfl (by show some _=some _;simp) rfl⟩;show ∀x∈ [(0,PV.vsl 1000 n 15),(2,.int .i64 (m:Int)),(4,.fn g []),(10,.int .i64 (A2.length:Int)),(11,.int .i64 (A1.length:Int))],_;rw[l1];exact(Fc5 rfl rfl rfl rfl rfl);have e1:B'.take (B'.length-A'.length)++B'.drop (B'.length-A'.length)=B':=Ja _ _;have l1:(B'.take (B'.length-A'.length)).length=B'.length-A'.length:=by rw[Jg];omega
 have l2:(B'.drop (B'.length-A'.length)).length=A'.length:=by rw[Jm];omega
 generalize B'.take (B'.length-A'.length)=B1 at e1 l1;generalize B'.drop (B'.length-A'.length)=B2 at e1 l2;subst e1;have w5:IntKind.i64.wrap (((B1++B2).length:Int)-(A'.length:Int))=(B1.length:Int):=by rw[VK (by omega) (by omega)];omega
 have w6:IntKind.i64.wrap ((m:Int)+((B1++B2).length:Int))=((m+(B1++B2).length:Nat):Int):=by rw[VK (by omega) (by omega)];omega
 have w7:IntKind.i64.wrap (((m+(B1++B2).length:Nat):Int)-(A'.length:Int))=((m+B1.length:Nat):Int):=by rw[VK (by omega) (by omega)];omega
 simp only[go_sem,hbn,hgt,w3,w6,w7];refine YP 1000 (Us K e n X' A' B1 B2 Y' l2.symm (by simp at hlen;omega) hm _ ((X'++(B2++(B1++(A'++Y')))).map pv) (by simp) rfl _ _ _ rfl (by omega) rfl) (by simp[Jf,Jc]) (hcl _) (hcl _) rfl rfl rfl ?_;simp only[go_sem,w5];refine⟨⟨(X',B2,B1,A'++Y'),by simpa using h1,by simp at h2 ⊢;omega,by show 0<B2.length;omega,by show 0<B1.length;omega⟩,by show B2.length+B1.length<A'.length+(B1++B2).length;simp;omega,Yg rfl ?_ rfl (by show some _=some _;simp) rfl⟩;show ∀x∈ [(0,PV.vsl 1000 n 15),(2,.int .i64 (m:Int)),(4,.fn g []),(10,.int .i64 (B2.length:Int)),(11,.int .i64 (B1.length:Int))],_;rw[l2];exact(Fc5 rfl rfl rfl rfl rfl)
end
open Go.PL Go.PL.Srt
section
variable {α:Type} [Inhabited α] {pv:α->PV} {g:FuncId} {lt:α->α->Bool} {cv:α->α->Int}
theorem D9 {a b h:Nat} (hh:h=(a+b) / 2) (hm:a+b<=4000000000000):IntKind.i64.wrap ((IntKind.u64.wrap ((a+b:Nat):Int)).fdiv (2 ^ min 1 64))=(h:Int):=by
 have e1:IntKind.u64.wrap ((a+b:Nat):Int)=((a+b:Nat):Int):=IntWalk.u64_in _ (by omega);have e2:((a+b:Nat):Int).fdiv (2 ^ min 1 64)=(h:Int):=by
  show Int.fdiv ((a+b:Nat):Int) 2=(h:Int);rw[Int.fdiv_eq_ediv_of_nonneg _ (by omega)];omega
 rw[e1,e2,VK (by omega) (by omega)]
theorem Zd8 (K:SortK pv g lt cv) (e:TypeId) (n:Nat) (X B Y:List α) (x:α) (hB:Inc lt B) (hU:∀y∈B,lt x y=true\/lt y x=true) (hB0:0<B.length) (hn:X.length+1+B.length+Y.length=n) (hm:n<=1000000000000) (l0 r:List PV) (hl0:l0=(X++(x::(B++Y))).map pv) (hr:r=(X++(srt lt (x::B)++Y)).map pv) (ia ib ic:Int) (ha:ia=(X.length:Int)) (hb:ib=((X.length+1:Nat):Int)) (hc:ic=((X.length+1+B.length:Nat):Int)):
  Eff prog 195 [.vsl 1000 n 15,.int .i64 ia,.int .i64 ib,.int .i64 ic,.fn g []] (WF n 15 e l0) (.tup []) (WF n 15 e r):=by
 subst hr hl0 ha hb hc;have hcl:∀l:List α,∀p∈l.map pv,p.ids= []:=λl=>YX K.ids l
 refine Eff.vw [] func195 (by decide) rfl ntmps195 results195 (by simp) (hcl _) (hcl _) (by simp[Jf,Jc]) (by simp[Jf,Jc]) λq=> ?_
 have klen:=K.len;have kpart:=K.part;have katom:=K.atom;have kknown:=K.known;simp only[go_sem]at klen kpart katom kknown;have w1:IntKind.i64.wrap (((X.length+1:Nat):Int)-(X.length:Int))=1:=by rw[VK (by omega) (by omega)];omega
 have hl:(X++(x::(B++Y))).length=n:=by simp;omega
 simp only[go_sem,w1];refine XP (ι:= { uv:Nat×Nat // uv.1<=uv.2/\uv.2<=B.length/\(∀t,t<uv.1->lt (B.getD t Jd) x=true)/\ ∀t,uv.2<=t->t<B.length->lt x (B.getD t Jd)=true }) 220 (λy=> [(0,.vsl 1000 n 15),(1,.int .i64 (X.length:Int)),(4,.fn g []),(10,.int .i64 ((X.length+1+y.1.1:Nat):Int)),(11,.int .i64 ((X.length+1+y.1.2:Nat):Int))]) (λ_=> []) (λ_=> [(1000,.vec n 15 e)]) (λ_=> []) (λ_=> []) (λy=> [(1000,(X++(x::(B++Y))).map pv)]) (λ_=> []) [] [(1000,q)] [] (λy=>y.1.2-y.1.1) ⟨(0,B.length),Js _,Jl _,λt h=>absurd h (Jw _),λt h1 h2=>absurd h2 (by omega)⟩
  (Yg rfl (Fc5 rfl rfl rfl rfl rfl) rfl rfl rfl) (λx=>Xe (by simp[Jf,Jc,ZN]) (Yh K.ids _)) (λy=> ?_)
 obtain⟨⟨u,v⟩,h1,h2,h3,h4⟩:=y;simp only at h1 h2 h3 h4 ⊢;by_cases huv:u<v;have c1:((X.length+1+u:Nat):Int)<((X.length+1+v:Nat):Int):=by omega
 have w2:IntKind.i64.wrap (((X.length+1+u:Nat):Int)+((X.length+1+v:Nat):Int))=(((X.length+1+u)+(X.length+1+v):Nat):Int):=by rw[VK (by omega) (by omega)];omega
 obtain⟨d,hd⟩:∃d,d=(u+v) / 2:=⟨_,rfl⟩;have hw:=D9 (a:=X.length+1+u) (b:=X.length+1+v) (h:=X.length+1+d) (by omega) (by omega);have hdB:d<B.length:=by omega
 have g0:((X++(x::(B++Y))).map pv).getD X.length .any=pv x:=by rw[ZR (by omega),YC _ _ _ rfl]
 have g1:((X++(x::(B++Y))).map pv).getD (X.length+1+d) .any=pv (B.getD d Jd):=by
  rw[ZR (by omega),show X++(x::(B++Y))=(X++x::B.take d)++(B.drop d++Y)by rw[Jb,List.cons_append,<-Jb (Jo d B),Ja],Xk hdB];exact congrArg pv (YC _ _ _ (by simp;omega))
 have b0:0<=(X.length:Int)/\(X.length:Int)<(n:Int):=by omega
 have b1:0<=((X.length+1+d:Nat):Int)/\((X.length+1+d:Nat):Int)<(n:Int):=by omega
 have w3:IntKind.i64.wrap (((X.length+1+d:Nat):Int)+1)=((X.length+1+(d+1):Nat):Int):=by rw[VK (by omega) (by omega)];omega
 have hv:=K.cv (B.getD d Jd) x;simp only[go_sem,c1,w2,hw];refine vDq ?_;simp only[go_sem,b1.1,b1.2,b0.1,b0.2,g0,g1,klen,kpart,hl];refine Zk (K.cmp (B.getD d Jd) x) ?_ ?_ ?_;simp only[go_sem,K.give,K.givable];simp only[go_sem,K.give,K.givable];by_cases hlt:lt (B.getD d Jd) x=true;rw[hlt]at hv;simp only[go_sem,hv,of_decide_eq_true hv,w3];refine⟨⟨(d+1,v),by show d+1<=v;omega,h2,λt ht=> ?_,h4⟩,by show v-(d+1)<v-u;omega,Yg rfl (Fc5 rfl rfl rfl rfl rfl) rfl rfl rfl⟩;have ht:t<d+1:=ht;by_cases e:t=d;subst e;exact hlt;refine K.good.trans _ _ _ ?_ hlt;rw[getD_lt (by omega),getD_lt (by omega)];exact hB.lt_get K.good (by omega) (by omega);have hv':¬cv (B.getD d Jd) x<0:=by
  have:lt (B.getD d Jd) x=false:=by simpa using hlt
  rw[this]at hv;simpa using hv
 have hx:lt x (B.getD d Jd)=true:=by
  rw[getD_lt hdB]at hlt ⊢;exact(hU _ (Jj _)).resolve_right hlt
 simp only[go_sem,hv'];refine⟨⟨(u,d),by show u<=d;omega,by show d<=B.length;omega,h3,λt ht ht2=> ?_⟩,by show d-u<v-u;omega,Yg rfl (Fc5 rfl rfl rfl rfl rfl) rfl rfl rfl⟩;have ht:d<=t:=ht;by_cases e:t=d;subst e;exact hx;refine K.good.trans _ _ _ hx ?_;rw[getD_lt (by omega),getD_lt (by omega)];exact hB.lt_get K.good (by omega) (by omega);have c1:¬((X.length+1+u:Nat):Int)<((X.length+1+v:Nat):Int):=by omega
 have huv:v=u:=by omega
 subst huv;have hs:srt lt (x::B)=B.take v++x::B.drop v:=ZfG K.good (by rw[Ja];exact hB) (λp hp=>by
  obtain⟨t,ht,rfl⟩:=Jk hp;rw[Jg]at ht;have:=h3 t (by omega);rw[getD_lt (by omega)]at this;simpa using this) (λp hp=>by
  obtain⟨t,ht,rfl⟩:=Jk hp;rw[Jm]at ht;have:=h4 (v+t) (by omega) (by omega);rw[getD_lt (by omega)]at this;simpa using this) (by
  refine Jv.trans ?_;rw[Ja])
 simp only[go_sem,c1];refine XP (ι:= { t:Nat // t<=v }) 220 (λy=> [(0,.vsl 1000 n 15),(10,.int .i64 ((X.length+1+v:Nat):Int)),(13,.int .i64 ((X.length+y.1:Nat):Int))]) (λ_=> []) (λ_=> [(1000,.vec n 15 e)]) (λ_=> []) (λ_=> []) (λy=> [(1000,(X++(B.take y.1++x::(B.drop y.1++Y))).map pv)]) (λ_=> []) [] [(1000,q)] [] (λy=>v-y.1) ⟨0,Js _⟩
  (Yg rfl (Fc3 rfl rfl rfl) rfl (by show some _=some _;simp) rfl) (λx=>Xe (by simp[Jf,Jc,ZN]) (Yh K.ids _)) (λy=> ?_)
 obtain⟨t,ht⟩:=y;simp only;have w5:IntKind.i64.wrap (((X.length+1+v:Nat):Int)-1)=((X.length+v:Nat):Int):=by rw[VK (by omega) (by omega)];omega
 by_cases htv:t<v
 ·have c2:((X.length+t:Nat):Int)<((X.length+v:Nat):Int):=by omega
  have htB:t<B.length:=by omega
  obtain⟨p,hp⟩:∃p,p=X.length+t:=⟨_,rfl⟩;rw[<-hp];rw[<-hp]at c2;have w6:IntKind.i64.wrap ((p:Int)+1)=((p+1:Nat):Int):=by rw[VK (by omega) (by omega)];omega
  have el:X++(B.take t++x::(B.drop t++Y))=(X++B.take t)++x::([]++B.getD t Jd::(B.drop (t+1)++Y)):=by rw[Xk htB];simp
  have en:X++(B.take (t+1)++x::(B.drop (t+1)++Y))=(X++B.take t)++B.getD t Jd::([]++x::(B.drop (t+1)++Y)):=by rw[ST htB];simp
  have sw:=Zcc (X++B.take t) [] (B.drop (t+1)++Y) x (B.getD t Jd) (i:=p) (j:=p+1) (by simp;omega) (by simp;omega);rw[<-en]at sw;have d0:((X++B.take t)++x::([]++B.getD t Jd::(B.drop (t+1)++Y))).getD p Jd=x:=YC _ _ _ (by simp;omega);have d1:((X++B.take t)++x::([]++B.getD t Jd::(B.drop (t+1)++Y))).getD (p+1) Jd=B.getD t Jd:=by
   rw[show(X++B.take t)++x::([]++B.getD t Jd::(B.drop (t+1)++Y))=(X++B.take t++ [x])++B.getD t Jd::(B.drop (t+1)++Y)by simp,YC _ _ _ (by simp;omega)]
  have hlen:((X++B.take t)++x::([]++B.getD t Jd::(B.drop (t+1)++Y))).length=n:=by simp;omega
  rw[el];generalize (X++B.take t)++x::([]++B.getD t Jd::(B.drop (t+1)++Y))=l at sw d0 d1 hlen ⊢;generalize B.getD t Jd=y at sw d0 d1 ⊢;unfold swap at sw
  rw[d0,d1]at sw;have g0:(l.map pv).getD p .any=pv x:=by rw[ZR (by omega),d0]
  have g1:(l.map pv).getD (p+1) .any=pv y:=by rw[ZR (by omega),d1]
  have g2:((l.set p y).map pv).getD (p+1) .any=pv y:=by rw[ZR (by simp;omega),Xl (by omega),d1]
  have b0:0<=(p:Int)/\(p:Int)<(n:Int):=by omega
  have b1:0<=((p+1:Nat):Int)/\((p+1:Nat):Int)<(n:Int):=by omega
  simp only[go_sem,w5,c2];refine vDq ?_;simp only[go_sem,w6,b1.1,b1.2,b0.1,b0.2,g0,g1,klen,kpart,katom,kknown,hlen,TE,g2,Jr,sw];subst hp;exact⟨⟨t+1,by omega⟩,by show v-(t+1)<v-t;omega,Yg rfl (Fc3 rfl rfl rfl) rfl rfl rfl⟩
 have c2:¬((X.length+t:Nat):Int)<((X.length+v:Nat):Int):=by omega
 have htv:t=v:=by omega
 subst htv;simp only[go_sem,w5,c2];refine Ug (r0:= .tup []) (hcl _) rfl (.clean rfl) rfl ?_ rfl;show some _=some _;rw[hs];simp
end
open Go.PL Go.PL.Srt
section
variable {α:Type} [Inhabited α] {pv:α->PV} {g:FuncId} {lt:α->α->Bool} {cv:α->α->Int}
theorem Zcd (K:SortK pv g lt cv) (e:TypeId) (n:Nat) (X A Y:List α) (x:α) (hA:Inc lt A) (hU:∀y∈A,lt x y=true\/lt y x=true) (hA0:1<A.length) (hn:X.length+A.length+1+Y.length=n) (hm:n<=1000000000000) (l0 r:List PV) (hl0:l0=(X++(A++(x::Y))).map pv) (hr:r=(X++(srt lt (A++ [x])++Y)).map pv) (ia ib ic:Int) (ha:ia=(X.length:Int)) (hb:ib=((X.length+A.length:Nat):Int)) (hc:ic=((X.length+A.length+1:Nat):Int)):
  Eff prog 195 [.vsl 1000 n 15,.int .i64 ia,.int .i64 ib,.int .i64 ic,.fn g []] (WF n 15 e l0) (.tup []) (WF n 15 e r):=by
 subst hr hl0 ha hb hc;have hcl:∀l:List α,∀p∈l.map pv,p.ids= []:=λl=>YX K.ids l
 refine Eff.vw [] func195 (by decide) rfl ntmps195 results195 (by simp) (hcl _) (hcl _) (by simp[Jf,Jc]) (by simp[Jf,Jc]) λq=> ?_
 have klen:=K.len;have kpart:=K.part;have katom:=K.atom;have kknown:=K.known;simp only[go_sem]at klen kpart katom kknown;have w0:IntKind.i64.wrap (((X.length+A.length:Nat):Int)-(X.length:Int))=(A.length:Int):=by rw[VK (by omega) (by omega)];omega
 have w1:IntKind.i64.wrap (((X.length+A.length+1:Nat):Int)-((X.length+A.length:Nat):Int))=1:=by rw[VK (by omega) (by omega)];omega
 have c0:((A.length:Int)==1)=false:=by simp;omega
 have hl:(X++(A++(x::Y))).length=n:=by simp;omega
 simp only[go_sem,w0,w1,c0];refine XP (ι:= { uv:Nat×Nat // uv.1<=uv.2/\uv.2<=A.length/\(∀t,t<uv.1->lt (A.getD t Jd) x=true)/\ ∀t,uv.2<=t->t<A.length->lt x (A.getD t Jd)=true }) 220 (λy=> [(0,.vsl 1000 n 15),(2,.int .i64 ((X.length+A.length:Nat):Int)),(4,.fn g []),(14,.int .i64 ((X.length+y.1.1:Nat):Int)),(15,.int .i64 ((X.length+y.1.2:Nat):Int))]) (λ_=> []) (λ_=> [(1000,.vec n 15 e)]) (λ_=> []) (λ_=> []) (λy=> [(1000,(X++(A++(x::Y))).map pv)]) (λ_=> []) [] [(1000,q)] [] (λy=>y.1.2-y.1.1) ⟨(0,A.length),Js _,Jl _,λt h=>absurd h (Jw _),λt h1 h2=>absurd h2 (by omega)⟩
  (Yg rfl (Fc5 rfl rfl rfl rfl rfl) rfl rfl rfl) (λx=>Xe (by simp[Jf,Jc,ZN]) (Yh K.ids _)) (λy=> ?_)
 obtain⟨⟨u,v⟩,h1,h2,h3,h4⟩:=y;simp only at h1 h2 h3 h4 ⊢;by_cases huv:u<v;have c1:((X.length+u:Nat):Int)<((X.length+v:Nat):Int):=by omega
 have w2:IntKind.i64.wrap (((X.length+u:Nat):Int)+((X.length+v:Nat):Int))=(((X.length+u)+(X.length+v):Nat):Int):=by rw[VK (by omega) (by omega)];omega
 obtain⟨d,hd⟩:∃d,d=(u+v) / 2:=⟨_,rfl⟩;have hw:=D9 (a:=X.length+u) (b:=X.length+v) (h:=X.length+d) (by omega) (by omega);have hdA:d<A.length:=by omega
 have g0:((X++(A++(x::Y))).map pv).getD (X.length+A.length) .any=pv x:=by
  rw[ZR (by omega),show X++(A++(x::Y))=(X++A)++x::Y by simp];exact congrArg pv (YC _ _ _ (by simp))
 have g1:((X++(A++(x::Y))).map pv).getD (X.length+d) .any=pv (A.getD d Jd):=by
  rw[ZR (by omega),show X++(A++(x::Y))=(X++A.take d)++(A.drop d++(x::Y))by rw[Jb,<-Jb (Jo d A),Ja],Xk hdA];exact congrArg pv (YC _ _ _ (by simp;omega))
 have b0:0<=((X.length+A.length:Nat):Int)/\((X.length+A.length:Nat):Int)<(n:Int):=by omega
 have b1:0<=((X.length+d:Nat):Int)/\((X.length+d:Nat):Int)<(n:Int):=by omega
 have w3:IntKind.i64.wrap (((X.length+d:Nat):Int)+1)=((X.length+(d+1):Nat):Int):=by rw[VK (by omega) (by omega)];omega
 have hv:=K.cv x (A.getD d Jd);simp only[go_sem,c1,w2,hw];refine vDq ?_;simp only[go_sem,b1.1,b1.2,b0.1,b0.2,g0,g1,klen,kpart,hl];refine Zk (K.cmp x (A.getD d Jd)) ?_ ?_ ?_;simp only[go_sem,K.give,K.givable];simp only[go_sem,K.give,K.givable];by_cases hlt:lt x (A.getD d Jd)=true;rw[hlt]at hv;simp only[go_sem,hv,of_decide_eq_true hv];refine⟨⟨(u,d),by show u<=d;omega,by show d<=A.length;omega,h3,λt ht ht2=> ?_⟩,by show d-u<v-u;omega,Yg rfl (Fc5 rfl rfl rfl rfl rfl) rfl rfl rfl⟩;have ht:d<=t:=ht;by_cases e:t=d;subst e;exact hlt;refine K.good.trans _ _ _ hlt ?_;rw[getD_lt (by omega),getD_lt (by omega)];exact hA.lt_get K.good (by omega) (by omega);have hv':¬cv x (A.getD d Jd)<0:=by
  have:lt x (A.getD d Jd)=false:=by simpa using hlt
  rw[this]at hv;simpa using hv
 have hx:lt (A.getD d Jd) x=true:=by
  rw[getD_lt hdA]at hlt ⊢;exact(hU _ (Jj _)).resolve_left hlt
 simp only[go_sem,hv',w3];refine⟨⟨(d+1,v),by show d+1<=v;omega,h2,λt ht=> ?_,h4⟩,by show v-(d+1)<v-u;omega,Yg rfl (Fc5 rfl rfl rfl rfl rfl) rfl rfl rfl⟩;have ht:t<d+1:=ht;by_cases e:t=d;subst e;exact hx;refine K.good.trans _ _ _ ?_ hx;rw[getD_lt (by omega),getD_lt (by omega)];exact hA.lt_get K.good (by omega) (by omega);have c1:¬((X.length+u:Nat):Int)<((X.length+v:Nat):Int):=by omega
 have huv:v=u:=by omega
 subst huv;have hs:srt lt (A++ [x])=A.take v++x::A.drop v:=ZfG K.good (by rw[Ja];exact hA) (λp hp=>by
  obtain⟨t,ht,rfl⟩:=Jk hp;rw[Jg]at ht;have:=h3 t (by omega);rw[getD_lt (by omega)]at this;simpa using this) (λp hp=>by
  obtain⟨t,ht,rfl⟩:=Jk hp;rw[Jm]at ht;have:=h4 (v+t) (by omega) (by omega);rw[getD_lt (by omega)]at this;simpa using this) (by
  refine Jv.trans ?_;rw[Ja];exact List.perm_append_comm (l₁:= [x]))
 simp only[go_sem,c1];refine XP (ι:= { t:Nat // v<=t/\t<=A.length }) 220 (λy=> [(0,.vsl 1000 n 15),(14,.int .i64 ((X.length+v:Nat):Int)),(17,.int .i64 ((X.length+y.1:Nat):Int))]) (λ_=> []) (λ_=> [(1000,.vec n 15 e)]) (λ_=> []) (λ_=> []) (λy=> [(1000,(X++(A.take y.1++x::(A.drop y.1++Y))).map pv)]) (λ_=> []) [] [(1000,q)] [] (λy=>y.1-v) ⟨A.length,h2,Jl _⟩
  (Yg rfl (Fc3 rfl rfl rfl) rfl (by show some _=some _;simp) rfl) (λx=>Xe (by simp[Jf,Jc,ZN]) (Yh K.ids _)) (λy=> ?_)
 obtain⟨t,ht1,ht2⟩:=y;simp only;by_cases htv:v<t
 ·obtain⟨t,rfl⟩:∃t',t=t'+1:=⟨t-1,by omega⟩;have c2:((X.length+v:Nat):Int)<((X.length+(t+1):Nat):Int):=by omega
  have htA:t<A.length:=by omega
  obtain⟨p,hp⟩:∃p,p=X.length+t:=⟨_,rfl⟩;have ep:X.length+(t+1)=p+1:=by omega
  rw[ep];rw[ep]at c2;have w6:IntKind.i64.wrap (((p+1:Nat):Int)-1)=(p:Int):=by rw[VK (by omega) (by omega)];omega
  have el:X++(A.take (t+1)++x::(A.drop (t+1)++Y))=(X++A.take t)++A.getD t Jd::([]++x::(A.drop (t+1)++Y)):=by rw[ST htA];simp
  have en:X++(A.take t++x::(A.drop t++Y))=(X++A.take t)++x::([]++A.getD t Jd::(A.drop (t+1)++Y)):=by rw[Xk htA];simp
  have sw:=Zcc (X++A.take t) [] (A.drop (t+1)++Y) (A.getD t Jd) x (i:=p) (j:=p+1) (by simp;omega) (by simp;omega);rw[<-en]at sw;have d0:((X++A.take t)++A.getD t Jd::([]++x::(A.drop (t+1)++Y))).getD p Jd=A.getD t Jd:=YC _ _ _ (by simp;omega);have d1:((X++A.take t)++A.getD t Jd::([]++x::(A.drop (t+1)++Y))).getD (p+1) Jd=x:=by
   rw[show(X++A.take t)++A.getD t Jd::([]++x::(A.drop (t+1)++Y))=(X++A.take t++ [A.getD t Jd])++x::(A.drop (t+1)++Y)by simp,YC _ _ _ (by simp;omega)]
  have hlen:((X++A.take t)++A.getD t Jd::([]++x::(A.drop (t+1)++Y))).length=n:=by simp;omega
  rw[el];generalize (X++A.take t)++A.getD t Jd::([]++x::(A.drop (t+1)++Y))=l at sw d0 d1 hlen ⊢;generalize A.getD t Jd=y at sw d0 d1 ⊢;rw[Zd7 _ _ _ (by omega) (by omega)]at sw;unfold swap at sw
  rw[d0,d1]at sw;have g0:(l.map pv).getD p .any=pv y:=by rw[ZR (by omega),d0]
  have g1:(l.map pv).getD (p+1) .any=pv x:=by rw[ZR (by omega),d1]
  have g2:((l.set (p+1) y).map pv).getD p .any=pv y:=by rw[ZR (by simp;omega),Xl (by omega),d0]
  have b0:0<=(p:Int)/\(p:Int)<(n:Int):=by omega
  have b1:0<=((p+1:Nat):Int)/\((p+1:Nat):Int)<(n:Int):=by omega
  simp only[go_sem,c2];refine vDq ?_;simp only[go_sem,w6,b1.1,b1.2,b0.1,b0.2,g0,g1,klen,kpart,katom,kknown,hlen,TE,g2,Jr,sw];subst hp;exact⟨⟨t,by omega,by omega⟩,by show t-v<t+1-v;omega,Yg rfl (Fc3 rfl rfl rfl) rfl rfl rfl⟩
 have c2:¬((X.length+v:Nat):Int)<((X.length+t:Nat):Int):=by omega
 have htv:t=v:=by omega
 subst htv;simp only[go_sem,c2];refine Ug (r0:= .tup []) (hcl _) rfl (.clean rfl) rfl ?_ rfl;show some _=some _;rw[hs];simp
end
open Go.PL Go.PL.Srt
section
variable {α:Type} [Inhabited α] {pv:α->PV} {g:FuncId} {lt:α->α->Bool} {cv:α->α->Int}
theorem Inc.left {A B:List α} (h:Inc lt (A++B)):Inc lt A:=(Inc.append.1 h).1
theorem Inc.right {A B:List α} (h:Inc lt (A++B)):Inc lt B:=(Inc.append.1 h).2.1
theorem ZgT (gd:Srt.Good lt) {A B:List α} (hA:Inc lt A) (hB:Inc lt B) (hU:Unl lt (A++B)) (s H lo hi:Nat) (c1:lo<=s) (c2:s<=hi) (c3:hi<=H) (c4:hi<=A.length) (c5:H<=lo+B.length) (d1:lo=0\/lo+B.length=H) (d2:hi=H\/hi=A.length)
  (h3:∀t,lo<=t->t<s->lt (A.getD t Jd) (B.getD (H-1-t) Jd)=true) (h4:∀t,s<=t->t<hi->lt (B.getD (H-1-t) Jd) (A.getD t Jd)=true):
  ∃A1 A2 B1 B2,A=A1++A2/\B=B1++B2/\s=A1.length/\H=A1.length+B1.length/\srt lt (A++B)=srt lt (A1++B1)++srt lt (A2++B2):=by
 refine⟨A.take s,A.drop s,B.take (H-s),B.drop (H-s),(Ja _ _).symm,(Ja _ _).symm,by rw[Jg];omega,by rw[Jg,Jg];omega,?_⟩;refine Zm3 gd hA hB hU s (H-s) (by omega) (by omega) (λk1 k2=> ?_) (λk1 k2=> ?_);have:=h3 (s-1) (by omega) (by omega);rw[getD_lt (by omega),getD_lt (by omega)]at this;have e:H-1-(s-1)=H-s:=by omega
 simpa only[e]using this;have:=h4 s (by omega) (by omega);rw[getD_lt (by omega),getD_lt (by omega)]at this;have e:H-1-s=H-s-1:=by omega
 simpa only[e]using this
theorem G3 (K:SortK pv g lt cv) (e:TypeId) (n:Nat) (hm:n<=1000000000000) (tot:Nat):∀(X A B Y:List α) (_:A.length+B.length<=tot) (hA:Inc lt A) (hB:Inc lt B) (hU:Unl lt (A++B)) (_:0<A.length) (_:0<B.length) (hn:X.length+A.length+B.length+Y.length=n) (l0 r:List PV) (hl0:l0=(X++(A++(B++Y))).map pv) (hr:r=(X++(srt lt (A++B)++Y)).map pv) (ia ib ic:Int) (ha:ia=(X.length:Int)) (hb:ib=((X.length+A.length:Nat):Int)) (hc:ic=((X.length+A.length+B.length:Nat):Int)),
  Eff prog 195 [.vsl 1000 n 15,.int .i64 ia,.int .i64 ib,.int .i64 ic,.fn g []] (WF n 15 e l0) (.tup []) (WF n 15 e r):=by
 induction tot with
 |zero=>intro X A B Y h1 _ _ _ h2;omega
 |succ tot ih=>
 intro X A B Y hT hA hB hU hA0 hB0 hn l0 r hl0 hr ia ib ic ha hb hc;by_cases hA1:A.length=1;obtain⟨x,rfl⟩:=Jp.1 hA1;refine Zd8 K e n X B Y x hB (λy hy=> ?_) hB0 (by simpa using hn) hm l0 r (by rw[hl0];rfl) (by rw[hr];rfl) ia ib ic ha hb hc;exact(Unl.append.1 hU).2.2 x (by simp) y hy;by_cases hB1:B.length=1;obtain⟨x,rfl⟩:=Jp.1 hB1;refine Zcd K e n X A Y x hA (λy hy=> ?_) (by omega) (by simpa using hn) hm l0 r (by rw[hl0];rfl) (by rw[hr]) ia ib ic ha hb hc;exact((Unl.append.1 hU).2.2 y hy x (by simp)).symm;subst hr hl0 ha hb hc;have hcl:∀l:List α,∀p∈l.map pv,p.ids= []:=λl=>YX K.ids l
 refine Eff.vw [] func195 (by decide) rfl ntmps195 results195 (by simp) (hcl _) (hcl _) (by simp[Jf,Jc]) (by simp[Jf,Jc]) λq=> ?_
 have klen:=K.len;have kpart:=K.part;simp only[go_sem]at klen kpart;obtain⟨H,hH⟩:∃H,H=(A.length+B.length) / 2:=⟨_,rfl⟩;have w0:IntKind.i64.wrap (((X.length+A.length:Nat):Int)-(X.length:Int))=(A.length:Int):=by rw[VK (by omega) (by omega)];omega
 have w1:IntKind.i64.wrap (((X.length+A.length+B.length:Nat):Int)-((X.length+A.length:Nat):Int))=(B.length:Int):=by rw[VK (by omega) (by omega)];omega
 have c0:((A.length:Int)==1)=false:=by simp;omega
 have c1:((B.length:Int)==1)=false:=by simp;omega
 have w2:IntKind.i64.wrap ((X.length:Int)+((X.length+A.length+B.length:Nat):Int))=((X.length+(X.length+A.length+B.length):Nat):Int):=by rw[VK (by omega) (by omega)];omega
 have hw:=D9 (a:=X.length) (b:=X.length+A.length+B.length) (h:=X.length+H) (by omega) (by omega);have w3:IntKind.i64.wrap (((X.length+H:Nat):Int)+((X.length+A.length:Nat):Int))=((X.length+H+(X.length+A.length):Nat):Int):=by rw[VK (by omega) (by omega)];omega
 have w4:IntKind.i64.wrap (((X.length+H+(X.length+A.length):Nat):Int)-1)=((X.length+H+(X.length+A.length)-1:Nat):Int):=by rw[VK (by omega) (by omega)];omega
 have hl:(X++(A++(B++Y))).length=n:=by simp;omega
 obtain⟨lo,hi,hlh⟩:∃lo hi,(H<A.length/\lo=H-B.length/\hi=H)\/(A.length<=H/\lo=0/\hi=A.length):=by
  by_cases h:H<A.length;exact⟨_,_,.inl ⟨h,rfl,rfl⟩⟩;exact⟨_,_,.inr ⟨by omega,rfl,rfl⟩⟩
 have w5:H<A.length->IntKind.i64.wrap (((X.length+H+(X.length+A.length):Nat):Int)-((X.length+A.length+B.length:Nat):Int))=((X.length+(H-B.length):Nat):Int):=λh=>by rw[VK (by omega) (by omega)];omega
 have w6:(X.length:Int)=((X.length+0:Nat):Int):=by simp
 have hlh2:=hlh;rcases hlh with ⟨hc,hlo,hhi⟩|⟨hc,hlo,hhi⟩;have c2:((X.length+H:Nat):Int)<((X.length+A.length:Nat):Int):=by omega
 simp only[go_sem,w0,w1,c0,c1,w2,hw,w3,w4,c2,w5 hc];rw[<-hlo];have e1:X.length+H=X.length+hi:=by rw[hhi]
 refine XP (ι:= { uv:Nat×Nat // lo<=uv.1/\uv.1<=uv.2/\uv.2<=hi/\(∀t,lo<=t->t<uv.1->lt (A.getD t Jd) (B.getD (H-1-t) Jd)=true)/\ ∀t,uv.2<=t->t<hi->lt (B.getD (H-1-t) Jd) (A.getD t Jd)=true }) 220 (λy=> [(0,.vsl 1000 n 15),(1,.int .i64 (X.length:Int)),(2,.int .i64 ((X.length+A.length:Nat):Int)),(3,.int .i64 ((X.length+A.length+B.length:Nat):Int)),(4,.fn g []),(18,.int .i64 ((X.length+H:Nat):Int)),(19,.int .i64 ((X.length+H+(X.length+A.length):Nat):Int)),(20,.int .i64 ((X.length+y.1.1:Nat):Int)),(21,.int .i64 ((X.length+y.1.2:Nat):Int)),(22,.int .i64 ((X.length+H+(X.length+A.length)-1:Nat):Int))]) (λ_=> []) (λ_=> [(1000,.vec n 15 e)]) (λ_=> []) (λ_=> []) (λy=> [(1000,(X++(A++(B++Y))).map pv)]) (λ_=> []) [] [(1000,q)] [] (λy=>y.1.2-y.1.1) ⟨(lo,hi),Jl _,by show lo<=hi;omega,Jl _,λt h1 h2=>absurd h1 (by have:t<lo:=h2;omega),λt h1 h2=>absurd h2 (by have:hi<=t:=h1;omega)⟩
  (Yg rfl (by subst hhi;exact(Fc10 rfl rfl rfl rfl rfl rfl rfl rfl rfl rfl)) rfl rfl rfl) (λx=>Xe (by simp[Jf,Jc,ZN]) (Yh K.ids _)) (λy=> ?_)
 obtain⟨⟨u,v⟩,h0,h1,h2,h3,h4⟩:=y;simp only at h0 h1 h2 h3 h4 ⊢;by_cases huv:u<v;have c3:((X.length+u:Nat):Int)<((X.length+v:Nat):Int):=by omega
 have w7:IntKind.i64.wrap (((X.length+u:Nat):Int)+((X.length+v:Nat):Int))=(((X.length+u)+(X.length+v):Nat):Int):=by rw[VK (by omega) (by omega)];omega
 obtain⟨d,hd⟩:∃d,d=(u+v) / 2:=⟨_,rfl⟩;have hw2:=D9 (a:=X.length+u) (b:=X.length+v) (h:=X.length+d) (by omega) (by omega);obtain⟨f,hf⟩:∃f,f=H-1-d:=⟨_,rfl⟩;have hdA:d<A.length:=by omega
 have hfB:f<B.length:=by omega
 have w8:IntKind.i64.wrap (((X.length+H+(X.length+A.length)-1:Nat):Int)-((X.length+d:Nat):Int))=((X.length+A.length+f:Nat):Int):=by rw[VK (by omega) (by omega)];omega
 have g0:((X++(A++(B++Y))).map pv).getD (X.length+A.length+f) .any=pv (B.getD f Jd):=by
  rw[ZR (by omega),show X++(A++(B++Y))=(X++(A++B.take f))++(B.drop f++Y)by rw[Jb,Jb,<-Jb (Jo f B),Ja],Xk hfB];exact congrArg pv (YC _ _ _ (by simp;omega))
 have g1:((X++(A++(B++Y))).map pv).getD (X.length+d) .any=pv (A.getD d Jd):=by
  rw[ZR (by omega),show X++(A++(B++Y))=(X++A.take d)++(A.drop d++(B++Y))by rw[Jb,<-Jb (Jo d A),Ja],Xk hdA];exact congrArg pv (YC _ _ _ (by simp;omega))
 have b0:0<=((X.length+A.length+f:Nat):Int)/\((X.length+A.length+f:Nat):Int)<(n:Int):=by omega
 have b1:0<=((X.length+d:Nat):Int)/\((X.length+d:Nat):Int)<(n:Int):=by omega
 have w9:IntKind.i64.wrap (((X.length+d:Nat):Int)+1)=((X.length+(d+1):Nat):Int):=by rw[VK (by omega) (by omega)];omega
 have hv:=K.cv (B.getD f Jd) (A.getD d Jd);simp only[go_sem,c3,w7,hw2];refine vDq ?_;simp only[go_sem,w8,b1.1,b1.2,b0.1,b0.2,g0,g1,klen,kpart,hl];refine Zk (K.cmp (B.getD f Jd) (A.getD d Jd)) ?_ ?_ ?_;simp only[go_sem,K.give,K.givable];simp only[go_sem,K.give,K.givable];have hxy:lt (A.getD d Jd) (B.getD f Jd)=true\/lt (B.getD f Jd) (A.getD d Jd)=true:=by
  rw[getD_lt hdA,getD_lt hfB];exact(Unl.append.1 hU).2.2 _ (Jj _) _ (Jj _)
 by_cases hlt:lt (B.getD f Jd) (A.getD d Jd)=true;rw[hlt]at hv;simp only[go_sem,hv,of_decide_eq_true hv];refine⟨⟨(u,d),h0,by show u<=d;omega,by show d<=hi;omega,h3,λt ht ht2=> ?_⟩,by show d-u<v-u;omega,Yg rfl (Fc10 rfl rfl rfl rfl rfl rfl rfl rfl rfl rfl) rfl rfl rfl⟩;have ht:d<=t:=ht;by_cases et:t=d;subst et;rw[<-hf];exact hlt;have i1:lt (A.getD d Jd) (A.getD t Jd)=true:=by
  rw[getD_lt (by omega),getD_lt (by omega)];exact hA.lt_get K.good (by omega) (by omega)
 have i2:lt (B.getD (H-1-t) Jd) (B.getD f Jd)=true:=by
  rw[getD_lt (by omega),getD_lt (by omega)];exact hB.lt_get K.good (by omega) (by omega)
 exact K.good.trans _ _ _ i2 (K.good.trans _ _ _ hlt i1);have hv':¬cv (B.getD f Jd) (A.getD d Jd)<0:=by
  have:lt (B.getD f Jd) (A.getD d Jd)=false:=by simpa using hlt
  rw[this]at hv;simpa using hv
 have hx:=hxy.resolve_right hlt;simp only[go_sem,hv',w9];refine⟨⟨(d+1,v),by show lo<=d+1;omega,by show d+1<=v;omega,h2,λt ht1 ht=> ?_,h4⟩,by show v-(d+1)<v-u;omega,Yg rfl (Fc10 rfl rfl rfl rfl rfl rfl rfl rfl rfl rfl) rfl rfl rfl⟩;have ht:t<d+1:=ht;by_cases et:t=d;subst et;rw[<-hf];exact hx;have i1:lt (A.getD t Jd) (A.getD d Jd)=true:=by
  rw[getD_lt (by omega),getD_lt (by omega)];exact hA.lt_get K.good (by omega) (by omega)
 have ht1:lo<=t:=ht1;have i2:lt (B.getD f Jd) (B.getD (H-1-t) Jd)=true:=by
  rw[getD_lt (by omega),getD_lt (by omega)];exact hB.lt_get K.good (by omega) (by omega)
 exact K.good.trans _ _ _ i1 (K.good.trans _ _ _ hx i2)
 ·have c3:¬((X.length+u:Nat):Int)<((X.length+v:Nat):Int):=by omega
  have huv:v=u:=by omega
  subst huv;have hex:=ZgT K.good hA hB hU v H lo hi h0 h2 (by omega) (by omega) (by omega) (by omega) (by omega) h3 h4;obtain⟨A1,A2,B1,B2,eA,eB,l1,l2,hsp⟩:=hex;have lA:A.length=A1.length+A2.length:=by rw[eA];simp
  have lB:B.length=B1.length+B2.length:=by rw[eB];simp
  have iA:Inc lt (A1++A2):=eA▸hA;have iB:Inc lt (B1++B2):=eB▸hB;have iU:Unl lt ((A1++A2)++(B1++B2)):=by rw[<-eA,<-eB];exact hU
  have iU1:Unl lt (A1++B1):=Jn.sublist (Jq.append (Ji _ _) (Ji _ _)) iU;have iU2:Unl lt (A2++B2):=Jn.sublist (Jq.append (Jh _ _) (Jh _ _)) iU;have el:X++(A++(B++Y))=X++(A1++(A2++(B1++(B2++Y)))):=by rw[eA,eB];simp
  have wE:IntKind.i64.wrap (((X.length+H+(X.length+A.length):Nat):Int)-((X.length+v:Nat):Int))=((X.length+A.length+(H-v):Nat):Int):=by rw[VK (by omega) (by omega)];omega
  by_cases k1:((X.length+v:Nat):Int)<((X.length+A.length:Nat):Int)<;>by_cases k2:((X.length+A.length:Nat):Int)<((X.length+A.length+(H-v):Nat):Int)<;>by_cases k3:(X.length:Int)<((X.length+v:Nat):Int)<;>by_cases k4:((X.length+v:Nat):Int)<((X.length+H:Nat):Int)<;>by_cases k5:((X.length+H:Nat):Int)<((X.length+A.length+(H-v):Nat):Int)<;>by_cases k6:((X.length+A.length+(H-v):Nat):Int)<((X.length+A.length+B.length:Nat):Int)<;>first|(exfalso;omega)|(simp only[go_sem,c3,wE,k1,k2,k3,k4,k5,k6];rw[el])
  all_goals first
   |(refine YP 1000 (Zba K e n (X++A1) A2 B1 (B2++Y) (by omega) (by omega) (by simp;omega) hm _ ((X++(A1++(B1++(A2++(B2++Y))))).map pv) (by simp) (by simp) _ _ _ (by simp;omega) (by simp;omega) (by simp;omega)) (by simp[Jf,Jc]) (hcl _) (hcl _) rfl rfl rfl ?_;simp only[go_sem,k1,k2,k3,k4,k5,k6])
   |rw[show X++(A1++(A2++(B1++(B2++Y))))=X++(A1++(B1++(A2++(B2++Y))))from by
     have hz:A2.length=0\/B1.length=0:=by omega
     rcases hz with hz|hz<;>rw[Je]at hz<;>simp[hz]]
  all_goals first
   |(refine YP 1000 (ih X A1 B1 (A2++(B2++Y)) (by omega) (Inc.left iA) (Inc.left iB) iU1 (by omega) (by omega) (by simp;omega) _ ((X++(srt lt (A1++B1)++(A2++(B2++Y)))).map pv) rfl rfl _ _ _ rfl (by omega) (by omega)) (by simp[Jf,Jc]) (hcl _) (hcl _) rfl rfl rfl ?_;simp only[go_sem,k1,k2,k3,k4,k5,k6])
   |rw[show X++(A1++(B1++(A2++(B2++Y))))=X++(srt lt (A1++B1)++(A2++(B2++Y)))from by
     have hz:A1.length=0\/B1.length=0:=by omega
     rcases hz with hz|hz<;>rw[Je]at hz<;>simp[hz,XN K.good (Inc.left iA),XN K.good (Inc.left iB)]]
  all_goals first
   |(refine YP 1000 (ih (X++srt lt (A1++B1)) A2 B2 Y (by omega) (Inc.right iA) (Inc.right iB) iU2 (by omega) (by omega) (by simp[Zx];omega) _ ((X++(srt lt (A1++B1)++(srt lt (A2++B2)++Y))).map pv) (by simp) (by simp) _ _ _ (by simp[Zx];omega) (by simp[Zx];omega) (by simp[Zx];omega)) (by simp[Jf,Jc]) (hcl _) (hcl _) rfl rfl rfl ?_;simp only[go_sem,k1,k2,k3,k4,k5,k6])
   |rw[show X++(srt lt (A1++B1)++(A2++(B2++Y)))=X++(srt lt (A1++B1)++(srt lt (A2++B2)++Y))from by
     have hz:A2.length=0\/B2.length=0:=by omega
     rcases hz with hz|hz<;>rw[Je]at hz<;>simp[hz,XN K.good (Inc.right iA),XN K.good (Inc.right iB)]]
  all_goals
   refine Ug (r0:= .tup []) (hcl _) rfl (.clean rfl) rfl ?_ rfl;show some _=some _;rw[hsp];simp
 have c2:¬((X.length+H:Nat):Int)<((X.length+A.length:Nat):Int):=by omega
 simp only[go_sem,w0,w1,c0,c1,w2,hw,w3,w4,c2];refine XP (ι:= { uv:Nat×Nat // lo<=uv.1/\uv.1<=uv.2/\uv.2<=hi/\(∀t,lo<=t->t<uv.1->lt (A.getD t Jd) (B.getD (H-1-t) Jd)=true)/\ ∀t,uv.2<=t->t<hi->lt (B.getD (H-1-t) Jd) (A.getD t Jd)=true }) 220 (λy=> [(0,.vsl 1000 n 15),(1,.int .i64 (X.length:Int)),(2,.int .i64 ((X.length+A.length:Nat):Int)),(3,.int .i64 ((X.length+A.length+B.length:Nat):Int)),(4,.fn g []),(18,.int .i64 ((X.length+H:Nat):Int)),(19,.int .i64 ((X.length+H+(X.length+A.length):Nat):Int)),(20,.int .i64 ((X.length+y.1.1:Nat):Int)),(21,.int .i64 ((X.length+y.1.2:Nat):Int)),(22,.int .i64 ((X.length+H+(X.length+A.length)-1:Nat):Int))]) (λ_=> []) (λ_=> [(1000,.vec n 15 e)]) (λ_=> []) (λ_=> []) (λy=> [(1000,(X++(A++(B++Y))).map pv)]) (λ_=> []) [] [(1000,q)] [] (λy=>y.1.2-y.1.1) ⟨(lo,hi),Jl _,by show lo<=hi;omega,Jl _,λt h1 h2=>absurd h1 (by have:t<lo:=h2;omega),λt h1 h2=>absurd h2 (by have:hi<=t:=h1;omega)⟩
  (Yg rfl (by subst hhi hlo;exact(Fc10 rfl rfl rfl rfl rfl rfl rfl rfl rfl rfl)) rfl rfl rfl) (λx=>Xe (by simp[Jf,Jc,ZN]) (Yh K.ids _)) (λy=> ?_)
 obtain⟨⟨u,v⟩,h0,h1,h2,h3,h4⟩:=y;simp only at h0 h1 h2 h3 h4 ⊢;by_cases huv:u<v;have c3:((X.length+u:Nat):Int)<((X.length+v:Nat):Int):=by omega
 have w7:IntKind.i64.wrap (((X.length+u:Nat):Int)+((X.length+v:Nat):Int))=(((X.length+u)+(X.length+v):Nat):Int):=by rw[VK (by omega) (by omega)];omega
 obtain⟨d,hd⟩:∃d,d=(u+v) / 2:=⟨_,rfl⟩;have hw2:=D9 (a:=X.length+u) (b:=X.length+v) (h:=X.length+d) (by omega) (by omega);obtain⟨f,hf⟩:∃f,f=H-1-d:=⟨_,rfl⟩;have hdA:d<A.length:=by omega
 have hfB:f<B.length:=by omega
 have w8:IntKind.i64.wrap (((X.length+H+(X.length+A.length)-1:Nat):Int)-((X.length+d:Nat):Int))=((X.length+A.length+f:Nat):Int):=by rw[VK (by omega) (by omega)];omega
 have g0:((X++(A++(B++Y))).map pv).getD (X.length+A.length+f) .any=pv (B.getD f Jd):=by
  rw[ZR (by omega),show X++(A++(B++Y))=(X++(A++B.take f))++(B.drop f++Y)by rw[Jb,Jb,<-Jb (Jo f B),Ja],Xk hfB];exact congrArg pv (YC _ _ _ (by simp;omega))
 have g1:((X++(A++(B++Y))).map pv).getD (X.length+d) .any=pv (A.getD d Jd):=by
  rw[ZR (by omega),show X++(A++(B++Y))=(X++A.take d)++(A.drop d++(B++Y))by rw[Jb,<-Jb (Jo d A),Ja],Xk hdA];exact congrArg pv (YC _ _ _ (by simp;omega))
 have b0:0<=((X.length+A.length+f:Nat):Int)/\((X.length+A.length+f:Nat):Int)<(n:Int):=by omega
 have b1:0<=((X.length+d:Nat):Int)/\((X.length+d:Nat):Int)<(n:Int):=by omega
 have w9:IntKind.i64.wrap (((X.length+d:Nat):Int)+1)=((X.length+(d+1):Nat):Int):=by rw[VK (by omega) (by omega)];omega
 have hv:=K.cv (B.getD f Jd) (A.getD d Jd);simp only[go_sem,c3,w7,hw2];refine vDq ?_;simp only[go_sem,w8,b1.1,b1.2,b0.1,b0.2,g0,g1,klen,kpart,hl];refine Zk (K.cmp (B.getD f Jd) (A.getD d Jd)) ?_ ?_ ?_;simp only[go_sem,K.give,K.givable];simp only[go_sem,K.give,K.givable];have hxy:lt (A.getD d Jd) (B.getD f Jd)=true\/lt (B.getD f Jd) (A.getD d Jd)=true:=by
  rw[getD_lt hdA,getD_lt hfB];exact(Unl.append.1 hU).2.2 _ (Jj _) _ (Jj _)
 by_cases hlt:lt (B.getD f Jd) (A.getD d Jd)=true;rw[hlt]at hv;simp only[go_sem,hv,of_decide_eq_true hv];refine⟨⟨(u,d),h0,by show u<=d;omega,by show d<=hi;omega,h3,λt ht ht2=> ?_⟩,by show d-u<v-u;omega,Yg rfl (Fc10 rfl rfl rfl rfl rfl rfl rfl rfl rfl rfl) rfl rfl rfl⟩;have ht:d<=t:=ht;by_cases et:t=d;subst et;rw[<-hf];exact hlt;have i1:lt (A.getD d Jd) (A.getD t Jd)=true:=by
  rw[getD_lt (by omega),getD_lt (by omega)];exact hA.lt_get K.good (by omega) (by omega)
 have i2:lt (B.getD (H-1-t) Jd) (B.getD f Jd)=true:=by
  rw[getD_lt (by omega),getD_lt (by omega)];exact hB.lt_get K.good (by omega) (by omega)
 exact K.good.trans _ _ _ i2 (K.good.trans _ _ _ hlt i1);have hv':¬cv (B.getD f Jd) (A.getD d Jd)<0:=by
  have:lt (B.getD f Jd) (A.getD d Jd)=false:=by simpa using hlt
  rw[this]at hv;simpa using hv
 have hx:=hxy.resolve_right hlt;simp only[go_sem,hv',w9];refine⟨⟨(d+1,v),by show lo<=d+1;omega,by show d+1<=v;omega,h2,λt ht1 ht=> ?_,h4⟩,by show v-(d+1)<v-u;omega,Yg rfl (Fc10 rfl rfl rfl rfl rfl rfl rfl rfl rfl rfl) rfl rfl rfl⟩;have ht:t<d+1:=ht;by_cases et:t=d;subst et;rw[<-hf];exact hx;have i1:lt (A.getD t Jd) (A.getD d Jd)=true:=by
  rw[getD_lt (by omega),getD_lt (by omega)];exact hA.lt_get K.good (by omega) (by omega)
 have ht1:lo<=t:=ht1;have i2:lt (B.getD f Jd) (B.getD (H-1-t) Jd)=true:=by
  rw[getD_lt (by omega),getD_lt (by omega)];exact hB.lt_get K.good (by omega) (by omega)
 exact K.good.trans _ _ _ i1 (K.good.trans _ _ _ hx i2);have c3:¬((X.length+u:Nat):Int)<((X.length+v:Nat):Int):=by omega
 have huv:v=u:=by omega
 subst huv;have hex:=ZgT K.good hA hB hU v H lo hi h0 h2 (by omega) (by omega) (by omega) (by omega) (by omega) h3 h4;obtain⟨A1,A2,B1,B2,eA,eB,l1,l2,hsp⟩:=hex;have lA:A.length=A1.length+A2.length:=by rw[eA];simp
 have lB:B.length=B1.length+B2.length:=by rw[eB];simp
 have iA:Inc lt (A1++A2):=eA▸hA;have iB:Inc lt (B1++B2):=eB▸hB;have iU:Unl lt ((A1++A2)++(B1++B2)):=by rw[<-eA,<-eB];exact hU
 have iU1:Unl lt (A1++B1):=Jn.sublist (Jq.append (Ji _ _) (Ji _ _)) iU;have iU2:Unl lt (A2++B2):=Jn.sublist (Jq.append (Jh _ _) (Jh _ _)) iU;have el:X++(A++(B++Y))=X++(A1++(A2++(B1++(B2++Y)))):=by rw[eA,eB];simp
 have wE:IntKind.i64.wrap (((X.length+H+(X.length+A.length):Nat):Int)-((X.length+v:Nat):Int))=((X.length+A.length+(H-v):Nat):Int):=by rw[VK (by omega) (by omega)];omega
 by_cases k1:((X.length+v:Nat):Int)<((X.length+A.length:Nat):Int)<;>by_cases k2:((X.length+A.length:Nat):Int)<((X.length+A.length+(H-v):Nat):Int)<;>by_cases k3:(X.length:Int)<((X.length+v:Nat):Int)<;>by_cases k4:((X.length+v:Nat):Int)<((X.length+H:Nat):Int)<;>by_cases k5:((X.length+H:Nat):Int)<((X.length+A.length+(H-v):Nat):Int)<;>by_cases k6:((X.length+A.length+(H-v):Nat):Int)<((X.length+A.length+B.length:Nat):Int)<;>first|(exfalso;omega)|(simp only[go_sem,c3,wE,k1,k2,k3,k4,k5,k6];rw[el])
 all_goals first
  |(refine YP 1000 (Zba K e n (X++A1) A2 B1 (B2++Y) (by omega) (by omega) (by simp;omega) hm _ ((X++(A1++(B1++(A2++(B2++Y))))).map pv) (by simp) (by simp) _ _ _ (by simp;omega) (by simp;omega) (by simp;omega)) (by simp[Jf,Jc]) (hcl _) (hcl _) rfl rfl rfl ?_;simp only[go_sem,k1,k2,k3,k4,k5,k6])
  |rw[show X++(A1++(A2++(B1++(B2++Y))))=X++(A1++(B1++(A2++(B2++Y))))from by
    have hz:A2.length=0\/B1.length=0:=by omega
    rcases hz with hz|hz<;>rw[Je]at hz<;>simp[hz]]
 all_goals first
  |(refine YP 1000 (ih X A1 B1 (A2++(B2++Y)) (by omega) (Inc.left iA) (Inc.left iB) iU1 (by omega) (by omega) (by simp;omega) _ ((X++(srt lt (A1++B1)++(A2++(B2++Y)))).map pv) rfl rfl _ _ _ rfl (by omega) (by omega)) (by simp[Jf,Jc]) (hcl _) (hcl _) rfl rfl rfl ?_;simp only[go_sem,k1,k2,k3,k4,k5,k6])
  |rw[show X++(A1++(B1++(A2++(B2++Y))))=X++(srt lt (A1++B1)++(A2++(B2++Y)))from by
    have hz:A1.length=0\/B1.length=0:=by omega
    rcases hz with hz|hz<;>rw[Je]at hz<;>simp[hz,XN K.good (Inc.left iA),XN K.good (Inc.left iB)]]
 all_goals first
  |(refine YP 1000 (ih (X++srt lt (A1++B1)) A2 B2 Y (by omega) (Inc.right iA) (Inc.right iB) iU2 (by omega) (by omega) (by simp[Zx];omega) _ ((X++(srt lt (A1++B1)++(srt lt (A2++B2)++Y))).map pv) (by simp) (by simp) _ _ _ (by simp[Zx];omega) (by simp[Zx];omega) (by simp[Zx];omega)) (by simp[Jf,Jc]) (hcl _) (hcl _) rfl rfl rfl ?_;simp only[go_sem,k1,k2,k3,k4,k5,k6])
  |rw[show X++(srt lt (A1++B1)++(A2++(B2++Y)))=X++(srt lt (A1++B1)++(srt lt (A2++B2)++Y))from by
    have hz:A2.length=0\/B2.length=0:=by omega
    rcases hz with hz|hz<;>rw[Je]at hz<;>simp[hz,XN K.good (Inc.right iA),XN K.good (Inc.right iB)]]
 all_goals
  refine Ug (r0:= .tup []) (hcl _) rfl (.clean rfl) rfl ?_ rfl;show some _=some _;rw[hsp];simp
end
end Go.Proofs.YtepchngegclagaaGreat
