/- Lemmas of the proof. -/
import Derived.Test.YtadgngamdofhiaaGreatPlH
import Derived.Test.YtadgngamdofhiaaGreatXAa
open Inhabited renaming default→Jd
open Go.Proofs.Tryz
open Go Go.PL
open Bool renaming false_and→Jb,true_and→Jc,and_eq_false_iff→Jk,or_eq_false_iff→Jl,and_eq_true→Jq,or_eq_true→Jr
open Int renaming natCast_nonneg→Ja
open List renaming append_nil→Jf,mem_map→Jg,getD_eq_getElem?_getD→Jh,all_eq_false→Ji,all_eq_true→Jj,mem_range→Jm,map_cons→Jn,range→Jo
open Nat renaming sub_zero→Js
open PV renaming didsL→Je,dids→Jp
namespace Go.Proofs.YtadgngamdofhiaaGreat
set_option maxHeartbeats 64000000
set_option maxRecDepth 20000
set_option linter.unusedVariables false
set_option linter.unusedSimpArgs false
open Go.PL
@[go_sem] theorem Zsy {α:Type}:(#[]:Array α).isEmpty=true:=rfl
theorem Xy {α:Type} (p:α->Bool) (l:List α):idx p l= -1\/ ∃k:Nat,k<l.length/\idx p l=k:=by
 unfold idx;cases h:l.findIdx? p with
 |none=>exact .inl rfl
 |some k=>
  rw[List.findIdx?_eq_some_iff_getElem]at h;exact .inr ⟨k,h.1,rfl⟩
theorem Yr {n b:Nat} (hn:n<=100000000000) (hb:b<=1000):Zjl n b:=by
 refine⟨?_,by unfold maxLen;omega⟩
 calc n*b<=100000000000*1000:=Nat.mul_le_mul hn hb
  _<=140737488355328:=by decide
@[go_sem] theorem Zs8 (n:Nat):Sized n []=True:=by simp[Sized]
@[go_sem] theorem Zse (n:Nat) (e:PV) (l:List PV):Sized n (e::l)=(e.cells.length=n/\Sized n l):=by simp[Sized]
@[go_sem] theorem Zsz:Xw []=True:=by simp[Xw]
@[go_sem] theorem Zr8 (e:PV) (l:List PV):Xw (e::l)=(e.cells.all PV.atom=true/\Xw l):=by simp[Xw]
theorem Z6 (l:List Str):Sized 1 (l.map .str):=λe he=>by
 obtain⟨x,_,rfl⟩:=Jg.1 he;rfl
theorem Xl (l:List Str):Xw (l.map .str):=λe he=>by
 obtain⟨x,_,rfl⟩:=Jg.1 he;rfl
theorem Zkd (r:Rw) (it:Str):Pp 134 [row r,.rptr [.str it]] (.bool (r.item==it)):=by
 refine ZH func134 rfl ntmps134 results134 ?_;simp only[go_sem,row]
theorem Zcs (e:En) (r:Rf):Pp 136 [ent e,.rptr [.int .i64 r.sc,.str r.gr,.str r.nm]] (.bool (decide (e.at'=r))):=by
 refine ZH func136 rfl ntmps136 results136 ?_;simp only[go_sem,ent,Zr]
theorem ZcM (l:List Rw) (g:FuncId) (cs:List PV) (p:Rw->Bool) (hl:l.length<=maxLen) (hp:∀r∈l,Pp g [row r,.rptr cs] (.bool (p r))):
  Pp 133 [.sl .no (l.map row),.fn g [.rptr cs]] (.int .i64 (idx p l)):=by
 refine ZH func133 rfl ntmps133 results133 ?_;simp only[go_sem];refine Zt (ι:= { k:Nat // k<=l.length/\ ∀j,j<k->p (l.getD j Jd)=false }) 19 (λx=> [(0,.sl .no (l.map row)),(1,.fn g [.rptr cs]),(7,.int .i64 (l.length:Int)),(8,.int .i64 (x.1:Int))]) (λx=> []) (λx=> []) (λx=>l.length-x.1) ⟨0,by omega,λj hj=>by omega⟩
  ⟨rfl,(Fc4 rfl rfl rfl rfl),fnl,fnl⟩ (λx=>⟨(Fc4 rfl rfl rfl rfl),fnl⟩) (λx=> ?_)
 obtain⟨k,hk,hall⟩:=x;simp only;by_cases h:(k:Int)<(l.length:Int);have hka:k<l.length:=by omega
 have w1:=Xb hka hl;have i1:=Ja k
 have hc:=hp _ (Zs (d:=Jd) hka);cases he:p (l.getD k Jd);rw[he]at hc;simp only[go_sem,h,WX hka,row,i1];refine vc1 hc ?_;simp only[go_sem,w1];exact⟨⟨k+1,by omega,Zm hall he⟩,nx9 (by omega),⟨rfl,(Fc4 rfl rfl rfl rfl),fnl,fnl⟩⟩;rw[he]at hc;have hx:=XN (p:=p) hka hall he;simp only[go_sem,h,WX hka,row,i1];refine vc1 hc ?_;simp only[go_sem,hx];have hx:=WY (p:=p) (d:=Jd) (l:=l) (λj hj=>hall j (by omega));simp only[go_sem,h,hx]
theorem S5 (l:List En) (g:FuncId) (cs:List PV) (p:En->Bool) (hl:l.length<=maxLen) (hp:∀r∈l,Pp g [ent r,.rptr cs] (.bool (p r))):
  Pp 135 [.sl .no (l.map ent),.fn g [.rptr cs]] (.int .i64 (idx p l)):=by
 refine ZH func135 rfl ntmps135 results135 ?_;simp only[go_sem];refine Zt (ι:= { k:Nat // k<=l.length/\ ∀j,j<k->p (l.getD j Jd)=false }) 19 (λx=> [(0,.sl .no (l.map ent)),(1,.fn g [.rptr cs]),(7,.int .i64 (l.length:Int)),(8,.int .i64 (x.1:Int))]) (λx=> []) (λx=> []) (λx=>l.length-x.1) ⟨0,by omega,λj hj=>by omega⟩
  ⟨rfl,(Fc4 rfl rfl rfl rfl),fnl,fnl⟩ (λx=>⟨(Fc4 rfl rfl rfl rfl),fnl⟩) (λx=> ?_)
 obtain⟨k,hk,hall⟩:=x;simp only;by_cases h:(k:Int)<(l.length:Int);have hka:k<l.length:=by omega
 have w1:=Xb hka hl;have i1:=Ja k
 have hc:=hp _ (Zs (d:=Jd) hka);cases he:p (l.getD k Jd);rw[he]at hc;simp only[go_sem,h,XX hka,ent,i1];refine vc1 hc ?_;simp only[go_sem,w1];exact⟨⟨k+1,by omega,Zm hall he⟩,nx9 (by omega),⟨rfl,(Fc4 rfl rfl rfl rfl),fnl,fnl⟩⟩;rw[he]at hc;have hx:=XN (p:=p) hka hall he;simp only[go_sem,h,XX hka,ent,i1];refine vc1 hc ?_;simp only[go_sem,hx];have hx:=WY (p:=p) (d:=Jd) (l:=l) (λj hj=>hall j (by omega));simp only[go_sem,h,hx]
theorem Wj (l:List Str):Je (l.map .str)= []:=by
 induction l with
 |nil=>rfl
 |cons t l ih=>simp only[Jn,Je,ih,Jp,Jf]
theorem Xe (e:En):(ent e).dids= []:=by simp only[ent,Jp,Je,Wj,Jf]
theorem GE (e:En) (he:e.l.length<=1000000):Pp 89 [ent e] (ent e):=by
 have hr:=Yr (show e.l.length<=100000000000 by omega) (show 16<=1000 by omega);refine ZA func89 rfl ntmps89 results89 (Xe _) ?_;simp only[go_sem,ent,Z6,Xl,hr]
open Go.PL
def atE (r:Rf):En->Bool:=λe=>decide (e.at'=r)
def atR (it:Str):Rw->Bool:=λr=>r.item==it
def ZmP (d:Dc) (it:Str) (r:Rf):Int×Int×Int:=
 if it= []then(if idx (atE r) d.head<0 then(0,0,6)else(-1,idx (atE r) d.head,0))
 else if idx (atR it) d.rows<0 then(0,0,12)
 else if idx (atE r) (d.rows.getD (idx (atR it) d.rows).toNat Jd).l<0 then(0,0,6)
 else(idx (atR it) d.rows,idx (atE r) (d.rows.getD (idx (atR it) d.rows).toNat Jd).l,0)
def ZoR (x:Int×Int×Int):PV:= .tup [.int .i64 x.1,.int .i64 x.2.1,.int .i64 x.2.2]
attribute [go_sem] Bool.not_eq_true'
theorem Zlk {s:Str} (h:s= []):(s== [])=true:=by rw[h];rfl
theorem ZhY {s:Str} (h:¬s= []):(s== [])=false:=beq_eq_false_iff_ne.2 h
theorem ZmQ (d:Dc) (it:Str) (r:Rf) (hf:ZnP d):Pp 88 [doc d,.str it,ref r] (ZoR (ZmP d it r)):=by
 obtain⟨f1,f2,f3,f4⟩:=hf;by_cases hi:it= []
 ·have hi':=Zlk hi;have hc:=S5 d.head 136 [.int .i64 r.sc,.str r.gr,.str r.nm] (atE r) f1 (λe _=>Zcs e r);by_cases h1:idx (atE r) d.head<0
  all_goals
   refine ZH func88 rfl ntmps88 results88 ?_;simp only[go_sem,doc,ref,hi'];refine vc1 hc ?_;simp only[go_sem,h1,ZoR,ZmP,hi]
 have hi':=ZhY hi;have hc:=ZcM d.rows 134 [.str it] (atR it) f2 (λe _=>Zkd e it);by_cases h1:idx (atR it) d.rows<0;refine ZH func88 rfl ntmps88 results88 ?_;simp only[go_sem,doc,ref,hi'];refine vc1 hc ?_;simp only[go_sem,h1,ZoR,ZmP,hi];rcases Xy (atR it) d.rows with h2|⟨k,hk,h2⟩;omega;have hc2:=S5 (d.rows.getD k Jd).l 136 [.int .i64 r.sc,.str r.gr,.str r.nm] (atE r) (f4 _ (Zs hk)).1 (λe _=>Zcs e r);have i1:=Ja k
 have i2:(k:Int)<(d.rows.length:Int):=by omega
 have i3:¬(k:Int)<0:=by omega
 rw[h2]at hc;by_cases h3:idx (atE r) (d.rows.getD k Jd).l<0
 all_goals
  refine ZH func88 rfl ntmps88 results88 ?_;simp only[go_sem,doc,ref,hi'];refine vc1 hc ?_;simp only[go_sem,i1,i2,i3,WX hk,row];refine vc1 hc2 ?_;simp only[go_sem,h3,ZoR,ZmP,hi,h2,i3]
def ZoH (d:Dc) (it:Str) (r:Rf):En×Int:=
 if it= []then(if idx (atE r) d.head<0 then(Jd,6)else(d.head.getD (idx (atE r) d.head).toNat Jd,0))
 else if idx (atR it) d.rows<0 then(Jd,12)
 else if idx (atE r) (d.rows.getD (idx (atR it) d.rows).toNat Jd).l<0 then(Jd,6)
 else((d.rows.getD (idx (atR it) d.rows).toNat Jd).l.getD (idx (atE r) (d.rows.getD (idx (atR it) d.rows).toNat Jd).l).toNat Jd,0)
def ZnR (x:En×Int):PV:= .tup [ent x.1,.int .i64 x.2]
theorem Ts (x:En×Int):(ZnR x).dids= []:=by simp only[ZnR,Jp,Je,Xe,Jf]
theorem SG:ent Jd= .agg [.int .i64 0,.str [],.str [],.int .i64 0,.sl .no []]:=rfl
def Zsu (d:Dc):Prop:=(∀e∈d.head,e.l.length<=1000000)/\ ∀r∈d.rows,∀e∈r.l,e.l.length<=1000000
theorem Zd4 (d:Dc) (it:Str) (r:Rf) (hf:ZnP d) (hs:Zsu d):Pp 38 [doc d,.str it,ref r] (ZnR (ZoH d it r)):=by
 have hc:=ZmQ d it r hf;obtain⟨f1,f2,f3,f4⟩:=hf;unfold ZmP at hc;unfold ZoH;by_cases hi:it= [];rw[if_pos hi]at hc ⊢;rcases Xy (atE r) d.head with h2|⟨k,hk,h2⟩;rw[h2]at hc ⊢;refine ZA func38 rfl ntmps38 results38 (Ts _) ?_;simp only[go_sem,doc,ref];refine vc1 hc ?_;simp only[go_sem,ZoR,ZnR,SG];have i1:=Ja k
 have i2:(k:Int)<(d.head.length:Int):=by omega
 have i3:¬(k:Int)<0:=by omega
 have ho:=GE (d.head.getD k Jd) (hs.1 _ (Zs hk));rw[h2,if_neg i3]at hc;rw[h2,if_neg i3];refine ZA func38 rfl ntmps38 results38 (Ts _) ?_;simp only[go_sem,doc,ref];refine vc1 hc ?_;simp only[go_sem,ZoR,i1,i2,XX hk,ent];refine vc1 ho ?_;simp only[go_sem,ZnR,ent];rw[if_neg hi]at hc ⊢;rcases Xy (atR it) d.rows with h2|⟨k,hk,h2⟩;rw[h2]at hc ⊢;refine ZA func38 rfl ntmps38 results38 (Ts _) ?_;simp only[go_sem,doc,ref];refine vc1 hc ?_;simp only[go_sem,ZoR,ZnR,SG];have i1:=Ja k
 have i2:(k:Int)<(d.rows.length:Int):=by omega
 have i3:¬(k:Int)<0:=by omega
 rw[h2,if_neg i3]at hc;rw[h2,if_neg i3];simp only[Int.toNat_natCast]at hc ⊢;rcases Xy (atE r) (d.rows.getD k Jd).l with h4|⟨n,hn,h4⟩;rw[h4]at hc ⊢;refine ZA func38 rfl ntmps38 results38 (Ts _) ?_;simp only[go_sem,doc,ref];refine vc1 hc ?_;simp only[go_sem,ZoR,ZnR,SG];have j1:=Ja n
 have j2:(n:Int)<((d.rows.getD k Jd).l.length:Int):=by omega
 have j3:¬(n:Int)<0:=by omega
 have ho:=GE ((d.rows.getD k Jd).l.getD n Jd) (hs.2 _ (Zs hk) _ (Zs hn));rw[h4,if_neg j3]at hc;rw[h4,if_neg j3];refine ZA func38 rfl ntmps38 results38 (Ts _) ?_;simp only[go_sem,doc,ref];refine vc1 hc ?_;simp only[go_sem,ZoR,i1,i2,i3,WX hk,row,j1,j2,XX hn,ent];refine vc1 ho ?_;simp only[go_sem,ZnR,ent]
open Go.PL
structure Fd where
 at':Rf
 kind:Int
 df:Str
 cases':List Str
 worth:Int
 deriving DecidableEq,Inhabited
def fld (f:Fd):PV:= .agg [.int .i64 f.at'.sc,.str f.at'.gr,.str f.at'.nm,.int .i64 f.kind,.str f.df,.sl .no (f.cases'.map .str),.int .i64 f.worth]
def Zi (l:List Fd):PV:= .sl .no (l.map fld)
theorem vc2 {x:Bool} {M:KH} {g:FuncId} {args args':List PV} {K:KR} {r:PV} (h1:Pp g args' r) (h2:K.k r M.m) (h0:PV.givableL M.m args:=by first|(simp only[go_sem,ref,ent,YG,doc,Yq,row,Zi,fld];done)|exact rfl) (he:PV.giveL M.m args=args':=by first|(simp only[go_sem,ref,ent,YG,doc,Yq,row,Zi,fld];done)|exact rfl):@UJ prog x M (some (g,args)) K:=Yh h1 h0 he h2
theorem Zx {l:List Fd} {i:Nat} (h:i<l.length):(l.map fld).getD i .any=fld (l.getD i Jd):=by
 simp[Jh,h]
def YK (f:Fd):En:=⟨f.at',0,if f.kind=1\/f.kind=4 then []else [f.df]⟩
attribute [go_sem] Zas
theorem Zjq (f:Fd):Pp 113 [fld f] (ent (YK f)):=by
 by_cases h1:f.kind=1;have h1':(f.kind !=1)=false:=by rw[h1];rfl
 refine ZA func113 rfl ntmps113 results113 (Xe _) ?_;simp only[go_sem,fld,ent,YK,h1'];simp[h1];have h1':(f.kind !=1)=true:=bne_iff_ne.2 h1;by_cases h2:f.kind=4;have h2':(f.kind !=4)=false:=by rw[h2];rfl
 refine ZA func113 rfl ntmps113 results113 (Xe _) ?_;simp only[go_sem,fld,ent,YK,h1',h2'];simp[h2];have h2':(f.kind !=4)=true:=bne_iff_ne.2 h2;refine ZA func113 rfl ntmps113 results113 (Xe _) ?_;simp only[go_sem,fld,ent,YK,h1',h2',h1,h2,or_self]
theorem TO (l:List En):Sized 5 (l.map ent):=λe he=>by
 obtain⟨x,_,rfl⟩:=Jg.1 he;rfl
theorem Zeu (l:List En):Xw (l.map ent):=λe he=>by
 obtain⟨x,_,rfl⟩:=Jg.1 he;rfl
theorem Zke (e:En):Sized 5 [PV.agg [.int .i64 e.at'.sc,.str e.at'.gr,.str e.at'.nm,.int .i64 e.n,.sl .no (e.l.map .str)]]:=TO [e]
theorem Zju (e:En):Xw [PV.agg [.int .i64 e.at'.sc,.str e.at'.gr,.str e.at'.nm,.int .i64 e.n,.sl .no (e.l.map .str)]]:=Zeu [e]
theorem ZW {α:Type} {l:List α} {k:Nat} (h:k<l.length) {d:α}:l.take (k+1)=l.take k++ [l.getD k d]:=by
 rw[List.take_succ_eq_append_getElem h,Jh,List.getElem?_eq_getElem h];rfl
theorem Gq (l:List En):Je (l.map ent)= []:=by
 induction l with
 |nil=>rfl
 |cons e l ih=>rw[Jn,Je,ih,Xe];rfl
theorem Tt (l:List En):(YG l).dids= []:=by simp only[YG,Jp,Gq]
def U5:List Fd:= [⟨⟨0,[],[99,111,117,112,111,110]⟩,2,[],[],0⟩,⟨⟨1,[],[110,111,116,101]⟩,2,[],[],0⟩,⟨⟨1,[],[113,116,121]⟩,1,[],[],1⟩,
 ⟨⟨1,[],[115,105,122,101]⟩,3,[109,101,100,105,117,109],[[115,109,97,108,108],[109,101,100,105,117,109],[108,97,114,103,101]],0⟩,⟨⟨1,[],[116,97,103,115]⟩,4,[],[],0⟩]
theorem YJ (l:List Fd):Sized 7 (l.map fld):=λe he=>by
 obtain⟨x,_,rfl⟩:=Jg.1 he;rfl
theorem ZeH (l:List Fd):Je (l.map fld)= []:=by
 induction l with
 |nil=>rfl
 |cons e l ih=>rw[Jn,Je,ih];simp only[fld,Jp,Je,Wj,Jf]
theorem W5 (l:List Fd):(Zi l).dids= []:=by simp only[Zi,Jp,ZeH]
theorem Zem:Pp 127 [] (Zi U5):=by
 refine ZA func127 rfl ntmps127 results127 (W5 _) ?_;simp (config := { maxSteps := 2000000 }) only[go_sem,Yr,Zi,fld,U5]
open Go.PL
@[go_sem] theorem ZxL:((0:Nat):Int)=0:=rfl
@[go_sem] theorem ZxM:((1:Nat):Int)=1:=rfl
attribute [go_sem] Int.cast_ofNat_Int
def nm (s:Str) (i:Nat):Int:=((s.getD i 0).toNat:Int)
def Zj1 (s:Str) (i:Nat):Bool:=decide (97<=nm s i/\nm s i<=122)||(decide (48<=nm s i/\nm s i<=57)&&decide (i≠0))
def Ym (s:Str):Bool:=decide (1<=s.length/\s.length<=12)&&(Jo s.length).all (Zj1 s)
theorem Vh (s:Str) (i:Nat):((s.getD i 0).toNat:Int)=nm s i:=rfl
theorem Xk (s:Str):Pp 67 [.str s] (.bool (Ym s)):=by
 by_cases h1:(s.length:Int)<1;have hx:Ym s=false:=by simp only[Ym,show ¬(1<=s.length/\s.length<=12)by omega,decide_false,Jb]
 refine ZH func67 rfl ntmps67 results67 ?_;simp only[go_sem,h1,hx];by_cases h2:(12:Int)<(s.length:Int);have hx:Ym s=false:=by simp only[Ym,show ¬(1<=s.length/\s.length<=12)by omega,decide_false,Jb]
 refine ZH func67 rfl ntmps67 results67 ?_;simp only[go_sem,h1,h2,hx];have hn:Ym s=(Jo s.length).all (Zj1 s):=by simp only[Ym,show(1<=s.length/\s.length<=12)by omega,and_self,decide_true,Jc]
 refine ZH func67 rfl ntmps67 results67 ?_;simp only[go_sem,h1,h2];refine Zt (ι:= { k:Nat // k<=s.length/\ ∀j,j<k->Zj1 s j=true }) 50 (λx=> [(0,.str s),(15,.int .i64 (s.length:Int)),(16,.int .i64 (x.1:Int))]) (λx=> []) (λx=> []) (λx=>s.length-x.1) ⟨0,by omega,λj hj=>by omega⟩
  ⟨rfl,(Fc3 rfl rfl rfl),fnl,fnl⟩ (λx=>⟨(Fc3 rfl rfl rfl),fnl⟩) (λx=> ?_)
 obtain⟨k,hk,hall⟩:=x;simp only;by_cases h:(k:Int)<(s.length:Int);have hka:k<s.length:=by omega
 have w1:=wk9 (k:=k) (by omega)
 have i1:=Ja k
 cases ho:Zj1 s k;have hx:Ym s=false:=by
  rw[hn,Ji];exact⟨k,by simpa using hka,by simp[ho]⟩
 simp only[Zj1,Jl,decide_eq_false_iff_not,Jk]at ho;by_cases g1:97<=nm s k;have g2:¬nm s k<=122:=by omega
 have g3:48<=nm s k:=by omega
 have g4:¬nm s k<=57:=by omega
 simp only[go_sem,h,i1,Vh,g1,g2,g3,g4,hx];by_cases g3:48<=nm s k;by_cases g4:nm s k<=57;have hk0:((k:Int)==0)=true:=by
  rw[beq_iff_eq];rcases ho.2 with h'|h'<;>omega
 simp only[go_sem,h,i1,Vh,g1,g3,g4,hk0,hx];simp only[go_sem,h,i1,Vh,g1,g3,g4,hx];simp only[go_sem,h,i1,Vh,g1,g3,hx];have nx:∀j,j<k+1->Zj1 s j=true:=Zm hall ho;simp only[Zj1,Jr,decide_eq_true_eq,Jq]at ho;by_cases g1:97<=nm s k;have g2:nm s k<=122:=by omega
 have g3:48<=nm s k:=by omega
 have g4:¬nm s k<=57:=by omega
 simp only[go_sem,h,i1,Vh,g1,g2,g3,g4,w1];exact⟨⟨k+1,by omega,nx⟩,nx9 (by omega),⟨rfl,(Fc3 rfl rfl rfl),fnl,fnl⟩⟩;have g3:48<=nm s k:=by omega
 have g4:nm s k<=57:=by omega
 have hk0:((k:Int)==0)=false:=beq_eq_false_iff_ne.2 (by omega);simp only[go_sem,h,i1,Vh,g1,g3,g4,hk0,w1];exact⟨⟨k+1,by omega,nx⟩,nx9 (by omega),⟨rfl,(Fc3 rfl rfl rfl),fnl,fnl⟩⟩;have hx:Ym s=true:=by
  rw[hn,Jj];intro j hj;exact hall j (by have:=Jm.1 hj;omega)
 simp only[go_sem,h,hx]
def XS (r:Rf):Bool:=(decide (r.sc=0)||decide (r.sc=1))&&(Ym r.nm&&(decide (r.gr= [])||Ym r.gr))
theorem G0 (r:Rf):Pp 151 [ref r] (.bool (XS r)):=by
 have hN:=Xk r.nm;have hG:=Xk r.gr;by_cases hs:r.sc=0\/r.sc=1;have hs':(decide (r.sc=0)||decide (r.sc=1))=true:=by simpa using hs
 have key:Pp 151 [ref r] (.bool (Ym r.nm&&(decide (r.gr= [])||Ym r.gr))):=by
  cases hn:Ym r.nm;rw[hn]at hN;rcases hs with h0|h1;have q:(r.sc !=0)=false:=by rw[h0];rfl
  refine ZH func151 rfl ntmps151 results151 ?_;simp only[go_sem,ref,q];refine vc1 hN ?_;simp only[go_sem,Jb];have q:(r.sc !=0)=true:=by rw[h1];rfl
  have q1:(r.sc !=1)=false:=by rw[h1];rfl
  refine ZH func151 rfl ntmps151 results151 ?_;simp only[go_sem,ref,q,q1];refine vc1 hN ?_;simp only[go_sem,Jb];rw[hn]at hN;by_cases hg:r.gr= [];have hg':=Zlk hg;rcases hs with h0|h1;have q:(r.sc !=0)=false:=by rw[h0];rfl
  refine ZH func151 rfl ntmps151 results151 ?_;simp only[go_sem,ref,q];refine vc1 hN ?_;simp only[go_sem,Jc,hg',decide_eq_true hg];have q:(r.sc !=0)=true:=by rw[h1];rfl
  have q1:(r.sc !=1)=false:=by rw[h1];rfl
  refine ZH func151 rfl ntmps151 results151 ?_;simp only[go_sem,ref,q,q1];refine vc1 hN ?_;simp only[go_sem,Jc,hg',decide_eq_true hg];have hg':=ZhY hg;rcases hs with h0|h1;have q:(r.sc !=0)=false:=by rw[h0];rfl
  refine ZH func151 rfl ntmps151 results151 ?_;simp only[go_sem,ref,q];refine vc1 hN ?_;simp only[go_sem,hg'];refine vc1 hG ?_;simp only[go_sem,Jc,decide_eq_false hg];have q:(r.sc !=0)=true:=by rw[h1];rfl
  have q1:(r.sc !=1)=false:=by rw[h1];rfl
  refine ZH func151 rfl ntmps151 results151 ?_;simp only[go_sem,ref,q,q1];refine vc1 hN ?_;simp only[go_sem,hg'];refine vc1 hG ?_;simp only[go_sem,Jc,decide_eq_false hg]
 simp only[XS,hs',Jc];exact key;have q:(r.sc !=0)=true:=bne_iff_ne.2 (by omega);have q1:(r.sc !=1)=true:=bne_iff_ne.2 (by omega);have hx:XS r=false:=by
  have:(decide (r.sc=0)||decide (r.sc=1))=false:=by simp;omega
  simp only[XS,this,Jb]
 refine ZH func151 rfl ntmps151 results151 ?_;simp only[go_sem,ref,q,q1,hx]
theorem S8 (s:Str):Pp 153 [.str s] (.bool (decide ((s.length:Int)<=40))):=by
 refine ZH func153 rfl ntmps153 results153 ?_;simp only[go_sem]
open Go.PL
theorem Xo (s:Str):Pp 45 [.str s] (.bool (Ym s)):=by
 by_cases h1:(s.length:Int)<1;have hx:Ym s=false:=by simp only[Ym,show ¬(1<=s.length/\s.length<=12)by omega,decide_false,Jb]
 refine ZH func45 rfl ntmps45 results45 ?_;simp only[go_sem,h1,hx];by_cases h2:(12:Int)<(s.length:Int);have hx:Ym s=false:=by simp only[Ym,show ¬(1<=s.length/\s.length<=12)by omega,decide_false,Jb]
 refine ZH func45 rfl ntmps45 results45 ?_;simp only[go_sem,h1,h2,hx];have hn:Ym s=(Jo s.length).all (Zj1 s):=by simp only[Ym,show(1<=s.length/\s.length<=12)by omega,and_self,decide_true,Jc]
 refine ZH func45 rfl ntmps45 results45 ?_;simp only[go_sem,h1,h2];refine Zt (ι:= { k:Nat // k<=s.length/\ ∀j,j<k->Zj1 s j=true }) 50 (λx=> [(0,.str s),(3,.int .i64 (x.1:Int))]) (λx=> []) (λx=> []) (λx=>s.length-x.1) ⟨0,by omega,λj hj=>by omega⟩
  ⟨rfl,(Fc2 rfl rfl),fnl,fnl⟩ (λx=>⟨(Fc2 rfl rfl),fnl⟩) (λx=> ?_)
 obtain⟨k,hk,hall⟩:=x;simp only;by_cases h:(k:Int)<(s.length:Int);have hka:k<s.length:=by omega
 have w1:=wk9 (k:=k) (by omega)
 have i1:=Ja k
 cases ho:Zj1 s k;have hx:Ym s=false:=by
  rw[hn,Ji];exact⟨k,by simpa using hka,by simp[ho]⟩
 simp only[Zj1,Jl,decide_eq_false_iff_not,Jk]at ho;by_cases g1:97<=nm s k;have g2:¬nm s k<=122:=by omega
 have g3:48<=nm s k:=by omega
 have g4:¬nm s k<=57:=by omega
 simp only[go_sem,h,i1,Vh,g1,g2,g3,g4,hx];by_cases g3:48<=nm s k;by_cases g4:nm s k<=57;have hk0:((k:Int)==0)=true:=by
  rw[beq_iff_eq];rcases ho.2 with h'|h'<;>omega
 simp only[go_sem,h,i1,Vh,g1,g3,g4,hk0,hx];simp only[go_sem,h,i1,Vh,g1,g3,g4,hx];simp only[go_sem,h,i1,Vh,g1,g3,hx];have nx:∀j,j<k+1->Zj1 s j=true:=Zm hall ho;simp only[Zj1,Jr,decide_eq_true_eq,Jq]at ho;by_cases g1:97<=nm s k;have g2:nm s k<=122:=by omega
 have g3:48<=nm s k:=by omega
 have g4:¬nm s k<=57:=by omega
 simp only[go_sem,h,i1,Vh,g1,g2,g3,g4,w1];exact⟨⟨k+1,by omega,nx⟩,nx9 (by omega),⟨rfl,(Fc2 rfl rfl),fnl,fnl⟩⟩;have g3:48<=nm s k:=by omega
 have g4:nm s k<=57:=by omega
 have hk0:((k:Int)==0)=false:=beq_eq_false_iff_ne.2 (by omega);simp only[go_sem,h,i1,Vh,g1,g3,g4,hk0,w1];exact⟨⟨k+1,by omega,nx⟩,nx9 (by omega),⟨rfl,(Fc2 rfl rfl),fnl,fnl⟩⟩;have hx:Ym s=true:=by
  rw[hn,Jj];intro j hj;exact hall j (by have:=Jm.1 hj;omega)
 simp only[go_sem,h,hx]
theorem Zmz (r:Rf):XS r=(decide (0<=r.sc)&&(decide (r.sc<=1)&&(Ym r.nm&&(decide (r.gr= [])||Ym r.gr)))):=by
 have:(decide (r.sc=0)||decide (r.sc=1))=(decide (0<=r.sc)&&decide (r.sc<=1)):=by
  rw[Bool.eq_iff_iff];simp;omega
 rw[XS,this,Bool.and_assoc]
theorem SC (r:Rf):Pp 143 [ref r] (.bool (XS r)):=by
 rw[Zmz];have hN:=Xo r.nm;have hG:=Xo r.gr;refine ZH func143 rfl ntmps143 results143 ?_;simp only[go_sem,ref];repeat' ((first|(first|apply Zw|apply Zu|apply ZF)<;>intro h|refine vc1 hN ?_|refine vc1 hG ?_|refine vDq ?_)<;>first|simp only[go_sem,h]|simp only[go_sem]|skip)
 all_goals (simp_all)
theorem Tn (l:List Str) (s:Str) (hl:l.length<=maxLen):Pp 187 [Yq l,.str s] (.bool (l.any (· == s))):=by
 refine ZH func187 rfl ntmps187 results187 ?_;simp only[go_sem,Yq];refine Zt (ι:= { k:Nat // k<=l.length/\ ∀j,j<k->(l.getD j []==s)=false }) 18 (λx=> [(0,Yq l),(1,.str s),(5,.int .i64 (x.1:Int))]) (λx=> []) (λx=> []) (λx=>l.length-x.1) ⟨0,by omega,λj hj=>by omega⟩
  ⟨rfl,(Fc3 rfl rfl rfl),fnl,fnl⟩ (λx=>⟨(Fc3 rfl rfl rfl),fnl⟩) (λx=> ?_)
 obtain⟨k,hk,hall⟩:=x;simp only;by_cases h:(k:Int)<(l.length:Int);have hka:k<l.length:=by omega
 have w1:=Xb hka hl;have i1:=Ja k
 cases he:(l.getD k []==s);simp only[go_sem,Yq,h,ZV hka,i1,he,w1];exact⟨⟨k+1,by omega,Zm hall he⟩,nx9 (by omega),⟨rfl,(Fc3 rfl rfl rfl),fnl,fnl⟩⟩;have hx:=UR (p:=(· == s)) hka he;simp only[go_sem,Yq,h,ZV hka,i1,he,hx];have hx:=Uo (p:=(· == s)) (d:= []) (l:=l) (λj hj=>hall j (by omega));simp only[go_sem,Yq,h,hx]
def WQ (a b:Rf):Bool:=if a.sc≠b.sc then decide (a.sc<b.sc)else if a.gr≠b.gr then ZS a.gr b.gr else ZS a.nm b.nm
theorem Zbx (a b:Rf):Pp 181 [ref a,ref b] (.bool (WQ a b)):=by
 refine ZH func181 rfl ntmps181 results181 ?_;simp only[go_sem,ref];repeat' ((first|(first|apply Zw|apply Zu|apply ZF)<;>intro h|refine vDq ?_)<;>first|simp only[go_sem,h]|simp only[go_sem]|skip)
 all_goals (simp_all[WQ])
open Go.PL
attribute [go_sem] Option.map_some Option.map_none Option.isNone_none
theorem Fo (l:List Str) (k:Nat):List.take k (l.map PV.str)=(l.take k).map PV.str:=by rw[List.map_take]
def Ur (l:List Str) (i:Nat):Bool:=Ym (l.getD i [])&& !((l.take i).any (· == l.getD i []))
def FM (l:List Str):Bool:=(Jo l.length).all (Ur l)
theorem V3 {l:List Str} {k:Nat} (hk:k<l.length) (h:Ur l k=false):FM l=false:=by
 rw[FM,Ji];exact⟨k,by simpa using hk,by simp[h]⟩
theorem FN {l:List Str} (h:∀j,j<l.length->Ur l j=true):FM l=true:=by
 rw[FM,Jj];intro j hj;exact h j (Jm.1 hj)
def ZdL (f:Fd):Bool:=FM f.cases'&&(decide ((f.cases'.length:Int)<7)&&f.cases'.any (· == f.df))
def Zkm (f:Fd):Bool:= !decide (0<(f.cases'.length:Int))&&((decide (f.kind=2)&&decide ((f.df.length:Int)<41))||(decide (f.kind=4)&&decide (f.df= [])))
def ZY (f:Fd):Bool:=
 XS f.at'&&(if f.kind=1 then decide (f.df= [])&&(decide ((f.cases'.length:Int)=0)&&(decide (0<f.worth)&&decide (f.worth<1048577)))
  else decide (f.worth=0)&&(if f.kind=3 then ZdL f else Zkm f))
theorem UM (f:Fd) (hl:f.cases'.length<=maxLen):Pp 142 [fld f] (.bool (ZY f)):=by
 have hP:=SC f.at';by_cases h3:f.kind=3;have k1:(f.kind==1)=false:=by rw[h3];rfl
 have k3:(f.kind==3)=true:=by rw[h3];rfl
 cases hp:XS f.at';rw[hp]at hP;refine ZH func142 rfl ntmps142 results142 ?_;simp only[go_sem,fld];refine vc1 hP ?_;simp only[go_sem,ZY,hp,Jb];rw[hp]at hP;by_cases hw:f.worth=0;have hw':(f.worth !=0)=false:=by rw[hw];rfl
 have hx:ZY f=ZdL f:=by
  simp only[ZY,hp,h3,hw,Jc,decide_true,if_true];rfl
 rw[hx];refine ZH func142 rfl ntmps142 results142 ?_;simp only[go_sem,fld];refine vc1 hP ?_;simp only[go_sem,k1,k3,hw'];refine Zt (ι:= { k:Nat // k<=f.cases'.length/\ ∀j,j<k->Ur f.cases' j=true }) 96 (λx=> [(1,.ptr 1 0),(3,.int .i64 (x.1:Int))]) (λx=> [(1,[.int .i64 f.at'.sc,.str f.at'.gr,.str f.at'.nm,.int .i64 f.kind,.str f.df,.sl .no (f.cases'.map .str),.int .i64 f.worth],false)]) (λx=> []) (λx=>f.cases'.length-x.1) ⟨0,by omega,λj hj=>by omega⟩
  ⟨rfl,(Fc2 rfl rfl),fcs ⟨rfl,rfl⟩ fnl,fnl⟩ (λx=>⟨(Fc2 rfl rfl),(fcs rfl fnl)⟩) (λx=> ?_)
 obtain⟨k,hk,hall⟩:=x;simp only;by_cases h:(k:Int)<(f.cases'.length:Int);have hka:k<f.cases'.length:=by omega
 have w1:=Xb hka hl;have i1:=Ja k
 have i2:(k:Int)<=(f.cases'.length:Int):=by omega
 have hN:=Xo (f.cases'.getD k []);have hT:(f.cases'.take k).length<=maxLen:=by rw[List.length_take];omega
 have hH:=Tn (f.cases'.take k) (f.cases'.getD k []) hT;cases hn:Ym (f.cases'.getD k []);rw[hn]at hN;have hz:ZdL f=false:=by simp only[ZdL,V3 hka (by simp only[Ur,hn,Jb]),Jb]
 simp only[go_sem,h,i1];refine vDq ?_;simp only[go_sem,ZV hka,h,i1];refine vc1 hN ?_;simp only[go_sem,hz];rw[hn]at hN;cases hh:(f.cases'.take k).any (· == f.cases'.getD k []);rw[hh]at hH;have ok:Ur f.cases' k=true:=by simp only[Ur,hn,hh,Bool.not_false,Bool.and_self]
 simp only[go_sem,h,i1];refine vDq ?_;simp only[go_sem,ZV hka,h,i1];refine vc1 hN ?_;simp only[go_sem,ZV hka,h,i1,i2,cut,Js,Fo,Z6];refine vc1 hH ?_;simp only[go_sem,w1];exact⟨⟨k+1,by omega,Zm hall ok⟩,nx9 (by omega),⟨rfl,(Fc2 rfl rfl),fcs ⟨rfl,rfl⟩ fnl,fnl⟩⟩;rw[hh]at hH;have hz:ZdL f=false:=by simp only[ZdL,V3 hka (by simp only[Ur,hn,hh,Bool.not_true,Bool.and_false]),Jb]
 simp only[go_sem,h,i1];refine vDq ?_;simp only[go_sem,ZV hka,h,i1];refine vc1 hN ?_;simp only[go_sem,ZV hka,h,i1,i2,cut,Js,Fo,Z6];refine vc1 hH ?_;simp only[go_sem,hz];have hc:=FN (l:=f.cases') (λj hj=>hall j (by omega));have hH:=Tn f.cases' f.df hl;by_cases h7:(f.cases'.length:Int)<7;simp only[go_sem,h,h7];refine vc1 hH ?_;simp only[go_sem,ZdL,hc,h7,Jc];simp only[go_sem,h,h7,ZdL,hc,Jc,Jb];have hw':(f.worth !=0)=true:=bne_iff_ne.2 hw;have hx:ZY f=false:=by
  simp only[ZY,hp,h3,hw,Jc,decide_false,Jb];rfl
 refine ZH func142 rfl ntmps142 results142 ?_;simp only[go_sem,fld];refine vc1 hP ?_;simp only[go_sem,k1,k3,hw',hx];have k3:(f.kind==3)=false:=beq_eq_false_iff_ne.2 h3;have hx:ZY f=(XS f.at'&&(if f.kind=1 then decide (f.df= [])&&(decide ((f.cases'.length:Int)=0)&&(decide (0<f.worth)&&decide (f.worth<1048577)))else decide (f.worth=0)&&Zkm f)):=by
  simp only[ZY,h3,if_false]
 rw[hx];refine ZH func142 rfl ntmps142 results142 ?_;simp only[go_sem,fld];refine vc1 hP ?_;simp only[go_sem];repeat' ((first|(first|apply Zw|apply Zu|apply ZF)<;>intro h|refine vDq ?_)<;>first|simp only[go_sem,h,k3]|simp only[go_sem,k3]|skip)
 all_goals (simp_all[Zkm])
 all_goals (cases f.df<;>simp)
def WN (f:Fd) (s:Str):Bool:=(ZY f&& !decide (f.kind=1))&&(if f.kind=3 then f.cases'.any (· == s)else decide ((s.length:Int)<41))
theorem Zjc (f:Fd) (s:Str) (hl:f.cases'.length<=maxLen):Pp 223 [fld f,.str s] (.bool (WN f s)):=by
 have hR:=UM f hl;have hH:=Tn f.cases' s hl;refine ZH func223 rfl ntmps223 results223 ?_;simp only[go_sem,fld];repeat' ((first|(first|apply Zw|apply Zu|apply ZF)<;>intro h|refine vc2 hR ?_|refine vc2 hH ?_|refine vDq ?_)<;>first|simp only[go_sem,h]|simp only[go_sem]|skip)
 all_goals (simp_all[WN])
end Go.Proofs.YtadgngamdofhiaaGreat
