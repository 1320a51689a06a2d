/- Lemmas. -/
import Derived.Test.YtcmpkokndngplaaGreatXAa
import Derived.RangeFuncBox
import Derived.OwnWalkIn
import Derived.TacticsInMore
import Derived.LoopIn
import Derived.Test.YtcmpkokndngplaaGreatRows
set_option maxHeartbeats 64000000
set_option maxRecDepth 20000
set_option linter.unusedVariables false
set_option linter.unusedSimpArgs false
set_option linter.defProp false
open Inhabited renaming default→Jd
open Option renaming some→Hs,none→Hn
open Go.Proofs.Tryz
open Go Go.PL
open Bool renaming and_eq_true→Jk,or_eq_true→Jn,not_eq_true'→JA,and_self→JH
open Int renaming natCast_nonneg→Ju
open List renaming getD_eq_getElem?_getD→Ja,append_nil→Jc,getElem?_take_of_lt→Je,getElem_of_mem→Jf,pairwise_iff_getElem→Jg,map_cons→Jh,mem_cons→Ji,pairwise_cons→Jj,all_eq_true→Jl,length_take→Jm,mem_of_mem_take→Jq,mem_of_mem_drop→Jr,range→Jt,length_append→Jw,mem_singleton→Jy,getElem?_drop→Jz,mem_map→JB,length_drop→JD,mem_append→JF,finRange→JI
open Nat renaming zero_le→Jo,mod_lt→Jv,lt_trichotomy→JC
open Op renaming bytesLess→Jb
open PV renaming didsL→Jp,nomapL→Js,givableL→JE,dids→JG,giveL→JK
open Sem renaming run_bind→JJ
namespace Go.Proofs.YtcmpkokndngplaaGreat
def D5 (l:List Fd) (i:Nat):Bool:=ZT (l.getD i Jd)&&(decide (i=0)||V0 (l.getD (i-1) Jd).at' (l.getD i Jd).at')
def ZP (l:List Fd):Bool:= !decide (16<(l.length:Int))&&(Jt l.length).all (D5 l)
def Zk (l:List Fd) (sc:Int):List Fd:=l.filter λf=>f.at'.sc==sc
def Zo (l:List Fd) (es:List En):Bool:=decide (l.length=es.length)&&(Jt l.length).all (λi=>YF (l.getD i Jd) (es.getD i Jd))
open Go.PL
def Zv3 {a b:Rw} (c:a.item=b.item) (d:a.l=b.l):a=b:=by cases a;cases b;simp_all
def Zvu {a b:Dc} (c:a.head=b.head) (d:a.rows=b.rows):a=b:=by cases a;cases b;simp_all
def ZhJ (a b:Dc) (I:Zfd a) (J:Zfd b):Pp 14 [doc a,doc b] (.bool (decide (a=b))):=by
 obtain⟨A,B,C,D⟩:=I;obtain⟨E,M,F,G⟩:=J;have q:=Tx a.head b.head A E C F;by_cases t:a.rows.length=b.rows.length;have l:((a.rows.length:Int) !=(b.rows.length:Int))=false:=by rw[t];exact bne_self_eq_false _
 by_cases s:a.head=b.head;rw[decide_eq_true s]at q;refine ZM func14 rfl ntmps14 results14 ?_;simp only[go_sem,doc,l];refine vc1 q ?_;simp only[go_sem];refine ZA (ι:= { k:Nat // k<=a.rows.length/\ ∀j,j<k->a.rows.getD j Jd=b.rows.getD j Jd }) 57 (λx=> [(2,.ptr 2 0),(3,.ptr 3 0),(5,.int .i64 (x.1:Int))]) (λx=> [(2,[.sl .no (a.head.map ent),.sl .no (a.rows.map row)],false),(3,[.sl .no (b.head.map ent),.sl .no (b.rows.map row)],false)]) (λx=> []) (λx=>a.rows.length-x.1) ⟨0,by omega,λj K=>by omega⟩
  ⟨rfl,(Fc3 rfl rfl rfl),Fc2 ⟨rfl,rfl⟩ ⟨rfl,rfl⟩,fnl⟩ (λx=>⟨(Fc3 rfl rfl rfl),(Fc2 rfl rfl)⟩) (λx=> ?_)
 obtain⟨k,N,m⟩:=x;simp only;by_cases h:(k:Int)<(a.rows.length:Int);have f:k<a.rows.length:=by omega
 have i:k<b.rows.length:=by omega
 have L:=Wa f B;have u:=Ju k
 have v:(k:Int)<(b.rows.length:Int):=by omega
 have y:=D _ (Zh (d:=Jd) f);have z:=G _ (Zh (d:=Jd) i);have r:=Tx _ _ y.1 z.1 y.2 z.2;by_cases o:(a.rows.getD k Jd).item=(b.rows.getD k Jd).item;have g:((a.rows.getD k Jd).item==(b.rows.getD k Jd).item)=true:=beq_iff_eq.2 o;by_cases p:(a.rows.getD k Jd).l=(b.rows.getD k Jd).l;rw[decide_eq_true p]at r;simp only[go_sem,h];refine vDq ?_;simp only[go_sem,Wj f,Wj i,row,h,u,v,g];refine vc1 r ?_;simp only[go_sem,L];exact⟨⟨k+1,by omega,Zm m (Zv3 o p)⟩,nx9 (by omega),⟨rfl,(Fc3 rfl rfl rfl),Fc2 ⟨rfl,rfl⟩ ⟨rfl,rfl⟩,fnl⟩⟩;rw[decide_eq_false p]at r;have c:¬a=b:=λe=>p (by rw[e])
 simp only[go_sem,h];refine vDq ?_;simp only[go_sem,Wj f,Wj i,row,h,u,v,g];refine vc1 r ?_;simp only[go_sem,c];have g:((a.rows.getD k Jd).item==(b.rows.getD k Jd).item)=false:=beq_eq_false_iff_ne.2 o;have c:¬a=b:=λe=>o (by rw[e])
 simp only[go_sem,h];refine vDq ?_;simp only[go_sem,Wj f,Wj i,row,h,u,v,g,c];have c:decide (a=b)=true:=decide_eq_true (Zvu s (X3 (d:=Jd) t λj K=>m j (by omega)));simp only[go_sem,h,c];rw[decide_eq_false s]at q;have c:¬a=b:=λe=>s (by rw[e])
 refine ZM func14 rfl ntmps14 results14 ?_;simp only[go_sem,doc,l];refine vc1 q ?_;simp only[go_sem,c];have l:((a.rows.length:Int) !=(b.rows.length:Int))=true:=bne_iff_ne.2 (by omega);have c:¬a=b:=λe=>t (by rw[e])
 refine ZM func14 rfl ntmps14 results14 ?_;simp only[go_sem,doc,l,c]
def Zc5 (f:Fd):Bool:=Wm 200 f.at'.gr||(Wm 200 f.at'.nm||(Wm 200 f.df||decide (20<(f.cases'.length:Int))))
def FA (f:Fd):Bool:=Zc5 f||f.cases'.any (Wm 200)
def Zfk (f:Fd) (A:f.cases'.length<=maxLen):Pp 45 [fld f] (.bool (FA f)):=by
 have u:∀b,Zc5 f=b->(∀(_:b=true),FA f=true):=λb y h=>by simp only[FA,y,h,Bool.true_or]
 cases o:Zc5 f;have r:FA f=f.cases'.any (Wm 200):=by simp only[FA,o,Bool.false_or]
 rw[r];simp only[Zc5,Wm,Bool.or_eq_false_iff,decide_eq_false_iff_not]at o;obtain⟨i,m,q,t⟩:=o;have i:¬(200:Int)<(f.at'.gr.length:Int):=by omega
 have m:¬(200:Int)<(f.at'.nm.length:Int):=by omega
 have q:¬(200:Int)<(f.df.length:Int):=by omega
 refine ZM func45 rfl ntmps45 results45 ?_;simp only[go_sem,fld,i,m,q,t];refine ZA (ι:= { k:Nat // k<=f.cases'.length/\ ∀j,j<k->Wm 200 (f.cases'.getD j [])=false }) 42 (λx=> [(1,.ptr 1 0),(3,.int .i64 (x.1:Int))]) (λx=> [(1,[.int .i64 f.at'.sc,.str f.at'.gr,.str f.at'.nm,.int .i64 f.kind,.str f.df,.sl .no (f.cases'.map .str),.int .i64 f.worth],false)]) (λx=> []) (λx=>f.cases'.length-x.1) ⟨0,by omega,λj z=>by omega⟩
  ⟨rfl,(Fc2 rfl rfl),fcs ⟨rfl,rfl⟩ fnl,fnl⟩ (λx=>⟨(Fc2 rfl rfl),(fcs rfl fnl)⟩) (λx=> ?_)
 obtain⟨k,C,e⟩:=x;simp only;by_cases h:(k:Int)<(f.cases'.length:Int);have c:k<f.cases'.length:=by omega
 have B:=Wa c A;have v:=Ju k
 by_cases g:(200:Int)<((f.cases'.getD k []).length:Int);have s:=U8 (p:=Wm 200) c (d:= []) (by simp only[Wm,decide_eq_true_eq];omega);simp only[go_sem,h,Z8 c,v,g,s];simp only[go_sem,h,Z8 c,v,g,B];exact⟨⟨k+1,by omega,Zm e (by simp only[Wm,decide_eq_false_iff_not];omega)⟩,nx9 (by omega),⟨rfl,(Fc2 rfl rfl),fcs ⟨rfl,rfl⟩ fnl,fnl⟩⟩;have s:=UC (p:=Wm 200) (d:= []) (l:=f.cases') (λj z=>e j (by omega));simp only[go_sem,h,s];have r:=u _ o rfl;rw[r];simp only[Zc5,Wm,Jn,decide_eq_true_eq]at o;by_cases i:(200:Int)<(f.at'.gr.length:Int);refine ZM func45 rfl ntmps45 results45 ?_;simp only[go_sem,fld,i];by_cases m:(200:Int)<(f.at'.nm.length:Int);refine ZM func45 rfl ntmps45 results45 ?_;simp only[go_sem,fld,i,m];by_cases q:(200:Int)<(f.df.length:Int);refine ZM func45 rfl ntmps45 results45 ?_;simp only[go_sem,fld,i,m,q];have t:(20:Int)<(f.cases'.length:Int):=by omega
 refine ZM func45 rfl ntmps45 results45 ?_;simp only[go_sem,fld,i,m,q,t]
open Go.PL
def Ub (l:List Fd) (rs:List Rw) (i:Nat):Bool:=
 (Z0 (rs.getD i Jd).item&&(decide (i=0)||Zl (rs.getD (i-1) Jd).item (rs.getD i Jd).item))&&Zo (Zk l 1) (rs.getD i Jd).l
def Gb (l:List Fd) (d:Dc):Bool:=ZP l&&(!decide (400<(d.rows.length:Int))&&Zo (Zk l 0) d.head)
def Zz (l:List Fd) (d:Dc):Bool:=Gb l d&&(Jt d.rows.length).all (Ub l d.rows)
def Zdx {l:List Fd} (h:ZP l=true):l.length<=16:=by
 simp only[ZP,Jk,JA,decide_eq_false_iff_not]at h;omega
open Go.PL
theorem Zjq (l:List Tg):Jp (l.map tg)= []:=by
 induction l with
 |nil=>rfl
 |cons t l ih=>simp only[Jh,Jp,ih,tg,JG,Jc]
def Zaj (l:List Tg):Sized 2 (l.map tg):=λe b=>by
 obtain⟨x,_,rfl⟩:=JB.1 b;rfl
def Zjj (l:List Tg):XF (l.map tg):=λe b=>by
 obtain⟨x,_,rfl⟩:=JB.1 b;rfl
def ZdN (t:Tg):Bool:=decide (1<=t.r)&&(decide (t.r<=6)&&(decide (1<=t.n)&&decide (t.n<=1099511627776)))
def GQ (t:Tg):Pp 91 [tg t] (.bool (ZdN t)):=by
 refine ZM func91 rfl ntmps91 results91 ?_;simp only[go_sem,tg];repeat' ((first|(first|apply Zw|apply Zv|apply ZK)<;>intro h|refine vDq ?_)<;>first|simp only[go_sem,h]|simp only[go_sem]|skip)
 all_goals (simp_all[ZdN]<;>(intros;omega))
def Uk (a b:Tg):Bool:=if a.r=b.r then decide (a.n<b.n)else decide (a.r<b.r)
def ZcK (a b:Tg):Pp 106 [tg a,tg b] (.bool (Uk a b)):=by
 refine ZM func106 rfl ntmps106 results106 ?_;simp only[go_sem,tg];repeat' ((first|(first|apply Zw|apply Zv|apply ZK)<;>intro h|refine vDq ?_)<;>first|simp only[go_sem,h]|simp only[go_sem]|skip)
 all_goals simp_all[Uk]
open Go.PL
theorem Xs:∀(a:Str),Zl a a=false
 | []=>rfl
 |x::a=>by
  have:=Xs a;unfold Zl at *;simp[Jb,this]
theorem Ud:∀ {a b c:Str},Zl a b=true->Zl b c=true->Zl a c=true
 | [],[],_,h,_=>by simp[Zl,Jb]at h
 | [],_::_,[],_,h=>by simp[Zl,Jb]at h
 | [],_::_,_::_,_,_=>by simp[Zl,Jb]
 |_::_,[],_,h,_=>by simp[Zl,Jb]at h
 |_::_,_::_,[],_,h=>by simp[Zl,Jb]at h
 |x::a,y::b,z::c,e,d=>by
  have f:=Ud (a:=a) (b:=b) (c:=c);unfold Zl at *;simp only[Jb,Jn,decide_eq_true_eq,Jk,beq_iff_eq]at *;rcases e with e|⟨rfl,e⟩;rcases d with d|⟨rfl,d⟩;exact .inl (UInt8.lt_trans e d);exact .inl e;rcases d with d|⟨rfl,d⟩;exact .inl d;exact .inr ⟨rfl,f e d⟩
theorem Sw:∀(a b:Str),Zl a b=true\/a=b\/Zl b a=true
 | [],[]=> .inr (.inl rfl)
 | [],_::_=> .inl (by simp[Zl,Jb])
 |_::_,[]=> .inr (.inr (by simp[Zl,Jb]))
 |x::a,y::b=>by
  have c:=Sw a b;unfold Zl at *;simp only[Jb,Jn,decide_eq_true_eq,Jk,beq_iff_eq]at *;rcases JC x.toNat y.toNat with h|h|h;exact .inl (.inl h);have e:x=y:=UInt8.toNat_inj.1 h;subst e;rcases c with c|rfl|c;exact .inl (.inr ⟨rfl,c⟩);exact .inr (.inl rfl);exact .inr (.inr (.inr ⟨rfl,c⟩));exact .inr (.inr (.inl h))
def W8 (a:Rf):V0 a a=false:=by simp[V0,Xs]
def Zrp (a b:Rf):V0 a b=true\/a=b\/V0 b a=true:=by
 unfold V0;by_cases c:a.sc=b.sc;by_cases d:a.gr=b.gr;simp only[c,d,ne_eq,not_true_eq_false,if_false];rcases Sw a.nm b.nm with h|h|h;exact .inl h;exact .inr (.inl (by cases a;cases b;simp_all));exact .inr (.inr h);have g:b.gr≠a.gr:=λe=>d e.symm
 simp only[c,d,g,ne_eq,not_true_eq_false,not_false_eq_true,if_false,if_true];rcases Sw a.gr b.gr with h|h|h;exact .inl h;exact absurd h d;exact .inr (.inr h);have f:b.sc≠a.sc:=λe=>c e.symm
 simp only[c,f,ne_eq,not_false_eq_true,if_true,decide_eq_true_eq];omega
def Zex {a b c:Rf} (i:V0 a b=true) (j:V0 b c=true):V0 a c=true:=by
 unfold V0 at *;by_cases g:a.sc=b.sc;by_cases d:b.sc=c.sc;simp only[g,d,ne_eq,not_true_eq_false,if_false]at *;by_cases h:a.gr=b.gr;by_cases f:b.gr=c.gr;simp only[h,f,not_true_eq_false,if_false]at *;exact Ud i j;simp only[h,f,not_true_eq_false,not_false_eq_true,if_false,if_true]at *;exact j;by_cases f:b.gr=c.gr;rw[<-f];simp only[h,not_false_eq_true,if_true]at *;exact i;simp only[h,f,not_false_eq_true,if_true]at *;have:=Ud i j;have k:¬a.gr=c.gr:=λe=>by rw[e,Xs]at this;cases this
 simp only[k,not_false_eq_true,if_true];exact this;simp only[g,d,ne_eq,not_false_eq_true,if_true]at *;exact j;by_cases d:b.sc=c.sc;rw[<-d];simp only[g,ne_eq,not_false_eq_true,if_true]at *;exact i;simp only[g,d,ne_eq,not_false_eq_true,if_true,decide_eq_true_eq]at *;have k:¬a.sc=c.sc:=by omega
 simp only[k,not_false_eq_true,if_true,decide_eq_true_eq];omega
def ZmK (l:List Fd):Prop:=l.Pairwise λa b=>V0 a.at' b.at'=true
theorem Ds:∀ {l:List Fd},(∀i,i<l.length->i=0\/V0 (l.getD (i-1) Jd).at' (l.getD i Jd).at'=true)->ZmK l
 | [],_=>List.Pairwise.nil
 | [a],_=>List.pairwise_singleton _ _
 |a::b::l,h=>by
  have e:ZmK (b::l):=Ds λi f=>by
   cases i with
   |zero=>exact .inl rfl
   |succ i=>
    have:=h (i+2) (by simp at f ⊢;omega);right;simpa using this
  have c:V0 a.at' b.at'=true:=by simpa using h 1 (by simp)
  refine Jj.2 ⟨λx d=> ?_,e⟩;rcases Ji.1 d with rfl|d;exact c;exact Zex c ((Jj.1 e).1 x d)
def ZeQ {l:List Fd} (h:ZmK l):∀i,i<l.length->i=0\/V0 (l.getD (i-1) Jd).at' (l.getD i Jd).at'=true:=λi b=>by
 by_cases c:i=0;exact .inl c;right;rw[getD_lt (by omega),getD_lt b];exact Jg.1 h (i-1) i (by omega) b (by omega)
def ZL {l:List Fd}:ZP l=true↔l.length<=16/\ZmK l/\ ∀f∈l,ZT f=true:=by
 unfold ZP;simp only[Jk,JA,decide_eq_false_iff_not,Jl,List.mem_range,D5,Jn,decide_eq_true_eq];constructor;rintro ⟨d,c⟩;refine⟨by omega,Ds λi b=>(c i b).2,λf g=> ?_⟩;obtain⟨i,b,rfl⟩:=Jf g;have:=(c i b).1;rwa[getD_lt b]at this;rintro ⟨d,c,e⟩;exact⟨by omega,λi b=>⟨e _ (Zc b),ZeQ c i b⟩⟩
theorem ZeK:∀ {l m:List Fd},ZmK l->ZmK m->(∀f,f∈l↔f∈m)->l=m
 | [],[],_,_,_=>rfl
 | [],b::m,_,_,h=>by have:=(h b).2 (by simp);cases this
 |a::l,[],_,_,h=>by have:=(h a).1 (by simp);cases this
 |a::l,b::m,h1,h2,h=>by
  obtain⟨d,i⟩:=Jj.1 h1;obtain⟨g,j⟩:=Jj.1 h2;have e:a=b:=by
   rcases Ji.1 ((h a).1 (by simp))with e|ha;exact e;rcases Ji.1 ((h b).2 (by simp))with e|hb;exact e.symm;have:=Zex (d b hb) (g a ha);rw[W8]at this;cases this
  subst e;congr 1;refine ZeK i j λf=>⟨λc=> ?_,λc=> ?_⟩
  rcases Ji.1 ((h f).1 (by simp[c]))with e|hf';subst e;have:=d f c;rw[W8]at this;cases this;exact hf';rcases Ji.1 ((h f).2 (by simp[c]))with e|hf';subst e;have:=g f c;rw[W8]at this;cases this;exact hf'
def ZeJ {l:List Fd} (h:ZmK l) {f g:Fd} (k:f∈l) (m:g∈l) (e:f.at'=g.at'):f=g:=by
 obtain⟨i,c,rfl⟩:=Jf k;obtain⟨j,d,rfl⟩:=Jf m;rcases JC i j with b|b|b;have:=Jg.1 h i j c d b;rw[e,W8]at this;cases this;subst b;rfl;have:=Jg.1 h j i d c b;rw[e,W8]at this;cases this
open Go.PL
structure Nd where
 e:Eg
 st:Int
 sch:List Fd
 dep:Int
 deriving DecidableEq,Inhabited
def nd (n:Nd):PV:= .agg [.int .i64 n.e.id.r,.int .i64 n.e.id.n,.int .i64 n.e.par.r,.int .i64 n.e.par.n,.int .i64 n.e.ln.kind,.int .i64 n.e.ln.at'.sc,.str n.e.ln.at'.gr,.str n.e.ln.at'.nm,.str n.e.ln.nm,.str n.e.ln.ot,.int .i64 n.e.ln.fac,.int .i64 n.e.ln.fd.at'.sc,.str n.e.ln.fd.at'.gr,.str n.e.ln.fd.at'.nm,.int .i64 n.e.ln.fd.kind,.str n.e.ln.fd.df,.sl .no (n.e.ln.fd.cases'.map .str),.int .i64 n.e.ln.fd.worth,.sl .no (n.e.ln.fo.map pr),.sl .no (n.e.ln.ba.map pr),.int .i64 n.st,.sl .no (n.sch.map fld),.int .i64 n.dep]
def kts (l:List Nd):List PV:=l.map λn=>tg n.e.id
def nds (l:List Nd):List PV:=l.map nd
def tr (l:List Nd):PV:= .rptr [.rmap (kts l) (nds l)]
def vc5 {x:Bool} {M:KH} {g:FuncId} {args args':List PV} {K:KR} {r:PV} (c:Pp g args' r) (d:K.k r M.m) (b:JE M.m args:=by first|(simp only[go_sem,ref,ent,ZX,doc,Y5,row,Zt,fld,lns,tg,refs,prs,pr,eg,egs,tgs,lg,lgs,tr];done)|exact rfl) (e:JK M.m args=args':=by first|(simp only[go_sem,ref,ent,ZX,doc,Y5,row,Zt,fld,lns,tg,refs,prs,pr,eg,egs,tgs,lg,lgs,tr];done)|exact rfl):@V8 prog x M (Hs (g,args)) K:=YN c b e d
def mc (l:List Nd):MapC:=⟨kts l,nds l⟩
theorem Zjp (l:List Pr):Jp (l.map pr)= []:=by
 induction l with
 |nil=>rfl
 |cons t l ih=>simp only[Jh,Jp,ih,pr,JG,Jc]
def Zh7 (e:Eg):(eg e).dids= []:=by simp only[eg,JG,Jp,Zjp,XI,Jc]
def Zir (n:Nd):(nd n).dids= []:=by simp only[nd,JG,Jp,Zjp,ZfH,XI,Jc]
def Zpl (t:Tg):(tg t).dids= []:=by simp only[tg,JG,Jp,Jc]
def VE {α:Type} (f:α->PV) (h:∀x,(f x).nomap=true) (l:List α):Js (l.map f)=true:=Fc.2 λc b=>by
 obtain⟨x,_,rfl⟩:=JB.1 b;exact h x
def SM (l:List Str):Js (l.map .str)=true:=VE _ (λ_=>rfl) l
def Zoy (l:List Pr):Js (l.map pr)=true:=VE _ (λ_=>rfl) l
def ZoB (f:Fd):(fld f).nomap=true:=by simp only[fld,PV.nomap,Js,SM,JH]
def ZrC (n:Nd):(nd n).nomap=true:=by simp only[nd,PV.nomap,Js,Zoy,SM,VE _ ZoB,JH]
theorem Zc1 (id:Tg):∀(l:List Nd) (i:Nat),Td [.int,.int] [.int .i64 id.r,.int .i64 id.n] (kts l) i=Hs ((l.findIdx? λn=>decide (id=n.e.id)).map (· + i))
 | [],i=>rfl
 |n::l,i=>by
  have b:=Zc1 id l (i+1);simp only[kts,tg]at b;simp only[kts,Jh,tg,Td,ZC,UJ,if_true,List.findIdx?_cons,Bool.and_true,Z6];by_cases h:id=n.e.id;simp[h];simp only[h,decide_false,b];simp only[Bool.false_eq_true,if_false,Option.map_map];congr 2;funext x;simp;omega
def YE (id:Tg) (l:List Nd):Td [.int,.int] [.int .i64 id.r,.int .i64 id.n] (kts l) 0=Hs (l.findIdx? λn=>decide (id=n.e.id)):=by
 rw[Zc1];congr 1;cases List.findIdx? (λn=>decide (id=n.e.id)) l<;>rfl
def D3 (l:List Nd) (id:Tg):Option Nd:=l.find? λn=>decide (id=n.e.id)
def TP {l:List Nd} {id:Tg}:(l.findIdx? λn=>decide (id=n.e.id))=Hn↔D3 l id=none:=by
 unfold D3;rw[List.findIdx?_eq_none_iff,List.find?_eq_none];simp
def TQ {l:List Nd} {id:Tg} {i:Nat} (h:(l.findIdx? λn=>decide (id=n.e.id))=Hs i):i<l.length/\D3 l id=Hs (l.getD i Jd):=by
 rw[List.findIdx?_eq_some_iff_getElem]at h;obtain⟨b,c,d⟩:=h;refine⟨b,?_⟩;unfold D3;rw[List.find?_eq_some_iff_getElem];exact⟨by rw[getD_lt b];exact c,i,b,(getD_lt b).symm,λj e=>by simpa using d j e⟩
def Zba {l:List Nd} {i:Nat} (h:i<l.length):(nds l).getD i .any=nd (l.getD i Jd):=Xk h
def ZnM {l:List Nd} {i:Nat} (h:i<l.length):(kts l).getD i .any=tg (l.getD i Jd).e.id:=Xk (d:=Jd) h
def DO:Pp 67 [] (tg Jd):=by
 refine ZS func67 rfl ntmps67 results67 (rfl) ?_;simp only[go_sem];rfl
def ZkR:Pp 68 [] (Zt ZbG):=by
 refine ZS func68 rfl ntmps68 results68 (TS _) ?_;simp only[go_sem];repeat((with_reducible refine And.intro ?_ ?_);(focus((repeat' (with_reducible apply And.intro))<;>(first|omega|exact Yl (by omega) (by omega)|exact Yl (by simp;omega) (by omega)|exact Yb _|(simp;done)|(simp;omega)))))
 rfl
def ZiK:Nd:=⟨Jd,2,ZbG,0⟩
def atN (l:List Nd) (id:Tg):Nd:=if id=Jd then ZiK else(D3 l id).getD Jd
def ZsU:PL.Mk prog 15 [] (λb=> .rptr [.mref b]) (mc []):=by
 refine PL.Mk.of_v func15 (by decide) rfl ntmps15 results15 (by simp) (λb=>rfl) ?_;simp only[go_sem];intro b;exact⟨b,3,[.mref b],rfl,by simp,rfl,by simp[mc,kts,nds],rfl⟩
theorem ZmU (l:List Nd) (id:Tg):Pp 33 [tr l,tg id] (nd (atN l id)):=by
 unfold atN;by_cases h:id=Jd;rw[if_pos h];subst h;refine ZS func33 rfl ntmps33 results33 (Zir _) ?_;simp only[go_sem,tr,tg];refine vDq ?_;simp only[go_sem];refine vc3 DO ?_;simp only[go_sem,tg];refine vc3 ZkR ?_;simp only[go_sem,Zt];rfl;rw[if_neg h];have hd:decide (id=Jd)=false:=by simpa using h
 refine ZS func33 rfl ntmps33 results33 (Zir _) ?_;simp only[go_sem,tr,tg];refine vDq ?_;simp only[go_sem];refine vc3 DO ?_;simp only[go_sem,tg,Z6,hd];cases b:l.findIdx? (λn=>decide (id=n.e.id))with
 |none=>
  have:=TP.1 b;refine vDq ?_;simp only[go_sem,YE,b,this,Option.getD_none];rfl
 |some i=>
  obtain⟨c,d⟩:=TQ b;refine vDq ?_;simp only[go_sem,YE,b,d,Option.getD_some,Zba c,nd]
open Go.PL
theorem ZdX (l:List Str) (f:l.length<=1000000):Pp 114 [Y5 l] (Y5 l):=by
 cases l with
 |nil=>
  refine ZS func114 rfl ntmps114 results114 (Dx _) ?_;simp only[go_sem,Y5];intro b;cases b;simp only[go_sem,Y5];exact Yl (by omega) (by omega);simp only[go_sem,Y5]
 |cons x l=>
  have e:=Yl (show(x::l).length<=100000000000 by omega) (show 16<=1000 by omega);have d:=Yb (x::l);have c:=Xr (x::l);simp only[Jh]at d c;refine ZS func114 rfl ntmps114 results114 (Dx _) ?_;simp only[go_sem,Y5,d,c];exact e
def X2 (e:En) (c:e.l.length<=1000000):Pp 78 [ent e] (ent e):=by
 have b:=ZdX e.l c;refine ZS func78 rfl ntmps78 results78 (WV _) ?_;simp only[go_sem,ent];refine vc1 b ?_;simp only[go_sem,ent,Y5]
open Go.PL
open Go.PL
@[go_sem] theorem Zu2 (m:Hp) (k:IntKind) (l:List Int):JK m (l.map (.int k))=l.map (.int k):=by
 induction l with
 |nil=>rfl
 |cons a l ih=>simp only[Jh,JK,ih,PV.give]
@[go_sem] theorem Zrc (m:Hp) (k:IntKind) (l:List Int):JE m (l.map (.int k))=True:=by
 induction l with
 |nil=>rfl
 |cons a l ih=>simp only[Jh,JE,ih,PV.givable,and_self]
open Go.PL
end Go.Proofs.YtcmpkokndngplaaGreat
namespace Go.PL
open Go.RowKit
theorem Rep.cells_at {S:Stable} {v:Value} {es:List PV} {sz:Nat} (r:Rep S v (.sl .no es)) (f:∀i,i<es.length->(es.getD i .any).cells.length=sz):
  ∃(A:Option Addr) (cap:Nat) (vs:Nat->Nat->Value),v= .slice A es.length cap/\(0<es.length-> ∃b o,A=Hs ⟨b,o,Hn⟩/\
   ∀i j,i<es.length->j<sz->S b (o+i*sz+j)=Hs (vs i j))/\(∀i j,i<es.length->j<sz->Rep S (vs i j) ((es.getD i .any).cells.getD j .any)):=by
 generalize d:es=es' at r;cases r with
 |sl0 a cap=>subst d;exact⟨a,cap,λ_ _=>undef,rfl,λh=>absurd h (by simp),λi j c=>absurd c (by simp)⟩
 |sl b o cap sz' es vals hsz hcap hS hR=>
  subst d;refine⟨_,cap,vals,rfl,λh=>⟨b,o,rfl,λi j c e=> ?_⟩,λi j c e=> ?_⟩
  ·have:=(hsz i c).symm.trans (f i c);subst this;exact hS i j c e
  ·have:=(hsz i c).symm.trans (f i c);subst this;exact hR i j c e
def G2 {n k:Nat} (h:k<n):(JI n).take (k+1)=(JI n).take k++ [⟨k,h⟩]:=by
 rw[List.take_succ_eq_append_getElem (by simpa using h)];simp
section
variable {P:Program} {n:Nat} {ops:Array Oper} {rest:List Oper} {Q:Exit->Act->World->Prop} {a:Act} {w:World}
def Zjf {dst:Option Nat} {t ty:TypeId} {x:Operand} {pos:String} {after:Array Edge} {A:Addr} {v:Value} (f:a.eval x= .pointer (Hs A)) (e:(loadVar t A).run P w= .ok v w) (h:wpListIn Fence.wide n P ops Q rest (a.put dst v) w):
  wpListIn Fence.wide n P ops Q (⟨dst,.load t x,ty,pos,after,Hn⟩::rest) a w:=by
 refine wpListIn_plain rfl λK b=> ?_
 unfold Oper.wpIn;refine⟨λ_ _=>trivial,?_⟩;rw[Oper.semAt_plain Fence.wide _ _ (by intro c d;cases d)];simp[execOp,Instr.loadAt,Instr.sureAddr,f,e,Result.andThen,JJ];exact b _ _ h
def ZoX {t:TypeId} {d:TypeDesc} (c:P.underlying t=Hs d) {b o sz:Nat} {vals:Nat->Value} (f:Yp P t=true) (l:tsz P t=sz) (e:∀j,j<sz->w.cell? ⟨b,o+j,Hn⟩=Hs (vals j)):
  (loadVar t ⟨b,o,Hn⟩).run P w= .ok (.agg ⟨(Jt sz).map vals⟩) w:=by
 subst l;obtain⟨i,g⟩:=Xv c;have k:=run_loadCells (P:=P) (w:=w) (⟨b,o,Hn⟩:Addr) (tsz P t) vals (λj h=>by rw[Z7];exact e _ h);unfold loadVar;simp only[JJ,V2 c,Result.andThen_ok,f,if_true,YA g,k,Sem.run_pure]
end
end Go.PL
namespace Go.Proofs.YtcmpkokndngplaaGreat
open Go.PL Go.RowKit
open Go.PL
open Go.PL
open Go.PL
end Go.Proofs.YtcmpkokndngplaaGreat
namespace Go.PL
open Srt
end Go.PL
namespace Go.Proofs.YtcmpkokndngplaaGreat
open Go.PL Go.PL.Srt
open Go.PL Go.PL.Srt
open Go.PL Go.PL.Srt
open Go.PL Go.PL.Srt
open Go.PL Go.RowKit
open Go.PL Go.RowKit
theorem ZdY {m:Hp} {d k d2 n i:Nat} {x:PV} {es:List PV} (hq:m.q d=Hs (.vec n 2 90)) (hv:m.v d=Hs es) (J:m.q k=Hs (.vec 1 2 90)) (xn:m.v k=Hs [x]) (xk:m.q d2=Hn) (xl:d≠k) (hi:i<=n) (L:n<=1000000) (F:∀p∈es++ [x],∀j∈p.ids,j≠ .r d):
  CallS prog 81 [.vsl d n 2,.int .i64 i,.vsl k 1 2] m (.vsl d2 (n+1) 2) { m with q:=upd (upd m.q d (Hs .dead)) d2 (Hs (.vec (n+1) 2 90)),v:=upd (upd m.v d Hn) d2 (Hs (es.take i++x::es.drop i)) }:=by
 refine⟨⟨_,func81,by decide,rfl⟩,λB S M s a w vs hm hs xc E xo=> ?_⟩;subst hm;obtain⟨U,v1,v2,rfl⟩:∃U v1 v2,vs= [U,v1,v2]:=by
  match vs,xc with
  | [a,b,c],_=>exact⟨a,b,c,rfl⟩
 have h0:RepS S M s.m.q U (.vsl d n 2):=E 0 (by simp);have h1:RepS S M s.m.q v1 (.int .i64 i):=E 1 (by simp);have h2:RepS S M s.m.q v2 (.vsl k 1 2):=E 2 (by simp);obtain rfl:=h1.int_inv;obtain⟨xs,o0,hn,cE,lE,rE,k0⟩:=hs.vec_ownsR hq hv h0;obtain⟨ys,o2,_,cX,lX,rX,kX⟩:=hs.vec_ownsR J xn h2;subst hn;have N:=cX x (by simp);obtain⟨g,I,l,rfl,g1,g4,g5,g6⟩:∃g I l,v2= .slice (Hs ⟨g,0,Hn⟩) 1 I/\w.heap[g]? = Hs (.cells ⟨l⟩ 90 (0,0))/\1<=I/\l.length=I*2/\l.take 2=ys:=by
  rcases o2.2 with ⟨_,h⟩|⟨g,cap,C,e1,_,e3,e4,_,e6,e7⟩;omega;exact⟨g,cap,C.toList,e1,e3,e4,e6,e7⟩
 obtain⟨y1,y2,xq⟩:∃y1 y2,ys= [y1,y2]:=by
  have:=o2.1;match ys,this with
  | [a,b],_=>exact⟨a,b,rfl⟩
 subst xq;have c1:l[0]? = Hs y1:=by
  have:(l.take 2)[0]? = Hs y1:=by rw[g6];rfl
  rwa[Je (by omega)]at this
 have c2:l[1]? = Hs y2:=by
  have:(l.take 2)[1]? = Hs y2:=by rw[g6];rfl
  rwa[Je (by omega)]at this
 have w1:w.cell? ⟨g,0,Hn⟩=Hs y1:=by rw[Yu g1];exact c1
 have w2:w.cell? ⟨g,1,Hn⟩=Hs y2:=by rw[Yu g1];exact c2
 have r2:∀j,j<2->RepS S M s.m.q ([y1,y2].getD j undef) (x.cells.getD j .any):=λj r=>by
  have:=rX 0 j (by omega) r;simpa using this
 have xh:xs.length=es.length*2:=o0.1;have atomx:∀j,j<2->(x.cells.getD j .any).atom=true:=λj r=>Jl.1 N.2 _ (Zc (by rw[N.1];exact r))
 have V:y1.oneCell'=true:=(r2 0 (by decide)).atom_inv (atomx 0 (by decide));have W:y2.oneCell'=true:=(r2 1 (by decide)).atom_inv (atomx 1 (by decide));have xi:∀u∈xs,u.oneCell'=true:=λu hu=>by
  obtain⟨k,J,rfl⟩:=Jf hu;have xb:k / 2<es.length:=by omega
  have hm:es.getD (k / 2) .any∈es:=Zc xb;have:=rE (k / 2) (k % 2) xb (Jv _ (by decide));rw[show k / 2*2+k % 2=k by omega,getD_lt J]at this;exact this.atom_inv (Jl.1 (cE _ hm).2 _ (Zc (by rw[(cE _ hm).1];exact Jv _ (by decide))))
 have xp:∀k',U.ownBlock=Hs k'->g≠k':=λk' xm e=>by
  obtain⟨_,_,z,A⟩:=k0 k' xm;obtain⟨_,_,O,R⟩:=kX g rfl;exact hs.injq d k _ _ hq J rfl rfl z O xl (by rw[A,R];exact e.symm)
 have K:∀p∈es.take i++x::es.drop i,p∈es\/p=x:=λp hp=>by
  rcases JF.1 hp with hp|hp;exact .inl (Jq hp);rcases Ji.1 hp with rfl|hp;exact .inr rfl;exact .inl (Jr hp)
 have t:(xs.take (i*2)++ [y1,y2]++xs.drop (i*2)).length=(es.length+1)*2:=by
  simp only[Jw,Jm,JD,List.length_cons,List.length_nil];omega
 have y:∀(w':World) (v':Value),w'.ownsRow 0 90 2 v' (es.length+1) (xs.take (i*2)++ [y1,y2]++xs.drop (i*2))->((w.grownBy w' Hn/\ ∀k,v'.ownBlock=Hs k->w.heap.size<=k)\/ ∃k,U.ownBlock=Hs k/\v'.ownBlock=Hs k/\w.grownBy w' (Hs k))->
   ∃v S' M',Ending.returned v'= .returned v/\Sim B S' M' (s.with { s.m with q:=upd (upd s.m.q d (Hs .dead)) d2 (Hs (.vec (es.length+1) 2 90)),v:=upd (upd s.m.v d Hn) d2 (Hs (es.take i++x::es.drop i)) }) a w'/\RepS S' M' (upd (upd s.m.q d (Hs .dead)) d2 (Hs (.vec (es.length+1) 2 90))) v (.vsl d2 (es.length+1) 2)/\(∀j∈(PV.vsl d2 (es.length+1) 2).ids,ZI { s.m with q:=upd (upd s.m.q d (Hs .dead)) d2 (Hs (.vec (es.length+1) 2 90)),v:=upd (upd s.m.v d Hn) d2 (Hs (es.take i++x::es.drop i)) } j)/\Ext B S S' w w':=λw' v' z A=>by
  obtain⟨M',q1,q2,q3⟩:=hs.rerow (d2:=d2) (es':=es.take i++x::es.drop i) hq h0 xk z A (by simp;omega) (λp hp=>by
   rcases K p hp with h|rfl
   ·exact cE p h
   ·exact N) (λp hp j r=>by
   rcases K p hp with h|rfl
   ·exact⟨lE p h j r,F p (by simp[h]) j r⟩
   ·exact⟨lX p (by simp) j r,F p (by simp) j r⟩) (λi' j xr r=>by
   rw[Zn0 (by omega) r,Zri hi]
   by_cases t1:i'<i
   ·rw[if_pos t1,if_pos t1];exact rE _ _ (by omega) r
   ·rw[if_neg t1,if_neg t1]
    by_cases t2:i'=i
    ·rw[if_pos t2,if_pos t2];exact r2 j r
    ·rw[if_neg t2,if_neg t2];exact rE _ _ (by omega) r)
  refine⟨v',S,M',rfl,q1,q2,λj r=> ?_,q3⟩;simp only[PV.ids,Jy]at r;subst r;show upd _ d2 _ d2≠Hn;rw[Za];simp
 by_cases xa:i=es.length
 ·subst xa;have xf:xs.take (es.length*2)=xs:=List.take_of_length_le (by omega);have xg:xs.drop (es.length*2)= []:=List.drop_of_length_le (by omega);rw[xf,xg,Jc]at y;have done:∀(w':World) (v':Value),w'.ownsRow w.heap.size 90 2 v' (es.length+1) (xs++ [y1,y2])->w.grownBy w' Hn->w'.ownsRow 0 90 2 v' (es.length+1) (xs++ [y1,y2])/\ ∀k,v'.ownBlock=Hs k->w.heap.size<=k:=λw' v' z A=>by
   refine⟨⟨z.1,?_⟩,λk J=>(z.lt k J).1⟩;rcases z.2 with h|⟨g',c',f,q1,_,q3⟩;exact .inl h;exact .inr ⟨g',c',f,q1,Jo _,q3⟩
  rcases o0.2 with ⟨D,hz⟩|⟨b,c,C,D,_,Y,h4,Z,h6,T⟩
  ·have xe:U= .slice Hn es.length 0:=by rw[D,hz]
   rw[xe];refine(TE Hn es.length 0 xs w g I y1 y2 (λ_=>⟨hz,rfl⟩) xh (λb h=>by cases h) (by omega) (by omega) L w1 w2 V W).mono ?_;rintro en w' ⟨v',rfl,z,A⟩;obtain⟨d1,d2⟩:=done w' v' z A;exact y w' v' d1 (.inl ⟨A,d2⟩)
  rw[D]at y ⊢;by_cases o:es.length+1<=c;refine(Zav b es.length c C.toList w g I y1 y2 Y h6 o Z w1 w2 V W).mono ?_;rintro en w' ⟨rfl,f,z,A,O,R⟩;refine y w' _ ⟨by rw[xf,xg,Jc]at t;exact t,.inr ⟨b,c,⟨f⟩,rfl,Jo _,z,o,Z,A,?_⟩⟩ (.inr ⟨b,rfl,rfl,R⟩);show f.take _=_;rw[O,T];refine(TE (Hs ⟨b,0,Hn⟩) es.length c xs w g I y1 y2 (λh=>by cases h) xh (λb' xj j u r=> ?_) h4 (by omega) L w1 w2 V W).mono ?_;cases xj;rw[Z7,Yu Y,Nat.zero_add];rw[<-T,List.getElem?_take]at r;split at r;exact r;cases r;rintro en w' ⟨v',rfl,z,A⟩;obtain⟨d1,d2⟩:=done w' v' z A;exact y w' v' d1 (.inl ⟨A,d2⟩)
 rcases o0.2 with ⟨D,hz⟩|⟨b,c,C,D,_,Y,h4,Z,h6,T⟩;omega;have xd:=xp b (by rw[D];rfl);rw[D]at y ⊢;have X:∀u∈C.toList.take (es.length*2),u.oneCell'=true:=by rw[T];exact xi
 by_cases o:es.length+1<=c;refine(Zff b es.length c i C.toList w g I l y1 y2 Y h6 (by omega) o Z xd g1 c1 c2 V W X).mono ?_;rintro en w' ⟨rfl,f,z,A,O,R⟩;refine y w' _ ⟨t,.inr ⟨b,c,⟨f⟩,rfl,Jo _,z,o,Z,A,?_⟩⟩ (.inr ⟨b,rfl,rfl,R⟩);show f.take _=_;rw[O,T];refine(ZhB b es.length c i C.toList w g I l y1 y2 Y h6 (by omega) h4 (by omega) L g1 c1 c2 V W X).mono ?_;rintro en w' ⟨G,rfl,p0,p5,f,z,A,O,R⟩;refine y w' _ ⟨t,.inr ⟨w.heap.size,G,⟨f⟩,rfl,Jo _,z,p0,p5,A,?_⟩⟩ (.inl ⟨R,λk J=>by cases J;exact Nat.le_refl _⟩);show f.take _=_;rw[O,T]
open Go.PL Go.RowKit
def ZqQ {α:Type} {d:α} {l:List α} {i k:Nat} (e:i<l.length):(l.take i++l.drop (i+1)).getD k d=if k<i then l.getD k d else l.getD (k+1) d:=by
 have c:(l.take i).length=i:=by rw[Jm];omega
 by_cases b:k<i;rw[if_pos b,Zf (by omega),Ja,Ja,Je b];rw[if_neg b,Zg (by omega),c,Ja,Jz,Ja];congr 2;omega
def Znk {α:Type} {d:α} {l:List α} {i k j:Nat} (e:(i+1)*2<=l.length) (f:j<2):(l.take (i*2)++l.drop ((i+1)*2)).getD (k*2+j) d=if k<i then l.getD (k*2+j) d else l.getD ((k+1)*2+j) d:=by
 have c:(l.take (i*2)).length=i*2:=by rw[Jm];omega
 by_cases b:k<i;rw[if_pos b,Zf (by omega),Ja,Ja,Je (by omega)];rw[if_neg b,Zg (by omega),c,Ja,Jz,Ja];congr 2;omega
theorem Zp6 {m:Hp} {d d2 k i:Nat} {es:List PV} (U:m.q d=Hs (.vec (k+1) 2 90)) (hv:m.v d=Hs es) (G:m.q d2=Hn) (hi:i<=k) (x:∀p∈es,∀j∈p.ids,j≠ .r d):
  CallS prog 83 [.vsl d (k+1) 2,.int .i64 i,.int .i64 ((i+1:Nat):Int)] m (.vsl d2 k 2) { m with q:=upd (upd m.q d (Hs .dead)) d2 (Hs (.vec k 2 90)),v:=upd (upd m.v d Hn) d2 (Hs (es.take i++es.drop (i+1))) }:=by
 refine⟨⟨_,func83,by decide,rfl⟩,λB S M s a w vs A V z l J=> ?_⟩;subst A;obtain⟨D,L,N,rfl⟩:∃D L N,vs= [D,L,N]:=by
  match vs,z with
  | [a,b,c],_=>exact⟨a,b,c,rfl⟩
 have O:RepS S M s.m.q D (.vsl d (k+1) 2):=l 0 (by simp);have h1:RepS S M s.m.q L (.int .i64 i):=l 1 (by simp);have h2:RepS S M s.m.q N (.int .i64 ((i+1:Nat):Int)):=l 2 (by simp);obtain rfl:=h1.int_inv;obtain rfl:=h2.int_inv;obtain⟨xs,W,hn,F,lE,K,k0⟩:=V.vec_ownsR U hv O;have xb:xs.length=(k+1)*2:=W.1;have E:∀u∈xs,u.oneCell'=true:=λu hu=>by
  obtain⟨t,ht,rfl⟩:=Jf hu;have I:t / 2<k+1:=by omega
  have A:es.getD (t / 2) .any∈es:=Zc (by omega);have:=K (t / 2) (t % 2) I (Jv _ (by decide));rw[show t / 2*2+t % 2=t by omega,getD_lt ht]at this;exact this.atom_inv (Jl.1 (F _ A).2 _ (Zc (by rw[(F _ A).1];exact Jv _ (by decide))))
 obtain⟨b,c,e,rfl,h3,h4,R,h6,T⟩:∃b c e,D= .slice (Hs ⟨b,0,Hn⟩) (k+1) c/\w.heap[b]? = Hs (.cells ⟨e⟩ 90 (0,0))/\k+1<=c/\c<=maxLen/\e.length=c*2/\e.take ((k+1)*2)=xs:=by
  rcases W.2 with ⟨_,h⟩|⟨g,cap,e,Z,_,e3,e4,e5,e6,e7⟩;omega;exact⟨g,cap,e.toList,Z,e3,e4,e5,e6,e7⟩
 refine(ZkI b k c i e w h3 h6 hi h4 R (by rw[T];exact E)).mono ?_;rintro en w' ⟨rfl,y,p1,p2,X,p4⟩;rw[T]at X;have r:(xs.take (i*2)++xs.drop ((i+1)*2)).length=k*2:=by
  simp only[Jw,Jm,JD];omega
 have f:∀p∈es.take i++es.drop (i+1),p∈es:=λp hp=>by
  rcases JF.1 hp with hp|hp;exact Jq hp;exact Jr hp
 obtain⟨Y,q1,q2,q3⟩:=V.rerow (w':=w') (d2:=d2) (n':=k) (es':=es.take i++es.drop (i+1)) (v':= .slice (Hs ⟨b,0,Hn⟩) k c) (xs':=xs.take (i*2)++xs.drop ((i+1)*2)) U O G
  ⟨r,.inr ⟨b,c,⟨y⟩,rfl,Jo _,p1,by omega,R,p2,X⟩⟩ (.inr ⟨b,rfl,rfl,p4⟩) (by simp;omega) (λp hp=>F p (f p hp)) (λp hp j o=>⟨lE p (f p hp) j o,x p (f p hp) j o⟩) (λi' j xa o=>by
   rw[Znk (by omega) o,ZqQ (by omega)]
   by_cases C:i'<i
   ·rw[if_pos C,if_pos C];exact K _ _ (by omega) o
   ·rw[if_neg C,if_neg C];exact K _ _ (by omega) o)
 refine⟨_,S,Y,rfl,q1,q2,λj o=> ?_,q3⟩;simp only[PV.ids,Jy]at o;subst o;show upd _ d2 _ d2≠Hn;rw[Za];simp
open Go.PL
open Go.ChangeShapes Go.WideShapes Go.ChangeAt Go.RowKit
theorem own:ownKnob prog.godebug=Option.none:=by kernel_rfl
theorem laidOut:laidOutB prog=true:=by kernel_rfl
theorem lays:Zdf prog=true:=by kernel_rfl
theorem ZtR:Ze6 prog 62=false:=by kernel_rfl
theorem ZvL:Ze6 prog 70=false:=by kernel_rfl
theorem ZvJ:Ze6 prog 22=false:=by kernel_rfl
structure LenLn' (x:Ln):Prop where
 c:x.fd.cases'.length<=maxLen
 f:x.fo.length<=maxLen
 b:x.ba.length<=maxLen
def Zt4 {cs:List PV} (h:PT prog 62 cs):∃l:List Str,cs= [.sl .no (l.map .str)]/\l.length<=maxLen:=by
 obtain⟨l,rfl,b,c⟩:=h.slice_inv ZtR underlying62;obtain⟨xs,rfl,_⟩:=Sq (enc:=PV.str) (Q:=λ_=>True) (λp hp=>by
  obtain⟨s,rfl,_⟩:=(c p hp).string underlying9;exact⟨s,rfl,trivial⟩)
 exact⟨xs,rfl,by simpa using b⟩
def ZgH {cs:List PV} (h:PT prog 25 cs):∃r:Tg,cs= [.int .i64 r.r,.int .i64 r.n]:=by
 have e:PTs prog [3,3] cs:=h.struct_inv underlying25;obtain⟨a,b,rfl,f,g⟩:=e.cons_inv;obtain⟨c,d,rfl,i,j⟩:=g.cons_inv;obtain⟨x,rfl,_⟩:=f.int_inv underlying3;obtain⟨y,rfl,_⟩:=i.int_inv underlying3;rw[j.nil_inv];exact⟨⟨x,y⟩,rfl⟩
def ZoQ {cs:List PV} (h:PT prog 56 cs):∃r:Rf,cs= [.int .i64 r.sc,.str r.gr,.str r.nm]:=by
 have g:PTs prog [3,9,9] cs:=h.struct_inv underlying56;obtain⟨a,b,rfl,i,j⟩:=g.cons_inv;obtain⟨c,d,rfl,k,l⟩:=j.cons_inv;obtain⟨e,f,rfl,m,o⟩:=l.cons_inv;obtain⟨x,rfl,_⟩:=i.int_inv underlying3;obtain⟨y,rfl,_⟩:=k.string_inv underlying9;obtain⟨z,rfl,_⟩:=m.string_inv underlying9;rw[o.nil_inv];exact⟨⟨x,y,z⟩,rfl⟩
def ZvU {cs:List PV} (h:PT prog 69 cs):∃f:Fd,cs= [.int .i64 f.at'.sc,.str f.at'.gr,.str f.at'.nm,.int .i64 f.kind,.str f.df,.sl .no (f.cases'.map .str),.int .i64 f.worth]/\f.cases'.length<=maxLen:=by
 have d:PTs prog [56,3,9,62,2] cs:=h.struct_inv underlying69;obtain⟨s,B,rfl,e,g⟩:=d.cons_inv;obtain⟨t,C,rfl,i,j⟩:=g.cons_inv;obtain⟨u,D,rfl,k,m⟩:=j.cons_inv;obtain⟨v,E,rfl,o,p⟩:=m.cons_inv;obtain⟨A,F,rfl,b,c⟩:=p.cons_inv;obtain⟨r,rfl⟩:=ZoQ e;obtain⟨x,rfl,_⟩:=i.int_inv underlying3;obtain⟨y,rfl,_⟩:=k.string_inv underlying9;obtain⟨l,rfl,q⟩:=Zt4 o;obtain⟨z,rfl,_⟩:=b.int_inv underlying2;rw[c.nil_inv];exact⟨⟨r,x,y,l,z⟩,rfl,q⟩
def Zt0 {p:PV} (h:PA prog 162 p):∃e:Pr,p=pr e:=by
 obtain⟨cs,rfl,f⟩:=PA.agg Zse h;have f:PTs prog [9,9] cs:=f.struct_inv underlying162;obtain⟨a,b,rfl,g,i⟩:=f.cons_inv;obtain⟨c,d,rfl,j,k⟩:=i.cons_inv;obtain⟨x,rfl,_⟩:=g.string_inv underlying9;obtain⟨y,rfl,_⟩:=j.string_inv underlying9;rw[k.nil_inv];exact⟨⟨x,y⟩,rfl⟩
def Zs0 {cs:List PV} (h:PT prog 70 cs):∃l:List Pr,cs= [.sl .no (l.map pr)]/\l.length<=maxLen:=by
 obtain⟨l,rfl,b,c⟩:=h.slice_inv ZvL underlying70;obtain⟨xs,rfl,_⟩:=Sq (enc:=pr) (Q:=λ_=>True) (λp hp=>by
  obtain⟨s,rfl⟩:=Zt0 (c p hp);exact⟨s,rfl,trivial⟩)
 exact⟨xs,rfl,by simpa using b⟩
def Zrv (x:Ln):List PV:= [.int .i64 x.kind,.int .i64 x.at'.sc,.str x.at'.gr,.str x.at'.nm,.str x.nm,.str x.ot,.int .i64 x.fac,.int .i64 x.fd.at'.sc,.str x.fd.at'.gr,.str x.fd.at'.nm,.int .i64 x.fd.kind,.str x.fd.df,.sl .no (x.fd.cases'.map .str),.int .i64 x.fd.worth,.sl .no (x.fo.map pr),.sl .no (x.ba.map pr)]
def Zt3 {cs:List PV} (h:PT prog 72 cs):∃x:Ln,cs=Zrv x/\LenLn' x:=by
 have k:PTs prog [3,56,9,9,2,69,70,70] cs:=h.struct_inv underlying72;obtain⟨I,S,rfl,l,m⟩:=k.cons_inv;obtain⟨J,T,rfl,o,p⟩:=m.cons_inv;obtain⟨K,U,rfl,q,r⟩:=p.cons_inv;obtain⟨L,V,rfl,s,t⟩:=r.cons_inv;obtain⟨M,W,rfl,b,c⟩:=t.cons_inv;obtain⟨N,X,rfl,d,e⟩:=c.cons_inv;obtain⟨O,Y,rfl,f,g⟩:=e.cons_inv;obtain⟨R,Z,rfl,i,j⟩:=g.cons_inv;obtain⟨z,rfl,_⟩:=l.int_inv underlying3;obtain⟨A,rfl⟩:=ZoQ o;obtain⟨B,rfl,_⟩:=q.string_inv underlying9;obtain⟨C,rfl,_⟩:=s.string_inv underlying9;obtain⟨D,rfl,_⟩:=b.int_inv underlying2;obtain⟨E,rfl,u⟩:=ZvU d;obtain⟨F,rfl,v⟩:=Zs0 f;obtain⟨G,rfl,y⟩:=Zs0 i;rw[j.nil_inv];exact⟨⟨z,A,B,C,D,E,F,G⟩,rfl,⟨u,v,y⟩⟩
def ZtZ {p:PV} (h:PA prog 74 p):∃e:Eg,p=eg e/\LenLn' e.ln:=by
 obtain⟨cs,rfl,b⟩:=PA.agg Zui h;have b:PTs prog [25,25,72] cs:=b.struct_inv underlying74;obtain⟨q,t,rfl,c,d⟩:=b.cons_inv;obtain⟨r,u,rfl,f,g⟩:=d.cons_inv;obtain⟨s,v,rfl,i,j⟩:=g.cons_inv;obtain⟨l,rfl⟩:=ZgH c;obtain⟨m,rfl⟩:=ZgH f;obtain⟨o,rfl,k⟩:=Zt3 i;rw[j.nil_inv];exact⟨⟨l,m,o⟩,rfl,k⟩
def ZrJ {p:PV} (h:PA prog 22 p):∃l:List Eg,p=egs l/\l.length<=maxLen/\ ∀e∈l,LenLn' e.ln:=by
 obtain⟨l,rfl,b,c⟩:=h.slice ZvJ underlying22;obtain⟨xs,rfl,d⟩:=Sq (λp hp=>ZtZ (c p hp));exact⟨xs,rfl,by simpa using b,d⟩
def ZsZ {p:PV} (h:PA prog 25 p):∃t:Tg,p=tg t:=by
 obtain⟨cs,rfl,b⟩:=PA.agg Zug h;obtain⟨r,rfl⟩:=ZgH b;exact⟨r,rfl⟩
open Go.PL
open Go.ChangeShapes Go.WideShapes Go.ChangeAt Go.RowKit
end Go.Proofs.YtcmpkokndngplaaGreat
