/- Lemmas. -/
import Derived.Test.YtcmpkokndngplaaGreatXAs
set_option linter.defProp false
open Inhabited renaming default→Jd
open Bool renaming false→Hf
open Go.Proofs.Tryz
open Bool renaming eq_iff_iff→Jb,or_eq_true→Je,or_eq_false_iff→Jf,false_or→Jg,true_eq_false→Jh,and_eq_true→Jk
open Decidable renaming byContradiction→Jm
open Int renaming natCast_nonneg→Jc
open List renaming drop_length→Ji,mem_cons→Jn
open Nat renaming zero_le→Ja,not_lt_zero→Jl
open Option renaming bind_some→Jj
namespace Go.Proofs.YtcmpkokndngplaaGreat
set_option maxHeartbeats 64000000
set_option maxRecDepth 20000
set_option linter.unusedVariables false
set_option linter.unusedSimpArgs false
open Go.PL
def WM (l:List Fd) (x:Ln):List Fd×Bool:=
 if x.kind=2 then([x.fd],true)
 else if x.kind=3 then([],decide ((Zp l x.fd.at').2=0)&&decide ((Zp l x.fd.at').1=x.fd))
 else if x.kind=9 then Uu l x
 else if(Zp l x.at').2≠0 then([],Hf)
 else if x.kind=6 then([⟨Zy x.at' x.nm,1,[],[],(Zp l x.at').1.worth⟩,⟨Zy x.at' x.ot,1,[],[],IntKind.i64.wrap ((Zp l x.at').1.worth*x.fac)⟩],decide ((Zp l x.at').1.kind=1))
 else if x.kind=7 then([⟨x.at',4,[],[],0⟩],decide ((Zp l x.at').1.kind=2)&&decide ((Zp l x.at').1.df=x.ot))
 else if x.kind=10 then([⟨x.at',2,x.ot,[],0⟩],decide ((Zp l x.at').1.kind=4))
 else if x.kind=8 then([⟨x.at',3,x.ot,X4 x.ba,0⟩],decide ((Zp l x.at').1=⟨x.at',3,x.nm,X4 x.fo,0⟩))
 else([⟨(Zi x).getD 0 Jd,(Zp l x.at').1.kind,(Zp l x.at').1.df,(Zp l x.at').1.cases',(Zp l x.at').1.worth⟩],true)
def Zc9 (l:List Pr):(X4 l).length=l.length:=by simp[X4]
def Zea (l:List Fd) (x:Ln) (i:OkFs l) (e:OkLn x) (J:Zx x=true):Pp 137 [Zt l,lns x] (SX (WM l x)):=by
 have Q:=i.n;have s:=Wb x.fd e.c;have okA:=Zj3 i x.at';have okF:=Zj3 i x.fd.at';have r:=WK l x.fd.at' (by omega) i.c;have g:=WK l x.at' (by omega) i.c;have w:=DK (Zp l x.fd.at').1 x.fd (by rw[Zd];omega) (by have:=e.c;rw[Zd];omega);have z:=DK (Zp l x.at').1 ⟨x.at',3,x.nm,X4 x.fo,0⟩ (by rw[Zd];omega) (by have:=e.f;simp only[Zc9];rw[Zd];omega);have u:=Zda x.fo e.f;have v:=Zda x.ba e.b;have d:=ZcA x e;have M:ZcT x=Zi x:=by simp[ZcT,J]
 rw[M]at d;unfold WM;by_cases o:x.kind=9;have L:=Zip l x i e J o;rw[if_neg (by omega),if_neg (by omega),if_pos o];generalize Uu l x=y at *;obtain⟨y,b⟩:=y;have f:(x.kind==2)=false:=by rw[o];rfl
 have k:(x.kind==3)=false:=by rw[o];rfl
 have n:(x.kind==9)=true:=by rw[o];rfl
 refine ZS func137 rfl ntmps137 results137 (Xg _) ?_;simp only[go_sem,Zt,lns,f,k,n];refine vc3 L ?_;simp only[go_sem,SX,Zt];have n:(x.kind==9)=false:=beq_eq_false_iff_ne.2 o;rw[if_neg o];generalize Zp l x.fd.at'=a at *;generalize Zp l x.at'=b at *;obtain⟨a,P⟩:=a;obtain⟨b,K⟩:=b;simp only at *;by_cases B:x.kind=2;have f:(x.kind==2)=true:=by rw[B];rfl
 rw[if_pos B];refine ZS func137 rfl ntmps137 results137 (Xg _) ?_;simp only[go_sem,Zt,lns,f];refine vc2 s ?_;simp only[go_sem,SX,Zt,fld];have f:(x.kind==2)=false:=beq_eq_false_iff_ne.2 B;rw[if_neg B];by_cases C:x.kind=3
 ·have k:(x.kind==3)=true:=by rw[C];rfl
  rw[if_pos C];refine ZS func137 rfl ntmps137 results137 (Xg _) ?_;simp only[go_sem,Zt,lns,f,k];refine vc2 r ?_;simp only[go_sem,Za2,fld];repeat' ((first|(first|apply Zw|apply Zv|apply ZK)<;>intro h|refine vc2 w ?_|refine vDq ?_)<;>first|simp only[go_sem,h,Za2,fld,Zt]|simp only[go_sem,Za2,fld,Zt]|skip)
  all_goals (clear s r g w z u v d i e okA okF;simp_all[SX,Zt,fld])
 have k:(x.kind==3)=false:=beq_eq_false_iff_ne.2 C;rw[if_neg C];by_cases G:K=0;subst G;simp only[ne_eq,not_true_eq_false,if_false];by_cases t:x.kind=6
 ·have q:(x.kind==6)=true:=by rw[t];rfl
  have p:Zi x= [Zy x.at' x.nm,Zy x.at' x.ot]:=by simp[Zi,t]
  rw[p]at d;rw[if_pos t];refine ZS func137 rfl ntmps137 results137 (Xg _) ?_;simp only[go_sem,Zt,lns,f,k,n];refine vc2 g ?_;simp only[go_sem,Za2,fld];refine vc3 d ?_;simp only[go_sem,refs,ref,q];repeat' ((first|(first|apply Zw|apply Zv|apply ZK)<;>intro h|refine vDq ?_)<;>first|simp only[go_sem,h,refs,ref,fld]|simp only[go_sem,refs,ref,fld]|skip)
  all_goals (clear s r g w z u v d i e okA okF;simp_all[SX,Zt,fld]<;>(first|rfl|(rw[Jb];simp)))
 have q:(x.kind==6)=false:=beq_eq_false_iff_ne.2 t;rw[if_neg t];by_cases D:x.kind=7
 ·have A:(x.kind==7)=true:=by rw[D];rfl
  rw[if_pos D];refine ZS func137 rfl ntmps137 results137 (Xg _) ?_;simp only[go_sem,Zt,lns,f,k,n];refine vc2 g ?_;simp only[go_sem,Za2,fld];refine vc3 d ?_;simp only[go_sem,refs,q,A];repeat' ((first|(first|apply Zw|apply Zv|apply ZK)<;>intro h|refine vDq ?_)<;>first|simp only[go_sem,h]|simp only[go_sem]|skip)
  all_goals (clear s r g w z u v d i e okA okF;simp_all[SX,Zt,fld]<;>(first|rfl|(rw[Jb];simp)))
 have A:(x.kind==7)=false:=beq_eq_false_iff_ne.2 D;rw[if_neg D];by_cases j:x.kind=10
 ·have m:(x.kind==10)=true:=by rw[j];rfl
  rw[if_pos j];refine ZS func137 rfl ntmps137 results137 (Xg _) ?_;simp only[go_sem,Zt,lns,f,k,n];refine vc2 g ?_;simp only[go_sem,Za2,fld];refine vc3 d ?_;simp only[go_sem,refs,q,A,m];repeat' ((first|(first|apply Zw|apply Zv|apply ZK)<;>intro h|refine vDq ?_)<;>first|simp only[go_sem,h]|simp only[go_sem]|skip)
  all_goals (clear s r g w z u v d i e okA okF;simp_all[SX,Zt,fld]<;>(first|rfl|(rw[Jb];simp)))
 have m:(x.kind==10)=false:=beq_eq_false_iff_ne.2 j;rw[if_neg j];by_cases E:x.kind=8
 ·have F:(x.kind==8)=true:=by rw[E];rfl
  rw[if_pos E];refine ZS func137 rfl ntmps137 results137 (Xg _) ?_;simp only[go_sem,Zt,lns,f,k,n];refine vc2 g ?_;simp only[go_sem,Za2,fld];refine vc3 d ?_;simp only[go_sem,refs,q,A,m,F];repeat' ((first|(first|apply Zw|apply Zv|apply ZK)<;>intro h|refine vc3 u ?_|refine vc3 v ?_|refine vc3 z ?_|refine vDq ?_)<;>first|simp only[go_sem,h,Y5,fld]|simp only[go_sem,Y5,fld]|skip)
  all_goals (clear s r g w z u v d i e okA okF;simp_all[SX,Zt,fld])
 have F:(x.kind==8)=false:=beq_eq_false_iff_ne.2 E;rw[if_neg E];have N:x.kind=1\/x.kind=4\/x.kind=5:=by
  refine Jm λO=> ?_
  simp[Zx,B,C,t,D,E,o,j,show ¬x.kind=1 by omega,show ¬x.kind=4 by omega,show ¬x.kind=5 by omega]at J
 obtain⟨c,p⟩:∃c,Zi x= [c]:=by
  rcases N with h|h|h<;>simp[Zi,h]
 rw[p]at d ⊢;refine ZS func137 rfl ntmps137 results137 (Xg _) ?_;simp only[go_sem,Zt,lns,f,k,n];refine vc2 g ?_;simp only[go_sem,Za2,fld];refine vc3 d ?_;simp only[go_sem,refs,ref,q,A,m,F,SX,Zt,fld];have I:(K !=0)=true:=bne_iff_ne.2 G;rw[if_pos G];refine ZS func137 rfl ntmps137 results137 (Xg _) ?_;simp only[go_sem,Zt,lns,f,k,n];refine vc2 g ?_;simp only[go_sem,Za2,fld,I,SX,Zt]
open Go.PL
def G5:List Rf->List Fd->Option (List Fd)
 | [],l=>some l
 |r::rs,l=>if(Xn l r).2≠0 then none else G5 rs (Xn l r).1
def We:List Fd->List Fd->Option (List Fd)
 | [],l=>some l
 |f::fs,l=>if(DH l f).2≠0 then none else We fs (DH l f).1
def ZcR (l:List Fd) (x:Ln):Option (List Fd):=if(WM l x).2=Hf then none else(G5 (ZN x) l).bind (We (WM l x).1)
def ZW (l:List Fd) (x:Ln):List Fd×Int:=
 if ZP l=Hf\/Zx x=Hf then([],5)else match ZcR l x with|none=>([],16)|some m=>(m,0)
def ZgA {l:List Fd} (h:OkFs l) (r:Rf):OkFs (Xn l r).1:=by
 unfold Xn;split;exact⟨Ja _,λf a=>by cases a⟩;split;exact⟨Ja _,λf a=>by cases a⟩;exact⟨Nat.le_trans (List.length_eraseIdx_le _ _) h.n,λf a=>h.c f (List.mem_of_mem_eraseIdx a)⟩
def ZtQ {l:List Fd} {f x:Fd} (h:x∈Zgc l f):x∈l\/x=f:=by
 unfold Zgc at h;rcases List.mem_append.1 h with h|h;exact .inl (List.takeWhile_subset _ h);rcases Jn.1 h with h|h;exact .inr h;exact .inl (List.dropWhile_subset _ h)
def ZsX {l:List Fd} (h:OkFs l) {f:Fd} (a:f.cases'.length<=1000000):OkFs (DH l f).1:=by
 unfold DH;split;exact⟨Ja _,λf a=>by cases a⟩;split;exact⟨Ja _,λf a=>by cases a⟩;split;exact⟨Ja _,λf a=>by cases a⟩;refine⟨by simp only[Zeu];omega,λg c=> ?_⟩;rcases ZtQ c with b|b;exact h.c g b;rw[b];exact a
def ZvN {l:List Fd} {x:Ln} (h:OkFs l) (d:OkLn x):OkFs (WM l x).1:=by
 have b:∀f:Fd,f.cases'.length<=1000000->OkFs [f]:=λf a=>⟨by simp,λg e=>by rw[List.mem_singleton.1 e];exact a⟩
 have c:OkFs []:=⟨Ja _,λf a=>by cases a⟩;unfold WM;split;exact b _ d.c;split;exact c;split;unfold Uu;split;exact c;split;exact c;exact b _ (Ja _);split;exact c;split;refine⟨by simp,λf a=> ?_⟩;simp only[Jn,List.not_mem_nil,or_false]at a;rcases a with rfl|rfl<;>exact Ja _
 split;exact b _ (Ja _);split;exact b _ (Ja _);split;exact b _ (by simp only[Zc9];exact d.b);exact b _ (Zj3 h _)
def ZkC (l:List Fd) (x:Ln) (r:OkFs l) (z:OkLn x):Pp 95 [Zt l,lns x] (YX (ZW l x)):=by
 have S:=r.n;have q:=U6 l (by rw[Zd];omega) (λf N=>by have:=r.c f N;rw[Zd];omega);have s:=WI x z;unfold ZW;cases v:ZP l;rw[v]at q;refine ZS func95 rfl ntmps95 results95 (Yr _) ?_;simp only[go_sem,Zt,lns];refine vc2 q ?_;simp only[go_sem,if_true,YX,Zt];rw[v]at q;cases i:Zx x;rw[i]at s;refine ZS func95 rfl ntmps95 results95 (Yr _) ?_;simp only[go_sem,Zt,lns];refine vc2 q ?_;simp only[go_sem];refine vc3 s ?_;simp only[go_sem,if_true,YX,Zt];rw[i]at s;simp only[Jh,or_self,if_false];have F:=Zea l x r z i;have okA:=ZvN r z;unfold ZcR;generalize WM l x=y at *;obtain⟨come,ok⟩:=y;simp only at okA ⊢;cases ok;simp only[if_true];refine ZS func95 rfl ntmps95 results95 (Yr _) ?_;simp only[go_sem,Zt,lns];refine vc2 q ?_;simp only[go_sem];refine vc3 s ?_;simp only[go_sem];refine vc3 F ?_;simp only[go_sem,SX,YX,Zt];simp only[Jh,if_false];have M:=Zfp l (by omega) r.c;have I:=Zau x z;have O:Zf9 x=ZN x:=by simp[Zf9,i]
 rw[O]at I;have D:(ZN x).length<=maxLen:=by
  have:(ZN x).length<=2:=by
   unfold ZN;split;simp;split;simp;split<;>simp
  rw[Zd];omega
 generalize ZN x=goes at *;generalize A:G5 goes l=G;refine ZS func95 rfl ntmps95 results95 (Yr _) ?_;simp only[go_sem,Zt,lns];refine vc2 q ?_;simp only[go_sem];refine vc3 s ?_;simp only[go_sem];refine vc3 F ?_;simp only[go_sem,SX,Zt];refine vc2 M ?_;simp only[go_sem,Zt,lns];refine vc3 I ?_;simp only[go_sem,refs];refine ZA (ι:= { x:Nat×(List Fd) // x.1<=(goes).length/\(OkFs x.2/\G5 (goes.drop x.1) x.2=G) }) 64 (λx=> [(6,Zt come),(8,Zt x.1.2),(33,refs goes),(34,.int .i64 (goes.length:Int)),(35,.int .i64 (x.1.1:Int))]) (λx=> []) (λx=> []) (λx=>(goes).length-x.1.1) ⟨(0,l),Ja _,⟨r,A⟩⟩ ⟨rfl,(Fc5 rfl rfl rfl rfl rfl),fnl,fnl⟩ (λx=>⟨(Fc5 rfl rfl rfl rfl rfl),fnl⟩) (λx=> ?_);obtain⟨⟨k,m⟩,P,e⟩:=x;simp only at P e ⊢;obtain⟨okO,e⟩:=e;have Q:=okO.n;by_cases h:(k:Int)<(goes.length:Int)
 (have g:k<(goes).length:=by omega);(have R:=Wa g (D));(have K:=Jc k)
 have t:=Zfr m (goes.getD k Jd) (by omega) okO.c;have okW:=ZgA okO (goes.getD k Jd);rw[UH g (d:=Jd),G5]at e;generalize Xn m (goes.getD k Jd)=w at *;obtain⟨w,c⟩:=w;simp only at e okW;by_cases n:c=0
 ·subst n;simp only[ne_eq,not_true_eq_false,if_false]at e;simp only[go_sem,refs,h,K,XV g,ref];refine vc2 t ?_;simp only[go_sem,YX,Zt,R];exact⟨⟨(k+1,w),by(try simp only);omega,⟨okW,e⟩⟩,by show(goes).length-(k+1)<(goes).length-k;omega,⟨rfl,(Fc5 rfl rfl rfl rfl rfl),fnl,fnl⟩⟩
 have o:(c !=0)=true:=bne_iff_ne.2 n;simp only[ne_eq,n,not_false_eq_true,if_true]at e;subst e;simp only[go_sem,refs,h,K,XV g,ref];refine vc2 t ?_;simp only[go_sem,YX,Zt,o,Option.bind_none];obtain rfl:k=goes.length:=by omega
 rw[Ji,G5]at e;subst e;have C:come.length<=maxLen:=by have:=okA.n;rw[Zd];omega
 simp only[go_sem,h,Zt];refine ZA (ι:= { x:Nat×(List Fd) // x.1<=(come).length/\(OkFs x.2/\We (come.drop x.1) x.2=We come m) }) 64 (λx=> [(8,Zt x.1.2),(48,Zt come),(49,.int .i64 (come.length:Int)),(50,.int .i64 (x.1.1:Int))]) (λx=> []) (λx=> []) (λx=>(come).length-x.1.1) ⟨(0,m),Ja _,⟨okO,rfl⟩⟩ ⟨rfl,(Fc4 rfl rfl rfl rfl),fnl,fnl⟩ (λx=>⟨(Fc4 rfl rfl rfl rfl),fnl⟩) (λx=> ?_);obtain⟨⟨j,L⟩,E,a⟩:=x;simp only at E a ⊢;obtain⟨p,a⟩:=a;have J:=p.n;by_cases B:(j:Int)<(come.length:Int)
 (have b:j<(come).length:=by omega);(have w1b:=Wa b (C));(have i1b:=Jc j)
 have u:=okA.c _ (Zh b (d:=Jd));have t:=ZmO L (come.getD j Jd) (by omega) p.c u;have okW:=ZsX p u;rw[UH b (d:=Jd),We]at a;generalize DH L (come.getD j Jd)=w at *;obtain⟨w,c⟩:=w;simp only at a okW;by_cases n:c=0
 ·subst n;simp only[ne_eq,not_true_eq_false,if_false]at a;simp only[go_sem,Zt,B,i1b,ZY b,fld];refine vc2 t ?_;simp only[go_sem,YX,Zt,w1b];exact⟨⟨(j+1,w),by(try simp only);omega,⟨okW,a⟩⟩,by show(come).length-(j+1)<(come).length-j;omega,⟨rfl,(Fc4 rfl rfl rfl rfl),fnl,fnl⟩⟩
 have o:(c !=0)=true:=bne_iff_ne.2 n;simp only[ne_eq,n,not_false_eq_true,if_true]at a;simp only[go_sem,Zt,B,i1b,ZY b,fld];refine vc2 t ?_;simp only[go_sem,YX,Zt,o,<-a,Jj];obtain rfl:j=come.length:=by omega
 rw[Ji,We]at a;simp only[go_sem,Zt,B,<-a,YX,Jj]
open Go.PL
def ZvZ (a b:List Pr) (p:Pr):Bool:=(Xc a p.fr').2&&((Xc b (Xc a p.fr').1).2&&((Xc b (Xc a p.fr').1).1==p.fr'))
def Zs5 (a b:List Pr):Bool:=a.all (ZvZ a b)
def Zym (x:Ln) (r:Rf):Bool:=
 if Zx x=Hf then Hf else if idx (λa=>decide (r=a)) (ZN x)<0 then true
 else if x.kind=1\/x.kind=4\/x.kind=5\/x.kind=6\/x.kind=7\/x.kind=10 then true
 else if x.kind=9 then idx (λa=>decide (r=a)) (ZN x)==0
 else if x.kind=8 then Zs5 x.fo x.ba else Hf
def ZnP (x:Ln):(ZN x).length<=2:=by
 unfold ZN;split;simp;split;simp;split<;>simp
def Zk8 (x:Ln):(Zi x).length<=2:=by
 unfold Zi;repeat' split
 all_goals simp
def Zkn (x:Ln) (r:Rf):Rf×Bool:=
 if Zx x=Hf then(Jd,Hf)else if((ZN x).any λa=>decide (r=a))=Hf then(r,true)
 else if(Zi x).length=0 then(Jd,Hf)else((Zi x).getD 0 Jd,true)
def Zpi (x:Ln) (r:Rf):Bool:=
 if Zx x=Hf then Hf else if((Zi x).any λa=>decide (r=a))=Hf then true
 else if x.kind=1\/x.kind=4\/x.kind=5\/x.kind=9\/x.kind=10 then true else if x.kind=8 then Zs5 x.ba x.fo else Hf
def FV (x:Ln):Ln:=
 if x.kind=1 then⟨1,⟨x.at'.sc,x.at'.gr,x.nm⟩,x.at'.nm,x.ot,x.fac,x.fd,x.fo,x.ba⟩
 else if x.kind=2 then⟨3,x.at',x.nm,x.ot,x.fac,x.fd,x.fo,x.ba⟩
 else if x.kind=3 then⟨2,x.at',x.nm,x.ot,x.fac,x.fd,x.fo,x.ba⟩
 else if x.kind=4 then⟨5,⟨x.at'.sc,[],x.at'.nm⟩,x.at'.gr,x.ot,x.fac,x.fd,x.fo,x.ba⟩
 else if x.kind=5 then⟨4,⟨x.at'.sc,x.nm,x.at'.nm⟩,[],x.ot,x.fac,x.fd,x.fo,x.ba⟩
 else if x.kind=6 then⟨9,x.at',x.nm,x.ot,x.fac,x.fd,x.fo,x.ba⟩
 else if x.kind=9 then⟨6,x.at',x.nm,x.ot,x.fac,x.fd,x.fo,x.ba⟩
 else if x.kind=7 then⟨10,x.at',x.nm,x.ot,x.fac,x.fd,x.fo,x.ba⟩
 else if x.kind=10 then⟨7,x.at',x.nm,x.ot,x.fac,x.fd,x.fo,x.ba⟩
 else if x.kind=8 then⟨8,x.at',x.ot,x.nm,x.fac,x.fd,x.ba,x.fo⟩else x
def lnc (x:Ln×Int):PV:= .tup [lns x.1,.int .i64 x.2]
def Di (x:Ln×Int):(lnc x).dids= []:=by simp only[lnc,PV.dids,PV.didsL,Zae,List.append_nil]
def Zxs (x:Ln):Ln×Int:=if Zx x=Hf then(Jd,5)else(FV x,0)
def Zfg (x:Ln) (c:OkLn x):Pp 191 [lns x] (lnc (Zxs x)):=by
 have a:=WI x c;have d:=Zaw x c;unfold Zxs;cases b:Zx x;rw[b]at a;refine ZS func191 rfl ntmps191 results191 (Di _) ?_;simp only[go_sem,lns];refine vc3 a ?_;simp only[go_sem,if_true,lnc,Zbh];rw[b]at a;refine ZS func191 rfl ntmps191 results191 (Di _) ?_;simp only[go_sem,lns];refine vc3 a ?_;simp only[go_sem,lns];refine vc3 d ?_;simp only[go_sem,lns];repeat' ((first|(first|apply Zw|apply Zv|apply ZK)<;>intro h|refine Zks [(1,4)] (by kernel_rfl) (by kernel_rfl) (by exact rfl) ?_|refine vDq ?_)<;>first|simp only[go_sem,h]|simp only[go_sem]|skip)
 all_goals (simp only[beq_iff_eq,beq_eq_false_iff_ne,ne_eq]at *;clear a d c;simp[FV,lnc,lns, *])
def Yn (l:List Rf) (r:Rf):Int:=idx (λa=>decide (r=a)) l
def ZgG (l:List Rf) (r:Rf):Yn l r= -1\/ ∃g:Nat,g<l.length/\Yn l r=(g:Int):=Yx _ _
open Go.PL
def Gl (e:Eg):Bool:=ZdN e.id&&((decide (e.par=Jd)||(ZdN e.par&& !decide (e.par=e.id)))&&(decide (1<=e.ln.kind)&&(decide (e.ln.kind<=8)&&Zx e.ln)))
def FJ {t:Tg} (h:ZdN t=true):t≠Jd:=λe=>by subst e;exact absurd h (by decide)
def ZiG {x:Ln} (h:Zx x=true):1<=x.kind:=by
 unfold Zx at h;split at h;rename_i a;omega;split at h;omega;split at h;omega;split at h;omega;split at h;omega;split at h;omega;simp only[Jk,decide_eq_true_eq]at h;omega
def Zl8 (e:Eg) (j:OkLn e.ln):Pp 50 [eg e] (.bool (Gl e)):=by
 have d:=GQ e.id;have i:=GQ e.par;have g:=WI e.ln j;unfold Gl;cases f:ZdN e.id;rw[f]at d;refine ZM func50 rfl ntmps50 results50 ?_;simp only[go_sem,eg];refine vc3 d ?_;simp only[go_sem,Bool.false_and];rw[f]at d;generalize b:decide (e.par=Jd)=dp at *;generalize a:decide (e.par=e.id)=de at *;generalize ZdN e.par=tp at *;generalize Zx e.ln=rl at *;have c:(e.par.r==0&&e.par.n==0)=dp:=by rw[<-b];exact Z6 e.par Jd
 refine ZM func50 rfl ntmps50 results50 ?_;simp only[go_sem,eg];refine vc3 d ?_;simp only[go_sem];cases dp<;>cases tp<;>cases de
 all_goals
  refine vDq ?_;simp only[go_sem];refine vc3 DO ?_;simp only[go_sem,tg,Z6,b,a,c]
  (try refine vc3 i ?_)
  (try simp only[go_sem,Z6,a])
  (try repeat' ((first|(first|apply Zw|apply Zv|apply ZK)<;>intro h|refine vc3 g ?_|refine vDq ?_)<;>first|simp only[go_sem,h]|simp only[go_sem]|skip))
  (try(all_goals simp_all))
open Go.PL
def Zfn (t:Tg):Pp 88 [tg t] (.bool (ZdN t)):=by
 refine ZM func88 rfl ntmps88 results88 ?_;simp only[go_sem,tg];repeat' ((first|(first|apply Zw|apply Zv|apply ZK)<;>intro h|refine vDq ?_)<;>first|simp only[go_sem,h]|simp only[go_sem]|skip)
 all_goals (simp only[decide_eq_true_eq,decide_eq_false_iff_not]at *;rw[Jb];simp[ZdN];omega)
def Zyi (e:Eg):Gl e=(ZdN e.id&&((decide (e.par=Jd)||ZdN e.par)&&(!decide (e.id=e.par)&&(Zx e.ln&&decide (e.ln.kind<9))))):=by
 unfold Gl;rw[Jb];simp only[Jk,Je,decide_eq_true_eq,Bool.not_eq_true',decide_eq_false_iff_not];constructor;rintro ⟨c,a,f,d,g⟩;refine⟨c,?_,?_,g,by omega⟩;rcases a with a|a;exact .inl a;exact .inr a.1;rcases a with a|a;exact λb=>FJ c (b.trans a)
 exact λb=>a.2 b.symm
 rintro ⟨c,a,f,d,g⟩;refine⟨c,?_,ZiG d,by omega,d⟩;rcases a with a|a;exact .inl a;exact .inr ⟨a,λb=>f b.symm⟩
def ZkO (e:Eg) (i:OkLn e.ln):Pp 47 [eg e] (.bool (Gl e)):=by
 have f:=Zfn e.id;have g:=Zfn e.par;have d:=Zfm e.ln i;rw[Zyi];generalize c:decide (e.par=Jd)=dp at *;generalize b:decide (e.id=e.par)=de at *;generalize ZdN e.par=tp at *;generalize ZdN e.id=ti at *;generalize Zx e.ln=rl at *;have a:(e.par.r==0&&e.par.n==0)=dp:=by rw[<-c];exact Z6 e.par Jd
 refine ZM func47 rfl ntmps47 results47 ?_;simp only[go_sem,eg,a,Z6,b];repeat' ((first|(first|apply Zw|apply Zv|apply ZK)<;>intro h|refine vc3 f ?_|refine vc3 g ?_|refine vc3 d ?_|refine vDq ?_)<;>first|simp only[go_sem,h,a,Z6,b]|simp only[go_sem,a,Z6,b]|skip)
 all_goals simp_all
def Zmd (a b:Eg) (d:OkLn a.ln) (e:OkLn b.ln):Pp 51 [eg a,eg b] (.bool (decide (a=b))):=by
 have c:=ZcD a.ln b.ln d e;refine ZM func51 rfl ntmps51 results51 ?_;simp only[go_sem,eg,Z6];repeat' ((first|(first|apply Zw|apply Zv|apply ZK)<;>intro h|refine vc3 c ?_|refine vDq ?_)<;>first|simp only[go_sem,h,Z6]|simp only[go_sem,Z6]|skip)
 all_goals (clear c d e;cases a;cases b;simp_all)
def ZhG (a b:Eg) (d:OkLn a.ln) (e:OkLn b.ln):Pp 49 [eg a,eg b] (.bool (decide (a=b))):=by
 have c:=ZhH a.ln b.ln d e;refine ZM func49 rfl ntmps49 results49 ?_;simp only[go_sem,eg,Z6];repeat' ((first|(first|apply Zw|apply Zv|apply ZK)<;>intro h|refine vc3 c ?_|refine vDq ?_)<;>first|simp only[go_sem,h,Z6]|simp only[go_sem,Z6]|skip)
 all_goals (clear c d e;cases a;cases b;simp_all)
def Zhf (e:Eg) (b:OkLn e.ln):Pp 52 [eg e] (eg e):=by
 have a:=Zaw e.ln b;refine ZS func52 rfl ntmps52 results52 (Zh7 _) ?_;simp only[go_sem,eg];refine vDq ?_;simp only[go_sem];refine vc3 a ?_;simp only[go_sem,lns];rfl
def Tm (p:Pr):Bool:=Wm 200 p.fr'||Wm 200 p.to'
def G6 (l:List Pr):Bool:=decide (20<(l.length:Int))||l.any Tm
def Fs (l:List Pr) (o:l.length<=maxLen):Pp 46 [prs l] (.bool (G6 l)):=by
 by_cases b:(20:Int)<(l.length:Int);refine ZM func46 rfl ntmps46 results46 ?_;simp only[go_sem,prs,b,G6];have q:G6 l=l.any Tm:=by simp only[G6,b,decide_false,Jg]
 rw[q];refine ZM func46 rfl ntmps46 results46 ?_;simp only[go_sem,prs,b];refine ZA (ι:= { x:Nat // x<=(l).length/\(∀j,j<x->Tm (l.getD j Jd)=Hf) }) 29 (λx=> [(0,prs l),(3,.int .i64 (x.1:Int))]) (λx=> []) (λx=> []) (λx=>(l).length-x.1) ⟨0,Ja _,λj m=>absurd m (Jl j)⟩ ⟨rfl,(Fc2 rfl rfl),fnl,fnl⟩ (λx=>⟨(Fc2 rfl rfl),fnl⟩) (λx=> ?_);obtain⟨k,n,f⟩:=x;simp only at n f ⊢;by_cases h:(k:Int)<(l.length:Int)
 (have a:k<(l).length:=by omega);(have r:=Wa a (o));(have g:=Jc k)
 by_cases e:(200:Int)<((l.getD k Jd).fr'.length:Int);have c:=U8 (p:=Tm) a (d:=Jd) (by simp only[Tm,Wm,Je,decide_eq_true_eq];omega);simp only[go_sem,prs,h,Yi a,pr,g,e,c];by_cases i:(200:Int)<((l.getD k Jd).to'.length:Int);have c:=U8 (p:=Tm) a (d:=Jd) (by simp only[Tm,Wm,Je,decide_eq_true_eq];omega);simp only[go_sem,prs,h,Yi a,pr,g,e,i,c]
 ·simp only[go_sem,prs,h,Yi a,pr,g,e,i,r];exact⟨⟨k+1,by(try simp only);omega,Zm f (by simp only[Tm,Wm,Jf,decide_eq_false_iff_not];omega)⟩,by show(l).length-(k+1)<(l).length-k;omega,⟨rfl,(Fc2 rfl rfl),fnl,fnl⟩⟩
 have c:=UC (p:=Tm) (d:=Jd) (l:=l) (λj m=>f j (by omega));simp only[go_sem,prs,h,c]
theorem Zyo (s:Str):Wm 200 s=decide ((200:Int)<(s.length:Int)):=rfl
def Ut (x:Ln):Bool:=Wm 200 x.at'.gr||(Wm 200 x.at'.nm||(Wm 200 x.nm||(Wm 200 x.ot||(FA x.fd||(G6 x.fo||G6 x.ba)))))
structure LenLn (x:Ln):Prop where
 c:x.fd.cases'.length<=maxLen
 f:x.fo.length<=maxLen
 b:x.ba.length<=maxLen
def Zd1 (x:Ln) (a:LenLn x):Pp 17 [lns x] (.bool (Ut x)):=by
 have b:=Zfk x.fd a.c;have c:=Fs x.fo a.f;have d:=Fs x.ba a.b;unfold Ut;generalize FA x.fd=a1 at *;generalize G6 x.fo=a2 at *;generalize G6 x.ba=a3 at *;refine ZM func17 rfl ntmps17 results17 ?_;simp only[go_sem,lns];repeat' ((first|(first|apply Zw|apply Zv|apply ZK)<;>intro h|refine vc3 b ?_|refine vc3 c ?_|refine vc3 d ?_|refine vDq ?_)<;>first|simp only[go_sem,h]|simp only[go_sem]|skip)
 all_goals (clear b c d a;simp only[Zyo, *,Bool.true_or,Bool.or_true,Jg,Bool.or_false])
def Zbb (l:List Eg) (most:Int):Bool:=decide (most<(l.length:Int))||l.any λe=>Ut e.ln
def Zfj (l:List Eg) (most:Int) (q:l.length<=maxLen) (r:∀e∈l,LenLn e.ln):Pp 5 [egs l,.int .i64 most] (.bool (Zbb l most)):=by
 by_cases i:most<(l.length:Int);refine ZM func5 rfl ntmps5 results5 ?_;simp only[go_sem,egs,i,Zbb];have b:Zbb l most=l.any λe=>Ut e.ln:=by simp only[Zbb,i,decide_false,Jg]
 rw[b];refine ZM func5 rfl ntmps5 results5 ?_;simp only[go_sem,egs,i];refine ZA (ι:= { x:Nat // x<=(l).length/\(∀j,j<x->Ut (l.getD j Jd).ln=Hf) }) 22 (λx=> [(0,egs l),(5,.int .i64 (x.1:Int))]) (λx=> []) (λx=> []) (λx=>(l).length-x.1) ⟨0,Ja _,λj m=>absurd m (Jl j)⟩ ⟨rfl,(Fc2 rfl rfl),fnl,fnl⟩ (λx=>⟨(Fc2 rfl rfl),fnl⟩) (λx=> ?_);obtain⟨k,o,g⟩:=x;simp only at o g ⊢;by_cases h:(k:Int)<(l.length:Int)
 (have a:k<(l).length:=by omega);(have s:=Wa a (q));(have n:=Jc k)
 have c:=Zd1 (l.getD k Jd).ln (r _ (Zh a));cases f:Ut (l.getD k Jd).ln
 ·rw[f]at c;simp only[go_sem,egs,h,TU a,eg,n];refine vc3 c ?_;simp only[go_sem,s];exact⟨⟨k+1,by(try simp only);omega,Zm g f⟩,by show(l).length-(k+1)<(l).length-k;omega,⟨rfl,(Fc2 rfl rfl),fnl,fnl⟩⟩
 rw[f]at c;have b:=U8 (p:=λe:Eg=>Ut e.ln) a f;simp only[go_sem,egs,h,TU a,eg,n];refine vc3 c ?_;simp only[go_sem,b];have b:=UC (p:=λe:Eg=>Ut e.ln) (d:=Jd) (l:=l) (λj m=>g j (by omega));simp only[go_sem,egs,h,b]
def ZoF {x:Ln} (h:Ut x=Hf):OkLn x:=by
 simp only[Ut,FA,Zc5,G6,Jf,decide_eq_false_iff_not]at h;obtain⟨_,_,_,_,⟨⟨_,_,_,a⟩,_⟩,⟨b,_⟩,c,_⟩:=h;exact⟨by omega,by omega,by omega⟩
end Go.Proofs.YtcmpkokndngplaaGreat
