/- Contracts of functions and laws of this seat, each for every input that it names: lemmas of the proof. -/
import Derived.Test.YthingdchjkhfbaaGreatXEf
import Derived.Test.YthingdchjkhfbaaGreatXDa
import Derived.Test.YthingdchjkhfbaaGreatXCh
import Derived.Test.YthingdchjkhfbaaGreatXAf
import Derived.Test.YthingdchjkhfbaaGreatXBr
import Derived.Test.YthingdchjkhfbaaGreatXAn
import Derived.Test.YthingdchjkhfbaaGreatRows
import Derived.ProofKit
import Derived.Test.YthingdchjkhfbaaGreatXBa
import Derived.Test.YthingdchjkhfbaaGreatXCt
import Derived.Test.YthingdchjkhfbaaGreatXBj
namespace Go.Proofs.YthingdchjkhfbaaGreat
set_option maxHeartbeats 64000000
set_option maxRecDepth 20000
set_option linter.unusedVariables false
set_option linter.unusedSimpArgs false
open Go.PL
def upR (w:List Eg):List Ln:=w.reverse.map fun e=>ZbR e.ln
def dnR (w:List Eg):List Ln:=w.map (·.ln)
def Ze5 (xs:List Ln):List Ln:=(xs.map ZbR).reverse
theorem ZhY (u v:List Eg):upR (u++v)=upR v++upR u:=by simp[upR]
theorem Zhy (u v:List Eg):dnR (u++v)=dnR u++dnR v:=by simp[dnR]
theorem Zps (u v:List Ln):Ze5 (u++v)=Ze5 v++Ze5 u:=by simp[Ze5]
theorem Zx2 {w:List Eg} (h:∀e∈w,Zu e.ln=true):Ze5 (upR w)=dnR w:=by
 unfold Ze5 upR dnR;rw[List.map_map,←List.map_reverse,List.reverse_reverse];apply List.map_congr_left;intro e he;exact ZnI (h e he)
theorem Zmh (w:List Eg):Ze5 (dnR w)=upR w:=by
 unfold Ze5 upR dnR;rw[List.map_map,List.map_reverse];rfl
theorem ZfN {α:Type} (p:List α) {i j:Nat} (h:i≤j):p.drop i=(p.drop i).take (j-i)++p.drop j:=by
 have:=(List.take_append_drop (j-i) (p.drop i)).symm;rw[List.drop_drop,show i+(j-i)=j by omega]at this;exact this
theorem Ztt {p q:List Eg} {i j:Nat} (h:i≤j) (hj:j≤lcp p q):(p.drop i).take (j-i)=(q.drop i).take (j-i):=by
 have h1:=congrArg (fun l=>(l.take j).drop i) (ZgQ p q);simp only[List.take_take,Nat.min_eq_left hj]at h1;rwa[List.drop_take,List.drop_take]at h1
theorem ZyB (p q r:List Eg):min (lcp p q) (lcp q r)≤lcp p r:=by
 have h1:=Zle p q;have h2:=Zle q r;refine Zx4 (by omega) (by omega) ?_;have a:=congrArg (List.take (min (lcp p q) (lcp q r))) (ZgQ p q);have b:=congrArg (List.take (min (lcp p q) (lcp q r))) (ZgQ q r);simp only[List.take_take]at a b;rw[show min (min (lcp p q) (lcp q r)) (lcp p q)=min (lcp p q) (lcp q r)by omega]at a;rw[show min (min (lcp p q) (lcp q r)) (lcp q r)=min (lcp p q) (lcp q r)by omega]at b;rw[a,b]
def Zx5 (p q:List Eg):List Ln:=upR (p.drop (lcp p q))++dnR (q.drop (lcp p q))
theorem ZxF {A B C:List Eg} (hA:∀e∈A,Zu e.ln=true):∃X Y Z,Zx5 A B=X++Z∧Zx5 B C=Ze5 Z++Y∧Zx5 A C=X++Y:=by
 have u1:=ZyB A B C;have u2:=ZyB B C A;have u3:=ZyB C A B;rw[ZiA C A]at u2 u3;rw[ZiA B A]at u2;rw[ZiA C B]at u3;have cab:=@Ztt A B;have cbc:=@Ztt B C;have cac:=@Ztt A C;unfold Zx5;generalize lcp A B=a at *;generalize lcp B C=b at *;generalize lcp A C=c at *;have hcase:(a=b∧a≤c)∨(a=c∧a<b)∨(b=c∧b<a):=by omega
 rcases hcase with ⟨rfl,h⟩|⟨rfl,h⟩|⟨rfl,h⟩
 ·refine⟨upR (A.drop c),dnR (C.drop c),upR ((A.drop a).take (c-a))++dnR (B.drop a),?_,?_,rfl⟩
  ·conv=>lhs;rw[ZfN A h,ZhY]
   rw[List.append_assoc]
  ·rw[Zps,Zmh,Zx2 (fun e he=>hA e (List.mem_of_mem_drop (List.mem_of_mem_take he))),cac h (Nat.le_refl _)];conv=>lhs;rw[ZfN C h,Zhy]
   rw[List.append_assoc]
 ·refine⟨upR (A.drop a)++dnR ((B.drop a).take (b-a)),dnR (C.drop b),dnR (B.drop b),?_,?_,?_⟩
  ·conv=>lhs;rw[ZfN B (Nat.le_of_lt h),Zhy]
   rw[List.append_assoc]
  ·rw[Zmh]
  ·rw[cbc (Nat.le_of_lt h) (Nat.le_refl _)];conv=>lhs;rw[ZfN C (Nat.le_of_lt h),Zhy]
   rw[List.append_assoc]
 ·refine⟨upR (A.drop a),upR ((A.drop b).take (a-b))++dnR (C.drop b),dnR (B.drop a),rfl,?_,?_⟩
  ·rw[Zmh,cab (Nat.le_of_lt h) (Nat.le_refl _)];conv=>lhs;rw[ZfN B (Nat.le_of_lt h),ZhY]
   rw[List.append_assoc]
  ·conv=>lhs;rw[ZfN A (Nat.le_of_lt h),ZhY]
   rw[List.append_assoc]
inductive Two:List Fd→List Ln→List Fd→Prop
 |nil (l):Two l [] l
 |cons {l m n x xs}:Zq l x=(m,0)→Zq m (ZbR x)=(l,0)→Two m xs n→Two l (x::xs) n
theorem Two.fold {l n:List Fd} {xs:List Ln} (h:Two l xs n):Zce xs l=some n:=by
 induction h with
 |nil=>rfl
 |cons a b c ih=>unfold Zce;rw[a];simpa using ih
theorem Two.append {l m n:List Fd} {xs ys:List Ln} (h:Two l xs m) (k:Two m ys n):Two l (xs++ys) n:=by
 induction h with
 |nil=>exact k
 |cons a b c ih=>exact .cons a b (ih k)
theorem Two.split:∀ {xs ys:List Ln} {l n:List Fd},Two l (xs++ys) n→ ∃m,Two l xs m∧Two m ys n
 | [],ys,l,n,h=>⟨l,.nil l,h⟩
 |x::xs,ys,l,n,h=>by
  cases h with
  |cons a b c=>
   obtain⟨m,h1,h2⟩:=Two.split c;exact⟨m,.cons a b h1,h2⟩
theorem Two.back {l m:List Fd} {xs:List Ln} (h:Two l xs m):Two m (Ze5 xs) l:=by
 induction h with
 |nil=>exact .nil _
 |cons a b c ih=>
  unfold Ze5 at ih ⊢;rw[List.map_cons,List.reverse_cons];refine ih.append (.cons b ?_ (.nil _));rw[ZnI (Zaa a).2.1];exact a
theorem ZuZ:∀(w:List Eg) {fs gs:List Fd},(∀e∈w,e.ln.kind≤8)→Zby w fs=some gs→Two fs (dnR w) gs
 | [],fs,gs,_,h=>by
  simp only[Zby,Option.some.injEq]at h;subst h;exact .nil _
 |e::w,fs,gs,hk,h=>by
  obtain⟨f1,h1,h2⟩:=ZhH h;exact .cons h1 (ZiX (hk e (by simp)) h1) (ZuZ w (fun e he=>hk e (by simp[he])) h2)
theorem ZAN {w:List Eg} {fs gs:List Fd} (hk:∀e∈w,e.ln.kind≤8) (h:Zby w fs=some gs):Two gs (upR w) fs:=by
 rw[←Zmh];exact(ZuZ w hk h).back
theorem ZyA {p q:List Eg} {A B:List Fd} (kp:∀e∈p,e.ln.kind≤8) (kq:∀e∈q,e.ln.kind≤8) (h1:Zby p ZhS=some A) (h2:Zby q ZhS=some B):Two A (Zx5 p q) B:=by
 obtain⟨ms,a1,a2⟩:=ZeH (lcp p q) h1;obtain⟨ns,b1,b2⟩:=ZeH (lcp p q) h2;rw[ZgQ,b1]at a1;cases a1;exact(ZAN (fun e he=>kp e (List.mem_of_mem_drop he)) a2).append (ZuZ _ (fun e he=>kq e (List.mem_of_mem_drop he)) b2)
theorem ZuN {l m:List Fd} {y:Ln} {o p:Opn} (ha:Zq l y=(m,0)) (hf:FitW l o) (hp:Zs o=true) (ho:ZaE y o=(p,true)):o.at'∈Ze2 y p.at':=by
 have hx:=(Zaa ha).2.1;unfold Ze2;rw[if_neg (by rw[hx];simp)];rcases Zc5 ho with ⟨rfl,hn⟩|⟨_,h2,h3,_,rfl⟩
 ·rw[if_pos (by rw[Zei (ZqQ ha (Zma hf hp) (hn hp))];omega)];simp
 ·have hz:ZE (Zc y) (Zj (Zh y o).1 ((Zc y).getD 0 default)).at'=0:=by
   cases hc:Zc y with
   |nil=>exact absurd hc h3
   |cons c cs=>exact Zdt _ _
  rw[hz,if_neg (by omega),if_neg (fun h=>by omega)];exact h2
theorem ZpX:∀(ys:List Ln) {l m:List Fd} {o p:Opn} {R:Rf→Bool},Zce ys l=some m→FitW l o→Zs o=true→ZB ys o=(p,true)→Zkm R ys.reverse p.at'=true→R o.at'=true
 | [],l,m,o,p,R,_,_,_,ho,hs=>by
  simp only[ZB,Prod.mk.injEq,and_true]at ho;subst ho;exact hs
 |y::ys,l,m,o,p,R,hf,hw,hp,ho,hs=>by
  unfold Zce at hf;split at hf
  ·cases hf
  ·rename_i ha;have ha':Zq l y=((Zq l y).1,0):=Prod.ext rfl (Classical.not_not.1 ha);rw[Zah]at ho;split at ho
   ·simp at ho
   ·rename_i hq;have hq':ZaE y o=((ZaE y o).1,true):=Prod.ext rfl (by simpa using hq);have hpq:Zs (ZaE y o).1=true:=by simp only[Zs,(ZiD hq').2.2];exact hp
    rw[List.reverse_cons,ZcJ]at hs;have:=ZpX ys hf (ZgJ ha' hw hq') hpq ho hs;simp only[Zkm,Bool.and_eq_true,List.all_eq_true]at this;exact this.2 _ (ZuN ha' hw hp hq')
theorem Zow {l m:List Fd} {x:Ln} {r:Rf} (ha:Zq l x=(m,0)) (hs:ZdX (ZbR x) r=true):Zmj x r=true∧(ZcW x r).2=true∧(ZcW x r).1∈Ze2 (ZbR x) r∧(r∈Zl x→Zl x= [r]):=by
 have hx:=(Zaa ha).2.1;have hk:=(ZT hx).1;have hy:=ZjQ hx hk;obtain⟨i1,i2⟩:=ZhJ hx
 by_cases hg:r∈Zl x
 ·have hpi:¬ZE (Zl x) r<0:=fun h=>ZaR h hg
  have hany:((Zl x).any fun a=>decide (r=a))=true:=ZlY.2 hg;unfold ZdX at hs;rw[if_neg (by rw[hy];simp),i2,if_neg (by rw[hany];simp)]at hs;have hsr:x.kind≠9→Ze2 (ZbR x) r=Zc x:=fun h9=>by
   unfold Ze2;rw[if_neg (by rw[hy];simp),i2,if_neg hpi,if_neg,i1]
   rintro ⟨h6,_⟩
   exact h9 (by
    obtain⟨kind,at',nm,ot,fac,fd,fo,ba⟩:=x;simp only at hk ⊢;rcases hk with rfl|rfl|rfl|rfl|rfl|rfl|rfl|rfl|rfl|rfl
    all_goals simp[ZbR]at h6
    all_goals rfl)
  have fin:Zc x≠ []→x.kind≠9→(ZcW x r).2=true∧(ZcW x r).1∈Ze2 (ZbR x) r:=fun hc h9=>by
   rw[Zrj hx hg,hsr h9];cases h:Zc x with
   |nil=>exact absurd h hc
   |cons c cs=>simp
  have hkk:Zmj x r=if ZE (Zl x) r<0 then true else if x.kind=1∨x.kind=4∨x.kind=5∨x.kind=6∨x.kind=7∨x.kind=10 then true
   else if x.kind=9 then ZE (Zl x) r==0 else if x.kind=8 then Zem x.fo x.ba else false:=by
   unfold Zmj;rw[if_neg (by rw[hx];simp)];rfl
  rw[if_neg hpi]at hkk;clear hsr hpi hany;obtain⟨kind,at',nm,ot,fac,fd,fo,ba⟩:=x;simp only at hk;rcases hk with rfl|rfl|rfl|rfl|rfl|rfl|rfl|rfl|rfl|rfl
  ·exact⟨by rw[hkk];simp,(fin (by simp[Zc]) (by simp)).1,(fin (by simp[Zc]) (by simp)).2,fun _=>by simp[Zl]at hg ⊢;exact hg.symm⟩
  ·simp[Zl]at hg
  ·simp[ZbR]at hs
  ·exact⟨by rw[hkk];simp,(fin (by simp[Zc]) (by simp)).1,(fin (by simp[Zc]) (by simp)).2,fun _=>by simp[Zl]at hg ⊢;exact hg.symm⟩
  ·exact⟨by rw[hkk];simp,(fin (by simp[Zc]) (by simp)).1,(fin (by simp[Zc]) (by simp)).2,fun _=>by simp[Zl]at hg ⊢;exact hg.symm⟩
  ·exact⟨by rw[hkk];simp,(fin (by simp[Zc]) (by simp)).1,(fin (by simp[Zc]) (by simp)).2,fun _=>by simp[Zl]at hg ⊢;exact hg.symm⟩
  ·exact⟨by rw[hkk];simp,(fin (by simp[Zc]) (by simp)).1,(fin (by simp[Zc]) (by simp)).2,fun _=>by simp[Zl]at hg ⊢;exact hg.symm⟩
  ·have:Zem fo ba=true:=by simpa[ZbR]using hs
   exact⟨by rw[hkk];simp[this],(fin (by simp[Zc]) (by simp)).1,(fin (by simp[Zc]) (by simp)).2,fun _=>by simp[Zl]at hg ⊢;exact hg.symm⟩
  ·simp[ZbR]at hs
  ·simp[ZbR]at hs
 ·have hpi:ZE (Zl x) r<0:=by rw[Zei hg];omega
  have ht:=ZlK hx hg;refine⟨?_,by rw[ht],?_,fun h=>absurd h hg⟩
  ·unfold Zmj;rw[if_neg (by rw[hx];simp)];exact if_pos hpi
  ·rw[ht];unfold Ze2;rw[if_neg (by rw[hy];simp),i2,if_pos hpi];simp
theorem ZlG:∀(Z:List Ln) {l m:List Fd} {r:Rf},Zce Z l=some m→Zf6 (Z.map ZbR) r=true→Zmi Z r=true
 | [],_,_,_,_,_=>rfl
 |x::Z,l,m,r,hf,hs=>by
  unfold Zce at hf;split at hf
  ·cases hf
  ·rename_i ha;have ha':Zq l x=((Zq l x).1,0):=Prod.ext rfl (Classical.not_not.1 ha);rw[List.map_cons,Zov,Bool.and_eq_true,List.all_eq_true]at hs;obtain⟨h1,h2,h3,_⟩:=Zow ha' hs.1;rw[Zlb,if_neg (by rw[h1];simp),if_neg (by rw[h2];simp)];exact ZlG Z hf (hs.2 _ h3)
theorem Znk:∀(Z:List Ln) {l m:List Fd} {p q p':Opn},Two l Z m→FitW l p→Zs p=true→ZB Z p=(q,true)→ZB (Ze5 Z) q=(p',true)→Zf6 (Z.map ZbR) p'.at'=true→p'=p
 | [],l,m,p,q,p',_,_,_,h1,h2,_=>by
  simp only[ZB,Prod.mk.injEq,and_true]at h1;subst h1;simp only[Ze5,List.map_nil,List.reverse_nil,ZB,Prod.mk.injEq,and_true]at h2;exact h2.symm
 |x::Z,l,m,p,q,p',ht,hw,hp,h1,h2,hs=>by
  cases ht with
  | @cons _ n _ _ _ a b c=>
   have hx:=(Zaa a).2.1;have hy:=(Zaa b).2.1;obtain⟨i1,i2⟩:=ZhJ hx;rw[Zah]at h1;split at h1
   ·simp at h1
   rename_i hq;have hq':ZaE x p=((ZaE x p).1,true):=Prod.ext rfl (by simpa using hq);generalize (ZaE x p).1=v at *;have hwv:=ZgJ a hw hq';have hpv:Zs v=true:=by simp only[Zs,(ZiD hq').2.2];exact hp
   have e:Ze5 (x::Z)=Ze5 Z++ [ZbR x]:=by simp[Ze5]
   rw[e,Zbs]at h2;split at h2
   ·simp at h2
   rename_i hv;have hv':ZB (Ze5 Z) q=((ZB (Ze5 Z) q).1,true):=Prod.ext rfl (by simpa using hv);generalize (ZB (Ze5 Z) q).1=v' at *;rw[Zah]at h2;split at h2
   ·simp at h2
   rename_i hz;have hz':ZaE (ZbR x) v'=((ZaE (ZbR x) v').1,true):=Prod.ext rfl (by simpa using hz);simp only[ZB,Prod.mk.injEq,and_true]at h2;rw[h2]at hz';rw[List.map_cons,Zov,Bool.and_eq_true,List.all_eq_true]at hs;have hwq:=ZbD Z c.fold hwv h1;have hwv':=ZbD (Ze5 Z) c.back.fold hwq hv';have hpv':Zs v'=true:=by
    simp only[Zs,(Zdf _ hv').2,(Zdf _ h1).2];exact hpv
   have hvv:v'=v:=Znk Z c hwv hpv h1 hv' (hs.2 _ (ZuN b hwv' hpv' hz'));subst hvv;obtain⟨k1,k2,_,k4⟩:=Zow a hs.1;rcases Zc5 hq' with ⟨rfl,hn⟩|⟨_,g2,g3,_,g5⟩
   ·have hnc:=ZqQ a (Zma hw hp) (hn hp);rw[Za0 hy hp,i1,if_pos (by rw[Zei hnc];omega)]at hz';cases hz';rfl
   ·have hin:v'.at'∈Zl (ZbR x):=by
     rw[i1,g5];cases h:Zc x with
     |nil=>exact absurd h g3
     |cons c cs=>simp[Zj]
    have hpa:p'.at'∈Zl x:=by
     rcases Zc5 hz' with ⟨_,hn⟩|⟨_,_,f3,_,f5⟩
     ·exact absurd hin (hn hpv)
     ·rw[f5,i2];rw[i2]at f3;cases h:Zl x with
      |nil=>exact absurd h f3
      |cons c cs=>simp[Zj]
    have hg:=k4 hpa;rw[hg,List.mem_singleton]at g2;obtain⟨w,w1,_,w3,_⟩:=ZnM a (Zxm hw hp) (by rw[g2];exact k1);rw[hq']at w1;cases w1;rw[w3]at hz';cases hz';rfl
theorem Zwp {X Y Z:List Ln} {l0 l1 l2 l3:List Fd} {o c0 q0:Opn} {r:Rf} (t1:Two l0 X l1) (t2:Two l1 Z l2) (t3:Two l1 Y l3) (hw:FitW l0 o) (h1:ZB (X++Z) o=(q0,true)) (h2:ZB (Ze5 Z++Y) q0=(c0,true)) (hr:c0.at'=r) (hrd:r≠default) (hs:Zf6 (Ze5 Z++Y).reverse r=true):
  ZB (X++Y) o=(c0,true):=by
 rw[Zbs]at h1 h2 ⊢;split at h1
 ·simp at h1
 rename_i hp;have hp':ZB X o=((ZB X o).1,true):=Prod.ext rfl (by simpa using hp);generalize (ZB X o).1=p at *;split at h2
 ·simp at h2
 rename_i hq;have hq':ZB (Ze5 Z) q0=((ZB (Ze5 Z) q0).1,true):=Prod.ext rfl (by simpa using hq);generalize (ZB (Ze5 Z) q0).1=p' at *;have w1:=ZbD X t1.fold hw hp';have w2:=ZbD Z t2.fold w1 h1;have w3:=ZbD (Ze5 Z) t2.back.fold w2 hq';have w4:=ZbD Y t3.fold w3 h2;have hc:Zs c0=true:=by
  cases h:Zs c0
  ·exact absurd (by rw[←hr];exact w4.z h) hrd
  ·rfl
 have hpp':Zs p'=true:=by simp only[Zs,(Zdf _ h2).2]at hc;exact hc
 have hpp:Zs p=true:=by simp only[Zs,(Zdf _ hq').2,(Zdf _ h1).2]at hpp';exact hpp'
 rw[List.reverse_append,←Zda,ZcJ,Zda]at hs;have hsp:=ZpX Y t3.fold w3 hpp' h2 (by rw[hr];exact hs);have e:(Ze5 Z).reverse=Z.map ZbR:=by simp[Ze5]
 rw[e]at hsp;have:=Znk Z t2 w1 hpp h1 hq' hsp;subst this;rw[hp',if_neg (by simp)];exact h2
theorem Zye {X Y Z:List Ln} {l0 l1 l2 l3:List Fd} {o d0:Opn} {r:Rf} (t1:Two l0 X l1) (t2:Two l1 Z l2) (t3:Two l1 Y l3) (hw:FitW l0 o) (h1:ZB (X++Y) o=(d0,true)) (hr:d0.at'=r) (hrd:r≠default) (hs:Zf6 (Ze5 Z++Y).reverse r=true):
  ∃q0,ZB (X++Z) o=(q0,true)∧ZB (Ze5 Z++Y) q0=(d0,true):=by
 rw[Zbs]at h1;split at h1
 ·simp at h1
 rename_i hp;have hp':ZB X o=((ZB X o).1,true):=Prod.ext rfl (by simpa using hp);generalize (ZB X o).1=p at *;have w1:=ZbD X t1.fold hw hp';have w4:=ZbD Y t3.fold w1 h1;have hc:Zs d0=true:=by
  cases h:Zs d0
  ·exact absurd (by rw[←hr];exact w4.z h) hrd
  ·rfl
 have hpp:Zs p=true:=by simp only[Zs,(Zdf _ h1).2]at hc;exact hc
 rw[List.reverse_append,←Zda,ZcJ,Zda]at hs;have hsp:=ZpX Y t3.fold w1 hpp h1 (by rw[hr];exact hs);have e:(Ze5 Z).reverse=Z.map ZbR:=by simp[Ze5]
 rw[e]at hsp;obtain⟨q,q1,q2⟩:=Zlc Z t2.fold (Zxm w1 hpp) (ZlG Z t2.fold hsp);refine⟨q,?_,?_⟩
 ·rw[Zbs,hp',if_neg (by simp)];exact q1
 ·have q2':ZB (Ze5 Z) q=(p,true):=q2;rw[Zbs,q2',if_neg (by simp)];exact h1
open Go.PL Go.PL.Srt
def svA:Opn:=⟨⟨1,1⟩,default,1,[97],1,[112,101,97,114],default,0,false,[],[]⟩
def svB:Opn:=⟨⟨1,2⟩,default,1,[97],3,[112,101,97,114],⟨1,[],[113,116,121]⟩,3,false,[],[]⟩
def svC:Opn:=⟨⟨2,1⟩,default,1,[97],3,[112,101,97,114],⟨1,[],[113,116,121]⟩,2,false,[],[]⟩
def svD:Dc:=⟨[⟨⟨0,[],[99,111,117,112,111,110]⟩,0,[[]]⟩],[⟨[112,101,97,114],[⟨⟨1,[],[110,111,116,101]⟩,0,[[]]⟩,⟨⟨1,[],[113,116,121]⟩,5,[]⟩,⟨⟨1,[],[115,105,122,101]⟩,0,[[109,101,100,105,117,109]]⟩,⟨⟨1,[],[116,97,103,115]⟩,0,[]⟩]⟩]⟩
theorem svV:ZdZ [] [svA,svB,svC] [97] default=(svD,0):=by decide+kernel
theorem svF:Zl8 svD [112,101,97,114] ⟨1,[],[113,116,121]⟩=(⟨⟨1,[],[113,116,121]⟩,5,[]⟩,0):=by decide+kernel
theorem ZnX (e:En):(ent e).nomap=true:=by simp only[ent,PV.nomap,PV.nomapL,ZhN,Bool.and_self]
theorem Zuf (r:Rw):(row r).nomap=true:=by simp only[row,PV.nomap,PV.nomapL,Zc4 _ ZnX,Bool.and_self]
theorem Zsd (x:Dc×Int):(ZoQ x).nomap=true:=by simp only[ZoQ,doc,PV.nomap,PV.nomapL,Zc4 _ ZnX,Zc4 _ Zuf,Bool.and_self]
theorem ZDY:∀o∈ [svA,svB,svC],OkOp o:=by
 intro o ho;simp only[List.mem_cons,List.not_mem_nil,or_false]at ho;rcases ho with rfl|rfl|rfl<;>exact⟨by decide⟩
theorem ZxD:ZsW svD∧Zzs svD:=by
 refine⟨⟨by rw[Zd];decide,by rw[Zd];decide,?_,?_⟩,?_,?_⟩<;>simp[svD,Zd]
theorem ZbU:PL.Pure Tryz.prog 8 [] (.bool true):=by
 have hV:=ZiV [] [svA,svB,svC] [97] default Zmt Zog ZDY (by decide);have hF:=ZiO svD [112,101,97,114] ⟨1,[],[113,116,121]⟩ ZxD.1 ZxD.2;rw[svV]at hV;rw[svF]at hF;have hne:=Zsd (svD,0);generalize svD=d at *;obtain⟨hd,rws⟩:=d;refine PL.Pure.of_vs Tryz.func8 (by decide) rfl Tryz.ntmps8 Tryz.results8 (by simp) rfl ?_;simp only[go_sem];refine Zrm Zxu ?_ ?_ (fun b hb=> ?_)
 ·simp only[go_sem]
 ·simp only[go_sem]
 simp only[go_sem];refine ZoG [] [(2,3),(2,4)] (by kernel_rfl) (by kernel_rfl) (by exact rfl) (by exact rfl) ?_;simp only[go_sem];refine Zrn hV hne ?_ ?_ ?_
 ·simp only[go_sem]
 ·simp only[go_sem,mc];rfl
 simp only[go_sem,ZoQ,doc];refine Za hF ?_ ?_ ?_
 ·simp only[go_sem]
 ·simp only[go_sem,doc,ref]
 simp only[go_sem,ZdE,ent];exact⟨_,rfl,rfl⟩
open Go.PL Go.PL.Srt
theorem Zrr (f:Fd) (ops:List Opn):(Zdx f ops).l.length≤ops.length+1:=by
 have h1:(ZQ f).l.length≤1:=by unfold ZQ;simp only;split<;>simp
 have h2:=Zf1 ops;unfold Zdx;split
 ·simp only;omega
 ·simp only;split
  ·omega
  ·split
   ·omega
   ·simp
theorem Zjt (l:List Opn) (c:Str):(Za7 l c).length≤l.length:=by
 unfold Za7;have h1:=ZeC (Zf5 (Zbj l c));have h2:=ZfV l c;have h3:(Zf5 (Zbj l c)).length=(Zbj l c).length:=by simp[Zf5]
 omega
theorem ZtE {F:List Fd} {seen:List Opn} {sc:Int} {it:Str}:(Za6 F seen sc it).length≤F.length∧ ∀e∈Za6 F seen sc it,e.l.length≤seen.length+1:=by
 refine⟨by unfold Za6;rw[List.length_map];exact List.length_filter_le _ _,fun e he=> ?_⟩;obtain⟨f,_,rfl⟩:=List.mem_map.1 he;have:=Zrr f (Zo seen ⟨it,f.at'⟩);have:=Zhb seen ⟨it,f.at'⟩;omega
theorem Zvc {m:List Eg} {l:List Opn} {cart:Str} {b:Tg} (hm:OkM m):ZsW (ZdZ m l cart b).1:=by
 have hd:ZsW (default:Dc):=⟨Nat.zero_le _,Nat.zero_le _,(fun e h=>by cases h),(fun e h=>by cases h)⟩;unfold ZdZ;split
 ·exact hd
 ·split
  ·exact hd
  ·split
   ·exact hd
   ·rename_i h1 _ h3;have hF:=(ZqW hm (a:=b) (show(Zaz (Zf m) b).2=0 from Classical.not_not.1 h3)).n;have hs:=ZfB m (Z0 (ZaV m l) cart) b;have hmi:(Z0 (ZaV m l) cart).length≤(ZaV m l).length:=List.length_filter_le _ _;have hli:=ZdH m l;have hit:=Zjt (Z0 (ZaV m l) cart) cart;generalize (Zaz (Zf m) b).1=F at *;generalize ZaI m (Z0 (ZaV m l) cart) b=seen at *;have f:=fun sc it=>ZtE (F:=F) (seen:=seen) (sc:=sc) (it:=it)
    refine⟨by have:=(f 0 []).1;rw[Zd];simp only;omega,by rw[Zd];simp only[List.length_map];omega,fun e he=> ?_,fun r hr=> ?_⟩
    ·have:=(f 0 []).2 e he;rw[Zd];omega
    ·simp only[List.mem_map]at hr;obtain⟨i,_,rfl⟩:=hr;refine⟨by have:=(f 1 i).1;rw[Zd];simp only;omega,fun e he=> ?_⟩;have:=(f 1 i).2 e he;rw[Zd];omega
open Go.PL
open Go.ChangeShapes Go.WideShapes Go.ChangeAt Go.RowKit
theorem Tryz.own:ownKnob Tryz.prog.godebug=Option.none:=by kernel_rfl
theorem Tryz.laidOut:laidOutB Tryz.prog=true:=by kernel_rfl
theorem Tryz.lays:Zld Tryz.prog=true:=by kernel_rfl
theorem Zyc:ZmW Tryz.prog 61=false:=by kernel_rfl
theorem ZzN:ZmW Tryz.prog 73=false:=by kernel_rfl
theorem ZzL:ZmW Tryz.prog 22=false:=by kernel_rfl
structure LenLn' (x:Ln):Prop where
 c:x.fd.cases'.length≤maxLen
 f:x.fo.length≤maxLen
 b:x.ba.length≤maxLen
theorem Zym {cs:List PV} (h:PT Tryz.prog 61 cs):∃l:List Str,cs= [.sl .no (l.map .str)]∧l.length≤maxLen:=by
 obtain⟨l,rfl,h1,h2⟩:=h.slice_inv Zyc Tryz.underlying61;obtain⟨xs,rfl,_⟩:=ZfJ (enc:=PV.str) (Q:=fun _=>True) (fun p hp=>by
  obtain⟨s,rfl,_⟩:=(h2 p hp).string Tryz.underlying9;exact⟨s,rfl,trivial⟩)
 exact⟨xs,rfl,by simpa using h1⟩
theorem Zn6 {cs:List PV} (h:PT Tryz.prog 25 cs):∃r:Tg,cs= [.int .i64 r.r,.int .i64 r.n]:=by
 have h1:PTs Tryz.prog [3,3] cs:=h.struct_inv Tryz.underlying25;obtain⟨a,b,rfl,h2,h3⟩:=h1.cons_inv;obtain⟨c,d,rfl,h4,h5⟩:=h3.cons_inv;obtain⟨x,rfl,_⟩:=h2.int_inv Tryz.underlying3;obtain⟨y,rfl,_⟩:=h4.int_inv Tryz.underlying3;rw[h5.nil_inv];exact⟨⟨x,y⟩,rfl⟩
theorem Zup {cs:List PV} (h:PT Tryz.prog 34 cs):∃r:Rf,cs= [.int .i64 r.sc,.str r.gr,.str r.nm]:=by
 have h1:PTs Tryz.prog [3,9,9] cs:=h.struct_inv Tryz.underlying34;obtain⟨a,b,rfl,h2,h3⟩:=h1.cons_inv;obtain⟨c,d,rfl,h4,h5⟩:=h3.cons_inv;obtain⟨e,f,rfl,h6,h7⟩:=h5.cons_inv;obtain⟨x,rfl,_⟩:=h2.int_inv Tryz.underlying3;obtain⟨y,rfl,_⟩:=h4.string_inv Tryz.underlying9;obtain⟨z,rfl,_⟩:=h6.string_inv Tryz.underlying9;rw[h7.nil_inv];exact⟨⟨x,y,z⟩,rfl⟩
theorem ZzV {cs:List PV} (h:PT Tryz.prog 63 cs):∃f:Fd,cs= [.int .i64 f.at'.sc,.str f.at'.gr,.str f.at'.nm,.int .i64 f.kind,.str f.df,.sl .no (f.cases'.map .str),.int .i64 f.worth]∧f.cases'.length≤maxLen:=by
 have h1:PTs Tryz.prog [34,3,9,61,2] cs:=h.struct_inv Tryz.underlying63;obtain⟨a1,b1,rfl,h2,h3⟩:=h1.cons_inv;obtain⟨a2,b2,rfl,h4,h5⟩:=h3.cons_inv;obtain⟨a3,b3,rfl,h6,h7⟩:=h5.cons_inv;obtain⟨a4,b4,rfl,h8,h9⟩:=h7.cons_inv;obtain⟨a5,b5,rfl,h10,h11⟩:=h9.cons_inv;obtain⟨r,rfl⟩:=Zup h2;obtain⟨x,rfl,_⟩:=h4.int_inv Tryz.underlying3;obtain⟨y,rfl,_⟩:=h6.string_inv Tryz.underlying9;obtain⟨l,rfl,hl⟩:=Zym h8;obtain⟨z,rfl,_⟩:=h10.int_inv Tryz.underlying2;rw[h11.nil_inv];exact⟨⟨r,x,y,l,z⟩,rfl,hl⟩
theorem Zyi {p:PV} (h:PA Tryz.prog 170 p):∃e:Pr,p=pr e:=by
 obtain⟨cs,rfl,h1⟩:=PA.agg ZwX h;have h1:PTs Tryz.prog [9,9] cs:=h1.struct_inv Tryz.underlying170;obtain⟨a,b,rfl,h2,h3⟩:=h1.cons_inv;obtain⟨c,d,rfl,h4,h5⟩:=h3.cons_inv;obtain⟨x,rfl,_⟩:=h2.string_inv Tryz.underlying9;obtain⟨y,rfl,_⟩:=h4.string_inv Tryz.underlying9;rw[h5.nil_inv];exact⟨⟨x,y⟩,rfl⟩
theorem Zxy {cs:List PV} (h:PT Tryz.prog 73 cs):∃l:List Pr,cs= [.sl .no (l.map pr)]∧l.length≤maxLen:=by
 obtain⟨l,rfl,h1,h2⟩:=h.slice_inv ZzN Tryz.underlying73;obtain⟨xs,rfl,_⟩:=ZfJ (enc:=pr) (Q:=fun _=>True) (fun p hp=>by
  obtain⟨s,rfl⟩:=Zyi (h2 p hp);exact⟨s,rfl,trivial⟩)
 exact⟨xs,rfl,by simpa using h1⟩
def Zwh (x:Ln):List PV:= [.int .i64 x.kind,.int .i64 x.at'.sc,.str x.at'.gr,.str x.at'.nm,.str x.nm,.str x.ot,.int .i64 x.fac,.int .i64 x.fd.at'.sc,.str x.fd.at'.gr,.str x.fd.at'.nm,.int .i64 x.fd.kind,.str x.fd.df,.sl .no (x.fd.cases'.map .str),.int .i64 x.fd.worth,.sl .no (x.fo.map pr),.sl .no (x.ba.map pr)]
theorem Zyl {cs:List PV} (h:PT Tryz.prog 75 cs):∃x:Ln,cs=Zwh x∧LenLn' x:=by
 have h1:PTs Tryz.prog [3,34,9,9,2,63,73,73] cs:=h.struct_inv Tryz.underlying75;obtain⟨a1,b1,rfl,h2,h3⟩:=h1.cons_inv;obtain⟨a2,b2,rfl,h4,h5⟩:=h3.cons_inv;obtain⟨a3,b3,rfl,h6,h7⟩:=h5.cons_inv;obtain⟨a4,b4,rfl,h8,h9⟩:=h7.cons_inv;obtain⟨a5,b5,rfl,h10,h11⟩:=h9.cons_inv;obtain⟨a6,b6,rfl,h12,h13⟩:=h11.cons_inv;obtain⟨a7,b7,rfl,h14,h15⟩:=h13.cons_inv;obtain⟨a8,b8,rfl,h16,h17⟩:=h15.cons_inv;obtain⟨x1,rfl,_⟩:=h2.int_inv Tryz.underlying3;obtain⟨x2,rfl⟩:=Zup h4;obtain⟨x3,rfl,_⟩:=h6.string_inv Tryz.underlying9;obtain⟨x4,rfl,_⟩:=h8.string_inv Tryz.underlying9;obtain⟨x5,rfl,_⟩:=h10.int_inv Tryz.underlying2;obtain⟨x6,rfl,k6⟩:=ZzV h12;obtain⟨x7,rfl,k7⟩:=Zxy h14;obtain⟨x8,rfl,k8⟩:=Zxy h16;rw[h17.nil_inv];exact⟨⟨x1,x2,x3,x4,x5,x6,x7,x8⟩,rfl,⟨k6,k7,k8⟩⟩
theorem Zyh {p:PV} (h:PA Tryz.prog 77 p):∃e:Eg,p=eg e∧LenLn' e.ln:=by
 obtain⟨cs,rfl,h1⟩:=PA.agg Zyv h;have h1:PTs Tryz.prog [25,25,75] cs:=h1.struct_inv Tryz.underlying77;obtain⟨a1,b1,rfl,h2,h3⟩:=h1.cons_inv;obtain⟨a2,b2,rfl,h4,h5⟩:=h3.cons_inv;obtain⟨a3,b3,rfl,h6,h7⟩:=h5.cons_inv;obtain⟨x1,rfl⟩:=Zn6 h2;obtain⟨x2,rfl⟩:=Zn6 h4;obtain⟨x3,rfl,k3⟩:=Zyl h6;rw[h7.nil_inv];exact⟨⟨x1,x2,x3⟩,rfl,k3⟩
theorem pa_edges {p:PV} (h:PA Tryz.prog 22 p):∃l:List Eg,p=egs l∧l.length≤maxLen∧ ∀e∈l,LenLn' e.ln:=by
 obtain⟨l,rfl,h1,h2⟩:=h.slice ZzL Tryz.underlying22;obtain⟨xs,rfl,h3⟩:=ZfJ (fun p hp=>Zyh (h2 p hp));exact⟨xs,rfl,by simpa using h1,h3⟩
theorem pa_tag {p:PV} (h:PA Tryz.prog 25 p):∃t:Tg,p=tg t:=by
 obtain⟨cs,rfl,h1⟩:=PA.agg Zyt h;obtain⟨r,rfl⟩:=Zn6 h1;exact⟨r,rfl⟩
open Go.PL
open Go.ChangeShapes Go.WideShapes Go.ChangeAt Go.RowKit
theorem ZzO:ZmW Tryz.prog 35=false:=by kernel_rfl
theorem ZzW {cs:List PV} (h:PT Tryz.prog 35 cs):∃l:List Tg,cs= [.sl .no (l.map tg)]∧l.length≤maxLen:=by
 obtain⟨l,rfl,h1,h2⟩:=h.slice_inv ZzO Tryz.underlying35;obtain⟨xs,rfl,_⟩:=ZfJ (enc:=tg) (Q:=fun _=>True) (fun p hp=>by
  obtain⟨s,rfl⟩:=pa_tag (h2 p hp);exact⟨s,rfl,trivial⟩)
 exact⟨xs,rfl,by simpa using h1⟩
theorem ZBR {p:PV} (h:PA Tryz.prog 37 p):∃o:Opn,p=opv o∧o.drops.length≤maxLen:=by
 obtain⟨cs,rfl,h1⟩:=PA.agg Zyu h;have h1:PTs Tryz.prog [25,25,2,9,3,9,34,2,4,9,35] cs:=h1.struct_inv Tryz.underlying37;obtain⟨a1,b1,rfl,h2,h3⟩:=h1.cons_inv;obtain⟨a2,b2,rfl,h4,h5⟩:=h3.cons_inv;obtain⟨a3,b3,rfl,h6,h7⟩:=h5.cons_inv;obtain⟨a4,b4,rfl,h8,h9⟩:=h7.cons_inv;obtain⟨a5,b5,rfl,h10,h11⟩:=h9.cons_inv;obtain⟨a6,b6,rfl,h12,h13⟩:=h11.cons_inv;obtain⟨a7,b7,rfl,h14,h15⟩:=h13.cons_inv;obtain⟨a8,b8,rfl,h16,h17⟩:=h15.cons_inv;obtain⟨a9,b9,rfl,h18,h19⟩:=h17.cons_inv;obtain⟨aa,ba,rfl,h20,h21⟩:=h19.cons_inv;obtain⟨ab,bb,rfl,h22,h23⟩:=h21.cons_inv;obtain⟨x1,rfl⟩:=Zn6 h2;obtain⟨x2,rfl⟩:=Zn6 h4;obtain⟨x3,rfl,_⟩:=h6.int_inv Tryz.underlying2;obtain⟨x4,rfl,_⟩:=h8.string_inv Tryz.underlying9;obtain⟨x5,rfl,_⟩:=h10.int_inv Tryz.underlying3;obtain⟨x6,rfl,_⟩:=h12.string_inv Tryz.underlying9;obtain⟨x7,rfl⟩:=Zup h14;obtain⟨x8,rfl,_⟩:=h16.int_inv Tryz.underlying2;obtain⟨x9,rfl⟩:=h18.bool_inv Tryz.underlying4;obtain⟨xa,rfl,_⟩:=h20.string_inv Tryz.underlying9;obtain⟨xb,rfl,kb⟩:=ZzW h22;rw[h23.nil_inv];exact⟨⟨x1,x2,x3,x4,x5,x6,x7,x8,x9,xa,xb⟩,rfl,kb⟩
open Go.PL
open Go.ChangeShapes Go.WideShapes Go.ChangeAt Go.RowKit
theorem ZzM:ZmW Tryz.prog 23=false:=by kernel_rfl
theorem pa_ops {p:PV} (h:PA Tryz.prog 23 p):∃l:List Opn,p=Zad l∧l.length≤maxLen:=by
 obtain⟨l,rfl,h1,h2⟩:=h.slice ZzM Tryz.underlying23;obtain⟨xs,rfl,h3⟩:=ZfJ (enc:=opv) (Q:=fun _=>True) (fun p hp=>by
  obtain⟨s,rfl,_⟩:=ZBR (h2 p hp);exact⟨s,rfl,trivial⟩)
 exact⟨xs,rfl,by simpa using h1⟩
theorem lenLn {x:Ln} (h:LenLn' x):LenLn x:=⟨h.c,h.f,h.b⟩
end Go.Proofs.YthingdchjkhfbaaGreat
