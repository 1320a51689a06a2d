/- Contracts of functions and laws of this seat, each for every input that it names: lemmas of the proof. -/
import Derived.Test.YthingdchjkhfbaaGreatXBr
import Derived.Test.YthingdchjkhfbaaGreatXBx
namespace Go.Proofs.YthingdchjkhfbaaGreat
set_option maxHeartbeats 64000000
set_option maxRecDepth 20000
set_option linter.unusedVariables false
set_option linter.unusedSimpArgs false
open Go.PL
structure ChT where
 l:List Fd
 n:Nat
 c:Int
def Ztn:List Fd→List Ln→Nat→ChT
 |fs,[],i=>⟨fs,i,0⟩
 |fs,x::xs,i=>if(Zq fs x).2≠0 then⟨[],i,(Zq fs x).2⟩else Ztn (Zq fs x).1 xs (i+1)
structure ChS (l:List Fd) (row:List Ln) where
 k:Nat
 fs:List Fd
 hk:k≤row.length
 ok:OkFs fs
 h:Ztn fs (row.drop k) k=Ztn l row 0
theorem Ztz {row:List Ln} {k:Nat} (hk:k<row.length):row.drop k=row.getD k default::row.drop (k+1):=by
 rw[getD_lt hk,List.drop_eq_getElem_cons hk]
open Go.PL
def Zce:List Ln→List Fd→Option (List Fd)
 | [],fs=>some fs
 |x::xs,fs=>if(Zq fs x).2≠0 then none else Zce xs (Zq fs x).1
theorem Zia (w v:List Ln) (fs:List Fd):Zce (w++v) fs=(Zce w fs).bind (Zce v):=by
 induction w generalizing fs with
 |nil=>rfl
 |cons e w ih=>
  simp only[List.cons_append,Zce];split
  ·rfl
  ·exact ih _
theorem ZrW (w:List Eg) (fs:List Fd):Zce (w.map (·.ln)) fs=Zby w fs:=by
 induction w generalizing fs with
 |nil=>rfl
 |cons e w ih=>
  simp only[List.map_cons,Zce,Zby];split
  ·rfl
  ·exact ih _
theorem ZhH {e:Eg} {w:List Eg} {fs gs:List Fd} (h:Zby (e::w) fs=some gs):∃f1,Zq fs e.ln=(f1,0)∧Zby w f1=some gs:=by
 simp only[Zby]at h;split at h
 ·cases h
 ·rename_i hz;exact⟨(Zq fs e.ln).1,Prod.ext rfl (Classical.not_not.1 hz),h⟩
theorem ZqB:∀(w:List Eg) {fs gs:List Fd},(∀e∈w,e.ln.kind≤8)→Zby w fs=some gs→Zce (w.reverse.map fun e=>ZbR e.ln) gs=some fs
 | [],fs,gs,_,h=>by cases h;rfl
 |e::w,fs,gs,hk,h=>by
  obtain⟨f1,ha,hw⟩:=ZhH h;have ih:=ZqB w (fun x hx=>hk x (by simp[hx])) hw;have hi:=ZiX (hk e (by simp)) ha;rw[List.reverse_cons,List.map_append,Zia,ih];show Zce [ZbR e.ln] f1=some fs;simp[Zce,hi]
theorem Zjj:∀(w:List Eg) {fs gs:List Fd},(∀e∈w,e.ln.kind≤8)→ZW fs=true→Zby w fs=some gs→ZW gs=true
 | [],fs,gs,_,hr,h=>by cases h;exact hr
 |e::w,fs,gs,hk,hr,h=>by
  obtain⟨f1,ha,hw⟩:=ZhH h;exact Zjj w (fun x hx=>hk x (by simp[hx])) (Zaa (ZiX (hk e (by simp)) ha)).1 hw
theorem Zsm:ZW ZhS=true:=by decide
theorem ZeH {w:List Eg} {fs gs:List Fd} (c:Nat) (h:Zby w fs=some gs):∃ms,Zby (w.take c) fs=some ms∧Zby (w.drop c) ms=some gs:=by
 rw[←List.take_append_drop c w,Zh9]at h;cases h1:Zby (w.take c) fs with
 |none=>rw[h1]at h;cases h
 |some ms=>rw[h1]at h;exact⟨ms,rfl,h⟩
theorem Zlh {m:List Eg} (ha:Apart m) {p q:List Eg} (hp:∀e∈p,e∈m) (hq:∀e∈q,e∈m):ZgR m (Zkg p q)=((p.drop (lcp p q)).reverse.map fun e=>ZbR e.ln)++(q.drop (lcp p q)).map (·.ln):=by
 unfold ZgR Zkg;rw[List.map_append,List.map_map,List.map_map];congr 1
 ·apply List.map_congr_left;intro e he;have:=ha.find (hp e (List.mem_of_mem_drop (List.mem_reverse.1 he)));simp[Zmm,upg,this]
 ·apply List.map_congr_left;intro e he;have:=ha.find (hq e (List.mem_of_mem_drop he));simp[Zmm,dn,this]
theorem Zja {e:Eg} (h:Zge e=true):e.ln.kind≤8:=by
 simp only[Zge,Bool.and_eq_true,decide_eq_true_eq]at h;exact h.2.2.2.1
theorem Zx4 {p q:List Eg} {k:Nat} (hp:k≤p.length) (hq:k≤q.length) (h:p.take k=q.take k):k≤lcp p q:=by
 by_cases hk:k≤lcp p q
 ·exact hk
 ·exfalso;apply Zml p q (by omega) (by omega);have e:(p.take k).getD (lcp p q) default=(q.take k).getD (lcp p q) default:=by rw[h]
  rw[getD_lt (by simp;omega),getD_lt (by simp;omega)]at e;rw[getD_lt (by omega),getD_lt (by omega)];simpa using e
open Go.PL
def ZuW:List Ln→Rf→Rf×Bool
 | [],r=>(r,true)
 |x::xs,r=>if(ZcW x r).2=false then(default,false)else ZuW xs (ZcW x r).1
def Zmi:List Ln→Rf→Bool
 | [],r=>true
 |x::xs,r=>if Zmj x r=false then false else if(ZcW x r).2=false then false else Zmi xs (ZcW x r).1
theorem Zlb (x:Ln) (xs:List Ln) (r:Rf):Zmi (x::xs) r=if Zmj x r=false then false else if(ZcW x r).2=false then false else Zmi xs (ZcW x r).1:=rfl
structure TrS (row:List Ln) (f:List Ln→Rf→Rf×Bool) (r0:Rf) where
 k:Nat
 r:Rf
 hk:k≤row.length
 h:f (row.drop k) r=f row r0
structure KpS (row:List Ln) (r0:Rf) where
 k:Nat
 r:Rf
 hk:k≤row.length
 h:Zmi (row.drop k) r=Zmi row r0
theorem Zut {m:List Eg} {a b:Tg} (hm:OkM m):(Zen m a b).1.length≤1000∧ ∀x∈(Zen m a b).1,OkLn x:=by
 unfold Zen;split
 ·simp
 ·rename_i h;have hl:=ZqK m a b hm;unfold Zsh at hl;rw[if_neg h]at hl;refine⟨by simp only at hl;simp[ZgR];omega,fun x hx=> ?_⟩;obtain⟨y,_,rfl⟩:=List.mem_map.1 hx;exact ZzR hm y
def kpc (x:Bool) (c:Int):PV:= .tup [.bool x,.int .i64 c]
theorem ZqJ (x:Bool) (c:Int):(kpc x c).dids= []:=rfl
open Go.PL
theorem Zd6 {l cs:List Fd} {x:Ln} (hk:x.kind=1∨x.kind=2∨x.kind=3∨x.kind=4∨x.kind=5∨x.kind=6∨x.kind=7∨x.kind=8∨x.kind=9∨x.kind=10) (h:Zbc l x=(cs,true)):cs.map (·.at')=Zc x:=by
 obtain⟨kind,at0,nm,ot,fac,fd,fo,ba⟩:=x;simp only at hk;rcases hk with rfl|rfl|rfl|rfl|rfl|rfl|rfl|rfl|rfl|rfl
 all_goals
  simp only[Zbc,Zco,Zc,Int.reduceEq,if_false,if_true,List.getD_cons_zero]at h ⊢
  (repeat' split at h)
  all_goals
   simp only[Prod.mk.injEq,Bool.false_eq_true,and_false,reduceCtorEq]at h;try(rw[←h.1];rfl)
structure Pair (l m:List Fd) (x y:Ln):Prop where
 a:Zq l x=(m,0)
 b:Zq m y=(l,0)
 g:Zl y=Zc x
 c:Zc y=Zl x
def On (l:List Fd) (r:Rf):Prop:=∃f∈l,f.at'=r
theorem ZlY {l:List Rf} {r:Rf}:(l.any fun a=>decide (r=a))=true↔r∈l:=by
 simp[List.any_eq_true]
theorem ZlK {x:Ln} {r:Rf} (hx:Zu x=true) (h:r∉Zl x):ZcW x r=(r,true):=by
 have:((Zl x).any fun a=>decide (r=a))=false:=by
  rw[Bool.eq_false_iff];exact fun e=>h (ZlY.1 e)
 unfold ZcW;rw[hx,if_neg (by simp),if_pos this]
theorem Zrj {x:Ln} {r:Rf} (hx:Zu x=true) (h:r∈Zl x):ZcW x r=if(Zc x).length=0 then(default,false)else((Zc x).getD 0 default,true):=by
 unfold ZcW;rw[hx,if_neg (by simp),if_neg (by rw[ZlY.2 h];simp)]
inductive Pairs:List Fd→List Fd→List Ln→List Ln→Prop
 |nil (l:List Fd):Pairs l l [] []
 |cons {l m n:List Fd} {x y:Ln} {xs ys:List Ln} (h:Pair l m x y) (hs:Pairs m n xs ys):Pairs l n (x::xs) (ys++ [y])
theorem Pairs.append {l m n:List Fd} {xs ys us vs:List Ln} (h1:Pairs l m xs ys) (h2:Pairs m n us vs):Pairs l n (xs++us) (vs++ys):=by
 induction h1 with
 |nil=>simpa using h2
 |cons h hs ih=>rw[←List.append_assoc];exact .cons h (ih h2)
open Go.PL
theorem ZpL {f:Fd} (h:ZO f=true):f.kind=1∨f.kind=2∨f.kind=3∨f.kind=4:=by
 simp only[ZO,Bool.and_eq_true]at h;have h:=h.2
 by_cases k1:f.kind=1
 ·exact .inl k1
 ·rw[if_neg k1]at h
  by_cases k3:f.kind=3
  ·exact .inr (.inr (.inl k3))
  ·simp only[if_neg k3,Bool.and_eq_true]at h;have h:=h.2;simp[Zp0]at h;omega
theorem Zkx (f:Fd) (s:Str) (hf:f.cases'.length≤maxLen):PL.Pure Tryz.prog 80 [fld f,.str s] (.bool (Zbg f s)):=by
 have hR:=Zd1 f hf;have hT:=Zgy s;have hC:=Zgb f.cases' s hf;unfold Zbg;cases hr:ZO f
 ·rw[hr]at hR;refine pov Tryz.func80 (by decide) rfl Tryz.ntmps80 Tryz.results80 (by simp) rfl ?_;simp only[go_sem,fld];refine Za (hR) ?_ ?_ ?_;iterate 2 simp only[go_sem,fld]
  simp only[go_sem,Bool.false_and]
 ·have hk:=ZpL hr;rw[hr]at hR;have e41:decide ((s.length:Int)≤40)=decide ((s.length:Int)<41):=by rw[Bool.eq_iff_iff];simp;omega
  rw[e41]at hT;obtain⟨a,kind,d,c,w⟩:=f;simp only at hk hR hT hC ⊢;rcases hk with rfl|rfl|rfl|rfl
  ·refine pov Tryz.func80 (by decide) rfl Tryz.ntmps80 Tryz.results80 (by simp) rfl ?_;simp only[go_sem,fld];refine Za (hR) ?_ ?_ ?_;iterate 2 simp only[go_sem,fld]
   simp only[go_sem];rfl
  ·refine pov Tryz.func80 (by decide) rfl Tryz.ntmps80 Tryz.results80 (by simp) rfl ?_;simp only[go_sem,fld];refine Za (hR) ?_ ?_ ?_;iterate 2 simp only[go_sem,fld]
   simp only[go_sem];refine Za (hT) ?_ ?_ ?_;iterate 2 simp only[go_sem]
   simp only[go_sem];simp
  ·refine pov Tryz.func80 (by decide) rfl Tryz.ntmps80 Tryz.results80 (by simp) rfl ?_;simp only[go_sem,fld];refine Za (hR) ?_ ?_ ?_;iterate 2 simp only[go_sem,fld]
   simp only[go_sem];refine Za (hC) ?_ ?_ ?_;iterate 2 simp only[go_sem,ZaM]
   simp only[go_sem];simp
  ·refine pov Tryz.func80 (by decide) rfl Tryz.ntmps80 Tryz.results80 (by simp) rfl ?_;simp only[go_sem,fld];refine Za (hR) ?_ ?_ ?_;iterate 2 simp only[go_sem,fld]
   simp only[go_sem];refine Za (hT) ?_ ?_ ?_;iterate 2 simp only[go_sem]
   simp only[go_sem];simp
def ZgK (l:List Fd) (o:Opn):Bool:=
 ZcV o&&(if Zs o=false then true else decide ((Zy l o.at').2=0)&&(if o.kind=3 then decide ((Zy l o.at').1.kind=1)else if o.has=true then Zbg (Zy l o.at').1 o.text else decide ((Zy l o.at').1.kind=4)))
theorem ZkA (l:List Fd) (o:Opn) (hl:OkFs l) (ho:o.drops.length≤maxLen):PL.Pure Tryz.prog 41 [Zn l,opv o] (.bool (ZgK l o)):=by
 have hR:=Zgc o ho;have hP:=Zgo o;have hF:=Zd2 l o.at' (by have:=hl.n;omega) hl.c;have okf:=ZqT hl o.at';have hT:=Zkx (Zy l o.at').1 o.text (by rw[Zd];omega);unfold ZgK;cases hr:ZcV o
 ·rw[hr]at hR;refine pov Tryz.func41 (by decide) rfl Tryz.ntmps41 Tryz.results41 (by simp) rfl ?_;simp only[go_sem,Zn,opv];refine Za (hR) ?_ ?_ ?_;iterate 2 simp only[go_sem,opv]
  simp only[go_sem,Bool.false_and]
 rw[hr]at hR;cases hp:Zs o
 ·rw[hp]at hP;refine pov Tryz.func41 (by decide) rfl Tryz.ntmps41 Tryz.results41 (by simp) rfl ?_;simp only[go_sem,Zn,opv];refine Za (hR) ?_ ?_ ?_;iterate 2 simp only[go_sem,opv]
  simp only[go_sem,opv];refine Za (hP) ?_ ?_ ?_;iterate 2 simp only[go_sem,opv]
  simp only[go_sem,Bool.true_and,if_true]
 rw[hp]at hP;simp only[Bool.true_and,Bool.true_eq_false,if_false];generalize Zy l o.at'=y at *;obtain⟨f,c⟩:=y;simp only at hT okf ⊢
 by_cases hc:c=0
 ·have ec:(c !=0)=false:=by simpa using hc
  simp only[hc,decide_true,Bool.true_and]
  by_cases k3:o.kind=3
  ·have e3:(o.kind==3)=true:=by simpa using k3
   have ek:(f.kind==1)=decide (f.kind=1):=by rw[Bool.eq_iff_iff];simp
   rw[if_pos k3];refine pov Tryz.func41 (by decide) rfl Tryz.ntmps41 Tryz.results41 (by simp) rfl ?_;simp only[go_sem,Zn,opv];refine Za (hR) ?_ ?_ ?_;iterate 2 simp only[go_sem,opv]
   simp only[go_sem,opv];refine Za (hP) ?_ ?_ ?_;iterate 2 simp only[go_sem,opv]
   simp only[go_sem];refine Za (hF) ?_ ?_ ?_;iterate 2 simp only[go_sem,Zn,ref]
   simp only[go_sem,ZhG,fld,ec,e3,ek]
  ·have e3:(o.kind==3)=false:=by simpa using k3
   rw[if_neg k3];have ek:(f.kind==4)=decide (f.kind=4):=by rw[Bool.eq_iff_iff];simp
   cases hh:o.has
   ·refine pov Tryz.func41 (by decide) rfl Tryz.ntmps41 Tryz.results41 (by simp) rfl ?_;simp only[go_sem,Zn,opv,hh];refine Za hR ?_ ?_ ?_
    ·simp only[go_sem,opv]
    ·simp only[go_sem,opv,hh]
    simp only[go_sem,opv];refine Za hP ?_ ?_ ?_
    ·simp only[go_sem,opv]
    ·simp only[go_sem,opv,hh]
    simp only[go_sem];refine Za (hF) ?_ ?_ ?_;iterate 2 simp only[go_sem,Zn,ref]
    simp only[go_sem,ZhG,fld,ec,e3,ek,Bool.false_eq_true,if_false]
   ·refine pov Tryz.func41 (by decide) rfl Tryz.ntmps41 Tryz.results41 (by simp) rfl ?_;simp only[go_sem,Zn,opv,hh];refine Za hR ?_ ?_ ?_
    ·simp only[go_sem,opv]
    ·simp only[go_sem,opv,hh]
    simp only[go_sem,opv];refine Za hP ?_ ?_ ?_
    ·simp only[go_sem,opv]
    ·simp only[go_sem,opv,hh]
    simp only[go_sem];refine Za (hF) ?_ ?_ ?_;iterate 2 simp only[go_sem,Zn,ref]
    simp only[go_sem,ZhG,fld,ec,e3];refine Za (hT) ?_ ?_ ?_;iterate 2 simp only[go_sem,fld]
    simp only[go_sem,if_true]
 ·have ec:(c !=0)=true:=by simpa using hc
  refine pov Tryz.func41 (by decide) rfl Tryz.ntmps41 Tryz.results41 (by simp) rfl ?_;simp only[go_sem,Zn,opv];refine Za (hR) ?_ ?_ ?_;iterate 2 simp only[go_sem,opv]
  simp only[go_sem,opv];refine Za (hP) ?_ ?_ ?_;iterate 2 simp only[go_sem,opv]
  simp only[go_sem];refine Za (hF) ?_ ?_ ?_;iterate 2 simp only[go_sem,Zn,ref]
  simp only[go_sem,ZhG,fld,ec,hc,decide_false,Bool.false_and]
open Go.PL
theorem Zgp {f:Fd} (h:ZO f=true) (hk:f.kind=1):1≤f.worth∧f.worth≤1048576:=by
 simp[ZO,hk]at h;omega
theorem Zjg {l:List Fd} {o:Opn} (h:ZgK l o=true):ZcV o=true:=by
 simp only[ZgK,Bool.and_eq_true]at h;exact h.1
theorem Zof {o:Opn} (h:ZcV o=true): -1048576≤o.delta∧o.delta≤1048576:=by
 simp[ZcV]at h;omega
theorem Zyk {o:Opn} (h:o.kind=3):Zs o=true:=by simp[Zs,h]
theorem Zgg {l:List Fd} {o:Opn} (h:ZgK l o=true) (hp:Zs o=true):(Zy l o.at').2=0∧
  (o.kind=3→(Zy l o.at').1.kind=1)∧(o.kind≠3→o.has=true→Zbg (Zy l o.at').1 o.text=true)∧(o.kind≠3→o.has=false→(Zy l o.at').1.kind=4):=by
 simp only[ZgK,hp,Bool.and_eq_true,Bool.true_eq_false,if_false,decide_eq_true_eq]at h;obtain⟨_,h1,h2⟩:=h;refine⟨h1,fun k=> ?_,fun k hh=> ?_,fun k hh=> ?_⟩
 ·rw[if_pos k]at h2;simpa using h2
 ·rw[if_neg k,if_pos hh]at h2;exact h2
 ·rw[if_neg k,if_neg (by rw[hh];simp)]at h2;simpa using h2
theorem ZaR {l:List Rf} {r:Rf} (h:ZE l r<0):r∉l:=by
 unfold ZE idx at h;cases hf:l.findIdx? fun a=>decide (r=a)with
 |none=>
  rw[List.findIdx?_eq_none_iff]at hf;intro hm;have:=hf r hm;simp at this
 |some i=>rw[hf]at h;simp at h;omega
theorem ZbY {l:List Rf} {r:Rf} (h:¬ZE l r<0):∃g:Nat,ZE l r=(g:Int)∧g<l.length∧l.getD g default=r:=by
 unfold ZE idx at h ⊢;cases hf:l.findIdx? fun a=>decide (r=a)with
 |none=>rw[hf]at h;exact absurd (by decide) h
 |some i=>
  rw[List.findIdx?_eq_some_iff_getElem]at hf;obtain⟨h1,h2,_⟩:=hf;refine⟨i,rfl,h1,?_⟩;rw[getD_lt h1];simpa using(of_decide_eq_true h2).symm
theorem Z2 {a r:Rf} (h:¬ZE [a] r<0):a=r:=by
 obtain⟨g,_,h2,h3⟩:=ZbY h;have:g=0:=by simpa using h2
 subst this;simpa using h3
theorem Zwr {x:Ln} {o:Opn} (h:OkOp o):OkOp (ZaE x o).1:=by
 have hd:=h.d;refine⟨?_⟩;unfold ZaE Zh;repeat' split
 all_goals first|exact hd|exact Nat.zero_le _
open Go.PL
theorem ZnK {d f:Int} (hd: -1099511627776≤d∧d≤1099511627776) (h:(Zfo 0 d f).2=0):2≤f∧f≤1000∧(Zfo 0 d f).1=f*d:=by
 unfold Zfo at h ⊢
 by_cases hf:2≤f∧f≤1000
 ·rw[if_neg (fun g=>g hf)]at h ⊢;have b1: -1099511627776000≤f*d∧f*d≤1099511627776000:=by
   have p1:f*d≤f*1099511627776:=Int.mul_le_mul_of_nonneg_left hd.2 (by omega);have p2:f*(-1099511627776)≤f*d:=Int.mul_le_mul_of_nonneg_left hd.1 (by omega);omega
  have e:IntKind.i64.wrap (0+IntKind.i64.wrap (f*d))=f*d:=by
   rw[ZfG (n:=f*d) (by omega),Int.zero_add,ZfG (by omega)]
  refine⟨hf.1,hf.2,?_⟩;split at h
  ·cases h
  ·rename_i hp;rw[if_neg hp];split at h
   ·rename_i hfi;rw[if_pos hfi];exact e
   ·cases h
 ·rw[if_pos hf]at h;cases h
theorem Zn2 {l m:List Fd} {x:Ln} {o p:Opn} {f:Fd} (ha:Zq l x=(m,0)) (hf:Zy l o.at'=(f,0)) (h1:f.kind=1) (k3:o.kind=3) (hd: -1099511627776≤o.delta∧o.delta≤1099511627776) (ho:ZaE x o=(p,true)):
  ∃g,Zy m p.at'=(g,0)∧g.kind=1∧p.kind=3∧1≤g.worth∧g.worth≤1048576∧p.delta*g.worth=o.delta*f.worth:=by
 obtain⟨hl,hx,cs,l1,e1,e2,e3⟩:=Zaa ha;obtain⟨a1,a2,a3,a4,a5⟩:=ZdG hl e2;obtain⟨b1,b2,b3,b4,b5⟩:=Zbh a1 e3;have hk:=(ZT hx).1;have hm:=(ZP.1 b1).2;have hfl:=ZaA (l:=l) (r:=o.at') (by rw[hf]);rw[hf]at hfl;simp only at hfl;obtain⟨fm,fa⟩:=hfl;have fr:=(ZP.1 hl).2.2 f fm;have fw:=Zgp fr h1;have coming:∀g∈cs,Zy m g.at'=(g,0)∧ZO g=true:=fun g hg=>⟨ZaD hm.1 ((b2 g).2 (.inr hg)),(b3 g hg).1⟩
 unfold ZaE at ho;rw[if_neg (by rw[hx];simp),if_neg (by omega)]at ho
 by_cases hp:ZE (Zl x) o.at'<0
 ·rw[if_pos hp]at ho;cases ho;have hfm:f∈m:=(b2 f).2 (.inl ((a2 f).2 ⟨fm,by rw[fa];exact ZaR hp⟩));have:=ZaD hm.1 hfm;rw[fa]at this;exact⟨f,this,h1,k3,fw.1,fw.2,rfl⟩
 ·rw[if_neg hp]at ho
  by_cases hb:(Zh x o).2=false
  ·rw[if_pos hb]at ho;simp at ho
  ·rw[if_neg hb]at ho;simp only[Prod.mk.injEq,and_true]at ho;subst ho;have hb':(Zh x o).2=true:=by simpa using hb
   clear hb b4 b5 a3 a4 a5;obtain⟨kind,at',nm,ot,fac,fd,fo,ba⟩:=x;simp only at hk;have mv:∀r,o.at'=at'→cs= [⟨r,f.kind,f.df,f.cases',f.worth⟩]→ ∃g,Zy m r=(g,0)∧g.kind=1∧1≤g.worth∧g.worth≤1048576∧o.delta*g.worth=o.delta*f.worth:=fun r _ hc=>by
    have:=coming ⟨r,f.kind,f.df,f.cases',f.worth⟩ (by rw[hc];simp);exact⟨_,this.1,h1,fw.1,fw.2,rfl⟩
   rcases hk with rfl|rfl|rfl|rfl|rfl|rfl|rfl|rfl|rfl|rfl
   ·have hat:at'=o.at':=Z2 (by simpa[Zl]using hp);subst hat;simp[Zbc,Zc,hf]at e1;obtain⟨g,g1,g2,g3,g4,g5⟩:=mv (Zv o.at' nm) rfl e1.symm;exact⟨g,by simpa[Zh,Zj,Zc]using g1,g2,by simpa[Zh,Zj]using k3,g3,g4,by simpa[Zh,Zj]using g5⟩
   ·exact absurd (show ZE (Zl ⟨2,at',nm,ot,fac,fd,fo,ba⟩) o.at'<0 from(by decide:(-1:Int)<0)) hp
   ·simp[Zh]at hb'
   ·have hat:at'=o.at':=Z2 (by simpa[Zl]using hp);subst hat;simp[Zbc,Zc,hf]at e1;obtain⟨g,g1,g2,g3,g4,g5⟩:=mv ⟨o.at'.sc,[],o.at'.nm⟩ rfl e1.symm;exact⟨g,by simpa[Zh,Zj,Zc]using g1,g2,by simpa[Zh,Zj]using k3,g3,g4,by simpa[Zh,Zj]using g5⟩
   ·have hat:at'=o.at':=Z2 (by simpa[Zl]using hp);subst hat;simp[Zbc,Zc,hf]at e1;obtain⟨g,g1,g2,g3,g4,g5⟩:=mv ⟨o.at'.sc,nm,o.at'.nm⟩ rfl e1.symm;exact⟨g,by simpa[Zh,Zj,Zc]using g1,g2,by simpa[Zh,Zj]using k3,g3,g4,by simpa[Zh,Zj]using g5⟩
   ·have hat:at'=o.at':=Z2 (by simpa[Zl]using hp);subst hat;simp[Zbc,hf]at e1;have:=coming ⟨Zv o.at' nm,1,[],[],f.worth⟩ (by rw[←e1.1];simp);exact⟨⟨Zv o.at' nm,1,[],[],f.worth⟩,by simpa[Zh,Zj,Zc]using this.1,rfl,by simpa[Zh,Zj]using k3,fw.1,fw.2,by simp[Zh,Zj]⟩
   ·simp[Zh,k3]at hb'
   ·simp[Zh,ZcP,k3]at hb'
   ·have hgo:Zl ⟨9,at',nm,ot,fac,fd,fo,ba⟩= [Zv at' nm,Zv at' ot]:=by simp[Zl]
    rw[hgo]at hp;obtain⟨g,hg1,hg2,hg3⟩:=ZbY hp;simp[Zbc,Zco]at e1;split at e1
    ·simp at e1
    split at e1
    ·simp at e1
    ·rename_i u1 u2;simp only[not_or,Decidable.not_not]at u1 u2;simp only[Prod.mk.injEq,and_true]at e1;obtain⟨q1,q2⟩:=u1;obtain⟨q3,q4,q5⟩:=u2;have hA:=ZaA q1;have hAr:=Zgp ((ZP.1 hl).2.2 _ hA.1) q2;have hcm:=coming ⟨at',1,[],[],(Zy l (Zv at' nm)).1.worth⟩ (by rw[←e1];simp);have hb2:Zh ⟨9,at',nm,ot,fac,fd,fo,ba⟩ o=(ZK o (ZcD o (g:Int) fac).1,(ZcD o (g:Int) fac).2):=by
      simp only[Zh,hgo,hg1];simp
     rw[hb2]at hb' ⊢;simp only at hb';refine⟨⟨at',1,[],[],(Zy l (Zv at' nm)).1.worth⟩,by simpa[Zj,Zc,ZK]using hcm.1,rfl,by simpa[Zj,ZK]using k3,hAr.1,hAr.2,?_⟩;simp only[Zj,ZK];have hg01:g=0∨g=1:=by simp at hg2;omega
     rcases hg01 with rfl|rfl
     ·have hat:Zv at' nm=o.at':=by simpa using hg3
      rw[hat,hf];simp[ZcD,k3]
     ·have hat:Zv at' ot=o.at':=by simpa using hg3
      have hdd:ZaU o.delta=true:=Zab.2 ⟨by omega,by omega⟩;have hmd:ZcD o ((1:Nat):Int) fac=((Zfo 0 o.delta fac).1,decide ((Zfo 0 o.delta fac).2=0)):=by
       unfold ZcD;rw[if_neg (fun h=>h k3),if_neg (by omega),if_pos hdd]
      rw[hmd]at hb' ⊢;obtain⟨j1,j2,j3⟩:=ZnK hd (of_decide_eq_true hb');rw[hat,hf]at q5;simp only at q5 ⊢;have hwr:IntKind.i64.wrap ((Zy l (Zv at' nm)).1.worth*fac)=(Zy l (Zv at' nm)).1.worth*fac:=by
       have p1:(Zy l (Zv at' nm)).1.worth*fac≤1048576*fac:=Int.mul_le_mul_of_nonneg_right hAr.2 (by omega);have p2:0≤(Zy l (Zv at' nm)).1.worth*fac:=Int.mul_nonneg (by omega) (by omega);exact ZfG (by omega)
      rw[hwr]at q5;rw[j3,q5,Int.mul_comm fac,Int.mul_assoc,Int.mul_comm fac]
   ·simp[Zh,k3]at hb'
def ZB:List Ln→Opn→Opn×Bool
 | [],o=>(o,true)
 |x::xs,o=>if(ZaE x o).2=false then(default,false)else ZB xs (ZaE x o).1
theorem Zah (x:Ln) (xs:List Ln) (o:Opn):ZB (x::xs) o=if(ZaE x o).2=false then(default,false)else ZB xs (ZaE x o).1:=rfl
structure Worth (l:List Fd) (o:Opn) (w:Int):Prop where
 k:o.kind=3
 f:∃f,Zy l o.at'=(f,0)∧f.kind=1∧1≤f.worth∧f.worth≤1048576∧o.delta*f.worth=w
 b: -1099511627776≤w∧w≤1099511627776
theorem Worth.delta {l:List Fd} {o:Opn} {w:Int} (h:Worth l o w): -1099511627776≤o.delta∧o.delta≤1099511627776:=by
 obtain⟨_,⟨f,_,_,h1,h2,h3⟩,h4,h5⟩:=h;have hw:o.delta*f.worth=w:=h3;constructor
 ·by_cases hn:o.delta < -1099511627776
  ·exfalso;have p:o.delta*f.worth≤o.delta*1:=Int.mul_le_mul_of_nonpos_left (by omega) h1;omega
  ·omega
 ·by_cases hn:1099511627776<o.delta
  ·exfalso;have p:o.delta*1≤o.delta*f.worth:=Int.mul_le_mul_of_nonneg_left h1 (by omega);omega
  ·omega
theorem Worth.over {l m:List Fd} {x:Ln} {o p:Opn} {w:Int} (h:Worth l o w) (ha:Zq l x=(m,0)) (ho:ZaE x o=(p,true)):Worth m p w:=by
 have hd:=h.delta;obtain⟨k,⟨f,h0,hk,h1,h2,h3⟩,hb⟩:=h;obtain⟨g,g1,g2,g3,g4,g5,g6⟩:=Zn2 ha h0 hk k hd ho;exact⟨g3,⟨g,g1,g2,g4,g5,by rw[g6,h3]⟩,hb⟩
theorem Worth.start {l:List Fd} {o:Opn} (hf:ZgK l o=true) (hl:ZW l=true) (k3:o.kind=3):∃w,Worth l o w:=by
 obtain⟨f0,f1,_,_⟩:=Zgg hf (Zyk k3);have f1:=f1 k3;have hd:=Zof (Zjg hf);have hfe:Zy l o.at'=((Zy l o.at').1,0):=Prod.ext rfl f0;have hz:=ZaA f0;generalize (Zy l o.at').1=f at *;have fw:=Zgp ((ZP.1 hl).2.2 _ hz.1) f1;refine⟨o.delta*f.worth,k3,⟨f,hfe,f1,fw.1,fw.2,rfl⟩,?_⟩;have p1:o.delta*f.worth≤1048576*f.worth:=Int.mul_le_mul_of_nonneg_right hd.2 (by omega);have p2:(-1048576)*f.worth≤o.delta*f.worth:=Int.mul_le_mul_of_nonneg_right hd.1 (by omega);omega
open Go.PL
theorem ZhJ {x:Ln} (hx:Zu x=true):Zl (ZbR x)=Zc x∧Zc (ZbR x)=Zl x:=by
 have hk:=(ZT hx).1;obtain⟨kind,⟨sc,gr,n0⟩,nm,ot,fac,fd,fo,ba⟩:=x;simp only at hk;rcases hk with rfl|rfl|rfl|rfl|rfl|rfl|rfl|rfl|rfl|rfl
 all_goals simp[Zl,Zc,ZbR,Zv,Zu]at hx ⊢
 all_goals simp_all
theorem Zdt (c:Rf) (cs:List Rf):ZE (c::cs) c=0:=by
 unfold ZE idx;simp[List.findIdx?_cons]
theorem Zei {l:List Rf} {r:Rf} (h:r∉l):ZE l r= -1:=by
 rcases Zn4 l r with e|⟨g,hg,e⟩
 ·exact e
 ·obtain⟨g',_,h2,h3⟩:=ZbY (l:=l) (r:=r) (by omega);exact absurd (h3▸Zg h2) h
theorem Za0 {x:Ln} {o:Opn} (hx:Zu x=true) (hp:Zs o=true):ZaE x o=if ZE (Zl x) o.at'<0 then(o,true)else if(Zh x o).2=false then(default,false)else(Zj (Zh x o).1 ((Zc x).getD 0 default),true):=by
 unfold ZaE;have:¬(o.kind≠3∧o.kind≠4):=by
  simp[Zs]at hp;omega
 rw[if_neg (by rw[hx];simp),if_neg this]
theorem ZbX (o:Opn) (r:Rf):Zj (Zj o r) o.at'=o:=by cases o;rfl
theorem ZnA {l:List Fd} {o:Opn} {f:Fd} (hf:ZgK l o=true) (hp:Zs o=true) (he:Zy l o.at'=(f,0)) (hk:f.kind=1):o.kind=3:=by
 obtain⟨_,_,h2,h3⟩:=Zgg hf hp;rw[he]at h2 h3;refine Decidable.byContradiction fun h=> ?_
 cases hh:o.has
 ·have:=h3 h hh;simp only at this;omega
 ·have:=h2 h hh;simp[Zbg,hk]at this
theorem ZwF {fo ba:List Pr} (h:Zem fo ba=true) {s:Str} (hs:ZcZ fo s=true):(Zai fo s).2=true∧Zai ba (Zai fo s).1=(s,true):=by
 unfold ZcZ at hs;rw[List.any_eq_true]at hs;obtain⟨q,hq,e⟩:=hs;have e:q.fr'=s:=by simpa using e
 unfold Zem at h;have:=List.all_eq_true.1 h q hq;simp only[Zig,e,Bool.and_eq_true,beq_iff_eq]at this;exact⟨this.1,Prod.ext this.2.2 this.2.1⟩
theorem ZiD {x:Ln} {o p:Opn} (h:ZaE x o=(p,true)):p.id=o.id∧p.time=o.time∧p.kind=o.kind:=by
 have key:∀q:Opn×Bool,q=ZaE x o→q.2=true→q.1.id=o.id∧q.1.time=o.time∧q.1.kind=o.kind:=by
  intro q hq hq2;subst hq
  revert hq2
  unfold ZaE Zh;repeat' split
  all_goals first|(intro _;exact⟨rfl,rfl,rfl⟩)|(intro h;exact absurd h (by simp))
 exact key (p,true) h.symm rfl
open Go.PL
def Zlv (o:Opn) (t:Tg):Opn:=⟨o.id,t,o.time,o.cart,o.kind,o.item,o.at',o.delta,o.has,o.text,o.drops⟩
def ZxL (m:List Eg) (a b:Tg) (o:Opn):Opn×Bool:=
 if Zbz m a b≠0 then(default,false)else if(ZB (Zen m a b).1 o).2=false then(default,false)else(Zlv (ZB (Zen m a b).1 o).1 b,true)
def Zf7 (m:List Eg) (o:Opn) (b:Tg):Int:=
 if ZcV o=false then 5 else if upC m o.sch≠0 then upC m o.sch else if upC m b≠0 then upC m b else if ZgK (Zaz (Zf m) o.sch).1 o=false then 16 else 0
structure SeenT where
 o:Opn
 ok:Bool
 c:Int
 deriving DecidableEq,Inhabited
def toT (m:List Eg) (o:Opn) (b:Tg):SeenT:=if Zf7 m o b≠0 then⟨default,false,Zf7 m o b⟩else⟨(ZxL m o.sch b o).1,(ZxL m o.sch b o).2,0⟩
def Zfv (m:List Eg) (o:Opn):Bool:=ZcV o&&(decide (upC m o.sch=0)&&ZgK (Zaz (Zf m) o.sch).1 o)
theorem ZrQ {m:List Eg} {o:Opn} {b:Tg}:Zf7 m o b=0↔ZcV o=true∧upC m o.sch=0∧upC m b=0∧ZgK (Zaz (Zf m) o.sch).1 o=true:=by
 unfold Zf7;cases h1:ZcV o
 ·simp
 ·by_cases h2:upC m o.sch=0
  ·by_cases h3:upC m b=0
   ·cases h4:ZgK (Zaz (Zf m) o.sch).1 o
    ·simp[h2,h3]
    ·simp[h2,h3]
   ·simp[h2,h3]
  ·simp[h2]
theorem Zq4 {m:List Eg} (hm:OkM m) (hr:RightM m) {a b:Tg} (hu:upC m a=0) (hv:upC m b=0):Zce (Zen m a b).1 (Zaz (Zf m) a).1=some (Zaz (Zf m) b).1:=by
 obtain⟨wa,fa,_⟩:=Zar hu;obtain⟨wb,fb,_⟩:=Zar hv;unfold Zen;rw[if_neg (by rw[Zbe.2 ⟨hu,hv⟩];simp)];have kp:∀e∈Zct m a,e.ln.kind≤8:=fun e he=>Zja (hr.r e (wa.mem e he))
 obtain⟨ms,a1,a2⟩:=ZeH (lcp (Zct m a) (Zct m b)) fa;obtain⟨ns,b1,b2⟩:=ZeH (lcp (Zct m a) (Zct m b)) fb;rw[ZgQ,b1]at a1;cases a1;show Zce (ZgR m (Zkg (Zct m a) (Zct m b))) _=_;rw[Zlh hm.a wa.mem wb.mem,Zia,ZqB _ (fun e he=>kp e (List.mem_of_mem_drop he)) a2];rw[Option.bind_some,ZrW,b2]
theorem Zep {m:List Eg} (hr:RightM m) {a:Tg} (hu:upC m a=0):ZW (Zaz (Zf m) a).1=true:=by
 obtain⟨wa,fa,_⟩:=Zar hu;exact Zjj _ (fun e he=>Zja (hr.r e (wa.mem e he))) Zsm fa
theorem Worth.sch {l:List Fd} {o:Opn} {w:Int} (h:Worth l o w) (t:Tg):Worth l (Zlv o t) w:=⟨h.k,h.f,h.b⟩
end Go.Proofs.YthingdchjkhfbaaGreat
