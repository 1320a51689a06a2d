/- Contracts of functions and laws of this seat, each for every input that it names: lemmas of the proof. -/
import Derived.Test.YthingdchjkhfbaaGreatXDi
import Derived.Test.YthingdchjkhfbaaGreatXDc
import Derived.Test.YthingdchjkhfbaaGreatPlI
import Derived.Test.YthingdchjkhfbaaGreatXCh
import Derived.Test.YthingdchjkhfbaaGreatXBy
namespace Go.Proofs.YthingdchjkhfbaaGreat
set_option maxHeartbeats 64000000
set_option maxRecDepth 20000
set_option linter.unusedVariables false
set_option linter.unusedSimpArgs false
open Go.PL
theorem Zx1 {l:List En} (h:ZtP l=false):l.length≤40∧ ∀e∈l,e.l.length≤410:=by
 simp only[ZtP,Bool.or_eq_false_iff,decide_eq_false_iff_not,List.any_eq_false]at h;refine⟨by omega,fun e he=> ?_⟩;have:=h.2 e he;simp[ZCO]at this;omega
theorem Zv2 {f:Fd} {e:En} (h:Zbm f e=true):e.l.length≤400:=by
 by_cases k1:f.kind=1
 ·rw[(ZnB h k1).2];exact Nat.zero_le _
 ·obtain⟨_,h2,h3,_⟩:=ZkZ h k1
  by_cases k4:f.kind=4
  ·exact h3 k4
  ·have:=h2 k4;omega
theorem Zjb {L:List Fd} {es:List En} (h:Z8 L es=true):es.length=L.length∧ ∀e∈es,e.l.length≤400:=by
 simp only[Z8,Bool.and_eq_true,decide_eq_true_eq,List.all_eq_true,List.mem_range]at h;refine⟨h.1.symm,fun e he=> ?_⟩;obtain⟨i,hi,rfl⟩:=List.getElem_of_mem he;have:=h.2 i (by omega);rw[getD_lt hi]at this;exact Zv2 this
theorem Zgn {m:List Fd} {d:Dc} (h:Zbk m d=true):OkDc d:=by
 simp only[Zbk,ZgO,Bool.and_eq_true,Bool.not_eq_true',decide_eq_false_iff_not,List.all_eq_true,List.mem_range]at h;obtain⟨⟨h1,h2,h3⟩,h4⟩:=h;have h16:=Zlt h1;have hs:∀sc,(Zr m sc).length≤16:=fun sc=>Nat.le_trans (List.length_filter_le _ _) h16
 have e0:=Zjb h3;refine⟨by have:=hs 0;omega,by omega,fun e he=>by have:=e0.2 e he;omega,fun r hr=> ?_⟩;obtain⟨i,hi,rfl⟩:=List.getElem_of_mem hr;have:=h4 i hi;simp only[ZeR,Bool.and_eq_true]at this;have e1:=Zjb this.2;rw[getD_lt hi]at e1;exact⟨by have:=hs 1;omega,fun e he=>by have:=e1.2 e he;omega⟩
theorem ZqS {l:List Fd} {x:Ln} {d:Dc}:OkDc (Zds l x d).1:=by
 by_cases h:(Zds l x d).2=0
 ·exact Zgn (Zlo h)
 ·have:(Zds l x d).1=default:=by
   unfold Zds at h ⊢;split
   ·rfl
   split
   ·rfl
   split
   ·rfl
   split
   ·rfl
   ·rename_i h1 h2 h3 _ h4;exfalso;apply h;rw[if_neg h1,if_neg h2,if_neg h3,h4]
  rw[this];exact⟨by decide,by decide,(fun e he=>by cases he),(fun r hr=>by cases hr)⟩
open Go.PL
open Go.PL
open Go.PL
structure WyS (m:List Eg) (id0:Tg) where
 k:Nat
 id:Tg
 way:List Eg
 hk:k≤m.length+1
 hl:way.length=k
 h:ZxK m (m.length+1-k) id way=ZsT m id0
open Go.PL
open Go.PL
open Go.PL
def toL:List Ln→List Fd→Dc→Dc×Int
 | [],_,d=>(d,0)
 |x::xs,l,d=>if(Zds l x d).2≠0 then(default,(Zds l x d).2)else toL xs (Zq l x).1 (Zds l x d).1
theorem ZmN (x:Ln) (xs:List Ln) (l:List Fd) (d:Dc):toL (x::xs) l d=if(Zds l x d).2≠0 then(default,(Zds l x d).2)else toL xs (Zq l x).1 (Zds l x d).1:=rfl
def toM (m:List Eg) (a b:Tg) (d:Dc):Dc×Int:=
 if Zbz m a b≠0 then(default,Zbz m a b)else if Zbk (Zaz (Zf m) a).1 d=false then(default,5)else toL (Zen m a b).1 (Zaz (Zf m) a).1 d
theorem Zun {l:List Fd} {x:Ln} {d:Dc} (h:(Zds l x d).2=0):(Zq l x).2=0∧Zbk l d=true:=by
 unfold Zds at h;split at h
 ·rename_i hn;exact absurd h hn
 split at h
 ·simp at h
 ·rename_i h1 h2;exact⟨by simpa using h1,by simpa using h2⟩
def ZA8 (d:Dc):List PV:= [.sl .no (d.head.map ent),.sl .no (d.rows.map row)]
structure ToS (row:List Ln) (l0:List Fd) (d0:Dc) where
 k:Nat
 l:List Fd
 d:Dc
 hk:k≤row.length
 okl:OkFs l
 okd:OkDc d
 h:toL (row.drop k) l d=toL row l0 d0
theorem ZzT {m:List Eg} {a:Tg} (hm:OkM m) (h:upC m a=0):OkFs (Zaz (Zf m) a).1:=by
 obtain⟨wa,fa,_⟩:=Zar h;exact ZqU _ (fun e he=>hm.l e (wa.mem e he)) ZqV fa
theorem ZxS (m:List Eg) (a b:Tg) (d:Dc) (hm:OkM m) (hr:RightM m) (hd:OkDc d):PL.Pure Tryz.prog 22 [tr (Zf m),tg a,tg b,doc d] (Znp (toM m a b d)):=by
 have hR:=ZlT m a b hm hr;obtain⟨hrl,hro⟩:=Zut (a:=a) (b:=b) hm;have hc2:(Zen m a b).2=Zbz m a b:=by unfold Zen;split<;>simp_all
 unfold toM
 by_cases hc:Zbz m a b=0
 ·rw[if_neg (fun h=>h hc)];have hS:=Zbo m a hm;have hu:=(Zbe.1 hc).1;have hu':(Zaz (Zf m) a).2=0:=hu;have okA:=ZzT hm hu;have hD:=ZiM (Zaz (Zf m) a).1 d (by have:=okA.n;rw[Zd];omega) okA.c hd.fine;have hO:=ZsY d hd.h hd.r hd.e hd.s;rw[hc]at hc2;clear hu;generalize Zen m a b=rw0 at *;obtain⟨row,c0⟩:=rw0;generalize Zaz (Zf m) a=sa at *;obtain⟨A,c1⟩:=sa;simp only at hc2 hrl hro hu' okA hD ⊢;subst hc2 hu';cases hrd:Zbk A d
  ·rw[hrd]at hD;rw[if_pos rfl];refine pov Tryz.func22 (by decide) rfl Tryz.ntmps22 Tryz.results22 (by simp) (Zdh _) ?_;simp only[go_sem,tr,tg,doc];refine ZdY ?_;simp only[go_sem];refine Za (hR) ?_ ?_ ?_;iterate 2 simp only[go_sem,tr,tg]
   simp only[go_sem,Zr9,ZgW,tr,tg];refine Za (hS) ?_ ?_ ?_;iterate 2 simp only[go_sem,tr,tg]
   simp only[go_sem,ZaB,Zn];refine Za (hD) ?_ ?_ ?_;iterate 2 simp only[go_sem,Zn,doc]
   simp only[go_sem,Znp,ZaZ]
  ·rw[hrd]at hD;rw[if_neg (by decide)];refine pov Tryz.func22 (by decide) rfl Tryz.ntmps22 Tryz.results22 (by simp) (Zdh _) ?_;simp only[go_sem,tr,tg,doc];refine Zj5 (ι:=ToS row A d) 76 (fun x=> [(7,.ptr 7 0),(8,.ptr 8 0),(10,ZgW row),(12,Zn x.l),(13,.int .i64 (x.k:Int))]) (fun x=> [(7,ZA8 x.d,false),(8,[.sl .nil [],.sl .nil []],false)]) (fun x=> []) (fun x=>row.length-x.k) 0 _ (by exact rfl) (fun x=>⟨(Fc5 rfl rfl rfl rfl rfl),Fc2 rfl rfl⟩) (fun x=> ?_) (fun cut=> ?_)
   ·obtain⟨k,l,d1,hk,okl,okd,h⟩:=x;simp only
    by_cases he:k=row.length
    ·have hb:((k:Int)==(row.length:Int))=true:=by simp[he]
     have hd':toL row A d=(d1,0):=by rw[←h,he,List.drop_length];rfl
     rw[hd'];simp only[go_sem,ZgW,List.length_map,hb,Znp,doc,ZA8]
    ·have hb:((k:Int)==(row.length:Int))=false:=by simp;omega
     have hka:k<row.length:=by omega
     have i0:(0:Int)≤(k:Int):=by omega
     have i1:(k:Int)<(row.length:Int):=by omega
     have w1:IntKind.i64.wrap ((k:Int)+1)=((k+1:Nat):Int):=by rw[w64 (by omega)];rfl
     have okx:=hro _ (Zg (d:=default) hka);have hP:=ZrC l (row.getD k default) d1 okl okx okd;have hA:=Zhl l (row.getD k default) okl okx;rw[Ztz hka,ZmN]at h
     by_cases hz:(Zds l (row.getD k default) d1).2=0
     ·rw[if_neg (fun h=>h hz)]at h;have ha0:=(Zun hz).1;have okn:=ZqS (l:=l) (x:=row.getD k default) (d:=d1);have okm:=ZpF okl okx;generalize Zds l (row.getD k default) d1=ov at *;obtain⟨d2,c2⟩:=ov;generalize Zq l (row.getD k default)=ap at *;obtain⟨l2,c3⟩:=ap;simp only at hz ha0 okn okm h;subst hz ha0;simp only[go_sem,ZgW,List.length_map,hb];refine Ze (by kernel_rfl) (by kernel_rfl) ?_;simp only[go_sem,Zgl hka,lns,i0,i1,Zn,List.length_map,ZA8];refine Za (hP) ?_ ?_ ?_;iterate 2 simp only[go_sem,Zn,lns,doc]
      simp only[go_sem,Znp,doc,Zn,Zgl hka,lns,i0,i1,List.length_map];refine Za (hA) ?_ ?_ ?_;iterate 2 simp only[go_sem,Zn,lns]
      simp only[go_sem,ZaB,Zn,w1];exact⟨⟨k+1,l2,d2,by omega,okm,okn,h⟩,by show row.length-(k+1)<row.length-k;omega,⟨rfl,(Fc5 rfl rfl rfl rfl rfl),Fc2 ⟨rfl,rfl⟩ ⟨rfl,rfl⟩,fnl⟩⟩
     ·rw[if_pos hz]at h;have hz':((Zds l (row.getD k default) d1).2 !=0)=true:=bne_iff_ne.2 hz;rw[←h];generalize Zds l (row.getD k default) d1=ov at *;obtain⟨d2,c2⟩:=ov;simp only at hz';simp only[go_sem,ZgW,List.length_map,hb];refine Ze (by kernel_rfl) (by kernel_rfl) ?_;simp only[go_sem,Zgl hka,lns,i0,i1,Zn,List.length_map,ZA8];refine Za (hP) ?_ ?_ ?_;iterate 2 simp only[go_sem,Zn,lns,doc]
      simp only[go_sem,Znp,doc,hz',ZaZ];rfl
   ·simp only[go_sem];refine Za (hR) ?_ ?_ ?_;iterate 2 simp only[go_sem,tr,tg]
    simp only[go_sem,Zr9,ZgW,tr,tg];refine Za (hS) ?_ ?_ ?_;iterate 2 simp only[go_sem,tr,tg]
    simp only[go_sem,ZaB,Zn];refine Za (hD) ?_ ?_ ?_;iterate 2 simp only[go_sem,Zn,doc]
    simp only[go_sem];refine Za (hO) ?_ ?_ ?_;iterate 2 simp only[go_sem,doc]
    simp only[go_sem,doc];exact Zax (cut ⟨0,A,d,Nat.zero_le _,okA,hd,rfl⟩ _ ⟨rfl,(Fc5 rfl rfl rfl rfl rfl),Fc2 ⟨rfl,rfl⟩ ⟨rfl,rfl⟩,fnl⟩)
 ·rw[if_pos hc];have hc':(Zbz m a b !=0)=true:=by simpa using hc
  have hcr:Zen m a b=([],Zbz m a b):=by unfold Zen;rw[if_pos hc]
  rw[hcr]at hR;refine pov Tryz.func22 (by decide) rfl Tryz.ntmps22 Tryz.results22 (by simp) (Zdh _) ?_;simp only[go_sem,tr,tg,doc];refine ZdY ?_;simp only[go_sem];refine Za (hR) ?_ ?_ ?_;iterate 2 simp only[go_sem,tr,tg]
  simp only[go_sem,Zr9,ZgW,hc',Znp,ZaZ]
open Go.PL
theorem Zsp {l:List Fd} (hl:ZW l=true) (sc:Int):∀f∈Zr l sc,∀g∈Zr l sc,f.at'=g.at'→f=g:=fun f hf g hg e=>Zeu hl (List.mem_filter.1 hf).1 (List.mem_filter.1 hg).1 e
theorem Ziz {l:List Fd} {sc:Int} {f:Fd} (hf:f∈l) (h:f.at'.sc=sc):f∈Zr l sc:=List.mem_filter.2 ⟨hf,by simpa using h⟩
theorem Zms {l:List Fd} {sc:Int} {f:Fd} (h:f∈Zr l sc):f∈l∧f.at'.sc=sc:=by
 obtain⟨h1,h2⟩:=List.mem_filter.1 h;exact⟨h1,by simpa using h2⟩
open Go.PL
def ZhR (sc:Int):List Ln→List Fd→List En→List En×Int
 | [],_,es=>(es,0)
 |x::xs,l,es=>if(ZaH x (Zr (Zq l x).1 sc) es).2≠0 then([],(ZaH x (Zr (Zq l x).1 sc) es).2)else ZhR sc xs (Zq l x).1 (ZaH x (Zr (Zq l x).1 sc) es).1
theorem Zc6 (sc:Int) (x:Ln) (xs:List Ln) (l:List Fd) (es:List En):ZhR sc (x::xs) l es=if(ZaH x (Zr (Zq l x).1 sc) es).2≠0 then([],(ZaH x (Zr (Zq l x).1 sc) es).2)else ZhR sc xs (Zq l x).1 (ZaH x (Zr (Zq l x).1 sc) es).1:=rfl
open Go.PL
open Go.PL
open Go.PL
def Ze2 (x:Ln) (r:Rf):List Rf:=if Zu x=false then []else if ZE (Zc x) r<0 then [r]else if x.kind=6∧0<ZE (Zc x) r then []else Zl x
theorem Zna (x:Ln) (r:Rf) (hx:OkLn x):PL.Pure Tryz.prog 95 [lns x,ref r] (refs (Ze2 x r)):=by
 have hR:=Zbn x hx;have hG:=Ze7 x hx;have hC:=Zd0 x hx;unfold Ze2;cases hlr:Zu x
 ·rw[hlr]at hR;refine pov Tryz.func95 (by decide) rfl Tryz.ntmps95 Tryz.results95 (by simp) (ZcG _) ?_;simp only[go_sem,lns,ref];refine Za (hR) ?_ ?_ ?_;iterate 2 simp only[go_sem,lns]
  simp only[go_sem,if_true,refs,List.map_nil]
 rw[hlr]at hR;have hg:Zil x=Zl x:=by simp[Zil,hlr]
 have hc:ZeX x=Zc x:=by simp[ZeX,hlr]
 rw[hg]at hG;rw[hc]at hC;have hI:PL.Pure Tryz.prog 125 [refs (Zc x),ref r] (.int .i64 (ZE (Zc x) r)):=Zex (Zc x) r (by have:=ZfM x;rw[Zd];omega);generalize ZE (Zc x) r=i at *;generalize Zl x=goes at *;generalize Zc x=comes at *;simp only[Bool.true_eq_false,if_false]
 by_cases h:i<0
 ·rw[if_pos h];refine pov Tryz.func95 (by decide) rfl Tryz.ntmps95 Tryz.results95 (by simp) (ZcG _) ?_;simp only[go_sem,lns,ref];refine Za (hR) ?_ ?_ ?_;iterate 2 simp only[go_sem,lns]
  simp only[go_sem,lns];refine Ze (by kernel_rfl) (by kernel_rfl) ?_;simp only[go_sem,lns];refine Za (hC) ?_ ?_ ?_;iterate 2 simp only[go_sem,lns]
  simp only[go_sem,refs];refine Za (hI) ?_ ?_ ?_;iterate 2 simp only[go_sem,refs,ref]
  simp only[go_sem,h,refs,ref,List.map_cons,List.map_nil]
 ·rw[if_neg h]
  by_cases k6:x.kind=6
  ·have e6:(x.kind==6)=true:=by simpa using k6
   by_cases h0:0<i
   ·rw[if_pos ⟨k6,h0⟩];refine pov Tryz.func95 (by decide) rfl Tryz.ntmps95 Tryz.results95 (by simp) (ZcG _) ?_;simp only[go_sem,lns,ref];refine Za (hR) ?_ ?_ ?_;iterate 2 simp only[go_sem,lns]
    simp only[go_sem,lns];refine Ze (by kernel_rfl) (by kernel_rfl) ?_;simp only[go_sem,lns];refine Za (hC) ?_ ?_ ?_;iterate 2 simp only[go_sem,lns]
    simp only[go_sem,refs];refine Za (hI) ?_ ?_ ?_;iterate 2 simp only[go_sem,refs,ref]
    simp only[go_sem,h,h0,e6,refs,List.map_nil]
   ·rw[if_neg (fun hh=>h0 hh.2)];refine pov Tryz.func95 (by decide) rfl Tryz.ntmps95 Tryz.results95 (by simp) (ZcG _) ?_;simp only[go_sem,lns,ref];refine Za (hR) ?_ ?_ ?_;iterate 2 simp only[go_sem,lns]
    simp only[go_sem,lns];refine Ze (by kernel_rfl) (by kernel_rfl) ?_;simp only[go_sem,lns];refine Za (hC) ?_ ?_ ?_;iterate 2 simp only[go_sem,lns]
    simp only[go_sem,refs];refine Za (hI) ?_ ?_ ?_;iterate 2 simp only[go_sem,refs,ref]
    simp only[go_sem,h,h0,e6];refine Za (hG) ?_ ?_ ?_;iterate 2 simp only[go_sem,lns]
    simp only[go_sem,refs]
  ·have e6:(x.kind==6)=false:=by simpa using k6
   rw[if_neg (fun hh=>k6 hh.1)];refine pov Tryz.func95 (by decide) rfl Tryz.ntmps95 Tryz.results95 (by simp) (ZcG _) ?_;simp only[go_sem,lns,ref];refine Za (hR) ?_ ?_ ?_;iterate 2 simp only[go_sem,lns]
   simp only[go_sem,lns];refine Ze (by kernel_rfl) (by kernel_rfl) ?_;simp only[go_sem,lns];refine Za (hC) ?_ ?_ ?_;iterate 2 simp only[go_sem,lns]
   simp only[go_sem,refs];refine Za (hI) ?_ ?_ ?_;iterate 2 simp only[go_sem,refs,ref]
   simp only[go_sem,h,e6];refine Za (hG) ?_ ?_ ?_;iterate 2 simp only[go_sem,lns]
   simp only[go_sem,refs]
open Go.PL
def Zes (b:List Rf) (s:Rf):List Rf:=if(b.any fun x=>decide (s=x))=true then b else b++ [s]
def Ze8 (b src:List Rf):List Rf:=src.foldl Zes b
def ZaX (x:Ln):List Rf→List Rf→Option (List Rf)
 |acc,[]=>some acc
 |acc,e::es=>if ZdX x e=false then none else ZaX x (Ze8 acc (Ze2 x e)) es
theorem Zfa (x:Ln) (acc:List Rf) (e:Rf) (es:List Rf):ZaX x acc (e::es)=if ZdX x e=false then none else ZaX x (Ze8 acc (Ze2 x e)) es:=rfl
def Zg8:List Ln→List Rf→Bool
 | [],_=>true
 |x::xs,es=>match ZaX x [] es with|none=>false|some b=>Zg8 xs b
def Zf6:List Ln→Rf→Bool
 | [],_=>true
 |x::xs,r=>ZdX x r&&(Ze2 x r).all (Zf6 xs)
theorem ZwR (P:Rf→Bool) (b:List Rf) (s:Rf):(Zes b s).all P=(b.all P&&P s):=by
 unfold Zes;split
 ·rename_i h;obtain⟨y,hy,e⟩:=List.any_eq_true.1 h;have e:s=y:=by simpa using e
  subst e;rw[Bool.eq_iff_iff,Bool.and_eq_true,List.all_eq_true];exact⟨fun g=>⟨g,g s hy⟩,fun g=>g.1⟩
 ·simp[List.all_append]
theorem Zqn (P:Rf→Bool):∀(src b:List Rf),(Ze8 b src).all P=(b.all P&&src.all P)
 | [],b=>by simp[Ze8]
 |s::src,b=>by
  have:=Zqn P src (Zes b s);rw[ZwR]at this;show(Ze8 (Zes b s) src).all P=_;rw[this,List.all_cons,Bool.and_assoc]
theorem ZkN (x:Ln) (P:Rf→Bool):∀(es acc:List Rf),(match ZaX x acc es with|none=>false|some b=>b.all P)=(acc.all P&&es.all fun e=>ZdX x e&&(Ze2 x e).all P)∨(ZaX x acc es=none∧(es.all fun e=>ZdX x e&&(Ze2 x e).all P)=false)
 | [],acc=> .inl (by simp[ZaX])
 |e::es,acc=>by
  rw[Zfa];cases h:ZdX x e
  ·right;simp[h]
  ·simp only[Bool.true_eq_false,if_false];rcases ZkN x P es (Ze8 acc (Ze2 x e))with g|⟨g1,g2⟩
   ·left;rw[g,Zqn,List.all_cons,h,Bool.true_and,Bool.and_assoc]
   ·right;refine⟨g1,?_⟩;rw[List.all_cons,g2,Bool.and_false]
theorem Zou:∀(xs:List Ln) (es:List Rf),Zg8 xs es=es.all (Zf6 xs)
 | [],es=>by
  have:Zf6 []=fun _=>true:=rfl
  rw[this];simp[Zg8]
 |x::xs,es=>by
  have hf:Zf6 (x::xs)=fun e=>ZdX x e&&(Ze2 x e).all (Zf6 xs):=rfl
  rw[hf];show(match ZaX x [] es with|none=>false|some b=>Zg8 xs b)=_;have he:(match ZaX x [] es with|none=>false|some b=>Zg8 xs b)=(match ZaX x [] es with|none=>false|some b=>b.all (Zf6 xs)):=by
   cases ZaX x [] es with
   |none=>rfl
   |some b=>exact Zou xs b
  rw[he];rcases ZkN x (Zf6 xs) es []with g|⟨g1,g2⟩
  ·rw[g];simp
  ·rw[g1,g2]
def Zj9 (G b:List Rf):Nat:=G.countP fun g=>b.any fun y=>decide (g=y)
theorem Zqr (b:List Rf) (s:Rf):∀G,Zj9 G b≤Zj9 G (b++ [s]):=fun G=>List.countP_mono_left (fun g _ h=>by rw[List.any_append,h,Bool.true_or])
theorem Ztp {b:List Rf} {s:Rf} (hs:(b.any fun y=>decide (s=y))=false):∀ {G:List Rf},s∈G→Zj9 G b+1≤Zj9 G (b++ [s])
 |g::G,h=>by
  unfold Zj9;rw[List.countP_cons,List.countP_cons];have hm:=Zqr b s G;unfold Zj9 at hm
  by_cases hg:g=s
  ·subst hg;have e1:((b++ [g]).any fun y=>decide (g=y))=true:=by simp
   rw[hs,e1];simp only[if_true,Bool.false_eq_true,if_false];omega
  ·have:=Ztp hs (G:=G) ((List.mem_cons.1 h).resolve_left (fun e=>hg e.symm));unfold Zj9 at this;cases hb:(b.any fun y=>decide (g=y))
   ·simp only[Bool.false_eq_true,if_false];omega
   ·rw[List.any_append,hb];simp only[Bool.true_or,if_true];omega
theorem Zto (G b:List Rf):Zj9 G b≤G.length:=List.countP_le_length
theorem ZwS (G b:List Rf) (s:Rf):Zj9 G b≤Zj9 G (Zes b s):=by
 unfold Zes;split
 ·exact Nat.le_refl _
 ·exact Zqr b s G
theorem ZwU (b:List Rf) (s:Rf):(Zes b s).length≤b.length+1:=by
 unfold Zes;split<;>simp
theorem ZuR {G b:List Rf} {s:Rf} (h:s∈G):(Zes b s).length+Zj9 G b≤b.length+Zj9 G (Zes b s):=by
 unfold Zes;split
 ·exact Nat.le_refl _
 ·rename_i hn;have:=Ztp (b:=b) (s:=s) (Bool.eq_false_iff.2 hn) h;rw[List.length_append,List.length_singleton];omega
theorem Znc {G:List Rf}:∀(src b:List Rf),(∀s∈src,s∈G)→(Ze8 b src).length+Zj9 G b≤b.length+Zj9 G (Ze8 b src)
 | [],b,_=>Nat.le_refl _
 |s::src,b,h=>by
  have h1:=ZuR (b:=b) (h s (by simp));have h2:=Znc src (Zes b s) (fun t ht=>h t (by simp[ht]));show(Ze8 (Zes b s) src).length+_≤_+Zj9 G (Ze8 (Zes b s) src);omega
theorem ZjY (x:Ln) (e:Rf):(Ze2 x e).length≤1∨ ∀s∈Ze2 x e,s∈Zl x:=by
 unfold Ze2;split
 ·simp
 split
 ·simp
 split
 ·simp
 ·exact .inr fun s h=>h
theorem Zht {G src b:List Rf} {n:Nat} (hb:b.length≤n+Zj9 G b) (hs:src.length≤1∨ ∀s∈src,s∈G):(Ze8 b src).length≤n+1+Zj9 G (Ze8 b src):=by
 rcases hs with h|h
 ·match src,h with
  | [],_=>show b.length≤n+1+Zj9 G b;omega
  | [s],_=>
   show(Zes b s).length≤n+1+Zj9 G (Zes b s);have:=ZwU b s;have:=ZwS G b s;omega
 ·have:=Znc src b h;omega
theorem Zyr (x:Ln) (e:Rf):(Ze2 x e).length≤2:=by
 have:=ZgN x;unfold Ze2;repeat' split
 all_goals simp
 all_goals omega
theorem ZwQ {x:Ln} {e:Rf} (j:Nat):((Ze2 x e).take j).length≤1∨ ∀s∈(Ze2 x e).take j,s∈Zl x:=by
 rcases ZjY x e with h|h
 ·left;rw[List.length_take];omega
 ·exact .inr fun s hs=>h s (List.mem_of_mem_take hs)
theorem Zta (b src:List Rf) (s:Rf):Ze8 b (src++ [s])=Zes (Ze8 b src) s:=by
 unfold Ze8;rw[List.foldl_append];rfl
theorem ZuB (l:List Rf):Sized 3 (l.map ref):=fun e he=>by
 obtain⟨x,_,rfl⟩:=List.mem_map.1 he;rfl
theorem ZxW {l:List Rf} {k:Nat} (h:k<l.length):l.drop k=l.getD k default::l.drop (k+1):=by
 rw[List.drop_eq_getElem_cons h,getD_lt h]
def Zyf (x:Option (List Rf)):PV:= .tup [refs (x.getD []),.bool x.isSome]
theorem Zul (x:Option (List Rf)):(Zyf x).dids= []:=by simp only[Zyf,PV.dids,PV.didsL,ZcG,List.append_nil]
theorem Zo9 (u:Ln) (es:List Rf) (hx:OkLn u) (hl:es.length≤100000):PL.Pure Tryz.prog 51 [lns u,refs es] (Zyf (ZaX u [] es)):=by
 have hm:es.length≤maxLen:=by rw[Zd];omega
 have hgl:=ZgN u;refine pov Tryz.func51 (by decide) rfl Tryz.ntmps51 Tryz.results51 (by simp) (Zul _) ?_;simp only[go_sem,lns,refs];refine Zbt 6 36 3 34 rfl rfl ?_;refine ZI (ι:= { x:Nat×(List Rf) // x.1≤(es).length∧(ZaX u x.2 (es.drop x.1)=ZaX u [] es∧x.2.length≤x.1+Zj9 (Zl u) x.2) }) 40 (fun x=> [(2,.ptr 2 0),(6,.sl (.row 36) (x.1.2.map ref)),(11,refs es),(12,.int .i64 (es.length:Int)),(13,.int .i64 (x.1.1:Int))]) (fun x=> [(2,Zjx u,false)]) (fun x=> [(36,.live (x.1.2.length) (3) (34))]) (fun x=>(es).length-x.1.1) ⟨(0,[]),Nat.zero_le _,⟨rfl,by simp⟩⟩ ⟨rfl,(Fc5 rfl rfl rfl rfl rfl),(fcs ⟨rfl,rfl⟩ fnl),(fcs rfl fnl)⟩ (fun x=>⟨(Fc5 rfl (by simp[PV.ids,ZV]) rfl rfl rfl),(fcs rfl fnl)⟩) (fun x=> ?_);obtain⟨⟨k,acc⟩,hk,hI⟩:=x;simp only at hk hI ⊢;obtain⟨hI,hJ⟩:=hI;have hcl:=Zto (Zl u) acc
 by_cases h:(k:Int)<(es.length:Int)
 ·(have hka:k<(es).length:=by omega);(have w1:=Zcd hka (hm));(have i1:(0:Int)≤(k:Int):=by omega)
  have hS:=Zs5 u (es.getD k default) hx;have hC:=Zna u (es.getD k default) hx;rw[ZxW hka,Zfa]at hI;cases hs:ZdX u (es.getD k default)
  ·rw[hs]at hS;rw[if_pos hs]at hI;simp only[go_sem,refs,h,ZaP hka,ref,i1,Zjx];refine Za (hS) ?_ ?_ ?_;iterate 2 simp only[go_sem,lns,ref]
   simp only[go_sem,←hI,Zyf,refs,List.map_nil,Option.getD_none,Option.isSome_none]
  ·rw[hs]at hS;rw[if_neg (by rw[hs];simp)]at hI;have hsl:=Zyr u (es.getD k default);have hsm:(Ze2 u (es.getD k default)).length≤maxLen:=by rw[Zd];omega
   have htk:=fun j=>ZwQ (x:=u) (e:=es.getD k default) j
   have hfin:(Ze2 u (es.getD k default)).length≤1∨ ∀s∈Ze2 u (es.getD k default),s∈Zl u:=ZjY _ _;generalize Ze2 u (es.getD k default)=src at *;simp only[go_sem,refs,h,ZaP hka,ref,i1,Zjx];refine Za (hS) ?_ ?_ ?_;iterate 2 simp only[go_sem,lns,ref]
   simp only[go_sem,Zjx];refine Za (hC) ?_ ?_ ?_;iterate 2 simp only[go_sem,lns,ref]
   simp only[go_sem,refs];refine ZI (ι:= { x:Nat×(List Rf) // x.1≤(src).length∧(x.2=Ze8 acc (src.take x.1)) }) 40 (fun x=> [(2,.ptr 2 0),(6,.sl (.row 36) (x.1.2.map ref)),(11,refs es),(12,.int .i64 (es.length:Int)),(13,.int .i64 (k:Int)),(23,refs src),(24,.int .i64 (src.length:Int)),(25,.int .i64 (x.1.1:Int))]) (fun x=> [(2,Zjx u,false)]) (fun x=> [(36,.live (x.1.2.length) (3) (34))]) (fun x=>(src).length-x.1.1) ⟨(0,acc),Nat.zero_le _,rfl⟩ ⟨rfl,(Fc8 rfl rfl rfl rfl rfl rfl rfl rfl),(fcs ⟨rfl,rfl⟩ fnl),(fcs rfl fnl)⟩ (fun x=>⟨(Fc8 rfl (by simp[PV.ids,ZV]) rfl rfl rfl rfl rfl rfl),(fcs rfl fnl)⟩) (fun x=> ?_);obtain⟨⟨kb,oin⟩,hkb,hIb⟩:=x;simp only at hkb hIb ⊢;have hol:=Zht hJ (htk kb);have hoc:=Zto (Zl u) oin;rw[←hIb]at hol
   by_cases hb:(kb:Int)<(src.length:Int)
   ·(have hkab:kb<(src).length:=by omega);(have w1b:=Zcd hkab (hsm));(have i1b:(0:Int)≤(kb:Int):=by omega)
    have hN:=ZiL oin (src.getD kb default) (by rw[Zd];omega);have hsn:Ze8 acc (src.take (kb+1))=Zes oin (src.getD kb default):=by
     rw[ZY (d:=default) hkab,Zta,hIb]
    unfold Zes at hsn;generalize (oin.any fun y=>decide (src.getD kb default=y))=c at *;cases c
    ·rw[if_neg (by simp)]at hsn;have hr:=Za1 (show oin.length+1≤1000000 by omega) (show 40≤1000 by omega);simp only[go_sem,refs,hb,ZaP hkab,ref,i1b];refine Za (hN) ?_ ?_ ?_;iterate 2 simp only[go_sem,refs,ref]
     simp only[go_sem,ZuB,hr,w1b,ref];exact⟨⟨(kb+1,oin++ [src.getD kb default]),by(try simp only);omega,hsn.symm⟩,by show(src).length-(kb+1)<(src).length-kb;omega,⟨rfl,(Fc8 rfl (by simp[upd,ref]) rfl rfl rfl rfl rfl rfl),(fcs ⟨rfl,rfl⟩ fnl),(fcs (by simp[upd]) fnl)⟩⟩
    ·rw[if_pos rfl]at hsn;simp only[go_sem,refs,hb,ZaP hkab,ref,i1b];refine Za (hN) ?_ ?_ ?_;iterate 2 simp only[go_sem,refs,ref]
     simp only[go_sem,w1b];exact⟨⟨(kb+1,oin),by(try simp only);omega,hsn.symm⟩,by show(src).length-(kb+1)<(src).length-kb;omega,⟨rfl,(Fc8 rfl (by simp[upd,ref]) rfl rfl rfl rfl rfl rfl),(fcs ⟨rfl,rfl⟩ fnl),(fcs (by simp[upd]) fnl)⟩⟩
   ·obtain rfl:kb=src.length:=by omega
    have hfb:=Zht hJ hfin;rw[List.take_length]at hIb;rw[←hIb]at hI hfb;simp only[go_sem,refs,hb,w1];exact⟨⟨(k+1,oin),by(try simp only);omega,⟨hI,hfb⟩⟩,by show(es).length-(k+1)<(es).length-k;omega,⟨rfl,(Fc5 rfl (by simp[upd,ref]) rfl rfl rfl),(fcs ⟨rfl,rfl⟩ fnl),(fcs (by simp[upd]) fnl)⟩⟩
 ·obtain rfl:k=es.length:=by omega
  rw[List.drop_length]at hI;simp only[go_sem,refs,h,←hI,ZaX,Zyf,Option.getD_some,Option.isSome_some]
open Go.PL
theorem ZkO (u:Ln):∀(es acc:List Rf) (n:Nat),acc.length≤n+Zj9 (Zl u) acc→ ∀b,ZaX u acc es=some b→b.length≤n+es.length+Zj9 (Zl u) b
 | [],acc,n,h,b,hb=>by
  simp only[ZaX,Option.some.injEq]at hb;subst hb;simpa using h
 |e::es,acc,n,h,b,hb=>by
  rw[Zfa]at hb;split at hb
  ·cases hb
  ·have:=ZkO u es _ (n+1) (Zht h (ZjY u e)) b hb;simp only[List.length_cons];omega
theorem Zo8 {u:Ln} {es b:List Rf} (h:ZaX u [] es=some b):b.length≤es.length+2:=by
 have h1:=ZkO u es [] 0 (by simp) b h;have h2:=Zto (Zl u) b;have h3:=ZgN u;omega
theorem ZwC {l:List Ln} {k:Nat} (h:k<l.length):(l.take (k+1)).reverse=l.getD k default::(l.take k).reverse:=by
 rw[ZY (d:=default) h,List.reverse_append];rfl
def ZpZ (m:List Eg) (a b:Tg) (r:Rf):Bool:=if Zbz m a b≠0 then false else Zg8 (Zen m a b).1.reverse [r]
theorem Ztl {P:Program} {c:Code} {Q:Exit→St→Prop} {s s':St} (hw:WeakP s' s) (hr:Refs s') (h:awp P c Q s'):awp P c Q s:=fun B S M a w hs=>h B S M a w (hs.weakP hw hr)
structure SuS (row:List Ln) (r0:Rf) where
 k:Nat
 es:List Rf
 hk:k≤row.length
 hl:es.length≤1+2*(row.length-k)
 h:Zg8 (row.take k).reverse es=Zg8 row.reverse [r0]
theorem Zo0 (m:List Eg) (a b:Tg) (r:Rf) (hm:OkM m) (hr:RightM m):PL.Pure Tryz.prog 24 [tr (Zf m),tg a,tg b,ref r] (kpc (ZpZ m a b r) (Zbz m a b)):=by
 have hR:=ZlT m a b hm hr;obtain⟨hrl,hro⟩:=Zut (a:=a) (b:=b) hm;have hc2:(Zen m a b).2=Zbz m a b:=by unfold Zen;split<;>simp_all
 unfold ZpZ
 by_cases hc:Zbz m a b=0
 ·rw[if_neg (fun h=>h hc)];rw[hc]at hc2;generalize hrow:Zen m a b=rw0 at *;obtain⟨row,c0⟩:=rw0;simp only at hc2 hrl hro ⊢;subst hc2;rw[hc];refine pov Tryz.func24 (by decide) rfl Tryz.ntmps24 Tryz.results24 (by simp) (ZqJ _ _) ?_;simp only[go_sem,tr,tg,ref];refine Zj5 (ι:=SuS row r) 44 (fun x=> [(10,ZgW row),(12,refs x.es),(13,.int .i64 (x.k:Int))]) (fun x=> []) (fun x=> []) (fun x=>x.k) 0 _ (by exact rfl) (fun x=>⟨(Fc3 rfl rfl rfl),fnl⟩) (fun x=> ?_) (fun cut=> ?_)
  ·obtain⟨k,es,hk,hl,h⟩:=x;simp only;cases k with
   |zero=>
    have hd:Zg8 row.reverse [r]=true:=by rw[←h];rfl
    simp only[go_sem,hd,kpc]
   |succ k=>
    have hka:k<row.length:=by omega
    have hb:(((k+1:Nat):Int)==0)=false:=by rw[beq_eq_false_iff_ne];omega
    have i0:(0:Int)≤(k:Int):=by omega
    have i1:(k:Int)<(row.length:Int):=by omega
    have w1:IntKind.i64.wrap (((k+1:Nat):Int)-1)=(k:Int):=by rw[w64 (by omega)];omega
    have hB:=Zo9 (row.getD k default) es (hro _ (Zg (d:=default) hka)) (by omega);rw[ZwC hka]at h;cases hz:ZaX (row.getD k default) [] es with
    |none=>
     have h2:Zg8 row.reverse [r]=false:=by rw[←h];simp only[Zg8,hz]
     rw[hz]at hB;simp only[go_sem,hb,w1,ZgW,List.length_map,Zgl hka,lns,i0,i1];refine Za (hB) ?_ ?_ ?_;iterate 2 simp only[go_sem,lns,refs]
     simp only[go_sem,Zyf,Option.isSome_none,h2,kpc]
    |some bk=>
     have h2:Zg8 (row.take k).reverse bk=Zg8 row.reverse [r]:=by rw[←h];simp only[Zg8,hz]
     have h3:=Zo8 hz;rw[hz]at hB;simp only[go_sem,hb,w1,ZgW,List.length_map,Zgl hka,lns,i0,i1];refine Za (hB) ?_ ?_ ?_;iterate 2 simp only[go_sem,lns,refs]
     simp only[go_sem,Zyf,Option.isSome_some,Option.getD_some];exact⟨⟨k,bk,by omega,by omega,h2⟩,by show k<k+1;omega,⟨rfl,(Fc3 rfl rfl rfl),fnl,fnl⟩⟩
  ·simp only[go_sem];refine Za (hR) ?_ ?_ ?_;iterate 2 simp only[go_sem,tr,tg]
   simp only[go_sem,Zr9,ZgW,List.length_map];have hp:=fun s h=>cut ⟨row.length,[r],Nat.le_refl _,by simp,by rw[List.take_length]⟩ s h
   refine Zax (Ztl (HasP.weak (n:=44) (L:= [(10,ZgW row),(12,refs [r]),(13,.int .i64 (row.length:Int))]) (H:= []) (R:= []) ⟨rfl,Fc3 (.same rfl) (.row 26 _) (.same rfl),fnl,fnl⟩) (Refs.mkSt ⟨(Fc3 rfl rfl rfl),fnl⟩) (hp _ ⟨rfl,(Fc3 rfl rfl rfl),fnl,fnl⟩))
 ·rw[if_pos hc];have hc':(Zbz m a b !=0)=true:=by simpa using hc
  have hcr:Zen m a b=([],Zbz m a b):=by unfold Zen;rw[if_pos hc]
  rw[hcr]at hR;refine pov Tryz.func24 (by decide) rfl Tryz.ntmps24 Tryz.results24 (by simp) (ZqJ _ _) ?_;simp only[go_sem,tr,tg,ref];refine ZdY ?_;simp only[go_sem];refine Za (hR) ?_ ?_ ?_;iterate 2 simp only[go_sem,tr,tg]
  simp only[go_sem,Zr9,ZgW,hc',kpc]
structure AlS (row:List Ln) (r0:Rf) where
 k:Nat
 r:Rf
 kp:Bool
 hk:k≤row.length
 h:ZuW (row.drop k) r=ZuW row r0
 h2:(kp&&Zmi (row.drop k) r)=Zmi row r0
end Go.Proofs.YthingdchjkhfbaaGreat
