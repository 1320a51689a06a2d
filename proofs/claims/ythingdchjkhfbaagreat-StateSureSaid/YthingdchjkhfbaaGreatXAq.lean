/- Contracts of functions and laws of this seat, each for every input that it names: lemmas of the proof. -/
import Derived.Test.YthingdchjkhfbaaGreatXAn
namespace Go.Proofs.YthingdchjkhfbaaGreat
set_option maxHeartbeats 64000000
set_option maxRecDepth 20000
set_option linter.unusedVariables false
set_option linter.unusedSimpArgs false
open Go.PL
theorem ZqA (f:Fd):(fld f).dids= []:=by simp only[fld,PV.dids,PV.didsL,Zb5,List.append_nil]
theorem Zpq {α:Type} (p:α→Bool) (l:List α):decide ((0:Int)≤idx p l)=l.any p:=by
 unfold idx;cases h:l.findIdx? p with
 |none=>
  have:l.any p=false:=by
   rw[List.any_eq_false];intro x hx;have:=List.findIdx?_eq_none_iff.1 h x hx;simp[this]
  rw[this];rfl
 |some i=>
  rw[List.findIdx?_eq_some_iff_getElem]at h;obtain⟨hi,hp,_⟩:=h;have:l.any p=true:=List.any_eq_true.2 ⟨_,List.getElem_mem hi,hp⟩;rw[this];exact decide_eq_true (show(0:Int)≤(i:Int)by omega)
theorem ZvF (l:List Str) (s:Str):l.any (fun x=>s==x)=l.any (· == s):=by
 congr 1;funext x;rw[Bool.eq_iff_iff];simp only[beq_iff_eq];exact eq_comm
theorem Za1 {n b:Nat} (hn:n≤1000000) (hb:b≤1000):ZrF n b:=Zbf (by omega) hb
theorem Zb2 (f:Fd) (hf:f.cases'.length≤1000000):PL.Pure Tryz.prog 67 [fld f] (fld f):=by
 have hr:=Za1 hf (show 16≤1000 by omega);refine pov Tryz.func67 (by decide) rfl Tryz.ntmps67 Tryz.results67 (by simp) (ZqA _) ?_;simp only[go_sem,fld,ZaJ,ZiY,hr]
theorem Zm2 (a b:Rf):PL.Pure Tryz.prog 122 [ref a,ref b] (.bool (Zdr a b)):=by
 refine pov Tryz.func122 (by decide) rfl Tryz.ntmps122 Tryz.results122 (by simp) rfl ?_;simp only[go_sem,ref];repeat' (first|(refine ZA (fun h=> ?_) (fun h=> ?_)<;>(try simp only[go_sem,h]))|(refine Zz (fun h=> ?_) (fun h=> ?_)<;>(try simp only[go_sem,h]))|(refine ZN (fun h=> ?_) (fun h=> ?_)<;>(try simp only[go_sem,h]))|((refine Ze (by kernel_rfl) (by kernel_rfl) ?_);(try simp only[go_sem])))
 all_goals (simp_all[Zdr])
theorem Zgb (l:List Str) (s:Str) (hl:l.length≤maxLen):PL.Pure Tryz.prog 118 [ZaM l,.str s] (.bool (l.any (· == s))):=by
 have hI:=ZoR l s hl;refine pov Tryz.func118 (by decide) rfl Tryz.ntmps118 Tryz.results118 (by simp) rfl ?_;simp only[go_sem,ZaM];refine Za (hI) ?_ ?_ ?_;iterate 2 simp only[go_sem,ZaM]
 simp only[go_sem,Zpq,ZvF]
theorem ZiL (l:List Rf) (r:Rf) (hl:l.length≤maxLen):PL.Pure Tryz.prog 96 [refs l,ref r] (.bool (l.any fun x=>decide (r=x))):=by
 have hI:=Zex l r hl;refine pov Tryz.func96 (by decide) rfl Tryz.ntmps96 Tryz.results96 (by simp) rfl ?_;simp only[go_sem,refs,ref];refine Za (hI) ?_ ?_ ?_;iterate 2 simp only[go_sem,refs,ref]
 simp only[go_sem,Zpq]
def ZgH (l:List Str):Bool:=decide (1≤l.length∧l.length≤6)&&Zi3 l
theorem Zrx (l:List Str):PL.Pure Tryz.prog 162 [ZaM l] (.bool (ZgH l)):=by
 by_cases h1:(l.length:Int)<1
 ·have hx:ZgH l=false:=by simp only[ZgH,show ¬(1≤l.length∧l.length≤6)by omega,decide_false,Bool.false_and]
  refine pov Tryz.func162 (by decide) rfl Tryz.ntmps162 Tryz.results162 (by simp) rfl ?_;simp only[go_sem,ZaM,h1,hx]
 ·by_cases h2:(6:Int)<(l.length:Int)
  ·have hx:ZgH l=false:=by simp only[ZgH,show ¬(1≤l.length∧l.length≤6)by omega,decide_false,Bool.false_and]
   refine pov Tryz.func162 (by decide) rfl Tryz.ntmps162 Tryz.results162 (by simp) rfl ?_;simp only[go_sem,ZaM,h1,h2,hx]
  ·have hm:l.length≤maxLen:=by rw[Zd];omega
   have hx:ZgH l=Zi3 l:=by simp only[ZgH,show(1≤l.length∧l.length≤6)by omega,and_self,decide_true,Bool.true_and]
   rw[hx];refine pov Tryz.func162 (by decide) rfl Tryz.ntmps162 Tryz.results162 (by simp) rfl ?_;simp only[go_sem,ZaM,h1,h2];refine ZI (ι:= { x:Nat // x≤(l).length∧(∀j,j<x→Zd8 l j=true) }) 31 (fun x=> [(0,ZaM l),(13,ZaM l),(14,.int .i64 (l.length:Int)),(15,.int .i64 (x.1:Int))]) (fun x=> []) (fun x=> []) (fun x=>(l).length-x.1) ⟨0,Nat.zero_le _,fun j hj=>absurd hj (Nat.not_lt_zero j)⟩ ⟨rfl,(Fc4 rfl rfl rfl rfl),fnl,fnl⟩ (fun x=>⟨(Fc4 rfl rfl rfl rfl),fnl⟩) (fun x=> ?_);obtain⟨k,hk,hI⟩:=x;simp only at hk hI ⊢
   by_cases h:(k:Int)<(l.length:Int)
   ·(have hka:k<(l).length:=by omega);(have w1:=Zcd hka (hm));(have i1:(0:Int)≤(k:Int):=by omega)
    have i2:(k:Int)≤(l.length:Int):=by omega
    have hN:=Za5 (l.getD k []);have hT:(l.take k).length≤maxLen:=by rw[List.length_take];omega
    have hH:=Zgb (l.take k) (l.getD k []) hT;cases hn:Zap (l.getD k [])
    ·rw[hn]at hN;have hz:=ZdC hka (by simp only[Zd8,hn,Bool.false_and]);simp only[go_sem,ZaM,h,i1,ZR hka];refine Za (hN) ?_ ?_ ?_;iterate 2 simp only[go_sem]
     simp only[go_sem,hz]
    ·rw[hn]at hN;cases hh:(l.take k).any (· == l.getD k [])
     ·rw[hh]at hH;have ok:Zd8 l k=true:=by simp only[Zd8,hn,hh,Bool.not_false,Bool.and_self]
      simp only[go_sem,ZaM,h,i1,ZR hka];refine Za (hN) ?_ ?_ ?_;iterate 2 simp only[go_sem]
      simp only[go_sem,i1,i2,ZaJ,cut,Nat.sub_zero,ZiF];refine Za (hH) ?_ ?_ ?_;iterate 2 simp only[go_sem,ZaM]
      simp only[go_sem,w1];exact⟨⟨k+1,by(try simp only);omega,Zp hI ok⟩,by show(l).length-(k+1)<(l).length-k;omega,⟨rfl,(Fc4 rfl rfl rfl rfl),fnl,fnl⟩⟩
     ·rw[hh]at hH;have hz:=ZdC hka (by simp only[Zd8,hn,hh,Bool.not_true,Bool.and_false]);simp only[go_sem,ZaM,h,i1,ZR hka];refine Za (hN) ?_ ?_ ?_;iterate 2 simp only[go_sem]
      simp only[go_sem,i1,i2,ZaJ,cut,Nat.sub_zero,ZiF];refine Za (hH) ?_ ?_ ?_;iterate 2 simp only[go_sem,ZaM]
      simp only[go_sem,hz]
   ·have hz:=Zi4 (l:=l) (fun j hj=>hI j (by omega));simp only[go_sem,ZaM,h,hz]
theorem ZrK {l:List Str} {s:Str} (h:l.any (· == s)=true):1≤l.length:=by
 cases l with
 |nil=>simp at h
 |cons a l=>simp
theorem Zd1 (f:Fd) (hl:f.cases'.length≤maxLen):PL.Pure Tryz.prog 117 [fld f] (.bool (ZO f)):=by
 have hP:=Zhp f.at';have hT:=Zgy f.df;have hC:=Zrx f.cases';have hK:=Zgb f.cases' f.df hl;have key:ZO f=(Zci f.at'&&(if f.kind=1 then(f.df== [])&&(((f.cases'.length:Int)==0)&&(decide (1≤f.worth)&&decide (f.worth≤1048576)))
   else if f.kind=2 then decide ((f.df.length:Int)≤40)&&(((f.cases'.length:Int)==0)&&(f.worth==0))
   else if f.kind=3 then ZgH f.cases'&&(f.cases'.any (· == f.df)&&(f.worth==0))
   else if f.kind=4 then(f.df== [])&&(((f.cases'.length:Int)==0)&&(f.worth==0))else false)):=by
  unfold ZO;congr 1
  by_cases h1:f.kind=1
  ·rw[if_pos h1,if_pos h1,Bool.eq_iff_iff];simp;omega
  ·rw[if_neg h1,if_neg h1]
   by_cases h3:f.kind=3
   ·rw[if_pos h3,if_neg (by omega),if_pos h3];unfold Zkn ZgH;cases ha:f.cases'.any (· == f.df)
    ·simp
    ·have:=ZrK ha;rw[Bool.eq_iff_iff];simp;constructor
     ·rintro ⟨a,b,c⟩;exact⟨⟨⟨this,by omega⟩,b⟩,a⟩
     ·rintro ⟨⟨⟨a,b⟩,c⟩,d⟩;exact⟨d,c,by omega⟩
   ·rw[if_neg h3,if_neg h3];unfold Zp0
    by_cases h2:f.kind=2
    ·rw[if_pos h2,Bool.eq_iff_iff];simp[h2];constructor<;>rintro ⟨a,b,c⟩<;>refine⟨?_,?_,?_⟩<;>first|assumption|omega
    ·rw[if_neg h2]
     by_cases h4:f.kind=4
     ·rw[if_pos h4,Bool.eq_iff_iff];simp[h4];constructor
      ·rintro ⟨a,b,c⟩;exact⟨c,b,a⟩
      ·rintro ⟨a,b,c⟩;exact⟨c,b,a⟩
     ·rw[if_neg h4];simp[h2,h4]
 rw[key];cases hp:Zci f.at'
 ·rw[hp]at hP;refine pov Tryz.func117 (by decide) rfl Tryz.ntmps117 Tryz.results117 (by simp) rfl ?_;simp only[go_sem,fld];refine Za (hP) ?_ ?_ ?_;iterate 2 simp only[go_sem,ref]
  simp only[go_sem,Bool.false_and]
 ·rw[hp]at hP;rw[Bool.true_and]
  by_cases h1:f.kind=1
  ·have k1:(f.kind==1)=true:=by rw[h1];rfl
   rw[if_pos h1];refine pov Tryz.func117 (by decide) rfl Tryz.ntmps117 Tryz.results117 (by simp) rfl ?_;simp only[go_sem,fld];refine Za (hP) ?_ ?_ ?_;iterate 2 simp only[go_sem,ref]
   simp only[go_sem,k1];repeat' (first|(refine ZA (fun h=> ?_) (fun h=> ?_)<;>(try simp only[go_sem,h]))|(refine Zz (fun h=> ?_) (fun h=> ?_)<;>(try simp only[go_sem,h]))|(refine ZN (fun h=> ?_) (fun h=> ?_)<;>(try simp only[go_sem,h]))|((refine Ze (by kernel_rfl) (by kernel_rfl) ?_);(try simp only[go_sem])))
   all_goals simp_all
  ·have k1:(f.kind==1)=false:=beq_eq_false_iff_ne.2 h1;rw[if_neg h1]
   by_cases h2:f.kind=2
   ·have k2:(f.kind==2)=true:=by rw[h2];rfl
    rw[if_pos h2];refine pov Tryz.func117 (by decide) rfl Tryz.ntmps117 Tryz.results117 (by simp) rfl ?_;simp only[go_sem,fld];refine Za (hP) ?_ ?_ ?_;iterate 2 simp only[go_sem,ref]
    simp only[go_sem,k1,k2];refine Za (hT) ?_ ?_ ?_;iterate 2 simp only[go_sem]
    simp only[go_sem,k1,k2];repeat' (first|(refine ZA (fun h=> ?_) (fun h=> ?_)<;>(try simp only[go_sem,h]))|(refine Zz (fun h=> ?_) (fun h=> ?_)<;>(try simp only[go_sem,h]))|(refine ZN (fun h=> ?_) (fun h=> ?_)<;>(try simp only[go_sem,h]))|((refine Ze (by kernel_rfl) (by kernel_rfl) ?_);(try simp only[go_sem])))
    all_goals simp_all
   ·have k2:(f.kind==2)=false:=beq_eq_false_iff_ne.2 h2;rw[if_neg h2]
    by_cases h3:f.kind=3
    ·have k3:(f.kind==3)=true:=by rw[h3];rfl
     rw[if_pos h3];refine pov Tryz.func117 (by decide) rfl Tryz.ntmps117 Tryz.results117 (by simp) rfl ?_;simp only[go_sem,fld];refine Za (hP) ?_ ?_ ?_;iterate 2 simp only[go_sem,ref]
     simp only[go_sem,k1,k2,k3];refine Za (hC) ?_ ?_ ?_;iterate 2 simp only[go_sem,ZaM]
     simp only[go_sem,k1,k2,k3];repeat' (first|(refine ZA (fun h=> ?_) (fun h=> ?_)<;>(try simp only[go_sem,h]))|(refine Zz (fun h=> ?_) (fun h=> ?_)<;>(try simp only[go_sem,h]))|(refine ZN (fun h=> ?_) (fun h=> ?_)<;>(try simp only[go_sem,h]))|((refine Za (hK) ?_ ?_ ?_);(focus simp only[go_sem,ZaM]);(focus exact rfl);(try simp only[go_sem]))|((refine Ze (by kernel_rfl) (by kernel_rfl) ?_);(try simp only[go_sem])))
     all_goals simp_all
    ·have k3:(f.kind==3)=false:=beq_eq_false_iff_ne.2 h3;rw[if_neg h3]
     by_cases h4:f.kind=4
     ·have k4:(f.kind==4)=true:=by rw[h4];rfl
      rw[if_pos h4];refine pov Tryz.func117 (by decide) rfl Tryz.ntmps117 Tryz.results117 (by simp) rfl ?_;simp only[go_sem,fld];refine Za (hP) ?_ ?_ ?_;iterate 2 simp only[go_sem,ref]
      simp only[go_sem,k1,k2,k3,k4];repeat' (first|(refine ZA (fun h=> ?_) (fun h=> ?_)<;>(try simp only[go_sem,h]))|(refine Zz (fun h=> ?_) (fun h=> ?_)<;>(try simp only[go_sem,h]))|(refine ZN (fun h=> ?_) (fun h=> ?_)<;>(try simp only[go_sem,h]))|((refine Ze (by kernel_rfl) (by kernel_rfl) ?_);(try simp only[go_sem])))
      all_goals simp_all
     ·have k4:(f.kind==4)=false:=beq_eq_false_iff_ne.2 h4;rw[if_neg h4];refine pov Tryz.func117 (by decide) rfl Tryz.ntmps117 Tryz.results117 (by simp) rfl ?_;simp only[go_sem,fld];refine Za (hP) ?_ ?_ ?_;iterate 2 simp only[go_sem,ref]
      simp only[go_sem,k1,k2,k3,k4]
theorem Zhn (a b:Fd) (ha:a.cases'.length≤maxLen) (hb:b.cases'.length≤maxLen):PL.Pure Tryz.prog 131 [fld a,fld b] (.bool (decide (a=b))):=by
 have hE:=Zrz a.cases' b.cases' ha hb;refine pov Tryz.func131 (by decide) rfl Tryz.ntmps131 Tryz.results131 (by simp) rfl ?_;simp only[go_sem,fld,Zt];repeat' (first|(refine ZA (fun h=> ?_) (fun h=> ?_)<;>(try simp only[go_sem,h,Zt]))|(refine Zz (fun h=> ?_) (fun h=> ?_)<;>(try simp only[go_sem,h,Zt]))|(refine ZN (fun h=> ?_) (fun h=> ?_)<;>(try simp only[go_sem,h,Zt]))|((refine Za (hE) ?_ ?_ ?_);(focus simp only[go_sem,ZaM]);(focus exact rfl);(try simp only[go_sem,Zt]))|((refine Ze (by kernel_rfl) (by kernel_rfl) ?_);(try simp only[go_sem,Zt])))
 all_goals ((cases a;cases b;simp_all)<;>rfl)
theorem ZiT (a b:List Str) (ha:a.length≤maxLen) (hb:b.length≤maxLen):PL.Pure Tryz.prog 172 [ZaM a,ZaM b] (.bool (decide (a=b))):=by
 have hE:=ZkE a b ha hb;refine pov Tryz.func172 (by decide) rfl Tryz.ntmps172 Tryz.results172 (by simp) rfl ?_;simp only[go_sem,ZaM];refine Za (hE) ?_ ?_ ?_;iterate 2 simp only[go_sem,ZaM]
 simp only[go_sem]
theorem ZiQ (a b:Fd) (ha:a.cases'.length≤maxLen) (hb:b.cases'.length≤maxLen):PL.Pure Tryz.prog 143 [fld a,fld b] (.bool (decide (a=b))):=by
 have hE:=ZiT a.cases' b.cases' ha hb;refine pov Tryz.func143 (by decide) rfl Tryz.ntmps143 Tryz.results143 (by simp) rfl ?_;simp only[go_sem,fld,Zt];repeat' (first|(refine ZA (fun h=> ?_) (fun h=> ?_)<;>(try simp only[go_sem,h,Zt]))|(refine Zz (fun h=> ?_) (fun h=> ?_)<;>(try simp only[go_sem,h,Zt]))|(refine ZN (fun h=> ?_) (fun h=> ?_)<;>(try simp only[go_sem,h,Zt]))|((refine Za (hE) ?_ ?_ ?_);(focus simp only[go_sem,ZaM]);(focus exact rfl);(try simp only[go_sem,Zt]))|((refine Ze (by kernel_rfl) (by kernel_rfl) ?_);(try simp only[go_sem,Zt])))
 all_goals ((cases a;cases b;simp_all)<;>rfl)
open Go.PL
def Zai (l:List Pr) (s:Str):Str×Bool:=match l.find? (fun p=>p.fr'==s)with|some p=>(p.to',true)|none=>([],false)
def ZdP (x:Str×Bool):PV:= .tup [.str x.1,.bool x.2]
theorem Zc3 {α:Type} {p:α→Bool} {l:List α} {k:Nat} {d:α} (hk:k<l.length) (h:∀j,j<k→p (l.getD j d)=false) (hp:p (l.getD k d)=true):l.find? p=some (l.getD k d):=by
 have h1:=ZcB hk h hp;rw[List.find?_eq_some_iff_getElem];refine⟨hp,k,hk,by rw[List.getD_eq_getElem?_getD,List.getElem?_eq_getElem hk];rfl,fun j hj=> ?_⟩;have:=h j hj;rw[List.getD_eq_getElem?_getD,List.getElem?_eq_getElem (by omega)]at this;simpa using this
theorem Zfg {α:Type} {p:α→Bool} {l:List α} {d:α} (h:∀j,j<l.length→p (l.getD j d)=false):l.find? p=none:=by
 rw[List.find?_eq_none];intro x hx;obtain⟨j,hj,rfl⟩:=List.getElem_of_mem hx;have:=h j hj;rw[List.getD_eq_getElem?_getD,List.getElem?_eq_getElem hj]at this;simpa using this
theorem Zdb (l:List Pr) (s:Str) (hl:l.length≤maxLen):PL.Pure Tryz.prog 167 [prs l,.str s] (ZdP (Zai l s)):=by
 refine pov Tryz.func167 (by decide) rfl Tryz.ntmps167 Tryz.results167 (by simp) rfl ?_;simp only[go_sem,prs];refine ZI (ι:= { x:Nat // x≤(l).length∧(∀j,j<x→((l.getD j default).fr'==s)=false) }) 21 (fun x=> [(1,.str s),(8,prs l),(9,.int .i64 (l.length:Int)),(10,.int .i64 (x.1:Int))]) (fun x=> []) (fun x=> []) (fun x=>(l).length-x.1) ⟨0,Nat.zero_le _,fun j hj=>absurd hj (Nat.not_lt_zero j)⟩ ⟨rfl,(Fc4 rfl rfl rfl rfl),fnl,fnl⟩ (fun x=>⟨(Fc4 rfl rfl rfl rfl),fnl⟩) (fun x=> ?_);obtain⟨k,hk,hI⟩:=x;simp only at hk hI ⊢
 by_cases h:(k:Int)<(l.length:Int)
 ·(have hka:k<(l).length:=by omega);(have w1:=Zcd hka (hl));(have i1:(0:Int)≤(k:Int):=by omega)
  cases he:((l.getD k default).fr'==s)
  ·simp only[go_sem,prs,h,Z6 hka,pr,i1,he,w1];exact⟨⟨k+1,by(try simp only);omega,Zp hI he⟩,by show(l).length-(k+1)<(l).length-k;omega,⟨rfl,(Fc4 rfl rfl rfl rfl),fnl,fnl⟩⟩
  ·have hx:=Zc3 (p:=fun p:Pr=>p.fr'==s) hka hI he;simp only[go_sem,prs,h,Z6 hka,pr,i1,he,ZdP,Zai,hx]
 ·have hx:=Zfg (p:=fun p:Pr=>p.fr'==s) (d:=default) (l:=l) (fun j hj=>hI j (by omega));simp only[go_sem,prs,h,ZdP,Zai,hx]
theorem ZkC (l:List Pr) (s:Str) (hl:l.length≤maxLen):PL.Pure Tryz.prog 140 [prs l,.str s] (ZdP (Zai l s)):=by
 refine pov Tryz.func140 (by decide) rfl Tryz.ntmps140 Tryz.results140 (by simp) rfl ?_;simp only[go_sem,prs];refine ZI (ι:= { x:Nat // x≤(l).length∧(∀j,j<x→((l.getD j default).fr'==s)=false) }) 25 (fun x=> [(0,prs l),(1,.str s),(6,.int .i64 (x.1:Int))]) (fun x=> []) (fun x=> []) (fun x=>(l).length-x.1) ⟨0,Nat.zero_le _,fun j hj=>absurd hj (Nat.not_lt_zero j)⟩ ⟨rfl,(Fc3 rfl rfl rfl),fnl,fnl⟩ (fun x=>⟨(Fc3 rfl rfl rfl),fnl⟩) (fun x=> ?_);obtain⟨k,hk,hI⟩:=x;simp only at hk hI ⊢
 by_cases h:(k:Int)<(l.length:Int)
 ·(have hka:k<(l).length:=by omega);(have w1:=Zcd hka (hl));(have i1:(0:Int)≤(k:Int):=by omega)
  cases he:((l.getD k default).fr'==s)
  ·simp only[go_sem,prs,h,Z6 hka,pr,i1,he,w1];exact⟨⟨k+1,by(try simp only);omega,Zp hI he⟩,by show(l).length-(k+1)<(l).length-k;omega,⟨rfl,(Fc3 rfl rfl rfl),fnl,fnl⟩⟩
  ·have hx:=Zc3 (p:=fun p:Pr=>p.fr'==s) hka hI he;simp only[go_sem,prs,h,Z6 hka,pr,i1,he,ZdP,Zai,hx]
 ·have hx:=Zfg (p:=fun p:Pr=>p.fr'==s) (d:=default) (l:=l) (fun j hj=>hI j (by omega));simp only[go_sem,prs,h,ZdP,Zai,hx]
theorem ZqO {α β:Type} [Inhabited α] (f:α→β) {l:List α} {k:Nat} (h:k<l.length):(l.take (k+1)).map f=(l.take k).map f++ [f (l.getD k default)]:=by
 rw[ZY h (d:=default),List.map_append];rfl
theorem Zcr {α:Type} (l:List α) (k:Nat):(l.take k).length≤l.length:=by rw[List.length_take];omega
def Zbi (l:List Pr):List Str:=l.map (·.fr')
theorem Zk5 (l:List Pr) (hl:l.length≤1000000):PL.Pure Tryz.prog 133 [prs l] (ZaM (Zbi l)):=by
 have hm:l.length≤maxLen:=by rw[Zd];omega
 have hr0:=Za1 hl (show 16≤1000 by omega);refine pov Tryz.func133 (by decide) rfl Tryz.ntmps133 Tryz.results133 (by simp) (Zot _) ?_;simp only[go_sem,prs,hr0,hm];refine⟨by omega,?_⟩;refine Zas 3 8 19 0 1 9 [] rfl rfl rfl ?_;refine ZI (ι:= { x:Nat×(List Str) // x.1≤(l).length∧(x.2=(l.take x.1).map (·.fr')) }) 22 (fun x=> [(3,.sl (.row 19) (x.1.2.map .str)),(9,prs l),(10,.int .i64 (l.length:Int)),(11,.int .i64 (x.1.1:Int))]) (fun x=> []) (fun x=> [(19,.live (x.1.2.length) (1) (9))]) (fun x=>(l).length-x.1.1) ⟨(0,[]),Nat.zero_le _,rfl⟩ ⟨rfl,(Fc4 rfl rfl rfl rfl),fnl,(fcs rfl fnl)⟩ (fun x=>⟨(Fc4 (by simp[PV.ids,ZV]) rfl rfl rfl),fnl⟩) (fun x=> ?_);obtain⟨⟨k,acc⟩,hk,hI⟩:=x;simp only at hk hI ⊢;have hacc:acc.length≤l.length:=by rw[hI,List.length_map];exact Zcr _ _
 by_cases h:(k:Int)<(l.length:Int)
 ·(have hka:k<(l).length:=by omega);(have w1:=Zcd hka (hm));(have i1:(0:Int)≤(k:Int):=by omega)
  have hr:=Za1 (show acc.length+1≤1000000 by rw[hI,List.length_map,List.length_take];omega) (show 16≤1000 by omega);simp only[go_sem,prs,h,Z6 hka,pr,i1,ZaJ,hr,w1];exact⟨⟨(k+1,acc++ [(l.getD k default).fr']),by(try simp only);omega,by simp only;rw[ZqO _ hka,hI]⟩,by show(l).length-(k+1)<(l).length-k;omega,⟨rfl,(Fc4 (by simp[upd]) rfl rfl rfl),fnl,(fcs (by simp[upd]) fnl)⟩⟩
 ·obtain rfl:k=l.length:=by omega
  rw[List.take_length]at hI;subst hI;simp only[go_sem,prs,h,ZaM,Zbi]
theorem ZiR (l:List Pr) (hl:l.length≤1000000):PL.Pure Tryz.prog 171 [prs l] (ZaM (Zbi l)):=by
 have hm:l.length≤maxLen:=by rw[Zd];omega
 refine pov Tryz.func171 (by decide) rfl Tryz.ntmps171 Tryz.results171 (by simp) (Zot _) ?_;simp only[go_sem,prs];refine Zas 3 5 19 0 1 9 [] rfl rfl rfl ?_;refine ZI (ι:= { x:Nat×(List Str) // x.1≤(l).length∧(x.2=(l.take x.1).map (·.fr')) }) 21 (fun x=> [(0,prs l),(3,.sl (.row 19) (x.1.2.map .str)),(4,.int .i64 (x.1.1:Int))]) (fun x=> []) (fun x=> [(19,.live (x.1.2.length) (1) (9))]) (fun x=>(l).length-x.1.1) ⟨(0,[]),Nat.zero_le _,rfl⟩ ⟨rfl,(Fc3 rfl rfl rfl),fnl,(fcs rfl fnl)⟩ (fun x=>⟨(Fc3 rfl (by simp[PV.ids,ZV]) rfl),fnl⟩) (fun x=> ?_);obtain⟨⟨k,acc⟩,hk,hI⟩:=x;simp only at hk hI ⊢;have hacc:acc.length≤l.length:=by rw[hI,List.length_map];exact Zcr _ _
 by_cases h:(k:Int)<(l.length:Int)
 ·(have hka:k<(l).length:=by omega);(have w1:=Zcd hka (hm));(have i1:(0:Int)≤(k:Int):=by omega)
  have hr:=Za1 (show acc.length+1≤1000000 by rw[hI,List.length_map,List.length_take];omega) (show 16≤1000 by omega);simp only[go_sem,prs,h,Z6 hka,pr,i1,ZaJ,hr,w1];exact⟨⟨(k+1,acc++ [(l.getD k default).fr']),by(try simp only);omega,by simp only;rw[ZqO _ hka,hI]⟩,by show(l).length-(k+1)<(l).length-k;omega,⟨rfl,(Fc3 rfl (by simp[upd]) rfl),fnl,(fcs (by simp[upd]) fnl)⟩⟩
 ·obtain rfl:k=l.length:=by omega
  rw[List.take_length]at hI;subst hI;simp only[go_sem,prs,h,ZaM,Zbi]
theorem Zm9 (l:List Fd) (hl:l.length≤100000) (hc:∀f∈l,f.cases'.length≤1000000):PL.Pure Tryz.prog 50 [Zn l] (Zn l):=by
 have hm:l.length≤maxLen:=by rw[Zd];omega
 have hr0:=Za1 (show l.length≤1000000 by omega) (show 96≤1000 by omega);refine pov Tryz.func50 (by decide) rfl Tryz.ntmps50 Tryz.results50 (by simp) (Zfi _) ?_;simp only[go_sem,Zn,hr0,hm];refine⟨by omega,?_⟩;refine Zas 3 8 19 0 7 63 [] rfl rfl rfl ?_;refine ZI (ι:= { x:Nat×(List Fd) // x.1≤(l).length∧(x.2=l.take x.1) }) 22 (fun x=> [(3,.sl (.row 19) (x.1.2.map fld)),(9,Zn l),(10,.int .i64 (l.length:Int)),(11,.int .i64 (x.1.1:Int))]) (fun x=> []) (fun x=> [(19,.live (x.1.2.length) (7) (63))]) (fun x=>(l).length-x.1.1) ⟨(0,[]),Nat.zero_le _,rfl⟩ ⟨rfl,(Fc4 rfl rfl rfl rfl),fnl,(fcs rfl fnl)⟩ (fun x=>⟨(Fc4 (by simp[PV.ids,ZV]) rfl rfl rfl),fnl⟩) (fun x=> ?_);obtain⟨⟨k,acc⟩,hk,hI⟩:=x;simp only at hk hI ⊢;have hacc:acc.length≤l.length:=by rw[hI];exact Zcr _ _
 by_cases h:(k:Int)<(l.length:Int)
 ·(have hka:k<(l).length:=by omega);(have w1:=Zcd hka (hm));(have i1:(0:Int)≤(k:Int):=by omega)
  have hr:=Za1 (show acc.length+1≤1000000 by omega) (show 96≤1000 by omega);have hO:=Zb2 (l.getD k default) (hc _ (ZC hka));simp only[go_sem,Zn,h,ZL hka,fld,i1];refine Za (hO) ?_ ?_ ?_;iterate 2 simp only[go_sem,fld]
  simp only[go_sem,fld,Zdw,hr,w1];exact⟨⟨(k+1,acc++ [l.getD k default]),by(try simp only);omega,by simp only;rw[ZY hka (d:=default),hI]⟩,by show(l).length-(k+1)<(l).length-k;omega,⟨rfl,(Fc4 (by simp[upd,fld]) rfl rfl rfl),fnl,(fcs (by simp[upd]) fnl)⟩⟩
 ·obtain rfl:k=l.length:=by omega
  rw[List.take_length]at hI;subst hI;simp only[go_sem,h,Zn]
open Go.PL
theorem Zd3 (l:List Fd) (sc:Int) (hl:l.length≤100000) (hc:∀f∈l,f.cases'.length≤1000000):PL.Pure Tryz.prog 36 [Zn l,.int .i64 sc] (Zn (Zr l sc)):=by
 have hm:l.length≤maxLen:=by rw[Zd];omega
 refine pov Tryz.func36 (by decide) rfl Tryz.ntmps36 Tryz.results36 (by simp) (Zfi _) ?_;simp only[go_sem,Zn];refine Zbt 5 23 7 63 rfl rfl ?_;refine ZI (ι:= { x:Nat×(List Fd) // x.1≤(l).length∧(x.2=Zr (l.take x.1) sc) }) 26 (fun x=> [(1,.int .i64 sc),(5,.sl (.row 23) (x.1.2.map fld)),(8,Zn l),(9,.int .i64 (l.length:Int)),(10,.int .i64 (x.1.1:Int))]) (fun x=> []) (fun x=> [(23,.live (x.1.2.length) (7) (63))]) (fun x=>(l).length-x.1.1) ⟨(0,[]),Nat.zero_le _,rfl⟩ ⟨rfl,(Fc5 rfl rfl rfl rfl rfl),fnl,(fcs rfl fnl)⟩ (fun x=>⟨(Fc5 rfl (by simp[PV.ids,ZV]) rfl rfl rfl),fnl⟩) (fun x=> ?_);obtain⟨⟨k,acc⟩,hk,hI⟩:=x;simp only at hk hI ⊢;have hacc:acc.length≤l.length:=by
  rw[hI];exact Nat.le_trans (List.length_filter_le _ _) (Zcr _ _)
 by_cases h:(k:Int)<(l.length:Int)
 ·(have hka:k<(l).length:=by omega);(have w1:=Zcd hka (hm));(have i1:(0:Int)≤(k:Int):=by omega)
  have hr:=Za1 (show acc.length+1≤1000000 by omega) (show 96≤1000 by omega);have hO:=Zb2 (l.getD k default) (hc _ (ZC hka));cases he:((l.getD k default).at'.sc==sc)
  ·have hs:Zr (l.take (k+1)) sc=Zr (l.take k) sc:=by
    rw[ZY hka (d:=default)];simp only[Zr,List.filter_append,List.filter_cons,he,Bool.false_eq_true,if_false,List.filter_nil,List.append_nil]
   simp only[go_sem,Zn,h,ZL hka,fld,i1,he,w1];exact⟨⟨(k+1,acc),by(try simp only);omega,by simp only;rw[hs,hI]⟩,by show(l).length-(k+1)<(l).length-k;omega,⟨rfl,(Fc5 rfl (by simp[upd,fld]) rfl rfl rfl),fnl,(fcs (by simp[upd]) fnl)⟩⟩
  ·have hs:Zr (l.take (k+1)) sc=Zr (l.take k) sc++ [l.getD k default]:=by
    rw[ZY hka (d:=default)];simp only[Zr,List.filter_append,List.filter_cons,he,if_true,List.filter_nil]
   simp only[go_sem,Zn,h,ZL hka,fld,i1,he];refine Za (hO) ?_ ?_ ?_;iterate 2 simp only[go_sem,fld]
   simp only[go_sem,fld,Zdw,hr,w1];exact⟨⟨(k+1,acc++ [l.getD k default]),by(try simp only);omega,by simp only;rw[hs,hI]⟩,by show(l).length-(k+1)<(l).length-k;omega,⟨rfl,(Fc5 rfl (by simp[upd,fld]) rfl rfl rfl),fnl,(fcs (by simp[upd]) fnl)⟩⟩
 ·obtain rfl:k=l.length:=by omega
  rw[List.take_length]at hI;subst hI;simp only[go_sem,h,Zn]
def atF (r:Rf):Fd→Bool:=fun x=>decide (x.at'=r)
def Zy (l:List Fd) (r:Rf):Fd×Int:=if idx (atF r) l<0 then(default,6)else(l.getD (idx (atF r) l).toNat default,0)
def ZhG (x:Fd×Int):PV:= .tup [fld x.1,.int .i64 x.2]
def ZaB (x:List Fd×Int):PV:= .tup [Zn x.1,.int .i64 x.2]
theorem ZnD (x:Fd×Int):(ZhG x).dids= []:=by simp only[ZhG,PV.dids,PV.didsL,ZqA,List.append_nil]
theorem Zak (x:List Fd×Int):(ZaB x).dids= []:=by simp only[ZaB,PV.dids,PV.didsL,Zfi,List.append_nil]
theorem Zpk:fld default= .agg [.int .i64 0,.str [],.str [],.int .i64 0,.str [],.sl .no [],.int .i64 0]:=rfl
theorem Zd2 (l:List Fd) (r:Rf) (hl:l.length≤100000) (hc:∀f∈l,f.cases'.length≤1000000):PL.Pure Tryz.prog 79 [Zn l,ref r] (ZhG (Zy l r)):=by
 have hm:l.length≤maxLen:=by rw[Zd];omega
 have hI:PL.Pure Tryz.prog 116 [Zn l,ref r] (.int .i64 (idx (atF r) l)):=Zho l r hm;unfold Zy;rcases ZcA (atF r) l with h2|⟨k,hk,h2⟩
 ·rw[h2]at hI ⊢;refine pov Tryz.func79 (by decide) rfl Tryz.ntmps79 Tryz.results79 (by simp) (ZnD _) ?_;simp only[go_sem,Zn,ref];refine Za (hI) ?_ ?_ ?_;iterate 2 simp only[go_sem,Zn,ref]
  simp only[go_sem,ZhG,Zpk]
 ·have i1:(0:Int)≤(k:Int):=by omega
  have i2:(k:Int)<(l.length:Int):=by omega
  have i3:¬(k:Int)<0:=by omega
  have hO:=Zb2 (l.getD k default) (hc _ (ZC hk));rw[h2]at hI;rw[h2,if_neg i3];refine pov Tryz.func79 (by decide) rfl Tryz.ntmps79 Tryz.results79 (by simp) (ZnD _) ?_;simp only[go_sem,Zn,ref];refine Za (hI) ?_ ?_ ?_;iterate 2 simp only[go_sem,Zn,ref]
  simp only[go_sem,i1,i2,i3,ZL hk,fld];refine Za (hO) ?_ ?_ ?_;iterate 2 simp only[go_sem,fld]
  simp only[go_sem,ZhG,fld]
theorem Zey (l:List Fd) (hl:l.length≤maxLen) (hl':∀f∈l,f.cases'.length≤maxLen):PL.Pure Tryz.prog 83 [Zn l] (.bool (ZW l)):=by
 by_cases h16:16<(l.length:Int)
 ·refine pov Tryz.func83 (by decide) rfl Tryz.ntmps83 Tryz.results83 (by simp) rfl ?_;simp only[go_sem,Zn,h16,ZW,Bool.false_and]
 ·have hx:ZW l=(List.range l.length).all (ZhF l):=by simp only[ZW,h16,decide_false,Bool.not_false,Bool.true_and]
  rw[hx];refine pov Tryz.func83 (by decide) rfl Tryz.ntmps83 Tryz.results83 (by simp) rfl ?_;simp only[go_sem,Zn,h16];refine ZI (ι:= { x:Nat // x≤(l).length∧(∀j,j<x→ZhF l j=true) }) 33 (fun x=> [(0,Zn l),(8,Zn l),(9,.int .i64 (l.length:Int)),(10,.int .i64 (x.1:Int))]) (fun x=> []) (fun x=> []) (fun x=>(l).length-x.1) ⟨0,Nat.zero_le _,fun j hj=>absurd hj (Nat.not_lt_zero j)⟩ ⟨rfl,(Fc4 rfl rfl rfl rfl),fnl,fnl⟩ (fun x=>⟨(Fc4 rfl rfl rfl rfl),fnl⟩) (fun x=> ?_);obtain⟨k,hk,hI⟩:=x;simp only at hk hI ⊢
  by_cases h:(k:Int)<(l.length:Int)
  ·(have hka:k<(l).length:=by omega);(have w1:=Zcd hka (hl));(have i1:(0:Int)≤(k:Int):=by omega)
   have hR:=Zd1 (l.getD k default) (hl' _ (ZC hka));cases hr:ZO (l.getD k default)
   ·rw[hr]at hR;have hz:=Zag (p:=ZhF l) hka (by simp only[ZhF,hr,Bool.false_and]);simp only[go_sem,Zn,h,ZL hka,fld,i1];refine Za (hR) ?_ ?_ ?_;iterate 2 simp only[go_sem,fld]
    simp only[go_sem,hz]
   ·rw[hr]at hR
    by_cases h0:0<(k:Int)
    ·have hk1:k-1<l.length:=by omega
     have w2:IntKind.i64.wrap ((k:Int)-1)=((k-1:Nat):Int):=by
      rw[Zd]at hl;rw[w64 (by omega)];omega
     have j1:(0:Int)≤((k-1:Nat):Int):=by omega
     have j2:((k-1:Nat):Int)<(l.length:Int):=by omega
     have hL:=Zm2 (l.getD (k-1) default).at' (l.getD k default).at';cases hb:Zdr (l.getD (k-1) default).at' (l.getD k default).at'
     ·rw[hb]at hL;have hz:=Zag (p:=ZhF l) hka (by simp only[ZhF,hb,decide_eq_false (show ¬k=0 by omega),Bool.or_self,Bool.and_false]);simp only[go_sem,Zn,h,ZL hka,fld,i1];refine Za (hR) ?_ ?_ ?_;iterate 2 simp only[go_sem,fld]
      simp only[go_sem];refine Ze (by kernel_rfl) (by kernel_rfl) ?_;simp only[go_sem,h0,w2,ZL hk1,ZL hka,fld,h,i1,j1,j2];refine Za (hL) ?_ ?_ ?_;iterate 2 simp only[go_sem,ref]
      simp only[go_sem,hz]
     ·rw[hb]at hL;have ok:ZhF l k=true:=by simp only[ZhF,hr,hb,Bool.or_true,Bool.and_self]
      simp only[go_sem,Zn,h,ZL hka,fld,i1];refine Za (hR) ?_ ?_ ?_;iterate 2 simp only[go_sem,fld]
      simp only[go_sem];refine Ze (by kernel_rfl) (by kernel_rfl) ?_;simp only[go_sem,h0,w2,ZL hk1,ZL hka,fld,h,i1,j1,j2];refine Za (hL) ?_ ?_ ?_;iterate 2 simp only[go_sem,ref]
      simp only[go_sem,w1];exact⟨⟨k+1,by(try simp only);omega,Zp hI ok⟩,by show(l).length-(k+1)<(l).length-k;omega,⟨rfl,(Fc4 rfl rfl rfl rfl),fnl,fnl⟩⟩
    ·have ok:ZhF l k=true:=by simp only[ZhF,hr,decide_eq_true (show k=0 by omega),Bool.true_or,Bool.and_self]
     simp only[go_sem,Zn,h,ZL hka,fld,i1];refine Za (hR) ?_ ?_ ?_;iterate 2 simp only[go_sem,fld]
     simp only[go_sem];refine Ze (by kernel_rfl) (by kernel_rfl) ?_;simp only[go_sem,h0,w1];exact⟨⟨k+1,by(try simp only);omega,Zp hI ok⟩,by show(l).length-(k+1)<(l).length-k;omega,⟨rfl,(Fc4 rfl rfl rfl rfl),fnl,fnl⟩⟩
  ·have hz:=Zej (p:=ZhF l) (n:=l.length) (fun j hj=>hI j (by omega));simp only[go_sem,Zn,h,hz]
theorem ZrV {α:Type} {l:List α} {k g:Nat} {d:α} (h:k<l.length):(l.take (k+1)).eraseIdx g=(l.take k).eraseIdx g++(if k=g then []else [l.getD k d]):=by
 have hlen:(l.take k).length=k:=by rw[List.length_take];omega
 rw[ZY h (d:=d)];rcases Nat.lt_or_ge g k with h1|h1
 ·rw[List.eraseIdx_append_of_lt_length (by omega),if_neg (by omega)]
 ·have e2:(l.take k).eraseIdx g=l.take k:=List.eraseIdx_of_length_le (by omega);rw[List.eraseIdx_append_of_length_le (by omega),e2,hlen]
  by_cases e:k=g
  ·subst e;simp
  ·rw[if_neg e,List.eraseIdx_of_length_le (by simp;omega)]
def Zbl (l:List Fd) (r:Rf):List Fd×Int:=if ZW l=false then([],5)else if idx (atF r) l<0 then([],6)else(l.eraseIdx (idx (atF r) l).toNat,0)
theorem Znb (l:List Fd) (r:Rf) (hl:l.length≤100000) (hc:∀f∈l,f.cases'.length≤1000000):PL.Pure Tryz.prog 90 [Zn l,ref r] (ZaB (Zbl l r)):=by
 have hm:l.length≤maxLen:=by rw[Zd];omega
 have hR:=Zey l hm (fun f hf=>by have:=hc f hf;rw[Zd];omega);have hI:PL.Pure Tryz.prog 116 [Zn l,ref r] (.int .i64 (idx (atF r) l)):=Zho l r hm;unfold Zbl;cases hr:ZW l
 ·rw[hr]at hR;refine pov Tryz.func90 (by decide) rfl Tryz.ntmps90 Tryz.results90 (by simp) (Zak _) ?_;simp only[go_sem,Zn,ref];refine Za (hR) ?_ ?_ ?_;iterate 2 simp only[go_sem,Zn]
  simp only[go_sem,ZaB,Zn]
 ·rw[hr]at hR;rcases ZcA (atF r) l with h2|⟨g,hg,h2⟩
  ·rw[h2]at hI ⊢;refine pov Tryz.func90 (by decide) rfl Tryz.ntmps90 Tryz.results90 (by simp) (Zak _) ?_;simp only[go_sem,Zn,ref];refine Za (hR) ?_ ?_ ?_;iterate 2 simp only[go_sem,Zn]
   simp only[go_sem,Zn];refine Za (hI) ?_ ?_ ?_;iterate 2 simp only[go_sem,Zn,ref]
   simp only[go_sem,ZaB,Zn]
  ·have i3:¬(g:Int)<0:=by omega
   have w2:IntKind.i64.wrap ((l.length:Int)-1)=((l.length-1:Nat):Int):=by rw[w64 (by omega)];omega
   rw[h2]at hI;rw[h2,if_neg i3];simp only[Bool.true_eq_false,if_false,Int.toNat_natCast];refine pov Tryz.func90 (by decide) rfl Tryz.ntmps90 Tryz.results90 (by simp) (Zak _) ?_;simp only[go_sem,Zn,ref];refine Za (hR) ?_ ?_ ?_;iterate 2 simp only[go_sem,Zn]
   simp only[go_sem,Zn];refine Za (hI) ?_ ?_ ?_;iterate 2 simp only[go_sem,Zn,ref]
   simp only[go_sem,Zn,i3,w2];refine⟨by omega,?_⟩;refine Zas 7 21 36 0 7 63 [] rfl rfl rfl ?_;refine ZI (ι:= { x:Nat×(List Fd) // x.1≤(l).length∧(x.2=(l.take x.1).eraseIdx g) }) 39 (fun x=> [(6,.int .i64 (g:Int)),(7,.sl (.row 36) (x.1.2.map fld)),(22,Zn l),(23,.int .i64 (l.length:Int)),(24,.int .i64 (x.1.1:Int))]) (fun x=> []) (fun x=> [(36,.live (x.1.2.length) (7) (63))]) (fun x=>(l).length-x.1.1) ⟨(0,[]),Nat.zero_le _,rfl⟩ ⟨rfl,(Fc5 rfl rfl rfl rfl rfl),fnl,(fcs rfl fnl)⟩ (fun x=>⟨(Fc5 rfl (by simp[PV.ids,ZV]) rfl rfl rfl),fnl⟩) (fun x=> ?_);obtain⟨⟨k,acc⟩,hk,hI⟩:=x;simp only at hk hI ⊢;have hacc:acc.length≤l.length:=by
    rw[hI];exact Nat.le_trans (List.length_eraseIdx_le _ _) (Zcr _ _)
   by_cases h:(k:Int)<(l.length:Int)
   ·(have hka:k<(l).length:=by omega);(have w1:=Zcd hka (hm));(have i1:(0:Int)≤(k:Int):=by omega)
    have hr:=Za1 (show acc.length+1≤1000000 by omega) (show 96≤1000 by omega);have hO:=Zb2 (l.getD k default) (hc _ (ZC hka));have hs:=ZrV (l:=l) (k:=k) (g:=g) (d:=default) hka
    by_cases he:k=g
    ·have he':((k:Int) !=(g:Int))=false:=by rw[he];exact bne_self_eq_false _
     rw[if_pos he,List.append_nil]at hs;simp only[go_sem,Zn,h,ZL hka,fld,i1,he',w1];exact⟨⟨(k+1,acc),by(try simp only);omega,by simp only;rw[hs,hI]⟩,by show(l).length-(k+1)<(l).length-k;omega,⟨rfl,(Fc5 rfl (by simp[upd,fld]) rfl rfl rfl),fnl,(fcs (by simp[upd]) fnl)⟩⟩
    ·have he':((k:Int) !=(g:Int))=true:=bne_iff_ne.2 (by omega);rw[if_neg he]at hs;simp only[go_sem,Zn,h,ZL hka,fld,i1,he'];refine Za (hO) ?_ ?_ ?_;iterate 2 simp only[go_sem,fld]
     simp only[go_sem,fld,Zdw,hr,w1];exact⟨⟨(k+1,acc++ [l.getD k default]),by(try simp only);omega,by simp only;rw[hs,hI]⟩,by show(l).length-(k+1)<(l).length-k;omega,⟨rfl,(Fc5 rfl (by simp[upd,fld]) rfl rfl rfl),fnl,(fcs (by simp[upd]) fnl)⟩⟩
   ·obtain rfl:k=l.length:=by omega
    rw[List.take_length]at hI;subst hI;simp only[go_sem,h,Zn,ZaB]
end Go.Proofs.YthingdchjkhfbaaGreat
