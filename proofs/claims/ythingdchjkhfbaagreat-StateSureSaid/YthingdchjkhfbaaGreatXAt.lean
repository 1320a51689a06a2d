/- Contracts of functions and laws of this seat, each for every input that it names: lemmas of the proof. -/
import Derived.Test.YthingdchjkhfbaaGreatXAq
import Derived.Test.YthingdchjkhfbaaGreatPlH
namespace Go.Proofs.YthingdchjkhfbaaGreat
set_option maxHeartbeats 64000000
set_option maxRecDepth 20000
set_option linter.unusedVariables false
set_option linter.unusedSimpArgs false
open Go.PL
def Zr7 (r:Rf):Fd→Bool:=fun f=>Zdr f.at' r
def ZnH (l:List Fd) (f:Fd):List Fd:=l.takeWhile (Zr7 f.at')++f::l.dropWhile (Zr7 f.at')
def Zhh (l:List Fd) (f:Fd):List Fd×Int:=if ZW l=false∨ZO f=false then([],5)else if 0≤idx (atF f.at') l then([],7)else if 16≤(l.length:Int)then([],14)else(ZnH l f,0)
structure WA (l:List Fd) (f:Fd) where
 k:Nat
 acc:List Fd
 hk:k≤l.length
 h:acc++ZnH (l.drop k) f=ZnH l f
structure WB (l:List Fd) (f:Fd) where
 k:Nat
 acc:List Fd
 hk:k≤l.length
 h:acc++l.drop k=ZnH l f
theorem Zeb {α:Type} {l:List α} {k:Nat} {d:α} (h:k<l.length):l.drop k=l.getD k d::l.drop (k+1):=by
 rw[List.getD_eq_getElem?_getD,List.getElem?_eq_getElem h];exact List.drop_eq_getElem_cons h
theorem ZzE {l:List Fd} {f x:Fd} (h:Zdr x.at' f.at'=true):ZnH (x::l) f=x::ZnH l f:=by
 simp[ZnH,Zr7,h]
theorem ZzD {l:List Fd} {f x:Fd} (h:Zdr x.at' f.at'=false):ZnH (x::l) f=f::x::l:=by
 simp[ZnH,Zr7,h]
theorem Zme (l:List Fd) (f:Fd):(ZnH l f).length=l.length+1:=by
 unfold ZnH;have:=congrArg List.length (List.takeWhile_append_dropWhile (p:=Zr7 f.at') (l:=l));simp only[List.length_append,List.length_cons]at *;omega
def Zje (f:Fd):List PV:= [.int .i64 f.at'.sc,.str f.at'.gr,.str f.at'.nm,.int .i64 f.kind,.str f.df,.sl .no (f.cases'.map .str),.int .i64 f.worth]
theorem Zs9 (l:List Fd) (f:Fd) (hl:l.length≤100000) (hc:∀f∈l,f.cases'.length≤1000000) (hf:f.cases'.length≤1000000):PL.Pure Tryz.prog 91 [Zn l,fld f] (ZaB (Zhh l f)):=by
 have hm:l.length≤maxLen:=by rw[Zd];omega
 have hR:=Zey l hm (fun f hf=>by have:=hc f hf;rw[Zd];omega);have hF:=Zd1 f (by rw[Zd];omega);have hI:PL.Pure Tryz.prog 116 [Zn l,ref f.at'] (.int .i64 (idx (atF f.at') l)):=Zho l f.at' hm;have hOf:=Zb2 f hf;unfold Zhh;cases hr:ZW l
 ·rw[hr]at hR;simp only[true_or,if_true];refine pov Tryz.func91 (by decide) rfl Tryz.ntmps91 Tryz.results91 (by simp) (Zak _) ?_;simp only[go_sem,Zn,fld];refine ZdY ?_;simp only[go_sem];refine Za (hR) ?_ ?_ ?_;iterate 2 simp only[go_sem,Zn]
  simp only[go_sem,ZaB,Zn]
 ·rw[hr]at hR;cases hrf:ZO f
  ·rw[hrf]at hF;simp only[or_true,if_true];refine pov Tryz.func91 (by decide) rfl Tryz.ntmps91 Tryz.results91 (by simp) (Zak _) ?_;simp only[go_sem,Zn,fld];refine ZdY ?_;simp only[go_sem];refine Za (hR) ?_ ?_ ?_;iterate 2 simp only[go_sem,Zn]
   simp only[go_sem];refine Za (hF) ?_ ?_ ?_;iterate 2 simp only[go_sem,fld]
   simp only[go_sem,ZaB,Zn]
  ·rw[hrf]at hF;simp only[Bool.true_eq_false,or_self,if_false]
   by_cases h2:(0:Int)≤idx (atF f.at') l
   ·rw[if_pos h2];refine pov Tryz.func91 (by decide) rfl Tryz.ntmps91 Tryz.results91 (by simp) (Zak _) ?_;simp only[go_sem,Zn,fld];refine ZdY ?_;simp only[go_sem];refine Za (hR) ?_ ?_ ?_;iterate 2 simp only[go_sem,Zn]
    simp only[go_sem];refine Za (hF) ?_ ?_ ?_;iterate 2 simp only[go_sem,fld]
    simp only[go_sem];refine Za (hI) ?_ ?_ ?_;iterate 2 simp only[go_sem,Zn,ref]
    simp only[go_sem,h2,ZaB,Zn]
   ·rw[if_neg h2]
    by_cases h3:(16:Int)≤(l.length:Int)
    ·rw[if_pos h3];refine pov Tryz.func91 (by decide) rfl Tryz.ntmps91 Tryz.results91 (by simp) (Zak _) ?_;simp only[go_sem,Zn,fld];refine ZdY ?_;simp only[go_sem];refine Za (hR) ?_ ?_ ?_;iterate 2 simp only[go_sem,Zn]
     simp only[go_sem];refine Za (hF) ?_ ?_ ?_;iterate 2 simp only[go_sem,fld]
     simp only[go_sem];refine Za (hI) ?_ ?_ ?_;iterate 2 simp only[go_sem,Zn,ref]
     simp only[go_sem,h2,h3,ZaB,Zn]
    ·rw[if_neg h3];have w0:IntKind.i64.wrap ((l.length:Int)+1)=((l.length+1:Nat):Int):=by rw[w64 (by omega)];rfl
     refine pov Tryz.func91 (by decide) rfl Tryz.ntmps91 Tryz.results91 (by simp) (Zak _) ?_;simp only[go_sem,Zn,fld];refine ZyQ (ι0:=WA l f) (ι1:=WB l f) 72
      (fun x=> [(0,Zn l),(3,.ptr 3 0),(6,.sl (.row 49) (x.acc.map fld)),(7,.int .i64 (x.k:Int))]) (fun x=> [(3,Zje f,false)]) (fun x=> [(49,.live x.acc.length 7 63)]) (fun x=>l.length-x.k)
      (fun x=> [(0,Zn l),(6,.sl (.row 68) (x.acc.map fld)),(7,.int .i64 (x.k:Int))]) (fun x=> []) (fun x=> [(68,.live x.acc.length 7 63)]) (fun x=>l.length-x.k) (l.length+1) (fun j=>by show l.length-j.k<l.length+1;omega)
      0 1 _ _ (by exact rfl) (by exact rfl)
      (fun x=>⟨Fc4 rfl rfl (by simp[PV.ids,ZV]) rfl,(fcs rfl fnl)⟩)
      (fun x=>⟨Fc3 rfl (by simp[PV.ids,ZV]) rfl,fnl⟩)
      (fun x cut=> ?_) (fun x=> ?_) (fun cut=> ?_)
     ·obtain⟨k,acc,hk,hx⟩:=x;simp only at cut ⊢;have hacc:acc.length≤l.length+1:=by rw[←Zme l f,←hx,List.length_append];omega
      have hrm:=Za1 (show acc.length+1≤1000000 by omega) (show 96≤1000 by omega)
      by_cases h:(k:Int)<(l.length:Int)
      ·have hka:k<l.length:=by omega
       have w1:=Zcd hka hm;have i1:(0:Int)≤(k:Int):=by omega
       have hL:=Zm2 (l.getD k default).at' f.at';have hO:=Zb2 (l.getD k default) (hc _ (ZC hka));rw[Zeb hka (d:=default)]at hx;cases hb:Zdr (l.getD k default).at' f.at'
       ·rw[hb]at hL;rw[ZzD hb]at hx;simp only[go_sem,Zn,Zje];refine Ze (by kernel_rfl) (by kernel_rfl) ?_;simp only[go_sem,h,i1,ZL hka,fld];refine Za (hL) ?_ ?_ ?_;iterate 2 simp only[go_sem,ref]
        simp only[go_sem];refine Za (hOf) ?_ ?_ ?_;iterate 2 simp only[go_sem,fld]
        simp only[go_sem,fld,Zdw,hrm];refine Zas 6 56 68 (acc.length+1) 7 63 ((acc++ [f]).map fld) (by simp[upd,fld]) rfl rfl ?_;refine Zax (cut ⟨k,acc++ [f],hk,by rw[Zeb hka (d:=default),←hx];simp⟩ _ ⟨rfl,Fc3 rfl rfl rfl,fnl,fcs (by simp[upd,Hp.setq,St.with]) fnl⟩)
       ·rw[hb]at hL;rw[ZzE hb]at hx;simp only[go_sem,Zn,Zje];refine Ze (by kernel_rfl) (by kernel_rfl) ?_;simp only[go_sem,h,i1,ZL hka,fld];refine Za (hL) ?_ ?_ ?_;iterate 2 simp only[go_sem,ref]
        simp only[go_sem,h,i1,ZL hka,fld];refine Za (hO) ?_ ?_ ?_;iterate 2 simp only[go_sem,fld]
        simp only[go_sem,fld,Zdw,hrm,w1];exact Or.inl ⟨rfl,⟨k+1,acc++ [l.getD k default],by omega,by rw[←hx];simp⟩,by show l.length-(k+1)<l.length-k;omega,⟨rfl,Fc4 rfl rfl (by simp[upd,fld]) rfl,fcs ⟨rfl,rfl⟩ fnl,fcs (by simp[upd]) fnl⟩⟩
      ·obtain rfl:k=l.length:=by omega
       simp only[go_sem,Zn,Zje];refine Ze (by kernel_rfl) (by kernel_rfl) ?_;simp only[go_sem,h];refine Za (hOf) ?_ ?_ ?_;iterate 2 simp only[go_sem,fld]
       simp only[go_sem,fld,Zdw,hrm];refine Zas 6 56 68 (acc.length+1) 7 63 ((acc++ [f]).map fld) (by simp[upd,fld]) rfl rfl ?_;refine Zax (cut ⟨l.length,acc++ [f],hk,by rw[←hx];simp[ZnH]⟩ _ ⟨rfl,Fc3 rfl rfl rfl,fnl,fcs (by simp[upd,Hp.setq,St.with]) fnl⟩)
     ·obtain⟨k,acc,hk,hx⟩:=x;simp only;have hacc:acc.length≤l.length+1:=by rw[←Zme l f,←hx,List.length_append];omega
      have hrm:=Za1 (show acc.length+1≤1000000 by omega) (show 96≤1000 by omega)
      by_cases h:(k:Int)<(l.length:Int)
      ·have hka:k<l.length:=by omega
       have w1:=Zcd hka hm;have i1:(0:Int)≤(k:Int):=by omega
       have hO:=Zb2 (l.getD k default) (hc _ (ZC hka));rw[Zeb hka (d:=default)]at hx;simp only[go_sem,Zn,h,i1,ZL hka,fld];refine Za (hO) ?_ ?_ ?_;iterate 2 simp only[go_sem,fld]
       simp only[go_sem,fld,Zdw,hrm,w1];exact⟨⟨k+1,acc++ [l.getD k default],by omega,by rw[←hx];simp⟩,by show l.length-(k+1)<l.length-k;omega,⟨rfl,Fc3 rfl (by simp[upd,fld]) rfl,fnl,fcs (by simp[upd]) fnl⟩⟩
      ·obtain rfl:k=l.length:=by omega
       rw[List.drop_length,List.append_nil]at hx;subst hx;simp only[go_sem,Zn,h,ZaB]
     ·simp only[go_sem];refine Za (hR) ?_ ?_ ?_;iterate 2 simp only[go_sem,Zn]
      simp only[go_sem];refine Za (hF) ?_ ?_ ?_;iterate 2 simp only[go_sem,fld]
      simp only[go_sem];refine Za (hI) ?_ ?_ ?_;iterate 2 simp only[go_sem,Zn,ref]
      simp only[go_sem,h2,h3,w0];refine⟨by omega,?_⟩;refine Zas 6 27 49 0 7 63 [] rfl rfl rfl ?_;exact Zax (cut ⟨0,[],Nat.zero_le _,rfl⟩ _ ⟨rfl,(Fc4 rfl rfl rfl rfl),fcs ⟨rfl,rfl⟩ fnl,fcs rfl fnl⟩)
open Go.PL
def ZcZ (l:List Pr) (s:Str):Bool:=l.any fun q=>q.fr'==s
theorem ZgG (l:List Pr) (s:Str):(Zai l s).2=ZcZ l s:=by
 unfold Zai ZcZ;cases h:l.find? (fun p=>p.fr'==s)with
 |none=>
  symm
  rw[List.any_eq_false];intro x hx;exact List.find?_eq_none.1 h x hx
 |some p=>
  symm
  exact List.any_eq_true.2 ⟨p,List.mem_of_find?_eq_some h,List.find?_some (p:=fun p:Pr=>p.fr'==s) h⟩
theorem Zjq (l:List Pr) (s:Str):(Zbi l).any (· == s)=ZcZ l s:=by
 simp[Zbi,ZcZ,List.any_map,Function.comp_def]
def ZcT (t o:List Pr) (i:Nat):Bool:=Zap (t.getD i default).fr'&&(!(ZcZ (t.take i) (t.getD i default).fr')&&ZcZ o (t.getD i default).to')
def Za9 (t o:List Pr):Bool:=decide (1≤t.length∧t.length≤6)&&(List.range t.length).all (ZcT t o)
theorem ZmJ (l:List Pr) (k:Nat):List.take k (l.map pr)=(l.take k).map pr:=by rw[List.map_take]
theorem Zg7 (l:List Pr):Sized 2 (l.map pr):=fun e he=>by
 obtain⟨x,_,rfl⟩:=List.mem_map.1 he;rfl
theorem ZvL (l:List Pr):Zcy (l.map pr):=fun e he=>by
 obtain⟨x,_,rfl⟩:=List.mem_map.1 he;rfl
theorem Zr3 {l:List Pr} {s:Str} {k:Nat} (hk:k<l.length) (h:((l.getD k default).fr'==s)=true):ZcZ l s=true:=ZeA (p:=fun q:Pr=>q.fr'==s) hk h
theorem Zpn {l:List Pr} {s:Str} (h:∀j,j<l.length→((l.getD j default).fr'==s)=false):ZcZ l s=false:=Zd5 (p:=fun q:Pr=>q.fr'==s) (d:=default) h
theorem Zfz (t o:List Pr) (ho:o.length≤maxLen):PL.Pure Tryz.prog 168 [prs t,prs o] (.bool (Za9 t o)):=by
 by_cases h1:(t.length:Int)<1
 ·have hx:Za9 t o=false:=by simp only[Za9,show ¬(1≤t.length∧t.length≤6)by omega,decide_false,Bool.false_and]
  refine pov Tryz.func168 (by decide) rfl Tryz.ntmps168 Tryz.results168 (by simp) rfl ?_;simp only[go_sem,prs,h1,hx]
 ·by_cases h2:(6:Int)<(t.length:Int)
  ·have hx:Za9 t o=false:=by simp only[Za9,show ¬(1≤t.length∧t.length≤6)by omega,decide_false,Bool.false_and]
   refine pov Tryz.func168 (by decide) rfl Tryz.ntmps168 Tryz.results168 (by simp) rfl ?_;simp only[go_sem,prs,h1,h2,hx]
  ·have hm:t.length≤maxLen:=by rw[Zd];omega
   have hx:Za9 t o=(List.range t.length).all (ZcT t o):=by simp only[Za9,show(1≤t.length∧t.length≤6)by omega,and_self,decide_true,Bool.true_and]
   rw[hx];refine pov Tryz.func168 (by decide) rfl Tryz.ntmps168 Tryz.results168 (by simp) rfl ?_;simp only[go_sem,prs,h1,h2];refine ZI (ι:= { x:Nat // x≤(t).length∧(∀j,j<x→ZcT t o j=true) }) 54 (fun x=> [(0,prs t),(1,prs o),(19,prs t),(20,.int .i64 (t.length:Int)),(21,.int .i64 (x.1:Int))]) (fun x=> []) (fun x=> []) (fun x=>(t).length-x.1) ⟨0,Nat.zero_le _,fun j hj=>absurd hj (Nat.not_lt_zero j)⟩ ⟨rfl,(Fc5 rfl rfl rfl rfl rfl),fnl,fnl⟩ (fun x=>⟨(Fc5 rfl rfl rfl rfl rfl),fnl⟩) (fun x=> ?_);obtain⟨k,hk,hI⟩:=x;simp only at hk hI ⊢
   by_cases h:(k:Int)<(t.length:Int)
   ·(have hka:k<(t).length:=by omega);(have w1:=Zcd hka (hm));(have i1:(0:Int)≤(k:Int):=by omega)
    have i2:(k:Int)≤(t.length:Int):=by omega
    have hN:=Za5 (t.getD k default).fr';cases hn:Zap (t.getD k default).fr'
    ·rw[hn]at hN;have hz:=Zag (p:=ZcT t o) hka (by simp only[ZcT,hn,Bool.false_and]);simp only[go_sem,prs,h,i1,Z6 hka,pr];refine Za (hN) ?_ ?_ ?_;iterate 2 simp only[go_sem]
     simp only[go_sem,hz]
    ·rw[hn]at hN;have hT:(t.take k).length≤maxLen:=by rw[List.length_take];omega
     simp only[go_sem,prs,h,i1,Z6 hka,pr];refine Za (hN) ?_ ?_ ?_;iterate 2 simp only[go_sem]
     simp only[go_sem,i1,i2,Zg7,cut,Nat.sub_zero,ZmJ];refine ZI (ι:= { x:Nat // x≤(t.take k).length∧(∀j,j<x→(((t.take k).getD j default).fr'==(t.getD k default).fr')=false) }) 54 (fun x=> [(0,prs t),(1,prs o),(6,.ptr 6 0),(19,prs t),(20,.int .i64 (t.length:Int)),(21,.int .i64 (k:Int)),(32,.sl .no ((t.take k).map pr)),(33,.int .i64 ((t.take k).length:Int)),(34,.int .i64 (x.1:Int))]) (fun x=> [(6,[.str (t.getD k default).fr',.str (t.getD k default).to'],false)]) (fun x=> []) (fun x=>(t.take k).length-x.1) ⟨0,Nat.zero_le _,fun j hj=>absurd hj (Nat.not_lt_zero j)⟩ ⟨rfl,(Fc9 rfl rfl rfl rfl rfl rfl rfl rfl rfl),(fcs ⟨rfl,rfl⟩ fnl),fnl⟩ (fun x=>⟨(Fc9 rfl rfl rfl rfl rfl rfl rfl rfl rfl),(fcs rfl fnl)⟩) (fun x=> ?_);obtain⟨kb,hkb,hIb⟩:=x;simp only at hkb hIb ⊢
     by_cases hb:(kb:Int)<((t.take k).length:Int)
     ·(have hkab:kb<(t.take k).length:=by omega);(have w1b:=Zcd hkab (hT));(have i1b:(0:Int)≤(kb:Int):=by omega)
      cases he:(((t.take k).getD kb default).fr'==(t.getD k default).fr')
      ·simp only[go_sem,prs,hb,Z6 hkab,pr,i1b,he,w1b];exact⟨⟨kb+1,by(try simp only);omega,Zp hIb he⟩,by show(t.take k).length-(kb+1)<(t.take k).length-kb;omega,⟨rfl,(Fc9 rfl rfl rfl rfl rfl rfl rfl rfl rfl),(fcs ⟨rfl,rfl⟩ fnl),fnl⟩⟩
      ·have hz:=Zag (p:=ZcT t o) hka (by simp only[ZcT,Zr3 hkab he,Bool.not_true,Bool.false_and,Bool.and_false]);simp only[go_sem,prs,hb,Z6 hkab,pr,i1b,he,hz]
     ·have hf:=Zpn (l:=t.take k) (s:=(t.getD k default).fr') (fun j hj=>hIb j (by omega));have hC:=Zdb o (t.getD k default).to' ho;have hs:=ZgG o (t.getD k default).to';cases hh:ZcZ o (t.getD k default).to'
      ·have hz:=Zag (p:=ZcT t o) hka (by simp only[ZcT,hh,Bool.and_false]);rw[hh]at hs;simp only[go_sem,prs,hb];refine Za (hC) ?_ ?_ ?_;iterate 2 simp only[go_sem,prs]
       simp only[go_sem,ZdP,hs,hz]
      ·have ok:ZcT t o k=true:=by simp only[ZcT,hn,hf,hh,Bool.not_false,Bool.and_self]
       rw[hh]at hs;simp only[go_sem,prs,hb];refine Za (hC) ?_ ?_ ?_;iterate 2 simp only[go_sem,prs]
       simp only[go_sem,ZdP,hs,w1];exact⟨⟨k+1,by(try simp only);omega,Zp hI ok⟩,by show(t).length-(k+1)<(t).length-k;omega,⟨rfl,(Fc5 rfl rfl rfl rfl rfl),fnl,fnl⟩⟩
   ·have hz:=Zej (p:=ZcT t o) (n:=t.length) (fun j hj=>hI j (by omega));simp only[go_sem,prs,h,hz]
theorem ZiU (t o:List Pr) (ho:o.length≤1000000):PL.Pure Tryz.prog 141 [prs t,prs o] (.bool (Za9 t o)):=by
 by_cases h1:(t.length:Int)=0
 ·have hx:Za9 t o=false:=by simp only[Za9,show ¬(1≤t.length∧t.length≤6)by omega,decide_false,Bool.false_and]
  have h1':((t.length:Int)==0)=true:=by rw[h1];rfl
  refine pov Tryz.func141 (by decide) rfl Tryz.ntmps141 Tryz.results141 (by simp) rfl ?_;simp only[go_sem,prs,h1',hx]
 ·have h1':((t.length:Int)==0)=false:=beq_eq_false_iff_ne.2 h1
  by_cases h2:(6:Int)<(t.length:Int)
  ·have hx:Za9 t o=false:=by simp only[Za9,show ¬(1≤t.length∧t.length≤6)by omega,decide_false,Bool.false_and]
   refine pov Tryz.func141 (by decide) rfl Tryz.ntmps141 Tryz.results141 (by simp) rfl ?_;simp only[go_sem,prs,h1',h2,hx]
  ·have hm:t.length≤maxLen:=by rw[Zd];omega
   have hx:Za9 t o=(List.range t.length).all (ZcT t o):=by simp only[Za9,show(1≤t.length∧t.length≤6)by omega,and_self,decide_true,Bool.true_and]
   rw[hx];refine pov Tryz.func141 (by decide) rfl Tryz.ntmps141 Tryz.results141 (by simp) rfl ?_;simp only[go_sem,prs,h1',h2];refine ZI (ι:= { x:Nat // x≤(t).length∧(∀j,j<x→ZcT t o j=true) }) 50 (fun x=> [(0,prs t),(1,prs o),(5,.int .i64 (x.1:Int))]) (fun x=> []) (fun x=> []) (fun x=>(t).length-x.1) ⟨0,Nat.zero_le _,fun j hj=>absurd hj (Nat.not_lt_zero j)⟩ ⟨rfl,(Fc3 rfl rfl rfl),fnl,fnl⟩ (fun x=>⟨(Fc3 rfl rfl rfl),fnl⟩) (fun x=> ?_);obtain⟨k,hk,hI⟩:=x;simp only at hk hI ⊢
   by_cases h:(k:Int)<(t.length:Int)
   ·(have hka:k<(t).length:=by omega);(have w1:=Zcd hka (hm));(have i1:(0:Int)≤(k:Int):=by omega)
    have i2:(k:Int)≤(t.length:Int):=by omega
    have hN:=Zc0 (t.getD k default).fr';have hT:(t.take k).length≤1000000:=by rw[List.length_take];omega
    have hF1:=ZiR (t.take k) hT;have hF2:=ZiR o ho;have hH1:=Zgw (Zbi (t.take k)) (t.getD k default).fr' (by rw[Zbi,List.length_map,Zd];omega);have hH2:=Zgw (Zbi o) (t.getD k default).to' (by rw[Zbi,List.length_map,Zd];omega);rw[Zjq]at hH1 hH2;cases hn:Zap (t.getD k default).fr'
    ·rw[hn]at hN;have hz:=Zag (p:=ZcT t o) hka (by simp only[ZcT,hn,Bool.false_and]);simp only[go_sem,prs,h,i1];refine Ze (by kernel_rfl) (by kernel_rfl) ?_;simp only[go_sem,prs,h,i1,Z6 hka,pr];refine Za (hN) ?_ ?_ ?_;iterate 2 simp only[go_sem]
     simp only[go_sem,hz]
    ·rw[hn]at hN;cases hf:ZcZ (t.take k) (t.getD k default).fr'
     ·rw[hf]at hH1;cases hh:ZcZ o (t.getD k default).to'
      ·rw[hh]at hH2;have hz:=Zag (p:=ZcT t o) hka (by simp only[ZcT,hh,Bool.and_false]);simp only[go_sem,prs,h,i1];refine Ze (by kernel_rfl) (by kernel_rfl) ?_;simp only[go_sem,prs,h,i1,Z6 hka,pr];refine Za (hN) ?_ ?_ ?_;iterate 2 simp only[go_sem]
       simp only[go_sem,prs,h,i1,i2,Zg7,cut,Nat.sub_zero,ZmJ];refine Za (hF1) ?_ ?_ ?_;iterate 2 simp only[go_sem,prs]
       simp only[go_sem,prs,h,i1,i2,Z6 hka,pr];refine Za (hH1) ?_ ?_ ?_;iterate 2 simp only[go_sem,ZaM]
       simp only[go_sem,prs];refine Za (hF2) ?_ ?_ ?_;iterate 2 simp only[go_sem,prs]
       simp only[go_sem,prs,h,i1,i2,Z6 hka,pr];refine Za (hH2) ?_ ?_ ?_;iterate 2 simp only[go_sem,ZaM]
       simp only[go_sem,hz]
      ·rw[hh]at hH2;have ok:ZcT t o k=true:=by simp only[ZcT,hn,hf,hh,Bool.not_false,Bool.and_self]
       simp only[go_sem,prs,h,i1];refine Ze (by kernel_rfl) (by kernel_rfl) ?_;simp only[go_sem,prs,h,i1,Z6 hka,pr];refine Za (hN) ?_ ?_ ?_;iterate 2 simp only[go_sem]
       simp only[go_sem,prs,h,i1,i2,Zg7,cut,Nat.sub_zero,ZmJ];refine Za (hF1) ?_ ?_ ?_;iterate 2 simp only[go_sem,prs]
       simp only[go_sem,prs,h,i1,i2,Z6 hka,pr];refine Za (hH1) ?_ ?_ ?_;iterate 2 simp only[go_sem,ZaM]
       simp only[go_sem,prs];refine Za (hF2) ?_ ?_ ?_;iterate 2 simp only[go_sem,prs]
       simp only[go_sem,prs,h,i1,i2,Z6 hka,pr];refine Za (hH2) ?_ ?_ ?_;iterate 2 simp only[go_sem,ZaM]
       simp only[go_sem,w1];exact⟨⟨k+1,by(try simp only);omega,Zp hI ok⟩,by show(t).length-(k+1)<(t).length-k;omega,⟨rfl,(Fc3 rfl rfl rfl),fnl,fnl⟩⟩
     ·rw[hf]at hH1;have hz:=Zag (p:=ZcT t o) hka (by simp only[ZcT,hf,Bool.not_true,Bool.false_and,Bool.and_false]);simp only[go_sem,prs,h,i1];refine Ze (by kernel_rfl) (by kernel_rfl) ?_;simp only[go_sem,prs,h,i1,Z6 hka,pr];refine Za (hN) ?_ ?_ ?_;iterate 2 simp only[go_sem]
      simp only[go_sem,prs,h,i1,i2,Zg7,cut,Nat.sub_zero,ZmJ];refine Za (hF1) ?_ ?_ ?_;iterate 2 simp only[go_sem,prs]
      simp only[go_sem,prs,h,i1,i2,Z6 hka,pr];refine Za (hH1) ?_ ?_ ?_;iterate 2 simp only[go_sem,ZaM]
      simp only[go_sem,hz]
   ·have hz:=Zej (p:=ZcT t o) (n:=t.length) (fun j hj=>hI j (by omega));simp only[go_sem,prs,h,hz]
theorem ZiB (x:Ln):(lns x).dids= []:=by
 have:∀l:List Pr,PV.didsL (l.map pr)= []:=fun l=>by
  induction l with
  |nil=>rfl
  |cons t l ih=>simp only[List.map_cons,PV.didsL,ih,pr,PV.dids,List.append_nil]
 simp only[lns,PV.dids,PV.didsL,Zb5,this,List.append_nil]
structure OkLn (x:Ln):Prop where
 c:x.fd.cases'.length≤1000000
 f:x.fo.length≤1000000
 b:x.ba.length≤1000000
theorem ZiP (x:Ln) (hx:OkLn x):PL.Pure Tryz.prog 105 [lns x] (lns x):=by
 have hF:=Zb2 x.fd hx.c;have r1:=Za1 hx.f (show 32≤1000 by omega);have r2:=Za1 hx.b (show 32≤1000 by omega);refine pov Tryz.func105 (by decide) rfl Tryz.ntmps105 Tryz.results105 (by simp) (ZiB _) ?_;simp only[go_sem,lns];refine Za (hF) ?_ ?_ ?_;iterate 2 simp only[go_sem,fld]
 simp only[go_sem,fld,lns,Zg7,ZvL,r1,r2]
theorem Zkz (a b:Ln) (ha:OkLn a) (hb:OkLn b):PL.Pure Tryz.prog 104 [lns a,lns b] (.bool (decide (a=b))):=by
 have hF:=Zhn a.fd b.fd (by have:=ha.c;rw[Zd];omega) (by have:=hb.c;rw[Zd];omega);have h1:=ZmZ a.fo b.fo (by have:=ha.f;rw[Zd];omega) (by have:=hb.f;rw[Zd];omega);have h2:=ZmZ a.ba b.ba (by have:=ha.b;rw[Zd];omega) (by have:=hb.b;rw[Zd];omega);clear ha hb;refine pov Tryz.func104 (by decide) rfl Tryz.ntmps104 Tryz.results104 (by simp) rfl ?_;simp only[go_sem,lns,Zt];repeat' (first|(refine ZA (fun h=> ?_) (fun h=> ?_)<;>(try simp only[go_sem,h,Zt]))|(refine Zz (fun h=> ?_) (fun h=> ?_)<;>(try simp only[go_sem,h,Zt]))|(refine ZN (fun h=> ?_) (fun h=> ?_)<;>(try simp only[go_sem,h,Zt]))|((refine Za (hF) ?_ ?_ ?_);(focus simp only[go_sem,fld,prs]);(focus exact rfl);(try simp only[go_sem,Zt]))|((refine Za (h1) ?_ ?_ ?_);(focus simp only[go_sem,fld,prs]);(focus exact rfl);(try simp only[go_sem,Zt]))|((refine Za (h2) ?_ ?_ ?_);(focus simp only[go_sem,fld,prs]);(focus exact rfl);(try simp only[go_sem,Zt]))|((refine Ze (by kernel_rfl) (by kernel_rfl) ?_);(try simp only[go_sem,Zt])))
 all_goals (clear hF h1 h2;(cases a;cases b;simp_all)<;>rfl)
theorem ZoV (a b:Ln) (ha:OkLn a) (hb:OkLn b):PL.Pure Tryz.prog 103 [lns a,lns b] (.bool (decide (a=b))):=by
 have hF:=ZiQ a.fd b.fd (by have:=ha.c;rw[Zd];omega) (by have:=hb.c;rw[Zd];omega);have h1:=ZkD a.fo b.fo (by have:=ha.f;rw[Zd];omega) (by have:=hb.f;rw[Zd];omega);have h2:=ZkD a.ba b.ba (by have:=ha.b;rw[Zd];omega) (by have:=hb.b;rw[Zd];omega);clear ha hb;refine pov Tryz.func103 (by decide) rfl Tryz.ntmps103 Tryz.results103 (by simp) rfl ?_;simp only[go_sem,lns,Zt];repeat' (first|(refine ZA (fun h=> ?_) (fun h=> ?_)<;>(try simp only[go_sem,h,Zt]))|(refine Zz (fun h=> ?_) (fun h=> ?_)<;>(try simp only[go_sem,h,Zt]))|(refine ZN (fun h=> ?_) (fun h=> ?_)<;>(try simp only[go_sem,h,Zt]))|((refine Za (hF) ?_ ?_ ?_);(focus simp only[go_sem,fld,prs]);(focus exact rfl);(try simp only[go_sem,Zt]))|((refine Za (h1) ?_ ?_ ?_);(focus simp only[go_sem,fld,prs]);(focus exact rfl);(try simp only[go_sem,Zt]))|((refine Za (h2) ?_ ?_ ?_);(focus simp only[go_sem,fld,prs]);(focus exact rfl);(try simp only[go_sem,Zt]))|((refine Ze (by kernel_rfl) (by kernel_rfl) ?_);(try simp only[go_sem,Zt])))
 all_goals (clear hF h1 h2;(cases a;cases b;simp_all)<;>rfl)
open Go.PL
def ZcF (x:Ln):Ln×Bool:=
 if x.kind=1∨x.kind=5 then(⟨x.kind,x.at',x.nm,[],0,default,[],[]⟩,true)
 else if x.kind=2∨x.kind=3 then(⟨x.kind,default,[],[],0,x.fd,[],[]⟩,true)
 else if x.kind=4 then(⟨x.kind,x.at',[],[],0,default,[],[]⟩,true)
 else if x.kind=6∨x.kind=9 then(⟨x.kind,x.at',x.nm,x.ot,x.fac,default,[],[]⟩,true)
 else if x.kind=7∨x.kind=10 then(⟨x.kind,x.at',[],x.ot,0,default,[],[]⟩,true)
 else if x.kind=8 then(⟨x.kind,x.at',x.nm,x.ot,0,default,x.fo,x.ba⟩,true)
 else(default,false)
def lnb (x:Ln×Bool):PV:= .tup [lns x.1,.bool x.2]
theorem Zwg (x:Ln×Bool):(lnb x).dids= []:=by simp only[lnb,PV.dids,PV.didsL,ZiB,List.append_nil]
theorem Zjy:lns default= .agg [.int .i64 0,.int .i64 0,.str [],.str [],.str [],.str [],.int .i64 0,.int .i64 0,.str [],.str [],.int .i64 0,.str [],.sl .no [],.int .i64 0,.sl .no [],.sl .no []]:=rfl
theorem Zsg (x:Ln):PL.Pure Tryz.prog 128 [lns x] (lnb (ZcF x)):=by
 refine pov Tryz.func128 (by decide) rfl Tryz.ntmps128 Tryz.results128 (by simp) (Zwg _) ?_;simp only[go_sem,lns];repeat' (first|(refine ZA (fun h=> ?_) (fun h=> ?_)<;>(try simp only[go_sem,h]))|(refine Zz (fun h=> ?_) (fun h=> ?_)<;>(try simp only[go_sem,h]))|(refine ZN (fun h=> ?_) (fun h=> ?_)<;>(try simp only[go_sem,h]))|((refine Zhe [(1,4)] (by kernel_rfl) (by kernel_rfl) (by exact rfl) ?_);(try simp only[go_sem]))|((refine Ze (by kernel_rfl) (by kernel_rfl) ?_);(try simp only[go_sem])))
 all_goals (simp only[beq_iff_eq,beq_eq_false_iff_ne,ne_eq]at *;simp[ZcF,lnb,lns, *];try decide)
theorem Zyd {x:Ln} (hx:OkLn x):OkLn (ZcF x).1:=by
 unfold ZcF;repeat' split
 all_goals exact⟨by first|exact hx.c|exact Nat.zero_le _,by first|exact hx.f|exact Nat.zero_le _,by first|exact hx.b|exact Nat.zero_le _⟩
def rtM (x:Ln):Bool:=Zap x.nm&&(Za9 x.fo x.ba&&(Za9 x.ba x.fo&&(((Zai x.fo x.nm).2&&((Zai x.fo x.nm).1==x.ot))&&((Zai x.ba x.ot).2&&((Zai x.ba x.ot).1==x.nm)))))
theorem Zio (x:Ln) (hx:OkLn x):PL.Pure Tryz.prog 130 [lns x] (.bool (rtM x)):=by
 have mf:x.fo.length≤maxLen:=by have:=hx.f;rw[Zd];omega
 have mb:x.ba.length≤maxLen:=by have:=hx.b;rw[Zd];omega
 have hN:=Za5 x.nm;have h1:=Zfz x.fo x.ba mb;have h2:=Zfz x.ba x.fo mf;have h3:=Zdb x.fo x.nm mf;have h4:=Zdb x.ba x.ot mb;unfold rtM;generalize Zai x.fo x.nm=c at *;generalize Zai x.ba x.ot=d at *;obtain⟨c1,c2⟩:=c;obtain⟨d1,d2⟩:=d;refine pov Tryz.func130 (by decide) rfl Tryz.ntmps130 Tryz.results130 (by simp) rfl ?_;simp only[go_sem,lns];repeat' (first|(refine ZA (fun h=> ?_) (fun h=> ?_)<;>(try simp only[go_sem,h,ZdP]))|(refine Zz (fun h=> ?_) (fun h=> ?_)<;>(try simp only[go_sem,h,ZdP]))|(refine ZN (fun h=> ?_) (fun h=> ?_)<;>(try simp only[go_sem,h,ZdP]))|((refine Za (hN) ?_ ?_ ?_);(focus simp only[go_sem,prs]);(focus exact rfl);(try simp only[go_sem,ZdP]))|((refine Za (h1) ?_ ?_ ?_);(focus simp only[go_sem,prs]);(focus exact rfl);(try simp only[go_sem,ZdP]))|((refine Za (h2) ?_ ?_ ?_);(focus simp only[go_sem,prs]);(focus exact rfl);(try simp only[go_sem,ZdP]))|((refine Za (h3) ?_ ?_ ?_);(focus simp only[go_sem,prs]);(focus exact rfl);(try simp only[go_sem,ZdP]))|((refine Za (h4) ?_ ?_ ?_);(focus simp only[go_sem,prs]);(focus exact rfl);(try simp only[go_sem,ZdP]))|((refine Ze (by kernel_rfl) (by kernel_rfl) ?_);(try simp only[go_sem,ZdP])))
 all_goals (clear hN h1 h2 h3 h4 mf mb hx;simp_all)
theorem ZiN (n:Int):PL.Pure Tryz.prog 129 [.int .i64 n] (.bool (decide (2≤n)&&decide (n≤1000))):=by
 refine pov Tryz.func129 (by decide) rfl Tryz.ntmps129 Tryz.results129 (by simp) rfl ?_;simp only[go_sem];repeat' (first|(refine ZA (fun h=> ?_) (fun h=> ?_)<;>(try simp only[go_sem,h]))|(refine Zz (fun h=> ?_) (fun h=> ?_)<;>(try simp only[go_sem,h]))|(refine ZN (fun h=> ?_) (fun h=> ?_)<;>(try simp only[go_sem,h]))|((refine Ze (by kernel_rfl) (by kernel_rfl) ?_);(try simp only[go_sem])))
 all_goals simp_all
def ZbN (x:Ln):Bool:=
 if(ZcF x).2=false∨ ¬x=(ZcF x).1 then false
 else if x.kind=2∨x.kind=3 then ZO x.fd
 else if Zci x.at'=false then false
 else if x.kind=1 then Zap x.nm
 else if x.kind=4 then !(x.at'.gr== [])
 else if x.kind=5 then(x.at'.gr== [])&&Zap x.nm
 else if x.kind=6∨x.kind=9 then Zap x.nm&&(Zap x.ot&&(!(x.nm==x.ot)&&(decide (2≤x.fac)&&decide (x.fac≤1000))))
 else if x.kind=7∨x.kind=10 then decide ((x.ot.length:Int)≤40)
 else rtM x
theorem Zm1 (x:Ln) (hx:OkLn x):PL.Pure Tryz.prog 87 [lns x] (.bool (ZbN x)):=by
 have hP:=Zsg x;have hS:=Zkz x (ZcF x).1 hx (Zyd hx);have hF:=Zd1 x.fd (by have:=hx.c;rw[Zd];omega);have hA:=Zhp x.at';have hN:=Za5 x.nm;have hO:=Za5 x.ot;have hT:=Zgy x.ot;have hK:=ZiN x.fac;have hR:=Zio x hx;unfold ZbN;generalize ZcF x=y at *;obtain⟨y,b⟩:=y;refine pov Tryz.func87 (by decide) rfl Tryz.ntmps87 Tryz.results87 (by simp) rfl ?_;simp only[go_sem,lns];repeat' (first|(refine ZA (fun h=> ?_) (fun h=> ?_)<;>(try simp only[go_sem,h,lnb,lns]))|(refine Zz (fun h=> ?_) (fun h=> ?_)<;>(try simp only[go_sem,h,lnb,lns]))|(refine ZN (fun h=> ?_) (fun h=> ?_)<;>(try simp only[go_sem,h,lnb,lns]))|((refine Za (hP) ?_ ?_ ?_);(focus simp only[go_sem,lns,fld,ref]);(focus exact rfl);(try simp only[go_sem,lnb,lns]))|((refine Za (hS) ?_ ?_ ?_);(focus simp only[go_sem,lns,fld,ref]);(focus exact rfl);(try simp only[go_sem,lnb,lns]))|((refine Za (hF) ?_ ?_ ?_);(focus simp only[go_sem,lns,fld,ref]);(focus exact rfl);(try simp only[go_sem,lnb,lns]))|((refine Za (hA) ?_ ?_ ?_);(focus simp only[go_sem,lns,fld,ref]);(focus exact rfl);(try simp only[go_sem,lnb,lns]))|((refine Za (hN) ?_ ?_ ?_);(focus simp only[go_sem,lns,fld,ref]);(focus exact rfl);(try simp only[go_sem,lnb,lns]))|((refine Za (hO) ?_ ?_ ?_);(focus simp only[go_sem,lns,fld,ref]);(focus exact rfl);(try simp only[go_sem,lnb,lns]))|((refine Za (hT) ?_ ?_ ?_);(focus simp only[go_sem,lns,fld,ref]);(focus exact rfl);(try simp only[go_sem,lnb,lns]))|((refine Za (hK) ?_ ?_ ?_);(focus simp only[go_sem,lns,fld,ref]);(focus exact rfl);(try simp only[go_sem,lnb,lns]))|((refine Za (hR) ?_ ?_ ?_);(focus simp only[go_sem,lns,fld,ref]);(focus exact rfl);(try simp only[go_sem,lnb,lns]))|((refine Ze (by kernel_rfl) (by kernel_rfl) ?_);(try simp only[go_sem,lnb,lns])))
 all_goals (clear hP hS hF hA hN hO hT hK hR hx;simp_all)
end Go.Proofs.YthingdchjkhfbaaGreat
