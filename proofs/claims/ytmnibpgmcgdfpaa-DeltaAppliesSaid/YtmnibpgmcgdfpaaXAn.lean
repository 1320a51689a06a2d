/- Contracts of functions and laws of this seat, each for every input that it names: lemmas of the proof. -/
import Derived.Test.YtmnibpgmcgdfpaaPlM
import Derived.Test.YtmnibpgmcgdfpaaXAa
namespace Go.Proofs.Ytmnibpgmcgdfpaa
set_option maxHeartbeats 64000000
set_option maxRecDepth 20000
set_option linter.unusedVariables false
set_option linter.unusedSimpArgs false
open Go.PL
theorem Zdh {α:Type} {p:α→Bool} {l:List α} {d:α} (h:∀j,j<l.length→p (l.getD j d)=true):l.all p=true:=by
 rw[List.all_eq_true];intro x hx;obtain⟨j,hj,rfl⟩:=List.getElem_of_mem hx;have:=h j hj;simpa[List.getD_eq_getElem?_getD,hj]using this
theorem ZaJ {α:Type} {p:α→Bool} {l:List α} {k:Nat} {d:α} (hk:k<l.length) (h:p (l.getD k d)=false):l.all p=false:=by
 rw[List.all_eq_false];exact⟨l.getD k d,Zg hk,by rw[h];simp⟩
theorem ZX {p:Nat→Bool} {n k:Nat} (hk:k<n) (h:p k=false):(List.range n).all p=false:=by
 rw[List.all_eq_false];exact⟨k,by simpa using hk,by simp[h]⟩
theorem WR {p:Nat→Bool} {n:Nat} (h:∀j,j<n→p j=true):(List.range n).all p=true:=by
 rw[List.all_eq_true];intro j hj;exact h j (List.mem_range.1 hj)
def Zct (e:En):Bool:=decide (-4503599627370497<e.n)&&(decide (e.n<4503599627370497)&&((e.l.length:Int)==0))
def U3 (f:Fd) (e:En):Bool:=if f.kind=4 then !decide (400<(e.l.length:Int))else decide ((e.l.length:Int)=1)
def Ul (f:Fd) (e:En):Bool:=e.l.all (Ua f)&&decide (e.n=0)
def ZS (f:Fd) (e:En):Bool:=(Yy f&&decide (e.at'=f.at'))&&(if f.kind=1 then Zct e else U3 f e&&Ul f e)
theorem Ti (f:Fd) (e:En) (hl:f.cases'.length≤maxLen) (he:e.l.length≤maxLen):PL.Pure Try.prog 76 [fld f,ent e] (.bool (ZS f e)):=by
 have hR:=Tj f hl;cases hr:Yy f
 ·rw[hr]at hR;refine ZO Try.func76 rfl Try.ntmps76 Try.results76 ?_;simp only[go_sem,fld,ent];refine vc2 (hR) ?_;simp only[go_sem,ZS,hr,Bool.false_and]
 ·rw[hr]at hR
  by_cases ha:e.at'=f.at'
  ·have ha':=decide_eq_true ha
   by_cases h1:f.kind=1
   ·have k1:(f.kind==1)=true:=by rw[h1];rfl
    have hx:ZS f e=Zct e:=by simp only[ZS,hr,ha',Bool.and_self,Bool.true_and,h1,if_true]
    rw[hx];refine ZO Try.func76 rfl Try.ntmps76 Try.results76 ?_;simp only[go_sem,fld,ent];refine vc2 (hR) ?_;simp only[go_sem,Zv,ha',k1];repeat' ((first|refine Xc (fun h=> ?_) (fun h=> ?_)|refine Xb (fun h=> ?_) (fun h=> ?_)|refine Wb (fun h=> ?_) (fun h=> ?_)|refine vDq ?_)<;>first|simp only[go_sem,h]|simp only[go_sem]|skip)
    all_goals (simp_all[Zct];try omega)
   ·have k1:(f.kind==1)=false:=beq_eq_false_iff_ne.2 h1;have hx:ZS f e=(U3 f e&&Ul f e):=by simp only[ZS,hr,ha',Bool.and_self,Bool.true_and,h1,if_false]
    rw[hx];cases hc:U3 f e
    ·have hz:(false&&Ul f e)=false:=rfl
     by_cases h4:f.kind=4
     ·have k4:(f.kind==4)=true:=by rw[h4];rfl
      have k5:(f.kind !=4)=false:=by rw[h4];rfl
      have g:400<(e.l.length:Int):=by simpa[U3,h4]using hc
      refine ZO Try.func76 rfl Try.ntmps76 Try.results76 ?_;simp only[go_sem,fld,ent];refine vc2 (hR) ?_;simp only[go_sem,Zv,ha',k1,k4,g,Bool.false_and]
     ·have k4:(f.kind==4)=false:=beq_eq_false_iff_ne.2 h4;have k5:(f.kind !=4)=true:=bne_iff_ne.2 h4;have g:((e.l.length:Int) !=1)=true:=by
       rw[bne_iff_ne];simpa[U3,h4]using hc
      refine ZO Try.func76 rfl Try.ntmps76 Try.results76 ?_;simp only[go_sem,fld,ent];refine vc2 (hR) ?_;simp only[go_sem,Zv,ha',k1,k4,k5,g,Bool.false_and]
    ·rw[Bool.true_and];have go:∀(_:(f.kind==4)=true∧ ¬400<(e.l.length:Int)∧(f.kind !=4)=false∨(f.kind==4)=false∧(f.kind !=4)=true∧((e.l.length:Int) !=1)=false),PL.Pure Try.prog 76 [fld f,ent e] (.bool (Ul f e)):=by
      intro hk;have lp:∀(Q:Exit→St→Prop) (s:St) (c:Code),True:=fun _ _ _=>trivial
      rcases hk with ⟨k4,g,k5⟩|⟨k4,k5,g⟩
      all_goals
       refine ZO Try.func76 rfl Try.ntmps76 Try.results76 ?_;simp only[go_sem,fld,ent];refine vc2 (hR) ?_;simp only[go_sem,Zv,ha',k1,k4,k5,g];refine ZK (ι:= { k:Nat // k≤e.l.length∧ ∀j,j<k→Ua f (e.l.getD j [])=true }) 71 (fun x=> [(2,.ptr 2 0),(3,.ptr 3 0),(5,.int .i64 (x.1:Int))]) (fun x=> [(2,[.int .i64 f.at'.sc,.str f.at'.gr,.str f.at'.nm,.int .i64 f.kind,.str f.df,.sl .no (f.cases'.map .str),.int .i64 f.worth],false),(3,[.int .i64 e.at'.sc,.str e.at'.gr,.str e.at'.nm,.int .i64 e.n,.sl .no (e.l.map .str)],false)]) (fun x=> []) (fun x=>e.l.length-x.1) ⟨0,by omega,fun j hj=>by omega⟩
        ⟨rfl,(Fc3 rfl rfl rfl),Fc2 ⟨rfl,rfl⟩ ⟨rfl,rfl⟩,fnl⟩ (fun x=>⟨(Fc3 rfl rfl rfl),(Fc2 rfl rfl)⟩) (fun x=> ?_)
       obtain⟨k,hk,hall⟩:=x;simp only
       by_cases h:(k:Int)<(e.l.length:Int)
       ·have hka:k<e.l.length:=by omega
        have w1:=Wp hka he;have i1:(0:Int)≤(k:Int):=by omega
        have hF:=Zd8 f (e.l.getD k []) hl;cases hf:Ua f (e.l.getD k [])
        ·rw[hf]at hF;have hz:Ul f e=false:=by simp only[Ul,ZaJ hka hf,Bool.false_and]
         simp only[go_sem,h];refine vDq ?_;simp only[go_sem,ZG hka,h,i1];refine vc2 (hF) ?_;simp only[go_sem,hz]
        ·rw[hf]at hF;simp only[go_sem,h];refine vDq ?_;simp only[go_sem,ZG hka,h,i1];refine vc2 (hF) ?_;simp only[go_sem,w1];exact⟨⟨k+1,by omega,Zn hall hf⟩,by show e.l.length-(k+1)<e.l.length-k;omega,⟨rfl,(Fc3 rfl rfl rfl),Fc2 ⟨rfl,rfl⟩ ⟨rfl,rfl⟩,fnl⟩⟩
       ·have hz:Ul f e=(e.n==0):=by
         simp only[Ul,Zdh (p:=Ua f) (d:= []) (l:=e.l) (fun j hj=>hall j (by omega)),Bool.true_and];rfl
        simp only[go_sem,h,hz]
     refine go ?_
     by_cases h4:f.kind=4
     ·left;exact⟨by rw[h4];rfl,by simpa[U3,h4]using hc,by rw[h4];rfl⟩
     ·right;refine⟨beq_eq_false_iff_ne.2 h4,bne_iff_ne.2 h4,?_⟩;have:(e.l.length:Int)=1:=by simpa[U3,h4]using hc
      rw[this];rfl
  ·have ha':=decide_eq_false ha;refine ZO Try.func76 rfl Try.ntmps76 Try.results76 ?_;simp only[go_sem,fld,ent];refine vc2 (hR) ?_;simp only[go_sem,Zv,ha',ZS,hr,Bool.and_false,Bool.false_and]
open Go.PL
def Wi (l:List Fd) (i:Nat):Bool:=Yy (l.getD i default)&&(decide (i=0)||Ub (l.getD (i-1) default).at' (l.getD i default).at')
def Yu (l:List Fd):Bool:= !decide (16<(l.length:Int))&&(List.range l.length).all (Wi l)
theorem ZaH (l:List Fd) (hl:l.length≤maxLen) (hl':∀f∈l,f.cases'.length≤maxLen):PL.Pure Try.prog 57 [Zj l] (.bool (Yu l)):=by
 by_cases h16:16<(l.length:Int)
 ·refine ZO Try.func57 rfl Try.ntmps57 Try.results57 ?_;simp only[go_sem,Zj,h16,Yu,Bool.false_and]
 ·have hx:Yu l=(List.range l.length).all (Wi l):=by simp only[Yu,h16,decide_false,Bool.not_false,Bool.true_and]
  rw[hx];refine ZO Try.func57 rfl Try.ntmps57 Try.results57 ?_;simp only[go_sem,Zj,h16];refine ZK (ι:= { k:Nat // k≤l.length∧ ∀j,j<k→Wi l j=true }) 38 (fun x=> [(0,Zj l),(3,.int .i64 (x.1:Int))]) (fun x=> []) (fun x=> []) (fun x=>l.length-x.1) ⟨0,by omega,fun j hj=>by omega⟩
   ⟨rfl,(Fc2 rfl rfl),fnl,fnl⟩ (fun x=>⟨(Fc2 rfl rfl),fnl⟩) (fun x=> ?_)
  obtain⟨k,hk,hall⟩:=x;simp only
  by_cases h:(k:Int)<(l.length:Int)
  ·have hka:k<l.length:=by omega
   have w1:=Wp hka hl;have i1:(0:Int)≤(k:Int):=by omega
   have hR:=Tj (l.getD k default) (hl' _ (Zg hka));cases hr:Yy (l.getD k default)
   ·rw[hr]at hR;have hz:=ZX (p:=Wi l) hka (by simp only[Wi,hr,Bool.false_and]);simp only[go_sem,Zj,h];refine vDq ?_;simp only[go_sem,Zy hka,fld,h,i1];refine vc2 (hR) ?_;simp only[go_sem,hz]
   ·rw[hr]at hR
    by_cases h0:0<(k:Int)
    ·have hk1:k-1<l.length:=by omega
     have w2:IntKind.i64.wrap ((k:Int)-1)=((k-1:Nat):Int):=by
      rw[Zh]at hl;rw[w64 (by omega)];omega
     have j1:(0:Int)≤((k-1:Nat):Int):=by omega
     have j2:((k-1:Nat):Int)<(l.length:Int):=by omega
     have hL:=Zd9 (l.getD (k-1) default).at' (l.getD k default).at';cases hb:Ub (l.getD (k-1) default).at' (l.getD k default).at'
     ·rw[hb]at hL;have hz:=ZX (p:=Wi l) hka (by simp only[Wi,hb,decide_eq_false (show ¬k=0 by omega),Bool.or_self,Bool.and_false]);simp only[go_sem,Zj,h];refine vDq ?_;simp only[go_sem,Zy hka,fld,h,i1];refine vc2 (hR) ?_;simp only[go_sem,h0,w2,Zy hk1,Zy hka,fld,h,i1,j1,j2];refine vc1 (hL) ?_;simp only[go_sem,hz]
     ·rw[hb]at hL;have ok:Wi l k=true:=by simp only[Wi,hr,hb,Bool.or_true,Bool.and_self]
      simp only[go_sem,Zj,h];refine vDq ?_;simp only[go_sem,Zy hka,fld,h,i1];refine vc2 (hR) ?_;simp only[go_sem,h0,w2,Zy hk1,Zy hka,fld,h,i1,j1,j2];refine vc1 (hL) ?_;simp only[go_sem,w1];exact⟨⟨k+1,by omega,Zn hall ok⟩,by show l.length-(k+1)<l.length-k;omega,⟨rfl,(Fc2 rfl rfl),fnl,fnl⟩⟩
    ·have ok:Wi l k=true:=by simp only[Wi,hr,decide_eq_true (show k=0 by omega),Bool.true_or,Bool.and_self]
     simp only[go_sem,Zj,h];refine vDq ?_;simp only[go_sem,Zy hka,fld,h,i1];refine vc2 (hR) ?_;simp only[go_sem,h0,w1];exact⟨⟨k+1,by omega,Zn hall ok⟩,by show l.length-(k+1)<l.length-k;omega,⟨rfl,(Fc2 rfl rfl),fnl,fnl⟩⟩
  ·have hz:=WR (p:=Wi l) (n:=l.length) (fun j hj=>hall j (by omega));simp only[go_sem,Zj,h,hz]
def Zi (l:List Fd) (sc:Int):List Fd:=l.filter fun f=>f.at'.sc==sc
theorem Zj2 (l:List Fd) (f:Fd):l.map fld++ [PV.agg [.int .i64 f.at'.sc,.str f.at'.gr,.str f.at'.nm,.int .i64 f.kind,.str f.df,.sl .no (f.cases'.map .str),.int .i64 f.worth]]=(l++ [f]).map fld:=by simp[fld]
theorem Xe (l:List Fd) (sc:Int) (hl:l.length≤1000000):PL.Pure Try.prog 59 [Zj l,.int .i64 sc] (Zj (Zi l sc)):=by
 have hm:l.length≤maxLen:=by rw[Zh];omega
 refine YX Try.func59 rfl Try.ntmps59 Try.results59 (G0 _) ?_;simp only[go_sem,Zj];refine GI 5 7 28 0 7 76 [] rfl rfl rfl ?_;refine ZK (ι:= { k:Nat // k≤l.length }) 30 (fun x=> [(0,Zj l),(1,.int .i64 sc),(5,.sl (.row 28) ((Zi (l.take x.1) sc).map fld)),(6,.int .i64 (x.1:Int))]) (fun x=> []) (fun x=> [(28,.live (Zi (l.take x.1) sc).length 7 76)]) (fun x=>l.length-x.1) ⟨0,by omega⟩
  ⟨rfl,(Fc4 rfl rfl rfl rfl),fnl,(fcs rfl fnl)⟩ (fun x=>⟨Fc4 rfl rfl (by simp[PV.ids,ZV]) rfl,fnl⟩) (fun x=> ?_)
 obtain⟨k,hk⟩:=x;simp only
 by_cases h:(k:Int)<(l.length:Int)
 ·have hka:k<l.length:=by omega
  have w1:=Wp hka hm;have i1:(0:Int)≤(k:Int):=by omega
  have hlen:(Zi (l.take k) sc).length≤(l.take k).length:=List.length_filter_le _ _;have hlen2:(l.take k).length≤k:=List.length_take_le _ _;have hr:=Yv (show(Zi (l.take k) sc).length+1≤100000000000 by omega) (show 96≤1000 by omega);cases he:((l.getD k default).at'.sc==sc)
  ·have hs:Zi (l.take (k+1)) sc=Zi (l.take k) sc:=by
    rw[ZW hka (d:=default)];simp only[Zi,List.filter_append,List.filter_cons,he,Bool.false_eq_true,if_false,List.filter_nil,List.append_nil]
   simp only[go_sem,Zj,h,Zy hka,fld,i1,he,w1];exact⟨⟨k+1,by omega⟩,by show l.length-(k+1)<l.length-k;omega,⟨rfl,Fc4 rfl rfl (by show PV.sl _ _=PV.sl _ _;rw[hs]) rfl,fnl,fcs (by show some _=some _;rw[hs]) fnl⟩⟩
  ·have hs:Zi (l.take (k+1)) sc=Zi (l.take k) sc++ [l.getD k default]:=by
    rw[ZW hka (d:=default)];simp only[Zi,List.filter_append,List.filter_cons,he,if_true,List.filter_nil]
   simp only[go_sem,Zj,h,Zy hka,fld,i1,he,ZbD,hr,w1];exact⟨⟨k+1,by omega⟩,by show l.length-(k+1)<l.length-k;omega,⟨rfl,Fc4 rfl rfl (by show PV.sl _ _=PV.sl _ _;rw[hs,←Zj2]) rfl,fnl,fcs (by show some _=some _;rw[hs,List.length_append];rfl) fnl⟩⟩
 ·obtain rfl:k=l.length:=by omega
  simp only[go_sem,h,Zj,List.take_length]
def Zk (l:List Fd) (es:List En):Bool:=decide (l.length=es.length)&&(List.range l.length).all (fun i=>ZS (l.getD i default) (es.getD i default))
theorem TC (l:List Fd) (es:List En) (hl:l.length≤maxLen) (hes:es.length≤maxLen) (hl':∀f∈l,f.cases'.length≤maxLen) (hes':∀e∈es,e.l.length≤maxLen):PL.Pure Try.prog 58 [Zj l,Zt es] (.bool (Zk l es)):=by
 by_cases he:l.length=es.length
 ·have he':((l.length:Int) !=(es.length:Int))=false:=by rw[he];exact bne_self_eq_false _
  have hx:Zk l es=(List.range l.length).all (fun i=>ZS (l.getD i default) (es.getD i default)):=by simp only[Zk,he,decide_true,Bool.true_and]
  rw[hx];refine ZO Try.func58 rfl Try.ntmps58 Try.results58 ?_;simp only[go_sem,Zj,Zt,he'];refine ZK (ι:= { k:Nat // k≤l.length∧ ∀j,j<k→ZS (l.getD j default) (es.getD j default)=true }) 27 (fun x=> [(0,Zj l),(1,Zt es),(5,.int .i64 (x.1:Int))]) (fun x=> []) (fun x=> []) (fun x=>l.length-x.1) ⟨0,by omega,fun j hj=>by omega⟩
   ⟨rfl,(Fc3 rfl rfl rfl),fnl,fnl⟩ (fun x=>⟨(Fc3 rfl rfl rfl),fnl⟩) (fun x=> ?_)
  obtain⟨k,hk,hall⟩:=x;simp only
  by_cases h:(k:Int)<(l.length:Int)
  ·have hka:k<l.length:=by omega
   have hkb:k<es.length:=by omega
   have w1:=Wp hka hl;have i1:(0:Int)≤(k:Int):=by omega
   have i2:(k:Int)<(es.length:Int):=by omega
   have hF:=Ti (l.getD k default) (es.getD k default) (hl' _ (Zg hka)) (hes' _ (Zg hkb));cases hf:ZS (l.getD k default) (es.getD k default)
   ·rw[hf]at hF;have hz:=ZX (p:=fun i=>ZS (l.getD i default) (es.getD i default)) hka hf;simp only[go_sem,Zj,Zt,h];refine vDq ?_;simp only[go_sem,Zy hka,ZE hkb,fld,ent,h,i1,i2];refine vc2 (hF) ?_;simp only[go_sem,hz]
   ·rw[hf]at hF;simp only[go_sem,Zj,Zt,h];refine vDq ?_;simp only[go_sem,Zy hka,ZE hkb,fld,ent,h,i1,i2];refine vc2 (hF) ?_;simp only[go_sem,w1];exact⟨⟨k+1,by omega,Zn hall hf⟩,by show l.length-(k+1)<l.length-k;omega,⟨rfl,(Fc3 rfl rfl rfl),fnl,fnl⟩⟩
  ·have hz:=WR (p:=fun i=>ZS (l.getD i default) (es.getD i default)) (n:=l.length) (fun j hj=>hall j (by omega));simp only[go_sem,Zj,Zt,h,hz]
 ·have he':((l.length:Int) !=(es.length:Int))=true:=bne_iff_ne.2 (by omega);refine ZO Try.func58 rfl Try.ntmps58 Try.results58 ?_;simp only[go_sem,Zj,Zt,he',Zk,he,Bool.false_and]
open Go.PL
theorem Zdu (f:Fd):(fld f).dids= []:=by simp only[fld,PV.dids,PV.didsL,Vw,List.append_nil]
theorem ZjW {α:Type} (p:α→Bool) (l:List α):decide ((0:Int)≤idx p l)=l.any p:=by
 unfold idx;cases h:l.findIdx? p with
 |none=>
  have:l.any p=false:=by
   rw[List.any_eq_false];intro x hx;have:=List.findIdx?_eq_none_iff.1 h x hx;simp[this]
  rw[this];rfl
 |some i=>
  rw[List.findIdx?_eq_some_iff_getElem]at h;obtain⟨hi,hp,_⟩:=h;have:l.any p=true:=List.any_eq_true.2 ⟨_,List.getElem_mem hi,hp⟩;rw[this];exact decide_eq_true (show(0:Int)≤(i:Int)by omega)
theorem ZhN (l:List Str) (s:Str):l.any (fun x=>s==x)=l.any (· == s):=by
 congr 1;funext x;rw[Bool.eq_iff_iff];simp only[beq_iff_eq];exact eq_comm
theorem XC {n b:Nat} (hn:n≤1000000) (hb:b≤1000):Zed n b:=Yv (by omega) hb
theorem ZaD (f:Fd) (hf:f.cases'.length≤1000000):PL.Pure Try.prog 89 [fld f] (fld f):=by
 have hr:=XC hf (show 16≤1000 by omega);refine YX Try.func89 rfl Try.ntmps89 Try.results89 (Zdu _) ?_;simp only[go_sem,fld,Ye,YK,hr]
theorem Zfk (a b:Rf):PL.Pure Try.prog 88 [ref a,ref b] (.bool (Ub a b)):=by
 refine ZO Try.func88 rfl Try.ntmps88 Try.results88 ?_;simp only[go_sem,ref];repeat' ((first|refine Xc (fun h=> ?_) (fun h=> ?_)|refine Xb (fun h=> ?_) (fun h=> ?_)|refine Wb (fun h=> ?_) (fun h=> ?_)|refine vDq ?_)<;>first|simp only[go_sem,h]|simp only[go_sem]|skip)
 all_goals (simp_all[Ub])
theorem Th (l:List Str) (s:Str) (hl:l.length≤maxLen):PL.Pure Try.prog 119 [Xj l,.str s] (.bool (l.any (· == s))):=by
 have hI:=Zb6 l s hl;refine ZO Try.func119 rfl Try.ntmps119 Try.results119 ?_;simp only[go_sem,Xj];refine vc1 (hI) ?_;simp only[go_sem,ZjW,ZhN]
def TL (l:List Str):Bool:=decide (1≤l.length∧l.length≤6)&&GO l
theorem ZdY (l:List Str):PL.Pure Try.prog 118 [Xj l] (.bool (TL l)):=by
 by_cases h1:(l.length:Int)<1
 ·have hx:TL l=false:=by simp only[TL,show ¬(1≤l.length∧l.length≤6)by omega,decide_false,Bool.false_and]
  refine ZO Try.func118 rfl Try.ntmps118 Try.results118 ?_;simp only[go_sem,Xj,h1,hx]
 ·by_cases h2:(6:Int)<(l.length:Int)
  ·have hx:TL l=false:=by simp only[TL,show ¬(1≤l.length∧l.length≤6)by omega,decide_false,Bool.false_and]
   refine ZO Try.func118 rfl Try.ntmps118 Try.results118 ?_;simp only[go_sem,Xj,h1,h2,hx]
  ·have hm:l.length≤maxLen:=by rw[Zh];omega
   have hx:TL l=GO l:=by simp only[TL,show(1≤l.length∧l.length≤6)by omega,and_self,decide_true,Bool.true_and]
   rw[hx];refine ZO Try.func118 rfl Try.ntmps118 Try.results118 ?_;simp only[go_sem,Xj,h1,h2];refine ZK (ι:= { x:Nat // x≤(l).length∧(∀j,j<x→Vu l j=true) }) 31 (fun x=> [(0,Xj l),(13,Xj l),(14,.int .i64 (l.length:Int)),(15,.int .i64 (x.1:Int))]) (fun x=> []) (fun x=> []) (fun x=>(l).length-x.1) ⟨0,Nat.zero_le _,fun j hj=>absurd hj (Nat.not_lt_zero j)⟩ ⟨rfl,(Fc4 rfl rfl rfl rfl),fnl,fnl⟩ (fun x=>⟨(Fc4 rfl rfl rfl rfl),fnl⟩) (fun x=> ?_);obtain⟨k,hk,hI⟩:=x;simp only at hk hI ⊢
   by_cases h:(k:Int)<(l.length:Int)
   ·(have hka:k<(l).length:=by omega);(have w1:=Wp hka (hm));(have i1:(0:Int)≤(k:Int):=by omega)
    have i2:(k:Int)≤(l.length:Int):=by omega
    have hN:=Ue (l.getD k []);have hT:(l.take k).length≤maxLen:=by rw[List.length_take];omega
    have hH:=Th (l.take k) (l.getD k []) hT;cases hn:Z8 (l.getD k [])
    ·rw[hn]at hN;have hz:=W6 hka (by simp only[Vu,hn,Bool.false_and]);simp only[go_sem,Xj,h,i1,ZG hka];refine vc1 (hN) ?_;simp only[go_sem,hz]
    ·rw[hn]at hN;cases hh:(l.take k).any (· == l.getD k [])
     ·rw[hh]at hH;have ok:Vu l k=true:=by simp only[Vu,hn,hh,Bool.not_false,Bool.and_self]
      simp only[go_sem,Xj,h,i1,ZG hka];refine vc1 (hN) ?_;simp only[go_sem,i1,i2,Ye,cut,Nat.sub_zero,Gt];refine vc1 (hH) ?_;simp only[go_sem,w1];exact⟨⟨k+1,by(try simp only);omega,Zn hI ok⟩,by show(l).length-(k+1)<(l).length-k;omega,⟨rfl,(Fc4 rfl rfl rfl rfl),fnl,fnl⟩⟩
     ·rw[hh]at hH;have hz:=W6 hka (by simp only[Vu,hn,hh,Bool.not_true,Bool.and_false]);simp only[go_sem,Xj,h,i1,ZG hka];refine vc1 (hN) ?_;simp only[go_sem,i1,i2,Ye,cut,Nat.sub_zero,Gt];refine vc1 (hH) ?_;simp only[go_sem,hz]
   ·have hz:=GP (l:=l) (fun j hj=>hI j (by omega));simp only[go_sem,Xj,h,hz]
theorem Zeg {l:List Str} {s:Str} (h:l.any (· == s)=true):1≤l.length:=by
 cases l with
 |nil=>simp at h
 |cons a l=>simp
theorem Si (f:Fd) (hl:f.cases'.length≤maxLen):PL.Pure Try.prog 87 [fld f] (.bool (Yy f)):=by
 have hP:=Zd7 f.at';have hT:=ZaI f.df;have hC:=ZdY f.cases';have hK:=Th f.cases' f.df hl;have key:Yy f=(VG f.at'&&(if f.kind=1 then(f.df== [])&&(((f.cases'.length:Int)==0)&&(decide (1≤f.worth)&&decide (f.worth≤1048576)))
   else if f.kind=2 then decide ((f.df.length:Int)≤40)&&(((f.cases'.length:Int)==0)&&(f.worth==0))
   else if f.kind=3 then TL f.cases'&&(f.cases'.any (· == f.df)&&(f.worth==0))
   else if f.kind=4 then(f.df== [])&&(((f.cases'.length:Int)==0)&&(f.worth==0))else false)):=by
  unfold Yy;congr 1
  by_cases h1:f.kind=1
  ·rw[if_pos h1,if_pos h1,Bool.eq_iff_iff];simp;omega
  ·rw[if_neg h1,if_neg h1]
   by_cases h3:f.kind=3
   ·rw[if_pos h3,if_neg (by omega),if_pos h3];unfold DT TL;cases ha:f.cases'.any (· == f.df)
    ·simp
    ·have:=Zeg ha;rw[Bool.eq_iff_iff];simp;constructor
     ·rintro ⟨a,b,c⟩;exact⟨⟨⟨this,by omega⟩,b⟩,a⟩
     ·rintro ⟨⟨⟨a,b⟩,c⟩,d⟩;exact⟨d,c,by omega⟩
   ·rw[if_neg h3,if_neg h3];unfold ZeW
    by_cases h2:f.kind=2
    ·rw[if_pos h2,Bool.eq_iff_iff];simp[h2];constructor<;>rintro ⟨a,b,c⟩<;>refine⟨?_,?_,?_⟩<;>first|assumption|omega
    ·rw[if_neg h2]
     by_cases h4:f.kind=4
     ·rw[if_pos h4,Bool.eq_iff_iff];simp[h4];constructor
      ·rintro ⟨a,b,c⟩;exact⟨c,b,a⟩
      ·rintro ⟨a,b,c⟩;exact⟨c,b,a⟩
     ·rw[if_neg h4];simp[h2,h4]
 rw[key];cases hp:VG f.at'
 ·rw[hp]at hP;refine ZO Try.func87 rfl Try.ntmps87 Try.results87 ?_;simp only[go_sem,fld];refine vc1 (hP) ?_;simp only[go_sem,Bool.false_and]
 ·rw[hp]at hP;rw[Bool.true_and]
  by_cases h1:f.kind=1
  ·have k1:(f.kind==1)=true:=by rw[h1];rfl
   rw[if_pos h1];refine ZO Try.func87 rfl Try.ntmps87 Try.results87 ?_;simp only[go_sem,fld];refine vc1 (hP) ?_;simp only[go_sem,k1];repeat' ((first|refine Xc (fun h=> ?_) (fun h=> ?_)|refine Xb (fun h=> ?_) (fun h=> ?_)|refine Wb (fun h=> ?_) (fun h=> ?_)|refine vDq ?_)<;>first|simp only[go_sem,h]|simp only[go_sem]|skip)
   all_goals simp_all
  ·have k1:(f.kind==1)=false:=beq_eq_false_iff_ne.2 h1;rw[if_neg h1]
   by_cases h2:f.kind=2
   ·have k2:(f.kind==2)=true:=by rw[h2];rfl
    rw[if_pos h2];refine ZO Try.func87 rfl Try.ntmps87 Try.results87 ?_;simp only[go_sem,fld];refine vc1 (hP) ?_;simp only[go_sem,k1,k2];refine vc1 (hT) ?_;simp only[go_sem,k1,k2];repeat' ((first|refine Xc (fun h=> ?_) (fun h=> ?_)|refine Xb (fun h=> ?_) (fun h=> ?_)|refine Wb (fun h=> ?_) (fun h=> ?_)|refine vDq ?_)<;>first|simp only[go_sem,h]|simp only[go_sem]|skip)
    all_goals simp_all
   ·have k2:(f.kind==2)=false:=beq_eq_false_iff_ne.2 h2;rw[if_neg h2]
    by_cases h3:f.kind=3
    ·have k3:(f.kind==3)=true:=by rw[h3];rfl
     rw[if_pos h3];refine ZO Try.func87 rfl Try.ntmps87 Try.results87 ?_;simp only[go_sem,fld];refine vc1 (hP) ?_;simp only[go_sem,k1,k2,k3];refine vc1 (hC) ?_;simp only[go_sem,k1,k2,k3];repeat' ((first|refine Xc (fun h=> ?_) (fun h=> ?_)|refine Xb (fun h=> ?_) (fun h=> ?_)|refine Wb (fun h=> ?_) (fun h=> ?_)|refine vc1 (hK) ?_|refine vDq ?_)<;>first|simp only[go_sem,h]|simp only[go_sem]|skip)
     all_goals simp_all
    ·have k3:(f.kind==3)=false:=beq_eq_false_iff_ne.2 h3;rw[if_neg h3]
     by_cases h4:f.kind=4
     ·have k4:(f.kind==4)=true:=by rw[h4];rfl
      rw[if_pos h4];refine ZO Try.func87 rfl Try.ntmps87 Try.results87 ?_;simp only[go_sem,fld];refine vc1 (hP) ?_;simp only[go_sem,k1,k2,k3,k4];repeat' ((first|refine Xc (fun h=> ?_) (fun h=> ?_)|refine Xb (fun h=> ?_) (fun h=> ?_)|refine Wb (fun h=> ?_) (fun h=> ?_)|refine vDq ?_)<;>first|simp only[go_sem,h]|simp only[go_sem]|skip)
      all_goals simp_all
     ·have k4:(f.kind==4)=false:=beq_eq_false_iff_ne.2 h4;rw[if_neg h4];refine ZO Try.func87 rfl Try.ntmps87 Try.results87 ?_;simp only[go_sem,fld];refine vc1 (hP) ?_;simp only[go_sem,k1,k2,k3,k4]
open Go.PL
def F5 (l:List Pr) (s:Str):Str×Bool:=match l.find? (fun p=>p.fr'==s)with|some p=>(p.to',true)|none=>([],false)
theorem DA {α:Type} (l:List α) (k:Nat):(l.take k).length≤l.length:=by rw[List.length_take];omega
def Zjf (l:List Pr):List Str:=l.map (·.fr')
open Go.PL
def Zlo (l:List Pr) (s:Str):Bool:=l.any fun q=>q.fr'==s
def ZmT (t o:List Pr) (i:Nat):Bool:=Z8 (t.getD i default).fr'&&(!(Zlo (t.take i) (t.getD i default).fr')&&Zlo o (t.getD i default).to')
def Zjq (t o:List Pr):Bool:=decide (1≤t.length∧t.length≤6)&&(List.range t.length).all (ZmT t o)
structure OkLn (x:Ln):Prop where
 c:x.fd.cases'.length≤1000000
 f:x.fo.length≤1000000
 b:x.ba.length≤1000000
open Go.PL
open Go.PL
def ZgU (x:Ln):Bool:=decide (0<(x.fo.length:Int))||decide (0<(x.ba.length:Int))
def Zam (x:Ln):Bool:=
 if x.kind=2∨x.kind=3 then decide (x.at'=default)&&(decide (x.nm= [])&&(decide (x.ot= [])&&(decide (x.fac=0)&&(!ZgU x&&Yy x.fd))))
 else(VG x.at'&&decide (x.fd=default))&&(if x.kind=8 then decide (x.fac=0)&&(Zjq x.fo x.ba&&(Zjq x.ba x.fo&&((F5 x.fo x.nm).2&&((F5 x.ba x.ot).2&&(((F5 x.fo x.nm).1==x.ot)&&((F5 x.ba x.ot).1==x.nm))))))
  else !ZgU x&&(if x.kind=6∨x.kind=9 then Z8 x.nm&&(Z8 x.ot&&(!(x.nm==x.ot)&&(decide (1<x.fac)&&decide (x.fac<1001))))
   else decide (x.fac=0)&&(if x.kind=7∨x.kind=10 then decide (x.nm= [])&&decide ((x.ot.length:Int)<41)
    else decide (x.ot= [])&&(if x.kind=1 then Z8 x.nm else if x.kind=4 then decide (x.nm= [])&& !(x.at'.gr== [])else decide (x.kind=5)&&(decide (x.at'.gr= [])&&Z8 x.nm)))))
open Go.PL
def Znn (t:Tg):Bool:=decide (1≤t.r)&&(decide (t.r≤6)&&(decide (1≤t.n)&&decide (t.n≤1099511627776)))
open Go.PL
structure Nd where
 e:Eg
 st:Int
 sch:List Fd
 dep:Int
 deriving DecidableEq,Inhabited
def nd (n:Nd):PV:= .agg [.int .i64 n.e.id.r,.int .i64 n.e.id.n,.int .i64 n.e.par.r,.int .i64 n.e.par.n,.int .i64 n.e.ln.kind,.int .i64 n.e.ln.at'.sc,.str n.e.ln.at'.gr,.str n.e.ln.at'.nm,.str n.e.ln.nm,.str n.e.ln.ot,.int .i64 n.e.ln.fac,.int .i64 n.e.ln.fd.at'.sc,.str n.e.ln.fd.at'.gr,.str n.e.ln.fd.at'.nm,.int .i64 n.e.ln.fd.kind,.str n.e.ln.fd.df,.sl .no (n.e.ln.fd.cases'.map .str),.int .i64 n.e.ln.fd.worth,.sl .no (n.e.ln.fo.map pr),.sl .no (n.e.ln.ba.map pr),.int .i64 n.st,.sl .no (n.sch.map fld),.int .i64 n.dep]
def kts (l:List Nd):List PV:=l.map fun n=>tg n.e.id
def nds (l:List Nd):List PV:=l.map nd
def tr (l:List Nd):PV:= .rptr [.rmap (kts l) (nds l)]
end Go.Proofs.Ytmnibpgmcgdfpaa
