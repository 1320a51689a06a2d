/- Contracts of functions and laws of this seat, each for every input that it names: lemmas of the proof. -/
import Derived.Test.YthingdchjkhfbaaGreatXBa
import Derived.Test.YthingdchjkhfbaaGreatPlI
namespace Go.Proofs.YthingdchjkhfbaaGreat
set_option maxHeartbeats 64000000
set_option maxRecDepth 20000
set_option linter.unusedVariables false
set_option linter.unusedSimpArgs false
open Go.PL
theorem Zi1:∀(a:Str),Z4 a a=false
 | []=>rfl
 |x::a=>by
  have:=Zi1 a;unfold Z4 at *;simp[Op.bytesLess,this]
theorem Zl0:∀ {a b c:Str},Z4 a b=true→Z4 b c=true→Z4 a c=true
 | [],[],_,h,_=>by simp[Z4,Op.bytesLess]at h
 | [],_::_,[],_,h=>by simp[Z4,Op.bytesLess]at h
 | [],_::_,_::_,_,_=>by simp[Z4,Op.bytesLess]
 |_::_,[],_,h,_=>by simp[Z4,Op.bytesLess]at h
 |_::_,_::_,[],_,h=>by simp[Z4,Op.bytesLess]at h
 |x::a,y::b,z::c,h1,h2=>by
  have ih:=Zl0 (a:=a) (b:=b) (c:=c);unfold Z4 at *;simp only[Op.bytesLess,Bool.or_eq_true,decide_eq_true_eq,Bool.and_eq_true,beq_iff_eq]at *;rcases h1 with h1|⟨rfl,h1⟩
  ·rcases h2 with h2|⟨rfl,h2⟩
   ·exact .inl (UInt8.lt_trans h1 h2)
   ·exact .inl h1
  ·rcases h2 with h2|⟨rfl,h2⟩
   ·exact .inl h2
   ·exact .inr ⟨rfl,ih h1 h2⟩
theorem Ziu:∀(a b:Str),Z4 a b=true∨a=b∨Z4 b a=true
 | [],[]=> .inr (.inl rfl)
 | [],_::_=> .inl (by simp[Z4,Op.bytesLess])
 |_::_,[]=> .inr (.inr (by simp[Z4,Op.bytesLess]))
 |x::a,y::b=>by
  have ih:=Ziu a b;unfold Z4 at *;simp only[Op.bytesLess,Bool.or_eq_true,decide_eq_true_eq,Bool.and_eq_true,beq_iff_eq]at *;rcases Nat.lt_trichotomy x.toNat y.toNat with h|h|h
  ·exact .inl (.inl h)
  ·have e:x=y:=UInt8.toNat_inj.1 h;subst e;rcases ih with ih|rfl|ih
   ·exact .inl (.inr ⟨rfl,ih⟩)
   ·exact .inr (.inl rfl)
   ·exact .inr (.inr (.inr ⟨rfl,ih⟩))
  ·exact .inr (.inr (.inl h))
theorem Zdq (a:Rf):Zdr a a=false:=by simp[Zdr,Zi1]
theorem Zwc (a b:Rf):Zdr a b=true∨a=b∨Zdr b a=true:=by
 unfold Zdr
 by_cases h1:a.sc=b.sc
 ·by_cases h2:a.gr=b.gr
  ·simp only[h1,h2,ne_eq,not_true_eq_false,if_false];rcases Ziu a.nm b.nm with h|h|h
   ·exact .inl h
   ·exact .inr (.inl (by cases a;cases b;simp_all))
   ·exact .inr (.inr h)
  ·have h2':b.gr≠a.gr:=fun e=>h2 e.symm
   simp only[h1,h2,h2',ne_eq,not_true_eq_false,not_false_eq_true,if_false,if_true];rcases Ziu a.gr b.gr with h|h|h
   ·exact .inl h
   ·exact absurd h h2
   ·exact .inr (.inr h)
 ·have h1':b.sc≠a.sc:=fun e=>h1 e.symm
  simp only[h1,h1',ne_eq,not_false_eq_true,if_true,decide_eq_true_eq];omega
theorem Zmk {a b c:Rf} (h1:Zdr a b=true) (h2:Zdr b c=true):Zdr a c=true:=by
 unfold Zdr at *
 by_cases e1:a.sc=b.sc
 ·by_cases e2:b.sc=c.sc
  ·simp only[e1,e2,ne_eq,not_true_eq_false,if_false]at *
   by_cases g1:a.gr=b.gr
   ·by_cases g2:b.gr=c.gr
    ·simp only[g1,g2,not_true_eq_false,if_false]at *;exact Zl0 h1 h2
    ·simp only[g1,g2,not_true_eq_false,not_false_eq_true,if_false,if_true]at *;exact h2
   ·by_cases g2:b.gr=c.gr
    ·rw[←g2];simp only[g1,not_false_eq_true,if_true]at *;exact h1
    ·simp only[g1,g2,not_false_eq_true,if_true]at *;have:=Zl0 h1 h2;have hn:¬a.gr=c.gr:=fun e=>by rw[e,Zi1]at this;cases this
     simp only[hn,not_false_eq_true,if_true];exact this
  ·simp only[e1,e2,ne_eq,not_false_eq_true,if_true]at *;exact h2
 ·by_cases e2:b.sc=c.sc
  ·rw[←e2];simp only[e1,ne_eq,not_false_eq_true,if_true]at *;exact h1
  ·simp only[e1,e2,ne_eq,not_false_eq_true,if_true,decide_eq_true_eq]at *;have hn:¬a.sc=c.sc:=by omega
   simp only[hn,not_false_eq_true,if_true,decide_eq_true_eq];omega
def Zvm (l:List Fd):Prop:=l.Pairwise fun a b=>Zdr a.at' b.at'=true
theorem Zg2:∀ {l:List Fd},(∀i,i<l.length→i=0∨Zdr (l.getD (i-1) default).at' (l.getD i default).at'=true)→Zvm l
 | [],_=>List.Pairwise.nil
 | [a],_=>List.pairwise_singleton _ _
 |a::b::l,h=>by
  have ih:Zvm (b::l):=Zg2 fun i hi=>by
   cases i with
   |zero=>exact .inl rfl
   |succ i=>
    have:=h (i+2) (by simp at hi ⊢;omega);right;simpa using this
  have hab:Zdr a.at' b.at'=true:=by simpa using h 1 (by simp)
  refine List.pairwise_cons.2 ⟨fun x hx=> ?_,ih⟩;rcases List.mem_cons.1 hx with rfl|hx
  ·exact hab
  ·exact Zmk hab ((List.pairwise_cons.1 ih).1 x hx)
theorem ZmF {l:List Fd} (h:Zvm l):∀i,i<l.length→i=0∨Zdr (l.getD (i-1) default).at' (l.getD i default).at'=true:=fun i hi=>by
 by_cases h0:i=0
 ·exact .inl h0
 ·right;rw[getD_lt (by omega),getD_lt hi];exact List.pairwise_iff_getElem.1 h (i-1) i (by omega) hi (by omega)
theorem ZP {l:List Fd}:ZW l=true↔l.length≤16∧Zvm l∧ ∀f∈l,ZO f=true:=by
 unfold ZW;simp only[Bool.and_eq_true,Bool.not_eq_true',decide_eq_false_iff_not,List.all_eq_true,List.mem_range,ZhF,Bool.or_eq_true,decide_eq_true_eq];constructor
 ·rintro ⟨h1,h2⟩
  refine⟨by omega,Zg2 fun i hi=>(h2 i hi).2,fun f hf=> ?_⟩;obtain⟨i,hi,rfl⟩:=List.getElem_of_mem hf;have:=(h2 i hi).1;rwa[getD_lt hi]at this
 ·rintro ⟨h1,h2,h3⟩
  exact⟨by omega,fun i hi=>⟨h3 _ (Zg hi),ZmF h2 i hi⟩⟩
theorem Zmz:∀ {l m:List Fd},Zvm l→Zvm m→(∀f,f∈l↔f∈m)→l=m
 | [],[],_,_,_=>rfl
 | [],b::m,_,_,h=>by have:=(h b).2 (by simp);cases this
 |a::l,[],_,_,h=>by have:=(h a).1 (by simp);cases this
 |a::l,b::m,h1,h2,h=>by
  obtain⟨p1,q1⟩:=List.pairwise_cons.1 h1;obtain⟨p2,q2⟩:=List.pairwise_cons.1 h2;have e:a=b:=by
   rcases List.mem_cons.1 ((h a).1 (by simp))with e|ha
   ·exact e
   ·rcases List.mem_cons.1 ((h b).2 (by simp))with e|hb
    ·exact e.symm
    ·have:=Zmk (p1 b hb) (p2 a ha);rw[Zdq]at this;cases this
  subst e;congr 1;refine Zmz q1 q2 fun f=>⟨fun hf=> ?_,fun hf=> ?_⟩
  ·rcases List.mem_cons.1 ((h f).1 (by simp[hf]))with e|hf'
   ·subst e;have:=p1 f hf;rw[Zdq]at this;cases this
   ·exact hf'
  ·rcases List.mem_cons.1 ((h f).2 (by simp[hf]))with e|hf'
   ·subst e;have:=p2 f hf;rw[Zdq]at this;cases this
   ·exact hf'
theorem ZpM {l:List Fd} (h:Zvm l) {f g:Fd} (hf:f∈l) (hg:g∈l) (e:f.at'=g.at'):f=g:=by
 obtain⟨i,hi,rfl⟩:=List.getElem_of_mem hf;obtain⟨j,hj,rfl⟩:=List.getElem_of_mem hg;rcases Nat.lt_trichotomy i j with h1|h1|h1
 ·have:=List.pairwise_iff_getElem.1 h i j hi hj h1;rw[e,Zdq]at this;cases this
 ·subst h1;rfl
 ·have:=List.pairwise_iff_getElem.1 h j i hj hi h1;rw[e,Zdq]at this;cases this
open Go.PL
theorem Zhv (l:List Fd) (r:Rf):(idx (atF r) l= -1∧ ∀g∈l,g.at'≠r)∨ ∃i:Nat,∃h:i<l.length,idx (atF r) l=(i:Int)∧(l[i]).at'=r:=by
 unfold idx;cases hf:l.findIdx? (atF r)with
 |none=>
  left;refine⟨rfl,fun g hg e=> ?_⟩;rw[List.findIdx?_eq_none_iff]at hf;have:=hf g hg;simp[atF,e]at this
 |some i=>
  right;rw[List.findIdx?_eq_some_iff_getElem]at hf;obtain⟨h1,h2,_⟩:=hf;exact⟨i,h1,rfl,by simpa[atF]using h2⟩
theorem ZaD {l:List Fd} (h:Zvm l) {f:Fd} (hf:f∈l):Zy l f.at'=(f,0):=by
 unfold Zy;rcases Zhv l f.at' with ⟨_,h2⟩|⟨i,hi,h1,h2⟩
 ·exact absurd rfl (h2 f hf)
 ·rw[h1,if_neg (by omega)];simp only[Int.toNat_natCast];rw[getD_lt hi];rw[ZpM h (List.getElem_mem hi) hf h2]
theorem ZaA {l:List Fd} {r:Rf} (h:(Zy l r).2=0):(Zy l r).1∈l∧(Zy l r).1.at'=r:=by
 unfold Zy at *;rcases Zhv l r with ⟨h1,_⟩|⟨i,hi,h1,h2⟩
 ·rw[h1]at h;simp at h
 ·rw[h1,if_neg (by omega)];simp only[Int.toNat_natCast];rw[getD_lt hi];exact⟨List.getElem_mem hi,h2⟩
theorem ZxN {l:List Fd} {r:Rf} (h:(Zbl l r).2=0):ZW l=true∧(∃f∈l,f.at'=r)∧ZW (Zbl l r).1=true∧(∀g,g∈(Zbl l r).1↔g∈l∧g.at'≠r)∧(Zbl l r).1.length+1=l.length:=by
 unfold Zbl at *;cases hr:ZW l with
 |false=>rw[hr]at h;simp at h
 |true=>
  rcases Zhv l r with ⟨h1,_⟩|⟨i,hi,h1,h2⟩
  ·rw[hr,h1]at h;simp at h
  ·simp only[h1,Bool.true_eq_false,if_false,show ¬(i:Int)<0 by omega,Int.toNat_natCast];obtain⟨k1,k2,k3⟩:=ZP.1 hr;have hsub:(l.eraseIdx i).Sublist l:=List.eraseIdx_sublist _ _;have hlen:(l.eraseIdx i).length+1=l.length:=by rw[List.length_eraseIdx_of_lt hi];omega
   refine⟨trivial,⟨_,List.getElem_mem hi,h2⟩,ZP.2 ⟨by omega,List.Pairwise.sublist hsub k2,fun f hf=>k3 f (hsub.mem hf)⟩,fun g=> ?_,hlen⟩;rw[List.mem_eraseIdx_iff_getElem];constructor
   ·rintro ⟨j,hj,hne,rfl⟩
    refine⟨List.getElem_mem hj,fun e=> ?_⟩;have e2:=ZpM k2 (List.getElem_mem hj) (List.getElem_mem hi) (e.trans h2.symm);rcases Nat.lt_trichotomy j i with q|q|q
    ·have:=List.pairwise_iff_getElem.1 k2 j i hj hi q;rw[e2,Zdq]at this;cases this
    ·exact hne q
    ·have:=List.pairwise_iff_getElem.1 k2 i j hi hj q;rw[e2,Zdq]at this;cases this
   ·rintro ⟨hg,hne⟩
    obtain⟨j,hj,rfl⟩:=List.getElem_of_mem hg;exact⟨j,hj,fun e=>hne (by subst e;exact h2),rfl⟩
theorem ZA6 {l:List Fd} {r:Rf} (hr:ZW l=true) (h:∃f∈l,f.at'=r):(Zbl l r).2=0:=by
 obtain⟨f,hf,e⟩:=h;unfold Zbl;rcases Zhv l r with ⟨_,h2⟩|⟨i,hi,h1,h2⟩
 ·exact absurd e (h2 f hf)
 ·simp[hr,h1,show ¬(i:Int)<0 by omega]
theorem Zpr (l:List Fd) (f g:Fd):g∈ZnH l f↔g∈l∨g=f:=by
 unfold ZnH;have:=List.takeWhile_append_dropWhile (p:=Zr7 f.at') (l:=l);constructor
 ·intro h;rcases List.mem_append.1 h with h|h
  ·exact .inl (by rw[←this];exact List.mem_append_left _ h)
  ·rcases List.mem_cons.1 h with h|h
   ·exact .inr h
   ·exact .inl (by rw[←this];exact List.mem_append_right _ h)
 ·rintro (h|h)
  ·rw[←this]at h;rcases List.mem_append.1 h with h|h
   ·exact List.mem_append_left _ h
   ·exact List.mem_append_right _ (List.mem_cons_of_mem _ h)
  ·exact List.mem_append_right _ (by simp[h])
theorem ZqI:∀ {l:List Fd} {f:Fd},Zvm l→(∀g∈l,g.at'≠f.at')→Zvm (ZnH l f)
 | [],f,_,_=>List.pairwise_singleton _ _
 |a::l,f,h,hn=>by
  obtain⟨p,q⟩:=List.pairwise_cons.1 h;cases hb:Zdr a.at' f.at' with
  |true=>
   rw[ZzE hb];refine List.pairwise_cons.2 ⟨fun x hx=> ?_,ZqI q (fun g hg=>hn g (by simp[hg]))⟩;rcases(Zpr l f x).1 hx with hx|hx
   ·exact p x hx
   ·rw[hx];exact hb
  |false=>
   rw[ZzD hb];have hfa:Zdr f.at' a.at'=true:=by
    rcases Zwc a.at' f.at' with h1|h1|h1
    ·rw[hb]at h1;cases h1
    ·exact absurd h1 (hn a (by simp))
    ·exact h1
   refine List.pairwise_cons.2 ⟨fun x hx=> ?_,h⟩;rcases List.mem_cons.1 hx with rfl|hx
   ·exact hfa
   ·exact Zmk hfa (p x hx)
theorem ZxM {l:List Fd} {f:Fd} (h:(Zhh l f).2=0):ZW l=true∧ZO f=true∧(∀g∈l,g.at'≠f.at')∧ZW (Zhh l f).1=true∧(∀g,g∈(Zhh l f).1↔g∈l∨g=f)∧(Zhh l f).1.length=l.length+1:=by
 unfold Zhh at *;cases hr:ZW l with
 |false=>rw[hr]at h;simp at h
 |true=>
  cases hf:ZO f with
  |false=>rw[hr,hf]at h;simp at h
  |true=>
   rcases Zhv l f.at' with ⟨h1,h2⟩|⟨i,hi,h1,h2⟩
   ·by_cases hl:16≤(l.length:Int)
    ·rw[hr,hf,h1]at h;simp[hl]at h
    ·simp only[h1,Bool.true_eq_false,or_self,if_false,hl,show ¬(0:Int)≤ -1 by omega];obtain⟨k1,k2,k3⟩:=ZP.1 hr;have hil:=Zme l f;refine⟨trivial,trivial,h2,ZP.2 ⟨by omega,ZqI k2 h2,fun g hg=> ?_⟩,fun g=>Zpr l f g,hil⟩;rcases(Zpr l f g).1 hg with hg|hg
     ·exact k3 g hg
     ·rw[hg];exact hf
   ·rw[hr,hf,h1]at h;simp at h
theorem ZA5 {l:List Fd} {f:Fd} (hr:ZW l=true) (hf:ZO f=true) (hn:∀g∈l,g.at'≠f.at') (hl:l.length<16):(Zhh l f).2=0:=by
 unfold Zhh;rcases Zhv l f.at' with ⟨h1,h2⟩|⟨i,hi,h1,h2⟩
 ·simp[hr,hf,h1,show ¬16≤(l.length:Int)by omega]
 ·exact absurd h2 (hn _ (List.getElem_mem hi))
theorem ZdG:∀ {rs:List Rf} {l m:List Fd},ZW l=true→ZgM rs l=some m→ZW m=true∧(∀g,g∈m↔g∈l∧g.at'∉rs)∧(∀r∈rs,∃f∈l,f.at'=r)∧rs.Nodup∧m.length+rs.length=l.length
 | [],l,m,hr,h=>by cases h;exact⟨hr,by simp,by simp,by simp,by simp⟩
 |r::rs,l,m,hr,h=>by
  unfold ZgM at h;split at h
  ·cases h
  ·rename_i hz;obtain⟨a1,a2,a3,a4,a5⟩:=ZxN (by simpa using hz);obtain⟨b1,b2,b3,b4,b5⟩:=ZdG a3 h;refine⟨b1,fun g=> ?_,fun q hq=> ?_,List.nodup_cons.2 ⟨fun hin=> ?_,b4⟩,by simp only[List.length_cons];omega⟩
   ·rw[b2,a4];simp only[List.mem_cons,not_or];exact⟨fun h=>⟨h.1.1,h.1.2,h.2⟩,fun h=>⟨⟨h.1,h.2.1⟩,h.2.2⟩⟩
   ·rcases List.mem_cons.1 hq with rfl|hq
    ·exact a2
    ·obtain⟨f,hf,e⟩:=b3 q hq;exact⟨f,((a4 f).1 hf).1,e⟩
   ·obtain⟨f,hf,e⟩:=b3 r hin;exact((a4 f).1 hf).2 e
theorem Zxo:∀ {rs:List Rf} {l:List Fd},ZW l=true→rs.Nodup→(∀r∈rs,∃f∈l,f.at'=r)→ ∃m,ZgM rs l=some m
 | [],l,_,_,_=>⟨l,rfl⟩
 |r::rs,l,hr,hn,h=>by
  rw[List.nodup_cons]at hn;have hz:=ZA6 hr (h r (by simp));obtain⟨a1,a2,a3,a4,a5⟩:=ZxN hz;obtain⟨m,hm⟩:=Zxo (rs:=rs) a3 hn.2 (fun q hq=>by
   obtain⟨f,hf,e⟩:=h q (by simp[hq]);exact⟨f,(a4 f).2 ⟨hf,fun e2=>hn.1 (by rw[←e2,e];exact hq)⟩,e⟩)
  exact⟨m,by unfold ZgM;rw[if_neg (by simp[hz])];exact hm⟩
theorem Zbh:∀ {fs l m:List Fd},ZW l=true→Zb4 fs l=some m→ZW m=true∧(∀g,g∈m↔g∈l∨g∈fs)∧(∀f∈fs,ZO f=true∧ ∀g∈l,g.at'≠f.at')∧(fs.map (·.at')).Nodup∧m.length=l.length+fs.length
 | [],l,m,hr,h=>by cases h;exact⟨hr,by simp,by simp,by simp,by simp⟩
 |f::fs,l,m,hr,h=>by
  unfold Zb4 at h;split at h
  ·cases h
  ·rename_i hz;obtain⟨a1,a2,a3,a4,a5,a6⟩:=ZxM (by simpa using hz);obtain⟨b1,b2,b3,b4,b5⟩:=Zbh a4 h;refine⟨b1,fun g=> ?_,fun q hq=> ?_,?_,by simp only[List.length_cons];omega⟩
   ·rw[b2,a5,List.mem_cons,or_assoc]
   ·rcases List.mem_cons.1 hq with rfl|hq
    ·exact⟨a2,a3⟩
    ·exact⟨(b3 q hq).1,fun g hg=>(b3 q hq).2 g ((a5 g).2 (.inl hg))⟩
   ·rw[List.map_cons,List.nodup_cons];refine⟨fun hin=> ?_,b4⟩;obtain⟨q,hq,e⟩:=List.mem_map.1 hin;exact(b3 q hq).2 f ((a5 f).2 (.inr rfl)) e.symm
theorem Zqs:∀ {fs l:List Fd},ZW l=true→(∀f∈fs,ZO f=true)→(∀f∈fs,∀g∈l,g.at'≠f.at')→(fs.map (·.at')).Nodup→l.length+fs.length≤16→ ∃m,Zb4 fs l=some m
 | [],l,_,_,_,_,_=>⟨l,rfl⟩
 |f::fs,l,hr,hf,hp,hn,hl=>by
  rw[List.map_cons,List.nodup_cons]at hn;simp only[List.length_cons]at hl;have hz:=ZA5 hr (hf f (by simp)) (hp f (by simp)) (by omega);obtain⟨a1,a2,a3,a4,a5,a6⟩:=ZxM hz;obtain⟨m,hm⟩:=Zqs (fs:=fs) a4 (fun q hq=>hf q (by simp[hq])) (fun q hq g hg e=>by
   rcases(a5 g).1 hg with hg|hg
   ·exact hp q (by simp[hq]) g hg e
   ·exact hn.1 (List.mem_map.2 ⟨q,hq,by rw[←e,hg]⟩)) hn.2 (by omega)
  exact⟨m,by unfold Zb4;rw[if_neg (by simp[hz])];exact hm⟩
theorem Zaa {l m:List Fd} {x:Ln} (h:Zq l x=(m,0)):ZW l=true∧Zu x=true∧ ∃cs l1,Zbc l x=(cs,true)∧ZgM (Zl x) l=some l1∧Zb4 cs l1=some m:=by
 unfold Zq at h;split at h
 ·simp at h
 ·rename_i hh;simp only[not_or,Bool.not_eq_false]at hh;refine⟨hh.1,hh.2,?_⟩;split at h
  ·simp at h
  ·rename_i k hk;simp only[Prod.mk.injEq,and_true]at h;subst h;unfold ZkM at hk;split at hk
   ·cases hk
   ·rename_i ha;obtain⟨l1,h1,h2⟩:=Option.bind_eq_some_iff.1 hk;refine⟨(Zbc l x).1,l1,?_,h1,h2⟩;have:(Zbc l x).2=true:=by simpa using ha
    rw[←this]
theorem Zfn {l l1 m cs gs:List Fd} {x y:Ln} (hl:ZW l=true) (h1:ZgM (Zl x) l=some l1) (h2:Zb4 cs l1=some m) (hy:Zu y=true) (k1:Zl y=cs.map (·.at')) (k2:Zbc m y=(gs,true)) (k3:∀g∈gs,g∈l) (k4:gs.map (·.at')=Zl x):Zq m y=(l,0):=by
 obtain⟨a1,a2,a3,a4,a5⟩:=ZdG hl h1;obtain⟨b1,b2,b3,b4,b5⟩:=Zbh a1 h2;obtain⟨r1,r2,r3⟩:=ZP.1 hl;obtain⟨m1,hm1⟩:=Zxo (rs:=cs.map (·.at')) b1 b4 (fun r hr=>by
  obtain⟨f,hf,e⟩:=List.mem_map.1 hr;exact⟨f,(b2 f).2 (.inr hf),e⟩)
 obtain⟨c1,c2,c3,c4,c5⟩:=ZdG b1 hm1;have e1:m1=l1:=Zmz (ZP.1 c1).2.1 (ZP.1 a1).2.1 fun f=>by
  rw[c2,b2];constructor
  ·rintro ⟨hf|hf,hn⟩
   ·exact hf
   ·exact absurd (List.mem_map.2 ⟨f,hf,rfl⟩) hn
  ·intro hf;refine⟨.inl hf,fun hin=> ?_⟩;obtain⟨q,hq,e⟩:=List.mem_map.1 hin;exact(b3 q hq).2 f hf e.symm
 subst e1;have hgl:gs.length=(Zl x).length:=by rw[←k4];simp
 obtain⟨l2,hl2⟩:=Zqs (fs:=gs) a1 (fun f hf=>r3 f (k3 f hf)) (fun f hf g hg e=>((a2 g).1 hg).2 (by rw[e,←k4];exact List.mem_map.2 ⟨f,hf,rfl⟩)) (by rw[k4];exact a4) (by omega);obtain⟨d1,d2,d3,d4,d5⟩:=Zbh a1 hl2;have e2:l2=l:=Zmz (ZP.1 d1).2.1 r2 fun f=>by
  rw[d2,a2];constructor
  ·rintro (hf|hf)
   ·exact hf.1
   ·exact k3 f hf
  ·intro hf
   by_cases hin:f.at'∈Zl x
   ·right;rw[←k4]at hin;obtain⟨q,hq,e⟩:=List.mem_map.1 hin;rw[←ZpM r2 (k3 q hq) hf e];exact hq
   ·exact .inl ⟨hf,hin⟩
 subst e2;unfold Zq;rw[if_neg (by simp[b1,hy])];have:ZkM m y=some l2:=by
  unfold ZkM;rw[k2,if_neg (by simp),k1,hm1];exact hl2
 rw[this]
open Go.PL
structure Nd where
 e:Eg
 st:Int
 sch:List Fd
 dep:Int
 deriving DecidableEq,Inhabited
def nd (n:Nd):PV:= .agg [.int .i64 n.e.id.r,.int .i64 n.e.id.n,.int .i64 n.e.par.r,.int .i64 n.e.par.n,.int .i64 n.e.ln.kind,.int .i64 n.e.ln.at'.sc,.str n.e.ln.at'.gr,.str n.e.ln.at'.nm,.str n.e.ln.nm,.str n.e.ln.ot,.int .i64 n.e.ln.fac,.int .i64 n.e.ln.fd.at'.sc,.str n.e.ln.fd.at'.gr,.str n.e.ln.fd.at'.nm,.int .i64 n.e.ln.fd.kind,.str n.e.ln.fd.df,.sl .no (n.e.ln.fd.cases'.map .str),.int .i64 n.e.ln.fd.worth,.sl .no (n.e.ln.fo.map pr),.sl .no (n.e.ln.ba.map pr),.int .i64 n.st,.sl .no (n.sch.map fld),.int .i64 n.dep]
def kts (l:List Nd):List PV:=l.map fun n=>tg n.e.id
def nds (l:List Nd):List PV:=l.map nd
def tr (l:List Nd):PV:= .rptr [.rmap (kts l) (nds l)]
def mc (l:List Nd):MapC:=⟨kts l,nds l⟩
theorem Zqt (l:List Pr):PV.didsL (l.map pr)= []:=by
 induction l with
 |nil=>rfl
 |cons t l ih=>simp only[List.map_cons,PV.didsL,ih,pr,PV.dids,List.append_nil]
theorem Zpf (e:Eg):(eg e).dids= []:=by simp only[eg,PV.dids,PV.didsL,Zqt,Zb5,List.append_nil]
theorem Zpz (n:Nd):(nd n).dids= []:=by simp only[nd,PV.dids,PV.didsL,Zqt,Znn,Zb5,List.append_nil]
theorem Zyw (t:Tg):(tg t).dids= []:=by simp only[tg,PV.dids,PV.didsL,List.append_nil]
theorem Zc4 {α:Type} (f:α→PV) (h:∀x,(f x).nomap=true) (l:List α):PV.nomapL (l.map f)=true:=ZhM.2 fun c hc=>by
 obtain⟨x,_,rfl⟩:=List.mem_map.1 hc;exact h x
theorem ZhN (l:List Str):PV.nomapL (l.map .str)=true:=Zc4 _ (fun _=>rfl) l
theorem Zud (l:List Pr):PV.nomapL (l.map pr)=true:=Zc4 _ (fun _=>rfl) l
theorem Zue (f:Fd):(fld f).nomap=true:=by simp only[fld,PV.nomap,PV.nomapL,ZhN,Bool.and_self]
theorem Zwj (n:Nd):(nd n).nomap=true:=by simp only[nd,PV.nomap,PV.nomapL,Zud,ZhN,Zc4 _ Zue,Bool.and_self]
theorem ZkX (id:Tg):∀(l:List Nd) (i:Nat),ZeG [.int,.int] [.int .i64 id.r,.int .i64 id.n] (kts l) i=some ((l.findIdx? fun n=>decide (id=n.e.id)).map (· + i))
 | [],i=>rfl
 |n::l,i=>by
  have ih:=ZkX id l (i+1);simp only[kts,tg]at ih;simp only[kts,List.map_cons,tg,ZeG,ZD,Zed,if_true,List.findIdx?_cons,Bool.and_true,ZG]
  by_cases h:id=n.e.id
  ·simp[h]
  ·simp only[h,decide_false,ih];simp only[Bool.false_eq_true,if_false,Option.map_map];congr 2;funext x;simp;omega
theorem Zat (id:Tg) (l:List Nd):ZeG [.int,.int] [.int .i64 id.r,.int .i64 id.n] (kts l) 0=some (l.findIdx? fun n=>decide (id=n.e.id)):=by
 rw[ZkX];congr 1;cases List.findIdx? (fun n=>decide (id=n.e.id)) l<;>rfl
def ZhE (l:List Nd) (id:Tg):Option Nd:=l.find? fun n=>decide (id=n.e.id)
theorem Zfe {l:List Nd} {id:Tg}:(l.findIdx? fun n=>decide (id=n.e.id))=none↔ZhE l id=none:=by
 unfold ZhE;rw[List.findIdx?_eq_none_iff,List.find?_eq_none];simp
theorem Zff {l:List Nd} {id:Tg} {i:Nat} (h:(l.findIdx? fun n=>decide (id=n.e.id))=some i):i<l.length∧ZhE l id=some (l.getD i default):=by
 rw[List.findIdx?_eq_some_iff_getElem]at h;obtain⟨h1,h2,h3⟩:=h;refine⟨h1,?_⟩;unfold ZhE;rw[List.find?_eq_some_iff_getElem];exact⟨by rw[getD_lt h1];exact h2,i,h1,(getD_lt h1).symm,fun j hj=>by simpa using h3 j hj⟩
theorem Zjo {l:List Nd} {i:Nat} (h:i<l.length):(nds l).getD i .any=nd (l.getD i default):=Zb9 h
theorem ZtO {l:List Nd} {i:Nat} (h:i<l.length):(kts l).getD i .any=tg (l.getD i default).e.id:=Zb9 (d:=default) h
theorem Zhr:PL.Pure Tryz.prog 92 [] (tg default):=by
 refine pov Tryz.func92 (by decide) rfl Tryz.ntmps92 Tryz.results92 (by simp) (rfl) ?_;simp only[go_sem];rfl
theorem ZrG:PL.Pure Tryz.prog 93 [] (Zn ZhS):=by
 refine pov Tryz.func93 (by decide) rfl Tryz.ntmps93 Tryz.results93 (by simp) (Zfi _) ?_;simp only[go_sem];repeat((with_reducible refine And.intro ?_ ?_);(focus((repeat' (with_reducible apply And.intro))<;>(first|omega|exact Zbf (by omega) (by omega)|exact Zbf (by simp;omega) (by omega)|exact ZaJ _|(simp;done)|(simp;omega)))))
 rfl
def ZpN:Nd:=⟨default,2,ZhS,0⟩
def atN (l:List Nd) (id:Tg):Nd:=if id=default then ZpN else(ZhE l id).getD default
theorem Zxu:PL.Mk Tryz.prog 28 [] (fun b=> .rptr [.mref b]) (mc []):=by
 refine PL.Mk.of_v Tryz.func28 (by decide) rfl Tryz.ntmps28 Tryz.results28 (by simp) (fun b=>rfl) ?_;simp only[go_sem];intro b;exact⟨b,3,[.mref b],rfl,by simp,rfl,by simp[mc,kts,nds],rfl⟩
theorem Ztf (l:List Nd) (id:Tg):PL.Pure Tryz.prog 49 [tr l,tg id] (nd (atN l id)):=by
 unfold atN
 by_cases h:id=default
 ·rw[if_pos h];subst h;refine pov Tryz.func49 (by decide) rfl Tryz.ntmps49 Tryz.results49 (by simp) (Zpz _) ?_;simp only[go_sem,tr,tg];refine Ze (by kernel_rfl) (by kernel_rfl) ?_;simp only[go_sem];refine Za (Zhr) ?_ ?_ ?_;iterate 2 simp only[go_sem,tg]
  simp only[go_sem,tg];refine Za (ZrG) ?_ ?_ ?_;iterate 2 simp only[go_sem,tg]
  simp only[go_sem,Zn];rfl
 ·rw[if_neg h];have hd:decide (id=default)=false:=by simpa using h
  refine pov Tryz.func49 (by decide) rfl Tryz.ntmps49 Tryz.results49 (by simp) (Zpz _) ?_;simp only[go_sem,tr,tg];refine Ze (by kernel_rfl) (by kernel_rfl) ?_;simp only[go_sem];refine Za (Zhr) ?_ ?_ ?_;iterate 2 simp only[go_sem,tg]
  simp only[go_sem,tg,ZG,hd];cases hf:l.findIdx? (fun n=>decide (id=n.e.id))with
  |none=>
   have:=Zfe.1 hf;refine Ze (by kernel_rfl) (by kernel_rfl) ?_;simp only[go_sem,Zat,hf,this,Option.getD_none];rfl
  |some i=>
   obtain⟨h1,h2⟩:=Zff hf;refine Ze (by kernel_rfl) (by kernel_rfl) ?_;simp only[go_sem,Zat,hf,h2,Option.getD_some,Zjo h1,nd]
open Go.PL
def Zbv (m:List Eg) (id:Tg):Option Eg:=m.find? fun e=>decide (id=e.id)
theorem Zb7 {m:List Eg} {id:Tg} {e:Eg} (h:Zbv m id=some e):id=e.id∧e∈m:=by
 unfold Zbv at h;exact⟨by simpa using List.find?_some h,List.mem_of_find?_eq_some h⟩
inductive Way (m:List Eg):Tg→List Eg→Prop
 |root:Way m default []
 |step {id:Tg} {e:Eg} {w:List Eg} (hn:id≠default) (he:Zbv m id=some e) (hw:Way m e.par w):Way m id (w++ [e])
theorem Way.fn {m:List Eg} {id:Tg} {w w':List Eg} (h:Way m id w) (h':Way m id w'):w=w':=by
 induction h generalizing w' with
 |root=>cases h' with
  |root=>rfl
  |step hn he hw=>exact absurd rfl hn
 |step hn he hw ih=>
  cases h' with
  |root=>exact absurd rfl hn
  |step hn' he' hw'=>
   rw[he]at he';cases he';rw[ih hw']
theorem Way.mem {m:List Eg} {id:Tg} {w:List Eg} (h:Way m id w):∀e∈w,e∈m:=by
 induction h with
 |root=>intro e he;cases he
 |step hn he hw ih=>
  intro x hx;rcases List.mem_append.1 hx with hx|hx
  ·exact ih x hx
  ·rw[List.mem_singleton.1 hx];exact(Zb7 he).2
theorem Way.take {m:List Eg} {id:Tg} {w:List Eg} (h:Way m id w):∀k (hk:k<w.length),Way m (w[k]).id (w.take (k+1)):=by
 induction h with
 |root=>intro k hk;simp at hk
 |step hn he hw ih=>
  rename_i id e w;intro k hk
  by_cases hlt:k<w.length
  ·rw[List.getElem_append_left hlt,List.take_append_of_le_length (by omega)];exact ih k hlt
  ·have hk':k=w.length:=by simp at hk;omega
   subst hk';have e1:(w++ [e])[w.length]'hk=e:=by simp
   rw[e1,List.take_of_length_le (by simp)];have:=(Zb7 he).1;rw[←this];exact .step hn he hw
theorem Way.nodup {m:List Eg} {id:Tg} {w:List Eg} (h:Way m id w):w.Nodup:=by
 rw[List.nodup_iff_pairwise_ne,List.pairwise_iff_getElem];intro i j hi hj hij e;have h1:=h.take i hi;have h2:=h.take j hj;rw[e]at h1;have:=congrArg List.length (h1.fn h2);simp at this;omega
theorem Zmr {α:Type} [DecidableEq α]:∀ {l m:List α},l.Nodup→(∀x∈l,x∈m)→l.length≤m.length
 | [],_,_,_=>Nat.zero_le _
 |a::l,m,hn,hs=>by
  rw[List.nodup_cons]at hn;have ha:a∈m:=hs a (by simp);have:=Zmr (l:=l) (m:=m.erase a) hn.2 (fun x hx=>(List.mem_erase_of_ne (fun e:x=a=>hn.1 (e▸hx))).2 (hs x (by simp[hx])));rw[List.length_erase_of_mem ha]at this;have:0<m.length:=List.length_pos_of_mem ha;simp only[List.length_cons];omega
theorem Way.len {m:List Eg} {id:Tg} {w:List Eg} (h:Way m id w):w.length≤m.length:=Zmr h.nodup h.mem
def ZxK (m:List Eg):Nat→Tg→List Eg→Option (List Eg)
 |0,_,_=>none
 |k+1,id,way=>if id=default then some way else match Zbv m id with
  |none=>none
  |some e=>ZxK m k e.par (e::way)
def ZsT (m:List Eg) (id:Tg):Option (List Eg):=ZxK m (m.length+1) id []
theorem ZlM {m:List Eg}:∀ {k:Nat} {id:Tg} {acc r:List Eg},ZxK m k id acc=some r→ ∃w,Way m id w∧r=w++acc
 |0,_,_,_,h=>by cases h
 |k+1,id,acc,r,h=>by
  unfold ZxK at h;split at h
  ·rename_i hd;cases h;exact⟨[],hd▸ .root,rfl⟩
  ·rename_i hd;split at h
   ·cases h
   ·rename_i e he;obtain⟨w,h1,h2⟩:=ZlM h;exact⟨w++ [e],.step hd he h1,by rw[h2];simp⟩
theorem Zvg {m:List Eg} {id:Tg} {w:List Eg} (h:Way m id w):∀ {k:Nat} (acc:List Eg),w.length<k→ZxK m k id acc=some (w++acc):=by
 induction h with
 |root=>intro k acc hk;cases k with
  |zero=>simp at hk
  |succ k=>simp[ZxK]
 |step hn he hw ih=>
  intro k acc hk;cases k with
  |zero=>simp at hk
  |succ k=>
   simp only[List.length_append,List.length_cons,List.length_nil]at hk;simp only[ZxK,if_neg hn,he];rw[ih _ (by omega)];simp
theorem Zcx {m:List Eg} {id:Tg} {w:List Eg}:ZsT m id=some w↔Way m id w:=by
 constructor
 ·intro h;obtain⟨w',h1,h2⟩:=ZlM h;rw[h2,List.append_nil];exact h1
 ·intro h;have:=Zvg h (k:=m.length+1) [] (by have:=h.len;omega);simpa[ZsT]using this
def Zby:List Eg→List Fd→Option (List Fd)
 | [],fs=>some fs
 |e::es,fs=>if(Zq fs e.ln).2≠0 then none else Zby es (Zq fs e.ln).1
theorem Zh9 (w v:List Eg) (fs:List Fd):Zby (w++v) fs=(Zby w fs).bind (Zby v):=by
 induction w generalizing fs with
 |nil=>rfl
 |cons e w ih=>
  simp only[List.cons_append,Zby];split
  ·rfl
  ·exact ih _
def Zkh (e:Eg):Option (List Eg)→Nd
 |none=>⟨e,1,[],0⟩
 |some w=>match Zby w ZhS with
  |none=>⟨e,3,[],0⟩
  |some fs=>⟨e,2,fs,w.length⟩
def Zam (m:List Eg) (e:Eg):Nd:=Zkh e (ZsT m e.id)
def Zf (m:List Eg):List Nd:=m.map (Zam m)
def ZqY (e:Eg):Nd:=⟨e,1,[],0⟩
theorem ZdI (m:List Eg) (e:Eg):(Zam m e).e=e:=by
 unfold Zam Zkh;split
 ·rfl
 ·split<;>rfl
structure Apart (m:List Eg):Prop where
 d:(m.map (·.id)).Nodup
 n:∀e∈m,e.id≠default
theorem Apart.find {m:List Eg} (h:Apart m) {e:Eg} (he:e∈m):Zbv m e.id=some e:=by
 obtain⟨l1,l2,rfl⟩:=List.append_of_mem he;have hd:=h.d;simp only[List.map_append,List.map_cons]at hd;unfold Zbv;rw[List.find?_append];have hno:l1.find? (fun x=>decide (e.id=x.id))=none:=by
  rw[List.find?_eq_none];intro x hx hh;have hx':x.id∈l1.map (·.id):=List.mem_map.2 ⟨x,hx,rfl⟩;have:=(List.nodup_append.1 hd).2.2 _ hx' e.id (by simp);exact this (by simpa using Eq.symm (by simpa using hh))
 rw[hno];simp
def ZoZ (m:List Eg) (c:List Nd):Prop:=c.length=m.length∧ ∀i,i<m.length→c.getD i default=ZqY (m.getD i default)∨(c.getD i default=Zam m (m.getD i default)∧(c.getD i default).st≠1)
theorem Zeg {m:List Eg} {e:Eg}:(Zam m e).st=1↔ZsT m e.id=none:=by
 unfold Zam Zkh;split
 ·rename_i h;simp[h]
 ·rename_i w h;constructor
  ·intro hh;split at hh<;>cases hh
  ·intro hh;rw[h]at hh;cases hh
theorem Zgm {m:List Eg} {e:Eg} (h:ZsT m e.id=none):Zam m e=ZqY e:=by simp[Zam,Zkh,h,ZqY]
theorem Zyj (e:Eg):(ZqY e).st=1:=rfl
theorem Zly {m:List Eg} {c:List Nd} (h:ZoZ m c) {i:Nat} (hi:i<m.length):(c.getD i default).e=m.getD i default:=by
 rcases h.2 i hi with h|⟨h,_⟩
 ·rw[h];rfl
 ·rw[h,ZdI]
theorem ZmA {m:List Eg} {c:List Nd} (h:ZoZ m c):c.map (·.e)=m:=by
 apply List.ext_getElem
 ·simp[h.1]
 ·intro i h1 h2;have:=Zly h h2;rw[getD_lt (by have:=h.1;omega),getD_lt h2]at this;simpa using this
theorem Znz {m:List Eg} {c:List Nd} (h:ZoZ m c) (id:Tg):(ZhE c id).map (·.e)=Zbv m id:=by
 rw[←ZmA h];unfold ZhE Zbv;rw[List.find?_map];rfl
theorem ZqP {m:List Eg} {c:List Nd} (h:ZoZ m c) {n:Nd} (hn:n∈c):n.e∈m∧(n=ZqY n.e∨(n=Zam m n.e∧n.st≠1)):=by
 obtain⟨i,hi,rfl⟩:=List.getElem_of_mem hn;have hi':i<m.length:=by have:=h.1;omega
 have e:=Zly h hi';have k:=h.2 i hi';rw[getD_lt hi]at e k;rw[e];exact⟨Zg hi',k⟩
def ZeK (e:Eg) (up:Nd):Nd:=if up.st=2∧(Zq up.sch e.ln).2=0 then⟨e,2,(Zq up.sch e.ln).1,up.dep+1⟩else⟨e,3,[],0⟩
theorem ZpC {m:List Eg} {e:Eg} {w:List Eg} (ha:Apart m) (he:e∈m) (hw:Way m e.par w):Zam m e=match Zby w ZhS with
  |none=>⟨e,3,[],0⟩
  |some fs=>ZeK e ⟨default,2,fs,w.length⟩:=by
 have h1:Way m e.id (w++ [e]):= .step (ha.n e he) (ha.find he) hw;have h2:=Zcx.2 h1;unfold Zam Zkh;rw[h2];simp only[Zh9];cases hf:Zby w ZhS with
 |none=>rfl
 |some fs=>
  simp only[Option.bind_some,Zby,ZeK]
  by_cases hz:(Zq fs e.ln).2=0
  ·simp[hz]
  ·simp[hz]
theorem Zux {m:List Eg} {c:List Nd} (ha:Apart m) (h:ZoZ m c) {e:Eg} (he:e∈m) (hu:(atN c e.par).st=2∨(atN c e.par).st=3):ZeK e (atN c e.par)=Zam m e∧(Zam m e).st≠1:=by
 have key:∃w,Way m e.par w∧ZeK e (atN c e.par)=(match Zby w ZhS with|none=>⟨e,3,[],0⟩|some fs=>ZeK e ⟨default,2,fs,w.length⟩):=by
  unfold atN at hu ⊢
  by_cases hp:e.par=default
  ·rw[if_pos hp];exact⟨[],hp▸ .root,by simp[Zby,ZeK,ZpN]⟩
  ·rw[if_neg hp]at hu ⊢;cases hf:ZhE c e.par with
   |none=>rw[hf]at hu;simp at hu;rcases hu with hu|hu<;>cases hu
   |some n=>
    rw[hf]at hu;simp only[Option.getD_some]at hu ⊢;have hn:n∈c:=List.mem_of_find?_eq_some hf;obtain⟨hm,hk⟩:=ZqP h hn;rcases hk with hk|⟨hk,hst⟩
    ·rw[hk]at hu;simp[ZqY]at hu
    ·have hid:e.par=n.e.id:=by
      have:=Znz h e.par;rw[hf]at this;exact(Zb7 this.symm).1
     cases hw:ZsT m n.e.id with
     |none=>rw[hk]at hst;exact absurd (Zeg.2 hw) hst
     |some w=>
      refine⟨w,by rw[hid];exact Zcx.1 hw,?_⟩;have hnw:n=Zkh n.e (some w):=by rw[←hw];exact hk
      unfold Zkh at hnw;cases hfa:Zby w ZhS with
      |none=>
       simp only[hfa]at hnw;rw[hnw];simp[ZeK]
      |some fs=>
       simp only[hfa]at hnw;rw[hnw];simp[ZeK]
 obtain⟨w,hw,hk⟩:=key;refine⟨by rw[hk,ZpC ha he hw],fun hh=> ?_⟩;have:=Zeg.1 hh;have h2:=Zcx.2 (Way.step (ha.n e he) (ha.find he) hw);rw[this]at h2;cases h2
theorem Zuw {m:List Eg} {c:List Nd} (ha:Apart m) (h:ZoZ m c) (hd:∀i,i<m.length→(c.getD i default).st≠1∨((atN c (m.getD i default).par).st≠2∧(atN c (m.getD i default).par).st≠3)):c=Zf m:=by
 have hs:∀ {id w},Way m id w→ ∀e,Zbv m id=some e→id≠default→Zam m e∈c:=by
  intro id w hw
  induction hw with
  |root=>intro e _ hn;exact absurd rfl hn
  |step hn he hw ih=>
   rename_i id e w;intro e' he' _;rw[he]at he';cases he';obtain⟨hid,hem⟩:=Zb7 he;obtain⟨i,hi,rfl⟩:=List.getElem_of_mem hem;have hic:i<c.length:=by have:=h.1;omega
   rcases h.2 i hi with hk|⟨hk,_⟩
   ·exfalso;rcases hd i hi with h1|⟨h1,h2⟩
    ·rw[hk]at h1;exact h1 rfl
    ·rw[getD_lt hi]at h1 h2
     by_cases hp:(m[i]).par=default
     ·simp[atN,hp,ZpN]at h1
     ·cases hfe:Zbv m (m[i]).par with
      |none=>
       generalize (m[i]).par=p at *;cases hw with
       |root=>exact hp rfl
       |step _ hq _=>rw[hfe]at hq;cases hq
      |some q=>
       have hq:=ih q hfe hp;obtain⟨hqid,hqm⟩:=Zb7 hfe;have hfn:ZhE c (m[i]).par=some (Zam m q):=by
        have h3:=Znz h (m[i]).par;rw[hfe]at h3;cases hx:ZhE c (m[i]).par with
        |none=>rw[hx]at h3;cases h3
        |some n=>
         rw[hx]at h3;simp only[Option.map_some,Option.some.injEq]at h3;have hn:n∈c:=List.mem_of_find?_eq_some hx;have hcd:(c.map (·.e.id)).Nodup:=by
          have:=ZmA h;have h4:=ha.d;rw[←this,List.map_map]at h4;exact h4
         congr 1;obtain⟨a1,b1,ha1⟩:=List.getElem_of_mem hn;obtain⟨a2,b2,ha2⟩:=List.getElem_of_mem hq;have hee:n.e.id=(Zam m q).e.id:=by rw[ZdI,h3]
         have:a1=a2:=by
          rw[List.nodup_iff_pairwise_ne,List.pairwise_iff_getElem]at hcd;rcases Nat.lt_trichotomy a1 a2 with hlt|heq|hlt
          ·exact absurd (show(c.map (·.e.id))[a1]'(by simpa using b1)=(c.map (·.e.id))[a2]'(by simpa using b2)by rw[List.getElem_map,List.getElem_map,ha1,ha2];exact hee) (hcd a1 a2 (by simpa using b1) (by simpa using b2) hlt)
          ·exact heq
          ·exact absurd (show(c.map (·.e.id))[a2]'(by simpa using b2)=(c.map (·.e.id))[a1]'(by simpa using b1)by rw[List.getElem_map,List.getElem_map,ha1,ha2];exact hee.symm) (hcd a2 a1 (by simpa using b2) (by simpa using b1) hlt)
         subst this;rw[←ha1,←ha2]
       have hst:(Zam m q).st≠1:=fun hh=>by
        have:=Zeg.1 hh;rw[←hqid]at this;rw[Zcx.2 hw]at this;cases this
       have hst2:(Zam m q).st=2∨(Zam m q).st=3:=by
        revert hst
        unfold Zam Zkh;split
        ·exact fun h=>absurd rfl h
        ·split
         ·exact fun _=> .inr rfl
         ·exact fun _=> .inl rfl
       have hat:atN c (m[i]).par=Zam m q:=by simp[atN,hp,hfn]
       rw[hat]at h1 h2;rcases hst2 with h5|h5
       ·exact h1 h5
       ·exact h2 h5
   ·rw[getD_lt hic,getD_lt hi]at hk;rw[←hk];exact List.getElem_mem hic
 apply List.ext_getElem
 ·simp[Zf,h.1]
 ·intro i h1 h2;have hi:i<m.length:=by have:=h.1;omega
  have hk:=h.2 i hi;rw[getD_lt h1,getD_lt hi]at hk;simp only[Zf,List.getElem_map];rcases hk with hk|⟨hk,_⟩
  ·rw[hk];cases hw:ZsT m (m[i]).id with
   |none=>exact(Zgm hw).symm
   |some w=>
    exfalso;have hem:m[i]∈m:=List.getElem_mem hi;have hmem:=hs (Zcx.1 hw) _ (ha.find hem) (ha.n _ hem);obtain⟨j,hj,hje⟩:=List.getElem_of_mem hmem;have hjm:j<m.length:=by have:=h.1;omega
    have h3:=Zly h hjm;rw[getD_lt hj,getD_lt hjm,hje,ZdI]at h3;have hij:i=j:=by
     have hd:=ha.d;rw[List.nodup_iff_pairwise_ne,List.pairwise_iff_getElem]at hd;rcases Nat.lt_trichotomy i j with hlt|heq|hlt
     ·exact absurd (show(m.map (·.id))[i]'(by simpa using hi)=(m.map (·.id))[j]'(by simpa using hjm)by rw[List.getElem_map,List.getElem_map,h3]) (hd i j (by simpa using hi) (by simpa using hjm) hlt)
     ·exact heq
     ·exact absurd (show(m.map (·.id))[j]'(by simpa using hjm)=(m.map (·.id))[i]'(by simpa using hi)by rw[List.getElem_map,List.getElem_map,h3]) (hd j i (by simpa using hjm) (by simpa using hi) hlt)
    subst hij;rw[hk]at hje;have:=congrArg Nd.st hje;rw[Zyj]at this;have:=Zeg.1 this.symm;rw[hw]at this;cases this
  ·exact hk
end Go.Proofs.YthingdchjkhfbaaGreat
