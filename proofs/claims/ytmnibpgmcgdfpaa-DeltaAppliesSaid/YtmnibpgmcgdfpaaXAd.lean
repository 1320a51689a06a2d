/- Contracts of functions and laws of this seat, each for every input that it names: lemmas of the proof. -/
import Derived.Test.YtmnibpgmcgdfpaaPlM
import Derived.Test.YtmnibpgmcgdfpaaXAa
import Derived.Test.YtmnibpgmcgdfpaaXAc
import Derived.Test.YtmnibpgmcgdfpaaXAn
import Derived.Laws.LoneSync
import Derived.Test.YtmnibpgmcgdfpaaRows
import Derived.ProofKit
set_option maxHeartbeats 64000000
set_option maxRecDepth 20000
set_option linter.unusedVariables false
set_option linter.unusedSimpArgs false
namespace Go.PL
open Go.RowKit
def Zfj (w w':World) (v v':Value):Prop:=(w.grownBy w' none∧ ∀k,v'.ownBlock=some k→w.heap.size≤k)∨(∃k,v.ownBlock=some k∧v'.ownBlock=some k∧w.grownBy w' (some k))
theorem Fv {w:World} {base n sz:Nat} {e:TypeId} {v:Value} {xs:List Value} (h:w.ownsRow base e sz v n xs) {k:Nat} (hk:v.ownBlock=some k):∃c cur,v= .slice (some ⟨k,0,none⟩) n c∧w.heap[k]? = some (.cells ⟨cur⟩ e (0,0))∧n≤c∧c≤maxLen∧cur.length=c*sz∧cur.take (n*sz)=xs:=by
 rcases h.2 with ⟨rfl,rfl⟩|⟨g,c,cur,rfl,_,h3,h4,h5,h6,h7⟩
 ·cases hk
 ·cases hk;exact⟨c,cur.toList,rfl,h3,h4,h5,h6,h7⟩
theorem Eff.rows {P:Program} {f:FuncId} {args:List PV} {m0:MemL} {R:List (Nat×Row)} {d n' sz:Nat} {e:TypeId} {es':List PV} (hcal:XQ P f) (ok0:m0.Ok) (ok1:(⟨[],(d,.vec n' sz e)::R,[(d,es')]⟩:MemL).Ok) (hH:m0.H= []) (hR:∀x∈R,x.2= .dead) (hR0:∀x∈m0.R,∃y∈R,y.1=x.1)
  (ha:∀p∈args,∀i∈p.ids,m0.has i) (hn:es'.length=n') (hc:∀p∈es',p.ids= []) (hcell:∀p∈es',p.cells.length=sz∧p.cells.all PV.atom=true)
  (hrun:∀(B:Frm) (S:Stable) (M:Maps) (w:World) (vs:List Value),Sim B S M (ZiP m0.hp) Zef w→vs.length=args.length→(∀i,i<args.length→RepS S M m0.hp.q (vs.getD i undef) (args.getD i .any))→
   Calls P f ⟨vs⟩ w fun en w'=>∃v v' xs',en= .returned v'∧w'.ownsRow 0 e sz v' n' xs'∧Zfj w w' v v'∧(∀k,v.ownBlock=some k→ ¬B k∧(∀o,S k o=none)∧ ∃c,w.heap[k]? = some (.cells c e (0,0)))∧
    ∀i j,i<n'→j<sz→Rep S (xs'.getD (i*sz+j) undef) ((es'.getD i .any).cells.getD j .any)):
  Eff P f args m0 (.vsl d n' sz) ⟨[],(d,.vec n' sz e)::R,[(d,es')]⟩:=by
 refine⟨hcal,ok0,ok1,ha,fun i hi=> ?_,fun i hi=> ?_,fun B S M w vs hs hlen hrep=>(hrun B S M w vs hs hlen hrep).mono fun en w' ⟨v,v',xs',e1,hown,hgr,hv,hx⟩=> ?_⟩
 ·simp only[PV.ids,List.mem_singleton]at hi;subst hi;exact⟨(d,.vec n' sz e),by simp,rfl⟩
 ·cases i with
  |b i=>obtain⟨y,hy,_⟩:=hi;rw[hH]at hy;cases hy
  |r i=>
   obtain⟨x,hx,rfl⟩:=hi;obtain⟨y,hy,e⟩:=hR0 x hx;exact⟨y,List.mem_cons_of_mem _ hy,e⟩
 ·have hB:∀k,B k→k<w.heap.size:=hs.hB;obtain⟨row,hg,hrow,hk'⟩:∃row,w.grownBy w' row∧(∀k,row=some k→ ¬B k∧(∀o,S k o=none)∧(∃vs e,w'.heap[k]? = some (.cells vs e (0,0)))∧ ∃c,w.heap[k]? = some (.cells c e (0,0)))∧(∀k,v'.ownBlock=some k→ ¬B k∧ ∀o,S k o=none):=by
   rcases hgr with ⟨hg,hnew⟩|⟨k,h1,h2,hg⟩
   ·refine⟨none,hg,fun k h=>(by cases h),fun k hk=>⟨fun h=> ?_,fun o=> ?_⟩⟩
    ·have:=hnew k hk;have:=hB k h;omega
    ·cases h:S k o with
     |none=>rfl
     |some u=>have:=Vg (hs.stable.s.c k o u h);have:=hnew k hk;omega
   ·obtain⟨b1,b2,c,b3⟩:=hv k h1;obtain⟨c',cur',_,h5,_⟩:=Fv hown h2;refine⟨some k,hg,fun k' h=> ?_,fun k' h=> ?_⟩
    ·cases h;exact⟨b1,b2,⟨_,_,h5⟩,c,b3⟩
    ·rw[h2]at h;cases h;exact⟨b1,b2⟩
  have hst:StabS S w':=hs.stable.s.grown hg fun k h=>by
   obtain⟨_,a2,⟨vs,e',a3⟩,c,a4⟩:=hrow k h;exact⟨a2,vs,e',a3,c,e,a4⟩
  obtain⟨M',hs',hr'⟩:=Zkh R ok1 hR (fun k hk=>Nat.lt_of_lt_of_le (hB k hk) hg.size) hst (fun b hb=>hs.hz b hb) hown hk' hn hc hcell hx;refine⟨v',S,M',e1,hr',hs',⟨SLe.refl S,fun b _=>⟨fun _=>rfl,rfl⟩,BelowF.of_grown hg hB fun k h=>(hrow k h).1⟩,fun x hx=>(by rw[hH]at hx;cases hx),fun x hx=> ?_⟩;obtain⟨y,hy,ey⟩:=hR0 x hx;have hq:(⟨[],(d,.vec n' sz e)::R,[(d,es')]⟩:MemL).hp.q x.1=some .dead:=by
   rw[←ey,ok1.q_at (x:=y) (List.mem_cons_of_mem _ hy),hR y hy]
  rw[hq];exact RowLe.dead
theorem XV {α:Type} {d:α} {l:List α} {i k:Nat} {x:α} (hi:i≤l.length):(l.take i++x::l.drop i).getD k d=if k<i then l.getD k d else if k=i then x else l.getD (k-1) d:=by
 have hl:(l.take i).length=i:=by rw[List.length_take];omega
 by_cases h1:k<i
 ·rw[if_pos h1,Zd (by omega),List.getD_eq_getElem?_getD,List.getD_eq_getElem?_getD,List.getElem?_take_of_lt h1]
 ·rw[if_neg h1,Zf (by omega),hl]
  by_cases h2:k=i
  ·subst h2;rw[if_pos rfl,Nat.sub_self];rfl
  ·rw[if_neg h2,show k-i=(k-1-i)+1 by omega,List.getD_cons_succ,List.getD_eq_getElem?_getD,List.getElem?_drop,List.getD_eq_getElem?_getD];congr 2;omega
theorem Zbd {α:Type} {d:α} {l:List α} {i k j:Nat} {y1 y2:α} (hi:i*2≤l.length) (hj:j<2):(l.take (i*2)++ [y1,y2]++l.drop (i*2)).getD (k*2+j) d=if k<i then l.getD (k*2+j) d else if k=i then [y1,y2].getD j d else l.getD ((k-1)*2+j) d:=by
 have hl:(l.take (i*2)).length=i*2:=by rw[List.length_take];omega
 rw[List.append_assoc]
 by_cases h1:k<i
 ·rw[if_pos h1,Zd (by omega),List.getD_eq_getElem?_getD,List.getD_eq_getElem?_getD,List.getElem?_take_of_lt (by omega)]
 ·rw[if_neg h1,Zf (by omega),hl]
  by_cases h2:k=i
  ·subst h2;rw[if_pos rfl,Zd (by simp;omega)];congr 1;omega
  ·rw[if_neg h2,Zf (by simp;omega),List.getD_eq_getElem?_getD,List.getElem?_drop,List.getD_eq_getElem?_getD];congr 2;simp only[List.length_cons,List.length_nil];omega
end Go.PL
namespace Go.Proofs.Ytmnibpgmcgdfpaa
open Go.PL Go.RowKit
abbrev Zaf (n:Nat) (es:List PV):MemL:=⟨[],[(1000,.vec n 2 53),(1001,.live 1 2 53)],[(1000,es)]⟩
abbrev Zcz (n:Nat) (es:List PV):MemL:=⟨[],(1002,.vec n 2 53):: [(1000,.dead),(1001,.dead)],[(1002,es)]⟩
theorem ZdD {n:Nat} {es:List PV} (hc:∀p∈es,p.ids= []):(Zaf n es).Ok:=
 ⟨by simp,by simp,by simp,by simp,by simp,fun y hy c hc' i hi=>by
  simp only[List.mem_singleton]at hy;subst hy;rw[hc c hc']at hi;cases hi⟩
theorem Zio {n:Nat} {es:List PV} (hc:∀p∈es,p.ids= []):(Zcz n es).Ok:=
 ⟨by simp,by simp,by simp,by simp,by simp,fun y hy c hc' i hi=>by
  simp only[List.mem_singleton]at hy;subst hy;rw[hc c hc']at hi;cases hi⟩
theorem Zd6 (es:List PV) (x:PV) (n i:Nat) (hn:es.length=n) (hi:i≤n) (hn':n≤1000000) (hc:∀p∈es,p.ids= []) (hx:x.ids= []) (hcell:∀p∈es,p.cells.length=2∧p.cells.all PV.atom=true) (hxc:x.cells.length=2∧x.cells.all PV.atom=true):
  Eff Try.prog 68 [.vsl 1000 n 2,.int .i64 i,.sl (.row 1001) [x]] (Zaf n es) (.vsl 1002 (n+1) 2) (Zcz (n+1) (es.take i++x::es.drop i)):=by
 subst hn;have hmem:∀p∈es.take i++x::es.drop i,p∈es∨p=x:=fun p hp=>by
  rcases List.mem_append.1 hp with hp|hp
  ·exact .inl (List.mem_of_mem_take hp)
  ·rcases List.mem_cons.1 hp with rfl|hp
   ·exact .inr rfl
   ·exact .inl (List.mem_of_mem_drop hp)
 have hc':∀p∈es.take i++x::es.drop i,p.ids= []:=fun p hp=>by
  rcases hmem p hp with h|rfl
  ·exact hc p h
  ·exact hx
 refine Eff.rows ⟨_,Try.func68,by decide,rfl⟩ (ZdD hc) (Zio hc') rfl (by simp) (by simp) (fun p hp j hj=> ?_) (by simp;omega) hc' (fun p hp=> ?_) fun B S M w vs hs hlen hrep=> ?_
 ·simp only[List.mem_cons,List.not_mem_nil,or_false]at hp;rcases hp with rfl|rfl|rfl
  ·simp only[PV.ids,List.mem_singleton]at hj;subst hj;exact⟨_,List.mem_cons_self ..,rfl⟩
  ·simp[PV.ids]at hj
  ·simp only[PV.ids,List.mem_singleton]at hj;subst hj;exact⟨_,List.mem_cons_of_mem _ (List.mem_singleton.2 rfl),rfl⟩
 ·rcases hmem p hp with h|rfl
  ·exact hcell p h
  ·exact hxc
 ·have ok0:=ZdD (n:=es.length) hc;obtain⟨v0,v1,v2,rfl⟩:∃v0 v1 v2,vs= [v0,v1,v2]:=by
   match vs,hlen with
   | [a,b,c],_=>exact⟨a,b,c,rfl⟩
  have h0:RepS S M (Zaf es.length es).hp.q v0 (.vsl 1000 es.length 2):=hrep 0 (by simp);have h1:RepS S M (Zaf es.length es).hp.q v1 (.int .i64 i):=hrep 1 (by simp);have h2:RepS S M (Zaf es.length es).hp.q v2 (.sl (.row 1001) [x]):=hrep 2 (by simp);have q0:(Zaf es.length es).hp.q 1000=some (.vec es.length 2 53):=ok0.q_at (x:=(1000,.vec es.length 2 53)) (by simp);have q2:(Zaf es.length es).hp.q 1001=some (.live 1 2 53):=ok0.q_at (x:=(1001,.live 1 2 53)) (by simp);have e0:(Zaf es.length es).hp.v 1000=some es:=ok0.v_at (x:=(1000,es)) (by simp);obtain rfl:=h1.int_inv;obtain⟨xs,o0,_,_,r0,k0⟩:=hs.vec_owns q0 e0 h0 hc;have hrow:=hs.row 1001 _ q2;obtain⟨_,t2⟩:=h2.row_tok 1 2 _ q2;obtain⟨t3,t4⟩:=t2 rfl;obtain⟨cu,hκ⟩:∃cu,M.κ 1001=cu+1:=by
   cases hκ:M.κ 1001 with
   |zero=>have:=hrow.1 hκ;omega
   |succ c=>exact⟨c,rfl⟩
  obtain⟨g2,_,_,⟨cur2,g1,g3⟩,_⟩:=hrow.2 cu hκ;obtain rfl:=t4 cu hκ;have r2:=h2.sl_inv;obtain⟨g,hg⟩:∃g,g=M.ψ 1001:=⟨_,rfl⟩;rw[←hg]at g1 r2 ⊢;obtain⟨y1,y2,s1,s2,ry1,ry2⟩:∃y1 y2,S g 0=some y1∧S g 1=some y2∧Rep S y1 (x.cells.getD 0 .any)∧Rep S y2 (x.cells.getD 1 .any):=by
   generalize hL:([x]:List PV)=L at r2;generalize hl1:(1:Nat)=l1 at r2;cases r2 with
   |sl0 a cap=>cases hL
   |sl b o cap sz es' vals hsz hcap hS hR=>
    subst hL;have hz:sz=2:=by have:=hsz 0 (by simp);rw[←this];exact hxc.1
    subst hz;exact⟨_,_,by simpa using hS 0 0 (by simp) (by decide),by simpa using hS 0 1 (by simp) (by decide),hR 0 0 (by simp) (by decide),hR 0 1 (by simp) (by decide)⟩
  have hxl:xs.length=es.length*2:=o0.1;have w1:w.cell? ⟨g,0,none⟩=some y1:=hs.stable.s.c _ _ _ s1;have w2:w.cell? ⟨g,1,none⟩=some y2:=hs.stable.s.c _ _ _ s2;have c1:cur2[0]? = some y1:=by rw[←Z0 g1];exact w1
  have c2:cur2[1]? = some y2:=by rw[←Z0 g1];exact w2
  have r2:∀j,j<2→Rep S ([y1,y2].getD j undef) (x.cells.getD j .any):=fun j hj=>by
   match j,hj with
   |0,_=>exact ry1
   |1,_=>exact ry2
  have hgl:g<w.heap.size:=(Array.getElem?_eq_some_iff.1 g1).1;have atomx:∀j,j<2→(x.cells.getD j .any).atom=true:=fun j hj=>List.all_eq_true.1 hxc.2 _ (Ze (by rw[hxc.1];exact hj))
  have a1:y1.oneCell'=true:=(RepS.clean (M:=M) (q:=fun _=>none) (r2 0 (by decide))).atom_inv (atomx 0 (by decide));have a2:y2.oneCell'=true:=(RepS.clean (M:=M) (q:=fun _=>none) (r2 1 (by decide))).atom_inv (atomx 1 (by decide));have axs:∀u∈xs,u.oneCell'=true:=fun u hu=>by
   obtain⟨k,hk,rfl⟩:=List.getElem_of_mem hu;have hk2:k / 2<es.length:=by omega
   have hm:es.getD (k / 2) .any∈es:=Ze hk2;have:=r0 (k / 2) (k % 2) hk2 (Nat.mod_lt _ (by decide));rw[show k / 2*2+k % 2=k by omega,Zb hk]at this;exact(RepS.clean (M:=M) (q:=fun _=>none) this).atom_inv (List.all_eq_true.1 (hcell _ hm).2 _ (Ze (by rw[(hcell _ hm).1];exact Nat.mod_lt _ (by decide))))
  have hne:∀k,v0.ownBlock=some k→g≠k:=fun k hk e=>by
   obtain⟨_,_,p1,p2⟩:=k0 k hk;exact hs.injq 1000 1001 _ _ q0 q2 rfl rfl p1 (by omega) (by decide) (by rw[p2,←hg];exact e.symm)
  have hv:∀k,v0.ownBlock=some k→ ¬B k∧(∀o,S k o=none)∧ ∃c,w.heap[k]? = some (.cells c 53 (0,0)):=fun k hk=>by
   obtain⟨b1,b2,_,_⟩:=k0 k hk;obtain⟨_,_,_,b3,_⟩:=Fv o0 hk;exact⟨b1,b2,_,b3⟩
  have hfin:∀i' j,i'<es.length+1→j<2→Rep S ((xs.take (i*2)++ [y1,y2]++xs.drop (i*2)).getD (i'*2+j) undef) (((es.take i++x::es.drop i).getD i' .any).cells.getD j .any):=fun i' j hi' hj=>by
   rw[Zbd (by omega) hj,XV hi]
   by_cases t1:i'<i
   ·rw[if_pos t1,if_pos t1];exact r0 _ _ (by omega) hj
   ·rw[if_neg t1,if_neg t1]
    by_cases t2:i'=i
    ·rw[if_pos t2,if_pos t2];exact r2 j hj
    ·rw[if_neg t2,if_neg t2];exact r0 _ _ (by omega) hj
  have hlen':(xs.take (i*2)++ [y1,y2]++xs.drop (i*2)).length=(es.length+1)*2:=by
   simp only[List.length_append,List.length_take,List.length_drop,List.length_cons,List.length_nil];omega
  by_cases hend:i=es.length
  ·subst hend;have hx2:xs.take (es.length*2)=xs:=List.take_of_length_le (by omega);have hx3:xs.drop (es.length*2)= []:=List.drop_of_length_le (by omega);have done:∀(w':World) (v':Value),w'.ownsRow w.heap.size 53 2 v' (es.length+1) (xs++ [y1,y2])→w.grownBy w' none→ ∃v v'_1 xs',Ending.returned v'=Ending.returned v'_1∧w'.ownsRow 0 53 2 v'_1 (es.length+1) xs'∧Zfj w w' v v'_1∧(∀k,v.ownBlock=some k→ ¬B k∧(∀o,S k o=none)∧ ∃c,w.heap[k]? = some (.cells c 53 (0,0)))∧
     ∀i' j,i'<es.length+1→j<2→Rep S (xs'.getD (i'*2+j) undef) (((es.take es.length++x::es.drop es.length).getD i' .any).cells.getD j .any):=fun w' v' p1 p2=>by
    refine⟨v0,v',_,rfl,⟨hlen',?_⟩,.inl ⟨p2,fun k hk=>(p1.lt k hk).1⟩,hv,hfin⟩;rw[hx2,hx3,List.append_nil];rcases p1.2 with h|⟨g',c',cur',q1,_,q3⟩
    ·exact .inl h
    ·exact .inr ⟨g',c',cur',q1,Nat.zero_le _,q3⟩
   rcases o0.2 with ⟨hv0,hz⟩|⟨b,c,cur,hv0,_,h3,h4,h5,h6,h7⟩
   ·have hv0':v0= .slice none es.length 0:=by rw[hv0,hz]
    rw[hv0'];refine(Xl none es.length 0 xs w g cu y1 y2 (fun _=>⟨hz,rfl⟩) hxl (fun b h=>by cases h) (by omega) (by omega) hn' w1 w2 a1 a2).mono ?_
    rintro en w' ⟨v',rfl,p1,p2⟩
    exact done w' v' p1 p2
   ·rw[hv0]
    by_cases hroom:es.length+1≤c
    ·refine(Ud b es.length c cur.toList w g cu y1 y2 h3 h6 hroom h5 w1 w2 a1 a2).mono ?_
     rintro en w' ⟨rfl,cur',p1,p2,p3,p4⟩
     refine⟨v0,_,_,rfl,⟨hlen',.inr ⟨b,c,⟨cur'⟩,rfl,Nat.zero_le _,p1,hroom,h5,p2,?_⟩⟩,.inr ⟨b,by rw[hv0];rfl,rfl,p4⟩,hv,hfin⟩;rw[hx2,hx3,List.append_nil];show cur'.take _=_;rw[p3,h7]
    ·refine(Xl (some ⟨b,0,none⟩) es.length c xs w g cu y1 y2 (fun h=>by cases h) hxl (fun b' hb' j u hj=> ?_) h4 (by omega) hn' w1 w2 a1 a2).mono ?_
     ·cases hb';rw[ZJ,Z0 h3,Nat.zero_add];rw[←h7,List.getElem?_take]at hj;split at hj
      ·exact hj
      ·cases hj
     ·rintro en w' ⟨v',rfl,p1,p2⟩
      exact done w' v' p1 p2
  ·rcases o0.2 with ⟨hv0,hz⟩|⟨b,c,cur,hv0,_,h3,h4,h5,h6,h7⟩
   ·omega
   ·have hne':=hne b (by rw[hv0];rfl);rw[hv0];have axc:∀u∈cur.toList.take (es.length*2),u.oneCell'=true:=by rw[h7];exact axs
    by_cases hroom:es.length+1≤c
    ·refine(SO b es.length c i cur.toList w g cu cur2 y1 y2 h3 h6 (by omega) hroom h5 hne' g1 c1 c2 a1 a2 axc).mono ?_
     rintro en w' ⟨rfl,cur',p1,p2,p3,p4⟩
     refine⟨v0,_,_,rfl,⟨hlen',.inr ⟨b,c,⟨cur'⟩,rfl,Nat.zero_le _,p1,hroom,h5,p2,?_⟩⟩,.inr ⟨b,by rw[hv0];rfl,rfl,p4⟩,hv,hfin⟩;show cur'.take _=_;rw[p3,h7]
    ·refine(Gy b es.length c i cur.toList w g cu cur2 y1 y2 h3 h6 (by omega) h4 (by omega) hn' g1 c1 c2 a1 a2 axc).mono ?_
     rintro en w' ⟨G,rfl,p0,p5,cur',p1,p2,p3,p4⟩
     refine⟨v0,_,_,rfl,⟨hlen',.inr ⟨w.heap.size,G,⟨cur'⟩,rfl,Nat.zero_le _,p1,p0,p5,p2,?_⟩⟩,.inl ⟨p4,fun k hk=>by cases hk;exact Nat.le_refl _⟩,hv,hfin⟩;show cur'.take _=_;rw[p3,h7]
open Go.PL
theorem ZbN (l:List Str):(Xj l).dids= []:=by simp only[Xj,PV.dids,Vw]
open Go.PL
def YJ (l:List Fd) (rs:List Rw) (i:Nat):Bool:=
 (Z8 (rs.getD i default).item&&(decide (i=0)||Zq (rs.getD (i-1) default).item (rs.getD i default).item))&&Zk (Zi l 1) (rs.getD i default).l
def VA (l:List Fd) (d:Dc):Bool:=Yu l&&(!decide (400<(d.rows.length:Int))&&Zk (Zi l 0) d.head)
def Zl (l:List Fd) (d:Dc):Bool:=VA l d&&(List.range d.rows.length).all (YJ l d.rows)
theorem SH {l:List Fd} (h:Yu l=true):l.length≤16:=by
 simp only[Yu,Bool.and_eq_true,Bool.not_eq_true',decide_eq_false_iff_not]at h;omega
theorem ZH (l:List Fd) (d:Dc) (hl:l.length≤maxLen) (hl':∀f∈l,f.cases'.length≤maxLen) (hd:Vk d):PL.Pure Try.prog 24 [Zj l,doc d] (.bool (Zl l d)):=by
 obtain⟨d1,d2,d3,d4⟩:=hd;have hR:=ZaH l hl hl';cases hr:Yu l
 ·rw[hr]at hR;have hx:Zl l d=false:=by simp only[Zl,VA,hr,Bool.false_and]
  refine ZO Try.func24 rfl Try.ntmps24 Try.results24 ?_;simp only[go_sem,Zj,doc];refine vDq ?_;simp only[go_sem];refine vc2 (hR) ?_;simp only[go_sem,hx]
 ·rw[hr]at hR;have h16:=SH hr;have sl:∀sc,(Zi l sc).length≤maxLen:=fun sc=>Nat.le_trans (List.length_filter_le _ _) hl
  have sc:∀s,∀f∈Zi l s,f.cases'.length≤maxLen:=fun s f hf=>hl' f (List.mem_filter.1 hf).1
  have hS0:=Xe l 0 (by omega);have hS1:=Xe l 1 (by omega)
  by_cases h4:(400:Int)<(d.rows.length:Int)
  ·have hx:Zl l d=false:=by simp only[Zl,VA,h4,decide_true,Bool.not_true,Bool.false_and,Bool.and_false]
   refine ZO Try.func24 rfl Try.ntmps24 Try.results24 ?_;simp only[go_sem,Zj,doc];refine vDq ?_;simp only[go_sem];refine vc2 (hR) ?_;simp only[go_sem,h4,hx]
  ·have hE:=TC (Zi l 0) d.head (sl 0) d1 (sc 0) d3;cases he:Zk (Zi l 0) d.head
   ·rw[he]at hE;have hx:Zl l d=false:=by simp only[Zl,VA,he,Bool.false_and,Bool.and_false]
    refine ZO Try.func24 rfl Try.ntmps24 Try.results24 ?_;simp only[go_sem,Zj,doc];refine vDq ?_;simp only[go_sem];refine vc2 (hR) ?_;simp only[go_sem,h4];refine vc2 (hS0) ?_;simp only[go_sem,Zj];refine vc2 (hE) ?_;simp only[go_sem,hx]
   ·rw[he]at hE;have hx:Zl l d=(List.range d.rows.length).all (YJ l d.rows):=by simp only[Zl,VA,hr,h4,he,decide_false,Bool.not_false,Bool.and_self,Bool.true_and]
    rw[hx];refine ZO Try.func24 rfl Try.ntmps24 Try.results24 ?_;simp only[go_sem,Zj,doc];refine vDq ?_;simp only[go_sem];refine vc2 (hR) ?_;simp only[go_sem,h4];refine vc2 (hS0) ?_;simp only[go_sem,Zj];refine vc2 (hE) ?_;simp only[go_sem];refine vc2 (hS1) ?_;simp only[go_sem];refine ZK (ι:= { k:Nat // k≤d.rows.length∧ ∀j,j<k→YJ l d.rows j=true }) 73 (fun x=> [(3,.ptr 3 0),(5,Zj (Zi l 1)),(6,.int .i64 (x.1:Int))]) (fun x=> [(3,[.sl .no (d.head.map ent),.sl .no (d.rows.map row)],false)]) (fun x=> []) (fun x=>d.rows.length-x.1) ⟨0,by omega,fun j hj=>by omega⟩
     ⟨rfl,(Fc3 rfl rfl rfl),fcs ⟨rfl,rfl⟩ fnl,fnl⟩ (fun x=>⟨(Fc3 rfl rfl rfl),(fcs rfl fnl)⟩) (fun x=> ?_)
    obtain⟨k,hk,hall⟩:=x;simp only
    by_cases h:(k:Int)<(d.rows.length:Int)
    ·have hka:k<d.rows.length:=by omega
     have w1:=Wp hka d2;have i1:(0:Int)≤(k:Int):=by omega
     have hN:=XG (d.rows.getD k default).item;have rk:=d4 _ (Zg (d:=default) hka);have hE1:=TC (Zi l 1) (d.rows.getD k default).l (sl 1) rk.1 (sc 1) rk.2;cases hn:Z8 (d.rows.getD k default).item
     ·rw[hn]at hN;have hz:=ZX (p:=YJ l d.rows) hka (by simp only[YJ,hn,Bool.false_and]);simp only[go_sem,h];refine vDq ?_;simp only[go_sem,ZC hka,row,h,i1];refine vc1 (hN) ?_;simp only[go_sem,hz]
     ·rw[hn]at hN
      by_cases h0:0<(k:Int)
      ·have hk1:k-1<d.rows.length:=by omega
       have w2:IntKind.i64.wrap ((k:Int)-1)=((k-1:Nat):Int):=by
        rw[Zh]at d2;rw[w64 (by omega)];omega
       have j1:(0:Int)≤((k-1:Nat):Int):=by omega
       have j2:((k-1:Nat):Int)<(d.rows.length:Int):=by omega
       cases hb:Zq (d.rows.getD (k-1) default).item (d.rows.getD k default).item
       ·have hz:=ZX (p:=YJ l d.rows) hka (by simp only[YJ,hb,decide_eq_false (show ¬k=0 by omega),Bool.or_self,Bool.and_false,Bool.false_and]);simp only[go_sem,h];refine vDq ?_;simp only[go_sem,ZC hka,row,h,i1];refine vc1 (hN) ?_;simp only[go_sem,h0,w2,ZC hk1,ZC hka,row,h,i1,j1,j2,hb,hz]
       ·cases hf:Zk (Zi l 1) (d.rows.getD k default).l
        ·rw[hf]at hE1;have hz:=ZX (p:=YJ l d.rows) hka (by simp only[YJ,hf,Bool.and_false]);simp only[go_sem,h];refine vDq ?_;simp only[go_sem,ZC hka,row,h,i1];refine vc1 (hN) ?_;simp only[go_sem,h0,w2,ZC hk1,ZC hka,row,h,i1,j1,j2,hb,Zj];refine vc2 (hE1) ?_;simp only[go_sem,hz]
        ·rw[hf]at hE1;have ok:YJ l d.rows k=true:=by simp only[YJ,hn,hb,hf,Bool.or_true,Bool.and_self]
         simp only[go_sem,h];refine vDq ?_;simp only[go_sem,ZC hka,row,h,i1];refine vc1 (hN) ?_;simp only[go_sem,h0,w2,ZC hk1,ZC hka,row,h,i1,j1,j2,hb,Zj];refine vc2 (hE1) ?_;simp only[go_sem,w1];exact⟨⟨k+1,by omega,Zn hall ok⟩,by show d.rows.length-(k+1)<d.rows.length-k;omega,⟨rfl,(Fc3 rfl rfl rfl),fcs ⟨rfl,rfl⟩ fnl,fnl⟩⟩
      ·cases hf:Zk (Zi l 1) (d.rows.getD k default).l
       ·rw[hf]at hE1;have hz:=ZX (p:=YJ l d.rows) hka (by simp only[YJ,hf,Bool.and_false]);simp only[go_sem,h];refine vDq ?_;simp only[go_sem,ZC hka,row,h,i1];refine vc1 (hN) ?_;simp only[go_sem,h0,ZC hka,row,h,i1,Zj];refine vc2 (hE1) ?_;simp only[go_sem,hz]
       ·rw[hf]at hE1;have ok:YJ l d.rows k=true:=by simp only[YJ,hn,hf,decide_eq_true (show k=0 by omega),Bool.true_or,Bool.and_self]
        simp only[go_sem,h];refine vDq ?_;simp only[go_sem,ZC hka,row,h,i1];refine vc1 (hN) ?_;simp only[go_sem,h0,ZC hka,row,h,i1,Zj];refine vc2 (hE1) ?_;simp only[go_sem,w1];exact⟨⟨k+1,by omega,Zn hall ok⟩,by show d.rows.length-(k+1)<d.rows.length-k;omega,⟨rfl,(Fc3 rfl rfl rfl),fcs ⟨rfl,rfl⟩ fnl,fnl⟩⟩
    ·have hz:=WR (p:=YJ l d.rows) (n:=d.rows.length) (fun j hj=>hall j (by omega));simp only[go_sem,h,hz]
open Go.PL
theorem UF (l:List Fd) (sc:Int) (hl:l.length≤100000) (hc:∀f∈l,f.cases'.length≤1000000):PL.Pure Try.prog 55 [Zj l,.int .i64 sc] (Zj (Zi l sc)):=by
 have hm:l.length≤maxLen:=by rw[Zh];omega
 refine YX Try.func55 rfl Try.ntmps55 Try.results55 (G0 _) ?_;simp only[go_sem,Zj];refine Vr 5 23 7 76 rfl rfl ?_;refine ZK (ι:= { x:Nat×(List Fd) // x.1≤(l).length∧(x.2=Zi (l.take x.1) sc) }) 26 (fun x=> [(1,.int .i64 sc),(5,.sl (.row 23) (x.1.2.map fld)),(8,Zj l),(9,.int .i64 (l.length:Int)),(10,.int .i64 (x.1.1:Int))]) (fun x=> []) (fun x=> [(23,.live (x.1.2.length) (7) (76))]) (fun x=>(l).length-x.1.1) ⟨(0,[]),Nat.zero_le _,rfl⟩ ⟨rfl,(Fc5 rfl rfl rfl rfl rfl),fnl,(fcs rfl fnl)⟩ (fun x=>⟨(Fc5 rfl (by simp[PV.ids,ZV]) rfl rfl rfl),fnl⟩) (fun x=> ?_);obtain⟨⟨k,acc⟩,hk,hI⟩:=x;simp only at hk hI ⊢;have hacc:acc.length≤l.length:=by
  rw[hI];exact Nat.le_trans (List.length_filter_le _ _) (DA _ _)
 by_cases h:(k:Int)<(l.length:Int)
 ·(have hka:k<(l).length:=by omega);(have w1:=Wp hka (hm));(have i1:(0:Int)≤(k:Int):=by omega)
  have hr:=XC (show acc.length+1≤1000000 by omega) (show 96≤1000 by omega);have hO:=ZaD (l.getD k default) (hc _ (Zg hka));cases he:((l.getD k default).at'.sc==sc)
  ·have hs:Zi (l.take (k+1)) sc=Zi (l.take k) sc:=by
    rw[ZW hka (d:=default)];simp only[Zi,List.filter_append,List.filter_cons,he,Bool.false_eq_true,if_false,List.filter_nil,List.append_nil]
   simp only[go_sem,Zj,h,Zy hka,fld,i1,he,w1];exact⟨⟨(k+1,acc),by(try simp only);omega,by simp only;rw[hs,hI]⟩,by show(l).length-(k+1)<(l).length-k;omega,⟨rfl,(Fc5 rfl (by simp[upd,fld]) rfl rfl rfl),fnl,(fcs (by simp[upd]) fnl)⟩⟩
  ·have hs:Zi (l.take (k+1)) sc=Zi (l.take k) sc++ [l.getD k default]:=by
    rw[ZW hka (d:=default)];simp only[Zi,List.filter_append,List.filter_cons,he,if_true,List.filter_nil]
   simp only[go_sem,Zj,h,Zy hka,fld,i1,he];refine vc2 (hO) ?_;simp only[go_sem,fld,ZbD,hr,w1];exact⟨⟨(k+1,acc++ [l.getD k default]),by(try simp only);omega,by simp only;rw[hs,hI]⟩,by show(l).length-(k+1)<(l).length-k;omega,⟨rfl,(Fc5 rfl (by simp[upd,fld]) rfl rfl rfl),fnl,(fcs (by simp[upd]) fnl)⟩⟩
 ·obtain rfl:k=l.length:=by omega
  rw[List.take_length]at hI;subst hI;simp only[go_sem,h,Zj]
def atF (r:Rf):Fd→Bool:=fun x=>decide (x.at'=r)
def Z3 (l:List Fd) (r:Rf):Fd×Int:=if idx (atF r) l<0 then(default,6)else(l.getD (idx (atF r) l).toNat default,0)
def Zjd (x:Fd×Int):PV:= .tup [fld x.1,.int .i64 x.2]
theorem Zba (x:Fd×Int):(Zjd x).dids= []:=by simp only[Zjd,PV.dids,PV.didsL,Zdu,List.append_nil]
theorem Zcu:fld default= .agg [.int .i64 0,.str [],.str [],.int .i64 0,.str [],.sl .no [],.int .i64 0]:=rfl
theorem Sk (l:List Fd) (r:Rf) (hl:l.length≤100000) (hc:∀f∈l,f.cases'.length≤1000000):PL.Pure Try.prog 72 [Zj l,ref r] (Zjd (Z3 l r)):=by
 have hm:l.length≤maxLen:=by rw[Zh];omega
 have hI:PL.Pure Try.prog 107 [Zj l,ref r] (.int .i64 (idx (atF r) l)):=Zd5 l r hm;unfold Z3;rcases ZN (atF r) l with h2|⟨k,hk,h2⟩
 ·rw[h2]at hI ⊢;refine YX Try.func72 rfl Try.ntmps72 Try.results72 (Zba _) ?_;simp only[go_sem,Zj,ref];refine vc2 (hI) ?_;simp only[go_sem,Zjd,Zcu]
 ·have i1:(0:Int)≤(k:Int):=by omega
  have i2:(k:Int)<(l.length:Int):=by omega
  have i3:¬(k:Int)<0:=by omega
  have hO:=ZaD (l.getD k default) (hc _ (Zg hk));rw[h2]at hI;rw[h2,if_neg i3];refine YX Try.func72 rfl Try.ntmps72 Try.results72 (Zba _) ?_;simp only[go_sem,Zj,ref];refine vc2 (hI) ?_;simp only[go_sem,i1,i2,i3,Zy hk,fld];refine vc2 (hO) ?_;simp only[go_sem,Zjd,fld]
theorem Zca (l:List Fd) (hl:l.length≤maxLen) (hl':∀f∈l,f.cases'.length≤maxLen):PL.Pure Try.prog 53 [Zj l] (.bool (Yu l)):=by
 by_cases h16:16<(l.length:Int)
 ·refine ZO Try.func53 rfl Try.ntmps53 Try.results53 ?_;simp only[go_sem,Zj,h16,Yu,Bool.false_and]
 ·have hx:Yu l=(List.range l.length).all (Wi l):=by simp only[Yu,h16,decide_false,Bool.not_false,Bool.true_and]
  rw[hx];refine ZO Try.func53 rfl Try.ntmps53 Try.results53 ?_;simp only[go_sem,Zj,h16];refine ZK (ι:= { x:Nat // x≤(l).length∧(∀j,j<x→Wi l j=true) }) 33 (fun x=> [(0,Zj l),(8,Zj l),(9,.int .i64 (l.length:Int)),(10,.int .i64 (x.1:Int))]) (fun x=> []) (fun x=> []) (fun x=>(l).length-x.1) ⟨0,Nat.zero_le _,fun j hj=>absurd hj (Nat.not_lt_zero j)⟩ ⟨rfl,(Fc4 rfl rfl rfl rfl),fnl,fnl⟩ (fun x=>⟨(Fc4 rfl rfl rfl rfl),fnl⟩) (fun x=> ?_);obtain⟨k,hk,hI⟩:=x;simp only at hk hI ⊢
  by_cases h:(k:Int)<(l.length:Int)
  ·(have hka:k<(l).length:=by omega);(have w1:=Wp hka (hl));(have i1:(0:Int)≤(k:Int):=by omega)
   have hR:=Si (l.getD k default) (hl' _ (Zg hka));cases hr:Yy (l.getD k default)
   ·rw[hr]at hR;have hz:=ZX (p:=Wi l) hka (by simp only[Wi,hr,Bool.false_and]);simp only[go_sem,Zj,h,Zy hka,fld,i1];refine vc2 (hR) ?_;simp only[go_sem,hz]
   ·rw[hr]at hR
    by_cases h0:0<(k:Int)
    ·have hk1:k-1<l.length:=by omega
     have w2:IntKind.i64.wrap ((k:Int)-1)=((k-1:Nat):Int):=by
      rw[Zh]at hl;rw[w64 (by omega)];omega
     have j1:(0:Int)≤((k-1:Nat):Int):=by omega
     have j2:((k-1:Nat):Int)<(l.length:Int):=by omega
     have hL:=Zfk (l.getD (k-1) default).at' (l.getD k default).at';cases hb:Ub (l.getD (k-1) default).at' (l.getD k default).at'
     ·rw[hb]at hL;have hz:=ZX (p:=Wi l) hka (by simp only[Wi,hb,decide_eq_false (show ¬k=0 by omega),Bool.or_self,Bool.and_false]);simp only[go_sem,Zj,h,Zy hka,fld,i1];refine vc2 (hR) ?_;simp only[go_sem];refine vDq ?_;simp only[go_sem,h0,w2,Zy hk1,Zy hka,fld,h,i1,j1,j2];refine vc1 (hL) ?_;simp only[go_sem,hz]
     ·rw[hb]at hL;have ok:Wi l k=true:=by simp only[Wi,hr,hb,Bool.or_true,Bool.and_self]
      simp only[go_sem,Zj,h,Zy hka,fld,i1];refine vc2 (hR) ?_;simp only[go_sem];refine vDq ?_;simp only[go_sem,h0,w2,Zy hk1,Zy hka,fld,h,i1,j1,j2];refine vc1 (hL) ?_;simp only[go_sem,w1];exact⟨⟨k+1,by(try simp only);omega,Zn hI ok⟩,by show(l).length-(k+1)<(l).length-k;omega,⟨rfl,(Fc4 rfl rfl rfl rfl),fnl,fnl⟩⟩
    ·have ok:Wi l k=true:=by simp only[Wi,hr,decide_eq_true (show k=0 by omega),Bool.true_or,Bool.and_self]
     simp only[go_sem,Zj,h,Zy hka,fld,i1];refine vc2 (hR) ?_;simp only[go_sem];refine vDq ?_;simp only[go_sem,h0,w1];exact⟨⟨k+1,by(try simp only);omega,Zn hI ok⟩,by show(l).length-(k+1)<(l).length-k;omega,⟨rfl,(Fc4 rfl rfl rfl rfl),fnl,fnl⟩⟩
  ·have hz:=WR (p:=Wi l) (n:=l.length) (fun j hj=>hI j (by omega));simp only[go_sem,Zj,h,hz]
def ZdX (l:List Fd) (r:Rf):List Fd×Int:=if Yu l=false then([],5)else if idx (atF r) l<0 then([],6)else(l.eraseIdx (idx (atF r) l).toNat,0)
open Go.PL
def Zlv (r:Rf):Fd→Bool:=fun f=>Ub f.at' r
def Zmw (l:List Fd) (f:Fd):List Fd:=l.takeWhile (Zlv f.at')++f::l.dropWhile (Zlv f.at')
def Zmr (l:List Fd) (f:Fd):List Fd×Int:=if Yu l=false∨Yy f=false then([],5)else if 0≤idx (atF f.at') l then([],7)else if 16≤(l.length:Int)then([],14)else(Zmw l f,0)
structure WA (l:List Fd) (f:Fd) where
 k:Nat
 acc:List Fd
 hk:k≤l.length
 h:acc++Zmw (l.drop k) f=Zmw l f
structure WB (l:List Fd) (f:Fd) where
 k:Nat
 acc:List Fd
 hk:k≤l.length
 h:acc++l.drop k=Zmw l f
def ZfS (f:Fd):List PV:= [.int .i64 f.at'.sc,.str f.at'.gr,.str f.at'.nm,.int .i64 f.kind,.str f.df,.sl .no (f.cases'.map .str),.int .i64 f.worth]
open Go.PL
def Up (r:Rf) (s:Str):Rf:=⟨r.sc,r.gr,s⟩
def ZeD (x:Ln):List Rf:=if x.kind=2 then []else if x.kind=3 then [x.fd.at']else if x.kind=9 then [Up x.at' x.nm,Up x.at' x.ot]else [x.at']
def ZaX (x:Ln):List Rf:=
 if x.kind=1 then [Up x.at' x.nm]else if x.kind=2 then [x.fd.at']else if x.kind=3 then []else if x.kind=4 then [⟨x.at'.sc,[],x.at'.nm⟩]
 else if x.kind=5 then [⟨x.at'.sc,x.nm,x.at'.nm⟩]else if x.kind=6 then [Up x.at' x.nm,Up x.at' x.ot]else [x.at']
theorem ob {x y:Int}:((x==y)=true)↔x=y:=beq_iff_eq
structure OkFs (l:List Fd):Prop where
 n:l.length≤1000
 c:∀f∈l,f.cases'.length≤1000000
def Zj4 (l:List Fd) (x:Ln):List Fd×Bool:=
 if(Z3 l (Up x.at' x.nm)).2≠0∨(Z3 l (Up x.at' x.nm)).1.kind≠1 then([],false)
 else if(Z3 l (Up x.at' x.ot)).2≠0∨(Z3 l (Up x.at' x.ot)).1.kind≠1∨(Z3 l (Up x.at' x.ot)).1.worth≠IntKind.i64.wrap ((Z3 l (Up x.at' x.nm)).1.worth*x.fac)then([],false)
 else([⟨x.at',1,[],[],(Z3 l (Up x.at' x.nm)).1.worth⟩],true)
open Go.PL
def Znj (l:List Fd) (x:Ln):List Fd×Bool:=
 if x.kind=2 then([x.fd],true)
 else if x.kind=3 then([],decide ((Z3 l x.fd.at').2=0)&&decide ((Z3 l x.fd.at').1=x.fd))
 else if x.kind=9 then Zj4 l x
 else if(Z3 l x.at').2≠0 then([],false)
 else if x.kind=6 then([⟨Up x.at' x.nm,1,[],[],(Z3 l x.at').1.worth⟩,⟨Up x.at' x.ot,1,[],[],IntKind.i64.wrap ((Z3 l x.at').1.worth*x.fac)⟩],decide ((Z3 l x.at').1.kind=1))
 else if x.kind=7 then([⟨x.at',4,[],[],0⟩],decide ((Z3 l x.at').1.kind=2)&&decide ((Z3 l x.at').1.df=x.ot))
 else if x.kind=10 then([⟨x.at',2,x.ot,[],0⟩],decide ((Z3 l x.at').1.kind=4))
 else if x.kind=8 then([⟨x.at',3,x.ot,Zjf x.ba,0⟩],decide ((Z3 l x.at').1=⟨x.at',3,x.nm,Zjf x.fo,0⟩))
 else([⟨(ZaX x).getD 0 default,(Z3 l x.at').1.kind,(Z3 l x.at').1.df,(Z3 l x.at').1.cases',(Z3 l x.at').1.worth⟩],true)
open Go.PL
def Zln:List Rf→List Fd→Option (List Fd)
 | [],l=>some l
 |r::rs,l=>if(ZdX l r).2≠0 then none else Zln rs (ZdX l r).1
def ZfF:List Fd→List Fd→Option (List Fd)
 | [],l=>some l
 |f::fs,l=>if(Zmr l f).2≠0 then none else ZfF fs (Zmr l f).1
def Zle (l:List Fd) (x:Ln):Option (List Fd):=if(Znj l x).2=false then none else(Zln (ZeD x) l).bind (ZfF (Znj l x).1)
def ZaL (l:List Fd) (x:Ln):List Fd×Int:=
 if Yu l=false∨Zam x=false then([],5)else match Zle l x with|none=>([],16)|some m=>(m,0)
open Go.PL
def ZlF (fo ba:List Pr) (p:Pr):Bool:=(F5 fo p.fr').2&&((F5 ba (F5 fo p.fr').1).2&&((F5 ba (F5 fo p.fr').1).1==p.fr'))
def ZlE (fo ba:List Pr):Bool:=fo.all (ZlF fo ba)
def ZmP (x:Ln) (r:Rf):Bool:=
 if Zam x=false then false else if idx (fun a=>decide (r=a)) (ZeD x)<0 then true
 else if x.kind=1∨x.kind=4∨x.kind=5∨x.kind=6∨x.kind=7∨x.kind=10 then true
 else if x.kind=9 then idx (fun a=>decide (r=a)) (ZeD x)==0
 else if x.kind=8 then ZlE x.fo x.ba else false
def Zjr (x:Ln) (r:Rf):Rf×Bool:=
 if Zam x=false then(default,false)else if((ZeD x).any fun a=>decide (r=a))=false then(r,true)
 else if(ZaX x).length=0 then(default,false)else((ZaX x).getD 0 default,true)
open Go.PL
structure Opn where
 id:Tg
 sch:Tg
 time:Int
 cart:Str
 kind:Int
 item:Str
 at':Rf
 delta:Int
 has:Bool
 text:Str
 drops:List Tg
 deriving DecidableEq,Inhabited
def opv (o:Opn):PV:= .agg [.int .i64 o.id.r,.int .i64 o.id.n,.int .i64 o.sch.r,.int .i64 o.sch.n,.int .i64 o.time,.str o.cart,.int .i64 o.kind,.str o.item,.int .i64 o.at'.sc,.str o.at'.gr,.str o.at'.nm,.int .i64 o.delta,.bool o.has,.str o.text,.sl .no (o.drops.map tg)]
open Go.PL
open Go.PL
open Go.PL
theorem YD:∀(a:Str),Zq a a=false
 | []=>rfl
 |x::a=>by
  have:=YD a;unfold Zq at *;simp[Op.bytesLess,this]
theorem W5:∀ {a b c:Str},Zq a b=true→Zq b c=true→Zq a c=true
 | [],[],_,h,_=>by simp[Zq,Op.bytesLess]at h
 | [],_::_,[],_,h=>by simp[Zq,Op.bytesLess]at h
 | [],_::_,_::_,_,_=>by simp[Zq,Op.bytesLess]
 |_::_,[],_,h,_=>by simp[Zq,Op.bytesLess]at h
 |_::_,_::_,[],_,h=>by simp[Zq,Op.bytesLess]at h
 |x::a,y::b,z::c,h1,h2=>by
  have ih:=W5 (a:=a) (b:=b) (c:=c);unfold Zq at *;simp only[Op.bytesLess,Bool.or_eq_true,decide_eq_true_eq,Bool.and_eq_true,beq_iff_eq]at *;rcases h1 with h1|⟨rfl,h1⟩
  ·rcases h2 with h2|⟨rfl,h2⟩
   ·exact .inl (UInt8.lt_trans h1 h2)
   ·exact .inl h1
  ·rcases h2 with h2|⟨rfl,h2⟩
   ·exact .inl h2
   ·exact .inr ⟨rfl,ih h1 h2⟩
theorem TJ:∀(a b:Str),Zq a b=true∨a=b∨Zq b a=true
 | [],[]=> .inr (.inl rfl)
 | [],_::_=> .inl (by simp[Zq,Op.bytesLess])
 |_::_,[]=> .inr (.inr (by simp[Zq,Op.bytesLess]))
 |x::a,y::b=>by
  have ih:=TJ a b;unfold Zq at *;simp only[Op.bytesLess,Bool.or_eq_true,decide_eq_true_eq,Bool.and_eq_true,beq_iff_eq]at *;rcases Nat.lt_trichotomy x.toNat y.toNat with h|h|h
  ·exact .inl (.inl h)
  ·have e:x=y:=UInt8.toNat_inj.1 h;subst e;rcases ih with ih|rfl|ih
   ·exact .inl (.inr ⟨rfl,ih⟩)
   ·exact .inr (.inl rfl)
   ·exact .inr (.inr (.inr ⟨rfl,ih⟩))
  ·exact .inr (.inr (.inl h))
theorem G9 (a:Rf):Ub a a=false:=by simp[Ub,YD]
theorem Zis {a b c:Rf} (h1:Ub a b=true) (h2:Ub b c=true):Ub a c=true:=by
 unfold Ub at *
 by_cases e1:a.sc=b.sc
 ·by_cases e2:b.sc=c.sc
  ·simp only[e1,e2,ne_eq,not_true_eq_false,if_false]at *
   by_cases g1:a.gr=b.gr
   ·by_cases g2:b.gr=c.gr
    ·simp only[g1,g2,not_true_eq_false,if_false]at *;exact W5 h1 h2
    ·simp only[g1,g2,not_true_eq_false,not_false_eq_true,if_false,if_true]at *;exact h2
   ·by_cases g2:b.gr=c.gr
    ·rw[←g2];simp only[g1,not_false_eq_true,if_true]at *;exact h1
    ·simp only[g1,g2,not_false_eq_true,if_true]at *;have:=W5 h1 h2;have hn:¬a.gr=c.gr:=fun e=>by rw[e,YD]at this;cases this
     simp only[hn,not_false_eq_true,if_true];exact this
  ·simp only[e1,e2,ne_eq,not_false_eq_true,if_true]at *;exact h2
 ·by_cases e2:b.sc=c.sc
  ·rw[←e2];simp only[e1,ne_eq,not_false_eq_true,if_true]at *;exact h1
  ·simp only[e1,e2,ne_eq,not_false_eq_true,if_true,decide_eq_true_eq]at *;have hn:¬a.sc=c.sc:=by omega
   simp only[hn,not_false_eq_true,if_true,decide_eq_true_eq];omega
def ZkR (l:List Fd):Prop:=l.Pairwise fun a b=>Ub a.at' b.at'=true
theorem T4:∀ {l:List Fd},(∀i,i<l.length→i=0∨Ub (l.getD (i-1) default).at' (l.getD i default).at'=true)→ZkR l
 | [],_=>List.Pairwise.nil
 | [a],_=>List.pairwise_singleton _ _
 |a::b::l,h=>by
  have ih:ZkR (b::l):=T4 fun i hi=>by
   cases i with
   |zero=>exact .inl rfl
   |succ i=>
    have:=h (i+2) (by simp at hi ⊢;omega);right;simpa using this
  have hab:Ub a.at' b.at'=true:=by simpa using h 1 (by simp)
  refine List.pairwise_cons.2 ⟨fun x hx=> ?_,ih⟩;rcases List.mem_cons.1 hx with rfl|hx
  ·exact hab
  ·exact Zis hab ((List.pairwise_cons.1 ih).1 x hx)
theorem Zar {l:List Fd} (h:ZkR l):∀i,i<l.length→i=0∨Ub (l.getD (i-1) default).at' (l.getD i default).at'=true:=fun i hi=>by
 by_cases h0:i=0
 ·exact .inl h0
 ·right;rw[Zb (by omega),Zb hi];exact List.pairwise_iff_getElem.1 h (i-1) i (by omega) hi (by omega)
theorem T3 {l:List Fd}:Yu l=true↔l.length≤16∧ZkR l∧ ∀f∈l,Yy f=true:=by
 unfold Yu;simp only[Bool.and_eq_true,Bool.not_eq_true',decide_eq_false_iff_not,List.all_eq_true,List.mem_range,Wi,Bool.or_eq_true,decide_eq_true_eq];constructor
 ·rintro ⟨h1,h2⟩
  refine⟨by omega,T4 fun i hi=>(h2 i hi).2,fun f hf=> ?_⟩;obtain⟨i,hi,rfl⟩:=List.getElem_of_mem hf;have:=(h2 i hi).1;rwa[Zb hi]at this
 ·rintro ⟨h1,h2,h3⟩
  exact⟨by omega,fun i hi=>⟨h3 _ (Ze hi),Zar h2 i hi⟩⟩
theorem Zke {l:List Fd} (h:ZkR l) {f g:Fd} (hf:f∈l) (hg:g∈l) (e:f.at'=g.at'):f=g:=by
 obtain⟨i,hi,rfl⟩:=List.getElem_of_mem hf;obtain⟨j,hj,rfl⟩:=List.getElem_of_mem hg;rcases Nat.lt_trichotomy i j with h1|h1|h1
 ·have:=List.pairwise_iff_getElem.1 h i j hi hj h1;rw[e,G9]at this;cases this
 ·subst h1;rfl
 ·have:=List.pairwise_iff_getElem.1 h j i hj hi h1;rw[e,G9]at this;cases this
open Go.PL
open Go.PL
def ZfT (m:List Eg) (id:Tg):Option Eg:=m.find? fun e=>decide (id=e.id)
theorem Zij {m:List Eg} {id:Tg} {e:Eg} (h:ZfT m id=some e):id=e.id∧e∈m:=by
 unfold ZfT at h;exact⟨by simpa using List.find?_some h,List.mem_of_find?_eq_some h⟩
inductive Way (m:List Eg):Tg→List Eg→Prop
 |root:Way m default []
 |step {id:Tg} {e:Eg} {w:List Eg} (hn:id≠default) (he:ZfT m id=some e) (hw:Way m e.par w):Way m id (w++ [e])
theorem Way.fn {m:List Eg} {id:Tg} {w w':List Eg} (h:Way m id w) (h':Way m id w'):w=w':=by
 induction h generalizing w' with
 |root=>cases h' with
  |root=>rfl
  |step hn he hw=>exact absurd rfl hn
 |step hn he hw ih=>
  cases h' with
  |root=>exact absurd rfl hn
  |step hn' he' hw'=>
   rw[he]at he';cases he';rw[ih hw']
theorem Way.take {m:List Eg} {id:Tg} {w:List Eg} (h:Way m id w):∀k (hk:k<w.length),Way m (w[k]).id (w.take (k+1)):=by
 induction h with
 |root=>intro k hk;simp at hk
 |step hn he hw ih=>
  rename_i id e w;intro k hk
  by_cases hlt:k<w.length
  ·rw[List.getElem_append_left hlt,List.take_append_of_le_length (by omega)];exact ih k hlt
  ·have hk':k=w.length:=by simp at hk;omega
   subst hk';have e1:(w++ [e])[w.length]'hk=e:=by simp
   rw[e1,List.take_of_length_le (by simp)];have:=(Zij he).1;rw[←this];exact .step hn he hw
structure Apart (m:List Eg):Prop where
 d:(m.map (·.id)).Nodup
 n:∀e∈m,e.id≠default
theorem Apart.find {m:List Eg} (h:Apart m) {e:Eg} (he:e∈m):ZfT m e.id=some e:=by
 obtain⟨l1,l2,rfl⟩:=List.append_of_mem he;have hd:=h.d;simp only[List.map_append,List.map_cons]at hd;unfold ZfT;rw[List.find?_append];have hno:l1.find? (fun x=>decide (e.id=x.id))=none:=by
  rw[List.find?_eq_none];intro x hx hh;have hx':x.id∈l1.map (·.id):=List.mem_map.2 ⟨x,hx,rfl⟩;have:=(List.nodup_append.1 hd).2.2 _ hx' e.id (by simp);exact this (by simpa using Eq.symm (by simpa using hh))
 rw[hno];simp
open Go.PL
def ZmO (e:Eg):Bool:=Znn e.id&&((decide (e.par=default)||(Znn e.par&& !decide (e.par=e.id)))&&(decide (1≤e.ln.kind)&&(decide (e.ln.kind≤8)&&Zam e.ln)))
open Go.PL
structure LenLn (x:Ln):Prop where
 c:x.fd.cases'.length≤maxLen
 f:x.fo.length≤maxLen
 b:x.ba.length≤maxLen
open Go.PL
structure OkM (m:List Eg):Prop where
 a:Apart m
 l:∀e∈m,OkLn e.ln
 n:m.length≤40
open Go.PL
structure RightM (m:List Eg):Prop where
 r:∀e∈m,ZmO e=true
open Go.PL
structure OkOp (o:Opn):Prop where
 d:o.drops.length≤1000000
open Go.PL
structure ChT where
 l:List Fd
 n:Nat
 c:Int
def ZfE:List Fd→List Ln→Nat→ChT
 |fs,[],i=>⟨fs,i,0⟩
 |fs,x::xs,i=>if(ZaL fs x).2≠0 then⟨[],i,(ZaL fs x).2⟩else ZfE (ZaL fs x).1 xs (i+1)
structure ChS (l:List Fd) (row:List Ln) where
 k:Nat
 fs:List Fd
 hk:k≤row.length
 ok:OkFs fs
 h:ZfE fs (row.drop k) k=ZfE l row 0
open Go.PL
theorem ZcN {f:Fd} (h:Yy f=true):f.kind=1∨f.kind=2∨f.kind=3∨f.kind=4:=by
 simp only[Yy,Bool.and_eq_true]at h;have h:=h.2
 by_cases k1:f.kind=1
 ·exact .inl k1
 ·rw[if_neg k1]at h
  by_cases k3:f.kind=3
  ·exact .inr (.inr (.inl k3))
  ·simp only[if_neg k3,Bool.and_eq_true]at h;have h:=h.2;simp[ZeW]at h;omega
theorem Zd4 (f:Fd) (s:Str) (hf:f.cases'.length≤maxLen):PL.Pure Try.prog 128 [fld f,.str s] (.bool (Ua f s)):=by
 have hR:=Si f hf;have hT:=ZaI s;have hC:=Th f.cases' s hf;unfold Ua;cases hr:Yy f
 ·rw[hr]at hR;refine ZO Try.func128 rfl Try.ntmps128 Try.results128 ?_;simp only[go_sem,fld];refine vc2 (hR) ?_;simp only[go_sem,Bool.false_and]
 ·have hk:=ZcN hr;rw[hr]at hR;have e41:decide ((s.length:Int)≤40)=decide ((s.length:Int)<41):=by rw[Bool.eq_iff_iff];simp;omega
  rw[e41]at hT;obtain⟨a,kind,d,c,w⟩:=f;simp only at hk hR hT hC ⊢;rcases hk with rfl|rfl|rfl|rfl
  ·refine ZO Try.func128 rfl Try.ntmps128 Try.results128 ?_;simp only[go_sem,fld];refine vc2 (hR) ?_;simp only[go_sem];rfl
  ·refine ZO Try.func128 rfl Try.ntmps128 Try.results128 ?_;simp only[go_sem,fld];refine vc2 (hR) ?_;simp only[go_sem];refine vc1 (hT) ?_;simp only[go_sem];simp
  ·refine ZO Try.func128 rfl Try.ntmps128 Try.results128 ?_;simp only[go_sem,fld];refine vc2 (hR) ?_;simp only[go_sem];refine vc1 (hC) ?_;simp only[go_sem];simp
  ·refine ZO Try.func128 rfl Try.ntmps128 Try.results128 ?_;simp only[go_sem,fld];refine vc2 (hR) ?_;simp only[go_sem];refine vc1 (hT) ?_;simp only[go_sem];simp
open Go.PL
theorem Zcs (f:Fd) (l:List Str) (hf:f.cases'.length≤maxLen) (hl:l.length≤maxLen):PL.Pure Try.prog 108 [fld f,Xj l] (.bool (l.all (Ua f))):=by
 refine ZO Try.func108 rfl Try.ntmps108 Try.results108 ?_;simp only[go_sem,fld,Xj];refine ZK (ι:= { x:Nat // x≤(l).length∧(∀j,j<x→Ua f (l.getD j [])=true) }) 18 (fun x=> [(2,.ptr 2 0),(7,Xj l),(8,.int .i64 (l.length:Int)),(9,.int .i64 (x.1:Int))]) (fun x=> [(2,ZfS f,false)]) (fun x=> []) (fun x=>(l).length-x.1) ⟨0,Nat.zero_le _,fun j hj=>absurd hj (Nat.not_lt_zero j)⟩ ⟨rfl,(Fc4 rfl rfl rfl rfl),(fcs ⟨rfl,rfl⟩ fnl),fnl⟩ (fun x=>⟨(Fc4 rfl rfl rfl rfl),(fcs rfl fnl)⟩) (fun x=> ?_);obtain⟨k,hk,hI⟩:=x;simp only at hk hI ⊢
 by_cases h:(k:Int)<(l.length:Int)
 ·(have hka:k<(l).length:=by omega);(have w1:=Wp hka (hl));(have i1:(0:Int)≤(k:Int):=by omega)
  have hF:=Zd4 f (l.getD k []) hf;cases hq:Ua f (l.getD k [])
  ·rw[hq]at hF;have hz:=ZaJ (p:=Ua f) hka hq;simp only[go_sem,Xj,h,ZG hka,i1,ZfS];refine vc2 (hF) ?_;simp only[go_sem,hz]
  ·rw[hq]at hF;simp only[go_sem,Xj,h,ZG hka,i1,ZfS];refine vc2 (hF) ?_;simp only[go_sem,w1];exact⟨⟨k+1,by(try simp only);omega,Zn hI hq⟩,by show(l).length-(k+1)<(l).length-k;omega,⟨rfl,(Fc4 rfl rfl rfl rfl),(fcs ⟨rfl,rfl⟩ fnl),fnl⟩⟩
 ·have hz:=Zdh (p:=Ua f) (d:= []) (l:=l) (fun j hj=>hI j (by omega));simp only[go_sem,h,hz]
theorem Vn (f:Fd) (e:En) (hl:f.cases'.length≤maxLen) (he:e.l.length≤maxLen):PL.Pure Try.prog 73 [fld f,ent e] (.bool (ZS f e)):=by
 have hR:=Si f hl;have hA:=Zcs f e.l hl he;cases hr:Yy f
 ·rw[hr]at hR;refine ZO Try.func73 rfl Try.ntmps73 Try.results73 ?_;simp only[go_sem,fld,ent];refine vc2 (hR) ?_;simp only[go_sem,ZS,hr,Bool.false_and]
 ·rw[hr]at hR
  by_cases ha:e.at'=f.at'
  ·have ha':=decide_eq_true ha
   by_cases h1:f.kind=1
   ·have k1:(f.kind==1)=true:=by rw[h1];rfl
    have hx:ZS f e=Zct e:=by simp only[ZS,hr,ha',Bool.and_self,Bool.true_and,h1,if_true]
    rw[hx];refine ZO Try.func73 rfl Try.ntmps73 Try.results73 ?_;simp only[go_sem,fld,ent];refine vc2 (hR) ?_;simp only[go_sem,Zv,ha',k1];repeat' ((first|refine Xc (fun h=> ?_) (fun h=> ?_)|refine Xb (fun h=> ?_) (fun h=> ?_)|refine Wb (fun h=> ?_) (fun h=> ?_)|refine vDq ?_)<;>first|simp only[go_sem,h]|simp only[go_sem]|skip)
    all_goals (simp_all[Zct];try(first|omega|(rw[decide_eq_true (show(-4503599627370497:Int)<e.n by omega),decide_eq_true (show e.n<4503599627370497 by omega)];simp)))
   ·have k1:(f.kind==1)=false:=beq_eq_false_iff_ne.2 h1;have hx:ZS f e=(U3 f e&&Ul f e):=by simp only[ZS,hr,ha',Bool.and_self,Bool.true_and,h1,if_false]
    rw[hx]
    by_cases hn:e.n=0
    ·have n1:(e.n !=0)=false:=by rw[hn];rfl
     by_cases h4:f.kind=4
     ·have k4:(f.kind==4)=true:=by rw[h4];rfl
      have hx2:(U3 f e&&Ul f e)=(decide ((e.l.length:Int)≤400)&&e.l.all (Ua f)):=by
       simp only[U3,Ul,h4,if_true,hn,decide_true,Bool.and_true];congr 1;rw[Bool.eq_iff_iff];simp
      rw[hx2]
      by_cases h5:(e.l.length:Int)≤400
      ·refine ZO Try.func73 rfl Try.ntmps73 Try.results73 ?_;simp only[go_sem,fld,ent];refine vc2 (hR) ?_;simp only[go_sem,Zv,ha',k1,n1,k4,h5];refine vc2 (hA) ?_;simp only[go_sem,decide_eq_true h5,Bool.true_and]
      ·refine ZO Try.func73 rfl Try.ntmps73 Try.results73 ?_;simp only[go_sem,fld,ent];refine vc2 (hR) ?_;simp only[go_sem,Zv,ha',k1,n1,k4,h5,Bool.false_and]
     ·have k4:(f.kind==4)=false:=beq_eq_false_iff_ne.2 h4;have hx2:(U3 f e&&Ul f e)=(((e.l.length:Int)==1)&&e.l.all (Ua f)):=by
       simp only[U3,Ul,h4,if_false,hn,decide_true,Bool.and_true];congr 1
      rw[hx2];cases h5:(e.l.length:Int)==1
      ·refine ZO Try.func73 rfl Try.ntmps73 Try.results73 ?_;simp only[go_sem,fld,ent];refine vc2 (hR) ?_;simp only[go_sem,Zv,ha',k1,n1,k4,h5,Bool.false_and]
      ·refine ZO Try.func73 rfl Try.ntmps73 Try.results73 ?_;simp only[go_sem,fld,ent];refine vc2 (hR) ?_;simp only[go_sem,Zv,ha',k1,n1,k4,h5];refine vc2 (hA) ?_;simp only[go_sem,Bool.true_and]
    ·have n1:(e.n !=0)=true:=bne_iff_ne.2 hn;have hx2:(U3 f e&&Ul f e)=false:=by simp[Ul,hn]
     rw[hx2];refine ZO Try.func73 rfl Try.ntmps73 Try.results73 ?_;simp only[go_sem,fld,ent];refine vc2 (hR) ?_;simp only[go_sem,Zv,ha',k1,n1]
  ·have ha':=decide_eq_false ha;have hx:ZS f e=false:=by simp only[ZS,ha',Bool.and_false,Bool.false_and]
   rw[hx];refine ZO Try.func73 rfl Try.ntmps73 Try.results73 ?_;simp only[go_sem,fld,ent];refine vc2 (hR) ?_;simp only[go_sem,Zv,ha']
theorem Zo {l:List En} {i:Nat} (h:i<l.length):(l.map ent).getD i .any=ent (l.getD i default):=Gk h
theorem ZB {l:List Rw} {i:Nat} (h:i<l.length):(l.map row).getD i .any=row (l.getD i default):=Gk h
theorem VJ (l:List Fd) (es:List En) (hl:l.length≤maxLen) (hes:es.length≤maxLen) (hl':∀f∈l,f.cases'.length≤maxLen) (hes':∀e∈es,e.l.length≤maxLen):PL.Pure Try.prog 54 [Zj l,Zt es] (.bool (Zk l es)):=by
 by_cases he:l.length=es.length
 ·have he':((l.length:Int) !=(es.length:Int))=false:=by rw[he];exact bne_self_eq_false _
  have hx:Zk l es=(List.range l.length).all (fun i=>ZS (l.getD i default) (es.getD i default)):=by simp only[Zk,he,decide_true,Bool.true_and]
  rw[hx];refine ZO Try.func54 rfl Try.ntmps54 Try.results54 ?_;simp only[go_sem,Zj,Zt,he'];refine ZK (ι:= { x:Nat // x≤(l).length∧(∀j,j<x→ZS (l.getD j default) (es.getD j default)=true) }) 27 (fun x=> [(1,Zt es),(12,Zj l),(13,.int .i64 (l.length:Int)),(14,.int .i64 (x.1:Int))]) (fun x=> []) (fun x=> []) (fun x=>(l).length-x.1) ⟨0,Nat.zero_le _,fun j hj=>absurd hj (Nat.not_lt_zero j)⟩ ⟨rfl,(Fc4 rfl rfl rfl rfl),fnl,fnl⟩ (fun x=>⟨(Fc4 rfl rfl rfl rfl),fnl⟩) (fun x=> ?_);obtain⟨k,hk,hI⟩:=x;simp only at hk hI ⊢
  by_cases h:(k:Int)<(l.length:Int)
  ·(have hka:k<(l).length:=by omega);(have w1:=Wp hka (hl));(have i1:(0:Int)≤(k:Int):=by omega)
   have hkb:k<es.length:=by omega
   have i2:(k:Int)<(es.length:Int):=by omega
   have hF:=Vn (l.getD k default) (es.getD k default) (hl' _ (Zg hka)) (hes' _ (Zg hkb));cases hf:ZS (l.getD k default) (es.getD k default)
   ·rw[hf]at hF;have hz:=ZX (p:=fun i=>ZS (l.getD i default) (es.getD i default)) hka hf;simp only[go_sem,Zj,Zt,h,i1,Zy hka,fld];refine vDq ?_;simp only[go_sem,Zo hkb,ent,i1,i2];refine vc2 (hF) ?_;simp only[go_sem,hz]
   ·rw[hf]at hF;simp only[go_sem,Zj,Zt,h,i1,Zy hka,fld];refine vDq ?_;simp only[go_sem,Zo hkb,ent,i1,i2];refine vc2 (hF) ?_;simp only[go_sem,w1];exact⟨⟨k+1,by(try simp only);omega,Zn hI hf⟩,by show(l).length-(k+1)<(l).length-k;omega,⟨rfl,(Fc4 rfl rfl rfl rfl),fnl,fnl⟩⟩
  ·have hz:=WR (p:=fun i=>ZS (l.getD i default) (es.getD i default)) (n:=l.length) (fun j hj=>hI j (by omega));simp only[go_sem,h,hz]
 ·have he':((l.length:Int) !=(es.length:Int))=true:=bne_iff_ne.2 (by omega);have hx:Zk l es=false:=by simp only[Zk,he,decide_false,Bool.false_and]
  rw[hx];refine ZO Try.func54 rfl Try.ntmps54 Try.results54 ?_;simp only[go_sem,Zj,Zt,he']
open Go.PL
structure Cg where
 kind:Int
 item:Str
 was:En
 now:En
 l:List En
deriving DecidableEq,Inhabited
def chg (c:Cg):PV:= .agg [.int .i64 c.kind,.str c.item,.int .i64 c.was.at'.sc,.str c.was.at'.gr,.str c.was.at'.nm,.int .i64 c.was.n,.sl .no (c.was.l.map .str),.int .i64 c.now.at'.sc,.str c.now.at'.gr,.str c.now.at'.nm,.int .i64 c.now.n,.sl .no (c.now.l.map .str),.sl .no (c.l.map ent)]
def Ym (l:List Cg):PV:= .sl .no (l.map chg)
theorem vc8 {x:Bool} {M:KH} {g:FuncId} {args args':List PV} {K:KR} {r:PV} (h1:PL.Pure Try.prog g args' r) (h2:K.k r M.m) (h0:PV.givableL M.m args:=by first|(simp only[go_sem,ref,ent,Zt,doc,Xj,row,Zj,fld,lns,tg,refs,prs,pr,eg,egs,tgs,lg,lgs,Up,opv,tr,chg,Ym];done)|exact rfl) (he:PV.giveL M.m args=args':=by first|(simp only[go_sem,ref,ent,Zt,doc,Xj,row,Zj,fld,lns,tg,refs,prs,pr,eg,egs,tgs,lg,lgs,Up,opv,tr,chg,Ym];done)|exact rfl):@T9 Try.prog x M (some (g,args)) K:=Vd h1 h0 he h2
structure FineC (c:Cg):Prop where
 w:c.was.l.length≤maxLen
 n:c.now.l.length≤maxLen
 l:c.l.length≤maxLen
 e:∀e∈c.l,e.l.length≤maxLen
theorem TR {l:List Cg} {i:Nat} (h:i<l.length):(l.map chg).getD i .any=chg (l.getD i default):=Gk h
theorem TD (e:En):PL.Pure Try.prog 39 [ent e] (Zt [e]):=by
 refine YX Try.func39 rfl Try.ntmps39 Try.results39 (XY _) ?_;simp only[go_sem,ent,Zt]
open Go.PL
def WL (c:Cg):Cg:=if c.kind=1 then⟨c.kind,c.item,c.now,c.was,c.l⟩else if c.kind=2∨c.kind=3 then⟨5-c.kind,c.item,c.was,c.now,c.l⟩else c
def Vs (l:List Cg):List Cg:=l.reverse.map WL
theorem ZaS (l:List Cg):(Vs l).length=l.length:=by simp[Vs]
theorem XA (l:List Cg):Sized 13 (l.map chg):=fun e he=>by
 obtain⟨x,_,rfl⟩:=List.mem_map.1 he;rfl
theorem ZaO (l:List Cg):Wd (l.map chg):=fun e he=>by
 obtain⟨x,_,rfl⟩:=List.mem_map.1 he;rfl
theorem Zdl (c:Cg):(chg c).dids= []:=by simp only[chg,PV.dids,PV.didsL,Vw,Ug,List.append_nil]
theorem ZaY (l:List Cg):PV.didsL (l.map chg)= []:=by
 induction l with
 |nil=>rfl
 |cons e l ih=>rw[List.map_cons,PV.didsL,ih,Zdl];rfl
theorem GQ (l:List Cg):(Ym l).dids= []:=by simp only[Ym,PV.dids,ZaY]
open Go.PL
theorem FN (l:List Str) (hl:l.length≤1000000):PL.Pure Try.prog 84 [Xj l] (Xj l):=by
 cases l with
 |nil=>
  refine YX Try.func84 rfl Try.ntmps84 Try.results84 (ZbN _) ?_;simp only[go_sem,Xj];intro b;cases b
  ·simp only[go_sem,Xj];exact Yv (by omega) (by omega)
  ·simp only[go_sem,Xj]
 |cons x l=>
  have hr:=Yv (show(x::l).length≤100000000000 by omega) (show 16≤1000 by omega);have hs:=Ye (x::l);have ha:=YK (x::l);simp only[List.map_cons]at hs ha;refine YX Try.func84 rfl Try.ntmps84 Try.results84 (ZbN _) ?_;simp only[go_sem,Xj,hs,ha];exact hr
theorem YF (e:En) (he:e.l.length≤1000000):PL.Pure Try.prog 41 [ent e] (ent e):=by
 have hC:=FN e.l he;refine YX Try.func41 rfl Try.ntmps41 Try.results41 (Xn _) ?_;simp only[go_sem,ent];refine vc1 (hC) ?_;simp only[go_sem,ent,Xj]
open Go.PL Go.RowKit
def rowN (x:Nat) (r:Rw):PV:= .agg [.str r.item,if r.l.length=0 then .sl .no []else .vsl x r.l.length 5]
def ZA (ns:List Nat) (rs:List Rw):List PV:=List.zipWith rowN ns rs
def U5 (ns:List Nat) (rs:List Rw):List (Nat×Row):=(ns.zip rs).filterMap fun x=>if x.2.l.length=0 then none else some (x.1,.vec x.2.l.length 5 27)
def Se (ns:List Nat) (rs:List Rw):List (Nat×List PV):=(ns.zip rs).filterMap fun x=>if x.2.l.length=0 then none else some (x.1,x.2.l.map ent)
def Uo (ns:List Nat) (rs:List Rw):List Nat:=(ns.zip rs).filterMap fun x=>if x.2.l.length=0 then none else some x.1
theorem Zan {x:Nat} {r:Rw} (h:r.l.length=0):rowN x r=row r:=by
 unfold rowN row;rw[if_pos h,List.eq_nil_of_length_eq_zero h];rfl
theorem ZiI {x:Nat} {r:Rw} {i:Ref} (h:i∈(rowN x r).ids):r.l.length≠0∧i= .r x:=by
 unfold rowN at h
 by_cases h0:r.l.length=0
 ·rw[if_pos h0]at h;simp[PV.ids,PV.idsL]at h
 ·rw[if_neg h0]at h;simp[PV.ids,PV.idsL]at h;exact⟨h0,h⟩
theorem YG (ns:List Nat) (rs:List Rw):(U5 ns rs).map (·.1)=Uo ns rs:=by
 unfold U5 Uo;rw[List.map_filterMap];congr 1;funext x;split<;>rfl
theorem Ww (ns:List Nat) (rs:List Rw):(Se ns rs).map (·.1)=Uo ns rs:=by
 unfold Se Uo;rw[List.map_filterMap];congr 1;funext x;split<;>rfl
theorem XW {ns:List Nat} {rs:List Rw} {x:Nat} (h:x∈Uo ns rs):x∈ns:=by
 obtain⟨y,hy,e⟩:=List.mem_filterMap.1 h;split at e
 ·cases e
 ·cases e;exact(List.of_mem_zip hy).1
theorem Zah:∀(ns:List Nat) (rs:List Rw),(Uo ns rs).Sublist ns
 | [],rs=>by simp[Uo]
 |n::ns,[]=>by simp[Uo]
 |n::ns,r::rs=>by
  unfold Uo;rw[List.zip_cons_cons,List.filterMap_cons];split
  ·exact(Zah ns rs).cons _
  ·rename_i e;split at e
   ·cases e
   ·cases e;exact(Zah ns rs).cons_cons _
theorem Wx {ns:List Nat} (rs:List Rw) (h:ns.Nodup):(Uo ns rs).Nodup:=List.Pairwise.sublist (Zah ns rs) h
theorem Zjy {ns:List Nat} {rs:List Rw} (hl:ns.length=rs.length) {k:Nat} (hk:k<rs.length):(ns.getD k 0,rs.getD k default)∈ns.zip rs:=by
 have:(ns.zip rs)[k]'(by rw[List.length_zip];omega)=(ns.getD k 0,rs.getD k default):=by
  rw[List.getElem_zip,Zb (by omega),Zb hk]
 rw[←this];exact List.getElem_mem _
theorem Zig {ns:List Nat} {rs:List Rw} (hl:ns.length=rs.length) {k:Nat} (hk:k<rs.length) (h:(rs.getD k default).l.length≠0):(ns.getD k 0,Row.vec (rs.getD k default).l.length 5 27)∈U5 ns rs:=
 List.mem_filterMap.2 ⟨_,Zjy hl hk,by rw[if_neg h]⟩
theorem TO {ns:List Nat} {rs:List Rw} (hl:ns.length=rs.length) {k:Nat} (hk:k<rs.length) (h:(rs.getD k default).l.length≠0):(ns.getD k 0,(rs.getD k default).l.map ent)∈Se ns rs:=
 List.mem_filterMap.2 ⟨_,Zjy hl hk,by rw[if_neg h]⟩
theorem YC {ns:List Nat} {rs:List Rw} {x:Nat×Row} (h:x∈U5 ns rs):x.1∈ns∧ ∃r∈rs,x.2= .vec r.l.length 5 27:=by
 obtain⟨y,hy,e⟩:=List.mem_filterMap.1 h;split at e
 ·cases e
 ·cases e;exact⟨(List.of_mem_zip hy).1,y.2,(List.of_mem_zip hy).2,rfl⟩
theorem ZL {ns:List Nat} {rs:List Rw} {x:Nat×List PV} (h:x∈Se ns rs):x.1∈ns∧ ∃r∈rs,x.2=r.l.map ent:=by
 obtain⟨y,hy,e⟩:=List.mem_filterMap.1 h;split at e
 ·cases e
 ·cases e;exact⟨(List.of_mem_zip hy).1,y.2,(List.of_mem_zip hy).2,rfl⟩
theorem Zbh {ns:List Nat} {rs:List Rw} {p:PV} (h:p∈ZA ns rs):∃x r,(x,r)∈ns.zip rs∧p=rowN x r:=by
 unfold ZA at h;rw[←List.map_uncurry_zip_eq_zipWith]at h;obtain⟨y,hy,rfl⟩:=List.mem_map.1 h;exact⟨y.1,y.2,hy,rfl⟩
theorem Xx {ns:List Nat} {rs:List Rw} {p:PV} (h:p∈ZA ns rs) {i:Ref} (hi:i∈p.ids):∃x∈Uo ns rs,i= .r x:=by
 obtain⟨x,r,hz,rfl⟩:=Zbh h;obtain⟨h0,rfl⟩:=ZiI hi;exact⟨x,List.mem_filterMap.2 ⟨_,hz,by rw[if_neg h0]⟩,rfl⟩
theorem WT {ns:List Nat} {rs:List Rw} (h:ns.length=rs.length):(ZA ns rs).length=rs.length:=by unfold ZA;rw[List.length_zipWith,h,Nat.min_self]
theorem F9 {ns:List Nat} {rs:List Rw} {x:Nat} {r:Rw} (h:ns.length=rs.length):U5 (ns++ [x]) (rs++ [r])=U5 ns rs++(if r.l.length=0 then []else [(x,.vec r.l.length 5 27)])∧Se (ns++ [x]) (rs++ [r])=Se ns rs++(if r.l.length=0 then []else [(x,r.l.map ent)])∧ZA (ns++ [x]) (rs++ [r])=ZA ns rs++ [rowN x r]:=by
 unfold U5 Se ZA;rw[List.zipWith_append h,List.zip_append h,List.filterMap_append,List.filterMap_append];refine⟨?_,?_,rfl⟩
 ·congr 1
  by_cases h0:r.l.length=0
  ·simp only[List.zip_cons_cons,List.zip_nil_right,List.filterMap_cons,List.filterMap_nil,if_pos h0]
  ·simp only[List.zip_cons_cons,List.zip_nil_right,List.filterMap_cons,List.filterMap_nil,if_neg h0]
 ·congr 1
  by_cases h0:r.l.length=0
  ·simp only[List.zip_cons_cons,List.zip_nil_right,List.filterMap_cons,List.filterMap_nil,if_pos h0]
  ·simp only[List.zip_cons_cons,List.zip_nil_right,List.filterMap_cons,List.filterMap_nil,if_neg h0]
def nsU (n:Nat):List Nat:=(List.range n).map (10000 + ·)
theorem Zaj (n:Nat):(nsU n).length=n:=by simp[nsU]
theorem Gp (n:Nat):nsU (n+1)=nsU n++ [10000+n]:=by unfold nsU;rw[List.range_succ,List.map_append];rfl
theorem YH {n x:Nat} (h:x∈nsU n):10000≤x∧x<10000+n:=by
 obtain⟨i,hi,rfl⟩:=List.mem_map.1 h;have:=List.mem_range.1 hi;exact⟨by omega,by omega⟩
theorem Xv (n:Nat):(nsU n).Nodup:=List.Pairwise.map _ (fun a b h=>by omega) List.nodup_range
def XK (R:Nat) (ns:List Nat) (d:Dc):List (Nat×Row):=(R,.vec d.rows.length 2 53)::(3000,.vec d.head.length 5 27)::U5 ns d.rows
def U4 (R:Nat) (ns:List Nat) (d:Dc):List (Nat×List PV):=(R,ZA ns d.rows)::(3000,d.head.map ent)::Se ns d.rows
open Go.PL Go.RowKit
theorem Zdg {m:Hp} {d k d2 n i:Nat} {x:PV} {es:List PV} (hq:m.q d=some (.vec n 2 53)) (hv:m.v d=some es) (hk:m.q k=some (.vec 1 2 53)) (hkv:m.v k=some [x]) (hd2:m.q d2=none) (hdk:d≠k) (hi:i≤n) (hn':n≤1000000) (hself:∀p∈es++ [x],∀j∈p.ids,j≠ .r d):
  CallS Try.prog 68 [.vsl d n 2,.int .i64 i,.vsl k 1 2] m (.vsl d2 (n+1) 2) { m with q:=upd (upd m.q d (some .dead)) d2 (some (.vec (n+1) 2 53)),v:=upd (upd m.v d none) d2 (some (es.take i++x::es.drop i)) }:=by
 refine⟨⟨_,Try.func68,by decide,rfl⟩,fun B S M s a w vs hm hs hlen hrep hlive=> ?_⟩;subst hm;obtain⟨v0,v1,v2,rfl⟩:∃v0 v1 v2,vs= [v0,v1,v2]:=by
  match vs,hlen with
  | [a,b,c],_=>exact⟨a,b,c,rfl⟩
 have h0:RepS S M s.m.q v0 (.vsl d n 2):=hrep 0 (by simp);have h1:RepS S M s.m.q v1 (.int .i64 i):=hrep 1 (by simp);have h2:RepS S M s.m.q v2 (.vsl k 1 2):=hrep 2 (by simp);obtain rfl:=h1.int_inv;obtain⟨xs,o0,hn,cE,lE,rE,k0⟩:=hs.vec_ownsR hq hv h0;obtain⟨ys,o2,_,cX,lX,rX,kX⟩:=hs.vec_ownsR hk hkv h2;subst hn;have hxc:=cX x (by simp);obtain⟨g,cu,cur2,rfl,g1,g4,g5,g6⟩:∃g cu cur2,v2= .slice (some ⟨g,0,none⟩) 1 cu∧w.heap[g]? = some (.cells ⟨cur2⟩ 53 (0,0))∧1≤cu∧cur2.length=cu*2∧cur2.take 2=ys:=by
  rcases o2.2 with ⟨_,h⟩|⟨g,cap,cur,e1,_,e3,e4,_,e6,e7⟩
  ·omega
  ·exact⟨g,cap,cur.toList,e1,e3,e4,e6,e7⟩
 obtain⟨y1,y2,hys⟩:∃y1 y2,ys= [y1,y2]:=by
  have:=o2.1
  match ys,this with
  | [a,b],_=>exact⟨a,b,rfl⟩
 subst hys;have c1:cur2[0]? = some y1:=by
  have:(cur2.take 2)[0]? = some y1:=by rw[g6];rfl
  rwa[List.getElem?_take_of_lt (by omega)]at this
 have c2:cur2[1]? = some y2:=by
  have:(cur2.take 2)[1]? = some y2:=by rw[g6];rfl
  rwa[List.getElem?_take_of_lt (by omega)]at this
 have w1:w.cell? ⟨g,0,none⟩=some y1:=by rw[Z0 g1];exact c1
 have w2:w.cell? ⟨g,1,none⟩=some y2:=by rw[Z0 g1];exact c2
 have r2:∀j,j<2→RepS S M s.m.q ([y1,y2].getD j undef) (x.cells.getD j .any):=fun j hj=>by
  have:=rX 0 j (by omega) hj;simpa using this
 have hxl:xs.length=es.length*2:=o0.1;have atomx:∀j,j<2→(x.cells.getD j .any).atom=true:=fun j hj=>List.all_eq_true.1 hxc.2 _ (Ze (by rw[hxc.1];exact hj))
 have a1:y1.oneCell'=true:=(r2 0 (by decide)).atom_inv (atomx 0 (by decide));have a2:y2.oneCell'=true:=(r2 1 (by decide)).atom_inv (atomx 1 (by decide));have axs:∀u∈xs,u.oneCell'=true:=fun u hu=>by
  obtain⟨k,hk,rfl⟩:=List.getElem_of_mem hu;have hk2:k / 2<es.length:=by omega
  have hm:es.getD (k / 2) .any∈es:=Ze hk2;have:=rE (k / 2) (k % 2) hk2 (Nat.mod_lt _ (by decide));rw[show k / 2*2+k % 2=k by omega,Zb hk]at this;exact this.atom_inv (List.all_eq_true.1 (cE _ hm).2 _ (Ze (by rw[(cE _ hm).1];exact Nat.mod_lt _ (by decide))))
 have hne:∀k',v0.ownBlock=some k'→g≠k':=fun k' hk' e=>by
  obtain⟨_,_,p1,p2⟩:=k0 k' hk';obtain⟨_,_,p3,p4⟩:=kX g rfl;exact hs.injq d k _ _ hq hk rfl rfl p1 p3 hdk (by rw[p2,p4];exact e.symm)
 have hmem:∀p∈es.take i++x::es.drop i,p∈es∨p=x:=fun p hp=>by
  rcases List.mem_append.1 hp with hp|hp
  ·exact .inl (List.mem_of_mem_take hp)
  ·rcases List.mem_cons.1 hp with rfl|hp
   ·exact .inr rfl
   ·exact .inl (List.mem_of_mem_drop hp)
 have hlen':(xs.take (i*2)++ [y1,y2]++xs.drop (i*2)).length=(es.length+1)*2:=by
  simp only[List.length_append,List.length_take,List.length_drop,List.length_cons,List.length_nil];omega
 have fin:∀(w':World) (v':Value),w'.ownsRow 0 53 2 v' (es.length+1) (xs.take (i*2)++ [y1,y2]++xs.drop (i*2))→((w.grownBy w' none∧ ∀k,v'.ownBlock=some k→w.heap.size≤k)∨ ∃k,v0.ownBlock=some k∧v'.ownBlock=some k∧w.grownBy w' (some k))→
   ∃v S' M',Ending.returned v'= .returned v∧Sim B S' M' (s.with { s.m with q:=upd (upd s.m.q d (some .dead)) d2 (some (.vec (es.length+1) 2 53)),v:=upd (upd s.m.v d none) d2 (some (es.take i++x::es.drop i)) }) a w'∧RepS S' M' (upd (upd s.m.q d (some .dead)) d2 (some (.vec (es.length+1) 2 53))) v (.vsl d2 (es.length+1) 2)∧(∀j∈(PV.vsl d2 (es.length+1) 2).ids,Live { s.m with q:=upd (upd s.m.q d (some .dead)) d2 (some (.vec (es.length+1) 2 53)),v:=upd (upd s.m.v d none) d2 (some (es.take i++x::es.drop i)) } j)∧Ext B S S' w w':=fun w' v' p1 p2=>by
  obtain⟨M',q1,q2,q3⟩:=hs.rerow (d2:=d2) (es':=es.take i++x::es.drop i) hq h0 hd2 p1 p2 (by simp;omega) (fun p hp=>by
   rcases hmem p hp with h|rfl
   ·exact cE p h
   ·exact hxc) (fun p hp j hj=>by
   rcases hmem p hp with h|rfl
   ·exact⟨lE p h j hj,hself p (by simp[h]) j hj⟩
   ·exact⟨lX p (by simp) j hj,hself p (by simp) j hj⟩) (fun i' j hi' hj=>by
   rw[Zbd (by omega) hj,XV hi]
   by_cases t1:i'<i
   ·rw[if_pos t1,if_pos t1];exact rE _ _ (by omega) hj
   ·rw[if_neg t1,if_neg t1]
    by_cases t2:i'=i
    ·rw[if_pos t2,if_pos t2];exact r2 j hj
    ·rw[if_neg t2,if_neg t2];exact rE _ _ (by omega) hj)
  refine⟨v',S,M',rfl,q1,q2,fun j hj=> ?_,q3⟩;simp only[PV.ids,List.mem_singleton]at hj;subst hj;show upd _ d2 _ d2≠none;rw[Za];simp
 by_cases hend:i=es.length
 ·subst hend;have hx2:xs.take (es.length*2)=xs:=List.take_of_length_le (by omega);have hx3:xs.drop (es.length*2)= []:=List.drop_of_length_le (by omega);rw[hx2,hx3,List.append_nil]at fin;have done:∀(w':World) (v':Value),w'.ownsRow w.heap.size 53 2 v' (es.length+1) (xs++ [y1,y2])→w.grownBy w' none→w'.ownsRow 0 53 2 v' (es.length+1) (xs++ [y1,y2])∧ ∀k,v'.ownBlock=some k→w.heap.size≤k:=fun w' v' p1 p2=>by
   refine⟨⟨p1.1,?_⟩,fun k hk=>(p1.lt k hk).1⟩;rcases p1.2 with h|⟨g',c',cur',q1,_,q3⟩
   ·exact .inl h
   ·exact .inr ⟨g',c',cur',q1,Nat.zero_le _,q3⟩
  rcases o0.2 with ⟨hv0,hz⟩|⟨b,c,cur,hv0,_,h3,h4,h5,h6,h7⟩
  ·have hv0':v0= .slice none es.length 0:=by rw[hv0,hz]
   rw[hv0'];refine(Xl none es.length 0 xs w g cu y1 y2 (fun _=>⟨hz,rfl⟩) hxl (fun b h=>by cases h) (by omega) (by omega) hn' w1 w2 a1 a2).mono ?_
   rintro en w' ⟨v',rfl,p1,p2⟩
   obtain⟨d1,d2⟩:=done w' v' p1 p2;exact fin w' v' d1 (.inl ⟨p2,d2⟩)
  ·rw[hv0]at fin ⊢
   by_cases hroom:es.length+1≤c
   ·refine(Ud b es.length c cur.toList w g cu y1 y2 h3 h6 hroom h5 w1 w2 a1 a2).mono ?_
    rintro en w' ⟨rfl,cur',p1,p2,p3,p4⟩
    refine fin w' _ ⟨by rw[hx2,hx3,List.append_nil]at hlen';exact hlen',.inr ⟨b,c,⟨cur'⟩,rfl,Nat.zero_le _,p1,hroom,h5,p2,?_⟩⟩ (.inr ⟨b,rfl,rfl,p4⟩);show cur'.take _=_;rw[p3,h7]
   ·refine(Xl (some ⟨b,0,none⟩) es.length c xs w g cu y1 y2 (fun h=>by cases h) hxl (fun b' hb' j u hj=> ?_) h4 (by omega) hn' w1 w2 a1 a2).mono ?_
    ·cases hb';rw[ZJ,Z0 h3,Nat.zero_add];rw[←h7,List.getElem?_take]at hj;split at hj
     ·exact hj
     ·cases hj
    ·rintro en w' ⟨v',rfl,p1,p2⟩
     obtain⟨d1,d2⟩:=done w' v' p1 p2;exact fin w' v' d1 (.inl ⟨p2,d2⟩)
 ·rcases o0.2 with ⟨hv0,hz⟩|⟨b,c,cur,hv0,_,h3,h4,h5,h6,h7⟩
  ·omega
  ·have hne':=hne b (by rw[hv0];rfl);rw[hv0]at fin ⊢;have axc:∀u∈cur.toList.take (es.length*2),u.oneCell'=true:=by rw[h7];exact axs
   by_cases hroom:es.length+1≤c
   ·refine(SO b es.length c i cur.toList w g cu cur2 y1 y2 h3 h6 (by omega) hroom h5 hne' g1 c1 c2 a1 a2 axc).mono ?_
    rintro en w' ⟨rfl,cur',p1,p2,p3,p4⟩
    refine fin w' _ ⟨hlen',.inr ⟨b,c,⟨cur'⟩,rfl,Nat.zero_le _,p1,hroom,h5,p2,?_⟩⟩ (.inr ⟨b,rfl,rfl,p4⟩);show cur'.take _=_;rw[p3,h7]
   ·refine(Gy b es.length c i cur.toList w g cu cur2 y1 y2 h3 h6 (by omega) h4 (by omega) hn' g1 c1 c2 a1 a2 axc).mono ?_
    rintro en w' ⟨G,rfl,p0,p5,cur',p1,p2,p3,p4⟩
    refine fin w' _ ⟨hlen',.inr ⟨w.heap.size,G,⟨cur'⟩,rfl,Nat.zero_le _,p1,p0,p5,p2,?_⟩⟩ (.inl ⟨p4,fun k hk=>by cases hk;exact Nat.le_refl _⟩);show cur'.take _=_;rw[p3,h7]
open Go.PL Go.RowKit
theorem Zh2 {α:Type} {d:α} {l:List α} {i k:Nat} (hi:i<l.length):(l.take i++l.drop (i+1)).getD k d=if k<i then l.getD k d else l.getD (k+1) d:=by
 have hl:(l.take i).length=i:=by rw[List.length_take];omega
 by_cases h1:k<i
 ·rw[if_pos h1,Zd (by omega),List.getD_eq_getElem?_getD,List.getD_eq_getElem?_getD,List.getElem?_take_of_lt h1]
 ·rw[if_neg h1,Zf (by omega),hl,List.getD_eq_getElem?_getD,List.getElem?_drop,List.getD_eq_getElem?_getD];congr 2;omega
theorem ZfI {α:Type} {d:α} {l:List α} {i k j:Nat} (hi:(i+1)*2≤l.length) (hj:j<2):(l.take (i*2)++l.drop ((i+1)*2)).getD (k*2+j) d=if k<i then l.getD (k*2+j) d else l.getD ((k+1)*2+j) d:=by
 have hl:(l.take (i*2)).length=i*2:=by rw[List.length_take];omega
 by_cases h1:k<i
 ·rw[if_pos h1,Zd (by omega),List.getD_eq_getElem?_getD,List.getD_eq_getElem?_getD,List.getElem?_take_of_lt (by omega)]
 ·rw[if_neg h1,Zf (by omega),hl,List.getD_eq_getElem?_getD,List.getElem?_drop,List.getD_eq_getElem?_getD];congr 2;omega
theorem Zho {m:Hp} {d d2 k i:Nat} {es:List PV} (hq:m.q d=some (.vec (k+1) 2 53)) (hv:m.v d=some es) (hd2:m.q d2=none) (hi:i≤k) (hself:∀p∈es,∀j∈p.ids,j≠ .r d):
  CallS Try.prog 114 [.vsl d (k+1) 2,.int .i64 i,.int .i64 ((i+1:Nat):Int)] m (.vsl d2 k 2) { m with q:=upd (upd m.q d (some .dead)) d2 (some (.vec k 2 53)),v:=upd (upd m.v d none) d2 (some (es.take i++es.drop (i+1))) }:=by
 refine⟨⟨_,Try.func114,by decide,rfl⟩,fun B S M s a w vs hm hs hlen hrep hlive=> ?_⟩;subst hm;obtain⟨v0,v1,v2,rfl⟩:∃v0 v1 v2,vs= [v0,v1,v2]:=by
  match vs,hlen with
  | [a,b,c],_=>exact⟨a,b,c,rfl⟩
 have h0:RepS S M s.m.q v0 (.vsl d (k+1) 2):=hrep 0 (by simp);have h1:RepS S M s.m.q v1 (.int .i64 i):=hrep 1 (by simp);have h2:RepS S M s.m.q v2 (.int .i64 ((i+1:Nat):Int)):=hrep 2 (by simp);obtain rfl:=h1.int_inv;obtain rfl:=h2.int_inv;obtain⟨xs,o0,hn,cE,lE,rE,k0⟩:=hs.vec_ownsR hq hv h0;have hxl:xs.length=(k+1)*2:=o0.1;have axs:∀u∈xs,u.oneCell'=true:=fun u hu=>by
  obtain⟨t,ht,rfl⟩:=List.getElem_of_mem hu;have hk2:t / 2<k+1:=by omega
  have hm:es.getD (t / 2) .any∈es:=Ze (by omega);have:=rE (t / 2) (t % 2) hk2 (Nat.mod_lt _ (by decide));rw[show t / 2*2+t % 2=t by omega,Zb ht]at this;exact this.atom_inv (List.all_eq_true.1 (cE _ hm).2 _ (Ze (by rw[(cE _ hm).1];exact Nat.mod_lt _ (by decide))))
 obtain⟨b,c,cur,rfl,h3,h4,h5,h6,h7⟩:∃b c cur,v0= .slice (some ⟨b,0,none⟩) (k+1) c∧w.heap[b]? = some (.cells ⟨cur⟩ 53 (0,0))∧k+1≤c∧c≤maxLen∧cur.length=c*2∧cur.take ((k+1)*2)=xs:=by
  rcases o0.2 with ⟨_,h⟩|⟨g,cap,cur,e1,_,e3,e4,e5,e6,e7⟩
  ·omega
  ·exact⟨g,cap,cur.toList,e1,e3,e4,e5,e6,e7⟩
 refine(Zd1 b k c i cur w h3 h6 hi h4 h5 (by rw[h7];exact axs)).mono ?_
 rintro en w' ⟨rfl,cur',p1,p2,p3,p4⟩
 rw[h7]at p3;have hlen':(xs.take (i*2)++xs.drop ((i+1)*2)).length=k*2:=by
  simp only[List.length_append,List.length_take,List.length_drop];omega
 have hmem:∀p∈es.take i++es.drop (i+1),p∈es:=fun p hp=>by
  rcases List.mem_append.1 hp with hp|hp
  ·exact List.mem_of_mem_take hp
  ·exact List.mem_of_mem_drop hp
 obtain⟨M',q1,q2,q3⟩:=hs.rerow (w':=w') (d2:=d2) (n':=k) (es':=es.take i++es.drop (i+1)) (v':= .slice (some ⟨b,0,none⟩) k c) (xs':=xs.take (i*2)++xs.drop ((i+1)*2)) hq h0 hd2
  ⟨hlen',.inr ⟨b,c,⟨cur'⟩,rfl,Nat.zero_le _,p1,by omega,h5,p2,p3⟩⟩ (.inr ⟨b,rfl,rfl,p4⟩) (by simp;omega) (fun p hp=>cE p (hmem p hp)) (fun p hp j hj=>⟨lE p (hmem p hp) j hj,hself p (hmem p hp) j hj⟩) (fun i' j hi' hj=>by
   rw[ZfI (by omega) hj,Zh2 (by omega)]
   by_cases t1:i'<i
   ·rw[if_pos t1,if_pos t1];exact rE _ _ (by omega) hj
   ·rw[if_neg t1,if_neg t1];exact rE _ _ (by omega) hj)
 refine⟨_,S,M',rfl,q1,q2,fun j hj=> ?_,q3⟩;simp only[PV.ids,List.mem_singleton]at hj;subst hj;show upd _ d2 _ d2≠none;rw[Za];simp
open Go.PL
open Go.ChangeShapes Go.WideShapes Go.ChangeAt Go.RowKit
theorem Try.own:ownKnob Try.prog.godebug=Option.none:=by kernel_rfl
theorem Try.laidOut:laidOutB Try.prog=true:=by kernel_rfl
theorem Try.lays:Fl Try.prog=true:=by kernel_rfl
theorem Zka:ZaC Try.prog 25=false:=by kernel_rfl
structure LenLn' (x:Ln):Prop where
 c:x.fd.cases'.length≤maxLen
 f:x.fo.length≤maxLen
 b:x.ba.length≤maxLen
theorem ZcK {cs:List PV} (h:PT Try.prog 25 cs):∃l:List Str,cs= [.sl .no (l.map .str)]∧l.length≤maxLen:=by
 obtain⟨l,rfl,h1,h2⟩:=h.slice_inv Zka Try.underlying25;obtain⟨xs,rfl,_⟩:=UG (enc:=PV.str) (Q:=fun _=>True) (fun p hp=>by
  obtain⟨s,rfl,_⟩:=(h2 p hp).string Try.underlying9;exact⟨s,rfl,trivial⟩)
 exact⟨xs,rfl,by simpa using h1⟩
theorem Zgz {cs:List PV} (h:PT Try.prog 24 cs):∃r:Rf,cs= [.int .i64 r.sc,.str r.gr,.str r.nm]:=by
 have h1:PTs Try.prog [3,9,9] cs:=h.struct_inv Try.underlying24;obtain⟨a,b,rfl,h2,h3⟩:=h1.cons_inv;obtain⟨c,d,rfl,h4,h5⟩:=h3.cons_inv;obtain⟨e,f,rfl,h6,h7⟩:=h5.cons_inv;obtain⟨x,rfl,_⟩:=h2.int_inv Try.underlying3;obtain⟨y,rfl,_⟩:=h4.string_inv Try.underlying9;obtain⟨z,rfl,_⟩:=h6.string_inv Try.underlying9;rw[h7.nil_inv];exact⟨⟨x,y,z⟩,rfl⟩
theorem ZlD {cs:List PV} (h:PT Try.prog 76 cs):∃f:Fd,cs= [.int .i64 f.at'.sc,.str f.at'.gr,.str f.at'.nm,.int .i64 f.kind,.str f.df,.sl .no (f.cases'.map .str),.int .i64 f.worth]∧f.cases'.length≤maxLen:=by
 have h1:PTs Try.prog [24,3,9,25,2] cs:=h.struct_inv Try.underlying76;obtain⟨a1,b1,rfl,h2,h3⟩:=h1.cons_inv;obtain⟨a2,b2,rfl,h4,h5⟩:=h3.cons_inv;obtain⟨a3,b3,rfl,h6,h7⟩:=h5.cons_inv;obtain⟨a4,b4,rfl,h8,h9⟩:=h7.cons_inv;obtain⟨a5,b5,rfl,h10,h11⟩:=h9.cons_inv;obtain⟨r,rfl⟩:=Zgz h2;obtain⟨x,rfl,_⟩:=h4.int_inv Try.underlying3;obtain⟨y,rfl,_⟩:=h6.string_inv Try.underlying9;obtain⟨l,rfl,hl⟩:=ZcK h8;obtain⟨z,rfl,_⟩:=h10.int_inv Try.underlying2;rw[h11.nil_inv];exact⟨⟨r,x,y,l,z⟩,rfl,hl⟩
end Go.Proofs.Ytmnibpgmcgdfpaa
