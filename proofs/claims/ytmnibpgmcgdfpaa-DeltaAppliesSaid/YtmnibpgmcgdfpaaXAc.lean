/- Contracts of functions and laws of this seat, each for every input that it names: lemmas of the proof. -/
import Derived.Test.YtmnibpgmcgdfpaaPlM
import Derived.Test.YtmnibpgmcgdfpaaXAa
import Derived.WalkKit
import Derived.Deep.RegionLaw
import Derived.Shelf.RegionOpenPlain
import Derived.Lib.Walk
import Derived.Lib.SliceRun
import Derived.Lib.AppendZerosOnto
import Derived.Lib.Overlaps
import Derived.Laws.Externs
import Derived.Laws.AppendOwn
set_option maxHeartbeats 64000000
set_option maxRecDepth 20000
set_option linter.unusedVariables false
set_option linter.unusedSimpArgs false
namespace Go.PL
open Go.RowKit Go.Lib
structure KeepP (p:Prop):Prop where
 out:p
section
variable {P:Program}
theorem Wl (w:World) (dT sT ty elem:TypeId) (sz g o dLen dCap:Nat) (a:Addr) (sLen sCap:Nat) (cur:Array Value) (t:TypeId) (cs:List Value)
  (hu:P.underlying dT=some (.slice elem)) (hs:(P.info? elem).map (·.size)=some sz)
  (hg:w.heap[g]? = some (.cells cur t (0,0))) (hn:cs.length=Nat.min sLen dLen*sz)
  (hsrc:∀j v,cs[j]? = some v→w.cell? (a.add j)=some v) (hfit:o+cs.length≤cur.size) (h1:∀v∈cs,v.oneCell'=true):
  (Builtin.copy_ #[dT,sT] ty #[.slice (some ⟨g,o,none⟩) dLen dCap,.slice (some a) sLen sCap]).run P w=
   .ok (goInt (Nat.min sLen dLen)) (w.setRow g (cur.toList.take o++cs++cur.toList.drop (o+cs.length)).toArray):=by
 have hl:=run_loadCells_list (P:=P) w a cs hsrc;have hst:=run_storeCells_at P g o t cs 0 cur w hg (by simpa using hfit) h1;cases hq:P.info? elem with
 |none=>simp[hq]at hs
 |some i=>
  have hi:i.size=sz:=by simpa[hq]using hs
  simp only[Nat.min_def]at hn;simp[Builtin.copy_,run_underlying hu,Builtin.lenOf,Builtin.firstCells,sizeOf,typeInfo,hq,hi,Nat.min_def,←hn,hl,hst]
theorem Gc (w:World) {ops:Array Oper} {rest:List Oper} {o:Oper} {a:Act} {Q:Exit→Act→World→Prop} (hgd:o.guard=none) (d s:Operand) (t t':TypeId)
  (ho:o.op= .call { callee:= .builtin .copy,args:= #[d,s],argTypes:= #[t,t'] }) (v u:Value) (hd:a.eval d=v) (hs:a.eval s=u) {v':Value} {w':World}
  (hr:(Builtin.copy_ #[t,t'] o.type #[v,u]).run P w= .ok v' w') (h:wpList P ops Q rest (a.put o.dst v') w'):wpList P ops Q (o::rest) a w:=
 wpList_plain hgd fun _ hK=>by
  have hK:=hK _ _ h;unfold Oper.wp execOp;simp only[ho,resolve,invoke,builtin,Sem.run_bind,Sem.run_pure,Result.andThen_ok,List.map_toArray,List.map_cons,List.map_nil,hd,hs,hr];exact hK
theorem Te {ops:Array Oper} {o:Oper} {a:Act} {w:World} {K:Act→World→Prop} {Q:Exit→Act→World→Prop} {E:Prop}
  (hg:o.guard=none) (d x:Operand) (dT sT:TypeId) (hop:o.op=Op.call { callee:=Callee.builtin Builtin.copy,args:= #[d,x],argTypes:= #[dT,sT] })
  (v u:Value) (hd:a.eval d=v) (hx:a.eval x=u) {v':Value} {w':World} (hr:(Builtin.copy_ #[dT,sT] o.type #[v,u]).run P w= .ok v' w') (hK:K (a.put o.dst v') w'):
  if Region.wanted o (yielded ops a.tmps)=true then Oper.wp P o a w K Q else E:=by
 have hw:Region.wanted o (yielded ops a.tmps)=true:=by simp[Region.wanted,hg]
 rw[if_pos hw];unfold Oper.wp;simp[execOp,hop,resolve,invoke,builtin,hd,hx,hr,Result.andThen];exact hK
end
end Go.PL
namespace Go.Proofs.Ytmnibpgmcgdfpaa
open Go.PL Go.RowKit Go.Lib
theorem ZbP {w:World} {vb:Nat} {y1 y2:Value} (hy1:w.cell? ⟨vb,0,none⟩=some y1) (hy2:w.cell? ⟨vb,1,none⟩=some y2):∀j u,([y1,y2]:List Value)[j]? = some u→w.cell? ((⟨vb,0,none⟩:Addr).add j)=some u:=fun j u hj=>by
 rw[ZJ]
 match j,hj with
 |0,hj=>simp at hj;subst hj;exact hy1
 |1,hj=>simp at hj;subst hj;exact hy2
set_option maxRecDepth 100000 in
theorem Xl (A:Option Addr) (n c:Nat) (xs:List Value) (w:World) (vb cu:Nat) (y1 y2:Value) (hA:A=none→n=0∧c=0) (hl:xs.length=n*2) (hc:∀b,A=some b→ ∀j u,xs[j]? = some u→w.cell? (b.add j)=some u) (hnc:n≤c) (hroom:c<n+1) (hn:n≤1000000)
  (hy1:w.cell? ⟨vb,0,none⟩=some y1) (hy2:w.cell? ⟨vb,1,none⟩=some y2) (h1:y1.oneCell'=true) (h2:y2.oneCell'=true):
  Calls Try.prog 68 #[.slice A n c,.int .i64 n,.slice (some ⟨vb,0,none⟩) 1 cu] w fun en w'=>∃v',en= .returned v'∧w'.ownsRow w.heap.size 53 2 v' (n+1) (xs++ [y1,y2])∧w.grownBy w' none:=by
 have hnews:=ZbP hy1 hy2;have h1':∀u∈([y1,y2]:List Value),u.oneCell'=true:=by simp[h1,h2]
 have hcm:c≤9223372036854775807:=by omega
 go_enter Try.func68,Try.ntmps68
 go_wp2_with (at_builtin;refine wpList_append_grows _ rfl _ _ 38 rfl 53 _ _ 2 40 Try.underlying38 rfl rfl rfl rfl rfl (by decide) A _ _ xs rfl hA hl hc ⟨vb,0,none⟩ 1 cu [y1,y2] rfl rfl hnews h1' (by omega) (by rw[Zh];omega) (by omega) ?_;intro v' w' g1 g2)
 all_goals (go_ret;exact⟨v',rfl,g1,g2⟩)
set_option maxRecDepth 100000 in
theorem Ud (b n c:Nat) (cur:List Value) (w:World) (vb cu:Nat) (y1 y2:Value) (hg:w.heap[b]? = some (.cells ⟨cur⟩ 53 (0,0))) (hcs:cur.length=c*2) (hroom:n+1≤c) (hcm:c≤maxLen)
  (hy1:w.cell? ⟨vb,0,none⟩=some y1) (hy2:w.cell? ⟨vb,1,none⟩=some y2) (h1:y1.oneCell'=true) (h2:y2.oneCell'=true):
  Calls Try.prog 68 #[.slice (some ⟨b,0,none⟩) n c,.int .i64 n,.slice (some ⟨vb,0,none⟩) 1 cu] w fun en w'=>en= .returned (.slice (some ⟨b,0,none⟩) (n+1) c)∧ ∃cur':List Value,w'.heap[b]? = some (.cells ⟨cur'⟩ 53 (0,0))∧cur'.length=c*2∧
   cur'.take ((n+1)*2)=cur.take (n*2)++ [y1,y2]∧w.grownBy w' (some b):=by
 have hnews:=ZbP hy1 hy2;have h1':∀u∈([y1,y2]:List Value),u.oneCell'=true:=by simp[h1,h2]
 rw[Zh]at hcm;have hnc:n≤c:=by omega
 have hb4:¬(c=n):=by omega
 obtain⟨W,hW⟩:∃W,W=w.setRow b (cur.take (n*2)++ [y1,y2]++cur.drop (n*2+2)).toArray:=⟨_,rfl⟩;have hr:∀ty,(Builtin.append_ #[38,38] ty #[.slice (some ⟨b,0,none⟩) n c,.slice (some ⟨vb,0,none⟩) 1 cu]).run Try.prog w= .ok (.slice (some ⟨b,0,none⟩) (n+1) c) W:=fun ty=>by
  rw[hW];exact run_append_room (P:=Try.prog) w 38 ty 53 _ Try.underlying38 rfl b n c ⟨cur⟩ hg ⟨vb,0,none⟩ 1 cu [y1,y2] rfl hnews h1' hroom (by show n*2+2≤cur.length;omega)
 replace hW:KeepP (W=_):=⟨hW⟩
 go_enter Try.func68,Try.ntmps68
 go_wp2_with (at_builtin;refine Lib.wpList_append_run _ rfl _ _ _ _ rfl _ _ rfl rfl _ _ (hr _) ?_)
 go_ret
 rw[hW.out];refine⟨rfl,_,setRow_heap w b _ _ _ _ hg,?_,?_,?_⟩
 ·simp only[List.length_append,List.length_take,List.length_drop,List.length_cons,List.length_nil];omega
 ·refine(List.take_left' ?_);simp only[List.length_append,List.length_take,List.length_cons,List.length_nil];omega
 ·have h:∀l,BelowF (fun k=>k≠b) w (w.setRow b l):=fun l=>ZY (by simp)
  exact⟨(h _).os,(h _).tape,(h _).output,(h _).size,fun k _ hk=>(h _).block k fun e=>hk (by rw[e])⟩
set_option maxRecDepth 100000 in
theorem SO (b n c i:Nat) (cur:List Value) (w:World) (vb cu:Nat) (ys:List Value) (y1 y2:Value) (hg:w.heap[b]? = some (.cells ⟨cur⟩ 53 (0,0))) (hcs:cur.length=c*2) (hi:i<n) (hroom:n+1≤c) (hcm:c≤maxLen) (hne:vb≠b)
  (hv:w.heap[vb]? = some (.cells ⟨ys⟩ 53 (0,0))) (hy1:ys[0]? = some y1) (hy2:ys[1]? = some y2) (h1:y1.oneCell'=true) (h2:y2.oneCell'=true) (hx1:∀x∈cur.take (n*2),x.oneCell'=true):
  Calls Try.prog 68 #[.slice (some ⟨b,0,none⟩) n c,.int .i64 i,.slice (some ⟨vb,0,none⟩) 1 cu] w fun en w'=>en= .returned (.slice (some ⟨b,0,none⟩) (n+1) c)∧ ∃cur':List Value,w'.heap[b]? = some (.cells ⟨cur'⟩ 53 (0,0))∧cur'.length=c*2∧
   cur'.take ((n+1)*2)=(cur.take (n*2)).take (i*2)++ [y1,y2]++(cur.take (n*2)).drop (i*2)∧w.grownBy w' (some b):=by
 have hz2:¬((i:Int)=(n:Int)):=by omega
 have mixed:Try.prog.follows .mixedOrders=true:=by kernel_rfl
 rw[Zh]at hcm;have hw1:IntKind.i64.wrap ((i:Int)+1)=(i:Int)+1:=by rw[IntKind.wrap_i64];omega
 have hw2:IntKind.i64.wrap ((n:Int)+1)=(n:Int)+1:=by rw[IntKind.wrap_i64];omega
 have htn:((i:Int)+1).toNat=i+1:=by omega
 have htm:((n:Int)+1).toNat=n+1:=by omega
 have hb1:(0:Int)≤(i:Int)+1:=by omega
 have hb0:(0:Int)≤(n:Int)+1:=by omega
 have hb2:¬(c=i+1):=by omega
 have hb3:(i:Int)≤(n:Int)+1:=by omega
 have hb4:¬(c=i):=by omega
 have hb5:¬((c:Int)<(n:Int)+1):=by omega
 have hin:i≤n:=by omega
 have hsz:(Try.prog.info? 53).map (·.size)=some 2:=rfl;have hsh:∀ {k:Nat} {l:List Value},w.heap[k]? = some (.cells ⟨l⟩ 53 (0,0))→w.shape? k=some (53,l.length)∧ ∀o,w.frozen? ⟨k,o,none⟩=false:=fun h=>⟨by simp[World.shape?,h],fun o=>by simp[World.frozen?,h]⟩
 have hov:∀lb cb,(callFunc 100 #[.slice (some ⟨vb,0,none⟩) 1 cu,.slice (some ⟨b,(i+1)*2,none⟩) lb cb]).run Try.prog w= .ok (.value (.bool false)) w:=fun lb cb=>by
  rw[run_callFunc_extern Try.func100 (by kernel_rfl) (by kernel_rfl) (by kernel_rfl) (e:=Extern.SlicesOverlaps.overlaps #[38,38] #[4]) (by kernel_rfl),
   Lib.run_overlaps_apart w 38 4 53 Try.underlying38 2 Try.sizeOf53 ⟨vb,0,none⟩ ⟨b,(i+1)*2,none⟩ 1 cu lb cb hne _ _ _ _ (hsh hv).1 (hsh hg).1 (by omega) ((hsh hv).2 _) ((hsh hv).2 _)]
  rfl
 have hmin:Nat.min (n+1-i) (n-i)=n-i:=by simp only[Nat.min_def];split<;>omega
 have hdl:((cur.take (n*2)).drop (i*2)).length=(n-i)*2:=by rw[List.length_drop,List.length_take];omega
 have hcp1:∀ty dc sc,(Builtin.copy_ #[38,38] ty #[.slice (some ⟨b,(i+1)*2,none⟩) (n-i) dc,.slice (some ⟨b,i*2,none⟩) (n+1-i) sc]).run Try.prog w.drew= .ok (goInt ((n-i:Nat):Int)) (w.drew.setRow b (cur.take ((i+1)*2)++(cur.take (n*2)).drop (i*2)++cur.drop ((i+1)*2+((cur.take (n*2)).drop (i*2)).length)).toArray):=fun ty dc sc=>by
  have h0:=Wl (P:=Try.prog) w.drew 38 38 ty 53 2 b ((i+1)*2) (n-i) dc ⟨b,i*2,none⟩ (n+1-i) sc ⟨cur⟩ _ ((cur.take (n*2)).drop (i*2)) Try.underlying38 hsz hg (by rw[hmin,hdl])
   (fun j v hj=>by
    rw[ZJ];rw[List.getElem?_drop]at hj;have:=List.getElem?_eq_some_iff.1 hj;rw[List.getElem?_take]at hj;split at hj
    ·show w.cell? _=_;rw[Z0 hg];exact hj
    ·cases hj) (by rw[hdl];show _≤cur.length;omega) (fun v hv=>hx1 v (List.mem_of_mem_drop hv))
  rw[hmin]at h0;exact h0
 obtain⟨cur1,hcur1⟩:∃cur1,cur1=cur.take ((i+1)*2)++(cur.take (n*2)).drop (i*2)++cur.drop ((i+1)*2+((cur.take (n*2)).drop (i*2)).length):=⟨_,rfl⟩;rw[←hcur1]at hcp1;have hl1:cur1.length=c*2:=by
  rw[hcur1,hdl];simp only[List.length_append,List.length_take,List.length_drop];omega
 obtain⟨W1,hW1⟩:∃W1,W1=w.drew.setRow b cur1.toArray:=⟨_,rfl⟩;rw[←hW1]at hcp1;have hg1:W1.heap[b]? = some (.cells ⟨cur1⟩ 53 (0,0)):=by rw[hW1];exact setRow_heap w.drew b _ _ _ _ hg
 have hv1:W1.heap[vb]? = some (.cells ⟨ys⟩ 53 (0,0)):=by rw[hW1];exact(setRow_other w.drew b vb _ hne).trans hv
 have hcp2:∀ty dc,(Builtin.copy_ #[38,38] ty #[.slice (some ⟨b,i*2,none⟩) (n+1-i) dc,.slice (some ⟨vb,0,none⟩) 1 cu]).run Try.prog W1= .ok (goInt 1) (W1.setRow b (cur1.take (i*2)++ [y1,y2]++cur1.drop (i*2+2)).toArray):=fun ty dc=>by
  have hm:Nat.min 1 (n+1-i)=1:=by simp only[Nat.min_def];split<;>omega
  have:=Wl (P:=Try.prog) W1 38 38 ty 53 2 b (i*2) (n+1-i) dc ⟨vb,0,none⟩ 1 cu ⟨cur1⟩ _ [y1,y2] Try.underlying38 hsz hg1 (by rw[hm];rfl)
   (fun j v hj=>by
    rw[ZJ,Z0 hv1]
    match j,hj with
    |0,hj=>simp at hj;subst hj;exact hy1
    |1,hj=>simp at hj;subst hj;exact hy2) (by show i*2+2≤cur1.length;omega) (by simp[h1,h2])
  rw[hm]at this;exact this
 go_enter Try.func68,Try.ntmps68
 replace hcur1:KeepP (cur1=_):=⟨hcur1⟩
 replace hW1:KeepP (W1=_):=⟨hW1⟩
 replace hg1:KeepP (W1.heap[b]? = _):=⟨hg1⟩
 go_wp2_with (simp only[hov])
 go_region_law_o (refine Te rfl _ _ 38 38 rfl _ _ (by simp[Act.eval,Act.put]) (by simp[Act.eval,Act.put]) (hcp1 _ _ _) ?_)
 go_wp2_with (at_builtin;refine Gc _ rfl _ _ 38 38 rfl _ _ rfl rfl (hcp2 _ _) ?_)
 go_ret
 refine⟨rfl,_,setRow_heap W1 b _ _ _ _ hg1.out,?_,?_,?_⟩
 ·simp only[List.length_append,List.length_take,List.length_drop,List.length_cons,List.length_nil];omega
 ·have e0:(cur.take ((i+1)*2)).length=i*2+2:=by rw[List.length_take];omega
  have e1:cur1.take (i*2)=(cur.take (n*2)).take (i*2):=by
   rw[hcur1.out,List.append_assoc,List.take_append_of_le_length (by omega),List.take_take,List.take_take];congr 1;rw[Nat.min_def,Nat.min_def];split<;>split<;>omega
  have e2:cur1.drop (i*2+2)=(cur.take (n*2)).drop (i*2)++cur.drop ((i+1)*2+((cur.take (n*2)).drop (i*2)).length):=by
   rw[hcur1.out,List.append_assoc,List.drop_left' e0]
  have e3:∀A B C:List Value,A++y1::y2::(B++C)=(A++ [y1,y2]++B)++C:=by simp
  rw[e1,e2];simp only[List.append_assoc,List.cons_append,List.nil_append];rw[e3];refine(List.take_left' ?_).trans (by simp);simp only[List.length_append,List.length_take,List.length_cons,List.length_nil,List.length_drop];omega
 ·rw[hW1.out];have h:∀l1 l2,BelowF (fun k=>k≠b) w ((w.drew.setRow b l1).setRow b l2):=fun l1 l2=>((BelowF.refl _ w).drew.trans (ZY (by simp))).trans (ZY (by simp))
  exact⟨(h _ _).os,(h _ _).tape,(h _ _).output,(h _ _).size,fun k _ hk=>(h _ _).block k fun e=>hk (by rw[e])⟩
set_option maxRecDepth 100000 in
theorem Gy (b n c i:Nat) (cur:List Value) (w:World) (vb cu:Nat) (ys:List Value) (y1 y2:Value) (hg:w.heap[b]? = some (.cells ⟨cur⟩ 53 (0,0))) (hcs:cur.length=c*2) (hi:i<n) (hnc:n≤c) (hroom:c<n+1) (hn:n≤1000000)
  (hv:w.heap[vb]? = some (.cells ⟨ys⟩ 53 (0,0))) (hy1:ys[0]? = some y1) (hy2:ys[1]? = some y2) (h1:y1.oneCell'=true) (h2:y2.oneCell'=true) (hx1:∀x∈cur.take (n*2),x.oneCell'=true):
  Calls Try.prog 68 #[.slice (some ⟨b,0,none⟩) n c,.int .i64 i,.slice (some ⟨vb,0,none⟩) 1 cu] w fun en w'=>∃G,en= .returned (.slice (some ⟨w.heap.size,0,none⟩) (n+1) G)∧n+1≤G∧G≤maxLen∧ ∃cur':List Value,w'.heap[w.heap.size]? = some (.cells ⟨cur'⟩ 53 (0,0))∧cur'.length=G*2∧
   cur'.take ((n+1)*2)=(cur.take (n*2)).take (i*2)++ [y1,y2]++(cur.take (n*2)).drop (i*2)∧w.grownBy w' none:=by
 have hz2:¬((i:Int)=(n:Int)):=by omega
 have mixed:Try.prog.follows .mixedOrders=true:=by kernel_rfl
 have hbw:b<w.heap.size:=(Array.getElem?_eq_some_iff.1 hg).1;have hvw:vb<w.heap.size:=(Array.getElem?_eq_some_iff.1 hv).1;have hw1:IntKind.i64.wrap ((i:Int)+1)=(i:Int)+1:=by rw[IntKind.wrap_i64];omega
 have hw2:IntKind.i64.wrap ((n:Int)+1)=(n:Int)+1:=by rw[IntKind.wrap_i64];omega
 have hw3:IntKind.i64.wrap ((n:Int)+1-(i:Int))=(n:Int)+1-(i:Int):=by rw[IntKind.wrap_i64];omega
 have htn:((i:Int)+1).toNat=i+1:=by omega
 have hb1:(0:Int)≤(i:Int)+1:=by omega
 have hb3:(i:Int)≤(n:Int):=by omega
 have hb4:¬(c=i):=by omega
 have hb5:(c:Int)<(n:Int)+1:=by omega
 have hin:i≤n:=by omega
 have hic:i≤c:=by omega
 have hsz:(Try.prog.info? 53).map (·.size)=some 2:=rfl;have hkk:(n:Int)+1-(i:Int)=((n+1-i:Nat):Int):=by omega
 have hik:i+(n+1-i)=n+1:=by omega
 have hXl:(cur.take (n*2)).length=n*2:=by rw[List.length_take];omega
 have hdl:((cur.take (n*2)).drop (i*2)).length=(n-i)*2:=by rw[List.length_drop,hXl];omega
 have htl:((cur.take (n*2)).take (i*2)).length=i*2:=by rw[List.length_take,hXl];omega
 have hold:(Builtin.firstCells 2 i (.slice (some ⟨b,0,none⟩) i c)).run Try.prog w.drew= .ok ((cur.take (n*2)).take (i*2)).toArray w.drew:=
  run_firstCells_some w.drew 2 i ⟨b,0,none⟩ i c ((cur.take (n*2)).take (i*2)) htl (fun j v hj=>by
   rw[ZJ,Nat.zero_add];rw[List.getElem?_take]at hj;split at hj
   ·rw[List.getElem?_take]at hj;split at hj
    ·show w.cell? _=_;rw[Z0 hg];exact hj
    ·cases hj
   ·cases hj)
 have hrz:∀ty,(Builtin.append_ #[38,3] ty #[.slice (some ⟨b,0,none⟩) i c,.int .i64 ((n:Int)+1-(i:Int))]).run Try.prog w=
   .ok (.slice (some ⟨w.heap.size,0,none⟩) (n+1) (grownCap w (n+1) c 53)) (w.drew.alloc (.cells (((cur.take (n*2)).take (i*2)).toArray++Builtin.zeroCells (Value.agg #[.string ⟨#[]⟩,.slice none 0 0]).cells (n+1-i)++Builtin.zeroCells (Value.agg #[.string ⟨#[]⟩,.slice none 0 0]).cells (grownCap w (n+1) c 53-(n+1))) 53)):=fun ty=>by
  have h:=Lib.run_append_grow_zeros (P:=Try.prog) w 38 3 ty 53 _ _ .i64 .i64 Try.underlying38 Try.underlying3 rfl rfl (some ⟨b,0,none⟩) i c ((cur.take (n*2)).take (i*2)) hold (n+1-i) (by omega) (by decide) (by omega) (by omega) (by show(n+1-i)*40≤_;omega) (by rw[hik];exact growslice_fits hroom (by show(n+1)*40≤_;omega));rw[hik]at h;rw[hkk];exact h
 obtain⟨G,hG⟩:∃G,G=grownCap w (n+1) c 53:=⟨_,rfl⟩;have hGn:n+1≤G:=by rw[hG];exact grownCap_ge w _ _ _
 have hGm:G≤maxLen:=by rw[hG];exact grownCap_le_maxLen w (n+1) c _ (by rw[Zh];omega)
 rw[←hG]at hrz;obtain⟨ROW,hROW⟩:∃ROW:List Value,ROW=(cur.take (n*2)).take (i*2)++(Builtin.zeroCells (Value.agg #[.string ⟨#[]⟩,.slice none 0 0]).cells (n+1-i)).toList++(Builtin.zeroCells (Value.agg #[.string ⟨#[]⟩,.slice none 0 0]).cells (G-(n+1))).toList:=⟨_,rfl⟩;have hROW2:((cur.take (n*2)).take (i*2)).toArray++Builtin.zeroCells (Value.agg #[.string ⟨#[]⟩,.slice none 0 0]).cells (n+1-i)++Builtin.zeroCells (Value.agg #[.string ⟨#[]⟩,.slice none 0 0]).cells (G-(n+1))=⟨ROW⟩:=by
  rw[hROW];apply Array.toList_inj.1;simp
 rw[hROW2]at hrz;have hRl:ROW.length=G*2:=by
  have z2:(Value.agg #[.string ⟨#[]⟩,.slice none 0 0]).cells.size=2:=rfl;rw[hROW];simp only[List.length_append,htl,Array.length_toList,size_zeroCells,z2];omega
 have hRt:ROW.take (i*2)=(cur.take (n*2)).take (i*2):=by rw[hROW,List.append_assoc];exact List.take_left' htl
 have hbN:b≠w.heap.size:=by omega
 have hvN:vb≠w.heap.size:=by omega
 have hN0:(w.drew.alloc (.cells ⟨ROW⟩ 53)).heap[w.heap.size]? = some (.cells ⟨ROW⟩ 53 (0,0)):=heap_alloc_new w.drew _;have hO0:∀k,k<w.heap.size→(w.drew.alloc (.cells ⟨ROW⟩ 53)).heap[k]? = w.heap[k]? :=fun k hk=>heap_alloc_old w.drew (.cells ⟨ROW⟩ 53) hk
 obtain⟨R1,hR1⟩:∃R1,R1=ROW.take (i*2)++ [y1,y2]++ROW.drop (i*2+2):=⟨_,rfl⟩;have hl1:R1.length=G*2:=by
  rw[hR1];simp only[List.length_append,List.length_take,List.length_drop,List.length_cons,List.length_nil];omega
 have hcpA:∀W,W=w.drew.alloc (.cells ⟨ROW⟩ 53)→ ∀ty dc,(Builtin.copy_ #[38,38] ty #[.slice (some ⟨w.heap.size,i*2,none⟩) (n+1-i) dc,.slice (some ⟨vb,0,none⟩) 1 cu]).run Try.prog W= .ok (goInt 1) (W.setRow w.heap.size ⟨R1⟩):=fun W hW ty dc=>by
  subst hW;have hm:Nat.min 1 (n+1-i)=1:=by simp only[Nat.min_def];split<;>omega
  have:=Wl (P:=Try.prog) _ 38 38 ty 53 2 w.heap.size (i*2) (n+1-i) dc ⟨vb,0,none⟩ 1 cu ⟨ROW⟩ _ [y1,y2] Try.underlying38 hsz hN0 (by rw[hm];rfl)
   (fun j v hj=>by
    rw[ZJ,Z0 ((hO0 vb hvw).trans hv)]
    match j,hj with
    |0,hj=>simp at hj;subst hj;exact hy1
    |1,hj=>simp at hj;subst hj;exact hy2) (by show i*2+2≤ROW.length;omega) (by simp[h1,h2])
  rw[hm]at this;rw[hR1];exact this
 have hcpB:∀W,W=((w.drew.alloc (.cells ⟨ROW⟩ 53)).setRow w.heap.size ⟨R1⟩).drew→ ∀ty dc sc,(Builtin.copy_ #[38,38] ty #[.slice (some ⟨w.heap.size,(i+1)*2,none⟩) (n-i) dc,.slice (some ⟨b,i*2,none⟩) (n-i) sc]).run Try.prog W= .ok (goInt ((n-i:Nat):Int)) (W.setRow w.heap.size (R1.take ((i+1)*2)++(cur.take (n*2)).drop (i*2)++R1.drop ((i+1)*2+((cur.take (n*2)).drop (i*2)).length)).toArray):=fun W hW ty dc sc=>by
  have hN1:W.heap[w.heap.size]? = some (.cells ⟨R1⟩ 53 (0,0)):=by rw[hW];exact setRow_heap _ _ _ _ _ _ hN0
  have hB1:W.heap[b]? = some (.cells ⟨cur⟩ 53 (0,0)):=by
   rw[hW];exact(setRow_other _ w.heap.size b _ hbN).trans ((hO0 b hbw).trans hg)
  have hm:Nat.min (n-i) (n-i)=n-i:=Nat.min_self _;have:=Wl (P:=Try.prog) W 38 38 ty 53 2 w.heap.size ((i+1)*2) (n-i) dc ⟨b,i*2,none⟩ (n-i) sc ⟨R1⟩ _ ((cur.take (n*2)).drop (i*2)) Try.underlying38 hsz hN1 (by rw[hm,hdl])
   (fun j v hj=>by
    rw[ZJ,Z0 hB1];rw[List.getElem?_drop]at hj;rw[List.getElem?_take]at hj;split at hj
    ·exact hj
    ·cases hj) (by rw[hdl];show _≤R1.length;omega) (fun v hv=>hx1 v (List.mem_of_mem_drop hv))
  rw[hm]at this;exact this
 have hGi:¬(G=i):=by omega
 have hGim:¬(G=i+1):=by omega
 have hG63:G≤9223372036854775807:=by rw[Zh]at hGm;exact hGm
 replace hROW:KeepP (ROW=_):=⟨hROW⟩
 replace hR1:KeepP (R1=_):=⟨hR1⟩
 replace hN0:=KeepP.mk hN0
 replace hO0:=KeepP.mk hO0
 replace hRt:=KeepP.mk hRt
 replace hG:KeepP (G=_):=⟨hG⟩
 clear hROW2 hold hkk hik
 go_enter Try.func68,Try.ntmps68
 go_wp2_with (at_builtin;refine Lib.wpList_append_run _ rfl _ _ _ _ rfl _ _ rfl rfl _ _ (hrz _) ?_)
 rw[hcpA _ (by rfl)]
 go_wp2
 go_region_law_o (refine Te rfl _ _ 38 38 rfl (.slice (some ⟨w.heap.size,(i+1)*2,none⟩) (n-i) (G-(i+1))) (.slice (some ⟨b,i*2,none⟩) (n-i) (c-i)) (by simp[Act.eval,Act.put]) (by simp[Act.eval,Act.put]) (hcpB _ (by rfl) 3 (G-(i+1)) (c-i)) ?_)
 go_wp2
 go_ret
 refine⟨G,rfl,hGn,hGm,_,setRow_heap _ _ _ _ _ _ (setRow_heap _ _ _ _ _ _ hN0.out),?_,?_,?_⟩
 ·simp only[List.length_append,List.length_take,List.length_drop];omega
 ·have e1:R1.take ((i+1)*2)=(cur.take (n*2)).take (i*2)++ [y1,y2]:=by
   rw[hR1.out,hRt.out];refine List.take_left' ?_;simp only[List.length_append,htl,List.length_cons,List.length_nil];omega
  have e3:∀A B C:List Value,A++y1::y2::(B++C)=(A++ [y1,y2]++B)++C:=by simp
  rw[e1];simp only[List.append_assoc,List.cons_append,List.nil_append];rw[e3];refine(List.take_left' ?_).trans (by simp);simp only[List.length_append,htl,hdl,List.length_cons,List.length_nil];omega
 ·have h:∀l1 l2,BelowF (fun k=>k<w.heap.size) w (((w.alloc (.cells ⟨ROW⟩ 53)).drew.setRow w.heap.size l1).drew.setRow w.heap.size l2):=fun l1 l2=>
   (((((BelowF.refl (fun k=>k<w.heap.size) w).alloc (fun _ h=>h) _).drew).trans (ZY (Nat.lt_irrefl _))).drew).trans (ZY (Nat.lt_irrefl _))
  exact⟨(h _ _).os,(h _ _).tape,(h _ _).output,(h _ _).size,fun k hk _=>(h _ _).block k hk⟩
open Go.PL
theorem ZlL {a b:Rw} (h1:a.item=b.item) (h2:a.l=b.l):a=b:=by cases a;cases b;simp_all
theorem Zlk {a b:Dc} (h1:a.head=b.head) (h2:a.rows=b.rows):a=b:=by cases a;cases b;simp_all
theorem ZT (a b:Dc) (ha:Vk a) (hb:Vk b):PL.Pure Try.prog 21 [doc a,doc b] (.bool (decide (a=b))):=by
 obtain⟨a1,a2,a3,a4⟩:=ha;obtain⟨b1,b2,b3,b4⟩:=hb;have hH:=Y9 a.head b.head a1 b1 a3 b3
 by_cases hl:a.rows.length=b.rows.length
 ·have hl':((a.rows.length:Int) !=(b.rows.length:Int))=false:=by rw[hl];exact bne_self_eq_false _
  by_cases hh:a.head=b.head
  ·rw[decide_eq_true hh]at hH;refine ZO Try.func21 rfl Try.ntmps21 Try.results21 ?_;simp only[go_sem,doc,hl'];refine vc1 (hH) ?_;simp only[go_sem];refine ZK (ι:= { k:Nat // k≤a.rows.length∧ ∀j,j<k→a.rows.getD j default=b.rows.getD j default }) 57 (fun x=> [(2,.ptr 2 0),(3,.ptr 3 0),(5,.int .i64 (x.1:Int))]) (fun x=> [(2,[.sl .no (a.head.map ent),.sl .no (a.rows.map row)],false),(3,[.sl .no (b.head.map ent),.sl .no (b.rows.map row)],false)]) (fun x=> []) (fun x=>a.rows.length-x.1) ⟨0,by omega,fun j hj=>by omega⟩
    ⟨rfl,(Fc3 rfl rfl rfl),Fc2 ⟨rfl,rfl⟩ ⟨rfl,rfl⟩,fnl⟩ (fun x=>⟨(Fc3 rfl rfl rfl),(Fc2 rfl rfl)⟩) (fun x=> ?_)
   obtain⟨k,hk,hall⟩:=x;simp only
   by_cases h:(k:Int)<(a.rows.length:Int)
   ·have hka:k<a.rows.length:=by omega
    have hkb:k<b.rows.length:=by omega
    have w1:=Wp hka a2;have i1:(0:Int)≤(k:Int):=by omega
    have i2:(k:Int)<(b.rows.length:Int):=by omega
    have ra:=a4 _ (Zg (d:=default) hka);have rb:=b4 _ (Zg (d:=default) hkb);have hc:=Y9 _ _ ra.1 rb.1 ra.2 rb.2
    by_cases e1:(a.rows.getD k default).item=(b.rows.getD k default).item
    ·have e1':((a.rows.getD k default).item==(b.rows.getD k default).item)=true:=beq_iff_eq.2 e1
     by_cases e2:(a.rows.getD k default).l=(b.rows.getD k default).l
     ·rw[decide_eq_true e2]at hc;simp only[go_sem,h];refine vDq ?_;simp only[go_sem,ZC hka,ZC hkb,row,h,i1,i2,e1'];refine vc1 (hc) ?_;simp only[go_sem,w1];exact⟨⟨k+1,by omega,Zn hall (ZlL e1 e2)⟩,by show a.rows.length-(k+1)<a.rows.length-k;omega,⟨rfl,(Fc3 rfl rfl rfl),Fc2 ⟨rfl,rfl⟩ ⟨rfl,rfl⟩,fnl⟩⟩
     ·rw[decide_eq_false e2]at hc;have hab:¬a=b:=fun e=>e2 (by rw[e])
      simp only[go_sem,h];refine vDq ?_;simp only[go_sem,ZC hka,ZC hkb,row,h,i1,i2,e1'];refine vc1 (hc) ?_;simp only[go_sem,hab]
    ·have e1':((a.rows.getD k default).item==(b.rows.getD k default).item)=false:=beq_eq_false_iff_ne.2 e1;have hab:¬a=b:=fun e=>e1 (by rw[e])
     simp only[go_sem,h];refine vDq ?_;simp only[go_sem,ZC hka,ZC hkb,row,h,i1,i2,e1',hab]
   ·have hab:decide (a=b)=true:=decide_eq_true (Zlk hh (Vy (d:=default) hl fun j hj=>hall j (by omega)));simp only[go_sem,h,hab]
  ·rw[decide_eq_false hh]at hH;have hab:¬a=b:=fun e=>hh (by rw[e])
   refine ZO Try.func21 rfl Try.ntmps21 Try.results21 ?_;simp only[go_sem,doc,hl'];refine vc1 (hH) ?_;simp only[go_sem,hab]
 ·have hl':((a.rows.length:Int) !=(b.rows.length:Int))=true:=bne_iff_ne.2 (by omega);have hab:¬a=b:=fun e=>hl (by rw[e])
  refine ZO Try.func21 rfl Try.ntmps21 Try.results21 ?_;simp only[go_sem,doc,hl',hab]
def Fg (f:Fd):Bool:=Xk 200 f.at'.gr||(Xk 200 f.at'.nm||(Xk 200 f.df||decide (20<(f.cases'.length:Int))))
def VD (f:Fd):Bool:=Fg f||f.cases'.any (Xk 200)
def ST (l:List Fd):Bool:=decide (40<(l.length:Int))||l.any VD
theorem ZaG (f:Fd) (hl:f.cases'.length≤maxLen):PL.Pure Try.prog 45 [fld f] (.bool (VD f)):=by
 have top:∀b,Fg f=b→(∀(_:b=true),VD f=true):=fun b hb h=>by simp only[VD,hb,h,Bool.true_or]
 cases ht:Fg f
 ·have hx:VD f=f.cases'.any (Xk 200):=by simp only[VD,ht,Bool.false_or]
  rw[hx];simp only[Fg,Xk,Bool.or_eq_false_iff,decide_eq_false_iff_not]at ht;obtain⟨t1,t2,t3,t4⟩:=ht;have t1:¬(200:Int)<(f.at'.gr.length:Int):=by omega
  have t2:¬(200:Int)<(f.at'.nm.length:Int):=by omega
  have t3:¬(200:Int)<(f.df.length:Int):=by omega
  refine ZO Try.func45 rfl Try.ntmps45 Try.results45 ?_;simp only[go_sem,fld,t1,t2,t3,t4];refine ZK (ι:= { k:Nat // k≤f.cases'.length∧ ∀j,j<k→Xk 200 (f.cases'.getD j [])=false }) 42 (fun x=> [(1,.ptr 1 0),(3,.int .i64 (x.1:Int))]) (fun x=> [(1,[.int .i64 f.at'.sc,.str f.at'.gr,.str f.at'.nm,.int .i64 f.kind,.str f.df,.sl .no (f.cases'.map .str),.int .i64 f.worth],false)]) (fun x=> []) (fun x=>f.cases'.length-x.1) ⟨0,by omega,fun j hj=>by omega⟩
   ⟨rfl,(Fc2 rfl rfl),fcs ⟨rfl,rfl⟩ fnl,fnl⟩ (fun x=>⟨(Fc2 rfl rfl),(fcs rfl fnl)⟩) (fun x=> ?_)
  obtain⟨k,hk,hall⟩:=x;simp only
  by_cases h:(k:Int)<(f.cases'.length:Int)
  ·have hka:k<f.cases'.length:=by omega
   have w1:=Wp hka hl;have i1:(0:Int)≤(k:Int):=by omega
   by_cases g:(200:Int)<((f.cases'.getD k []).length:Int)
   ·have hz:=Wf (p:=Xk 200) hka (d:= []) (by simp only[Xk,decide_eq_true_eq];omega);simp only[go_sem,h,ZG hka,i1,g,hz]
   ·simp only[go_sem,h,ZG hka,i1,g,w1];exact⟨⟨k+1,by omega,Zn hall (by simp only[Xk,decide_eq_false_iff_not];omega)⟩,by show f.cases'.length-(k+1)<f.cases'.length-k;omega,⟨rfl,(Fc2 rfl rfl),fcs ⟨rfl,rfl⟩ fnl,fnl⟩⟩
  ·have hz:=WF (p:=Xk 200) (d:= []) (l:=f.cases') (fun j hj=>hall j (by omega));simp only[go_sem,h,hz]
 ·have hx:=top _ ht rfl;rw[hx];simp only[Fg,Xk,Bool.or_eq_true,decide_eq_true_eq]at ht
  by_cases t1:(200:Int)<(f.at'.gr.length:Int)
  ·refine ZO Try.func45 rfl Try.ntmps45 Try.results45 ?_;simp only[go_sem,fld,t1]
  ·by_cases t2:(200:Int)<(f.at'.nm.length:Int)
   ·refine ZO Try.func45 rfl Try.ntmps45 Try.results45 ?_;simp only[go_sem,fld,t1,t2]
   ·by_cases t3:(200:Int)<(f.df.length:Int)
    ·refine ZO Try.func45 rfl Try.ntmps45 Try.results45 ?_;simp only[go_sem,fld,t1,t2,t3]
    ·have t4:(20:Int)<(f.cases'.length:Int):=by omega
     refine ZO Try.func45 rfl Try.ntmps45 Try.results45 ?_;simp only[go_sem,fld,t1,t2,t3,t4]
theorem SP (l:List Fd) (hl:l.length≤maxLen) (hl':∀f∈l,f.cases'.length≤maxLen):PL.Pure Try.prog 16 [Zj l] (.bool (ST l)):=by
 by_cases h40:(40:Int)<(l.length:Int)
 ·refine ZO Try.func16 rfl Try.ntmps16 Try.results16 ?_;simp only[go_sem,Zj,h40,ST]
 ·have hx:ST l=l.any VD:=by simp only[ST,h40,decide_false,Bool.false_or]
  rw[hx];refine ZO Try.func16 rfl Try.ntmps16 Try.results16 ?_;simp only[go_sem,Zj,h40];refine ZK (ι:= { k:Nat // k≤l.length∧ ∀j,j<k→VD (l.getD j default)=false }) 18 (fun x=> [(0,Zj l),(3,.int .i64 (x.1:Int))]) (fun x=> []) (fun x=> []) (fun x=>l.length-x.1) ⟨0,by omega,fun j hj=>by omega⟩
   ⟨rfl,(Fc2 rfl rfl),fnl,fnl⟩ (fun x=>⟨(Fc2 rfl rfl),fnl⟩) (fun x=> ?_)
  obtain⟨k,hk,hall⟩:=x;simp only
  by_cases h:(k:Int)<(l.length:Int)
  ·have hka:k<l.length:=by omega
   have w1:=Wp hka hl;have i1:(0:Int)≤(k:Int):=by omega
   have hF:=ZaG (l.getD k default) (hl' _ (Zg hka));cases hf:VD (l.getD k default)
   ·rw[hf]at hF;simp only[go_sem,Zj,h,Zy hka,fld,i1];refine vc2 (hF) ?_;simp only[go_sem,w1];exact⟨⟨k+1,by omega,Zn hall hf⟩,by show l.length-(k+1)<l.length-k;omega,⟨rfl,(Fc2 rfl rfl),fnl,fnl⟩⟩
   ·rw[hf]at hF;have hz:=Wf (p:=VD) hka hf;simp only[go_sem,Zj,h,Zy hka,fld,i1];refine vc2 (hF) ?_;simp only[go_sem,hz]
  ·have hz:=WF (p:=VD) (d:=default) (l:=l) (fun j hj=>hall j (by omega));simp only[go_sem,Zj,h,hz]
end Go.Proofs.Ytmnibpgmcgdfpaa
namespace Go.PL
open Go.RowKit Go.Lib
section
variable {P:Program}
theorem Gb {ops:Array Oper} {o:Oper} {a:Act} {w:World} {K:Act→World→Prop} {Q:Exit→Act→World→Prop} {E:Prop}
  (hg:o.guard=none) (d x:Operand) (dT sT:TypeId) (hop:o.op=Op.call { callee:=Callee.builtin Builtin.append,args:= #[d,x],argTypes:= #[dT,sT] })
  (v u:Value) (hd:a.eval d=v) (hx:a.eval x=u) {v':Value} {w':World} (hr:(Builtin.append_ #[dT,sT] o.type #[v,u]).run P w= .ok v' w') (hK:K (a.put o.dst v') w'):
  if Region.wanted o (yielded ops a.tmps)=true then Oper.wp P o a w K Q else E:=by
 have hw:Region.wanted o (yielded ops a.tmps)=true:=by simp[Region.wanted,hg]
 rw[if_pos hw];unfold Oper.wp;simp[execOp,hop,resolve,invoke,builtin,hd,hx,hr,Result.andThen];exact hK
end
end Go.PL
namespace Go.Proofs.Ytmnibpgmcgdfpaa
open Go.PL Go.RowKit Go.Lib
set_option maxRecDepth 100000 in
theorem Zd1 (b k c i:Nat) (cur:List Value) (w:World) (hg:w.heap[b]? = some (.cells ⟨cur⟩ 53 (0,0))) (hcs:cur.length=c*2) (hi:i≤k) (hnc:k+1≤c) (hcm:c≤maxLen) (hx1:∀x∈cur.take ((k+1)*2),x.oneCell'=true):
  Calls Try.prog 114 #[.slice (some ⟨b,0,none⟩) (k+1) c,.int .i64 i,.int .i64 ((i+1:Nat):Int)] w fun en w'=>en= .returned (.slice (some ⟨b,0,none⟩) k c)∧ ∃cur':List Value,w'.heap[b]? = some (.cells ⟨cur'⟩ 53 (0,0))∧cur'.length=c*2∧
   cur'.take (k*2)=(cur.take ((k+1)*2)).take (i*2)++(cur.take ((k+1)*2)).drop ((i+1)*2)∧w.grownBy w' (some b):=by
 have mixed:Try.prog.follows .mixedOrders=true:=by kernel_rfl
 rw[Zh]at hcm;have e1:¬((i:Int)=((i+1:Nat):Int)):=by omega
 have b1:((i+1:Nat):Int)≤((k+1:Nat):Int):=by omega
 have b2:(i:Int)≤((i+1:Nat):Int):=by omega
 have b3:(0:Int)≤((i+1:Nat):Int):=by omega
 have b4:i≤c:=by omega
 have b7:(0:Int)≤(i:Int)+1:=by omega
 have b8:(0:Int)≤(k:Int)+1:=by omega
 have b5:i+1≤k+1:=by omega
 have b6:i+1≤c:=by omega
 have hm1:i+(k-i)=k:=by omega
 obtain⟨news,hnews⟩:∃news,news=(cur.take ((k+1)*2)).drop ((i+1)*2):=⟨_,rfl⟩;have hnl:news.length=(k-i)*2:=by rw[hnews,List.length_drop,List.length_take];omega
 obtain⟨cur1,hcur1⟩:∃cur1,cur1=cur.take (i*2)++news++cur.drop (i*2+news.length):=⟨_,rfl⟩;have hl1:cur1.length=c*2:=by
  rw[hcur1,hnl];simp only[List.length_append,List.length_take,List.length_drop,hnl];omega
 obtain⟨W1,hW1⟩:∃W1,W1=w.drew.setRow b cur1.toArray:=⟨_,rfl⟩;have hap:∀ty A,(A=(⟨b,(i+1)*2,none⟩:Addr)∨c=i+1)→(Builtin.append_ #[38,38] ty #[.slice (some ⟨b,0,none⟩) i c,.slice (some A) (k-i) (c-(i+1))]).run Try.prog w.drew= .ok (.slice (some ⟨b,0,none⟩) k c) W1:=fun ty A hA=>by
  have h0:=run_append_room (P:=Try.prog) w.drew 38 ty 53 _ Try.underlying38 rfl b i c ⟨cur⟩ hg A (k-i) (c-(i+1)) news hnl (fun j u hj=>by
   have hjl:=(List.getElem?_eq_some_iff.1 hj).1;rcases hA with rfl|hA
   ·rw[ZJ];show w.cell? _=_;rw[Z0 hg];rw[hnews,List.getElem?_drop,List.getElem?_take]at hj;split at hj
    ·exact hj
    ·cases hj
   ·omega) (fun u hu=>hx1 u (by rw[hnews]at hu;exact List.mem_of_mem_drop hu)) (by omega) (by show i*2+news.length≤cur.length;omega)
  rw[hm1]at h0;rw[h0,hW1,hcur1];rfl
 have hg1:W1.heap[b]? = some (.cells ⟨cur1⟩ 53 (0,0)):=by rw[hW1];exact setRow_heap w.drew b _ _ _ _ hg
 obtain⟨W2,hW2⟩:∃W2,W2=W1.setRow b (cur1.take (k*2)++([Value.string ⟨#[]⟩,Value.slice none 0 0]:List Value)++cur1.drop (k*2+2)).toArray:=⟨_,rfl⟩;have hz:∀w:World,(zeroValue 53).run Try.prog w= .ok (.agg ⟨[.string ⟨#[]⟩,.slice none 0 0]⟩) w:=fun w=>by
  kernel_rfl
 have hcl:∀ty cc,(Builtin.clear_ #[38] ty #[.slice (some ⟨b,k*2,none⟩) 1 cc]).run Try.prog W1= .ok (.tuple #[]) W2:=fun ty cc=>by
  have hst:=run_storeCells_at Try.prog b (k*2) 53 [.string ⟨#[]⟩,.slice none 0 0] 0 ⟨cur1⟩ W1 hg1 (by show k*2+0+2≤cur1.length;omega) (by simp[Value.oneCell']);simp only[Nat.add_zero]at hst;have hzc:(Builtin.zeroCells (Value.agg ⟨[.string ⟨#[]⟩,.slice none 0 0]⟩).cells 1).toList= [.string ⟨#[]⟩,.slice none 0 0]:=by kernel_rfl
  simp[Builtin.clear_,run_underlying Try.underlying38,hz,hzc,hst,Result.andThen,hW2]
 by_cases hc0:c=i+1
 ·subst hc0;obtain rfl:k=i:=by omega
  have b9:(k:Int)≤(k:Int)+1:=by omega
  clear hap hcl hW1 hW2 hg1 hcur1 hl1 hnews hnl;obtain⟨W3,hW3⟩:∃W3,W3=w.drew.setRow b (cur.take (k*2)++([Value.string ⟨#[]⟩,Value.slice none 0 0]:List Value)++cur.drop (k*2+2)).toArray:=⟨_,rfl⟩;have hcl3:∀ty cc,(Builtin.clear_ #[38] ty #[.slice (some ⟨b,k*2,none⟩) 1 cc]).run Try.prog w.drew= .ok (.tuple #[]) W3:=fun ty cc=>by
   have hst:=run_storeCells_at Try.prog b (k*2) 53 [.string ⟨#[]⟩,.slice none 0 0] 0 ⟨cur⟩ w.drew hg (by show k*2+0+2≤cur.length;omega) (by simp[Value.oneCell']);simp only[Nat.add_zero]at hst;have hzc:(Builtin.zeroCells (Value.agg ⟨[.string ⟨#[]⟩,.slice none 0 0]⟩).cells 1).toList= [.string ⟨#[]⟩,.slice none 0 0]:=by kernel_rfl
   simp[Builtin.clear_,run_underlying Try.underlying38,hz,hzc,hst,Result.andThen,hW3]
  replace hW3:KeepP (W3=_):=⟨hW3⟩
  go_enter Try.func114,Try.ntmps114
  go_wp2_with fail
  go_region_law_o fail
  go_wp2_with fail
  go_ret
  rw[hW3.out];refine⟨rfl,_,setRow_heap w.drew b _ _ _ _ hg,?_,?_,?_⟩
  ·simp only[List.length_append,List.length_take,List.length_drop,List.length_cons,List.length_nil];omega
  ·rw[List.append_assoc,List.take_left' (by rw[List.length_take];omega),List.take_take,show min (k*2) ((k+1)*2)=k*2 by omega,List.drop_of_length_le (by rw[List.length_take];omega),List.append_nil]
  ·have h:∀l,BelowF (fun k=>k≠b) w (w.drew.setRow b l):=fun l=>(BelowF.refl _ w).drew.trans (ZY (by simp))
   exact⟨(h _).os,(h _).tape,(h _).output,(h _).size,fun k _ hk=>(h _).block k fun e=>hk (by rw[e])⟩
 ·go_enter Try.func114,Try.ntmps114
  replace hcur1:KeepP (cur1=_):=⟨hcur1⟩
  replace hW1:KeepP (W1=_):=⟨hW1⟩
  replace hW2:KeepP (W2=_):=⟨hW2⟩
  replace hg1:KeepP (W1.heap[b]? = _):=⟨hg1⟩
  replace hnews:KeepP (news=_):=⟨hnews⟩
  go_wp2_with fail
  go_region_law_o (refine Gb rfl _ _ 38 38 rfl _ _ (by simp[Act.eval,Act.put]) (by simp[Act.eval,Act.put]) (hap _ _ (.inl rfl)) ?_)
  go_wp2_with fail
  go_ret
  rw[hW2.out];have e9:cur1.take (k*2)=cur.take (i*2)++news:=by
   rw[hcur1.out];refine List.take_left' ?_;rw[List.length_append,List.length_take,hnl];omega
  refine⟨rfl,_,setRow_heap W1 b _ _ _ _ hg1.out,?_,?_,?_⟩
  ·simp only[List.length_append,List.length_take,List.length_drop,List.length_cons,List.length_nil];omega
  ·rw[List.append_assoc,List.take_left' (by rw[List.length_take];omega),e9,hnews.out,List.take_take,show min (i*2) ((k+1)*2)=i*2 by omega]
  ·rw[hW1.out];have h:∀l1 l2,BelowF (fun k=>k≠b) w ((w.drew.setRow b l1).setRow b l2):=fun l1 l2=>((BelowF.refl _ w).drew.trans (ZY (by simp))).trans (ZY (by simp))
   exact⟨(h _ _).os,(h _ _).tape,(h _ _).output,(h _ _).size,fun k _ hk=>(h _ _).block k fun e=>hk (by rw[e])⟩
end Go.Proofs.Ytmnibpgmcgdfpaa
