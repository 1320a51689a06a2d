/- A logic of values for functions that only read and build, over the model (part 8): no statement of the seat is proved here. -/
import Derived.Test.YtmnibpgmcgdfpaaPlG
import GoSem.ClaimChange
import Derived.WalkKit
import Derived.ProofKit
import Derived.OpenShut
import Derived.Carry
import Derived.Test.YtmnibpgmcgdfpaaPlF
namespace Go.PL
set_option maxHeartbeats 64000000
set_option maxRecDepth 20000
set_option linter.unusedVariables false
set_option linter.unusedSimpArgs false
open Go.RowKit
def ZhR (ag:Bool) (ds:List PV):PV:=if ag then .agg ds else ds.getD 0 .any
theorem Zgj {b:Bool} (h:(!b)=false):b=true:=by cases b<;>simp_all
def ZaC (P:Program) (t:TypeId):Bool:=
 match P.underlying t with
 |some (.slice e)=> !(decide (0<P.cellsOf e)&&(Yd P e||P.cellsOf e==1))
 |some (.pointer e)=> !decide (0<P.cellsOf e)
 |_=>false
mutual
inductive PT (P:Program):TypeId→List PV→Prop
 |bool {t:TypeId} (h:P.underlying t=some .bool) (b:Bool):PT P t [.bool b]
 |int {t:TypeId} {k:IntKind} (h:P.underlying t=some (.int k)) (n:Int) (h1:k.min≤n) (h2:n≤k.max):PT P t [.int k n]
 |flt {t:TypeId} {k:FloatKind} (h:P.underlying t=some (.float k)) (b:Nat) (hw:(Lit.float k b).wf=true):PT P t [.flt k b]
 |str {t:TypeId} (h:P.underlying t=some .string) (l:List UInt8) (hl:l.length≤maxLen):PT P t [.str l]
 |nilp {t e:TypeId} (h:P.underlying t=some (.pointer e)):PT P t [.nilp]
 |ptr {t e:TypeId} (h:P.underlying t=some (.pointer e)) (cs:List PV) (hp:PT P e cs):PT P t [.rptr cs]
 |sl {t e:TypeId} (h:P.underlying t=some (.slice e)) (n:Nat) (hn:n≤maxLen) (f:Nat→List PV) (hp:∀i,i<n→PT P e (f i)):PT P t [.sl .no ((List.range n).map fun i=>ZhR (Yd P e) (f i))]
 |str' {t:TypeId} {fs:Array Field} (h:P.underlying t=some (.struct fs)) (cs:List PV) (hp:PTs P (fs.toList.map (·.type)) cs):PT P t cs
 |arr {t e:TypeId} {n:Nat} (h:P.underlying t=some (.array n e)) (cs:List PV) (hp:PTs P (List.replicate n e) cs):PT P t cs
 |odd {t:TypeId} (h:ZaC P t=true):PT P t [.any]
 |any {t:TypeId} (h:∀d,P.underlying t=some d→(match d with| .interface _| .map _ _| .func .. | .chan .. | .unsafePointer=>True|_=>False)):PT P t [.any]
inductive PTs (P:Program):List TypeId→List PV→Prop
 |nil:PTs P [] []
 |cons {t:TypeId} {ts:List TypeId} {a b:List PV} (h:PT P t a) (hs:PTs P ts b):PTs P (t::ts) (a++b)
end
def Zbr (P:Program):Nat→List Field→Option Nat
 |o,[]=>some o
 |o,f::fs=>if f.offset=o then Zbr P (o+P.cellsOf f.type) fs else none
def Zk0 (P:Program) (t:TypeId):Bool:=
 match P.underlying t with
 |some (.struct fs)=>Zbr P 0 fs.toList==some (P.cellsOf t)&&fs.toList.all fun f=>decide (f.type<P.types.size)
 |some (.array n e)=>P.cellsOf t==n*P.cellsOf e&&decide (e<P.types.size)
 |some (.slice e)=>decide (e<P.types.size)
 |some (.pointer e)=>decide (e<P.types.size)
 |_=>true
def Fl (P:Program):Bool:=(List.range P.types.size).all (Zk0 P)
def RepC (S:Stable) (vs:List Value) (ps:List PV):Prop:=vs.length=ps.length∧ ∀i,i<ps.length→Rep S (vs.getD i undef) (ps.getD i .any)
section
variable {P:Program} {S:Stable}
theorem RepC.nil:RepC S [] []:=⟨rfl,fun i hi=>by simp at hi⟩
theorem RepC.one {v:Value} {p:PV} (h:Rep S v p):RepC S [v] [p]:=⟨rfl,fun i hi=>by
 have:i=0:=by simpa using hi
 subst this;exact h⟩
theorem RepC.append {vs ws:List Value} {ps qs:List PV} (h:RepC S vs ps) (h':RepC S ws qs):RepC S (vs++ws) (ps++qs):=by
 refine⟨by simp[h.1,h'.1],fun i hi=> ?_⟩
 by_cases h1:i<ps.length
 ·rw[Zd (by rw[h.1];exact h1),Zd h1];exact h.2 i h1
 ·have h1':ps.length≤i:=by omega
  have h2:=h'.2 (i-ps.length) (by simp at hi;omega);have e1:(vs++ws).getD i undef=ws.getD (i-ps.length) undef:=by
   simp only[List.getD_eq_getElem?_getD];rw[List.getElem?_append_right (by rw[h.1];exact h1'),h.1]
  have e2:(ps++qs).getD i .any=qs.getD (i-ps.length) .any:=by
   simp only[List.getD_eq_getElem?_getD];rw[List.getElem?_append_right h1']
  rw[e1,e2];exact h2
def cellsOf (w:World):Stable:=⟨fun b o=>w.cell? ⟨b,o,none⟩,fun _=>none,fun _=>True,fun _=>False⟩
theorem Zlu {t:TypeId} (hl:Fl P=true) (h:t<P.types.size):Zk0 P t=true:=
 List.all_eq_true.1 hl t (List.mem_range.2 h)
theorem TY {α β:Type} {f:α→Option β}:∀ {l:List α} {xs:List β},l.mapM f=some xs→ ∀a∈l,∃x,f a=some x
 | [],_,_,a,ha=>by cases ha
 |b::l,xs,h,a,ha=>by
  rw[List.mapM_cons]at h;cases hb:f b with
  |none=>rw[hb]at h;cases h
  |some y=>
   rw[hb]at h;cases hl:l.mapM f with
   |none=>rw[hl]at h;cases h
   |some ys=>
    rcases List.mem_cons.1 ha with rfl|ha
    ·exact⟨y,hb⟩
    ·exact TY hl a ha
theorem Wt {w:World} {base:Nat} {a:Addr} {n:Nat} {cs:List Value} (h:w.cells? base a n=some cs):cs.length=n∧ ∀i,i<n→w.cell? (a.add i)=some (cs.getD i undef):=by
 unfold World.cells? at h;split at h
 ·have go:∀(l:List Nat) (cs:List Value),(l.mapM fun i=>w.cell? (a.add i))=some cs→cs.length=l.length∧ ∀i,i<l.length→w.cell? (a.add (l.getD i 0))=some (cs.getD i undef):=by
   intro l
   induction l with
   |nil=>intro cs h;simp at h;subst h;simp
   |cons b l ih=>
    intro cs h;rw[List.mapM_cons]at h;cases hb:w.cell? (a.add b)with
    |none=>rw[hb]at h;cases h
    |some y=>
     rw[hb]at h;cases hl:(l.mapM fun i=>w.cell? (a.add i))with
     |none=>rw[hl]at h;cases h
     |some ys=>
      rw[hl]at h;simp at h;subst h;obtain⟨h1,h2⟩:=ih ys hl;refine⟨by simp[h1],fun i hi=> ?_⟩;cases i with
      |zero=>simpa using hb
      |succ i=>simpa using h2 i (by simpa using hi)
  obtain⟨h1,h2⟩:=go _ _ h;refine⟨by simpa using h1,fun i hi=> ?_⟩;have:=h2 i (by simpa using hi);simpa[List.getD_eq_getElem?_getD,hi]using this
 ·cases h
theorem FH {g:TypeId→List Value→Prop} (hg:∀t cs,t<P.types.size→g t cs→ ∃ps,RepC S cs ps∧PT P t ps):∀(fs:List Field) (o n:Nat) (cs:List Value),Zbr P o fs=some n→cs.length=n→
  (∀f∈fs,f.type<P.types.size)→(∀f∈fs,g f.type ((cs.drop f.offset).take (P.cellsOf f.type)))→ ∃ps,RepC S (cs.drop o) ps∧PTs P (fs.map (·.type)) ps
 | [],o,n,cs,ho,hn,_,_=>by
  simp only[Zbr,Option.some.injEq]at ho;subst ho;rw[List.drop_eq_nil_of_le (by omega)];exact⟨[],.nil,.nil⟩
 |f::fs,o,n,cs,ho,hn,hlt,h=>by
  simp only[Zbr]at ho;split at ho
  ·rename_i hof;obtain⟨ps,h1,h2⟩:=FH hg fs _ n cs ho hn (fun f hf=>hlt f (by simp[hf])) (fun f hf=>h f (by simp[hf]));obtain⟨qs,h3,h4⟩:=hg _ _ (hlt f (by simp)) (h f (by simp));rw[hof]at h3;refine⟨qs++ps,?_,.cons h4 h2⟩;have:=h3.append h1;rwa[show cs.drop (o+P.cellsOf f.type)=(cs.drop o).drop (P.cellsOf f.type)by rw[List.drop_drop],List.take_append_drop]at this
  ·cases ho
theorem ZaN {g:TypeId→List Value→Prop} (hg:∀t cs,t<P.types.size→g t cs→ ∃ps,RepC S cs ps∧PT P t ps) {e:TypeId} (he:e<P.types.size):∀(n k:Nat) (cs:List Value),cs.length=(k+n)*P.cellsOf e→
  (∀i,i<k+n→g e ((cs.drop (i*P.cellsOf e)).take (P.cellsOf e)))→ ∃ps,RepC S (cs.drop (k*P.cellsOf e)) ps∧PTs P (List.replicate n e) ps
 |0,k,cs,hn,_=>by
  rw[List.drop_eq_nil_of_le (by rw[hn,Nat.add_zero];exact Nat.le_refl _)];exact⟨[],.nil,.nil⟩
 |n+1,k,cs,hn,h=>by
  obtain⟨ps,h1,h2⟩:=ZaN hg he n (k+1) cs (by rw[hn];congr 1;omega) (fun i hi=>h i (by omega));obtain⟨qs,h3,h4⟩:=hg _ _ he (h k (by omega));refine⟨qs++ps,?_,.cons h4 h2⟩;have:=h3.append h1;rwa[show cs.drop ((k+1)*P.cellsOf e)=(cs.drop (k*P.cellsOf e)).drop (P.cellsOf e)by rw[List.drop_drop,Nat.succ_mul],List.take_append_drop]at this
theorem PT.noAgg {t:TypeId} {ps:List PV} (h:PT P t ps) (ha:Yd P t=false) (h1:ps.length=1):(ps.getD 0 .any).cells=ps:=by
 cases h with
 |str' h=>unfold Yd at ha;rw[h]at ha;cases ha
 |arr h=>unfold Yd at ha;rw[h]at ha;cases ha
 |_=>rfl
theorem Zei {t:TypeId} {ps:List PV} (h:PT P t ps) (h1:Yd P t=true∨ps.length=1):(ZhR (Yd P t) ps).cells=ps:=by
 unfold ZhR;cases ha:Yd P t with
 |true=>rfl
 |false=>exact h.noAgg ha (by simpa[ha]using h1)
theorem ZbK {w:World} {a:Addr} {v:Value} (h:w.cell? a=some v):a=⟨a.block,a.off,none⟩:=by
 obtain⟨b,o,s⟩:=a;unfold World.cell? at h;split at h
 ·split at h
  ·cases h
  ·cases s<;>simp_all
 ·cases h
theorem add_zero (a:Addr):a.add 0=a:=by unfold Addr.add;simp
theorem Zkq {H:Type} {enc:TypeId×Value→H} {w:World} {base:Nat} {spare:Nat→Bool} {Zlp:Bool} (hl:Fl P=true):
  ∀(fuel:Nat) (t:TypeId) (cs:List Value) (x:DataW H×List MemPlace),t<P.types.size→DataW.trod enc P w base spare Zlp fuel t cs=some x→ ∃ps,RepC (cellsOf w) cs ps∧PT P t ps:=by
 intro fuel
 induction fuel with
 |zero=>intro t cs x _ h;cases h
 |succ fuel ih=>
  intro t cs x ht h;have lay:=Zlu hl ht;have any:∀ {v:Value},(∀d,P.underlying t=some d→(match d with| .interface _| .map _ _| .func .. | .chan .. | .unsafePointer=>True|_=>False))→ ∃ps,RepC (cellsOf w) [v] ps∧PT P t ps:=fun h=>⟨_,.one (.any _),.any h⟩
  have anyd:∀ {v:Value} {d:TypeDesc},P.underlying t=some d→(match d with| .interface _| .map _ _| .func .. | .chan .. | .unsafePointer=>True|_=>False)→ ∃ps,RepC (cellsOf w) [v] ps∧PT P t ps:=fun h1 h2=>any fun d hd=>by rw[h1]at hd;cases hd;exact h2
  unfold DataW.trod at h;split at h
  ·rename_i hu;exact⟨_,.one (.bool _),.bool hu _⟩
  ·rename_i hu;split at h
   ·rename_i hk;obtain⟨rfl,hw⟩:=hk;simp only[Lit.wf,Bool.and_eq_true,decide_eq_true_eq]at hw;exact⟨_,.one (.int _ _),.int hu _ hw.1 hw.2⟩
   ·cases h
  ·rename_i hu;split at h
   ·rename_i hk;obtain⟨rfl,hw⟩:=hk;exact⟨_,.one (.flt _ _),.flt hu _ hw⟩
   ·cases h
  ·rename_i s hu;split at h
   ·rename_i hk;obtain⟨⟨l⟩⟩:=s;exact⟨_,.one (.str l),.str hu l hk⟩
   ·cases h
  ·rename_i hu;exact⟨_,.one .nilp,.nilp hu⟩
  ·rename_i e a hu
   by_cases hod:ZaC P t=true
   ·exact⟨_,.one (.any _),.odd hod⟩
   have lay0:decide (0<P.cellsOf e)=true:=by
    have:ZaC P t=false:=by simpa using hod
    unfold ZaC at this;rw[hu]at this;exact Zgj this
   simp only[Zk0,hu,decide_eq_true_eq]at lay lay0;obtain⟨x',hx,_⟩:=Option.map_eq_some_iff.1 h;obtain⟨ds,hc,hx⟩:=Option.bind_eq_some_iff.1 hx;obtain⟨ps,h1,h2⟩:=ih _ _ _ lay hx;obtain⟨h3,h4⟩:=Wt hc;have ha:a=⟨a.block,a.off,none⟩:=ZbK (add_zero a▸h4 0 lay0);refine⟨[.rptr ps],.one ?_,.ptr hu ps h2⟩;rw[ha];refine .rptr _ _ ps (fun j=>ds.getD j undef) (fun j hj=> ?_) (fun j hj=>h1.2 j hj);have:=h4 j (by rw[←h3,h1.1];exact hj);rw[ha,ZJ]at this;exact this
  ·rename_i hu;exact⟨_,.one (.sl0 none 0),.sl hu 0 (Nat.zero_le _) (fun _=> []) (fun i hi=>by omega)⟩
  ·rename_i e a len cap hu
   by_cases hod:ZaC P t=true
   ·exact⟨_,.one (.any _),.odd hod⟩
   have lay0:(decide (0<P.cellsOf e)&&(Yd P e||P.cellsOf e==1))=true:=by
    have:ZaC P t=false:=by simpa using hod
    unfold ZaC at this;rw[hu]at this;exact Zgj this
   simp only[Zk0,hu,decide_eq_true_eq]at lay;simp only[Bool.and_eq_true,decide_eq_true_eq,Bool.or_eq_true,beq_iff_eq]at lay0;obtain⟨l1,l2⟩:=lay0;have l3:=lay;simp only at h;split at h
   ·rename_i hb;obtain⟨elems,he,h⟩:=Option.bind_eq_some_iff.1 h;have el:∀i,i<len→ ∃ds ps,w.cells? base (a.add (i*P.cellsOf e)) (P.cellsOf e)=some ds∧RepC (cellsOf w) ds ps∧PT P e ps:=fun i hi=>by
     obtain⟨y,hy⟩:=TY he i (List.mem_range.2 hi);obtain⟨ds,hc,hx⟩:=Option.bind_eq_some_iff.1 hy;obtain⟨ps,h1,h2⟩:=ih _ _ _ l3 hx;exact⟨ds,ps,hc,h1,h2⟩
    obtain⟨F,hF⟩:∃F:Nat→List Value×List PV,∀i,i<len→w.cells? base (a.add (i*P.cellsOf e)) (P.cellsOf e)=some (F i).1∧RepC (cellsOf w) (F i).1 (F i).2∧PT P e (F i).2:=by
     classical
     refine⟨fun i=>if h:i<len then((el i h).choose,(el i h).choose_spec.choose)else([],[]),fun i hi=> ?_⟩;simp only[hi,dif_pos];exact(el i hi).choose_spec.choose_spec
    refine⟨_,.one ?_,.sl hu len (by omega) (fun i=>(F i).2) fun i hi=>(hF i hi).2.2⟩;have hes:∀i,i<len→((List.range len).map fun i=>ZhR (Yd P e) (F i).2).getD i .any=ZhR (Yd P e) (F i).2:=fun i hi=>by simp[List.getD_eq_getElem?_getD,hi]
    have hcl:∀i,i<len→(ZhR (Yd P e) (F i).2).cells=(F i).2:=fun i hi=>by
     obtain⟨h1,h2,h3⟩:=hF i hi;refine Zei h3 (l2.imp id fun h=> ?_);rw[←h2.1,(Wt h1).1,h]
    by_cases h0:len=0
    ·subst h0;exact .sl0 _ _
    ·have hp0:0<len:=by omega
     have ha:a=⟨a.block,a.off,none⟩:=by
      have:=(Wt (hF 0 hp0).1).2 0 l1;rw[Nat.zero_mul,add_zero,add_zero]at this;exact ZbK this
     have key:=Rep.sl (S:=cellsOf w) a.block a.off cap (P.cellsOf e) ((List.range len).map fun i=>ZhR (Yd P e) (F i).2) (fun i j=>(F i).1.getD j undef)
      (fun i hi=>by
       have hi:i<len:=by simpa using hi
       rw[hes i hi,hcl i hi,←(hF i hi).2.1.1,(Wt (hF i hi).1).1])
      (by simp;exact hb.2.1)
      (fun i j hi hj=>by
       have hi:i<len:=by simpa using hi
       have:=(Wt (hF i hi).1).2 j hj;rw[ha,ZJ,ZJ]at this;exact this)
      (fun i j hi hj=>by
       have hi:i<len:=by simpa using hi
       rw[hes i hi,hcl i hi];exact(hF i hi).2.1.2 j (by rw[←(hF i hi).2.1.1,(Wt (hF i hi).1).1];exact hj))
     rw[List.length_map,List.length_range,←ha]at key;exact key
   ·cases h
  ·rename_i fs hu;simp only[Zk0,hu,Bool.and_eq_true,beq_iff_eq,List.all_eq_true,decide_eq_true_eq]at lay;split at h
   ·rename_i hn;obtain⟨xs,hx,_⟩:=Option.map_eq_some_iff.1 h;obtain⟨ps,h1,h2⟩:=FH (S:=cellsOf w) (g:=fun t cs=>∃x,DataW.trod enc P w base spare Zlp fuel t cs=some x) (fun t cs ht ⟨x,hx⟩=>ih t cs x ht hx) fs.toList 0 _ _ lay.1 hn lay.2 (fun f hf=>TY hx f hf);exact⟨ps,by simpa using h1,.str' hu ps h2⟩
   ·cases h
  ·rename_i n e hu;simp only[Zk0,hu,Bool.and_eq_true,beq_iff_eq,decide_eq_true_eq]at lay;split at h
   ·rename_i hn;obtain⟨xs,hx,_⟩:=Option.map_eq_some_iff.1 h;obtain⟨ps,h1,h2⟩:=ZaN (S:=cellsOf w) (g:=fun t cs=>∃x,DataW.trod enc P w base spare Zlp fuel t cs=some x) (fun t cs ht ⟨x,hx⟩=>ih t cs x ht hx) lay.2 n 0 _ (by rw[hn,lay.1];simp) (fun i hi=>TY hx i (by simpa using hi));exact⟨ps,by simpa using h1,.arr hu ps h2⟩
   ·cases h
  all_goals first|(cases h;done)|(rename_i hu;exact anyd hu trivial)|(rename_i hu _;exact anyd hu trivial)|skip
end
open Go.ChangeShapes Go.WideShapes Go.ChangeAt Go.RowKit
def PA (P:Program) (t:TypeId) (p:PV):Prop:=∃cs,PT P t cs∧p=ZhR (Yd P t) cs
inductive PAs (P:Program):List TypeId→List PV→Prop
 |nil:PAs P [] []
 |cons {t:TypeId} {ts:List TypeId} {p:PV} {ps:List PV} (h:PA P t p) (hs:PAs P ts ps):PAs P (t::ts) (p::ps)
section
variable {P:Program} {H:Type} {enc:TypeId×Value→H}
theorem ZcC {W:World} {base:Nat} {t:TypeId} {v:Value} (ha:Yd P t=false) (hd:∃d,P.underlying t=some d) (h:Value.okWide P W .any base t v):v.cells.toList= [v]:=by
 obtain⟨d,hd⟩:=hd;cases v with
 |agg cs=>
  exfalso;unfold Value.okWide at h;unfold Yd at ha;rw[hd]at ha h;cases d<;>simp[Cell.okWide,Cell.ok,hd]at h ha
 |_=>rfl
theorem ZiD {W:World} {base:Nat} {t:TypeId} {v:Value} {d:DataW H} {ps:List MemPlace} (hl:Fl P=true) (ht:t<P.types.size) (hok:Value.okWide P W .any base t v)
  (h:DataW.Trod enc P W 0 (fun _=>true) true t v d ps):∃p,Rep (cellsOf W) v p∧PA P t p:=by
 obtain⟨n,hn⟩:=h;obtain⟨cs,h1,h2⟩:=Zkq hl n t _ _ ht hn;have hd:∃d,P.underlying t=some d:=by
  cases n with
  |zero=>cases hn
  |succ n=>
   cases hu:P.underlying t with
   |none=>unfold DataW.trod at hn;rw[hu]at hn;simp at hn
   |some d=>exact⟨d,rfl⟩
 refine⟨_,?_,cs,h2,rfl⟩;unfold ZhR;cases ha:Yd P t with
 |true=>
  obtain⟨d,hd⟩:=hd;have:∃c,v= .agg c:=by
   unfold Yd at ha;unfold Value.okWide at hok;rw[hd]at ha hok;cases d<;>simp at ha
   ·obtain⟨c,hc,_⟩:=hok;exact⟨c,hc⟩
   ·obtain⟨c,hc,_⟩:=hok;exact⟨c,hc⟩
  obtain⟨⟨c⟩,rfl⟩:=this;exact .agg c cs h1.1 h1.2
 |false=>
  rw[ZcC ha hd hok]at h1;have:=h1.2 0 (by rw[←h1.1];simp);simpa using this
theorem Zbw {W:World} {base:Nat} (hl:Fl P=true):∀(ts:List TypeId) (vs:List Value) (ds:List (DataW H)) (ps:List MemPlace),(∀t∈ts,t<P.types.size)→
  (∀(j:Nat) t v,ts[j]? = some t→vs[j]? = some v→Value.okWide P W .any base t v)→DataW.TrodAll enc P W 0 (fun _=>true) true ts vs ds ps→
  ∃qs,RepC (cellsOf W) vs qs∧PAs P ts qs∧ds.length=ts.length
 | [],[],[],ps,_,_,h=>⟨[],.nil,.nil,rfl⟩
 |t::ts,v::vs,d::ds,ps,hlt,hok,h=>by
  obtain⟨p,q,h1,h2,rfl⟩:=h;obtain⟨x,hx,hp⟩:=ZiD hl (hlt t (by simp)) (hok 0 t v rfl rfl) h1;obtain⟨qs,h3,h4,h5⟩:=Zbw hl ts vs ds q (fun t ht=>hlt t (by simp[ht])) (fun j t v h1 h2=>hok (j+1) t v (by simpa using h1) (by simpa using h2)) h2;exact⟨x::qs,(RepC.one hx).append h3,.cons hp h4,by simp[h5]⟩
 | [],_::_,_,_,_,_,h=>by simp[DataW.TrodAll]at h
 | [],[],_::_,_,_,_,h=>by simp[DataW.TrodAll]at h
 |_::_,[],_,_,_,_,h=>by simp[DataW.TrodAll]at h
 |_::_,_::_,[],_,_,_,h=>by simp[DataW.TrodAll]at h
theorem FG {W W':World} {sp:Nat→Bool} (hl:laidOutB P=true) (hb:Below W.heap.size W W'):∀(ts:List TypeId) (vs:List Value) (ds:List (DataW H)) (ps:List MemPlace),(∀t∈ts,t<P.types.size∧P.readableRec t=true)→
  (∀x∈ps,x.block<W.heap.size)→(∀x∈ps,sp x.block=true)→DataW.TrodAll enc P W 0 (fun _=>true) true ts vs ds ps→DataW.TrodAll enc P W' 0 sp true ts vs ds ps
 | [],[],[],ps,_,_,_,h=>h
 |t::ts,v::vs,d::ds,ps,ht,hlt,hsp,h=>by
  obtain⟨p,q,h1,h2,rfl⟩:=h;exact⟨p,q,WideElems.Trod_stays hl (ht t (by simp)).2 (ht t (by simp)).1 h1 (fun x hx=>hb.same (hlt x (by simp[hx]))) (fun x hx=>hsp x (by simp[hx])),
   FG hl hb ts vs ds q (fun t h=>ht t (by simp[h])) (fun x hx=>hlt x (by simp[hx])) (fun x hx=>hsp x (by simp[hx])) h2,rfl⟩
 | [],_::_,_,_,_,_,_,h=>by simp[DataW.TrodAll]at h
 | [],[],_::_,_,_,_,_,h=>by simp[DataW.TrodAll]at h
 |_::_,[],_,_,_,_,_,h=>by simp[DataW.TrodAll]at h
 |_::_,_::_,[],_,_,_,_,h=>by simp[DataW.TrodAll]at h
theorem V6 {f:FuncId} {fn:Func} {s:ChangeSpec} {tb:TypeId} {fresh handsOn again:Bool} (hl:Fl P=true) (hlaid:laidOutB P=true) (hvars:s.vars= [])
  (ht:∀t∈fn.params.toList,t<P.types.size∧P.readableRec t=true) (hres:fn.resultTypes= #[tb]) (hb:P.underlying tb=some .bool)
  (hfn:∀ds:List (DataW H),ds.length=fn.params.toList.length→s.fn H ds= { results:= [.lit (.bool true)],args:=ds })
  (hp:∀ps,PAs P fn.params.toList ps→PL.Pure P f ps (.bool true))
  (W:World) (base:Nat) (args:Array Value) (ds gs:List (DataW H)) (before:List MemPlace)
  (hval:∀(j:Nat) t v,fn.params[j]? = some t→args[j]? = some v→Value.okWide P W .any base t v)
  (hW:DataW.Whole enc P fn.params.toList s.vars false W args.toList ds gs before):
  Calls P f args W fun e W'=>∃v,e= .returned v∧s.post enc P fn false fresh handsOn again W args v W':=by
 have hW0:=hW;obtain⟨p,q,hA,hV,hpq,hfz,hnd⟩:=hW;rw[hvars]at hV;obtain⟨rfl,rfl⟩:=trodVars_none hV;obtain⟨qs,h1,h2,h3⟩:=Zbw hl _ _ _ _ (fun t h=>(ht t h).1) (fun j t v a b=>hval j t v (by simpa using a) (by simpa using b)) hA;obtain⟨_,_,hcalls⟩:=hp qs h2;have:=hcalls W (cellsOf W) args.toList ⟨fun b o v h=>h,fun b es h=>(by cases h),fun b h=>h.elim⟩ (fun _ _=>trivial) h1.1 h1.2;have ea:(⟨args.toList⟩:Array Value)=args:=rfl;rw[ea]at this;refine this.mono fun e W' ⟨v,S',he,hr,_,_,_,hB⟩=> ?_
 subst he;have hv:v= .bool true:=by cases hr;rfl
 subst hv;have hlt:=hW0.lt;have hps:before=p++ []:=hpq;rw[List.append_nil]at hps;subst hps;have hf:=hfn ds h3;have hone:(Value.bool true).resultList 1= [.bool true]:=rfl;have hT:∀(sp:Nat→Bool),(∀x∈before,sp x.block=true)→DataW.TrodAll enc P W' 0 sp true fn.params.toList args.toList ds before:=fun sp hsp=>FG hlaid hB _ _ _ _ ht hlt hsp hA
 have hR:∀(b:Nat) (sp:Nat→Bool) (hd:Bool),DataW.TrodAll enc P W' b sp hd fn.resultTypes.toList ((Value.bool true).resultList fn.resultTypes.size) [.lit (.bool true)] []:=fun b sp hd=>by
  rw[hres];exact trodAll_cons_mk (shut_bool hb true) trodAll_mk0
 have hVs:∀sp:Nat→Bool,DataW.TrodVars enc P W' sp s.vars ([]:List (DataW H)) []:=fun sp=>by rw[hvars];exact rfl
 refine⟨_,rfl,ds,[],before,[],before,[],hW0,?_,?_,?_,World.keptBut_mono (fun p hp=>⟨hp,.inr (.inl hp)⟩) (hB.frame _),fun _=>⟨ok_one hres hone (okWide_bool_mk hb true),?_⟩⟩
 ·rw[List.append_nil,hf];exact hR _ _ _
 ·rw[List.append_nil,hf];exact hT _ (fun x hx=>by simpa using hlt x hx)
 ·rw[List.append_nil,hf];exact hVs _
 ·refine⟨_,_,([]++before)++ [],⟨[]++before,[],trodAll_append (hT _ fun _ _=>rfl) (hR _ _ _),hVs _,rfl,?_,fun h=>by cases h⟩,?_⟩
  ·intro b off hp;have hp:MemPlace.cell b off∈before:=by simpa using hp
   rw[hB.frozen (hlt _ hp)];exact hfz b off (by simpa using hp)
  ·intro x hx _;simpa using hx
end
section
variable {P:Program}
theorem PT.struct_inv {t:TypeId} {fs:Array Field} {cs:List PV} (hu:P.underlying t=some (.struct fs)) (h:PT P t cs):PTs P (fs.toList.map (·.type)) cs:=by
 cases h with
 |str' h' _ hp=>rw[hu]at h';cases h';exact hp
 |any h'=>exact(h' _ hu).elim
 |odd h'=>simp[ZaC,hu]at h'
 |bool h' _=>rw[hu]at h';cases h'
 |int h'=>rw[hu]at h';cases h'
 |flt h' _=>rw[hu]at h';cases h'
 |str h' _=>rw[hu]at h';cases h'
 |nilp h'=>rw[hu]at h';cases h'
 |ptr h' _=>rw[hu]at h';cases h'
 |sl h' _=>rw[hu]at h';cases h'
 |arr h' _=>rw[hu]at h';cases h'
theorem PT.int_inv {t:TypeId} {k:IntKind} {cs:List PV} (hu:P.underlying t=some (.int k)) (h:PT P t cs):∃n,cs= [.int k n]∧k.min≤n∧n≤k.max:=by
 cases h with
 |int h' n h1 h2=>rw[hu]at h';cases h';exact⟨n,rfl,h1,h2⟩
 |any h'=>exact(h' _ hu).elim
 |odd h'=>simp[ZaC,hu]at h'
 |bool h' _=>rw[hu]at h';cases h'
 |flt h' _=>rw[hu]at h';cases h'
 |str h' _=>rw[hu]at h';cases h'
 |nilp h'=>rw[hu]at h';cases h'
 |ptr h' _=>rw[hu]at h';cases h'
 |sl h' _=>rw[hu]at h';cases h'
 |str' h' _=>rw[hu]at h';cases h'
 |arr h' _=>rw[hu]at h';cases h'
theorem PT.bool_inv {t:TypeId} {cs:List PV} (hu:P.underlying t=some .bool) (h:PT P t cs):∃b,cs= [.bool b]:=by
 cases h with
 |bool h' b=>exact⟨b,rfl⟩
 |any h'=>exact(h' _ hu).elim
 |odd h'=>simp[ZaC,hu]at h'
 |int h'=>rw[hu]at h';cases h'
 |flt h' _=>rw[hu]at h';cases h'
 |str h' _=>rw[hu]at h';cases h'
 |nilp h'=>rw[hu]at h';cases h'
 |ptr h' _=>rw[hu]at h';cases h'
 |sl h' _=>rw[hu]at h';cases h'
 |str' h' _=>rw[hu]at h';cases h'
 |arr h' _=>rw[hu]at h';cases h'
theorem PT.string_inv {t:TypeId} {cs:List PV} (hu:P.underlying t=some .string) (h:PT P t cs):∃l,cs= [.str l]∧l.length≤maxLen:=by
 cases h with
 |str h' l hl=>exact⟨l,rfl,hl⟩
 |any h'=>exact(h' _ hu).elim
 |odd h'=>simp[ZaC,hu]at h'
 |bool h' _=>rw[hu]at h';cases h'
 |int h'=>rw[hu]at h';cases h'
 |flt h' _=>rw[hu]at h';cases h'
 |nilp h'=>rw[hu]at h';cases h'
 |ptr h' _=>rw[hu]at h';cases h'
 |sl h' _=>rw[hu]at h';cases h'
 |str' h' _=>rw[hu]at h';cases h'
 |arr h' _=>rw[hu]at h';cases h'
theorem PT.slice_inv {t e:TypeId} {cs:List PV} (ho:ZaC P t=false) (hu:P.underlying t=some (.slice e)) (h:PT P t cs):∃l,cs= [.sl .no l]∧l.length≤maxLen∧ ∀p∈l,PA P e p:=by
 cases h with
 |sl h' n hn f hp=>
  rw[hu]at h';cases h';refine⟨_,rfl,by simpa using hn,fun p hp'=> ?_⟩;obtain⟨i,hi,rfl⟩:=List.mem_map.1 hp';exact⟨f i,hp i (by simpa using hi),rfl⟩
 |any h'=>exact(h' _ hu).elim
 |odd h'=>rw[ho]at h';cases h'
 |bool h' _=>rw[hu]at h';cases h'
 |int h'=>rw[hu]at h';cases h'
 |flt h' _=>rw[hu]at h';cases h'
 |str h' _=>rw[hu]at h';cases h'
 |nilp h'=>rw[hu]at h';cases h'
 |ptr h' _=>rw[hu]at h';cases h'
 |str' h' _=>rw[hu]at h';cases h'
 |arr h' _=>rw[hu]at h';cases h'
theorem PTs.cons_inv {t:TypeId} {ts:List TypeId} {cs:List PV} (h:PTs P (t::ts) cs):∃a b,cs=a++b∧PT P t a∧PTs P ts b:=by
 cases h with
 |cons h hs=>exact⟨_,_,rfl,h,hs⟩
theorem PTs.nil_inv {cs:List PV} (h:PTs P [] cs):cs= []:=by cases h;rfl
theorem PAs.cons_inv {t:TypeId} {ts:List TypeId} {cs:List PV} (h:PAs P (t::ts) cs):∃a b,cs=a::b∧PA P t a∧PAs P ts b:=by
 cases h with
 |cons h hs=>exact⟨_,_,rfl,h,hs⟩
theorem PAs.nil_inv {cs:List PV} (h:PAs P [] cs):cs= []:=by cases h;rfl
theorem PA.agg {t:TypeId} {p:PV} (ha:Yd P t=true) (h:PA P t p):∃cs,p= .agg cs∧PT P t cs:=by
 obtain⟨cs,h1,h2⟩:=h;rw[ha]at h2;exact⟨cs,h2,h1⟩
theorem PA.one {t:TypeId} {p:PV} (ha:Yd P t=false) (h:PA P t p):∃cs,p=cs.getD 0 .any∧PT P t cs:=by
 obtain⟨cs,h1,h2⟩:=h;rw[ha]at h2;exact⟨cs,h2,h1⟩
theorem PA.int {t:TypeId} {k:IntKind} {p:PV} (hu:P.underlying t=some (.int k)) (h:PA P t p):∃n,p= .int k n∧k.min≤n∧n≤k.max:=by
 obtain⟨cs,h1,h2⟩:=PA.one (by simp[Yd,hu]) h;obtain⟨n,rfl,h3⟩:=PT.int_inv hu h2;exact⟨n,h1,h3⟩
theorem PA.string {t:TypeId} {p:PV} (hu:P.underlying t=some .string) (h:PA P t p):∃l,p= .str l∧l.length≤maxLen:=by
 obtain⟨cs,h1,h2⟩:=PA.one (by simp[Yd,hu]) h;obtain⟨n,rfl,h3⟩:=PT.string_inv hu h2;exact⟨n,h1,h3⟩
theorem PA.bool {t:TypeId} {p:PV} (hu:P.underlying t=some .bool) (h:PA P t p):∃b,p= .bool b:=by
 obtain⟨cs,h1,h2⟩:=PA.one (by simp[Yd,hu]) h;obtain⟨n,rfl⟩:=PT.bool_inv hu h2;exact⟨n,h1⟩
theorem PA.slice {t e:TypeId} {p:PV} (ho:ZaC P t=false) (hu:P.underlying t=some (.slice e)) (h:PA P t p):∃l,p= .sl .no l∧l.length≤maxLen∧ ∀p∈l,PA P e p:=by
 obtain⟨cs,h1,h2⟩:=PA.one (by simp[Yd,hu]) h;obtain⟨n,rfl,h3⟩:=PT.slice_inv ho hu h2;exact⟨n,h1,h3⟩
theorem UG {α:Type} {enc:α→PV} {Q:α→Prop}:∀ {l:List PV},(∀p∈l,∃x,p=enc x∧Q x)→ ∃xs:List α,l=xs.map enc∧ ∀x∈xs,Q x
 | [],_=>⟨[],rfl,fun x hx=>by cases hx⟩
 |p::l,h=>by
  obtain⟨x,rfl,hq⟩:=h p (by simp);obtain⟨xs,rfl,hxs⟩:=UG (l:=l) (fun p hp=>h p (by simp[hp]));exact⟨x::xs,rfl,fun y hy=>by
   rcases List.mem_cons.1 hy with e|e
   ·rw[e];exact hq
   ·exact hxs y e⟩
end
section
variable {P:Program} {s:St} {Q:Exit→St→Prop}
@[go_sem] theorem V2 {α:Type} (f:Nat→α):Yc [] f=f:=rfl
@[go_sem] theorem WX {α:Type} (i:Nat) (v:α) (L:List (Nat×α)) (f:Nat→α):Yc ((i,v)::L) f=upd (Yc L f) i v:=rfl
@[go_sem] theorem Zlt (f:Nat→PV):Zbf [] f=f:=by funext i;simp[Zbf]
@[go_sem] theorem ZkZ (w:Nat) (ws:List Nat) (f:Nat→PV):Zbf (w::ws) f=upd (Zbf ws f) w .any:=by
 funext i;simp only[Zbf,upd,List.contains_cons]
 by_cases h:w=i
 ·subst h;simp
 ·have:(i==w)=false:=by simp;exact fun e=>h e.symm
  simp[this,h]
attribute [go_sem] St.inv
theorem Zmg {id:Nat} {l:List Oper} (hm:P.follows .mixedOrders=true) (hB:ZfN l.toArray=true) (h:@vA P false ⟨@vQ ⟨Q⟩ .normal⟩ ⟨l⟩ ⟨l⟩ s):awp P (.region id l.toArray true) Q s:=
 Zm7 hm hB h
def HRest (X:List Nat) (h':Nat→Option (List PV)) (z':Nat→Bool) (h:Nat→Option (List PV)) (z:Nat→Bool):Prop:=∀i,X.contains i=false→h i=none∨(h i=h' i∧z i=z' i)
theorem HRest.refl (X:List Nat) (h:Nat→Option (List PV)) (z:Nat→Bool):HRest X h z h z:=fun _ _=> .inr ⟨rfl,rfl⟩
def QRest (X:List Nat) (q' q:Rows):Prop:=∀i,X.contains i=false→q i=none∨q i=q' i
theorem QRest.refl (X:List Nat) (q:Rows):QRest X q q:=fun _ _=> .inr rfl
theorem QRest.upd {X:List Nat} {q' q:Rows} {d:Nat} {v:Option Row} (hd:X.contains d=true∨q d=none) (hh:QRest X q' q):QRest X (PL.upd q' d v) q:=fun i hi=>by
 by_cases e:d=i
 ·subst e;rcases hd with hd|hd
  ·rw[hd]at hi;cases hi
  ·exact .inl hd
 ·rw[Zc _ _ e];exact hh i hi
theorem Live.inv_r {L:List (Nat×PV)} {H:List (Nat×List PV)} {R:List (Nat×Row)} {y:Nat×Row} (hy:y∈R):Live (s.inv [] L H R).m (.r y.1):=by
 show Yc (R.map fun x=>(x.1,some x.2)) s.m.q y.1≠none;refine Yb (R:=fun i v=>v≠none) (fun x hx=>by obtain⟨y,hy,rfl⟩:=List.mem_map.1 hx;simp) ?_;rw[Zfe R some];simp only[List.contains_iff_mem,List.mem_map];exact⟨y,hy,rfl⟩
theorem Live.inv_b {L:List (Nat×PV)} {H:List (Nat×List PV)} {R:List (Nat×Row)} {y:Nat×List PV} (hy:y∈H):Live (s.inv [] L H R).m (.b y.1):=by
 show Yc (H.map fun x=>(x.1,some x.2)) s.m.h y.1≠none;refine Yb (R:=fun i v=>v≠none) (fun x hx=>by obtain⟨y,hy,rfl⟩:=List.mem_map.1 hx;simp) ?_;rw[Zfe H some];simp only[List.contains_iff_mem,List.mem_map];exact⟨y,hy,rfl⟩
def ZgC (H:List (Nat×List PV)) (R:List (Nat×Row)):Ref→Bool
 | .r i=>(R.map (·.1)).contains i
 | .b i=>(H.map (·.1)).contains i
theorem Live.of_refIn {L:List (Nat×PV)} {H:List (Nat×List PV)} {R:List (Nat×Row)} {r:Ref} (h:ZgC H R r=true):Live (s.inv [] L H R).m r:=by
 cases r with
 |r i=>
  simp only[ZgC,List.contains_iff_mem,List.mem_map]at h;obtain⟨y,hy,rfl⟩:=h;exact Live.inv_r hy
 |b i=>
  simp only[ZgC,List.contains_iff_mem,List.mem_map]at h;obtain⟨y,hy,rfl⟩:=h;exact Live.inv_b hy
theorem RefsL.of {L:List (Nat×PV)} {H:List (Nat×List PV)} {R:List (Nat×Row)} (h1:∀x∈L,x.2.ids.all (ZgC H R)=true) (h2:∀x∈H,(PV.idsL x.2).all (ZgC H R)=true):RefsL s L H R:=
 ⟨fun x hx r hr=>Live.of_refIn (List.all_eq_true.1 (h1 x hx) r hr),fun x hx c hc r hr=>Live.of_refIn (List.all_eq_true.1 (h2 x hx) r (PV.mem_idsL.2 ⟨c,hc,hr⟩))⟩
theorem fnl {α:Type} {p:α→Prop}:∀x∈([]:List α),p x:=fun x hx=>by cases hx
theorem fcs {α:Type} {p:α→Prop} {a:α} {l:List α} (h:p a) (h':∀x∈l,p x):∀x∈a::l,p x:=fun x hx=>by
 rcases List.mem_cons.1 hx with e|e
 ·rw[e];exact h
 ·exact h' x e
theorem Fc2 {α:Type} {p:α→Prop} {a0 a1:α} (ha0:p a0) (ha1:p a1):∀x∈[a0,a1],p x:=fcs ha0 (fcs ha1 fnl)
theorem Fc3 {α:Type} {p:α→Prop} {a0 a1 a2:α} (ha0:p a0) (ha1:p a1) (ha2:p a2):∀x∈[a0,a1,a2],p x:=fcs ha0 (fcs ha1 (fcs ha2 fnl))
theorem Fc4 {α:Type} {p:α→Prop} {a0 a1 a2 a3:α} (ha0:p a0) (ha1:p a1) (ha2:p a2) (ha3:p a3):∀x∈[a0,a1,a2,a3],p x:=fcs ha0 (fcs ha1 (fcs ha2 (fcs ha3 fnl)))
theorem Fc5 {α:Type} {p:α→Prop} {a0 a1 a2 a3 a4:α} (ha0:p a0) (ha1:p a1) (ha2:p a2) (ha3:p a3) (ha4:p a4):∀x∈[a0,a1,a2,a3,a4],p x:=fcs ha0 (fcs ha1 (fcs ha2 (fcs ha3 (fcs ha4 fnl))))
theorem Fc6 {α:Type} {p:α→Prop} {a0 a1 a2 a3 a4 a5:α} (ha0:p a0) (ha1:p a1) (ha2:p a2) (ha3:p a3) (ha4:p a4) (ha5:p a5):∀x∈[a0,a1,a2,a3,a4,a5],p x:=fcs ha0 (fcs ha1 (fcs ha2 (fcs ha3 (fcs ha4 (fcs ha5 fnl)))))
theorem Fc7 {α:Type} {p:α→Prop} {a0 a1 a2 a3 a4 a5 a6:α} (ha0:p a0) (ha1:p a1) (ha2:p a2) (ha3:p a3) (ha4:p a4) (ha5:p a5) (ha6:p a6):∀x∈[a0,a1,a2,a3,a4,a5,a6],p x:=fcs ha0 (fcs ha1 (fcs ha2 (fcs ha3 (fcs ha4 (fcs ha5 (fcs ha6 fnl))))))
def TS (J:Nat→St→Prop) (Q:Exit→St→Prop):Exit→St→Prop
 | .goto l,s=>J l s
 |e,s=>Q e s
theorem ZaR {c:Code} {ι:Type} (lab:ι→Nat) (code:ι→Code) (I:ι→St) (μ:ι→Nat) (hf:∀i,findLabel c (lab i)=some (code i)) (hr:Refs s→ ∀i,Refs (I i))
  (pass:∀i,(∀j s',μ j<μ i→Weak (I j) s'→awp P (code j) (TS (fun l s'=>∃j,lab j=l∧μ j<μ i∧Weak (I j) s') Q) s')→
   awp P (code i) (TS (fun l s'=>∃j,lab j=l∧μ j<μ i∧Weak (I j) s') Q) (I i))
  (first:(∀j s',Weak (I j) s'→awp P (code j) (TS (fun l s'=>∃j,lab j=l∧Weak (I j) s') Q) s')→awp P c (TS (fun l s'=>∃j,lab j=l∧Weak (I j) s') Q) s):
  awp P (.scope c) Q s:=fun B S M a w hs=>by
 have hrefs:=hr hs.refs;have all:∀n i,μ i=n→awp P (code i) (TS (fun l s'=>∃j,lab j=l∧μ j<μ i∧Weak (I j) s') Q) (I i):=by
  intro n
  induction n using Nat.strongRecOn with
  |_ n ih=>
   intro i hi;refine pass i fun j s' hj hw=>Zdk hw (fun _=>hrefs j) (Wg (fun e s'' h=> ?_) (ih (μ j) (by omega) j rfl))
   cases e with
   |goto l=>obtain⟨k,h1,h2,h3⟩:=h;exact⟨k,h1,by omega,h3⟩
   |_=>exact h
 have hfirst:=first fun j s' hw=>Zdk hw (fun _=>hrefs j) (Wg (fun e s'' h=>by
   cases e with
   |goto l=>obtain⟨k,h1,h2,h3⟩:=h;exact⟨k,h1,h3⟩
   |_=>exact h) (all _ j rfl))
 intro b k cs;have hg:∀i,gotoIn (lab i) (.inScope c::k)=some (.code (code i):: .inScope c::k):=fun i=>by simp[gotoIn,hf i]
 have key:∀n i S1 M1 a1 w1,μ i=n→Sim B S1 M1 (I i) a1 w1→Ext B S S1 w w1→ ∃e a' w',(∃s' S' M',Q e s'∧Sim B S' M' s' a' w'∧Ext B S S' w w')∧Arrives P (lone (b.at a1 (.code (code i):: .inScope c::k)) cs w1) b k cs e a' w':=by
  intro n
  induction n using Nat.strongRecOn with
  |_ n ih=>
   intro i S1 M1 a1 w1 hi hs1 he1;obtain⟨e,a2,w2,⟨s2,S2,M2,hq,hs2,he2⟩,harr⟩:=all _ i rfl B S1 M1 a1 w1 hs1 b (.inScope c::k) cs;cases e with
   |normal=>exact⟨.normal,a2,w2,⟨s2,S2,M2,hq,hs2,he1.trans he2⟩,Steps.trans harr (.one step_inScope)⟩
   |exit id=>exact⟨.exit id,a2,w2,⟨s2,S2,M2,hq,hs2,he1.trans he2⟩,fun k' hk=>harr k' (by simp[exitTo,hk])⟩
   |goto l'=>
    obtain⟨j,rfl,hlt,hw⟩:=hq;obtain⟨e3,a3,w3,hq3,harr3⟩:=ih (μ j) (by omega) j S2 M2 a2 w2 rfl (hs2.weak hw (hrefs j)) (he1.trans he2);exact⟨e3,a3,w3,hq3,.of_steps (harr _ (hg j)) harr3⟩
   |ret=>exact⟨_,a2,w2,⟨s2,S2,M2,hq,hs2,he1.trans he2⟩,harr⟩
   |panic ch=>exact⟨_,a2,w2,⟨s2,S2,M2,hq,hs2,he1.trans he2⟩,harr⟩
   |outgrown=>exact⟨_,a2,w2,⟨s2,S2,M2,hq,hs2,he1.trans he2⟩,harr⟩
 obtain⟨e,a1,w1,⟨s1,S1,M1,hq,hs1,he1⟩,harr⟩:=hfirst B S M a w hs b (.inScope c::k) cs;cases e with
 |normal=>exact⟨.normal,a1,w1,⟨s1,S1,M1,hq,hs1,he1⟩,.head step_scope (Steps.trans harr (.one step_inScope))⟩
 |exit id=>exact⟨.exit id,a1,w1,⟨s1,S1,M1,hq,hs1,he1⟩,fun k' hk=> .head step_scope (harr k' (by simp[exitTo,hk]))⟩
 |goto l'=>
  obtain⟨j,rfl,hw⟩:=hq;obtain⟨e3,a3,w3,hq3,harr3⟩:=key _ j S1 M1 a1 w1 rfl (hs1.weak hw (hrefs j)) he1;exact⟨e3,a3,w3,hq3,.of_steps (.head step_scope (harr _ (hg j))) harr3⟩
 |ret=>exact⟨_,a1,w1,⟨s1,S1,M1,hq,hs1,he1⟩,.of_steps (.one step_scope) harr⟩
 |panic ch=>exact⟨_,a1,w1,⟨s1,S1,M1,hq,hs1,he1⟩,.of_steps (.one step_scope) harr⟩
 |outgrown=>exact⟨_,a1,w1,⟨s1,S1,M1,hq,hs1,he1⟩,.of_steps (.one step_scope) harr⟩
def mkSt (n:Nat) (L:List (Nat×PV)) (H:List (Nat×List PV×Bool)) (R:List (Nat×Row)):St:=
 { fr:=Yc L fun _=> .any,m:= { h:=Yc (H.map fun x=>(x.1,some x.2.1)) fun _=>none,z:=Yc (H.map fun x=>(x.1,x.2.2)) fun _=>false,q:=Yc (R.map fun x=>(x.1,some x.2)) fun _=>none,o:=fun _=>none,it:=fun _=>none,om:=fun _=>none,v:=fun _=>none,ph:=fun _=>none,pq:=fun _=>none,vm:=fun _=>false },n:=n }
structure Has (n:Nat) (L:List (Nat×PV)) (H:List (Nat×List PV×Bool)) (R:List (Nat×Row)) (s:St):Prop where
 n:s.n=n
 fr:∀x∈L,s.fr x.1=x.2
 h:∀x∈H,s.m.h x.1=some x.2.1∧s.m.z x.1=x.2.2
 q:∀x∈R,s.m.q x.1=some x.2
theorem Has.weak {n:Nat} {L:List (Nat×PV)} {H:List (Nat×List PV×Bool)} {R:List (Nat×Row)} (h:Has n L H R s):Weak (mkSt n L H R) s:=by
 have m1:∀ {α β:Type} (L:List (Nat×α)) (f:α→β),(L.map fun x=>(x.1,f x.2)).map (·.1)=L.map (·.1):=fun L f=>by simp
 refine⟨h.n.symm,fun i=> ?_,fun i=> ?_,fun i=> ?_,fun _=> .inl rfl,fun _=> .inl rfl,fun _=> .inl rfl,fun _=> .inl rfl,fun _=> .inl rfl,fun _=> .inl rfl⟩
 ·by_cases hi:(L.map (·.1)).contains i=true
  ·exact .inr (Yb (R:=fun i v=>v=s.fr i) (fun x hx=>(h.fr x hx).symm) hi)
  ·exact .inl (WY (by simpa using hi))
 ·show Yc (H.map fun x=>(x.1,some x.2.1)) (fun _=>none) i=none∨(Yc (H.map fun x=>(x.1,some x.2.1)) (fun _=>none) i=_∧Yc (H.map fun x=>(x.1,x.2.2)) (fun _=>false) i=_)
  by_cases hi:(H.map (·.1)).contains i=true
  ·right;refine⟨Yb (R:=fun i v=>v=s.m.h i) (fun x hx=> ?_) (by rw[m1 H (fun x=>some x.1)];exact hi),Yb (R:=fun i v=>v=s.m.z i) (fun x hx=> ?_) (by rw[m1 H (fun x=>x.2)];exact hi)⟩
   ·obtain⟨y,hy,rfl⟩:=List.mem_map.1 hx;exact(h.h y hy).1.symm
   ·obtain⟨y,hy,rfl⟩:=List.mem_map.1 hx;exact(h.h y hy).2.symm
  ·exact .inl (WY (by rw[m1 H (fun x=>some x.1)];simpa using hi))
 ·show Yc (R.map fun x=>(x.1,some x.2)) (fun _=>none) i=none∨Yc (R.map fun x=>(x.1,some x.2)) (fun _=>none) i=_
  by_cases hi:(R.map (·.1)).contains i=true
  ·right;refine Yb (R:=fun i v=>v=s.m.q i) (fun x hx=> ?_) (by rw[m1 R some];exact hi);obtain⟨y,hy,rfl⟩:=List.mem_map.1 hx;exact(h.q y hy).symm
  ·exact .inl (WY (by rw[m1 R some];simpa using hi))
def ZV (H:List (Nat×List PV×Bool)) (R:List (Nat×Row)):Ref→Bool
 | .r i=>(R.map (·.1)).contains i
 | .b i=>(H.map (·.1)).contains i
def ZeY (L:List (Nat×PV)) (H:List (Nat×List PV×Bool)) (R:List (Nat×Row)):Prop:=
 (∀x∈L,x.2.ids.all (ZV H R)=true)∧ ∀x∈H,(PV.idsL x.2.1).all (ZV H R)=true
theorem Refs.mkSt {n:Nat} {L:List (Nat×PV)} {H:List (Nat×List PV×Bool)} {R:List (Nat×Row)} (h:ZeY L H R):Refs (mkSt n L H R):=by
 have m1:∀ {α β:Type} (L:List (Nat×α)) (f:α→β),(L.map fun x=>(x.1,f x.2)).map (·.1)=L.map (·.1):=fun L f=>by simp
 have live:∀r,ZV H R r=true→Live (PL.mkSt n L H R).m r:=fun r hr=>by
  cases r with
  |b i=>
   show Yc (H.map fun x=>(x.1,some x.2.1)) (fun _=>none) i≠none;exact Yb (R:=fun i v=>v≠none) (fun x hx=>by obtain⟨y,hy,rfl⟩:=List.mem_map.1 hx;simp) (by rw[m1 H (fun x=>some x.1)];exact hr)
  |r i=>
   show Yc (R.map fun x=>(x.1,some x.2)) (fun _=>none) i≠none;exact Yb (R:=fun i v=>v≠none) (fun x hx=>by obtain⟨y,hy,rfl⟩:=List.mem_map.1 hx;simp) (by rw[m1 R some];exact hr)
 refine⟨fun i r hr=> ?_,fun i cs hi c hc r hr=> ?_,fun i es hi=>(by cases hi),fun b c hc=>(by cases hc)⟩
 ·by_cases hi:(L.map (·.1)).contains i=true
  ·exact Yb (R:=fun i v=>∀r∈v.ids,Live (PL.mkSt n L H R).m r) (fun x hx r hr=>live r (List.all_eq_true.1 (h.1 x hx) r hr)) hi r hr
  ·have hr':r∈(Yc L (fun _=>PV.any) i).ids:=hr;rw[WY (by simpa using hi)]at hr';simp[PV.ids]at hr'
 ·by_cases hi':(H.map (·.1)).contains i=true
  ·have hR:=Yb (R:=fun i v=>∀cs,v=some cs→ ∀c∈cs,∀r∈c.ids,Live (PL.mkSt n L H R).m r) (f:=fun _=>none) (L:=H.map fun x=>(x.1,some x.2.1)) (i:=i)
    (fun x hx cs hcs c hc r hr=>by obtain⟨y,hy,rfl⟩:=List.mem_map.1 hx;cases hcs;exact live r (List.all_eq_true.1 (h.2 y hy) r (PV.mem_idsL.2 ⟨c,hc,hr⟩))) (by rw[m1 H (fun x=>some x.1)];exact hi')
   exact hR cs hi c hc r hr
  ·have hi2:Yc (H.map fun x=>(x.1,some x.2.1)) (fun _=>none) i=some cs:=hi;rw[WY (by rw[m1 H (fun x=>some x.1)];simpa using hi')]at hi2;cases hi2
def Next {ι:Type} (n:Nat) (L:ι→List (Nat×PV)) (H:ι→List (Nat×List PV×Bool)) (R:ι→List (Nat×Row)) (μ:ι→Nat) (i:ι) (s':St):Prop:=∃j,μ j<μ i∧Has n (L j) (H j) (R j) s'
def Zlb {ι:Type} (n:Nat) (L:ι→List (Nat×PV)) (H:ι→List (Nat×List PV×Bool)) (R:ι→List (Nat×Row)) (s':St):Prop:=∃j,Has n (L j) (H j) (R j) s'
theorem ZK {c:Code} {ι:Type} (n:Nat) (L:ι→List (Nat×PV)) (H:ι→List (Nat×List PV×Bool)) (R:ι→List (Nat×Row)) (μ:ι→Nat) (i0:ι)
  (h0:Has n (L i0) (H i0) (R i0) s) (hr:∀i,ZeY (L i) (H i) (R i))
  (round:∀i,@vC P ⟨c⟩ ⟨Y0 (Next n L H R μ i) Q⟩ (mkSt n (L i) (H i) (R i))):awp P (.loop c) Q s:=
 SQ (fun i=>mkSt n (L i) (H i) (R i)) μ i0 h0.weak (fun _ i=>Refs.mkSt (hr i)) fun i=>Wg (fun e s' h=>by
  cases e with
  |normal=>obtain⟨j,hj,hm⟩:=h;exact⟨j,hj,hm.weak⟩
  |_=>exact h) (Ys _ _ _ (round i))
def Zf2 (l:Nat) (J:St→Prop):Nat→St→Prop:=fun l' s=>l'=l∧J s
theorem FY {l:Nat} {z:Code} (h:awp P z Q s):awp P (.seq (.label l) z) Q s:=Zci (ZaQ h)
theorem ZkK {c:Code} {ι:Type} (n:Nat) (L:ι→List (Nat×PV)) (H:ι→List (Nat×List PV×Bool)) (R:ι→List (Nat×Row)) (μ:ι→Nat) (l:Nat) (z:Code) (hf:findLabel c l=some (.seq .skip z)) (hr:∀i,ZeY (L i) (H i) (R i))
  (pass:∀i,@vC P ⟨z⟩ ⟨TS (Zf2 l (Next n L H R μ i)) Q⟩ (mkSt n (L i) (H i) (R i)))
  (first:(∀j s',Has n (L j) (H j) (R j) s'→awp P z (TS (Zf2 l (Zlb n L H R)) Q) s')→ @vC P ⟨c⟩ ⟨TS (Zf2 l (Zlb n L H R)) Q⟩ s):awp P (.scope c) Q s:=by
 have sk:∀ {Q:Exit→St→Prop} {s:St},awp P z Q s→awp P (.seq .skip z) Q s:=fun h=>Zci (Zdj h)
 have passA:∀i,awp P (.seq .skip z) (TS (fun l' s'=>∃j,l=l'∧μ j<μ i∧Weak (mkSt n (L j) (H j) (R j)) s') Q) (mkSt n (L i) (H i) (R i)):=fun i=>
  sk (Wg (fun e s' h=>by
   cases e with
   |goto l'=>obtain⟨rfl,j,hj,hm⟩:=h;exact⟨j,rfl,hj,hm.weak⟩
   |_=>exact h) (Ys _ _ _ (pass i)))
 refine ZaR (fun _:ι=>l) (fun _=> .seq .skip z) (fun i=>mkSt n (L i) (H i) (R i)) μ (fun _=>hf) (fun _ i=>Refs.mkSt (hr i)) (fun i _=>passA i) fun cut=> ?_
 have key:=first fun j s' hs' B S M a w hsim=>by
  have hp:=Ys _ _ _ (pass j) B S M a w (hsim.weak hs'.weak (Refs.mkSt (hr j)));refine wp_mono hp fun e a' w' ⟨s1,S1,M1,h1,h2,h3⟩=>⟨s1,S1,M1,?_,h2,h3⟩
  cases e with
  |goto l'=>obtain⟨e,j,_,hm⟩:=h1;exact⟨e,j,hm⟩
  |_=>exact h1
 refine Wg (fun e s' h=> ?_) (Ys _ _ _ key);cases e with
 |goto l'=>obtain⟨rfl,j,hm⟩:=h;exact⟨j,rfl,hm.weak⟩
 |_=>exact h
theorem Zg7 {c:Code} (h:@vC P ⟨c⟩ ⟨TS (fun _ _=>False) Q⟩ s):awp P (.scope c) Q s:=
 ZaR (ι:=Empty) (fun i=>i.elim) (fun i=>i.elim) (fun i=>i.elim) (fun i=>i.elim) (fun i=>i.elim) (fun _ i=>i.elim) (fun i=>i.elim) fun _=>Wg (fun e s' h=>by
  cases e with
  |goto l=>exact h.elim
  |_=>exact h) (Ys _ _ _ h)
@[go_sem] theorem Zhk (J:Nat→St→Prop) (s:St):@vQ ⟨TS J Q⟩ .normal s= @vQ ⟨Q⟩ .normal s:=rfl
@[go_sem] theorem ZkC (J:Nat→St→Prop) (s:St):@vQ ⟨TS J Q⟩ .ret s= @vQ ⟨Q⟩ .ret s:=rfl
@[go_sem] theorem Zjv (J:Nat→St→Prop) (id:Nat) (s:St):@vQ ⟨TS J Q⟩ (.exit id) s= @vQ ⟨Q⟩ (.exit id) s:=rfl
@[go_sem] theorem Zjw (J:Nat→St→Prop) (l:Nat) (s:St):@vQ ⟨TS J Q⟩ (.goto l) s=J l s:=rfl
@[go_sem] theorem ZkY (l:Nat) (J:St→Prop) (s:St):Zf2 l J l s=J s:=by simp[Zf2]
attribute [go_sem] mkSt
end
open Go.RowKit
section
variable {P:Program} {B:Frm} {S:Stable} {M:Maps} {s:St} {a:Act} {w:World} {Q:Exit→St→Prop}
theorem GI {c:Code} (i id d n sz:Nat) (e:TypeId) (es:List PV) (hi:s.fr i= .sl (.row id) es) (hid:s.m.q id=some (.live n sz e)) (hd:s.m.q d=none)
  (h:awp P c Q ({ s with fr:=upd s.fr i (.sl (.row d) es) }.with ((s.m.setq id .dead).setq d (.live n sz e)))):awp P c Q s:=fun B S M a w hs=>by
 have hne:id≠d:=fun e=>by rw[e,hd]at hid;cases hid
 have hs1:=hs.moveRow hid hd;have hrow:=hs.fr i;rw[hi]at hrow;have key:∃r:Rep S (a.tmps.getD i undef) (.sl .no es),(es.length≤n∧(es.length=n→(M.κ id=0→a.tmps.getD i undef= .slice none 0 0)∧(∀c,M.κ id=c+1→a.tmps.getD i undef= .slice (some ⟨M.ψ id,0,none⟩) n c))):=by
  generalize a.tmps.getD i undef=v at hrow;cases hrow with
  |clean r=>cases r
  |row _ _ _ r t=>exact⟨r,t n sz e hid⟩
 obtain⟨r,t⟩:=key;refine h B S _ a w ⟨hs1.defers,hs1.hn,hs1.hB,hs1.stable,fun k=> ?_,fun k r hr=> ?_,hs1.blk,hs1.row,hs1.inj,hs1.injq,hs1.injx,hs1.rm,hs1.vc,⟨hs1.pn.h,hs1.pn.q⟩,hs1.hz⟩
 ·show RepS _ _ _ _ (upd s.fr i (.sl (.row d) es) k)
  by_cases ek:i=k
  ·subst ek;rw[Za];refine .row d _ es r fun n' sz' e' hq=> ?_
   have hq':upd (upd s.m.q id (some .dead)) d (some (.live n sz e)) d=some (.live n' sz' e'):=hq;rw[Za]at hq';cases hq';refine⟨t.1,fun el=> ?_⟩;have:=t.2 el;simpa only[Za]using this
  ·rw[Zc _ _ ek];exact hs1.fr k
 ·have hr':r∈(upd s.fr i (.sl (.row d) es) k).ids:=hr
  by_cases ek:i=k
  ·subst ek;rw[Za]at hr';simp only[PV.ids,List.mem_singleton]at hr';subst hr';show upd _ _ _ _≠none;simp[Za]
  ·rw[Zc _ _ ek]at hr';exact hs1.ids k r hr'
end
open Go.RowKit
section
variable {P:Program} {s:St} {Q:Exit→St→Prop}
end
open Go.RowKit
section
variable {P:Program} {ops:Array Oper} {md:Region.Mode}
def Zip (ops:Array Oper) (t:Nat):Bool:=ops.toList.any fun o=>o.dst==some t
def Zn5 (ops:Array Oper) (x:Nat):Bool:= !Zip ops x||ops.toList.any fun o=>o.dst==some x&&match o.op with| .move (.tmp y)=> !Zip ops y|_=>false
def ZmN (ops:Array Oper) (o:Oper):Option Nat:=match o.op with
 | .fieldAddr _ (.tmp x) _=>some x
 | .indexAddr _ (.tmp x) _=>if Zn5 ops x then some x else none
 | .move (.tmp x)=>if Zip ops x then none else some x
 |_=>none
def Znk (o:Oper):Bool:=match o.op with| .alloc _=>true|_=>false
def alB (md:Region.Mode) (ops:Array Oper) (o:Oper) (y:Nat):Bool:=o.after.any fun e=>Region.binds md e&&match ops[e.on]? with
  |some o'=>o'.dst==some y&&Znk o'
  |none=>false
structure Good (ops:Array Oper) (root:Nat→Nat) (s0:St) (listed:Array Bool) (s:St):Prop where
 ext:∀t,Zip ops t=false→s.fr t=s0.fr t
 adr:∀k o d x,ops[k]? = some o→ZmN ops o=some x→o.dst=some d→listed.getD k false=true→ ∀r∈(s.fr d).dids,r∈(s0.fr (root x)).dids
 al:∀k o d,ops[k]? = some o→Znk o=true→o.dst=some d→listed.getD k false=true→ ∀r∈(s.fr d).dids,r= .b d
theorem Good.alloc {root:Nat→Nat} {s0 s:St} {listed:Array Bool} (g:Good ops root s0 listed s) {k:Nat} {o:Oper} {y:Nat} (ho:ops[k]? = some o) (hr:k∈Region.ready md ops listed) (hs:alB md ops o y=true):∀r∈(s.fr y).dids,r= .b y:=by
 obtain⟨e,he,hb⟩:=Array.any_eq_true'.1 hs;simp only[Bool.and_eq_true]at hb;obtain⟨hb,hm⟩:=hb;obtain⟨_,o1,ho1,hall⟩:=mem_ready.1 hr;rw[ho]at ho1;cases ho1;have hl:=hall e he hb;cases ho':ops[e.on]? with
 |none=>rw[ho']at hm;cases hm
 |some o'=>
  rw[ho']at hm;simp only[Bool.and_eq_true,beq_iff_eq]at hm;exact g.al e.on o' y ho' hm.2 hm.1 hl
end
end Go.PL
