/- A logic of values for functions that only read and build, over the model (part 1): no statement of the seat is proved here. -/
import Derived.WalkKit
namespace Go.PL
set_option maxHeartbeats 64000000
set_option maxRecDepth 20000
set_option linter.unusedVariables false
set_option linter.unusedSimpArgs false
structure Stable where
 c:Nat→Nat→Option Value
 m:Nat→Option (List MapEntry)
 z:Nat→Prop
 y:Nat→Prop
instance:CoeFun Stable (fun _=>Nat→Nat→Option Value):=⟨Stable.c⟩
abbrev Frm:=Nat→Prop
inductive Tok where
 |no|nil|row (id:Nat)|fr
 deriving DecidableEq
def Tok.sh:Tok→Tok
 | .fr=> .fr
 |_=> .no
inductive PV where
 |any
 |int (k:IntKind) (n:Int)
 |bool (b:Bool)
 |str (s:List UInt8)
 |flt (k:FloatKind) (b:Nat)
 |cpx (k:FloatKind) (re im:Nat)
 |agg (cs:List PV)
 |tup (vs:List PV)
 |sl (t:Tok) (es:List PV)
 |ptr (id off:Nat)
 |rptr (cs:List PV)
 |osl (id off len sz:Nat)
 |nilp
 |fn (f:FuncId) (caps:List PV)
 |nilfn
 |nilmap
 |mref (b:Nat)
 |rmap (ks vs:List PV)
 |iptr (b:Nat)
 |vsl (id len sz:Nat)
 |vptr (id n sz i off:Nat)
 deriving Inhabited
def PV.cells:PV→List PV
 | .agg cs=>cs
 |v=> [v]
def PV.known:PV→Bool
 | .any=>false
 |_=>true
def PV.atom:PV→Bool
 | .any| .agg _| .tup _=>false
 |_=>true
inductive Rep (S:Stable):Value→PV→Prop
 |any (v:Value):Rep S v .any
 |int (k:IntKind) (n:Int):Rep S (.int k n) (.int k n)
 |bool (b:Bool):Rep S (.bool b) (.bool b)
 |str (l:List UInt8):Rep S (.string ⟨⟨l⟩⟩) (.str l)
 |flt (k:FloatKind) (b:Nat):Rep S (.float k b) (.flt k b)
 |cpx (k:FloatKind) (re im:Nat):Rep S (.complex k re im) (.cpx k re im)
 |agg (vs:List Value) (cs:List PV) (hl:vs.length=cs.length) (h:∀i,i<cs.length→Rep S (vs.getD i undef) (cs.getD i .any)):Rep S (.agg ⟨vs⟩) (.agg cs)
 |tup (vs:List Value) (cs:List PV) (hl:vs.length=cs.length) (h:∀i,i<cs.length→Rep S (vs.getD i undef) (cs.getD i .any)):Rep S (.tuple ⟨vs⟩) (.tup cs)
 |sl0 (a:Option Addr) (cap:Nat):Rep S (.slice a 0 cap) (.sl .no [])
 |slnil:Rep S (.slice none 0 0) (.sl .nil [])
 |sl (b o cap sz:Nat) (es:List PV) (vals:Nat→Nat→Value) (hsz:∀i,i<es.length→(es.getD i .any).cells.length=sz) (hcap:es.length≤cap)
   (hS:∀i j,i<es.length→j<sz→S b (o+i*sz+j)=some (vals i j))
   (hR:∀i j,i<es.length→j<sz→Rep S (vals i j) ((es.getD i .any).cells.getD j .any)):Rep S (.slice (some ⟨b,o,none⟩) es.length cap) (.sl .no es)
 |slf (v:Value) (es:List PV) (r:Rep S v (.sl .no es)) (hz:∀b o n c,v= .slice (some ⟨b,o,none⟩) n c→0<n→S.z b∧S.y b):Rep S v (.sl .fr es)
 |rptr (b o:Nat) (cs:List PV) (vals:Nat→Value) (hS:∀j,j<cs.length→S b (o+j)=some (vals j))
   (hR:∀j,j<cs.length→Rep S (vals j) (cs.getD j .any)):Rep S (.pointer (some ⟨b,o,none⟩)) (.rptr cs)
 |nilp:Rep S (.pointer none) .nilp
 |nilfn:Rep S .nilFunc .nilfn
 |nilmap:Rep S (.map none) .nilmap
 |mref (b:Nat):Rep S (.map (some b)) (.mref b)
 |iptr (b:Nat):Rep S (.pointer (some ⟨b,0,none⟩)) (.iptr b)
 |rmap (b:Nat) (es:List MapEntry) (ks vs:List PV) (hS:S.m b=some es) (hk:es.length=ks.length) (hv:vs.length=ks.length) (hb:∀i,i<ks.length→(es.getD i default).born=i)
   (hK:∀i,i<ks.length→Rep S (es.getD i default).key (ks.getD i .any)) (hV:∀i,i<ks.length→Rep S (es.getD i default).val (vs.getD i .any)):Rep S (.map (some b)) (.rmap ks vs)
 |fn (f:FuncId) (vs:List Value) (cs:List PV) (hl:vs.length=cs.length) (h:∀i,i<cs.length→Rep S (vs.getD i undef) (cs.getD i .any)):Rep S (.func (.func f) #[] ⟨vs⟩) (.fn f cs)
structure SLe (S S':Stable):Prop where
 c:∀b o v,S b o=some v→S' b o=some v
 m:∀b es,S.m b=some es→S'.m b=some es
 z:S'.z=S.z
 y:∀b,S.y b→S'.y b
instance (S S':Stable):CoeFun (SLe S S') (fun _=>∀b o v,S b o=some v→S' b o=some v):=⟨SLe.c⟩
theorem SLe.refl (S:Stable):SLe S S:=⟨fun _ _ _ h=>h,fun _ _ h=>h,rfl,fun _ h=>h⟩
theorem SLe.trans {S S' S'':Stable} (h:SLe S S') (h':SLe S' S''):SLe S S'':=⟨fun b o v e=>h' b o v (h b o v e),fun b es e=>h'.m b es (h.m b es e),h'.z.trans h.z,fun b hb=>h'.y b (h.y b hb)⟩
theorem SLe.cells {S S':Stable} (hm:S'.m=S.m) (h:∀b o v,S b o=some v→S' b o=some v) (hz:S'.z=S.z:=by rfl) (hy:∀b,S.y b→S'.y b:=by exact fun _ h=>h):SLe S S':=⟨h,fun b es e=>by rw[hm];exact e,hz,hy⟩
theorem Rep.mono {S S':Stable} (h:SLe S S') {v:Value} {p:PV} (r:Rep S v p):Rep S' v p:=by
 induction r with
 |any v=>exact .any v
 |int k n=>exact .int k n
 |bool b=>exact .bool b
 |str l=>exact .str l
 |flt k b=>exact .flt k b
 |cpx k a b=>exact .cpx k a b
 |agg vs cs hl _ ih=>exact .agg vs cs hl ih
 |tup vs cs hl _ ih=>exact .tup vs cs hl ih
 |sl0 a cap=>exact .sl0 a cap
 |slnil=>exact .slnil
 |sl b o cap sz es vals hsz hcap hS _ ih=>exact .sl b o cap sz es vals hsz hcap (fun i j hi hj=>h _ _ _ (hS i j hi hj)) ih
 |slf v es _ hz ih=>exact .slf v es ih fun b o n c e hn=>⟨by rw[h.z];exact(hz b o n c e hn).1,h.y _ (hz b o n c e hn).2⟩
 |rptr b o cs vals hS _ ih=>exact .rptr b o cs vals (fun j hj=>h _ _ _ (hS j hj)) ih
 |nilp=>exact .nilp
 |nilfn=>exact .nilfn
 |nilmap=>exact .nilmap
 |mref b=>exact .mref b
 |iptr b=>exact .iptr b
 |rmap b es ks vs hS hk hv hb _ _ ihK ihV=>exact .rmap b es ks vs (h.m _ _ hS) hk hv hb ihK ihV
 |fn f vs cs hl _ ih=>exact .fn f vs cs hl ih
inductive Row where
 |live (n sz:Nat) (e:TypeId)
 |vec (n sz:Nat) (e:TypeId)
 |dead
 deriving Inhabited
def Row.len:Row→Option Nat
 | .live n _ _=>some n
 | .vec n _ _=>some n
 | .dead=>none
def Row.own:Row→Bool
 | .dead=>false
 |_=>true
abbrev Rows:=Nat→Option Row
structure MapC where
 ks:List PV
 vs:List PV
structure IterC where
 b:Nat
 n:Nat
 seen:List Nat
 c:Option MapC:=none
structure Hp where
 h:Nat→Option (List PV)
 z:Nat→Bool
 q:Rows
 o:Nat→Option MapC
 it:Nat→Option IterC
 om:Nat→Option MapC
 v:Nat→Option (List PV)
 ph:Nat→Option Nat
 pq:Nat→Option (Nat×Nat×Nat)
 vm:Nat→Bool
def upd {α:Type} (f:Nat→α) (i:Nat) (v:α):Nat→α:=fun j=>if i=j then v else f j
theorem Za {α:Type} (f:Nat→α) (i:Nat) (v:α):upd f i v i=v:=by simp[upd]
theorem Zc {α:Type} (f:Nat→α) {i j:Nat} (v:α) (h:i≠j):upd f i v j=f j:=by simp[upd,h]
def Hp.empty:Hp:=⟨fun _=>none,fun _=>false,fun _=>none,fun _=>none,fun _=>none,fun _=>none,fun _=>none,fun _=>none,fun _=>none,fun _=>false⟩
def Hp.setq (m:Hp) (d:Nat) (r:Row):Hp:= { m with q:=upd m.q d (some r) }
structure Maps where
 φ:Nat→Nat
 ψ:Nat→Nat
 κ:Nat→Nat
inductive RepS (S:Stable) (M:Maps) (q:Rows):Value→PV→Prop
 |clean {v:Value} {p:PV} (r:Rep S v p):RepS S M q v p
 |ptr (id off:Nat):RepS S M q (.pointer (some ⟨M.φ id,off,none⟩)) (.ptr id off)
 |osl (id off len cap sz:Nat) (hc:len≤cap):RepS S M q (.slice (some ⟨M.φ id,off,none⟩) len cap) (.osl id off len sz)
 |row (id:Nat) (v:Value) (es:List PV) (r:Rep S v (.sl .no es))
   (t:∀n sz e,q id=some (.live n sz e)→es.length≤n∧(es.length=n→(M.κ id=0→v= .slice none 0 0)∧(∀c,M.κ id=c+1→v= .slice (some ⟨M.ψ id,0,none⟩) n c))):RepS S M q v (.sl (.row id) es)
 |vsl (id len sz:Nat) (v:Value) (hv:∃a cap,v= .slice a len cap∧len≤cap∧(0<len→ ∃b o,a=some ⟨b,o,none⟩))
   (t:∀n sz' e,q id=some (.vec n sz' e)→len≤n∧(len=n→sz'=sz∧(M.κ id=0→v= .slice none 0 0)∧(∀c,M.κ id=c+1→v= .slice (some ⟨M.ψ id,0,none⟩) len c))):RepS S M q v (.vsl id len sz)
 |vptr (id n sz i off:Nat) (v:Value) (hv:∃b o,v= .pointer (some ⟨b,o,none⟩)) (hi:i<n)
   (t:∀n' sz' e,q id=some (.vec n' sz' e)→n≤n'∧(n=n'→sz'=sz∧v= .pointer (some ⟨M.ψ id,i*sz+off,none⟩))):RepS S M q v (.vptr id n sz i off)
 |agg (vs:List Value) (cs:List PV) (hl:vs.length=cs.length) (hh:∀i,i<cs.length→RepS S M q (vs.getD i undef) (cs.getD i .any)):RepS S M q (.agg ⟨vs⟩) (.agg cs)
 |tup (vs:List Value) (cs:List PV) (hl:vs.length=cs.length) (hh:∀i,i<cs.length→RepS S M q (vs.getD i undef) (cs.getD i .any)):RepS S M q (.tuple ⟨vs⟩) (.tup cs)
 |fn (f:FuncId) (vs:List Value) (cs:List PV) (hl:vs.length=cs.length) (hh:∀i,i<cs.length→RepS S M q (vs.getD i undef) (cs.getD i .any)):RepS S M q (.func (.func f) #[] ⟨vs⟩) (.fn f cs)
inductive Ref where
 |b (id:Nat)
 |r (id:Nat)
 deriving DecidableEq
mutual
def PV.ids:PV→List Ref
 | .ptr id _=> [.b id]
 | .osl id _ _ _=> [.b id]
 | .sl (.row id) _=> [.r id]
 | .vsl id _ _=> [.r id]
 | .vptr id _ _ _ _=> [.r id]
 | .agg cs=>PV.idsL cs
 | .tup cs=>PV.idsL cs
 | .fn _ cs=>PV.idsL cs
 |_=> []
def PV.idsL:List PV→List Ref
 | []=> []
 |c::cs=>PV.ids c++PV.idsL cs
end
theorem PV.mem_idsL {id:Ref}:∀ {cs:List PV},id∈PV.idsL cs↔ ∃c∈cs,id∈c.ids
 | []=>by simp[PV.idsL]
 |c::cs=>by simp[PV.idsL,PV.mem_idsL (cs:=cs)]
def Live (m:Hp):Ref→Prop
 | .b i=>m.h i≠none
 | .r i=>m.q i≠none
structure RowLe (M M':Maps) (id:Nat) (r r':Option Row):Prop where
 l:∀n sz e,r'=some (.live n sz e)→(r=some (.live n sz e)∧M'.κ id=M.κ id∧M'.ψ id=M.ψ id)∨ ∃m sz' e',r=some (.live m sz' e')∧m<n
 v:∀n sz e,r'=some (.vec n sz e)→(∃e0,r=some (.vec n sz e0)∧M'.κ id=M.κ id∧M'.ψ id=M.ψ id)∨ ∃n0 sz0 e0,r=some (.vec n0 sz0 e0)∧n0<n
theorem RowLe.same {M M':Maps} {id:Nat} {r:Option Row} (hκ:M'.κ id=M.κ id) (hψ:M'.ψ id=M.ψ id):RowLe M M' id r r:=
 ⟨fun _ _ _ h=> .inl ⟨h,hκ,hψ⟩,fun _ _ _ h=> .inl ⟨_,h,hκ,hψ⟩⟩
theorem RowLe.refl (M:Maps) (id:Nat) (r:Option Row):RowLe M M id r r:= .same rfl rfl
theorem RowLe.of_eq {M M':Maps} {id:Nat} {r r':Option Row} (h:r'=r) (hκ:M'.κ id=M.κ id) (hψ:M'.ψ id=M.ψ id):RowLe M M' id r r':=by subst h;exact .same hκ hψ
theorem RowLe.dead {M M':Maps} {id:Nat} {r:Option Row}:RowLe M M' id r (some .dead):=⟨(by intro _ _ _ h;cases h),(by intro _ _ _ h;cases h)⟩
theorem RowLe.none {M M':Maps} {id:Nat} {r:Option Row}:RowLe M M' id r none:=⟨(by intro _ _ _ h;cases h),(by intro _ _ _ h;cases h)⟩
theorem RepS.heap {S S':Stable} {M M':Maps} {q q':Rows} (hS:SLe S S') {v:Value} {p:PV}
  (r:RepS S M q v p)
  (hφ:∀id,.b id∈p.ids→M'.φ id=M.φ id)
  (hr:∀id,.r id∈p.ids→RowLe M M' id (q id) (q' id)):RepS S' M' q' v p:=by
 induction r with
 |clean r=>exact .clean (r.mono hS)
 |ptr id off=>rw[←hφ id (by simp[PV.ids])];exact .ptr id off
 |osl id off len cap sz hc=>rw[←hφ id (by simp[PV.ids])];exact .osl id off len cap sz hc
 |row id v es r t=>
  refine .row id v es (r.mono hS) fun n sz e hn=> ?_
  rcases(hr id (by simp[PV.ids])).l n sz e hn with ⟨h1,h2,h3⟩|⟨m,sz',e',h1,h2⟩
  ·obtain⟨t1,t2⟩:=t n sz e h1;refine⟨t1,fun e=> ?_⟩;rw[h2,h3];exact t2 e
  ·obtain⟨t1,t2⟩:=t m sz' e' h1;exact⟨by omega,fun e=>by omega⟩
 |vsl id len sz v hv t=>
  refine .vsl id len sz v hv fun n sz' e hn=> ?_
  rcases(hr id (by simp[PV.ids])).v n sz' e hn with ⟨e0,h1,h3,h4⟩|⟨n0,sz0,e0,h1,h2⟩
  ·obtain⟨t1,t2⟩:=t n sz' e0 h1;refine⟨t1,fun e=> ?_⟩;rw[h3,h4];exact t2 e
  ·obtain⟨t1,t2⟩:=t n0 sz0 e0 h1;exact⟨by omega,fun e=>by omega⟩
 |vptr id n sz i off v hv hi t=>
  refine .vptr id n sz i off v hv hi fun n' sz' e hn=> ?_
  rcases(hr id (by simp[PV.ids])).v n' sz' e hn with ⟨e0,h1,h3,h4⟩|⟨n0,sz0,e0,h1,h2⟩
  ·obtain⟨t1,t2⟩:=t n' sz' e0 h1;refine⟨t1,fun e=> ?_⟩;rw[h4];exact t2 e
  ·obtain⟨t1,t2⟩:=t n0 sz0 e0 h1;exact⟨by omega,fun e=>by omega⟩
 |agg vs cs hl _ ih=>
  refine .agg vs cs hl fun i hi=>ih i hi (fun id hid=>hφ id ?_) (fun id hid=>hr id ?_)<;>
  ·simp only[PV.ids,PV.mem_idsL];exact⟨_,by rw[List.getD_eq_getElem?_getD,List.getElem?_eq_getElem hi];exact List.getElem_mem hi,hid⟩
 |tup vs cs hl _ ih=>
  refine .tup vs cs hl fun i hi=>ih i hi (fun id hid=>hφ id ?_) (fun id hid=>hr id ?_)<;>
  ·simp only[PV.ids,PV.mem_idsL];exact⟨_,by rw[List.getD_eq_getElem?_getD,List.getElem?_eq_getElem hi];exact List.getElem_mem hi,hid⟩
 |fn f vs cs hl _ ih=>
  refine .fn f vs cs hl fun i hi=>ih i hi (fun id hid=>hφ id ?_) (fun id hid=>hr id ?_)<;>
  ·simp only[PV.ids,PV.mem_idsL];exact⟨_,by rw[List.getD_eq_getElem?_getD,List.getElem?_eq_getElem hi];exact List.getElem_mem hi,hid⟩
structure St where
 fr:Nat→PV
 m:Hp
 n:Nat
def Sg (B:Frm) (S:Stable) (M:Maps) (m:Hp) (w:World) (id:Nat) (cs:List PV):Bool→Prop
 |false=>¬B (M.φ id)∧(∀o,S (M.φ id) o=none)∧(∃vs t,w.heap[M.φ id]? = some (.cells ⟨vs⟩ t (0,0))∧vs.length=cs.length∧
   ∀j,j<cs.length→RepS S M m.q (vs.getD j undef) (cs.getD j .any))∧(∀c∈cs,∀i∈c.ids,Live m i)
 |true=>∃vals:Nat→Value,∀j,j<cs.length→S (M.φ id) j=some (vals j)∧Rep S (vals j) (cs.getD j .any)
def FP (B:Frm) (S:Stable) (M:Maps) (w:World) (id:Nat):Row→Prop
 | .live n sz e=>(M.κ id=0→n=0)∧(∀c,M.κ id=c+1→n≤c∧c≤maxLen∧ ¬B (M.ψ id)∧(∃vs,w.heap[M.ψ id]? = some (.cells ⟨vs⟩ e (0,0))∧vs.length=c*sz)∧ ∀o,n*sz≤o→S (M.ψ id) o=none)
 | .vec n sz e=>(M.κ id=0→n=0)∧(∀c,M.κ id=c+1→n≤c∧c≤maxLen∧ ¬B (M.ψ id)∧(∃vs,w.heap[M.ψ id]? = some (.cells ⟨vs⟩ e (0,0))∧vs.length=c*sz)∧ ∀o,S (M.ψ id) o=none)
 | .dead=>True
def VecOk (S:Stable) (M:Maps) (m:Hp) (w:World) (id:Nat) (es:List PV):Prop:=
 ∃sz e,m.q id=some (.vec es.length sz e)∧(∀p∈es,p.cells.length=sz∧p.cells.all PV.atom=true)∧(∀p∈es,∀i∈p.ids,Live m i)∧
  ∀c,M.κ id=c+1→ ∀vs t f,w.heap[M.ψ id]? = some (.cells ⟨vs⟩ t f)→ ∀i j,i<es.length→j<sz→RepS S M m.q (vs.getD (i*sz+j) undef) ((es.getD i .any).cells.getD j .any)
structure StabS (S:Stable) (w:World):Prop where
 c:∀b o v,S b o=some v→w.cell? ⟨b,o,none⟩=some v
 m:∀b es,S.m b=some es→w.heap[b]? = some (.map ⟨es⟩ es.length)
 y:∀b,S.y b→ ∃vs t,w.heap[b]? = some (.cells vs t (0,0))
instance (S:Stable) (w:World):CoeFun (StabS S w) (fun _=>∀b o v,S b o=some v→w.cell? ⟨b,o,none⟩=some v):=⟨StabS.c⟩
def MapAt (S:Stable) (w:World) (b:Nat) (c:MapC):Prop:=
 ∃es:List MapEntry,w.heap[b]? = some (.map ⟨es⟩ es.length)∧es.length=c.ks.length∧c.vs.length=c.ks.length∧(∀i,i<c.ks.length→(es.getD i default).born=i)∧
  (∀i,i<c.ks.length→Rep S (es.getD i default).key (c.ks.getD i .any))∧(∀i,i<c.ks.length→Rep S (es.getD i default).val (c.vs.getD i .any))
def IterAt (w:World) (b:Nat) (x:IterC):Prop:=w.heap[b]? = some (.mapIter (some x.b) x.n ⟨x.seen⟩ x.n)
def MapAtR (S:Stable) (M:Maps) (m:Hp) (w:World) (b:Nat) (c:MapC):Prop:=
 (∃es:List MapEntry,w.heap[b]? = some (.map ⟨es⟩ es.length)∧es.length=c.ks.length∧c.vs.length=c.ks.length∧(∀i,i<c.ks.length→(es.getD i default).born=i)∧
  (∀i,i<c.ks.length→Rep S (es.getD i default).key (c.ks.getD i .any))∧(∀i,i<c.ks.length→RepS S M m.q (es.getD i default).val (c.vs.getD i .any)))∧ ∀p∈c.vs,∀i∈p.ids,Live m i
def RdAt (S:Stable) (x:IterC):Prop:=∀c,x.c=some c→ ∃es:List MapEntry,S.m x.b=some es∧es.length=c.ks.length∧c.vs.length=c.ks.length∧(∀i,i<c.ks.length→(es.getD i default).born=i)∧
  (∀i,i<c.ks.length→Rep S (es.getD i default).key (c.ks.getD i .any))∧(∀i,i<c.ks.length→Rep S (es.getD i default).val (c.vs.getD i .any))
theorem RdAt.mono {S S':Stable} {x:IterC} (h:RdAt S x) (hle:SLe S S'):RdAt S' x:=fun c hc=>by
 obtain⟨es,h1,h2,h3,h4,h5,h6⟩:=h c hc;exact⟨es,hle.m _ _ h1,h2,h3,h4,fun i hi=>(h5 i hi).mono hle,fun i hi=>(h6 i hi).mono hle⟩
structure Stab (B:Frm) (S:Stable) (w:World) (o:Nat→Option MapC) (it:Nat→Option IterC):Prop where
 s:StabS S w
 o:∀b c,o b=some c→ ¬B b∧S.m b=none∧MapAt S w b c
 i:∀b x,it b=some x→ ¬B b∧IterAt w b x∧RdAt S x
instance (B:Frm) (S:Stable) (w:World) (o:Nat→Option MapC) (it:Nat→Option IterC):CoeFun (Stab B S w o it) (fun _=>∀b o v,S b o=some v→w.cell? ⟨b,o,none⟩=some v):=⟨fun h=>h.s.c⟩
structure PinOk (m:Hp) (M:Maps):Prop where
 h:∀id b,m.ph id=some b→m.h id≠none∧M.φ id=b
 q:∀id n k b,m.pq id=some (n,k,b)→m.q id≠none∧ ∀r n',m.q id=some r→r.len=some n'→n≤n'∧(n=n'→M.κ id=k∧M.ψ id=b)
theorem RowLe.len {M M':Maps} {id:Nat} {r r':Option Row} (h:RowLe M M' id r r') {x:Row} {n:Nat} (hx:r'=some x) (hn:x.len=some n):∃y n0,r=some y∧y.len=some n0∧n0≤n∧(n0=n→M'.κ id=M.κ id∧M'.ψ id=M.ψ id):=by
 cases x with
 |dead=>cases hn
 |live n' sz e=>
  cases hn;rcases h.l n sz e hx with ⟨h1,h2,h3⟩|⟨m,sz',e',h1,h2⟩
  ·exact⟨_,n,h1,rfl,Nat.le_refl _,fun _=>⟨h2,h3⟩⟩
  ·exact⟨_,m,h1,rfl,Nat.le_of_lt h2,fun e=>absurd e (Nat.ne_of_lt h2)⟩
 |vec n' sz e=>
  cases hn;rcases h.v n sz e hx with ⟨e0,h1,h2,h3⟩|⟨m,sz',e',h1,h2⟩
  ·exact⟨_,n,h1,rfl,Nat.le_refl _,fun _=>⟨h2,h3⟩⟩
  ·exact⟨_,m,h1,rfl,Nat.le_of_lt h2,fun e=>absurd e (Nat.ne_of_lt h2)⟩
theorem PinOk.move {m m':Hp} {M M':Maps} (h:PinOk m M) (h1:m'.ph=m.ph) (h2:m'.pq=m.pq) (live:∀i,Live m i→Live m' i) (hφ:∀id,m.h id≠none→M'.φ id=M.φ id) (hr:∀id,m.q id≠none→RowLe M M' id (m.q id) (m'.q id)):PinOk m' M':=by
 refine⟨fun id b hb=> ?_,fun id n k b hb=> ?_⟩
 ·rw[h1]at hb;obtain⟨g1,g2⟩:=h.h id b hb;exact⟨live (.b id) g1,by rw[hφ id g1];exact g2⟩
 ·rw[h2]at hb;obtain⟨g1,g2⟩:=h.q id n k b hb;refine⟨live (.r id) g1,fun r n' hq hn=> ?_⟩;obtain⟨y,n0,e1,e2,e3,e4⟩:=(hr id g1).len hq hn;obtain⟨e5,e6⟩:=g2 y n0 e1 e2;refine⟨by omega,fun e=> ?_⟩;obtain⟨e7,e8⟩:=e4 (by omega);obtain⟨e9,e10⟩:=e6 (by omega);exact⟨e7.trans e9,e8.trans e10⟩
structure Sim (B:Frm) (S:Stable) (M:Maps) (s:St) (a:Act) (w:World):Prop where
 defers:a.defers= []
 hn:a.tmps.size=s.n
 hB:∀k,B k→k<w.heap.size
 stable:Stab B S w s.m.o s.m.it
 fr:∀i,RepS S M s.m.q (a.tmps.getD i undef) (s.fr i)
 ids:∀i id,id∈(s.fr i).ids→Live s.m id
 blk:∀id cs,s.m.h id=some cs→Sg B S M s.m w id cs (s.m.z id)
 row:∀id r,s.m.q id=some r→FP B S M w id r
 inj:∀id id' cs cs',s.m.h id=some cs→s.m.h id'=some cs'→s.m.z id=false→s.m.z id'=false→id≠id'→M.φ id≠M.φ id'
 injq:∀id id' r r',s.m.q id=some r→s.m.q id'=some r'→r.own=true→r'.own=true→0<M.κ id→0<M.κ id'→id≠id'→M.ψ id≠M.ψ id'
 injx:∀id id' cs r,s.m.h id=some cs→s.m.z id=false→s.m.q id'=some r→r.own=true→0<M.κ id'→M.φ id≠M.ψ id'
 rm:∀b c,s.m.om b=some c→ ¬B b∧S.m b=none∧s.m.o b=none∧MapAtR S M s.m w b c
 vc:∀id es,s.m.v id=some es→VecOk S M s.m w id es
 pn:PinOk s.m M
 hz:∀b,¬B b→S.z b
def Zfp (S:Stable) (w:World):Prop:=∀b,w.heap.size≤b→S.z b
theorem Sim.young {B:Frm} {S:Stable} {M:Maps} {s:St} {a:Act} {w:World} (hs:Sim B S M s a w):Zfp S w:=fun b hb=>hs.hz b fun h=>by have:=hs.hB b h;omega
theorem Sim.zle {B:Frm} {S S':Stable} {M:Maps} {s:St} {a:Act} {w:World} (hs:Sim B S M s a w) (hle:SLe S S'):∀b,¬B b→S'.z b:=fun b hb=>by rw[hle.z];exact hs.hz b hb
theorem MapAt.move {S S':Stable} {w w':World} {b:Nat} {c:MapC} (h:MapAt S w b c) (hle:SLe S S') (hw:w'.heap[b]? = w.heap[b]?):MapAt S' w' b c:=by
 obtain⟨es,h1,h2,h3,h4,h5,h6⟩:=h;exact⟨es,by rw[hw];exact h1,h2,h3,h4,fun i hi=>(h5 i hi).mono hle,fun i hi=>(h6 i hi).mono hle⟩
theorem MapAt.lt {S:Stable} {w:World} {b:Nat} {c:MapC} (h:MapAt S w b c):b<w.heap.size:=by
 obtain⟨es,h1,_⟩:=h;exact(Array.getElem?_eq_some_iff.1 h1).1
theorem MapAtR.lt {S:Stable} {M:Maps} {m:Hp} {w:World} {b:Nat} {c:MapC} (h:MapAtR S M m w b c):b<w.heap.size:=by
 obtain⟨⟨es,h1,_⟩,_⟩:=h;exact(Array.getElem?_eq_some_iff.1 h1).1
theorem MapAtR.move {S S':Stable} {M M':Maps} {m m':Hp} {w w':World} {b:Nat} {c:MapC} (h:MapAtR S M m w b c) (hle:SLe S S') (hw:w'.heap[b]? = w.heap[b]?)
  (rep:∀v p,RepS S M m.q v p→(∀i∈p.ids,Live m i)→RepS S' M' m'.q v p) (live:∀i,Live m i→Live m' i):MapAtR S' M' m' w' b c:=by
 obtain⟨⟨es,h1,h2,h3,h4,h5,h6⟩,h7⟩:=h;refine⟨⟨es,by rw[hw];exact h1,h2,h3,h4,fun i hi=>(h5 i hi).mono hle,fun i hi=>rep _ _ (h6 i hi) fun k hk=>h7 _ ?_ k hk⟩,fun p hp i hi=>live i (h7 p hp i hi)⟩;rw[List.getD_eq_getElem?_getD,List.getElem?_eq_getElem (by omega)];exact List.getElem_mem (by omega)
theorem IterAt.lt {w:World} {b:Nat} {x:IterC} (h:IterAt w b x):b<w.heap.size:=(Array.getElem?_eq_some_iff.1 h).1
theorem Stab.move {B:Frm} {S S':Stable} {w w':World} {o:Nat→Option MapC} {it:Nat→Option IterC} (h:Stab B S w o it) (hle:SLe S S') (hm:∀b c,o b=some c→S'.m b=none) (hs:StabS S' w')
  (ho:∀b c,o b=some c→w'.heap[b]? = w.heap[b]?) (hi:∀b x,it b=some x→w'.heap[b]? = w.heap[b]?):Stab B S' w' o it:=
 ⟨hs,fun b c hc=>⟨(h.o b c hc).1,hm b c hc,(h.o b c hc).2.2.move hle (ho b c hc)⟩,fun b x hx=>⟨(h.i b x hx).1,by unfold IterAt;rw[hi b x hx];exact(h.i b x hx).2.1,(h.i b x hx).2.2.mono hle⟩⟩
open Go.RowKit
theorem Zb {α:Type} {l:List α} {i:Nat} {d:α} (h:i<l.length):l.getD i d=l[i]:=by
 rw[List.getD_eq_getElem?_getD,List.getElem?_eq_getElem h];rfl
theorem Ze {α:Type} {l:List α} {i:Nat} {d:α} (h:i<l.length):l.getD i d∈l:=by rw[Zb h];exact List.getElem_mem h
theorem Xq {α:Type} {l:List α} {i:Nat} {d:α} (h:l.length≤i):l.getD i d=d:=by
 rw[List.getD_eq_getElem?_getD,List.getElem?_eq_none h];rfl
structure BelowF (B:Frm) (w w':World):Prop where
 os:w'.os=w.os
 tape:w'.tape=w.tape
 output:w'.output=w.output
 size:w.heap.size≤w'.heap.size
 block:∀k,B k→w'.heap[k]? = w.heap[k]?
theorem BelowF.refl (B:Frm) (w:World):BelowF B w w:=⟨rfl,rfl,rfl,Nat.le_refl _,fun _ _=>rfl⟩
theorem BelowF.trans {B:Frm} {a b c:World} (h:BelowF B a b) (k:BelowF B b c):BelowF B a c:=
 ⟨k.os.trans h.os,k.tape.trans h.tape,k.output.trans h.output,Nat.le_trans h.size k.size,fun i hi=>(k.block i hi).trans (h.block i hi)⟩
theorem BelowF.mono {B B':Frm} {w w':World} (h:BelowF B w w') (hB:∀k,B' k→B k):BelowF B' w w':=⟨h.os,h.tape,h.output,h.size,fun k hk=>h.block k (hB k hk)⟩
theorem BelowF.of {n:Nat} {w w':World} (h:Below n w w'):BelowF (fun k=>k<n) w w':=⟨h.os,h.tape,h.output,h.size,h.block⟩
theorem BelowF.to {n:Nat} {w w':World} (h:BelowF (fun k=>k<n) w w'):Below n w w':=⟨h.os,h.tape,h.output,h.size,h.block⟩
theorem BelowF.alloc {B:Frm} {w w':World} (h:BelowF B w w') (hB:∀k,B k→k<w'.heap.size) (o:Obj):BelowF B w (w'.alloc o):=
 ⟨h.os,h.tape,h.output,Nat.le_trans h.size (by show _≤(w'.heap.push o).size;simp),fun k hk=>(Below.heap_alloc w' o k (hB k hk)).trans (h.block k hk)⟩
theorem BelowF.drew {B:Frm} {w w':World} (h:BelowF B w w'):BelowF B w { w' with drawn:=w'.drawn+1 }:=⟨h.os,h.tape,h.output,h.size,h.block⟩
def Ext (B:Frm) (S S':Stable) (w w':World):Prop:=SLe S S'∧(∀b,B b→(∀o,S' b o=S b o)∧S'.m b=S.m b)∧BelowF B w w'
theorem Ext.refl (B:Frm) (S:Stable) (w:World):Ext B S S w w:=⟨SLe.refl S,fun _ _=>⟨fun _=>rfl,rfl⟩,BelowF.refl _ _⟩
theorem Ext.trans {B:Frm} {S S' S'':Stable} {w w' w'':World} (h:Ext B S S' w w') (k:Ext B S' S'' w' w''):Ext B S S'' w w'':=
 ⟨h.1.trans k.1,fun b hb=>⟨fun o=>((k.2.1 b hb).1 o).trans ((h.2.1 b hb).1 o),(k.2.1 b hb).2.trans (h.2.1 b hb).2⟩,h.2.2.trans k.2.2⟩
section
variable {B:Frm} {S:Stable} {M:Maps} {s:St} {a:Act} {w:World}
def St.put (s:St) (d:Option Nat) (v:PV):St:=match d with|some d=> { s with fr:=upd s.fr d v }|none=>s
def St.with (s:St) (m:Hp):St:= { s with m:=m }
theorem ZiB {a:Act} {d i:Nat} {v:Value} (hd:d<a.tmps.size):(a.put (some d) v).tmps.getD i undef=if d=i then v else a.tmps.getD i undef:=by
 simp only[Act.put,Array.getD_eq_getD_getElem?,Array.getElem?_setIfInBounds]
 by_cases e:d=i
 ·subst e;simp[hd]
 ·simp[e]
theorem ZiC (a:Act) (d:Option Nat) (v:Value):(a.put d v).tmps.size=a.tmps.size:=by
 cases d<;>simp[Act.put]
theorem ZeN (a:Act) (d:Option Nat) (v:Value):(a.put d v).defers=a.defers:=by
 cases d<;>simp[Act.put]
theorem Sim.put (hs:Sim B S M s a w) {d:Option Nat} {v:Value} {p:PV} (hd:∀x,d=some x→x<s.n) (hv:RepS S M s.m.q v p) (hi:∀id∈p.ids,Live s.m id):
  Sim B S M (s.put d p) (a.put d v) w:=by
 cases d with
 |none=>exact hs
 |some d=>
  have hlt:d<a.tmps.size:=by rw[hs.hn];exact hd d rfl
  refine⟨by rw[ZeN];exact hs.defers,by rw[ZiC];exact hs.hn,hs.hB,hs.stable,fun i=> ?_,fun i id hid=> ?_,hs.blk,hs.row,hs.inj,hs.injq,hs.injx,hs.rm,hs.vc,hs.pn,hs.hz⟩
  ·rw[ZiB hlt];simp only[St.put,upd];split
   ·exact hv
   ·exact hs.fr i
  ·simp only[St.put,upd]at hid;split at hid
   ·exact hi id hid
   ·exact hs.ids i id hid
theorem Vg {w:World} {b o:Nat} {v:Value} (h:w.cell? ⟨b,o,none⟩=some v):b<w.heap.size:=by
 unfold World.cell? at h
 by_cases hb:b<w.heap.size
 ·exact hb
 ·rw[Array.getElem?_eq_none (by simpa using hb)]at h;simp at h
theorem Z0 {w:World} {b o:Nat} {vs:List Value} {t:TypeId} {f:Nat×Nat} (h:w.heap[b]? = some (.cells ⟨vs⟩ t f)):w.cell? ⟨b,o,none⟩=vs[o]? :=by
 simp[World.cell?,h]
theorem Sim.own (hs:Sim B S M s a w) {id:Nat} {cs:List PV} (h:s.m.h id=some cs) (hz:s.m.z id=false):Sg B S M s.m w id cs false:=by
 have:=hs.blk id cs h;rwa[hz]at this
theorem Sim.blk_lt (hs:Sim B S M s a w) {id:Nat} {cs:List PV} (h:s.m.h id=some cs) (hz:s.m.z id=false):M.φ id<w.heap.size:=by
 obtain⟨_,_,⟨vs,t,hw,_⟩,_⟩:=hs.own h hz;exact(Array.getElem?_eq_some_iff.1 hw).1
theorem Sim.row_lt (hs:Sim B S M s a w) {id:Nat} {r:Row} (h:s.m.q id=some r) (ho:r.own=true) (hk:0<M.κ id):M.ψ id<w.heap.size:=by
 cases r with
 |dead=>cases ho
 |live n sz e=>
  obtain⟨_,h2⟩:=hs.row id _ h;obtain⟨_,_,_,⟨vs,hw,_⟩,_⟩:=h2 (M.κ id-1) (by omega);exact(Array.getElem?_eq_some_iff.1 hw).1
 |vec n sz e=>
  obtain⟨_,h2⟩:=hs.row id _ h;obtain⟨_,_,_,⟨vs,hw,_⟩,_⟩:=h2 (M.κ id-1) (by omega);exact(Array.getElem?_eq_some_iff.1 hw).1
theorem VecOk.move {S S':Stable} {M M':Maps} {m m':Hp} {w w':World} {id id':Nat} {es:List PV} (h:VecOk S M m w id es)
  (hq:∀n sz e,m.q id=some (.vec n sz e)→m'.q id'=some (.vec n sz e)) (hκ:M'.κ id'=M.κ id) (hψ:M'.ψ id'=M.ψ id) (hw:0<M.κ id→w'.heap[M.ψ id]? = w.heap[M.ψ id]?)
  (rep:∀v p,RepS S M m.q v p→(∀i∈p.ids,Live m i)→RepS S' M' m'.q v p) (live:∀i,Live m i→Live m' i):VecOk S' M' m' w' id' es:=by
 obtain⟨sz,e,h1,h2,h3,h4⟩:=h;refine⟨sz,e,hq _ _ _ h1,h2,fun p hp i hi=>live i (h3 p hp i hi),fun c hc vs t f hvs i j hi hj=> ?_⟩;rw[hκ]at hc;rw[hψ,hw (by omega)]at hvs;refine rep _ _ (h4 c hc vs t f hvs i j hi hj) fun k hk=>h3 (es.getD i .any) (Ze hi) k ?_
 have hlen:=(h2 _ (Ze (d:= .any) hi)).1;generalize es.getD i .any=x at hk hlen ⊢;cases x with
 |agg cs=>
  simp only[PV.cells]at hk hlen;simp only[PV.ids,PV.mem_idsL];exact⟨_,Ze (d:= .any) (by omega:j<cs.length),hk⟩
 |_=>
  simp only[PV.cells,List.length_singleton]at hk hlen;have:j=0:=by omega
  subst this;exact hk
theorem Sim.vec_q (hs:Sim B S M s a w) {id:Nat} {es:List PV} (h:s.m.v id=some es):∃sz e,s.m.q id=some (.vec es.length sz e):=by
 obtain⟨sz,e,h1,_⟩:=hs.vc id es h;exact⟨sz,e,h1⟩
theorem Sim.v_none (hs:Sim B S M s a w) {d:Nat} (h:∀n sz e,s.m.q d≠some (.vec n sz e)):s.m.v d=none:=by
 cases e:s.m.v d with
 |none=>rfl
 |some es=>obtain⟨sz,t,h1⟩:=hs.vec_q e;exact absurd h1 (h _ _ _)
theorem Sim.vec_lt (hs:Sim B S M s a w) {id:Nat} {es:List PV} (h:s.m.v id=some es) (hk:0<M.κ id):M.ψ id<w.heap.size:=by
 obtain⟨sz,e,h1⟩:=hs.vec_q h;exact hs.row_lt h1 rfl hk
theorem Sim.S_lt (hs:Sim B S M s a w) {b o:Nat} (h:w.heap.size≤b):S b o=none:=by
 cases e:S b o with
 |none=>rfl
 |some v=>have:=Vg (hs.stable b o v e);omega
theorem Sim.S_m (hs:Sim B S M s a w) {b:Nat} (h:w.heap.size≤b):S.m b=none:=by
 cases e:S.m b with
 |none=>rfl
 |some v=>have:=(Array.getElem?_eq_some_iff.1 (hs.stable.s.m b v e)).1;omega
theorem StabS.old {S:Stable} {w w':World} (hs:StabS S w) (hw:∀k,k<w.heap.size→w'.heap[k]? = w.heap[k]?):StabS S w':=
 ⟨fun b o v h=>by
   have h':=hs.c b o v h;have:=Vg h';rw[←h'];exact World.cell?_of_block (hw _ this),
  fun b es h=>by
     have h':=hs.m b es h;rw[hw b (Array.getElem?_eq_some_iff.1 h').1];exact h',fun b h=>by
     obtain⟨vs,t,e⟩:=hs.y b h;exact⟨vs,t,by rw[hw b (Array.getElem?_eq_some_iff.1 e).1];exact e⟩⟩
theorem Sim.new_ok (hs:Sim B S M s a w):¬B w.heap.size:=fun h=>Nat.lt_irrefl _ (hs.hB _ h)
theorem Sim.grow (hs:Sim B S M s a w) {S':Stable} {w':World} (hle:SLe S S') (hag:∀b,b<w.heap.size→(∀o,S' b o=S b o)∧S'.m b=S.m b)
  (hst:StabS S' w') (hw:∀k,k<w.heap.size→w'.heap[k]? = w.heap[k]?) (hsz:w.heap.size≤w'.heap.size):
  Sim B S' M s a w':=by
 have rep:∀ {v p},RepS S M s.m.q v p→RepS S' M s.m.q v p:=fun r=>r.heap hle (fun _ _=>rfl) (fun _ _=>RowLe.refl _ _ _)
 refine⟨hs.defers,hs.hn,fun k hk=>Nat.lt_of_lt_of_le (hs.hB k hk) hsz,hs.stable.move hle (fun b c hc=> ?_) hst (fun b c hc=>hw b (hs.stable.o b c hc).2.2.lt) (fun b x hx=>hw b (hs.stable.i b x hx).2.1.lt),fun i=>rep (hs.fr i),hs.ids,fun id cs hb=> ?_,fun id r hr=> ?_,hs.inj,hs.injq,hs.injx,fun b c hc=> ?_,fun id es he=> ?_,hs.pn,hs.zle hle⟩
 ·rw[(hag b (hs.stable.o b c hc).2.2.lt).2];exact(hs.stable.o b c hc).2.1
 ·have hb':=hs.blk id cs hb;cases hz:s.m.z id with
  |false=>
   rw[hz]at hb';have hlt:=hs.blk_lt hb hz;obtain⟨h1,h2,⟨vs,t,h3,h4,h5⟩,h6⟩:=hb';exact⟨h1,fun o=>by rw[(hag _ hlt).1];exact h2 o,⟨vs,t,by rw[hw _ hlt];exact h3,h4,fun j hj=>rep (h5 j hj)⟩,h6⟩
  |true=>
   rw[hz]at hb';obtain⟨vals,hv⟩:=hb';exact⟨vals,fun j hj=>⟨hle _ _ _ (hv j hj).1,(hv j hj).2.mono hle⟩⟩
 ·have hr':=hs.row id r hr;cases r with
  |live n sz e=>
   obtain⟨h1,h2⟩:=hr';refine⟨h1,fun c hk=> ?_⟩;have hlt:=hs.row_lt hr rfl (by omega);obtain⟨g0,g0',g1,⟨vs,g2,g3⟩,g4⟩:=h2 c hk;exact⟨g0,g0',g1,⟨vs,by rw[hw _ hlt];exact g2,g3⟩,fun o ho=>by rw[(hag _ hlt).1];exact g4 o ho⟩
  |vec n sz e=>
   obtain⟨h1,h2⟩:=hr';refine⟨h1,fun c hk=> ?_⟩;have hlt:=hs.row_lt hr rfl (by omega);obtain⟨g0,g0',g1,⟨vs,g2,g3⟩,g4⟩:=h2 c hk;exact⟨g0,g0',g1,⟨vs,by rw[hw _ hlt];exact g2,g3⟩,fun o=>by rw[(hag _ hlt).1];exact g4 o⟩
  |dead=>trivial
 ·obtain⟨g1,g2,g3,g4⟩:=hs.rm b c hc;exact⟨g1,by rw[(hag b g4.lt).2];exact g2,g3,g4.move hle (hw b g4.lt) (fun v p r _=>rep r) (fun _ h=>h)⟩
 ·exact(hs.vc id es he).move (fun _ _ _ h=>h) rfl rfl (fun hk=>hw _ (hs.vec_lt he hk)) (fun v p r _=>rep r) (fun _ h=>h)
end
open Go.RowKit
section
variable {B:Frm} {S:Stable} {M:Maps} {s:St} {a:Act} {w:World}
theorem ZD (w:World) (o:Obj) {k:Nat} (h:k<w.heap.size):(w.alloc o).heap[k]? = w.heap[k]? :=Below.heap_alloc w o k h
theorem alloc_heap_new (w:World) (o:Obj):(w.alloc o).heap[w.heap.size]? = some o:=by
 show(w.heap.push o)[w.heap.size]? = some o;simp
theorem UH (w:World) (o:Obj):(w.alloc o).heap.size=w.heap.size+1:=by
 show(w.heap.push o).size=_;simp
theorem Sim.ext_alloc (hs:Sim B S M s a w) (o:Obj):Ext B S S w (w.alloc o):=⟨SLe.refl _,fun _ _=>⟨fun _=>rfl,rfl⟩,(BelowF.refl _ _).alloc hs.hB o⟩
theorem RepS.fresh {S:Stable} {M M':Maps} {m:Hp} {id:Nat} {v:Value} {p:PV} (r:RepS S M m.q v p) (hids:∀i∈p.ids,Live m i) (hid:m.h id=none)
  (e1:∀i,i≠id→M'.φ i=M.φ i) (e2:M'.κ=M.κ) (e3:M'.ψ=M.ψ):RepS S M' m.q v p:=
 r.heap (SLe.refl S) (fun i hi=>e1 i (fun e=>hids _ hi (e▸hid)))
  (fun i hi=>RowLe.same (by rw[e2]) (by rw[e3]))
def Hp.new (m:Hp) (d:Nat) (cs:List PV):Hp:= { m with h:=upd m.h d (some cs),z:=upd m.z d false }
theorem Sim.alloc (hs:Sim B S M s a w) {id:Nat} (hid:s.m.h id=none) {vs:List Value} {t:TypeId} {cs:List PV} (hl:vs.length=cs.length)
  (hr:∀j,j<cs.length→RepS S M s.m.q (vs.getD j undef) (cs.getD j .any)) (hi:∀c∈cs,∀i∈c.ids,Live s.m i):
  Sim B S { M with φ:=upd M.φ id w.heap.size } (s.with (s.m.new id cs)) a (w.alloc (.cells ⟨vs⟩ t)):=by
 have g:=hs.grow (S':=S) (w':=w.alloc (.cells ⟨vs⟩ t)) (SLe.refl S) (fun _ _=>⟨fun _=>rfl,rfl⟩)
  (hs.stable.s.old (fun k hk=>ZD w _ hk))
  (fun k hk=>ZD w _ hk) (by rw[UH];omega)
 have e1:∀i,i≠id→upd M.φ id w.heap.size i=M.φ i:=fun i h=>Zc _ _ (Ne.symm h)
 have e3:∀i,i≠id→(s.m.new id cs).h i=s.m.h i:=fun i h=>Zc _ _ (Ne.symm h)
 have e4:∀i,i≠id→(s.m.new id cs).z i=s.m.z i:=fun i h=>Zc _ _ (Ne.symm h)
 have n1:(s.m.new id cs).h id=some cs:=Za _ _ _;have n2:(s.m.new id cs).z id=false:=Za _ _ _;have rep:∀ {v p},RepS S M s.m.q v p→(∀i∈p.ids,Live s.m i)→RepS S { M with φ:=upd M.φ id w.heap.size } s.m.q v p:=
  fun r hh=>r.fresh hh hid e1 rfl rfl
 have some_ne:∀i,Live s.m i→Live (s.m.new id cs) i:=fun i h=>by
  cases i with
  |b i=>
   by_cases e:i=id
   ·subst e;exact absurd hid h
   ·show(s.m.new id cs).h i≠none;rw[e3 i e];exact h
  |r i=>exact h
 refine⟨g.defers,g.hn,g.hB,g.stable,fun i=>rep (hs.fr i) (hs.ids i),fun i j hj=>some_ne j (hs.ids i j hj),fun i b hb=> ?_,fun i r hr=>g.row i r hr,?_,hs.injq,?_,fun b c hc=> ?_,fun i es he=> ?_,hs.pn.move rfl rfl some_ne (fun i h=>e1 i fun e=>h (e▸hid)) fun i _=> .same rfl rfl,hs.hz⟩
 ·simp only[St.with]at hb ⊢
  by_cases e:i=id
  ·subst e;rw[n1]at hb;cases hb;rw[n2];refine⟨by simp only[Za];exact hs.new_ok,fun o=>by simp only[Za];exact hs.S_lt (Nat.le_refl _),⟨vs,t,by simp only[Za];exact alloc_heap_new w _,hl,fun j hj=>rep (hr j hj) ?_⟩,fun c hc k hk=>some_ne k (hi c hc k hk)⟩;intro k hk;exact hi _ (Ze hj) k hk
  ·rw[e3 i e]at hb;rw[e4 i e];have hb':=g.blk i b hb;cases hz:s.m.z i with
   |false=>
    rw[hz]at hb';obtain⟨h1,h2,⟨us,t',h3,h4,h5⟩,h6⟩:=hb';exact⟨by simp only[e1 i e];exact h1,fun o=>by simp only[e1 i e];exact h2 o,⟨us,t',by simp only[e1 i e];exact h3,h4,fun j hj=>rep (h5 j hj) (fun k hk=>h6 _ (Ze hj) k hk)⟩,fun c hc k hk=>some_ne k (h6 c hc k hk)⟩
   |true=>
    rw[hz]at hb';obtain⟨vals,hv⟩:=hb';exact⟨vals,fun j hj=>by simp only[e1 i e];exact hv j hj⟩
 ·intro i j ds ds' hbi hbj zi zj hij;simp only[St.with]at hbi hbj zi zj ⊢
  by_cases e:i=id
  ·subst e;rw[e3 j (Ne.symm hij)]at hbj;rw[e4 j (Ne.symm hij)]at zj;rw[Za,e1 j (Ne.symm hij)];have:=hs.blk_lt hbj zj;omega
  ·by_cases e':j=id
   ·subst e';rw[e3 i e]at hbi;rw[e4 i e]at zi;rw[Za,e1 i e];have:=hs.blk_lt hbi zi;omega
   ·rw[e3 i e]at hbi;rw[e3 j e']at hbj;rw[e4 i e]at zi;rw[e4 j e']at zj;rw[e1 i e,e1 j e'];exact hs.inj i j _ _ hbi hbj zi zj hij
 ·intro i j ds rj hbi zi hqj hoj hk;simp only[St.with]at hbi zi ⊢
  by_cases e:i=id
  ·subst e;rw[Za];have:=hs.row_lt hqj hoj hk;omega
  ·rw[e3 i e]at hbi;rw[e4 i e]at zi;rw[e1 i e];exact hs.injx i j _ _ hbi zi hqj hoj hk
 ·obtain⟨g1,g2,g3,g4⟩:=g.rm b c hc;exact⟨g1,g2,g3,g4.move (SLe.refl _) rfl (fun v p r h=>rep r h) some_ne⟩
 ·exact(g.vc i es he).move (fun _ _ _ h=>h) rfl rfl (fun _=>rfl) (fun v p r h=>rep r h) some_ne
def Hp.freeze (m:Hp) (d:Nat):Hp:= { m with z:=upd m.z d true }
end
open Go.RowKit
def tsz (P:Program) (t:TypeId):Nat:=P.cellsOf t
def Yd (P:Program) (t:TypeId):Bool:=match P.underlying t with|some (.struct _)|some (.array _ _)=>true|_=>false
def Gu (P:Program) (t:TypeId) (f:Nat):Option (Nat×Nat×Bool):=
 match P.underlying t with
 |some (.struct fs)=>match fs[f]? with
  |some fd=>match P.underlying fd.type with
   |some _=>some (fd.offset,tsz P fd.type,Yd P fd.type)
   |none=>none
  |none=>none
 |_=>none
inductive IxK where
 |arr (len esz:Nat) (ea:Bool)
 |slc (esz:Nat) (ea:Bool)
 |str
 |none
def tix (P:Program) (t:TypeId):IxK:=
 match P.underlying t with
 |some (.array n e)=>match P.underlying e with|some _=> .arr n (tsz P e) (Yd P e)|none=> .none
 |some (.slice e)=>match P.underlying e with|some _=> .slc (tsz P e) (Yd P e)|none=> .none
 |some .string=> .str
 |_=> .none
def Us:Value→PV
 | .int k n=> .int k n
 | .bool b=> .bool b
 | .string s=> .str s.data.toList
 | .float k b=> .flt k b
 | .complex k a b=> .cpx k a b
 | .pointer none=> .nilp
 | .slice none 0 0=> .sl .nil []
 | .nilFunc=> .nilfn
 | .map none=> .nilmap
 |_=> .any
def Y7:Value→PV
 | .agg cs=> .agg (cs.toList.map Us)
 | .tuple cs=>if cs.isEmpty then .tup []else .any
 |v=>Us v
theorem Fy (S:Stable) (v:Value):Rep S v (Us v):=by
 unfold Us;split
 ·exact .int _ _
 ·exact .bool _
 ·rename_i s;exact .str s.data.toList
 ·exact .flt _ _
 ·exact .cpx _ _ _
 ·exact .nilp
 ·exact .slnil
 ·exact .nilfn
 ·exact .nilmap
 ·exact .any _
theorem X2 (S:Stable) (v:Value):Rep S v (Y7 v):=by
 unfold Y7;split
 ·rename_i cs;obtain⟨l⟩:=cs;refine .agg l _ (by simp) fun i hi=> ?_
  simp only[List.length_map]at hi;rw[Zb (by simpa using hi),Zb (by simpa using hi)];simp only[List.getElem_map];exact Fy S _
 ·rename_i cs;split
  ·rename_i h;obtain⟨l⟩:=cs;have:l= []:=by simpa using h
   subst this;exact .tup [] [] rfl (fun i hi=>by simp at hi)
  ·exact .any _
 ·exact Fy S _
theorem Fi (v:Value):(Us v).ids= []:=by unfold Us;split<;>rfl
theorem Zcy (l:List Value):PV.idsL (l.map Us)= []:=by
 induction l with
 |nil=>rfl
 |cons v l ih=>simp[PV.idsL,Fi,ih]
theorem XZ (v:Value):(Y7 v).ids= []:=by
 unfold Y7;split
 ·simp[PV.ids,Zcy]
 ·split<;>rfl
 ·exact Fi _
def St.eval (s:St):Operand→PV
 | .tmp t=>s.fr t
 | .const v=>Y7 v
 | .global _=> .any
 | .func f=> .fn f []
section
variable {B:Frm} {S:Stable} {M:Maps} {s:St} {a:Act} {w:World}
theorem Sim.eval (hs:Sim B S M s a w) (x:Operand):RepS S M s.m.q (a.eval x) (s.eval x):=by
 rcases x with t|v|g|f
 ·exact hs.fr t
 ·exact .clean (X2 S v)
 ·exact .clean (.any _)
 ·exact .clean (.fn f [] [] rfl (fun i hi=>by simp at hi))
theorem Sim.eval_ids (hs:Sim B S M s a w) (x:Operand):∀i∈(s.eval x).ids,Live s.m i:=by
 rcases x with t|v|g|f
 ·exact hs.ids t
 ·intro i hi;simp[St.eval,XZ]at hi
 ·intro i hi;simp[St.eval,PV.ids]at hi
 ·intro i hi;simp[St.eval,PV.ids,PV.idsL]at hi
end
structure ARes where
 ok:Prop
 v:PV
 m:Hp
def ARes.fail:ARes:=⟨False,.any,Hp.empty⟩
def Wc (ag:Bool) (sz:Nat) (cs:List PV) (off:Nat):PV:=if ag then .agg ((cs.drop off).take sz)else cs.getD off .any
def TF (P:Program) (t:TypeId) (x:PV) (f:Nat) (m:Hp):ARes:=
 match Gu P t f,x with
 |some (o,sz,ag),.agg cs=>⟨o+sz≤cs.length∧(ag=false→sz=1),Wc ag sz cs o,m⟩
 |_,_=> .fail
def Yi (P:Program) (t:TypeId) (x:PV) (f:Nat) (m:Hp):ARes:=
 match Gu P t f,x with
 |some (o,sz,_),.ptr id off=>⟨sz≠0,.ptr id (off+o),m⟩
 |some (o,sz,_),.rptr cs=>⟨sz≠0,.rptr (cs.drop o),m⟩
 |some (o,sz,_),.vptr id n z i off=>⟨sz≠0,.vptr id n z i (off+o),m⟩
 |_,_=> .fail
def TG (P:Program) (t:TypeId) (x i:PV) (m:Hp):ARes:=
 match tix P t,x,i with
 | .arr n esz ea,.agg cs,.int _ k=>⟨0≤k∧k<n∧(k.toNat+1)*esz≤cs.length∧(ea=false→esz=1),Wc ea esz cs (k.toNat*esz),m⟩
 | .str,.str l,.int _ k=>⟨0≤k∧k<l.length,.int .u8 (l.getD k.toNat 0).toNat,m⟩
 |_,_,_=> .fail
def Yj (P:Program) (t:TypeId) (x i:PV) (m:Hp):ARes:=
 match tix P t,x,i with
 | .slc esz _,.sl _ es,.int _ k=>⟨0≤k∧k<es.length∧(es.getD k.toNat .any).cells.length=esz,.rptr (es.getD k.toNat .any).cells,m⟩
 | .slc esz _,.osl id off len sz,.int _ k=>⟨0≤k∧k<len∧esz=sz,.ptr id (off+k.toNat*sz),m⟩
 | .arr n esz _,.ptr id off,.int _ k=>⟨0≤k∧k<n,.ptr id (off+k.toNat*esz),m⟩
 | .arr n esz _,.rptr cs,.int _ k=>⟨0≤k∧k<n,.rptr (cs.drop (k.toNat*esz)),m⟩
 | .slc esz _,.vsl id n sz,.int _ k=>⟨0≤k∧k<n∧esz=sz,.vptr id n sz k.toNat 0,m⟩
 | .arr n esz _,.vptr id n' z i off,.int _ k=>⟨0≤k∧k<n,.vptr id n' z i (off+k.toNat*esz),m⟩
 |_,_,_=> .fail
def Ve (P:Program) (t:TypeId) (x:PV) (m:Hp):ARes:=
 match x with
 | .rptr cs=>⟨tsz P t≤cs.length∧(Yd P t=false→tsz P t=1),Wc (Yd P t) (tsz P t) cs 0,m⟩
 | .ptr id off=>match m.h id with
  |some cs=>⟨off+tsz P t≤cs.length∧(Yd P t=false→tsz P t=1),Wc (Yd P t) (tsz P t) cs off,m⟩
  |none=> .fail
 | .vptr id n _ i off=>match m.v id with
  |some es=>⟨es.length=n∧off+tsz P t≤(es.getD i .any).cells.length∧(Yd P t=false→tsz P t=1),Wc (Yd P t) (tsz P t) (es.getD i .any).cells off,m⟩
  |_=> .fail
 |_=> .fail
def Yr (cs:List PV) (off:Nat) (ns:List PV):List PV:=cs.take off++ns++cs.drop (off+ns.length)
def Do (x:PV) (off:Nat) (v:PV):PV:=if off=0∧v.cells.length=x.cells.length then v else .agg (Yr x.cells off v.cells)
def Vp (P:Program) (t:TypeId) (x v:PV) (m:Hp):ARes:=
 match x with
 | .ptr id off=>match m.h id with
  |some cs=>⟨m.z id=false∧v.known=true∧v.cells.length=tsz P t∧off+tsz P t≤cs.length∧v.cells.all PV.atom=true,.tup [],{ m with h:=upd m.h id (some (Yr cs off v.cells)) }⟩
  |none=> .fail
 | .vptr id n sz i off=>match m.v id with
  |some es=>⟨es.length=n∧v.known=true∧v.cells.length=tsz P t∧off+tsz P t≤sz∧v.cells.all PV.atom=true,.tup [],{ m with v:=upd m.v id (some (es.set i (Do (es.getD i .any) off v))) }⟩
  |_=> .fail
 |_=> .fail
open Go.RowKit
section
variable {P:Program} {B:Frm} {S:Stable} {M:Maps} {s:St} {a:Act} {w:World}
def Snd (P:Program) (B:Frm) (S:Stable) (s:St) (a:Act) (w:World) (m:Sem Value) (r:ARes):Prop:=
 ∃v w' S' M',m.run P w= .ok v w'∧Sim B S' M' (s.with r.m) a w'∧RepS S' M' r.m.q v r.v∧(∀i∈r.v.ids,Live r.m i)∧Ext B S S' w w'
theorem Snd.pure (hs:Sim B S M s a w) {m:Sem Value} {ok:Prop} {p:PV} {v:Value} (hm:m.run P w= .ok v w) (hr:RepS S M s.m.q v p) (hi:∀i∈p.ids,Live s.m i):
  Snd P B S s a w m ⟨ok,p,s.m⟩:=⟨v,w,S,M,hm,hs,hr,hi,Ext.refl _ _ _⟩
theorem Zw {t:TypeId} {d:TypeDesc} (h:P.underlying t=some d) (w:World):(underlying t).run P w= .ok d w:=run_underlying h w
theorem Ty {t:TypeId} {i:TypeInfo} (h:P.info? t=some i) (w:World):(typeInfo t).run P w= .ok i w:=by
 simp[typeInfo,program,Sem.run,h]
theorem Z6 {t:TypeId} {i:TypeInfo} (h:P.info? t=some i) (w:World):(sizeOf t).run P w= .ok (tsz P t) w:=by
 simp[sizeOf,Ty h,tsz,Program.cellsOf,h]
theorem YO {t:TypeId} {d:TypeDesc} (h:P.underlying t=some d):∃i,P.info? t=some i:=by
 unfold Program.underlying at h;cases e:P.info? t with
 |none=>rw[e]at h;simp at h
 |some i=>exact⟨i,rfl⟩
theorem WU {t:TypeId} {d:TypeDesc} (h:P.underlying t=some d) (w:World):(isAgg t).run P w= .ok (Yd P t) w:=by
 unfold isAgg Yd;simp only[Sem.run_bind,Zw h,Result.andThen_ok,h];cases d<;>rfl
theorem RepS.agg_inv {v:Value} {cs:List PV} {q:Rows} (r:RepS S M q v (.agg cs)):∃vs:List Value,v= .agg ⟨vs⟩∧vs.length=cs.length∧ ∀i,i<cs.length→RepS S M q (vs.getD i undef) (cs.getD i .any):=by
 cases r with
 |clean r=>cases r with|agg vs cs hl h=>exact⟨vs,rfl,hl,fun i hi=> .clean (h i hi)⟩
 |agg vs cs hl h=>exact⟨vs,rfl,hl,h⟩
theorem RepS.tup_inv {v:Value} {cs:List PV} {q:Rows} (r:RepS S M q v (.tup cs)):∃vs:List Value,v= .tuple ⟨vs⟩∧vs.length=cs.length∧ ∀i,i<cs.length→RepS S M q (vs.getD i undef) (cs.getD i .any):=by
 cases r with
 |clean r=>cases r with|tup vs cs hl h=>exact⟨vs,rfl,hl,fun i hi=> .clean (h i hi)⟩
 |tup vs cs hl h=>exact⟨vs,rfl,hl,h⟩
theorem RepS.fn_inv {v:Value} {f:FuncId} {cs:List PV} {q:Rows} (r:RepS S M q v (.fn f cs)):∃vs:List Value,v= .func (.func f) #[] ⟨vs⟩∧vs.length=cs.length∧ ∀i,i<cs.length→RepS S M q (vs.getD i undef) (cs.getD i .any):=by
 cases r with
 |clean r=>cases r with|fn f vs cs hl h=>exact⟨vs,rfl,hl,fun i hi=> .clean (h i hi)⟩
 |fn f vs cs hl h=>exact⟨vs,rfl,hl,h⟩
theorem RepS.int_inv {v:Value} {k:IntKind} {n:Int} {q:Rows} (r:RepS S M q v (.int k n)):v= .int k n:=by
 cases r with|clean r=>cases r;rfl
theorem RepS.flt_inv {v:Value} {k:FloatKind} {b:Nat} {q:Rows} (r:RepS S M q v (.flt k b)):v= .float k b:=by
 cases r with|clean r=>cases r;rfl
theorem RepS.cpx_inv {v:Value} {k:FloatKind} {x y:Nat} {q:Rows} (r:RepS S M q v (.cpx k x y)):v= .complex k x y:=by
 cases r with|clean r=>cases r;rfl
theorem RepS.bool_inv {v:Value} {b:Bool} {q:Rows} (r:RepS S M q v (.bool b)):v= .bool b:=by
 cases r with|clean r=>cases r;rfl
theorem RepS.str_inv {v:Value} {l:List UInt8} {q:Rows} (r:RepS S M q v (.str l)):v= .string ⟨⟨l⟩⟩:=by
 cases r with|clean r=>cases r;rfl
theorem RepS.ptr_inv {v:Value} {id off:Nat} {q:Rows} (r:RepS S M q v (.ptr id off)):v= .pointer (some ⟨M.φ id,off,none⟩):=by
 cases r with
 |clean r=>cases r
 |ptr=>rfl
theorem RepS.rptr_inv {v:Value} {cs:List PV} {q:Rows} (r:RepS S M q v (.rptr cs)):∃b o,∃vals:Nat→Value,v= .pointer (some ⟨b,o,none⟩)∧(∀j,j<cs.length→S b (o+j)=some (vals j))∧ ∀j,j<cs.length→Rep S (vals j) (cs.getD j .any):=by
 cases r with|clean r=>cases r with|rptr b o cs vals hS hR=>exact⟨b,o,vals,rfl,hS,hR⟩
theorem RepS.osl_inv {v:Value} {id off len sz:Nat} {q:Rows} (r:RepS S M q v (.osl id off len sz)):∃cap,len≤cap∧v= .slice (some ⟨M.φ id,off,none⟩) len cap:=by
 cases r with
 |clean r=>cases r
 |osl _ _ _ cap _ hc=>exact⟨cap,hc,rfl⟩
theorem RepS.sl_inv {v:Value} {t:Tok} {es:List PV} {q:Rows} (r:RepS S M q v (.sl t es)):Rep S v (.sl .no es):=by
 cases r with
 |clean r=>
  cases r with
  |sl0 a cap=>exact .sl0 a cap
  |slnil=>exact .sl0 none 0
  |sl b o cap sz es vals h1 h2 h3 h4=>exact .sl b o cap sz es vals h1 h2 h3 h4
  |slf v es r hz=>exact r
 |row id v es r _=>exact r
theorem RepS.row_tok {v:Value} {id:Nat} {es:List PV} {q:Rows} (r:RepS S M q v (.sl (.row id) es)):∀n sz e,q id=some (.live n sz e)→es.length≤n∧(es.length=n→(M.κ id=0→v= .slice none 0 0)∧(∀c,M.κ id=c+1→v= .slice (some ⟨M.ψ id,0,none⟩) n c)):=by
 cases r with
 |clean r=>cases r
 |row _ _ _ _ t=>exact t
theorem RepS.vsl_inv {v:Value} {id len sz:Nat} {q:Rows} (r:RepS S M q v (.vsl id len sz)):(∃a cap,v= .slice a len cap∧len≤cap∧(0<len→ ∃b o,a=some ⟨b,o,none⟩))∧
  ∀n sz' e,q id=some (.vec n sz' e)→len≤n∧(len=n→sz'=sz∧(M.κ id=0→v= .slice none 0 0)∧(∀c,M.κ id=c+1→v= .slice (some ⟨M.ψ id,0,none⟩) len c)):=by
 cases r with
 |clean r=>cases r
 |vsl _ _ _ _ hv t=>exact⟨hv,t⟩
theorem RepS.vptr_inv {v:Value} {id n sz i off:Nat} {q:Rows} (r:RepS S M q v (.vptr id n sz i off)):(∃b o,v= .pointer (some ⟨b,o,none⟩))∧i<n∧
  ∀n' sz' e,q id=some (.vec n' sz' e)→n≤n'∧(n=n'→sz'=sz∧v= .pointer (some ⟨M.ψ id,i*sz+off,none⟩)):=by
 cases r with
 |clean r=>cases r
 |vptr _ _ _ _ _ _ hv hi t=>exact⟨hv,hi,t⟩
theorem Rep.sl_len {v:Value} {es:List PV} (r:Rep S v (.sl .no es)):∃a cap,v= .slice a es.length cap∧es.length≤cap:=by
 cases r with
 |sl0 a cap=>exact⟨a,cap,rfl,Nat.zero_le _⟩
 |sl b o cap sz es vals h1 h2 h3 h4=>exact⟨_,cap,rfl,h2⟩
theorem Rep.sl_at {v:Value} {es:List PV} (r:Rep S v (.sl .no es)) {i:Nat} (hi:i<es.length):∃b o cap,∃vals:Nat→Nat→Value,v= .slice (some ⟨b,o,none⟩) es.length cap∧es.length≤cap∧
  (∀k,k<es.length→(es.getD k .any).cells.length=(es.getD i .any).cells.length)∧(∀k j,k<es.length→j<(es.getD i .any).cells.length→S b (o+k*(es.getD i .any).cells.length+j)=some (vals k j))∧
  ∀k j,k<es.length→j<(es.getD i .any).cells.length→Rep S (vals k j) ((es.getD k .any).cells.getD j .any):=by
 cases r with
 |sl0 a cap=>simp at hi
 |sl b o cap sz es vals h1 h2 h3 h4=>
  have e:=h1 i hi;exact⟨b,o,cap,vals,rfl,h2,fun k hk=>(h1 k hk).trans e.symm,by rw[e];exact h3,by rw[e];exact h4⟩
theorem RepS.cells_inv {v:Value} {p:PV} {q:Rows} (r:RepS S M q v p) (hk:p.known=true):∃vs:List Value,v.cells=⟨vs⟩∧vs.length=p.cells.length∧ ∀i,i<p.cells.length→RepS S M q (vs.getD i undef) (p.cells.getD i .any):=by
 have one:v.cells= #[v]→p.cells= [p]→ ∃vs:List Value,v.cells=⟨vs⟩∧vs.length=p.cells.length∧ ∀i,i<p.cells.length→RepS S M q (vs.getD i undef) (p.cells.getD i .any):=by
  intro e1 e2;refine⟨[v],e1,by rw[e2];rfl,fun i hi=> ?_⟩;rw[e2]at hi ⊢;simp only[List.length_cons,List.length_nil]at hi;have:i=0:=by omega
  subst this;exact r
 cases p with
 |any=>simp[PV.known]at hk
 |agg cs=>obtain⟨vs,rfl,hl,hh⟩:=r.agg_inv;exact⟨vs,rfl,hl,hh⟩
 |tup cs=>obtain⟨vs,rfl,_,_⟩:=r.tup_inv;exact one rfl rfl
 |fn f cs=>obtain⟨vs,rfl,_,_⟩:=r.fn_inv;exact one rfl rfl
 |int k n=>rw[r.int_inv]at one ⊢;exact one rfl rfl
 |bool b=>rw[r.bool_inv]at one ⊢;exact one rfl rfl
 |str l=>rw[r.str_inv]at one ⊢;exact one rfl rfl
 |flt k b=>have e:v= .float k b:=by cases r with|clean r=>cases r;rfl
           subst e;exact one rfl rfl
 |cpx k x y=>have e:v= .complex k x y:=by cases r with|clean r=>cases r;rfl
             subst e;exact one rfl rfl
 |ptr id off=>rw[r.ptr_inv]at one ⊢;exact one rfl rfl
 |rptr cs=>obtain⟨b,o,vals,e,_⟩:=r.rptr_inv;subst e;exact one rfl rfl
 |osl id off len sz=>obtain⟨cap,_,e⟩:=r.osl_inv;subst e;exact one rfl rfl
 |sl t es=>obtain⟨x,cap,e,_⟩:=r.sl_inv.sl_len;subst e;exact one rfl rfl
 |nilp=>have e:v= .pointer none:=by cases r with|clean r=>cases r;rfl
        subst e;exact one rfl rfl
 |nilfn=>have e:v= .nilFunc:=by cases r with|clean r=>cases r;rfl
         subst e;exact one rfl rfl
 |nilmap=>have e:v= .map none:=by cases r with|clean r=>cases r;rfl
          subst e;exact one rfl rfl
 |mref b=>have e:v= .map (some b):=by cases r with|clean r=>cases r;rfl
          subst e;exact one rfl rfl
 |rmap ks vs=>have e:∃b,v= .map (some b):=by cases r with|clean r=>cases r;exact⟨_,rfl⟩
              obtain⟨b,e⟩:=e;subst e;exact one rfl rfl
 |iptr b=>have e:v= .pointer (some ⟨b,0,none⟩):=by cases r with|clean r=>cases r;rfl
          subst e;exact one rfl rfl
 |vsl id len sz=>obtain⟨⟨x,n,e,_⟩,_⟩:=r.vsl_inv;subst e;exact one rfl rfl
 |vptr id n sz i off=>obtain⟨⟨x,o,e⟩,_⟩:=r.vptr_inv;subst e;exact one rfl rfl
theorem RepS.atom_inv {v:Value} {p:PV} {q:Rows} (r:RepS S M q v p) (hk:p.atom=true):v.oneCell'=true:=by
 cases p with
 |any=>simp[PV.atom]at hk
 |agg cs=>simp[PV.atom]at hk
 |tup cs=>simp[PV.atom]at hk
 |fn f cs=>obtain⟨vs,rfl,_,_⟩:=r.fn_inv;rfl
 |int k n=>rw[r.int_inv];rfl
 |bool b=>rw[r.bool_inv];rfl
 |str l=>rw[r.str_inv];rfl
 |flt k b=>have e:v= .float k b:=by cases r with|clean r=>cases r;rfl
           subst e;rfl
 |cpx k x y=>have e:v= .complex k x y:=by cases r with|clean r=>cases r;rfl
             subst e;rfl
 |ptr id off=>rw[r.ptr_inv];rfl
 |rptr cs=>obtain⟨b,o,vals,e,_⟩:=r.rptr_inv;subst e;rfl
 |osl id off len sz=>obtain⟨cap,_,e⟩:=r.osl_inv;subst e;rfl
 |sl t es=>obtain⟨x,cap,e,_⟩:=r.sl_inv.sl_len;subst e;rfl
 |nilp=>have e:v= .pointer none:=by cases r with|clean r=>cases r;rfl
        subst e;rfl
 |nilfn=>have e:v= .nilFunc:=by cases r with|clean r=>cases r;rfl
         subst e;rfl
 |nilmap=>have e:v= .map none:=by cases r with|clean r=>cases r;rfl
          subst e;rfl
 |mref b=>have e:v= .map (some b):=by cases r with|clean r=>cases r;rfl
          subst e;rfl
 |rmap ks vs=>have e:∃b,v= .map (some b):=by cases r with|clean r=>cases r;exact⟨_,rfl⟩
              obtain⟨b,e⟩:=e;subst e;rfl
 |iptr b=>have e:v= .pointer (some ⟨b,0,none⟩):=by cases r with|clean r=>cases r;rfl
          subst e;rfl
 |vsl id len sz=>obtain⟨⟨x,n,e,_⟩,_⟩:=r.vsl_inv;subst e;rfl
 |vptr id n sz i off=>obtain⟨⟨x,o,e⟩,_⟩:=r.vptr_inv;subst e;rfl
end
open Go.RowKit
section
variable {P:Program} {B:Frm} {S:Stable} {M:Maps} {s:St} {a:Act} {w:World}
theorem ZdB {l l':List PV} (h:∀c∈l,c∈l') {i:Ref} (hi:i∈PV.idsL l):i∈PV.idsL l':=by
 rw[PV.mem_idsL]at hi ⊢;obtain⟨c,hc,hic⟩:=hi;exact⟨c,h c hc,hic⟩
theorem ZdO {e:TypeId} {d:TypeDesc} {i:TypeInfo} {qq:Rows} (hu:P.underlying e=some d) (hi:P.info? e=some i) {vs:List Value} {cs:List PV} (hl:vs.length=cs.length)
  (hr:∀j,j<cs.length→RepS S M qq (vs.getD j undef) (cs.getD j .any)) {off:Nat} (hoff:off+tsz P e≤cs.length) (h1:Yd P e=false→tsz P e=1) (w:World):
  ∃v,(part e ⟨vs⟩ off).run P w= .ok v w∧RepS S M qq v (Wc (Yd P e) (tsz P e) cs off)∧ ∀k∈(Wc (Yd P e) (tsz P e) cs off).ids,k∈PV.idsL cs:=by
 unfold part Wc;cases hg:Yd P e with
 |true=>
  refine⟨.agg ⟨(vs.drop off).take (tsz P e)⟩,?_,?_,?_⟩
  ·simp only[Sem.run_bind,WU hu,Result.andThen_ok,hg,if_true,Z6 hi,Sem.run_pure];simp
  ·refine .agg _ _ (by simp;omega) fun j hj=> ?_
   simp only[List.length_take,List.length_drop]at hj;have:=hr (off+j) (by omega);rw[Zb (by simp;omega),Zb (by simp;omega)];rw[Zb (by omega),Zb (by omega)]at this;simpa using this
  ·intro k hk;simp only[if_true,PV.ids]at hk;exact ZdB (fun c hc=>List.mem_of_mem_drop (List.mem_of_mem_take hc)) hk
 |false=>
  have hz:=h1 hg;have hlt:off<cs.length:=by omega
  refine⟨vs.getD off undef,?_,?_,?_⟩
  ·simp only[Sem.run_bind,WU hu,Result.andThen_ok,hg,Bool.false_eq_true,if_false];rw[Zb (by omega)];simp[hl,hlt]
  ·simpa using hr off hlt
  ·intro k hk;simp only[Bool.false_eq_true,if_false]at hk;rw[PV.mem_idsL];exact⟨_,Ze hlt,hk⟩
theorem T6 {t:TypeId} {f o sz:Nat} {ag:Bool} (h:Gu P t f=some (o,sz,ag)):∃fs fd,P.underlying t=some (.struct fs)∧fs[f]? = some fd∧fd.offset=o∧tsz P fd.type=sz∧Yd P fd.type=ag∧(∃d,P.underlying fd.type=some d)∧ ∃i,P.info? fd.type=some i:=by
 unfold Gu at h;cases e:P.underlying t with
 |none=>rw[e]at h;simp at h
 |some d=>
  rw[e]at h;cases d<;>simp only[reduceCtorEq]at h
  rename_i fs;cases e2:fs[f]? with
  |none=>rw[e2]at h;simp at h
  |some fd=>
   rw[e2]at h;simp only at h;cases e3:P.underlying fd.type with
   |none=>rw[e3]at h;simp at h
   |some i=>
    rw[e3]at h;simp only[Option.some.injEq,Prod.mk.injEq]at h;exact⟨fs,fd,rfl,e2,h.1,h.2.1,h.2.2,⟨i,e3⟩,YO e3⟩
theorem ZcS (hs:Sim B S M s a w) {t:TypeId} {x:Value} {p:PV} {f:Nat} (hx:RepS S M s.m.q x p) (hxi:∀i∈p.ids,Live s.m i)
  (hok:(TF P t p f s.m).ok):Snd P B S s a w (Instr.field t x f) (TF P t p f s.m):=by
 revert hok
 unfold TF;split
 ·rename_i o sz ag cs heq;obtain⟨fs,fd,h1,h2,rfl,rfl,rfl,⟨d,hd⟩,i,h3⟩:=T6 heq;intro hok;obtain⟨vs,rfl,hl,hr⟩:=hx.agg_inv;obtain⟨v,hv,hrv,hids⟩:=ZdO hd h3 hl hr hok.1 hok.2 w;refine Snd.pure hs (v:=v) ?_ hrv (fun k hk=>hxi k (by simpa[PV.ids]using hids k hk));simp[Instr.field,Zw h1,h2,asAgg,hv]
 ·intro hok;exact hok.elim
theorem Dx (hs:Sim B S M s a w) {t:TypeId} {x:Value} {p:PV} {f:Nat} (hx:RepS S M s.m.q x p) (hxi:∀i∈p.ids,Live s.m i)
  (hok:(Yi P t p f s.m).ok):Snd P B S s a w (Instr.fieldAt t x f) (Yi P t p f s.m):=by
 revert hok
 unfold Yi;have add0:∀b o n:Nat,(⟨b,o,none⟩:Addr).add n=⟨b,o+n,none⟩:=fun b o n=>by
  unfold Addr.add;split<;>simp_all
 split
 ·rename_i o sz ag id off heq;obtain⟨fs,fd,h1,h2,rfl,rfl,rfl,⟨d,hd⟩,i,h3⟩:=T6 heq;intro hok;rw[hx.ptr_inv];refine Snd.pure hs (v:= .pointer (some ⟨M.φ id,off+fd.offset,none⟩)) ?_ (.ptr _ _) hxi;simp only[Instr.fieldAt,Sem.run_bind,Zw h1,Result.andThen_ok,h2,Instr.sureAddr,Sem.run_pure,fieldPlace,Z6 h3];simp only at hok;simp[hok,add0]
 ·rename_i o sz ag cs heq;obtain⟨fs,fd,h1,h2,rfl,rfl,rfl,⟨d,hd⟩,i,h3⟩:=T6 heq;intro hok;obtain⟨b,o,vals,rfl,hS,hR⟩:=hx.rptr_inv;refine Snd.pure hs (v:= .pointer (some ⟨b,o+fd.offset,none⟩)) ?_ (.clean (.rptr b (o+fd.offset) _ (fun j=>vals (fd.offset+j)) (fun j hj=> ?_) (fun j hj=> ?_))) (by simp[PV.ids])
  ·simp only[Instr.fieldAt,Sem.run_bind,Zw h1,Result.andThen_ok,h2,Instr.sureAddr,Sem.run_pure,fieldPlace,Z6 h3];simp only at hok;simp[hok,add0]
  ·simp only[List.length_drop]at hj;rw[Nat.add_assoc];exact hS _ (by omega)
  ·simp only[List.length_drop]at hj;have:=hR (fd.offset+j) (by omega);rw[Zb (by simp;omega)];rw[Zb (by omega)]at this;simpa using this
 ·rename_i o sz ag id n z i off heq;obtain⟨fs,fd,h1,h2,rfl,rfl,rfl,⟨d,hd⟩,i',h3⟩:=T6 heq;intro hok;obtain⟨⟨b,o,hv⟩,hin,t2⟩:=hx.vptr_inv;refine Snd.pure hs (v:= .pointer (some ⟨b,o+fd.offset,none⟩)) ?_ (.vptr _ _ _ _ _ _ ⟨_,_,rfl⟩ hin fun n1 sz1 e1 hq1=> ?_) hxi
  ·simp only[hv,Instr.fieldAt,Sem.run_bind,Zw h1,Result.andThen_ok,h2,Instr.sureAddr,Sem.run_pure,fieldPlace,Z6 h3];simp only at hok;simp[hok,add0]
  ·obtain⟨k1,k2⟩:=t2 n1 sz1 e1 hq1;refine⟨k1,fun e=> ?_⟩;obtain⟨k3,k4⟩:=k2 e;rw[hv]at k4;simp only[Value.pointer.injEq,Option.some.injEq,Addr.mk.injEq]at k4;exact⟨k3,by rw[k4.1,k4.2.1,Nat.add_assoc]⟩
 ·intro hok;exact hok.elim
end
open Go.RowKit
section
variable {P:Program} {B:Frm} {S:Stable} {M:Maps} {s:St} {a:Act} {w:World}
theorem ZJ (b o n:Nat):(⟨b,o,none⟩:Addr).add n=⟨b,o+n,none⟩:=by unfold Addr.add;split<;>simp_all
theorem DB {t:TypeId} {n esz:Nat} {ea:Bool} (h:tix P t= .arr n esz ea):∃e d i,P.underlying t=some (.array n e)∧tsz P e=esz∧Yd P e=ea∧P.underlying e=some d∧P.info? e=some i:=by
 unfold tix at h;split at h
 ·rename_i m e heq;split at h
  ·rename_i d hd;cases h;obtain⟨i,hi⟩:=YO hd;exact⟨e,d,i,heq,rfl,rfl,hd,hi⟩
  ·cases h
 ·split at h<;>cases h
 ·cases h
 ·cases h
theorem UB {t:TypeId} {esz:Nat} {ea:Bool} (h:tix P t= .slc esz ea):∃e d i,P.underlying t=some (.slice e)∧tsz P e=esz∧Yd P e=ea∧P.underlying e=some d∧P.info? e=some i:=by
 unfold tix at h;split at h
 ·split at h<;>cases h
 ·rename_i e heq;split at h
  ·rename_i d hd;cases h;obtain⟨i,hi⟩:=YO hd;exact⟨e,d,i,heq,rfl,rfl,hd,hi⟩
  ·cases h
 ·cases h
 ·cases h
theorem Zat {t:TypeId} (h:tix P t= .str):P.underlying t=some .string:=by
 unfold tix at h;split at h
 ·split at h<;>cases h
 ·split at h<;>cases h
 ·assumption
 ·cases h
theorem ZcT (hs:Sim B S M s a w) {t:TypeId} {x i:Value} {p q:PV} (hx:RepS S M s.m.q x p) (hxi:∀i∈p.ids,Live s.m i) (hi:RepS S M s.m.q i q)
  (hok:(TG P t p q s.m).ok):Snd P B S s a w (Instr.index t x i) (TG P t p q s.m):=by
 revert hok
 unfold TG;split
 ·rename_i n esz ea cs k0 k heq;obtain⟨e,d,ti,h1,rfl,rfl,h2,h3⟩:=DB heq;intro hok;obtain⟨g1,g2,g3,g4⟩:=hok;rw[hi.int_inv];obtain⟨vs,rfl,hl,hr⟩:=hx.agg_inv;have hb:k.toNat*tsz P e+tsz P e≤cs.length:=by rw[Nat.add_mul,Nat.one_mul]at g3;exact g3
  obtain⟨v,hv,hrv,hids⟩:=ZdO h2 h3 hl hr hb g4 w;refine Snd.pure hs (v:=v) ?_ hrv (fun k hk=>hxi k (by simpa[PV.ids]using hids k hk));simp[Instr.index,asIntOf,Zw h1,Z6 h3,g1,g2,hv]
 ·rename_i l k0 k heq;have h1:=Zat heq;intro hok;obtain⟨g1,g2⟩:=hok;rw[hi.int_inv,hx.str_inv];refine Snd.pure hs (v:= .int .u8 (l.getD k.toNat 0).toNat) ?_ (.clean (.int _ _)) (by simp[PV.ids]);have hlt:k.toNat<l.length:=by omega
  simp only[Instr.index,asIntOf,Sem.run_bind,Sem.run_pure,Result.andThen_ok,Zw h1,g1,if_true];have:(⟨⟨l⟩⟩:ByteArray)[k.toNat]? = some (l.getD k.toNat 0):=by
   rw[Zb hlt];have hsz:k.toNat<(⟨⟨l⟩⟩:ByteArray).size:=by simpa[ByteArray.size]using hlt
   rw[getElem?_pos (⟨⟨l⟩⟩:ByteArray) k.toNat hsz];rfl
  rw[this];simp
 ·intro hok;exact hok.elim
theorem Dy (hs:Sim B S M s a w) {t:TypeId} {x i:Value} {p q:PV} (hx:RepS S M s.m.q x p) (hxi:∀i∈p.ids,Live s.m i) (hi:RepS S M s.m.q i q)
  (hok:(Yj P t p q s.m).ok):Snd P B S s a w (Instr.indexAt t x i) (Yj P t p q s.m):=by
 revert hok
 unfold Yj;split
 ·rename_i esz ea tk es k0 k heq;obtain⟨e,d,ti,h1,rfl,rfl,h2,h3⟩:=UB heq
  rintro ⟨g1,g2,g3⟩
  have hlt:k.toNat<es.length:=by omega
  rw[hi.int_inv];obtain⟨b,o,cap,vals,rfl,hcap,hu,hS,hR⟩:=hx.sl_inv.sl_at hlt;rw[g3]at hS hR hu;refine Snd.pure hs (v:= .pointer (some ⟨b,o+k.toNat*tsz P e,none⟩)) ?_ (.clean (.rptr b _ _ (fun j=>vals k.toNat j) (fun j hj=> ?_) (fun j hj=> ?_))) (by simp[PV.ids])
  ·simp[Instr.indexAt,asIntOf,Zw h1,Z6 h3,g1,g2,ZJ]
  ·exact hS _ _ hlt (by omega)
  ·exact hR _ _ hlt (by omega)
 ·rename_i esz ea id off len sz k0 k heq;obtain⟨e,d,ti,h1,rfl,rfl,h2,h3⟩:=UB heq
  rintro ⟨g1,g2,g3⟩
  rw[hi.int_inv];obtain⟨cap,hc,rfl⟩:=hx.osl_inv;refine Snd.pure hs (v:= .pointer (some ⟨M.φ id,off+k.toNat*sz,none⟩)) ?_ (.ptr _ _) (by simpa[PV.ids]using hxi);simp[Instr.indexAt,asIntOf,Zw h1,Z6 h3,g1,g2,ZJ,g3]
 ·rename_i n esz ea id off k0 k heq;obtain⟨e,d,ti,h1,rfl,rfl,h2,h3⟩:=DB heq
  rintro ⟨g1,g2⟩
  rw[hi.int_inv,hx.ptr_inv];refine Snd.pure hs (v:= .pointer (some ⟨M.φ id,off+k.toNat*tsz P e,none⟩)) ?_ (.ptr _ _) (by simpa[PV.ids]using hxi);simp[Instr.indexAt,asIntOf,Zw h1,Z6 h3,g1,g2,ZJ,Instr.sureAddr]
 ·rename_i n esz ea cs k0 k heq;obtain⟨e,d,ti,h1,rfl,rfl,h2,h3⟩:=DB heq
  rintro ⟨g1,g2⟩
  obtain⟨b,o,vals,rfl,hS,hR⟩:=hx.rptr_inv;rw[hi.int_inv];refine Snd.pure hs (v:= .pointer (some ⟨b,o+k.toNat*tsz P e,none⟩)) ?_ (.clean (.rptr b _ _ (fun j=>vals (k.toNat*tsz P e+j)) (fun j hj=> ?_) (fun j hj=> ?_))) (by simp[PV.ids])
  ·simp[Instr.indexAt,asIntOf,Zw h1,Z6 h3,g1,g2,ZJ,Instr.sureAddr]
  ·simp only[List.length_drop]at hj;rw[Nat.add_assoc];exact hS _ (by omega)
  ·simp only[List.length_drop]at hj;have:=hR (k.toNat*tsz P e+j) (by omega);rw[Zb (by simp;omega)];rw[Zb (by omega)]at this;simpa using this
 ·rename_i esz ea id n sz k0 k heq;obtain⟨e,d,ti,h1,rfl,rfl,h2,h3⟩:=UB heq
  rintro ⟨g1,g2,g4⟩
  rw[hi.int_inv];obtain⟨⟨av,cap,hv,_,ha⟩,t2⟩:=hx.vsl_inv;obtain⟨b,o,rfl⟩:=ha (by omega);refine Snd.pure hs (v:= .pointer (some ⟨b,o+k.toNat*sz,none⟩)) ?_ (.vptr _ _ _ _ _ _ ⟨_,_,rfl⟩ (by omega) fun n1 sz1 e1 hq1=> ?_) (by simpa[PV.ids]using hxi)
  ·simp[hv,Instr.indexAt,asIntOf,Zw h1,Z6 h3,g1,g2,ZJ,g4]
  ·obtain⟨k1,k2⟩:=t2 n1 sz1 e1 hq1;refine⟨k1,fun e=> ?_⟩;obtain⟨k3,k4,k5⟩:=k2 e;refine⟨k3,?_⟩;obtain⟨r3,_⟩:=hs.row id _ hq1;cases hκ:M.κ id with
   |zero=>have:=r3 hκ;omega
   |succ c=>
    have hv':=k5 c hκ;rw[hv]at hv';simp only[Value.slice.injEq,Option.some.injEq,Addr.mk.injEq]at hv';obtain⟨⟨rfl,rfl,_⟩,_⟩:=hv';simp
 ·rename_i n esz ea id n' z i' off k0 k heq;obtain⟨e,d,ti,h1,rfl,rfl,h2,h3⟩:=DB heq
  rintro ⟨g1,g2⟩
  obtain⟨⟨b,o,hv⟩,hin,t2⟩:=hx.vptr_inv;rw[hi.int_inv];refine Snd.pure hs (v:= .pointer (some ⟨b,o+k.toNat*tsz P e,none⟩)) ?_ (.vptr _ _ _ _ _ _ ⟨_,_,rfl⟩ hin fun n1 sz1 e1 hq1=> ?_) (by simpa[PV.ids]using hxi)
  ·simp[hv,Instr.indexAt,asIntOf,Zw h1,Z6 h3,g1,g2,ZJ,Instr.sureAddr]
  ·obtain⟨k1,k2⟩:=t2 n1 sz1 e1 hq1;refine⟨k1,fun e=> ?_⟩;obtain⟨k3,k4⟩:=k2 e;rw[hv]at k4;simp only[Value.pointer.injEq,Option.some.injEq,Addr.mk.injEq]at k4;exact⟨k3,by rw[k4.1,k4.2.1,Nat.add_assoc]⟩
 ·intro hok;exact hok.elim
theorem Tz {t:TypeId} {d:TypeDesc} {i:TypeInfo} (hu:P.underlying t=some d) (hi:P.info? t=some i) {b o:Nat} {vals:Nat→Value} {qq:Rows} {M:Maps} {cs:List PV} {off:Nat}
  (hc:∀j,j<cs.length→w.cell? ⟨b,o+j,none⟩=some (vals j)) (hr:∀j,j<cs.length→RepS S M qq (vals j) (cs.getD j .any))
  (hoff:off+tsz P t≤cs.length) (h1:Yd P t=false→tsz P t=1):
  ∃v,(loadVar t ⟨b,o+off,none⟩).run P w= .ok v w∧RepS S M qq v (Wc (Yd P t) (tsz P t) cs off)∧ ∀k∈(Wc (Yd P t) (tsz P t) cs off).ids,k∈PV.idsL cs:=by
 unfold loadVar Wc;cases hg:Yd P t with
 |true=>
  have hl:=run_loadCells (P:=P) (w:=w) (⟨b,o+off,none⟩:Addr) (tsz P t) (fun j=>vals (off+j)) (fun j hj=>by
   rw[ZJ,Nat.add_assoc];exact hc _ (by omega))
  refine⟨.agg ⟨(List.range (tsz P t)).map fun j=>vals (off+j)⟩,?_,?_,?_⟩
  ·simp only[Sem.run_bind,WU hu,Result.andThen_ok,hg,if_true,Z6 hi,hl,Sem.run_pure]
  ·refine .agg _ _ (by simp;omega) fun j hj=> ?_
   simp only[List.length_take,List.length_drop]at hj;have:=hr (off+j) (by omega);rw[Zb (by simp;omega),Zb (by simp;omega)];rw[Zb (by omega)]at this;simpa using this
  ·intro k hk;simp only[if_true,PV.ids]at hk;exact ZdB (fun c hc=>List.mem_of_mem_drop (List.mem_of_mem_take hc)) hk
 |false=>
  have hz:=h1 hg;refine⟨vals off,?_,?_,?_⟩
  ·simp only[Sem.run_bind,WU hu,Result.andThen_ok,hg,Bool.false_eq_true,if_false];simp[load,Sem.run,hc off (by omega)]
  ·simpa using hr off (by omega)
  ·intro k hk;simp only[Bool.false_eq_true,if_false]at hk;rw[PV.mem_idsL];exact⟨_,Ze (by omega),hk⟩
theorem Rep.clean_ids {S:Stable} {v:Value} {p:PV} (r:Rep S v p):∀k,k∉p.ids:=by
 induction r with
 |agg vs cs hl _ ih=>intro k hk;obtain⟨c,hc,hkc⟩:=PV.mem_idsL.1 (by simpa[PV.ids]using hk);obtain⟨j,hj,rfl⟩:=List.getElem_of_mem hc;have:=ih j hj k;rw[Zb hj]at this;exact this hkc
 |tup vs cs hl _ ih=>intro k hk;obtain⟨c,hc,hkc⟩:=PV.mem_idsL.1 (by simpa[PV.ids]using hk);obtain⟨j,hj,rfl⟩:=List.getElem_of_mem hc;have:=ih j hj k;rw[Zb hj]at this;exact this hkc
 |fn f vs cs hl _ ih=>intro k hk;obtain⟨c,hc,hkc⟩:=PV.mem_idsL.1 (by simpa[PV.ids]using hk);obtain⟨j,hj,rfl⟩:=List.getElem_of_mem hc;have:=ih j hj k;rw[Zb hj]at this;exact this hkc
 |_=>intro k hk;simp[PV.ids]at hk
theorem ZdG (hs:Sim B S M s a w) {t:TypeId} {x:Value} {p:PV} (hx:RepS S M s.m.q x p) (hu:P.underlying t≠none)
  (hok:(Ve P t p s.m).ok):∃v,(Instr.loadAt t x).run P w= .ok v w∧RepS S M s.m.q v (Ve P t p s.m).v∧(∀i∈(Ve P t p s.m).v.ids,Live s.m i)∧(Ve P t p s.m).m=s.m:=by
 obtain⟨d,hd⟩:∃d,P.underlying t=some d:=by cases e:P.underlying t with|none=>exact absurd e hu|some d=>exact⟨d,rfl⟩
 obtain⟨i,hi⟩:=YO hd;have own:∀ {id off:Nat} {cs:List PV},p= .ptr id off→s.m.h id=some cs→off+tsz P t≤cs.length→(Yd P t=false→tsz P t=1)→
   ∃v,(Instr.loadAt t x).run P w= .ok v w∧RepS S M s.m.q v (Wc (Yd P t) (tsz P t) cs off)∧(∀i∈(Wc (Yd P t) (tsz P t) cs off).ids,Live s.m i)∧s.m=s.m:=by
  intro id off cs hp hid g1 g2;subst hp;rw[hx.ptr_inv];have hh:∃vals:Nat→Value,(∀j,j<cs.length→w.cell? ⟨M.φ id,0+j,none⟩=some (vals j))∧(∀j,j<cs.length→RepS S M s.m.q (vals j) (cs.getD j .any))∧(∀k∈PV.idsL cs,Live s.m k):=by
   have hb:=hs.blk id _ hid;cases hz:s.m.z id with
   |false=>
    rw[hz]at hb;obtain⟨_,_,⟨vs,ty,h3,h4,h5⟩,h6⟩:=hb;refine⟨fun j=>vs.getD j undef,fun j hj=> ?_,h5,fun k hk=> ?_⟩
    ·rw[Nat.zero_add,Z0 h3,List.getElem?_eq_getElem (by omega)];show some _=some (vs.getD j undef);rw[Zb (by omega)]
    ·obtain⟨c,hc,hkc⟩:=PV.mem_idsL.1 hk;exact h6 c hc k hkc
   |true=>
    rw[hz]at hb;obtain⟨vals,hv⟩:=hb;refine⟨vals,fun j hj=>by rw[Nat.zero_add];exact hs.stable _ _ _ (hv j hj).1,fun j hj=> .clean (hv j hj).2,fun k hk=> ?_⟩;obtain⟨c,hc,hkc⟩:=PV.mem_idsL.1 hk;obtain⟨j,hj,rfl⟩:=List.getElem_of_mem hc;have:=(hv j hj).2;rw[Zb hj]at this;exact absurd hkc (this.clean_ids k)
  obtain⟨vals,hc,hr,hk⟩:=hh;obtain⟨v,hv,hrv,hids⟩:=Tz hd hi hc hr g1 g2;rw[Nat.zero_add]at hv;refine⟨v,?_,hrv,fun k hk'=>hk k (hids k hk'),rfl⟩;simp[Instr.loadAt,Instr.sureAddr,hv]
 revert hok
 unfold Ve;split
 ·rename_i cs
  rintro ⟨g1,g2⟩
  obtain⟨b,o,vals,rfl,hS,hR⟩:=hx.rptr_inv;obtain⟨v,hv,hrv,hids⟩:=Tz (qq:=s.m.q) (M:=M) (off:=0) hd hi (fun j hj=>hs.stable _ _ _ (hS j hj)) (fun j hj=> .clean (hR j hj)) (by omega) g2;refine⟨v,?_,hrv,fun k hk=> ?_,rfl⟩
  ·rw[Nat.add_zero]at hv;simp[Instr.loadAt,Instr.sureAddr,hv]
  ·have:=hids k hk;obtain⟨c,hc,hkc⟩:=PV.mem_idsL.1 this;obtain⟨j,hj,rfl⟩:=List.getElem_of_mem hc;have hr:=hR j hj;rw[Zb hj]at hr;exact absurd hkc (hr.clean_ids k)
 ·split
  ·rename_i id off cs heq;exact fun hok=>own rfl heq hok.1 hok.2
  ·exact fun hok=>hok.elim
 ·rename_i id n z i' off;split
  ·rename_i es hq
   rintro ⟨g1,g2,g3⟩
   obtain⟨sz,e,q1,r1,r2,r4⟩:=hs.vc id es hq;obtain⟨_,hin,t2⟩:=hx.vptr_inv;obtain⟨_,t3⟩:=t2 _ sz e q1;obtain⟨rfl,t4⟩:=t3 g1.symm;rw[t4];obtain⟨o1,o2⟩:=hs.row id _ q1;have hil:i'<es.length:=by omega
   have hlen:=(r1 _ (Ze (d:= .any) hil)).1;cases hκ:M.κ id with
   |zero=>have:=o1 hκ;omega
   |succ c=>
    obtain⟨k1,k2,k3,⟨vs,k5,k6⟩,k4⟩:=o2 c hκ;have k7:=r4 c hκ vs e (0,0) k5;have hb:i'*sz+sz≤vs.length:=by
     rw[k6]
     calc i'*sz+sz=(i'+1)*sz:=by rw[Nat.add_mul,Nat.one_mul]
      _≤c*sz:=Nat.mul_le_mul_right _ (by omega)
    obtain⟨v,hv,hrv,hids⟩:=Tz (w:=w) (b:=M.ψ id) (o:=i'*sz) (vals:=fun j=>vs.getD (i'*sz+j) undef) (qq:=s.m.q) (M:=M) (cs:=(es.getD i' .any).cells) (off:=off) hd hi
     (fun j hj=>by
      rw[hlen]at hj;rw[Z0 k5,List.getElem?_eq_getElem (by omega)];show _=some (vs.getD _ undef);rw[Zb (by omega)]) (fun j hj=>k7 i' j hil (by rw[←hlen];exact hj)) g2 g3
    refine⟨v,by simp[Instr.loadAt,Instr.sureAddr,hv],hrv,fun k hk=> ?_,rfl⟩;obtain⟨x,hx',hkx⟩:=PV.mem_idsL.1 (hids k hk);refine r2 (es.getD i' .any) (Ze hil) k ?_
    revert hx'
    cases es.getD i' .any with
    |agg cs=>intro hx';exact PV.mem_idsL.2 ⟨_,hx',hkx⟩
    |_=>intro hx';rw[List.mem_singleton.1 hx']at hkx;exact hkx
  ·exact fun hok=>hok.elim
 ·exact fun hok=>hok.elim
theorem ZeT (hs:Sim B S M s a w) {t:TypeId} {x:Value} {p:PV} (hx:RepS S M s.m.q x p) (hu:P.underlying t≠none)
  (hok:(Ve P t p s.m).ok):Snd P B S s a w (Instr.loadAt t x) (Ve P t p s.m):=by
 obtain⟨v,h1,h2,h3,h4⟩:=ZdG hs hx hu hok;exact⟨v,w,S,M,h1,by rw[h4];exact hs,by rw[h4];exact h2,by rw[h4];exact h3,Ext.refl _ _ _⟩
end
open Go.RowKit
section
variable {P:Program} {B:Frm} {S:Stable} {M:Maps} {s:St} {a:Act} {w:World}
theorem WC {w:World} {g:Nat} {c c':Array Value} {t:TypeId} (h:w.heap[g]? = some (.cells c t (0,0))):(w.setRow g c').heap[g]? = some (.cells c' t (0,0)):=by
 simp[World.setRow,Array.getElem?_modify,h]
theorem WD {w:World} {g k:Nat} {c':Array Value} (h:k≠g):(w.setRow g c').heap[k]? = w.heap[k]? :=by
 simp[World.setRow,Array.getElem?_modify,Ne.symm h]
theorem WV (w:World) (g:Nat) (c':Array Value):(w.setRow g c').heap.size=w.heap.size:=by simp[World.setRow]
theorem ZY {B:Frm} {w:World} {g:Nat} {c':Array Value} (h:¬B g):BelowF B w (w.setRow g c'):=
 ⟨rfl,rfl,rfl,by rw[WV];exact Nat.le_refl _,fun k hk=>WD (fun e=>h (e▸hk))⟩
theorem Stab.setRow {o:Nat→Option MapC} {it:Nat→Option IterC} (hs:Stab B S w o it) {g:Nat} {vs:Array Value} {t:TypeId} {f:Nat×Nat} (h:w.heap[g]? = some (.cells vs t f)) (hS:∀o,S g o=none) {c':Array Value}:Stab B S (w.setRow g c') o it:=by
 have hold:∀k,k≠g→(w.setRow g c').heap[k]? = w.heap[k]? :=fun k hk=>WD hk
 refine hs.move (SLe.refl _) (fun b c hc=>(hs.o b c hc).2.1) ⟨fun b o v hv=> ?_,fun b es he=> ?_,fun b hb=>by
   obtain⟨vs1,t1,e⟩:=hs.s.y b hb
   by_cases e':b=g
   ·subst e';exact⟨c',t1,WC (c':=c') e⟩
   ·exact⟨vs1,t1,by rw[hold b e'];exact e⟩⟩ (fun b c hc=>hold b (fun e=> ?_)) (fun b x hx=>hold b (fun e=> ?_))
 ·have hb:b≠g:=fun e=>by subst e;rw[hS o]at hv;cases hv
  rw[←hs.s.c b o v hv];exact World.cell?_of_block (hold b hb)
 ·have h':=hs.s.m b es he;rw[hold b (fun e=>by subst e;rw[h]at h';cases h')];exact h'
 ·subst e;obtain⟨es,h',_⟩:=(hs.o _ c hc).2.2;rw[h]at h';cases h'
 ·subst e;have h':=(hs.i _ x hx).2.1;unfold IterAt at h';rw[h]at h';cases h'
theorem Sim.setRow (hs:Sim B S M s a w) {id:Nat} {cs cs':List PV} (hid:s.m.h id=some cs) (hz:s.m.z id=false) {vs':List Value} (hl:vs'.length=cs'.length)
  (hr:∀j,j<cs'.length→RepS S M s.m.q (vs'.getD j undef) (cs'.getD j .any)) (hi:∀c∈cs',∀i∈c.ids,Live s.m i):
  Sim B S M (s.with { s.m with h:=upd s.m.h id (some cs') }) a (w.setRow (M.φ id) ⟨vs'⟩)∧Ext B S S w (w.setRow (M.φ id) ⟨vs'⟩):=by
 obtain⟨h1,h2,⟨vs,t,h3,h4,h5⟩,h6⟩:=hs.own hid hz;have hlt:M.φ id<w.heap.size:=(Array.getElem?_eq_some_iff.1 h3).1;have hnew:=WC (c':=⟨vs'⟩) h3;have hold:∀k,k≠M.φ id→(w.setRow (M.φ id) ⟨vs'⟩).heap[k]? = w.heap[k]? :=fun k hk=>WD hk
 have hsz:=WV w (M.φ id) ⟨vs'⟩;have some_ne:∀i,Live s.m i→Live { s.m with h:=upd s.m.h id (some cs') } i:=fun i h=>by
  cases i with
  |b i=>
   show upd _ _ _ _≠none
   by_cases e:i=id
   ·subst e;rw[Za];simp
   ·rw[Zc _ _ (Ne.symm e)];exact h
  |r i=>exact h
 have back:∀ {i ds},upd s.m.h id (some cs') i=some ds→ ∃c,s.m.h i=some c:=fun {i b} hb=>by
  by_cases e:i=id
  ·subst e;exact⟨_,hid⟩
  ·rw[Zc _ _ (Ne.symm e)]at hb;exact⟨b,hb⟩
 refine⟨⟨hs.defers,hs.hn,by rw[hsz];exact hs.hB,hs.stable.setRow h3 h2,hs.fr,fun i k hk=>some_ne k (hs.ids i k hk),fun i b hb=> ?_,fun i r hr=> ?_,?_,hs.injq,?_,fun b c hc=> ?_,fun i es he=> ?_,hs.pn.move rfl rfl some_ne (fun _ _=>rfl) fun i _=> .refl _ _ _,hs.hz⟩,SLe.refl _,fun _ _=>⟨fun _=>rfl,rfl⟩,ZY h1⟩
 ·simp only[St.with]at hb ⊢
  by_cases e:i=id
  ·subst e;rw[Za]at hb;cases hb;rw[hz];exact⟨h1,h2,⟨vs',t,hnew,hl,hr⟩,fun c hc k hk=>some_ne k (hi c hc k hk)⟩
  ·rw[Zc _ _ (Ne.symm e)]at hb;have hb':=hs.blk i b hb;cases hzi:s.m.z i with
   |false=>
    rw[hzi]at hb';obtain⟨g1,g2,⟨us,t',g3,g4,g5⟩,g6⟩:=hb';have hne:=hs.inj i id _ _ hb hid hzi hz e;exact⟨g1,g2,⟨us,t',by rw[hold _ hne];exact g3,g4,g5⟩,fun c hc k hk=>some_ne k (g6 c hc k hk)⟩
   |true=>rw[hzi]at hb';exact hb'
 ·have hr':=hs.row i r hr;cases r with
  |live n sz et=>
   obtain⟨g1,g2⟩:=hr';refine⟨g1,fun c hk=> ?_⟩;obtain⟨k0,k0',k1,⟨us,k2,k3⟩,k4⟩:=g2 c hk;have hne:=hs.injx id i _ _ hid hz hr rfl (by omega);exact⟨k0,k0',k1,⟨us,by rw[hold _ (Ne.symm hne)];exact k2,k3⟩,k4⟩
  |vec n sz et=>
   obtain⟨g1,g2⟩:=hr';refine⟨g1,fun c hk=> ?_⟩;obtain⟨k0,k0',k1,⟨us,k2,k3⟩,k4⟩:=g2 c hk;have hne:=hs.injx id i _ _ hid hz hr rfl (by omega);exact⟨k0,k0',k1,⟨us,by rw[hold _ (Ne.symm hne)];exact k2,k3⟩,k4⟩
  |dead=>trivial
 ·intro i k b b' hbi hbk zi zk hik;obtain⟨c,hc⟩:=back hbi;obtain⟨c',hc'⟩:=back hbk;exact hs.inj i k c c' hc hc' zi zk hik
 ·intro i k b r hbi zi hq ho hk;obtain⟨c,hc⟩:=back hbi;exact hs.injx i k c r hc zi hq ho hk
 ·obtain⟨g1,g2,g3,g4⟩:=hs.rm b c hc;refine⟨g1,g2,g3,g4.move (SLe.refl _) (hold b fun e=> ?_) (fun v p r _=>r) some_ne⟩;obtain⟨⟨es,k1,_⟩,_⟩:=g4;subst e;rw[h3]at k1;cases k1
 ·obtain⟨sz,e,q1⟩:=hs.vec_q he;exact(hs.vc i es he).move (fun _ _ _ h=>h) rfl rfl (fun hk=>hold _ (Ne.symm (hs.injx id i _ _ hid hz q1 rfl hk))) (fun v p r _=>r) some_ne
theorem Z4 {p c:PV} (hc:c∈p.cells) {k:Ref} (hk:k∈c.ids):k∈p.ids:=by
 cases p with
 |agg cs=>exact PV.mem_idsL.2 ⟨c,hc,hk⟩
 |_=>have e:=List.mem_singleton.1 hc;rw[e]at hk;exact hk
theorem Y5 {m:Hp} {d:Nat} {r:Row} (i:Ref) (h:Live m i):Live (m.setq d r) i:=by
 cases i with
 |b i=>exact h
 |r i=>
  show upd _ _ _ _≠none
  by_cases ei:d=i
  ·subst ei;rw[Za];simp
  ·rw[Zc _ _ ei];exact h
theorem Sim.setVec (hs:Sim B S M s a w) {id c sz:Nat} {es es':List PV} {e:TypeId} (hid:s.m.v id=some es) (hq:s.m.q id=some (.vec es.length sz e)) (hκ:M.κ id=c+1) (hn:es'.length=es.length) {vs':List Value} (hl:vs'.length=c*sz)
  (h1:∀p∈es',p.cells.length=sz∧p.cells.all PV.atom=true) (hi:∀p∈es',∀i∈p.ids,Live s.m i)
  (hr:∀i j,i<es'.length→j<sz→RepS S M s.m.q (vs'.getD (i*sz+j) undef) ((es'.getD i .any).cells.getD j .any)):
  Sim B S M (s.with { s.m with v:=upd s.m.v id (some es') }) a (w.setRow (M.ψ id) ⟨vs'⟩)∧Ext B S S w (w.setRow (M.ψ id) ⟨vs'⟩):=by
 obtain⟨r3,r4⟩:=hs.row id _ hq;obtain⟨k1,k2,k3,⟨vs,k5,k6⟩,k4⟩:=r4 c hκ;have hnew:=WC (c':=⟨vs'⟩) k5;have hold:∀k,k≠M.ψ id→(w.setRow (M.ψ id) ⟨vs'⟩).heap[k]? = w.heap[k]? :=fun k hk=>WD hk
 have hsz:=WV w (M.ψ id) ⟨vs'⟩;have live:∀i,Live s.m i→Live { s.m with v:=upd s.m.v id (some es') } i:=fun i h=>by cases i<;>exact h
 refine⟨⟨hs.defers,hs.hn,by rw[hsz];exact hs.hB,hs.stable.setRow k5 k4,hs.fr,fun i k hk=>live k (hs.ids i k hk),fun i b hb=> ?_,fun i r hri=> ?_,hs.inj,hs.injq,hs.injx,fun b d hd=> ?_,fun i es1 he=> ?_,⟨hs.pn.h,hs.pn.q⟩,hs.hz⟩,SLe.refl _,fun _ _=>⟨fun _=>rfl,rfl⟩,ZY k3⟩
 ·have hb':=hs.blk i b hb;show Sg _ _ _ _ _ _ _ (s.m.z i);cases hz:s.m.z i with
  |true=>rw[hz]at hb';exact hb'
  |false=>
   rw[hz]at hb';obtain⟨g1,g2,⟨us,t',g3,g4,g5⟩,g6⟩:=hb';exact⟨g1,g2,⟨us,t',by rw[hold _ (hs.injx i id _ _ hb hz hq rfl (by omega))];exact g3,g4,g5⟩,fun c hc k hk=>live k (g6 c hc k hk)⟩
 ·have hri:s.m.q i=some r:=hri;have hr':=hs.row i r hri;cases r with
  |live n sz1 e1=>
   obtain⟨g1,g2⟩:=hr';refine⟨g1,fun c' hc'=> ?_⟩;obtain⟨p1,p2,p3,⟨us,p4,p5⟩,p6⟩:=g2 c' hc';have hne:M.ψ i≠M.ψ id:=hs.injq i id _ _ hri hq rfl rfl (by omega) (by omega) (fun e=>by subst e;have h:=hq.symm.trans hri;cases h);exact⟨p1,p2,p3,⟨us,by rw[hold _ hne];exact p4,p5⟩,p6⟩
  |vec n sz1 e1=>
   obtain⟨g1,g2⟩:=hr';refine⟨g1,fun c' hc'=> ?_⟩;obtain⟨p1,p2,p3,⟨us,p4,p5⟩,p6⟩:=g2 c' hc'
   by_cases ei:i=id
   ·subst ei;have hri:=hq.symm.trans hri;cases hri;have:c'=c:=by omega
    subst this;exact⟨p1,p2,p3,⟨vs',hnew,hl⟩,p6⟩
   ·exact⟨p1,p2,p3,⟨us,by rw[hold _ (hs.injq i id _ _ hri hq rfl rfl (by omega) (by omega) ei)];exact p4,p5⟩,p6⟩
  |dead=>trivial
 ·obtain⟨g1,g2,g3,g4⟩:=hs.rm b d hd;refine⟨g1,g2,g3,g4.move (SLe.refl _) (hold b fun ee=> ?_) (fun v p r _=>r) live⟩;obtain⟨⟨es,k1,_⟩,_⟩:=g4;subst ee;rw[k5]at k1;cases k1
 ·by_cases ei:i=id
  ·subst ei;simp only[St.with,Za,Option.some.injEq]at he;subst he;refine⟨sz,e,by rw[hn];exact hq,h1,fun p hp k hk=>live k (hi p hp k hk),fun c' hc' us t f hus i' j hi' hj=> ?_⟩;rw[hnew]at hus;cases hus;exact hr i' j hi' hj
  ·simp only[St.with,Zc _ _ (Ne.symm ei)]at he;obtain⟨sz1,e1,q1⟩:=hs.vec_q he;exact(hs.vc i es1 he).move (fun _ _ _ h=>h) rfl rfl (fun hk=>hold _ (hs.injq i id _ _ q1 hq rfl rfl hk (by omega) ei)) (fun v p r _=>r) live
theorem Zd {α:Type} {l l':List α} {i:Nat} {d:α} (h:i<l.length):(l++l').getD i d=l.getD i d:=by
 rw[Zb (by simp;omega),Zb h,List.getElem_append_left h]
theorem Zf {α:Type} {l l':List α} {i:Nat} {d:α} (h:l.length≤i):(l++l').getD i d=l'.getD (i-l.length) d:=by
 by_cases hi:i<(l++l').length
 ·rw[Zb hi,List.getElem_append_right h,Zb]
 ·rw[Xq (by omega),Xq (by simp at hi;omega)]
theorem YM {α:Type} {l:List α} {n i:Nat} {d:α} (h:i<n):(l.take n).getD i d=l.getD i d:=by
 by_cases hi:i<l.length
 ·rw[Zb (by simp;omega),Zb hi];simp
 ·rw[Xq (by simp;omega),Xq (by omega)]
theorem Y3 {α:Type} {l:List α} {n i:Nat} {d:α}:(l.drop n).getD i d=l.getD (n+i) d:=by
 by_cases hi:n+i<l.length
 ·rw[Zb (by simp;omega),Zb hi];simp
 ·rw[Xq (by simp;omega),Xq (by omega)]
theorem XO {α:Type} {l n:List α} {off j:Nat} {d:α} (h:off+n.length≤l.length):
  (l.take off++n++l.drop (off+n.length)).getD j d=if j<off then l.getD j d else if j<off+n.length then n.getD (j-off) d else l.getD j d:=by
 have e1:(l.take off).length=off:=by simp;omega
 split
 ·rw[Zd (by simp;omega),Zd (by omega),YM (by assumption)]
 ·split
  ·rw[Zd (by simp;omega),Zf (by omega),e1]
  ·rw[Zf (by simp;omega),Y3];congr 1;simp;omega
def Zmt (P:Program) (B:Frm) (S:Stable) (s:St) (a:Act) (w:World) (m:Sem Unit) (r:ARes):Prop:=
 ∃w' S' M',m.run P w= .ok () w'∧Sim B S' M' (s.with r.m) a w'∧r.v= .tup []∧Ext B S S' w w'
theorem ZcV (hs:Sim B S M s a w) {t:TypeId} {x y:Value} {p q:PV} (hx:RepS S M s.m.q x p) (hy:RepS S M s.m.q y q) (hyi:∀i∈q.ids,Live s.m i) (hu:P.underlying t≠none)
  (hok:(Vp P t p q s.m).ok):Zmt P B S s a w (Instr.storeAt t x y) (Vp P t p q s.m):=by
 obtain⟨d,hd⟩:∃d,P.underlying t=some d:=by cases e:P.underlying t with|none=>exact absurd e hu|some d=>exact⟨d,rfl⟩
 obtain⟨i,hi⟩:=YO hd
 revert hok
 unfold Vp;split
 ·rename_i id off;split
  ·rename_i cs heq
   rintro ⟨gz,g1,g2,g3,g4⟩
   rw[hx.ptr_inv];obtain⟨ys,hyc,hyl,hyr⟩:=hy.cells_inv g1;obtain⟨h1,h2,⟨vs,ty,h3,h4,h5⟩,h6⟩:=hs.own heq gz;have one:∀v∈ys,v.oneCell'=true:=fun v hv=>by
    obtain⟨j,hj,rfl⟩:=List.getElem_of_mem hv;have hr:=hyr j (by omega);rw[Zb hj,Zb (by omega)]at hr;exact hr.atom_inv (List.all_eq_true.1 g4 _ (List.getElem_mem _))
   have hrun:=run_storeCells_at (P:=P) (M.φ id) off ty ys 0 ⟨vs⟩ w h3 (by simp;omega) one;have hyids:∀c∈q.cells,∀i∈c.ids,Live s.m i:=fun c hc k hk=>hyi k (Z4 hc hk)
   have hlen:ys.length=tsz P t:=by omega
   obtain⟨hsim,hext⟩:=hs.setRow heq gz (cs':=Yr cs off q.cells) (vs':=vs.take off++ys++vs.drop (off+ys.length))
    (by simp[Yr,h4,hyl])
    (fun j hj=>by
     have hjl:j<cs.length:=by simp[Yr]at hj;omega
     unfold Yr;rw[XO (by omega),XO (by omega),hyl];split
     ·exact h5 j hjl
     ·split
      ·exact hyr _ (by omega)
      ·exact h5 j hjl)
    (fun c hc k hk=>by
     simp only[Yr,List.mem_append]at hc;rcases hc with (hc|hc)|hc
     ·exact h6 c (List.mem_of_mem_take hc) k hk
     ·exact hyids c hc k hk
     ·exact h6 c (List.mem_of_mem_drop hc) k hk)
   refine⟨_,S,M,?_,hsim,rfl,hext⟩;simp only[Instr.storeAt,Instr.sureAddr,Sem.run_bind,Sem.run_pure,Result.andThen_ok,storeVar,Z6 hi,hyc];simp only[List.size_toArray,hlen,ne_eq,not_true_eq_false,if_false];simpa[hlen]using hrun
  ·exact fun hok=>hok.elim
 ·rename_i id n z i' off;split
  ·rename_i es hq
   rintro ⟨gn,g1,g2,g3,g4⟩
   obtain⟨sz,e,q1,r1,r2,r4⟩:=hs.vc id es hq;obtain⟨_,hin,t2⟩:=hx.vptr_inv;obtain⟨_,t3⟩:=t2 _ sz e q1;obtain⟨rfl,t4⟩:=t3 gn.symm;rw[t4];obtain⟨ys,hyc,hyl,hyr⟩:=hy.cells_inv g1;obtain⟨o1,o2⟩:=hs.row id _ q1;have hil:i'<es.length:=by omega
   have hxl:=(r1 _ (Ze (d:= .any) hil)).1;cases hκ:M.κ id with
   |zero=>have:=o1 hκ;omega
   |succ c=>
    obtain⟨k1,k2,k3,⟨vs,k5,k6⟩,k4⟩:=o2 c hκ;have k7:=r4 c hκ vs e (0,0) k5;have hb:i'*sz+sz≤vs.length:=by
     rw[k6]
     calc i'*sz+sz=(i'+1)*sz:=by rw[Nat.add_mul,Nat.one_mul]
      _≤c*sz:=Nat.mul_le_mul_right _ (by omega)
    have one:∀v∈ys,v.oneCell'=true:=fun v hv=>by
     obtain⟨j,hj,rfl⟩:=List.getElem_of_mem hv;have hr:=hyr j (by omega);rw[Zb hj,Zb (by omega)]at hr;exact hr.atom_inv (List.all_eq_true.1 g4 _ (List.getElem_mem _))
    have hlen:ys.length=tsz P t:=by omega
    have hrun:=run_storeCells_at (P:=P) (M.ψ id) (i'*sz+off) e ys 0 ⟨vs⟩ w k5 (by simp;omega) one;have pc:(Do (es.getD i' .any) off q).cells=Yr (es.getD i' .any).cells off q.cells:=by
     unfold Do;split
     ·rename_i hc;obtain⟨rfl,hc⟩:=hc;simp[Yr,hc]
     ·rfl
    have pcl:(Yr (es.getD i' .any).cells off q.cells).length=sz:=by unfold Yr;rw[List.length_append,List.length_append,List.length_take,List.length_drop];omega
    have setD:∀k,k<es.length→(es.set i' (Do (es.getD i' .any) off q)).getD k .any=if i'=k then Do (es.getD i' .any) off q else es.getD k .any:=fun k hk=>by
     rw[Zb (by simpa using hk),List.getElem_set];split
     ·rfl
     ·rw[Zb hk]
    have idx:∀ {i j k l:Nat},j<sz→l<sz→i*sz+j=k*sz+l→i=k∧j=l:=fun {i j k l} hj hl h=>by
     rcases Nat.lt_trichotomy i k with h1|h1|h1
     ·have:(i+1)*sz≤k*sz:=Nat.mul_le_mul_right _ h1;rw[Nat.add_mul,Nat.one_mul]at this;omega
     ·subst h1;exact⟨rfl,by omega⟩
     ·have:(k+1)*sz≤i*sz:=Nat.mul_le_mul_right _ h1;rw[Nat.add_mul,Nat.one_mul]at this;omega
    obtain⟨hsim,hext⟩:=hs.setVec (es':=es.set i' (Do (es.getD i' .any) off q)) hq q1 hκ (by simp) (vs':=vs.take (i'*sz+off)++ys++vs.drop (i'*sz+off+ys.length)) (by simp;omega)
     (fun p hp=>by
      rcases List.mem_or_eq_of_mem_set hp with hp|rfl
      ·exact r1 p hp
      ·rw[pc];refine⟨pcl,?_⟩;have hx2:=(r1 _ (Ze (d:= .any) hil)).2;rw[List.all_eq_true]at hx2 g4 ⊢;intro x hx;simp only[Yr,List.mem_append]at hx;rcases hx with (hx|hx)|hx
       ·exact hx2 x (List.mem_of_mem_take hx)
       ·exact g4 x hx
       ·exact hx2 x (List.mem_of_mem_drop hx))
     (fun p hp k hk=>by
      rcases List.mem_or_eq_of_mem_set hp with hp|rfl
      ·exact r2 p hp k hk
      ·unfold Do at hk;split at hk
       ·exact hyi k hk
       ·obtain⟨x,hx,hkx⟩:=PV.mem_idsL.1 (by simpa[PV.ids]using hk);simp only[Yr,List.mem_append]at hx;rcases hx with (hx|hx)|hx
        ·exact r2 (es.getD i' .any) (Ze hil) k (Z4 (List.mem_of_mem_take hx) hkx)
        ·exact hyi k (Z4 hx hkx)
        ·exact r2 (es.getD i' .any) (Ze hil) k (Z4 (List.mem_of_mem_drop hx) hkx))
     (fun i j hi hj=>by
      simp only[List.length_set]at hi;have hb2:i*sz+j<vs.length:=by
       rw[k6]
       calc i*sz+j<i*sz+sz:=by omega
        _=(i+1)*sz:=by rw[Nat.add_mul,Nat.one_mul]
        _≤c*sz:=Nat.mul_le_mul_right _ (by omega)
      rw[XO (by omega),setD i hi]
      by_cases he:i'=i
      ·subst he;rw[if_pos rfl,pc];unfold Yr;rw[XO (by omega)]
       by_cases c1:j<off
       ·rw[if_pos (by omega),if_pos c1];exact k7 _ _ hi hj
       ·by_cases c2:j<off+q.cells.length
        ·rw[if_neg (by omega),if_pos (by omega),if_neg c1,if_pos c2];have:=hyr (j-off) (by omega);rw[show i'*sz+j-(i'*sz+off)=j-off by omega];exact this
        ·rw[if_neg (by omega),if_neg (by omega),if_neg c1,if_neg c2];exact k7 _ _ hi hj
      ·rw[if_neg he]
       by_cases c1:i*sz+j<i'*sz+off
       ·rw[if_pos c1];exact k7 _ _ hi hj
       ·rw[if_neg c1,if_neg]
        ·exact k7 _ _ hi hj
        ·intro c2;have hd:i*sz+j=i'*sz+(i*sz+j-i'*sz):=by omega
         exact he (idx (by omega) hj hd.symm).1)
    refine⟨_,S,M,?_,hsim,rfl,hext⟩;simp only[Instr.storeAt,Instr.sureAddr,Sem.run_bind,Sem.run_pure,Result.andThen_ok,storeVar,Z6 hi,hyc];simp only[List.size_toArray,hlen,ne_eq,not_true_eq_false,if_false];simpa[hlen]using hrun
  ·exact fun hok=>hok.elim
 ·exact fun hok=>hok.elim
theorem ZbF (hs:Sim B S M s a w) {t:TypeId} {x:Value} {p:PV} {id:Nat} (hx:RepS S M s.m.q x p) (hxi:∀i∈p.ids,Live s.m i)
  (hid:s.m.h id=none) (hk:p.known=true) (ok:Prop):Snd P B S s a w (Instr.box t x) ⟨ok,.ptr id 0,s.m.new id p.cells⟩:=by
 obtain⟨vs,hc,hl,hr⟩:=hx.cells_inv hk;have hids:∀c∈p.cells,∀i∈c.ids,Live s.m i:=fun c hc k hk=>hxi k (Z4 hc hk)
 refine⟨.pointer (some ⟨w.heap.size,0,none⟩),_,S,_,?_,hs.alloc (t:=t) hid hl hr hids,?_,?_,hs.ext_alloc _⟩
 ·simp[Instr.box,newVar,newRow,newObj,hc,Sem.run,World.alloc_eq]
 ·have:RepS S { M with φ:=upd M.φ id w.heap.size } s.m.q (.pointer (some ⟨upd M.φ id w.heap.size id,0,none⟩)) (.ptr id 0):= .ptr id 0;rwa[Za]at this
 ·intro i hi;simp only[PV.ids,List.mem_singleton]at hi;subst hi;simp[Live,Hp.new,Za]
theorem ZcP (hs:Sim B S M s a w) {t:TypeId} {i:TypeInfo} {z:Value} {id:Nat} (hi:P.info? t=some i) (hz:i.zero=some z)
  (hid:s.m.h id=none) (hk:(Y7 z).known=true) (ok:Prop):Snd P B S s a w (Instr.alloc t true (.tuple #[])) ⟨ok,.ptr id 0,s.m.new id (Y7 z).cells⟩:=by
 have h:=ZbF (P:=P) (t:=t) hs (.clean (X2 S z)) (by simp[XZ]) hid hk ok;have e:∀w,(Instr.alloc t true (.tuple #[])).run P w=(Instr.box t z).run P w:=fun w=>by
  simp[Instr.alloc,Instr.box,zeroValue,Ty hi,hz]
 obtain⟨v,w',S',M',h1,h2⟩:=h;exact⟨v,w',S',M',by rw[e];exact h1,h2⟩
end
end Go.PL
