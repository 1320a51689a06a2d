/- Lemmas of the proof. -/
import Derived.WalkKit
import Derived.Deep.AppendSrc
import Derived.Deep.Upon
import Derived.Laws.IdiomStrings
import Derived.Laws.BytesString
import Derived.Lib.Strings
set_option maxHeartbeats 64000000
set_option maxRecDepth 20000
set_option linter.unusedVariables false
set_option linter.unusedSimpArgs false
open Inhabited renaming default→Jd
open Go
open _root_.Array renaming getElem?_eq_some_iff→Jh,length_toList→JC,ext'→JZ,getElem?_modify→Kr,range→Ky,foldl_toList→KF,zipIdx→Qf,foldl→Qn,map→Qq
open Bool renaming false_eq_true→Jo,or_eq_true→Ko,and_eq_true→KP,not_true→K6
open Builtin renaming firstCells→Jm,append_→Jz,zeroCells→JM,len_→JT,max_→Qd,min_→Qe
open Decidable renaming byContradiction→Kd
open Instr renaming sureAddr→Jv,buildSlice→JE,fill→JN,indexAt→JP,sliceBound→JU,sliceAt→JX,loadAt→J2,fieldAt→Kf,storeAt→KC,sliceBounds→KL,box→KM,index→KU,alloc→KW,build→KX,slice→KY,makeSlice→K2,extract→K7,field→Qh
open Int renaming le_refl→Qp
open List renaming eq_nil_of_length_eq_zero→Jc,getElem?_eq_getElem→Je,length_append→Jf,length_take→Jk,length_drop→Jl,getElem_of_mem→Jr,getD_eq_getElem?_getD→Js,length_replicate→Ju,mem_singleton→Jy,getElem_map→JD,mem_of_mem_drop→JF,mem_of_mem_take→JG,getElem_mem→JH,length_cons→JI,replicate→JJ,getElem?_eq_some_iff→JK,mem_append→JL,length_map→JO,all_eq_true→JS,getD_cons_zero→JV,range→JY,size_toArray→J3,mem_map→J5,eq_nil_iff_forall_not_mem→J6,drop_drop→J8,getElem_range→Ka,exists_cons_of_ne_nil→Kb,mem_or_eq_of_mem_set→Kc,getElem?_map→Ke,getElem?_take_of_lt→Kg,range'_succ→Ki,length_eq_one_iff→Kk,getElem_replicate→Km,length_nil→Kn,eq_replicate_iff→Kt,map→Kx,getElem_zipIdx→KA,length_flatMap→KB,getElem?_drop→KE,append_assoc→KI,flatMap_cons→KK,zipIdx_cons→KO,ext_getElem→KQ,length_set→KZ,nil_append→K0,append_nil→K3,mem_cons→K8,range'→Qo
open Nat renaming mul_le_mul_right→Ja,add_mul→Jg,le_refl→Jj,add_right_cancel_iff→Jq,one_mul→Jw,zero_add→JA,add_zero→JR,add_assoc→JW,lt_irrefl→J7,add_mul_mod_self_right→J9,le_mul_of_pos_right→Kj,mul_comm→Kl,div_add_mod→Kq,div_lt_iff_lt_mul→Ks,zero_le→Ku,pos_of_ne_zero→KD,add_comm→KJ,mod_eq_of_lt→KN,mul_eq_zero→K1,mod_lt→K4,le_of_lt→K9,ne_of_lt→Qa,le_trans→Qb,zero_mul→Qg,mul_one→Ql,sub_mul→Qm
open Ne renaming symm→Jt
open Op renaming equalIn→JB,equal→Kw,unary→K5,eqFields→Qi,intArith→Qj,stringOp→Qk
open Option renaming some→Jn,isSome_iff_exists→Kh
open Prod renaming ext→Qr
open Result renaming andThen_ok→Jb,andThen→Kv
open Sem renaming run_bind→Ji,run_pure→Jp,run→Kz
open World renaming cell?_of_block→JQ,alloc_eq→J4,setRow→KG,cell?→KT
namespace Go.PL
structure Stable where
 c:Nat->Nat->Option Value
 m:Nat->Option (List MapEntry)
 z:Nat->Prop
 y:Nat->Prop
instance:CoeFun Stable (λ_=>Nat->Nat->Option Value):=⟨Stable.c⟩
abbrev Frm:=Nat->Prop
inductive Tok where
 |no|nil|row (id:Nat)|fr
 deriving DecidableEq
def Tok.sh:Tok->Tok
 | .fr=> .fr
 |_=> .no
inductive PV where
 |any
 |int (k:IntKind) (n:Int)
 |bool (b:Bool)
 |str (s:List UInt8)
 |flt (k:FloatKind) (b:Nat)
 |cpx (k:FloatKind) (re im:Nat)
 |agg (cs:List PV)
 |tup (vs:List PV)
 |sl (t:Tok) (es:List PV)
 |ptr (id off:Nat)
 |rptr (cs:List PV)
 |osl (id off len sz:Nat)
 |nilp
 |fn (f:FuncId) (caps:List PV)
 |nilfn
 |nilmap
 |mref (b:Nat)
 |rmap (ks vs:List PV)
 |iptr (b:Nat)
 |vsl (id len sz:Nat)
 |vptr (id n sz i off:Nat)
 deriving Inhabited
def PV.cells:PV->List PV
 | .agg cs=>cs
 |v=> [v]
def PV.known:PV->Bool
 | .any=>false
 |_=>true
def PV.atom:PV->Bool
 | .any| .agg _| .tup _=>false
 |_=>true
inductive Rep (S:Stable):Value->PV->Prop
 |any (v:Value):Rep S v .any
 |int (k:IntKind) (n:Int):Rep S (.int k n) (.int k n)
 |bool (b:Bool):Rep S (.bool b) (.bool b)
 |str (l:List UInt8):Rep S (.string ⟨⟨l⟩⟩) (.str l)
 |flt (k:FloatKind) (b:Nat):Rep S (.float k b) (.flt k b)
 |cpx (k:FloatKind) (re im:Nat):Rep S (.complex k re im) (.cpx k re im)
 |agg (vs:List Value) (cs:List PV) (hl:vs.length=cs.length) (h:∀i,i<cs.length->Rep S (vs.getD i undef) (cs.getD i .any)):Rep S (.agg ⟨vs⟩) (.agg cs)
 |tup (vs:List Value) (cs:List PV) (hl:vs.length=cs.length) (h:∀i,i<cs.length->Rep S (vs.getD i undef) (cs.getD i .any)):Rep S (.tuple ⟨vs⟩) (.tup cs)
 |sl0 (a:Option Addr) (cap:Nat):Rep S (.slice a 0 cap) (.sl .no [])
 |slnil:Rep S (.slice none 0 0) (.sl .nil [])
 |sl (b o cap sz:Nat) (es:List PV) (vals:Nat->Nat->Value) (hsz:∀i,i<es.length->(es.getD i .any).cells.length=sz) (hcap:es.length<=cap)
   (hS:∀i j,i<es.length->j<sz->S b (o+i*sz+j)=some (vals i j))
   (hR:∀i j,i<es.length->j<sz->Rep S (vals i j) ((es.getD i .any).cells.getD j .any)):Rep S (.slice (some ⟨b,o,none⟩) es.length cap) (.sl .no es)
 |slf (v:Value) (es:List PV) (r:Rep S v (.sl .no es)) (hz:∀b o n c,v= .slice (some ⟨b,o,none⟩) n c->0<n->S.z b/\S.y b):Rep S v (.sl .fr es)
 |rptr (b o:Nat) (cs:List PV) (vals:Nat->Value) (hS:∀j,j<cs.length->S b (o+j)=some (vals j))
   (hR:∀j,j<cs.length->Rep S (vals j) (cs.getD j .any)):Rep S (.pointer (some ⟨b,o,none⟩)) (.rptr cs)
 |nilp:Rep S (.pointer none) .nilp
 |nilfn:Rep S .nilFunc .nilfn
 |nilmap:Rep S (.map none) .nilmap
 |mref (b:Nat):Rep S (.map (some b)) (.mref b)
 |iptr (b:Nat):Rep S (.pointer (some ⟨b,0,none⟩)) (.iptr b)
 |rmap (b:Nat) (es:List MapEntry) (ks vs:List PV) (hS:S.m b=some es) (hk:es.length=ks.length) (hv:vs.length=ks.length) (hb:∀i,i<ks.length->(es.getD i Jd).born=i)
   (hK:∀i,i<ks.length->Rep S (es.getD i Jd).key (ks.getD i .any)) (hV:∀i,i<ks.length->Rep S (es.getD i Jd).val (vs.getD i .any)):Rep S (.map (some b)) (.rmap ks vs)
 |fn (f:FuncId) (vs:List Value) (cs:List PV) (hl:vs.length=cs.length) (h:∀i,i<cs.length->Rep S (vs.getD i undef) (cs.getD i .any)):Rep S (.func (.func f) #[] ⟨vs⟩) (.fn f cs)
structure SLe (S S':Stable):Prop where
 c:∀b o v,S b o=some v->S' b o=some v
 m:∀b es,S.m b=some es->S'.m b=some es
 z:S'.z=S.z
 y:∀b,S.y b->S'.y b
instance (S S':Stable):CoeFun (SLe S S') (λ_=>∀b o v,S b o=some v->S' b o=some v):=⟨SLe.c⟩
theorem SLe.refl (S:Stable):SLe S S:=⟨λ_ _ _ h=>h,λ_ _ h=>h,rfl,λ_ h=>h⟩
theorem SLe.trans {S S' S'':Stable} (h:SLe S S') (h':SLe S' S''):SLe S S'':=⟨λb o v e=>h' b o v (h b o v e),λb es e=>h'.m b es (h.m b es e),h'.z.trans h.z,λb hb=>h'.y b (h.y b hb)⟩
theorem SLe.cells {S S':Stable} (hm:S'.m=S.m) (h:∀b o v,S b o=some v->S' b o=some v) (hz:S'.z=S.z:=by rfl) (hy:∀b,S.y b->S'.y b:=by exact λ_ h=>h):SLe S S':=⟨h,λb es e=>by rw[hm];exact e,hz,hy⟩
theorem Rep.mono {S S':Stable} (h:SLe S S') {v:Value} {p:PV} (r:Rep S v p):Rep S' v p:=by
 induction r with
 |any v=>exact .any v
 |int k n=>exact .int k n
 |bool b=>exact .bool b
 |str l=>exact .str l
 |flt k b=>exact .flt k b
 |cpx k a b=>exact .cpx k a b
 |agg vs cs hl _ ih=>exact .agg vs cs hl ih
 |tup vs cs hl _ ih=>exact .tup vs cs hl ih
 |sl0 a cap=>exact .sl0 a cap
 |slnil=>exact .slnil
 |sl b o cap sz es vals hsz hcap hS _ ih=>exact .sl b o cap sz es vals hsz hcap (λi j hi hj=>h _ _ _ (hS i j hi hj)) ih
 |slf v es _ hz ih=>exact .slf v es ih λb o n c e hn=>⟨by rw[h.z];exact(hz b o n c e hn).1,h.y _ (hz b o n c e hn).2⟩
 |rptr b o cs vals hS _ ih=>exact .rptr b o cs vals (λj hj=>h _ _ _ (hS j hj)) ih
 |nilp=>exact .nilp
 |nilfn=>exact .nilfn
 |nilmap=>exact .nilmap
 |mref b=>exact .mref b
 |iptr b=>exact .iptr b
 |rmap b es ks vs hS hk hv hb _ _ ihK ihV=>exact .rmap b es ks vs (h.m _ _ hS) hk hv hb ihK ihV
 |fn f vs cs hl _ ih=>exact .fn f vs cs hl ih
inductive Row where
 |live (n sz:Nat) (e:TypeId)
 |vec (n sz:Nat) (e:TypeId)
 |dead
 deriving Inhabited
def Row.len:Row->Option Nat
 | .live n _ _=>some n
 | .vec n _ _=>some n
 | .dead=>none
def Row.own:Row->Bool
 | .dead=>false
 |_=>true
abbrev Rows:=Nat->Option Row
structure MapC where
 ks:List PV
 vs:List PV
structure IterC where
 b:Nat
 n:Nat
 seen:List Nat
 c:Option MapC:=none
structure Hp where
 h:Nat->Option (List PV)
 z:Nat->Bool
 q:Rows
 o:Nat->Option MapC
 it:Nat->Option IterC
 om:Nat->Option MapC
 v:Nat->Option (List PV)
 ph:Nat->Option Nat
 pq:Nat->Option (Nat×Nat×Nat)
 vm:Nat->Bool
def upd {α:Type} (f:Nat->α) (i:Nat) (v:α):Nat->α:=λj=>if i=j then v else f j
theorem Za {α:Type} (f:Nat->α) (i:Nat) (v:α):upd f i v i=v:=by simp[upd]
theorem Zk {α:Type} (f:Nat->α) {i j:Nat} (v:α) (h:i≠j):upd f i v j=f j:=by simp[upd,h]
def Hp.empty:Hp:=⟨λ_=>none,λ_=>false,λ_=>none,λ_=>none,λ_=>none,λ_=>none,λ_=>none,λ_=>none,λ_=>none,λ_=>false⟩
def Hp.setq (m:Hp) (d:Nat) (r:Row):Hp:= { m with q:=upd m.q d (some r) }
structure Maps where
 φ:Nat->Nat
 ψ:Nat->Nat
 κ:Nat->Nat
inductive RepS (S:Stable) (M:Maps) (q:Rows):Value->PV->Prop
 |clean {v:Value} {p:PV} (r:Rep S v p):RepS S M q v p
 |ptr (id off:Nat):RepS S M q (.pointer (some ⟨M.φ id,off,none⟩)) (.ptr id off)
 |osl (id off len cap sz:Nat) (hc:len<=cap):RepS S M q (.slice (some ⟨M.φ id,off,none⟩) len cap) (.osl id off len sz)
 |row (id:Nat) (v:Value) (es:List PV) (r:Rep S v (.sl .no es))
   (t:∀n sz e,q id=some (.live n sz e)->es.length<=n/\(es.length=n->(M.κ id=0->v= .slice none 0 0)/\(∀c,M.κ id=c+1->v= .slice (some ⟨M.ψ id,0,none⟩) n c))):RepS S M q v (.sl (.row id) es)
 |vsl (id len sz:Nat) (v:Value) (hv:∃a cap,v= .slice a len cap/\len<=cap/\(0<len-> ∃b o,a=some ⟨b,o,none⟩))
   (t:∀n sz' e,q id=some (.vec n sz' e)->len<=n/\(len=n->sz'=sz/\(M.κ id=0->v= .slice none 0 0)/\(∀c,M.κ id=c+1->v= .slice (some ⟨M.ψ id,0,none⟩) len c))):RepS S M q v (.vsl id len sz)
 |vptr (id n sz i off:Nat) (v:Value) (hv:∃b o,v= .pointer (some ⟨b,o,none⟩)) (hi:i<n)
   (t:∀n' sz' e,q id=some (.vec n' sz' e)->n<=n'/\(n=n'->sz'=sz/\v= .pointer (some ⟨M.ψ id,i*sz+off,none⟩))):RepS S M q v (.vptr id n sz i off)
 |agg (vs:List Value) (cs:List PV) (hl:vs.length=cs.length) (hh:∀i,i<cs.length->RepS S M q (vs.getD i undef) (cs.getD i .any)):RepS S M q (.agg ⟨vs⟩) (.agg cs)
 |tup (vs:List Value) (cs:List PV) (hl:vs.length=cs.length) (hh:∀i,i<cs.length->RepS S M q (vs.getD i undef) (cs.getD i .any)):RepS S M q (.tuple ⟨vs⟩) (.tup cs)
 |fn (f:FuncId) (vs:List Value) (cs:List PV) (hl:vs.length=cs.length) (hh:∀i,i<cs.length->RepS S M q (vs.getD i undef) (cs.getD i .any)):RepS S M q (.func (.func f) #[] ⟨vs⟩) (.fn f cs)
inductive Ref where
 |b (id:Nat)
 |r (id:Nat)
 deriving DecidableEq
mutual
def PV.ids:PV->List Ref
 | .ptr id _=> [.b id]
 | .osl id _ _ _=> [.b id]
 | .sl (.row id) _=> [.r id]
 | .vsl id _ _=> [.r id]
 | .vptr id _ _ _ _=> [.r id]
 | .agg cs=>PV.idsL cs
 | .tup cs=>PV.idsL cs
 | .fn _ cs=>PV.idsL cs
 |_=> []
def PV.idsL:List PV->List Ref
 | []=> []
 |c::cs=>PV.ids c++PV.idsL cs
end
theorem PV.mem_idsL {id:Ref}:∀ {cs:List PV},id∈PV.idsL cs↔ ∃c∈cs,id∈c.ids
 | []=>by simp[PV.idsL]
 |c::cs=>by simp[PV.idsL,PV.mem_idsL (cs:=cs)]
def ZX (m:Hp):Ref->Prop
 | .b i=>m.h i≠none
 | .r i=>m.q i≠none
structure RowLe (M M':Maps) (id:Nat) (r r':Option Row):Prop where
 l:∀n sz e,r'=some (.live n sz e)->(r=some (.live n sz e)/\M'.κ id=M.κ id/\M'.ψ id=M.ψ id)\/ ∃m sz' e',r=some (.live m sz' e')/\m<n
 v:∀n sz e,r'=some (.vec n sz e)->(∃e0,r=some (.vec n sz e0)/\M'.κ id=M.κ id/\M'.ψ id=M.ψ id)\/ ∃n0 sz0 e0,r=some (.vec n0 sz0 e0)/\n0<n
theorem RowLe.same {M M':Maps} {id:Nat} {r:Option Row} (hκ:M'.κ id=M.κ id) (hψ:M'.ψ id=M.ψ id):RowLe M M' id r r:=
 ⟨λ_ _ _ h=> .inl ⟨h,hκ,hψ⟩,λ_ _ _ h=> .inl ⟨_,h,hκ,hψ⟩⟩
theorem RowLe.refl (M:Maps) (id:Nat) (r:Option Row):RowLe M M id r r:= .same rfl rfl
theorem RowLe.of_eq {M M':Maps} {id:Nat} {r r':Option Row} (h:r'=r) (hκ:M'.κ id=M.κ id) (hψ:M'.ψ id=M.ψ id):RowLe M M' id r r':=by subst h;exact .same hκ hψ
theorem RowLe.dead {M M':Maps} {id:Nat} {r:Option Row}:RowLe M M' id r (some .dead):=⟨(by intro _ _ _ h;cases h),(by intro _ _ _ h;cases h)⟩
theorem RowLe.none {M M':Maps} {id:Nat} {r:Option Row}:RowLe M M' id r none:=⟨(by intro _ _ _ h;cases h),(by intro _ _ _ h;cases h)⟩
theorem RepS.heap {S S':Stable} {M M':Maps} {q q':Rows} (hS:SLe S S') {v:Value} {p:PV}
  (r:RepS S M q v p)
  (hφ:∀id,.b id∈p.ids->M'.φ id=M.φ id)
  (hr:∀id,.r id∈p.ids->RowLe M M' id (q id) (q' id)):RepS S' M' q' v p:=by
 induction r with
 |clean r=>exact .clean (r.mono hS)
 |ptr id off=>rw[<-hφ id (by simp[PV.ids])];exact .ptr id off
 |osl id off len cap sz hc=>rw[<-hφ id (by simp[PV.ids])];exact .osl id off len cap sz hc
 |row id v es r t=>
  refine .row id v es (r.mono hS) λn sz e hn=> ?_
  rcases(hr id (by simp[PV.ids])).l n sz e hn with ⟨h1,h2,h3⟩|⟨m,sz',e',h1,h2⟩;obtain⟨t1,t2⟩:=t n sz e h1;refine⟨t1,λe=> ?_⟩;rw[h2,h3];exact t2 e;obtain⟨t1,t2⟩:=t m sz' e' h1;exact⟨by omega,λe=>by omega⟩
 |vsl id len sz v hv t=>
  refine .vsl id len sz v hv λn sz' e hn=> ?_
  rcases(hr id (by simp[PV.ids])).v n sz' e hn with ⟨e0,h1,h3,h4⟩|⟨n0,sz0,e0,h1,h2⟩;obtain⟨t1,t2⟩:=t n sz' e0 h1;refine⟨t1,λe=> ?_⟩;rw[h3,h4];exact t2 e;obtain⟨t1,t2⟩:=t n0 sz0 e0 h1;exact⟨by omega,λe=>by omega⟩
 |vptr id n sz i off v hv hi t=>
  refine .vptr id n sz i off v hv hi λn' sz' e hn=> ?_
  rcases(hr id (by simp[PV.ids])).v n' sz' e hn with ⟨e0,h1,h3,h4⟩|⟨n0,sz0,e0,h1,h2⟩;obtain⟨t1,t2⟩:=t n' sz' e0 h1;refine⟨t1,λe=> ?_⟩;rw[h4];exact t2 e;obtain⟨t1,t2⟩:=t n0 sz0 e0 h1;exact⟨by omega,λe=>by omega⟩
 |agg vs cs hl _ ih=>
  refine .agg vs cs hl λi hi=>ih i hi (λid hid=>hφ id ?_) (λid hid=>hr id ?_)<;>
  ·simp only[PV.ids,PV.mem_idsL];exact⟨_,by rw[Js,Je hi];exact JH hi,hid⟩
 |tup vs cs hl _ ih=>
  refine .tup vs cs hl λi hi=>ih i hi (λid hid=>hφ id ?_) (λid hid=>hr id ?_)<;>
  ·simp only[PV.ids,PV.mem_idsL];exact⟨_,by rw[Js,Je hi];exact JH hi,hid⟩
 |fn f vs cs hl _ ih=>
  refine .fn f vs cs hl λi hi=>ih i hi (λid hid=>hφ id ?_) (λid hid=>hr id ?_)<;>
  ·simp only[PV.ids,PV.mem_idsL];exact⟨_,by rw[Js,Je hi];exact JH hi,hid⟩
structure St where
 fr:Nat->PV
 m:Hp
 n:Nat
def GX (B:Frm) (S:Stable) (M:Maps) (m:Hp) (w:World) (id:Nat) (cs:List PV):Bool->Prop
 |false=>¬B (M.φ id)/\(∀o,S (M.φ id) o=none)/\(∃vs t,w.heap[M.φ id]? = some (.cells ⟨vs⟩ t (0,0))/\vs.length=cs.length/\
   ∀j,j<cs.length->RepS S M m.q (vs.getD j undef) (cs.getD j .any))/\(∀c∈cs,∀i∈c.ids,ZX m i)
 |true=>∃vals:Nat->Value,∀j,j<cs.length->S (M.φ id) j=some (vals j)/\Rep S (vals j) (cs.getD j .any)
def ZcW (B:Frm) (S:Stable) (M:Maps) (w:World) (id:Nat):Row->Prop
 | .live n sz e=>(M.κ id=0->n=0)/\(∀c,M.κ id=c+1->n<=c/\c<=maxLen/\ ¬B (M.ψ id)/\(∃vs,w.heap[M.ψ id]? = some (.cells ⟨vs⟩ e (0,0))/\vs.length=c*sz)/\ ∀o,n*sz<=o->S (M.ψ id) o=none)
 | .vec n sz e=>(M.κ id=0->n=0)/\(∀c,M.κ id=c+1->n<=c/\c<=maxLen/\ ¬B (M.ψ id)/\(∃vs,w.heap[M.ψ id]? = some (.cells ⟨vs⟩ e (0,0))/\vs.length=c*sz)/\ ∀o,S (M.ψ id) o=none)
 | .dead=>True
def VecOk (S:Stable) (M:Maps) (m:Hp) (w:World) (id:Nat) (es:List PV):Prop:=
 ∃sz e,m.q id=some (.vec es.length sz e)/\(∀p∈es,p.cells.length=sz/\p.cells.all PV.atom=true)/\(∀p∈es,∀i∈p.ids,ZX m i)/\
  ∀c,M.κ id=c+1-> ∀vs t f,w.heap[M.ψ id]? = some (.cells ⟨vs⟩ t f)-> ∀i j,i<es.length->j<sz->RepS S M m.q (vs.getD (i*sz+j) undef) ((es.getD i .any).cells.getD j .any)
structure StabS (S:Stable) (w:World):Prop where
 c:∀b o v,S b o=some v->w.cell? ⟨b,o,none⟩=some v
 m:∀b es,S.m b=some es->w.heap[b]? = some (.map ⟨es⟩ es.length)
 y:∀b,S.y b-> ∃vs t,w.heap[b]? = some (.cells vs t (0,0))
instance (S:Stable) (w:World):CoeFun (StabS S w) (λ_=>∀b o v,S b o=some v->w.cell? ⟨b,o,none⟩=some v):=⟨StabS.c⟩
def MapAt (S:Stable) (w:World) (b:Nat) (c:MapC):Prop:=
 ∃es:List MapEntry,w.heap[b]? = some (.map ⟨es⟩ es.length)/\es.length=c.ks.length/\c.vs.length=c.ks.length/\(∀i,i<c.ks.length->(es.getD i Jd).born=i)/\
  (∀i,i<c.ks.length->Rep S (es.getD i Jd).key (c.ks.getD i .any))/\(∀i,i<c.ks.length->Rep S (es.getD i Jd).val (c.vs.getD i .any))
def IterAt (w:World) (b:Nat) (x:IterC):Prop:=w.heap[b]? = some (.mapIter (some x.b) x.n ⟨x.seen⟩ x.n)
def MapAtR (S:Stable) (M:Maps) (m:Hp) (w:World) (b:Nat) (c:MapC):Prop:=
 (∃es:List MapEntry,w.heap[b]? = some (.map ⟨es⟩ es.length)/\es.length=c.ks.length/\c.vs.length=c.ks.length/\(∀i,i<c.ks.length->(es.getD i Jd).born=i)/\
  (∀i,i<c.ks.length->Rep S (es.getD i Jd).key (c.ks.getD i .any))/\(∀i,i<c.ks.length->RepS S M m.q (es.getD i Jd).val (c.vs.getD i .any)))/\ ∀p∈c.vs,∀i∈p.ids,ZX m i
def RdAt (S:Stable) (x:IterC):Prop:=∀c,x.c=some c-> ∃es:List MapEntry,S.m x.b=some es/\es.length=c.ks.length/\c.vs.length=c.ks.length/\(∀i,i<c.ks.length->(es.getD i Jd).born=i)/\
  (∀i,i<c.ks.length->Rep S (es.getD i Jd).key (c.ks.getD i .any))/\(∀i,i<c.ks.length->Rep S (es.getD i Jd).val (c.vs.getD i .any))
theorem RdAt.mono {S S':Stable} {x:IterC} (h:RdAt S x) (hle:SLe S S'):RdAt S' x:=λc hc=>by
 obtain⟨es,h1,h2,h3,h4,h5,h6⟩:=h c hc;exact⟨es,hle.m _ _ h1,h2,h3,h4,λi hi=>(h5 i hi).mono hle,λi hi=>(h6 i hi).mono hle⟩
structure Stab (B:Frm) (S:Stable) (w:World) (o:Nat->Option MapC) (it:Nat->Option IterC):Prop where
 s:StabS S w
 o:∀b c,o b=some c-> ¬B b/\S.m b=none/\MapAt S w b c
 i:∀b x,it b=some x-> ¬B b/\IterAt w b x/\RdAt S x
instance (B:Frm) (S:Stable) (w:World) (o:Nat->Option MapC) (it:Nat->Option IterC):CoeFun (Stab B S w o it) (λ_=>∀b o v,S b o=some v->w.cell? ⟨b,o,none⟩=some v):=⟨λh=>h.s.c⟩
structure PinOk (m:Hp) (M:Maps):Prop where
 h:∀id b,m.ph id=some b->m.h id≠none/\M.φ id=b
 q:∀id n k b,m.pq id=some (n,k,b)->m.q id≠none/\ ∀r n',m.q id=some r->r.len=some n'->n<=n'/\(n=n'->M.κ id=k/\M.ψ id=b)
theorem RowLe.len {M M':Maps} {id:Nat} {r r':Option Row} (h:RowLe M M' id r r') {x:Row} {n:Nat} (hx:r'=some x) (hn:x.len=some n):∃y n0,r=some y/\y.len=some n0/\n0<=n/\(n0=n->M'.κ id=M.κ id/\M'.ψ id=M.ψ id):=by
 cases x with
 |dead=>cases hn
 |live n' sz e=>
  cases hn;rcases h.l n sz e hx with ⟨h1,h2,h3⟩|⟨m,sz',e',h1,h2⟩;exact⟨_,n,h1,rfl,Jj _,λ_=>⟨h2,h3⟩⟩;exact⟨_,m,h1,rfl,K9 h2,λe=>absurd e (Qa h2)⟩
 |vec n' sz e=>
  cases hn;rcases h.v n sz e hx with ⟨e0,h1,h2,h3⟩|⟨m,sz',e',h1,h2⟩;exact⟨_,n,h1,rfl,Jj _,λ_=>⟨h2,h3⟩⟩;exact⟨_,m,h1,rfl,K9 h2,λe=>absurd e (Qa h2)⟩
theorem PinOk.move {m m':Hp} {M M':Maps} (h:PinOk m M) (h1:m'.ph=m.ph) (h2:m'.pq=m.pq) (live:∀i,ZX m i->ZX m' i) (hφ:∀id,m.h id≠none->M'.φ id=M.φ id) (hr:∀id,m.q id≠none->RowLe M M' id (m.q id) (m'.q id)):PinOk m' M':=by
 refine⟨λid b hb=> ?_,λid n k b hb=> ?_⟩;rw[h1]at hb;obtain⟨g1,g2⟩:=h.h id b hb;exact⟨live (.b id) g1,by rw[hφ id g1];exact g2⟩;rw[h2]at hb;obtain⟨g1,g2⟩:=h.q id n k b hb;refine⟨live (.r id) g1,λr n' hq hn=> ?_⟩;obtain⟨y,n0,e1,e2,e3,e4⟩:=(hr id g1).len hq hn;obtain⟨e5,e6⟩:=g2 y n0 e1 e2;refine⟨by omega,λe=> ?_⟩;obtain⟨e7,e8⟩:=e4 (by omega);obtain⟨e9,e10⟩:=e6 (by omega);exact⟨e7.trans e9,e8.trans e10⟩
structure Sim (B:Frm) (S:Stable) (M:Maps) (s:St) (a:Act) (w:World):Prop where
 defers:a.defers= []
 hn:a.tmps.size=s.n
 hB:∀k,B k->k<w.heap.size
 stable:Stab B S w s.m.o s.m.it
 fr:∀i,RepS S M s.m.q (a.tmps.getD i undef) (s.fr i)
 ids:∀i id,id∈(s.fr i).ids->ZX s.m id
 blk:∀id cs,s.m.h id=some cs->GX B S M s.m w id cs (s.m.z id)
 row:∀id r,s.m.q id=some r->ZcW B S M w id r
 inj:∀id id' cs cs',s.m.h id=some cs->s.m.h id'=some cs'->s.m.z id=false->s.m.z id'=false->id≠id'->M.φ id≠M.φ id'
 injq:∀id id' r r',s.m.q id=some r->s.m.q id'=some r'->r.own=true->r'.own=true->0<M.κ id->0<M.κ id'->id≠id'->M.ψ id≠M.ψ id'
 injx:∀id id' cs r,s.m.h id=some cs->s.m.z id=false->s.m.q id'=some r->r.own=true->0<M.κ id'->M.φ id≠M.ψ id'
 rm:∀b c,s.m.om b=some c-> ¬B b/\S.m b=none/\s.m.o b=none/\MapAtR S M s.m w b c
 vc:∀id es,s.m.v id=some es->VecOk S M s.m w id es
 pn:PinOk s.m M
 hz:∀b,¬B b->S.z b
def ZkX (S:Stable) (w:World):Prop:=∀b,w.heap.size<=b->S.z b
theorem Sim.young {B:Frm} {S:Stable} {M:Maps} {s:St} {a:Act} {w:World} (hs:Sim B S M s a w):ZkX S w:=λb hb=>hs.hz b λh=>by have:=hs.hB b h;omega
theorem Sim.zle {B:Frm} {S S':Stable} {M:Maps} {s:St} {a:Act} {w:World} (hs:Sim B S M s a w) (hle:SLe S S'):∀b,¬B b->S'.z b:=λb hb=>by rw[hle.z];exact hs.hz b hb
theorem MapAt.move {S S':Stable} {w w':World} {b:Nat} {c:MapC} (h:MapAt S w b c) (hle:SLe S S') (hw:w'.heap[b]? = w.heap[b]?):MapAt S' w' b c:=by
 obtain⟨es,h1,h2,h3,h4,h5,h6⟩:=h;exact⟨es,by rw[hw];exact h1,h2,h3,h4,λi hi=>(h5 i hi).mono hle,λi hi=>(h6 i hi).mono hle⟩
theorem MapAt.lt {S:Stable} {w:World} {b:Nat} {c:MapC} (h:MapAt S w b c):b<w.heap.size:=by
 obtain⟨es,h1,_⟩:=h;exact(Jh.1 h1).1
theorem MapAtR.lt {S:Stable} {M:Maps} {m:Hp} {w:World} {b:Nat} {c:MapC} (h:MapAtR S M m w b c):b<w.heap.size:=by
 obtain⟨⟨es,h1,_⟩,_⟩:=h;exact(Jh.1 h1).1
theorem MapAtR.move {S S':Stable} {M M':Maps} {m m':Hp} {w w':World} {b:Nat} {c:MapC} (h:MapAtR S M m w b c) (hle:SLe S S') (hw:w'.heap[b]? = w.heap[b]?)
  (rep:∀v p,RepS S M m.q v p->(∀i∈p.ids,ZX m i)->RepS S' M' m'.q v p) (live:∀i,ZX m i->ZX m' i):MapAtR S' M' m' w' b c:=by
 obtain⟨⟨es,h1,h2,h3,h4,h5,h6⟩,h7⟩:=h;refine⟨⟨es,by rw[hw];exact h1,h2,h3,h4,λi hi=>(h5 i hi).mono hle,λi hi=>rep _ _ (h6 i hi) λk hk=>h7 _ ?_ k hk⟩,λp hp i hi=>live i (h7 p hp i hi)⟩;rw[Js,Je (by omega)];exact JH (by omega)
theorem IterAt.lt {w:World} {b:Nat} {x:IterC} (h:IterAt w b x):b<w.heap.size:=(Jh.1 h).1
theorem Stab.move {B:Frm} {S S':Stable} {w w':World} {o:Nat->Option MapC} {it:Nat->Option IterC} (h:Stab B S w o it) (hle:SLe S S') (hm:∀b c,o b=some c->S'.m b=none) (hs:StabS S' w')
  (ho:∀b c,o b=some c->w'.heap[b]? = w.heap[b]?) (hi:∀b x,it b=some x->w'.heap[b]? = w.heap[b]?):Stab B S' w' o it:=
 ⟨hs,λb c hc=>⟨(h.o b c hc).1,hm b c hc,(h.o b c hc).2.2.move hle (ho b c hc)⟩,λb x hx=>⟨(h.i b x hx).1,by unfold IterAt;rw[hi b x hx];exact(h.i b x hx).2.1,(h.i b x hx).2.2.mono hle⟩⟩
open Go.RowKit
theorem getD_lt {α:Type} {l:List α} {i:Nat} {d:α} (h:i<l.length):l.getD i d=l[i]:=by
 rw[Js,Je h];rfl
theorem Ze {α:Type} {l:List α} {i:Nat} {d:α} (h:i<l.length):l.getD i d∈l:=by rw[getD_lt h];exact JH h
theorem VJ {α:Type} {l:List α} {i:Nat} {d:α} (h:l.length<=i):l.getD i d=d:=by
 rw[Js,List.getElem?_eq_none h];rfl
structure BelowF (B:Frm) (w w':World):Prop where
 os:w'.os=w.os
 tape:w'.tape=w.tape
 output:w'.output=w.output
 size:w.heap.size<=w'.heap.size
 block:∀k,B k->w'.heap[k]? = w.heap[k]?
theorem BelowF.refl (B:Frm) (w:World):BelowF B w w:=⟨rfl,rfl,rfl,Jj _,λ_ _=>rfl⟩
theorem BelowF.trans {B:Frm} {a b c:World} (h:BelowF B a b) (k:BelowF B b c):BelowF B a c:=
 ⟨k.os.trans h.os,k.tape.trans h.tape,k.output.trans h.output,Qb h.size k.size,λi hi=>(k.block i hi).trans (h.block i hi)⟩
theorem BelowF.mono {B B':Frm} {w w':World} (h:BelowF B w w') (hB:∀k,B' k->B k):BelowF B' w w':=⟨h.os,h.tape,h.output,h.size,λk hk=>h.block k (hB k hk)⟩
theorem BelowF.of {n:Nat} {w w':World} (h:Below n w w'):BelowF (λk=>k<n) w w':=⟨h.os,h.tape,h.output,h.size,h.block⟩
theorem BelowF.to {n:Nat} {w w':World} (h:BelowF (λk=>k<n) w w'):Below n w w':=⟨h.os,h.tape,h.output,h.size,h.block⟩
theorem BelowF.alloc {B:Frm} {w w':World} (h:BelowF B w w') (hB:∀k,B k->k<w'.heap.size) (o:Obj):BelowF B w (w'.alloc o):=
 ⟨h.os,h.tape,h.output,Qb h.size (by show _<=(w'.heap.push o).size;simp),λk hk=>(Below.heap_alloc w' o k (hB k hk)).trans (h.block k hk)⟩
theorem BelowF.drew {B:Frm} {w w':World} (h:BelowF B w w'):BelowF B w { w' with drawn:=w'.drawn+1 }:=⟨h.os,h.tape,h.output,h.size,h.block⟩
def Ext (B:Frm) (S S':Stable) (w w':World):Prop:=SLe S S'/\(∀b,B b->(∀o,S' b o=S b o)/\S'.m b=S.m b)/\BelowF B w w'
theorem Ext.refl (B:Frm) (S:Stable) (w:World):Ext B S S w w:=⟨SLe.refl S,λ_ _=>⟨λ_=>rfl,rfl⟩,BelowF.refl _ _⟩
theorem Ext.trans {B:Frm} {S S' S'':Stable} {w w' w'':World} (h:Ext B S S' w w') (k:Ext B S' S'' w' w''):Ext B S S'' w w'':=
 ⟨h.1.trans k.1,λb hb=>⟨λo=>((k.2.1 b hb).1 o).trans ((h.2.1 b hb).1 o),(k.2.1 b hb).2.trans (h.2.1 b hb).2⟩,h.2.2.trans k.2.2⟩
section
variable {B:Frm} {S:Stable} {M:Maps} {s:St} {a:Act} {w:World}
def St.put (s:St) (d:Option Nat) (v:PV):St:=match d with|some d=> { s with fr:=upd s.fr d v }|none=>s
def St.with (s:St) (m:Hp):St:= { s with m:=m }
theorem Zpk {a:Act} {d i:Nat} {v:Value} (hd:d<a.tmps.size):(a.put (some d) v).tmps.getD i undef=if d=i then v else a.tmps.getD i undef:=by
 simp only[Act.put,Array.getD_eq_getD_getElem?,Array.getElem?_setIfInBounds];by_cases e:d=i;subst e;simp[hd];simp[e]
theorem Zpl (a:Act) (d:Option Nat) (v:Value):(a.put d v).tmps.size=a.tmps.size:=by
 cases d<;>simp[Act.put]
theorem Zj8 (a:Act) (d:Option Nat) (v:Value):(a.put d v).defers=a.defers:=by
 cases d<;>simp[Act.put]
theorem Sim.put (hs:Sim B S M s a w) {d:Option Nat} {v:Value} {p:PV} (hd:∀x,d=some x->x<s.n) (hv:RepS S M s.m.q v p) (hi:∀id∈p.ids,ZX s.m id):
  Sim B S M (s.put d p) (a.put d v) w:=by
 cases d with
 |none=>exact hs
 |some d=>
  have hlt:d<a.tmps.size:=by rw[hs.hn];exact hd d rfl
  refine⟨by rw[Zj8];exact hs.defers,by rw[Zpl];exact hs.hn,hs.hB,hs.stable,λi=> ?_,λi id hid=> ?_,hs.blk,hs.row,hs.inj,hs.injq,hs.injx,hs.rm,hs.vc,hs.pn,hs.hz⟩;rw[Zpk hlt];simp only[St.put,upd];split;exact hv;exact hs.fr i;simp only[St.put,upd]at hid;split at hid;exact hi id hid;exact hs.ids i id hid
theorem De {w:World} {b o:Nat} {v:Value} (h:w.cell? ⟨b,o,none⟩=some v):b<w.heap.size:=by
 unfold KT at h;by_cases hb:b<w.heap.size;exact hb;rw[Array.getElem?_eq_none (by simpa using hb)]at h;simp at h
theorem XH {w:World} {b o:Nat} {vs:List Value} {t:TypeId} {f:Nat×Nat} (h:w.heap[b]? = some (.cells ⟨vs⟩ t f)):w.cell? ⟨b,o,none⟩=vs[o]? :=by
 simp[KT,h]
theorem Sim.own (hs:Sim B S M s a w) {id:Nat} {cs:List PV} (h:s.m.h id=some cs) (hz:s.m.z id=false):GX B S M s.m w id cs false:=by
 have:=hs.blk id cs h;rwa[hz]at this
theorem Sim.blk_lt (hs:Sim B S M s a w) {id:Nat} {cs:List PV} (h:s.m.h id=some cs) (hz:s.m.z id=false):M.φ id<w.heap.size:=by
 obtain⟨_,_,⟨vs,t,hw,_⟩,_⟩:=hs.own h hz;exact(Jh.1 hw).1
theorem Sim.row_lt (hs:Sim B S M s a w) {id:Nat} {r:Row} (h:s.m.q id=some r) (ho:r.own=true) (hk:0<M.κ id):M.ψ id<w.heap.size:=by
 cases r with
 |dead=>cases ho
 |live n sz e=>
  obtain⟨_,h2⟩:=hs.row id _ h;obtain⟨_,_,_,⟨vs,hw,_⟩,_⟩:=h2 (M.κ id-1) (by omega);exact(Jh.1 hw).1
 |vec n sz e=>
  obtain⟨_,h2⟩:=hs.row id _ h;obtain⟨_,_,_,⟨vs,hw,_⟩,_⟩:=h2 (M.κ id-1) (by omega);exact(Jh.1 hw).1
theorem VecOk.move {S S':Stable} {M M':Maps} {m m':Hp} {w w':World} {id id':Nat} {es:List PV} (h:VecOk S M m w id es)
  (hq:∀n sz e,m.q id=some (.vec n sz e)->m'.q id'=some (.vec n sz e)) (hκ:M'.κ id'=M.κ id) (hψ:M'.ψ id'=M.ψ id) (hw:0<M.κ id->w'.heap[M.ψ id]? = w.heap[M.ψ id]?)
  (rep:∀v p,RepS S M m.q v p->(∀i∈p.ids,ZX m i)->RepS S' M' m'.q v p) (live:∀i,ZX m i->ZX m' i):VecOk S' M' m' w' id' es:=by
 obtain⟨sz,e,h1,h2,h3,h4⟩:=h;refine⟨sz,e,hq _ _ _ h1,h2,λp hp i hi=>live i (h3 p hp i hi),λc hc vs t f hvs i j hi hj=> ?_⟩;rw[hκ]at hc;rw[hψ,hw (by omega)]at hvs;refine rep _ _ (h4 c hc vs t f hvs i j hi hj) λk hk=>h3 (es.getD i .any) (Ze hi) k ?_
 have hlen:=(h2 _ (Ze (d:= .any) hi)).1;generalize es.getD i .any=x at hk hlen ⊢;cases x with
 |agg cs=>
  simp only[PV.cells]at hk hlen;simp only[PV.ids,PV.mem_idsL];exact⟨_,Ze (d:= .any) (by omega:j<cs.length),hk⟩
 |_=>
  simp only[PV.cells,List.length_singleton]at hk hlen;have:j=0:=by omega
  subst this;exact hk
theorem Sim.vec_q (hs:Sim B S M s a w) {id:Nat} {es:List PV} (h:s.m.v id=some es):∃sz e,s.m.q id=some (.vec es.length sz e):=by
 obtain⟨sz,e,h1,_⟩:=hs.vc id es h;exact⟨sz,e,h1⟩
theorem Sim.v_none (hs:Sim B S M s a w) {d:Nat} (h:∀n sz e,s.m.q d≠some (.vec n sz e)):s.m.v d=none:=by
 cases e:s.m.v d with
 |none=>rfl
 |some es=>obtain⟨sz,t,h1⟩:=hs.vec_q e;exact absurd h1 (h _ _ _)
theorem Sim.vec_lt (hs:Sim B S M s a w) {id:Nat} {es:List PV} (h:s.m.v id=some es) (hk:0<M.κ id):M.ψ id<w.heap.size:=by
 obtain⟨sz,e,h1⟩:=hs.vec_q h;exact hs.row_lt h1 rfl hk
theorem Sim.S_lt (hs:Sim B S M s a w) {b o:Nat} (h:w.heap.size<=b):S b o=none:=by
 cases e:S b o with
 |none=>rfl
 |some v=>have:=De (hs.stable b o v e);omega
theorem Sim.S_m (hs:Sim B S M s a w) {b:Nat} (h:w.heap.size<=b):S.m b=none:=by
 cases e:S.m b with
 |none=>rfl
 |some v=>have:=(Jh.1 (hs.stable.s.m b v e)).1;omega
theorem StabS.old {S:Stable} {w w':World} (hs:StabS S w) (hw:∀k,k<w.heap.size->w'.heap[k]? = w.heap[k]?):StabS S w':=
 ⟨λb o v h=>by
   have h':=hs.c b o v h;have:=De h';rw[<-h'];exact JQ (hw _ this),
  λb es h=>by
     have h':=hs.m b es h;rw[hw b (Jh.1 h').1];exact h',λb h=>by
     obtain⟨vs,t,e⟩:=hs.y b h;exact⟨vs,t,by rw[hw b (Jh.1 e).1];exact e⟩⟩
theorem Sim.new_ok (hs:Sim B S M s a w):¬B w.heap.size:=λh=>J7 _ (hs.hB _ h)
theorem Sim.grow (hs:Sim B S M s a w) {S':Stable} {w':World} (hle:SLe S S') (hag:∀b,b<w.heap.size->(∀o,S' b o=S b o)/\S'.m b=S.m b)
  (hst:StabS S' w') (hw:∀k,k<w.heap.size->w'.heap[k]? = w.heap[k]?) (hsz:w.heap.size<=w'.heap.size):
  Sim B S' M s a w':=by
 have rep:∀ {v p},RepS S M s.m.q v p->RepS S' M s.m.q v p:=λr=>r.heap hle (λ_ _=>rfl) (λ_ _=>RowLe.refl _ _ _)
 refine⟨hs.defers,hs.hn,λk hk=>Nat.lt_of_lt_of_le (hs.hB k hk) hsz,hs.stable.move hle (λb c hc=> ?_) hst (λb c hc=>hw b (hs.stable.o b c hc).2.2.lt) (λb x hx=>hw b (hs.stable.i b x hx).2.1.lt),λi=>rep (hs.fr i),hs.ids,λid cs hb=> ?_,λid r hr=> ?_,hs.inj,hs.injq,hs.injx,λb c hc=> ?_,λid es he=> ?_,hs.pn,hs.zle hle⟩;rw[(hag b (hs.stable.o b c hc).2.2.lt).2];exact(hs.stable.o b c hc).2.1;have hb':=hs.blk id cs hb;cases hz:s.m.z id with
 |false=>
  rw[hz]at hb';have hlt:=hs.blk_lt hb hz;obtain⟨h1,h2,⟨vs,t,h3,h4,h5⟩,h6⟩:=hb';exact⟨h1,λo=>by rw[(hag _ hlt).1];exact h2 o,⟨vs,t,by rw[hw _ hlt];exact h3,h4,λj hj=>rep (h5 j hj)⟩,h6⟩
 |true=>
  rw[hz]at hb';obtain⟨vals,hv⟩:=hb';exact⟨vals,λj hj=>⟨hle _ _ _ (hv j hj).1,(hv j hj).2.mono hle⟩⟩
 have hr':=hs.row id r hr;cases r with
 |live n sz e=>
  obtain⟨h1,h2⟩:=hr';refine⟨h1,λc hk=> ?_⟩;have hlt:=hs.row_lt hr rfl (by omega);obtain⟨g0,g0',g1,⟨vs,g2,g3⟩,g4⟩:=h2 c hk;exact⟨g0,g0',g1,⟨vs,by rw[hw _ hlt];exact g2,g3⟩,λo ho=>by rw[(hag _ hlt).1];exact g4 o ho⟩
 |vec n sz e=>
  obtain⟨h1,h2⟩:=hr';refine⟨h1,λc hk=> ?_⟩;have hlt:=hs.row_lt hr rfl (by omega);obtain⟨g0,g0',g1,⟨vs,g2,g3⟩,g4⟩:=h2 c hk;exact⟨g0,g0',g1,⟨vs,by rw[hw _ hlt];exact g2,g3⟩,λo=>by rw[(hag _ hlt).1];exact g4 o⟩
 |dead=>trivial
 obtain⟨g1,g2,g3,g4⟩:=hs.rm b c hc;exact⟨g1,by rw[(hag b g4.lt).2];exact g2,g3,g4.move hle (hw b g4.lt) (λv p r _=>rep r) (λ_ h=>h)⟩;exact(hs.vc id es he).move (λ_ _ _ h=>h) rfl rfl (λhk=>hw _ (hs.vec_lt he hk)) (λv p r _=>rep r) (λ_ h=>h)
end
open Go.RowKit
section
variable {B:Frm} {S:Stable} {M:Maps} {s:St} {a:Act} {w:World}
theorem ZZ (w:World) (o:Obj) {k:Nat} (h:k<w.heap.size):(w.alloc o).heap[k]? = w.heap[k]? :=Below.heap_alloc w o k h
theorem alloc_heap_new (w:World) (o:Obj):(w.alloc o).heap[w.heap.size]? = some o:=by
 show(w.heap.push o)[w.heap.size]? = some o;simp
theorem T1 (w:World) (o:Obj):(w.alloc o).heap.size=w.heap.size+1:=by
 show(w.heap.push o).size=_;simp
theorem Sim.ext_alloc (hs:Sim B S M s a w) (o:Obj):Ext B S S w (w.alloc o):=⟨SLe.refl _,λ_ _=>⟨λ_=>rfl,rfl⟩,(BelowF.refl _ _).alloc hs.hB o⟩
theorem RepS.fresh {S:Stable} {M M':Maps} {m:Hp} {id:Nat} {v:Value} {p:PV} (r:RepS S M m.q v p) (hids:∀i∈p.ids,ZX m i) (hid:m.h id=none)
  (e1:∀i,i≠id->M'.φ i=M.φ i) (e2:M'.κ=M.κ) (e3:M'.ψ=M.ψ):RepS S M' m.q v p:=
 r.heap (SLe.refl S) (λi hi=>e1 i (λe=>hids _ hi (e▸hid)))
  (λi hi=>RowLe.same (by rw[e2]) (by rw[e3]))
def Hp.new (m:Hp) (d:Nat) (cs:List PV):Hp:= { m with h:=upd m.h d (some cs),z:=upd m.z d false }
theorem Sim.alloc (hs:Sim B S M s a w) {id:Nat} (hid:s.m.h id=none) {vs:List Value} {t:TypeId} {cs:List PV} (hl:vs.length=cs.length)
  (hr:∀j,j<cs.length->RepS S M s.m.q (vs.getD j undef) (cs.getD j .any)) (hi:∀c∈cs,∀i∈c.ids,ZX s.m i):
  Sim B S { M with φ:=upd M.φ id w.heap.size } (s.with (s.m.new id cs)) a (w.alloc (.cells ⟨vs⟩ t)):=by
 have g:=hs.grow (S':=S) (w':=w.alloc (.cells ⟨vs⟩ t)) (SLe.refl S) (λ_ _=>⟨λ_=>rfl,rfl⟩)
  (hs.stable.s.old (λk hk=>ZZ w _ hk))
  (λk hk=>ZZ w _ hk) (by rw[T1];omega)
 have e1:∀i,i≠id->upd M.φ id w.heap.size i=M.φ i:=λi h=>Zk _ _ (Jt h)
 have e3:∀i,i≠id->(s.m.new id cs).h i=s.m.h i:=λi h=>Zk _ _ (Jt h)
 have e4:∀i,i≠id->(s.m.new id cs).z i=s.m.z i:=λi h=>Zk _ _ (Jt h)
 have n1:(s.m.new id cs).h id=some cs:=Za _ _ _;have n2:(s.m.new id cs).z id=false:=Za _ _ _;have rep:∀ {v p},RepS S M s.m.q v p->(∀i∈p.ids,ZX s.m i)->RepS S { M with φ:=upd M.φ id w.heap.size } s.m.q v p:=
  λr hh=>r.fresh hh hid e1 rfl rfl
 have some_ne:∀i,ZX s.m i->ZX (s.m.new id cs) i:=λi h=>by
  cases i with
  |b i=>
   by_cases e:i=id;subst e;exact absurd hid h;show(s.m.new id cs).h i≠none;rw[e3 i e];exact h
  |r i=>exact h
 refine⟨g.defers,g.hn,g.hB,g.stable,λi=>rep (hs.fr i) (hs.ids i),λi j hj=>some_ne j (hs.ids i j hj),λi b hb=> ?_,λi r hr=>g.row i r hr,?_,hs.injq,?_,λb c hc=> ?_,λi es he=> ?_,hs.pn.move rfl rfl some_ne (λi h=>e1 i λe=>h (e▸hid)) λi _=> .same rfl rfl,hs.hz⟩;simp only[St.with]at hb ⊢;by_cases e:i=id;subst e;rw[n1]at hb;cases hb;rw[n2];refine⟨by simp only[Za];exact hs.new_ok,λo=>by simp only[Za];exact hs.S_lt (Jj _),⟨vs,t,by simp only[Za];exact alloc_heap_new w _,hl,λj hj=>rep (hr j hj) ?_⟩,λc hc k hk=>some_ne k (hi c hc k hk)⟩;intro k hk;exact hi _ (Ze hj) k hk;rw[e3 i e]at hb;rw[e4 i e];have hb':=g.blk i b hb;cases hz:s.m.z i with
 |false=>
  rw[hz]at hb';obtain⟨h1,h2,⟨us,t',h3,h4,h5⟩,h6⟩:=hb';exact⟨by simp only[e1 i e];exact h1,λo=>by simp only[e1 i e];exact h2 o,⟨us,t',by simp only[e1 i e];exact h3,h4,λj hj=>rep (h5 j hj) (λk hk=>h6 _ (Ze hj) k hk)⟩,λc hc k hk=>some_ne k (h6 c hc k hk)⟩
 |true=>
  rw[hz]at hb';obtain⟨vals,hv⟩:=hb';exact⟨vals,λj hj=>by simp only[e1 i e];exact hv j hj⟩
 intro i j ds ds' hbi hbj zi zj hij;simp only[St.with]at hbi hbj zi zj ⊢;by_cases e:i=id;subst e;rw[e3 j (Jt hij)]at hbj;rw[e4 j (Jt hij)]at zj;rw[Za,e1 j (Jt hij)];have:=hs.blk_lt hbj zj;omega;by_cases e':j=id;subst e';rw[e3 i e]at hbi;rw[e4 i e]at zi;rw[Za,e1 i e];have:=hs.blk_lt hbi zi;omega;rw[e3 i e]at hbi;rw[e3 j e']at hbj;rw[e4 i e]at zi;rw[e4 j e']at zj;rw[e1 i e,e1 j e'];exact hs.inj i j _ _ hbi hbj zi zj hij;intro i j ds rj hbi zi hqj hoj hk;simp only[St.with]at hbi zi ⊢;by_cases e:i=id;subst e;rw[Za];have:=hs.row_lt hqj hoj hk;omega;rw[e3 i e]at hbi;rw[e4 i e]at zi;rw[e1 i e];exact hs.injx i j _ _ hbi zi hqj hoj hk;obtain⟨g1,g2,g3,g4⟩:=g.rm b c hc;exact⟨g1,g2,g3,g4.move (SLe.refl _) rfl (λv p r h=>rep r h) some_ne⟩;exact(g.vc i es he).move (λ_ _ _ h=>h) rfl rfl (λ_=>rfl) (λv p r h=>rep r h) some_ne
def Hp.freeze (m:Hp) (d:Nat):Hp:= { m with z:=upd m.z d true }
end
open Go.RowKit
def tsz (P:Program) (t:TypeId):Nat:=P.cellsOf t
def Yo (P:Program) (t:TypeId):Bool:=match P.underlying t with|some (.struct _)|some (.array _ _)=>true|_=>false
def WG (P:Program) (t:TypeId) (f:Nat):Option (Nat×Nat×Bool):=
 match P.underlying t with
 |some (.struct fs)=>match fs[f]? with
  |some fd=>match P.underlying fd.type with
   |some _=>some (fd.offset,tsz P fd.type,Yo P fd.type)
   |none=>none
  |none=>none
 |_=>none
inductive IxK where
 |arr (len esz:Nat) (ea:Bool)
 |slc (esz:Nat) (ea:Bool)
 |str
 |none
def tix (P:Program) (t:TypeId):IxK:=
 match P.underlying t with
 |some (.array n e)=>match P.underlying e with|some _=> .arr n (tsz P e) (Yo P e)|none=> .none
 |some (.slice e)=>match P.underlying e with|some _=> .slc (tsz P e) (Yo P e)|none=> .none
 |some .string=> .str
 |_=> .none
def TF:Value->PV
 | .int k n=> .int k n
 | .bool b=> .bool b
 | .string s=> .str s.data.toList
 | .float k b=> .flt k b
 | .complex k a b=> .cpx k a b
 | .pointer none=> .nilp
 | .slice none 0 0=> .sl .nil []
 | .nilFunc=> .nilfn
 | .map none=> .nilmap
 |_=> .any
def XR:Value->PV
 | .agg cs=> .agg (cs.toList.map TF)
 | .tuple cs=>if cs.isEmpty then .tup []else .any
 |v=>TF v
theorem Zcl (S:Stable) (v:Value):Rep S v (TF v):=by
 unfold TF;split;exact .int _ _;exact .bool _;rename_i s;exact .str s.data.toList;exact .flt _ _;exact .cpx _ _ _;exact .nilp;exact .slnil;exact .nilfn;exact .nilmap;exact .any _
theorem Vb (S:Stable) (v:Value):Rep S v (XR v):=by
 unfold XR;split;rename_i cs;obtain⟨l⟩:=cs;refine .agg l _ (by simp) λi hi=> ?_
 simp only[JO]at hi;rw[getD_lt (by simpa using hi),getD_lt (by simpa using hi)];simp only[JD];exact Zcl S _;rename_i cs;split;rename_i h;obtain⟨l⟩:=cs;have:l= []:=by simpa using h
 subst this;exact .tup [] [] rfl (λi hi=>by simp at hi);exact .any _;exact Zcl S _
theorem Zb5 (v:Value):(TF v).ids= []:=by unfold TF;split<;>rfl
theorem Zg0 (l:List Value):PV.idsL (l.map TF)= []:=by
 induction l with
 |nil=>rfl
 |cons v l ih=>simp[PV.idsL,Zb5,ih]
theorem VM (v:Value):(XR v).ids= []:=by
 unfold XR;split;simp[PV.ids,Zg0];split<;>rfl
 exact Zb5 _
def St.eval (s:St):Operand->PV
 | .tmp t=>s.fr t
 | .const v=>XR v
 | .global _=> .any
 | .func f=> .fn f []
section
variable {B:Frm} {S:Stable} {M:Maps} {s:St} {a:Act} {w:World}
theorem Sim.eval (hs:Sim B S M s a w) (x:Operand):RepS S M s.m.q (a.eval x) (s.eval x):=by
 rcases x with t|v|g|f;exact hs.fr t;exact .clean (Vb S v);exact .clean (.any _);exact .clean (.fn f [] [] rfl (λi hi=>by simp at hi))
theorem Sim.eval_ids (hs:Sim B S M s a w) (x:Operand):∀i∈(s.eval x).ids,ZX s.m i:=by
 rcases x with t|v|g|f;exact hs.ids t;intro i hi;simp[St.eval,VM]at hi;intro i hi;simp[St.eval,PV.ids]at hi;intro i hi;simp[St.eval,PV.ids,PV.idsL]at hi
end
structure ARes where
 ok:Prop
 v:PV
 m:Hp
def ARes.fail:ARes:=⟨False,.any,Hp.empty⟩
def W7 (ag:Bool) (sz:Nat) (cs:List PV) (off:Nat):PV:=if ag then .agg ((cs.drop off).take sz)else cs.getD off .any
def Gb (P:Program) (t:TypeId) (x:PV) (f:Nat) (m:Hp):ARes:=
 match WG P t f,x with
 |some (o,sz,ag),.agg cs=>⟨o+sz<=cs.length/\(ag=false->sz=1),W7 ag sz cs o,m⟩
 |_,_=> .fail
def Xp (P:Program) (t:TypeId) (x:PV) (f:Nat) (m:Hp):ARes:=
 match WG P t f,x with
 |some (o,sz,_),.ptr id off=>⟨sz≠0,.ptr id (off+o),m⟩
 |some (o,sz,_),.rptr cs=>⟨sz≠0,.rptr (cs.drop o),m⟩
 |some (o,sz,_),.vptr id n z i off=>⟨sz≠0,.vptr id n z i (off+o),m⟩
 |_,_=> .fail
def Gc (P:Program) (t:TypeId) (x i:PV) (m:Hp):ARes:=
 match tix P t,x,i with
 | .arr n esz ea,.agg cs,.int _ k=>⟨0<=k/\k<n/\(k.toNat+1)*esz<=cs.length/\(ea=false->esz=1),W7 ea esz cs (k.toNat*esz),m⟩
 | .str,.str l,.int _ k=>⟨0<=k/\k<l.length,.int .u8 (l.getD k.toNat 0).toNat,m⟩
 |_,_,_=> .fail
def Xq (P:Program) (t:TypeId) (x i:PV) (m:Hp):ARes:=
 match tix P t,x,i with
 | .slc esz _,.sl _ es,.int _ k=>⟨0<=k/\k<es.length/\(es.getD k.toNat .any).cells.length=esz,.rptr (es.getD k.toNat .any).cells,m⟩
 | .slc esz _,.osl id off len sz,.int _ k=>⟨0<=k/\k<len/\esz=sz,.ptr id (off+k.toNat*sz),m⟩
 | .arr n esz _,.ptr id off,.int _ k=>⟨0<=k/\k<n,.ptr id (off+k.toNat*esz),m⟩
 | .arr n esz _,.rptr cs,.int _ k=>⟨0<=k/\k<n,.rptr (cs.drop (k.toNat*esz)),m⟩
 | .slc esz _,.vsl id n sz,.int _ k=>⟨0<=k/\k<n/\esz=sz,.vptr id n sz k.toNat 0,m⟩
 | .arr n esz _,.vptr id n' z i off,.int _ k=>⟨0<=k/\k<n,.vptr id n' z i (off+k.toNat*esz),m⟩
 |_,_,_=> .fail
def Un (P:Program) (t:TypeId) (x:PV) (m:Hp):ARes:=
 match x with
 | .rptr cs=>⟨tsz P t<=cs.length/\(Yo P t=false->tsz P t=1),W7 (Yo P t) (tsz P t) cs 0,m⟩
 | .ptr id off=>match m.h id with
  |some cs=>⟨off+tsz P t<=cs.length/\(Yo P t=false->tsz P t=1),W7 (Yo P t) (tsz P t) cs off,m⟩
  |none=> .fail
 | .vptr id n _ i off=>match m.v id with
  |some es=>⟨es.length=n/\off+tsz P t<=(es.getD i .any).cells.length/\(Yo P t=false->tsz P t=1),W7 (Yo P t) (tsz P t) (es.getD i .any).cells off,m⟩
  |_=> .fail
 |_=> .fail
def YT (cs:List PV) (off:Nat) (ns:List PV):List PV:=cs.take off++ns++cs.drop (off+ns.length)
def Zax (x:PV) (off:Nat) (v:PV):PV:=if off=0/\v.cells.length=x.cells.length then v else .agg (YT x.cells off v.cells)
def W0 (P:Program) (t:TypeId) (x v:PV) (m:Hp):ARes:=
 match x with
 | .ptr id off=>match m.h id with
  |some cs=>⟨m.z id=false/\v.known=true/\v.cells.length=tsz P t/\off+tsz P t<=cs.length/\v.cells.all PV.atom=true,.tup [],{ m with h:=upd m.h id (some (YT cs off v.cells)) }⟩
  |none=> .fail
 | .vptr id n sz i off=>match m.v id with
  |some es=>⟨es.length=n/\v.known=true/\v.cells.length=tsz P t/\off+tsz P t<=sz/\v.cells.all PV.atom=true,.tup [],{ m with v:=upd m.v id (some (es.set i (Zax (es.getD i .any) off v))) }⟩
  |_=> .fail
 |_=> .fail
open Go.RowKit
section
variable {P:Program} {B:Frm} {S:Stable} {M:Maps} {s:St} {a:Act} {w:World}
def Snd (P:Program) (B:Frm) (S:Stable) (s:St) (a:Act) (w:World) (m:Sem Value) (r:ARes):Prop:=
 ∃v w' S' M',m.run P w= .ok v w'/\Sim B S' M' (s.with r.m) a w'/\RepS S' M' r.m.q v r.v/\(∀i∈r.v.ids,ZX r.m i)/\Ext B S S' w w'
theorem Snd.pure (hs:Sim B S M s a w) {m:Sem Value} {ok:Prop} {p:PV} {v:Value} (hm:m.run P w= .ok v w) (hr:RepS S M s.m.q v p) (hi:∀i∈p.ids,ZX s.m i):
  Snd P B S s a w m ⟨ok,p,s.m⟩:=⟨v,w,S,M,hm,hs,hr,hi,Ext.refl _ _ _⟩
theorem ZR {t:TypeId} {d:TypeDesc} (h:P.underlying t=some d) (w:World):(underlying t).run P w= .ok d w:=run_underlying h w
theorem SV {t:TypeId} {i:TypeInfo} (h:P.info? t=some i) (w:World):(typeInfo t).run P w= .ok i w:=by
 simp[typeInfo,program,Kz,h]
theorem Yu {t:TypeId} {i:TypeInfo} (h:P.info? t=some i) (w:World):(sizeOf t).run P w= .ok (tsz P t) w:=by
 simp[sizeOf,SV h,tsz,Program.cellsOf,h]
theorem Xz {t:TypeId} {d:TypeDesc} (h:P.underlying t=some d):∃i,P.info? t=some i:=by
 unfold Program.underlying at h;cases e:P.info? t with
 |none=>rw[e]at h;simp at h
 |some i=>exact⟨i,rfl⟩
theorem VS {t:TypeId} {d:TypeDesc} (h:P.underlying t=some d) (w:World):(isAgg t).run P w= .ok (Yo P t) w:=by
 unfold isAgg Yo;simp only[Ji,ZR h,Jb,h];cases d<;>rfl
theorem RepS.agg_inv {v:Value} {cs:List PV} {q:Rows} (r:RepS S M q v (.agg cs)):∃vs:List Value,v= .agg ⟨vs⟩/\vs.length=cs.length/\ ∀i,i<cs.length->RepS S M q (vs.getD i undef) (cs.getD i .any):=by
 cases r with
 |clean r=>cases r with|agg vs cs hl h=>exact⟨vs,rfl,hl,λi hi=> .clean (h i hi)⟩
 |agg vs cs hl h=>exact⟨vs,rfl,hl,h⟩
theorem RepS.tup_inv {v:Value} {cs:List PV} {q:Rows} (r:RepS S M q v (.tup cs)):∃vs:List Value,v= .tuple ⟨vs⟩/\vs.length=cs.length/\ ∀i,i<cs.length->RepS S M q (vs.getD i undef) (cs.getD i .any):=by
 cases r with
 |clean r=>cases r with|tup vs cs hl h=>exact⟨vs,rfl,hl,λi hi=> .clean (h i hi)⟩
 |tup vs cs hl h=>exact⟨vs,rfl,hl,h⟩
theorem RepS.fn_inv {v:Value} {f:FuncId} {cs:List PV} {q:Rows} (r:RepS S M q v (.fn f cs)):∃vs:List Value,v= .func (.func f) #[] ⟨vs⟩/\vs.length=cs.length/\ ∀i,i<cs.length->RepS S M q (vs.getD i undef) (cs.getD i .any):=by
 cases r with
 |clean r=>cases r with|fn f vs cs hl h=>exact⟨vs,rfl,hl,λi hi=> .clean (h i hi)⟩
 |fn f vs cs hl h=>exact⟨vs,rfl,hl,h⟩
theorem RepS.int_inv {v:Value} {k:IntKind} {n:Int} {q:Rows} (r:RepS S M q v (.int k n)):v= .int k n:=by
 cases r with|clean r=>cases r;rfl
theorem RepS.flt_inv {v:Value} {k:FloatKind} {b:Nat} {q:Rows} (r:RepS S M q v (.flt k b)):v= .float k b:=by
 cases r with|clean r=>cases r;rfl
theorem RepS.cpx_inv {v:Value} {k:FloatKind} {x y:Nat} {q:Rows} (r:RepS S M q v (.cpx k x y)):v= .complex k x y:=by
 cases r with|clean r=>cases r;rfl
theorem RepS.bool_inv {v:Value} {b:Bool} {q:Rows} (r:RepS S M q v (.bool b)):v= .bool b:=by
 cases r with|clean r=>cases r;rfl
theorem RepS.str_inv {v:Value} {l:List UInt8} {q:Rows} (r:RepS S M q v (.str l)):v= .string ⟨⟨l⟩⟩:=by
 cases r with|clean r=>cases r;rfl
theorem RepS.ptr_inv {v:Value} {id off:Nat} {q:Rows} (r:RepS S M q v (.ptr id off)):v= .pointer (some ⟨M.φ id,off,none⟩):=by
 cases r with
 |clean r=>cases r
 |ptr=>rfl
theorem RepS.rptr_inv {v:Value} {cs:List PV} {q:Rows} (r:RepS S M q v (.rptr cs)):∃b o,∃vals:Nat->Value,v= .pointer (some ⟨b,o,none⟩)/\(∀j,j<cs.length->S b (o+j)=some (vals j))/\ ∀j,j<cs.length->Rep S (vals j) (cs.getD j .any):=by
 cases r with|clean r=>cases r with|rptr b o cs vals hS hR=>exact⟨b,o,vals,rfl,hS,hR⟩
theorem RepS.osl_inv {v:Value} {id off len sz:Nat} {q:Rows} (r:RepS S M q v (.osl id off len sz)):∃cap,len<=cap/\v= .slice (some ⟨M.φ id,off,none⟩) len cap:=by
 cases r with
 |clean r=>cases r
 |osl _ _ _ cap _ hc=>exact⟨cap,hc,rfl⟩
theorem RepS.sl_inv {v:Value} {t:Tok} {es:List PV} {q:Rows} (r:RepS S M q v (.sl t es)):Rep S v (.sl .no es):=by
 cases r with
 |clean r=>
  cases r with
  |sl0 a cap=>exact .sl0 a cap
  |slnil=>exact .sl0 none 0
  |sl b o cap sz es vals h1 h2 h3 h4=>exact .sl b o cap sz es vals h1 h2 h3 h4
  |slf v es r hz=>exact r
 |row id v es r _=>exact r
theorem RepS.row_tok {v:Value} {id:Nat} {es:List PV} {q:Rows} (r:RepS S M q v (.sl (.row id) es)):∀n sz e,q id=some (.live n sz e)->es.length<=n/\(es.length=n->(M.κ id=0->v= .slice none 0 0)/\(∀c,M.κ id=c+1->v= .slice (some ⟨M.ψ id,0,none⟩) n c)):=by
 cases r with
 |clean r=>cases r
 |row _ _ _ _ t=>exact t
theorem RepS.vsl_inv {v:Value} {id len sz:Nat} {q:Rows} (r:RepS S M q v (.vsl id len sz)):(∃a cap,v= .slice a len cap/\len<=cap/\(0<len-> ∃b o,a=some ⟨b,o,none⟩))/\
  ∀n sz' e,q id=some (.vec n sz' e)->len<=n/\(len=n->sz'=sz/\(M.κ id=0->v= .slice none 0 0)/\(∀c,M.κ id=c+1->v= .slice (some ⟨M.ψ id,0,none⟩) len c)):=by
 cases r with
 |clean r=>cases r
 |vsl _ _ _ _ hv t=>exact⟨hv,t⟩
theorem RepS.vptr_inv {v:Value} {id n sz i off:Nat} {q:Rows} (r:RepS S M q v (.vptr id n sz i off)):(∃b o,v= .pointer (some ⟨b,o,none⟩))/\i<n/\
  ∀n' sz' e,q id=some (.vec n' sz' e)->n<=n'/\(n=n'->sz'=sz/\v= .pointer (some ⟨M.ψ id,i*sz+off,none⟩)):=by
 cases r with
 |clean r=>cases r
 |vptr _ _ _ _ _ _ hv hi t=>exact⟨hv,hi,t⟩
theorem Rep.sl_len {v:Value} {es:List PV} (r:Rep S v (.sl .no es)):∃a cap,v= .slice a es.length cap/\es.length<=cap:=by
 cases r with
 |sl0 a cap=>exact⟨a,cap,rfl,Ku _⟩
 |sl b o cap sz es vals h1 h2 h3 h4=>exact⟨_,cap,rfl,h2⟩
theorem Rep.sl_at {v:Value} {es:List PV} (r:Rep S v (.sl .no es)) {i:Nat} (hi:i<es.length):∃b o cap,∃vals:Nat->Nat->Value,v= .slice (some ⟨b,o,none⟩) es.length cap/\es.length<=cap/\
  (∀k,k<es.length->(es.getD k .any).cells.length=(es.getD i .any).cells.length)/\(∀k j,k<es.length->j<(es.getD i .any).cells.length->S b (o+k*(es.getD i .any).cells.length+j)=some (vals k j))/\
  ∀k j,k<es.length->j<(es.getD i .any).cells.length->Rep S (vals k j) ((es.getD k .any).cells.getD j .any):=by
 cases r with
 |sl0 a cap=>simp at hi
 |sl b o cap sz es vals h1 h2 h3 h4=>
  have e:=h1 i hi;exact⟨b,o,cap,vals,rfl,h2,λk hk=>(h1 k hk).trans e.symm,by rw[e];exact h3,by rw[e];exact h4⟩
theorem RepS.cells_inv {v:Value} {p:PV} {q:Rows} (r:RepS S M q v p) (hk:p.known=true):∃vs:List Value,v.cells=⟨vs⟩/\vs.length=p.cells.length/\ ∀i,i<p.cells.length->RepS S M q (vs.getD i undef) (p.cells.getD i .any):=by
 have one:v.cells= #[v]->p.cells= [p]-> ∃vs:List Value,v.cells=⟨vs⟩/\vs.length=p.cells.length/\ ∀i,i<p.cells.length->RepS S M q (vs.getD i undef) (p.cells.getD i .any):=by
  intro e1 e2;refine⟨[v],e1,by rw[e2];rfl,λi hi=> ?_⟩;rw[e2]at hi ⊢;simp only[JI,Kn]at hi;have:i=0:=by omega
  subst this;exact r
 cases p with
 |any=>simp[PV.known]at hk
 |agg cs=>obtain⟨vs,rfl,hl,hh⟩:=r.agg_inv;exact⟨vs,rfl,hl,hh⟩
 |tup cs=>obtain⟨vs,rfl,_,_⟩:=r.tup_inv;exact one rfl rfl
 |fn f cs=>obtain⟨vs,rfl,_,_⟩:=r.fn_inv;exact one rfl rfl
 |int k n=>rw[r.int_inv]at one ⊢;exact one rfl rfl
 |bool b=>rw[r.bool_inv]at one ⊢;exact one rfl rfl
 |str l=>rw[r.str_inv]at one ⊢;exact one rfl rfl
 |flt k b=>have e:v= .float k b:=by cases r with|clean r=>cases r;rfl
           subst e;exact one rfl rfl
 |cpx k x y=>have e:v= .complex k x y:=by cases r with|clean r=>cases r;rfl
             subst e;exact one rfl rfl
 |ptr id off=>rw[r.ptr_inv]at one ⊢;exact one rfl rfl
 |rptr cs=>obtain⟨b,o,vals,e,_⟩:=r.rptr_inv;subst e;exact one rfl rfl
 |osl id off len sz=>obtain⟨cap,_,e⟩:=r.osl_inv;subst e;exact one rfl rfl
 |sl t es=>obtain⟨x,cap,e,_⟩:=r.sl_inv.sl_len;subst e;exact one rfl rfl
 |nilp=>have e:v= .pointer none:=by cases r with|clean r=>cases r;rfl
        subst e;exact one rfl rfl
 |nilfn=>have e:v= .nilFunc:=by cases r with|clean r=>cases r;rfl
         subst e;exact one rfl rfl
 |nilmap=>have e:v= .map none:=by cases r with|clean r=>cases r;rfl
          subst e;exact one rfl rfl
 |mref b=>have e:v= .map (some b):=by cases r with|clean r=>cases r;rfl
          subst e;exact one rfl rfl
 |rmap ks vs=>have e:∃b,v= .map (some b):=by cases r with|clean r=>cases r;exact⟨_,rfl⟩
              obtain⟨b,e⟩:=e;subst e;exact one rfl rfl
 |iptr b=>have e:v= .pointer (some ⟨b,0,none⟩):=by cases r with|clean r=>cases r;rfl
          subst e;exact one rfl rfl
 |vsl id len sz=>obtain⟨⟨x,n,e,_⟩,_⟩:=r.vsl_inv;subst e;exact one rfl rfl
 |vptr id n sz i off=>obtain⟨⟨x,o,e⟩,_⟩:=r.vptr_inv;subst e;exact one rfl rfl
theorem RepS.atom_inv {v:Value} {p:PV} {q:Rows} (r:RepS S M q v p) (hk:p.atom=true):v.oneCell'=true:=by
 cases p with
 |any=>simp[PV.atom]at hk
 |agg cs=>simp[PV.atom]at hk
 |tup cs=>simp[PV.atom]at hk
 |fn f cs=>obtain⟨vs,rfl,_,_⟩:=r.fn_inv;rfl
 |int k n=>rw[r.int_inv];rfl
 |bool b=>rw[r.bool_inv];rfl
 |str l=>rw[r.str_inv];rfl
 |flt k b=>have e:v= .float k b:=by cases r with|clean r=>cases r;rfl
           subst e;rfl
 |cpx k x y=>have e:v= .complex k x y:=by cases r with|clean r=>cases r;rfl
             subst e;rfl
 |ptr id off=>rw[r.ptr_inv];rfl
 |rptr cs=>obtain⟨b,o,vals,e,_⟩:=r.rptr_inv;subst e;rfl
 |osl id off len sz=>obtain⟨cap,_,e⟩:=r.osl_inv;subst e;rfl
 |sl t es=>obtain⟨x,cap,e,_⟩:=r.sl_inv.sl_len;subst e;rfl
 |nilp=>have e:v= .pointer none:=by cases r with|clean r=>cases r;rfl
        subst e;rfl
 |nilfn=>have e:v= .nilFunc:=by cases r with|clean r=>cases r;rfl
         subst e;rfl
 |nilmap=>have e:v= .map none:=by cases r with|clean r=>cases r;rfl
          subst e;rfl
 |mref b=>have e:v= .map (some b):=by cases r with|clean r=>cases r;rfl
          subst e;rfl
 |rmap ks vs=>have e:∃b,v= .map (some b):=by cases r with|clean r=>cases r;exact⟨_,rfl⟩
              obtain⟨b,e⟩:=e;subst e;rfl
 |iptr b=>have e:v= .pointer (some ⟨b,0,none⟩):=by cases r with|clean r=>cases r;rfl
          subst e;rfl
 |vsl id len sz=>obtain⟨⟨x,n,e,_⟩,_⟩:=r.vsl_inv;subst e;rfl
 |vptr id n sz i off=>obtain⟨⟨x,o,e⟩,_⟩:=r.vptr_inv;subst e;rfl
end
open Go.RowKit
section
variable {P:Program} {B:Frm} {S:Stable} {M:Maps} {s:St} {a:Act} {w:World}
theorem Zif {l l':List PV} (h:∀c∈l,c∈l') {i:Ref} (hi:i∈PV.idsL l):i∈PV.idsL l':=by
 rw[PV.mem_idsL]at hi ⊢;obtain⟨c,hc,hic⟩:=hi;exact⟨c,h c hc,hic⟩
theorem Ziy {e:TypeId} {d:TypeDesc} {i:TypeInfo} {qq:Rows} (hu:P.underlying e=some d) (hi:P.info? e=some i) {vs:List Value} {cs:List PV} (hl:vs.length=cs.length)
  (hr:∀j,j<cs.length->RepS S M qq (vs.getD j undef) (cs.getD j .any)) {off:Nat} (hoff:off+tsz P e<=cs.length) (h1:Yo P e=false->tsz P e=1) (w:World):
  ∃v,(part e ⟨vs⟩ off).run P w= .ok v w/\RepS S M qq v (W7 (Yo P e) (tsz P e) cs off)/\ ∀k∈(W7 (Yo P e) (tsz P e) cs off).ids,k∈PV.idsL cs:=by
 unfold part W7;cases hg:Yo P e with
 |true=>
  refine⟨.agg ⟨(vs.drop off).take (tsz P e)⟩,?_,?_,?_⟩
  ·simp only[Ji,VS hu,Jb,hg,if_true,Yu hi,Jp];simp
  ·refine .agg _ _ (by simp;omega) λj hj=> ?_
   simp only[Jk,Jl]at hj;have:=hr (off+j) (by omega);rw[getD_lt (by simp;omega),getD_lt (by simp;omega)];rw[getD_lt (by omega),getD_lt (by omega)]at this;simpa using this
  ·intro k hk;simp only[if_true,PV.ids]at hk;exact Zif (λc hc=>JF (JG hc)) hk
 |false=>
  have hz:=h1 hg;have hlt:off<cs.length:=by omega
  refine⟨vs.getD off undef,?_,?_,?_⟩
  ·simp only[Ji,VS hu,Jb,hg,Jo,if_false];rw[getD_lt (by omega)];simp[hl,hlt]
  ·simpa using hr off hlt
  ·intro k hk;simp only[Jo,if_false]at hk;rw[PV.mem_idsL];exact⟨_,Ze hlt,hk⟩
theorem GO {t:TypeId} {f o sz:Nat} {ag:Bool} (h:WG P t f=some (o,sz,ag)):∃fs fd,P.underlying t=some (.struct fs)/\fs[f]? = some fd/\fd.offset=o/\tsz P fd.type=sz/\Yo P fd.type=ag/\(∃d,P.underlying fd.type=some d)/\ ∃i,P.info? fd.type=some i:=by
 unfold WG at h;cases e:P.underlying t with
 |none=>rw[e]at h;simp at h
 |some d=>
  rw[e]at h;cases d<;>simp only[reduceCtorEq]at h
  rename_i fs;cases e2:fs[f]? with
  |none=>rw[e2]at h;simp at h
  |some fd=>
   rw[e2]at h;simp only at h;cases e3:P.underlying fd.type with
   |none=>rw[e3]at h;simp at h
   |some i=>
    rw[e3]at h;simp only[Jn.injEq,Prod.mk.injEq]at h;exact⟨fs,fd,rfl,e2,h.1,h.2.1,h.2.2,⟨i,e3⟩,Xz e3⟩
theorem Zhs (hs:Sim B S M s a w) {t:TypeId} {x:Value} {p:PV} {f:Nat} (hx:RepS S M s.m.q x p) (hxi:∀i∈p.ids,ZX s.m i)
  (hok:(Gb P t p f s.m).ok):Snd P B S s a w (Qh t x f) (Gb P t p f s.m):=by
 revert hok;unfold Gb;split;rename_i o sz ag cs heq;obtain⟨fs,fd,h1,h2,rfl,rfl,rfl,⟨d,hd⟩,i,h3⟩:=GO heq;intro hok;obtain⟨vs,rfl,hl,hr⟩:=hx.agg_inv;obtain⟨v,hv,hrv,hids⟩:=Ziy hd h3 hl hr hok.1 hok.2 w;refine Snd.pure hs (v:=v) ?_ hrv (λk hk=>hxi k (by simpa[PV.ids]using hids k hk));simp[Qh,ZR h1,h2,asAgg,hv];intro hok;exact hok.elim
theorem ZaL (hs:Sim B S M s a w) {t:TypeId} {x:Value} {p:PV} {f:Nat} (hx:RepS S M s.m.q x p) (hxi:∀i∈p.ids,ZX s.m i)
  (hok:(Xp P t p f s.m).ok):Snd P B S s a w (Kf t x f) (Xp P t p f s.m):=by
 revert hok;unfold Xp;have add0:∀b o n:Nat,(⟨b,o,none⟩:Addr).add n=⟨b,o+n,none⟩:=λb o n=>by
  unfold Addr.add;split<;>simp_all
 split;rename_i o sz ag id off heq;obtain⟨fs,fd,h1,h2,rfl,rfl,rfl,⟨d,hd⟩,i,h3⟩:=GO heq;intro hok;rw[hx.ptr_inv];refine Snd.pure hs (v:= .pointer (some ⟨M.φ id,off+fd.offset,none⟩)) ?_ (.ptr _ _) hxi;simp only[Kf,Ji,ZR h1,Jb,h2,Jv,Jp,fieldPlace,Yu h3];simp only at hok;simp[hok,add0];rename_i o sz ag cs heq;obtain⟨fs,fd,h1,h2,rfl,rfl,rfl,⟨d,hd⟩,i,h3⟩:=GO heq;intro hok;obtain⟨b,o,vals,rfl,hS,hR⟩:=hx.rptr_inv;refine Snd.pure hs (v:= .pointer (some ⟨b,o+fd.offset,none⟩)) ?_ (.clean (.rptr b (o+fd.offset) _ (λj=>vals (fd.offset+j)) (λj hj=> ?_) (λj hj=> ?_))) (by simp[PV.ids]);simp only[Kf,Ji,ZR h1,Jb,h2,Jv,Jp,fieldPlace,Yu h3];simp only at hok;simp[hok,add0];simp only[Jl]at hj;rw[JW];exact hS _ (by omega);simp only[Jl]at hj;have:=hR (fd.offset+j) (by omega);rw[getD_lt (by simp;omega)];rw[getD_lt (by omega)]at this;simpa using this;rename_i o sz ag id n z i off heq;obtain⟨fs,fd,h1,h2,rfl,rfl,rfl,⟨d,hd⟩,i',h3⟩:=GO heq;intro hok;obtain⟨⟨b,o,hv⟩,hin,t2⟩:=hx.vptr_inv;refine Snd.pure hs (v:= .pointer (some ⟨b,o+fd.offset,none⟩)) ?_ (.vptr _ _ _ _ _ _ ⟨_,_,rfl⟩ hin λn1 sz1 e1 hq1=> ?_) hxi;simp only[hv,Kf,Ji,ZR h1,Jb,h2,Jv,Jp,fieldPlace,Yu h3];simp only at hok;simp[hok,add0];obtain⟨k1,k2⟩:=t2 n1 sz1 e1 hq1;refine⟨k1,λe=> ?_⟩;obtain⟨k3,k4⟩:=k2 e;rw[hv]at k4;simp only[Value.pointer.injEq,Jn.injEq,Addr.mk.injEq]at k4;exact⟨k3,by rw[k4.1,k4.2.1,JW]⟩;intro hok;exact hok.elim
end
open Go.RowKit
section
variable {P:Program} {B:Frm} {S:Stable} {M:Maps} {s:St} {a:Act} {w:World}
theorem YL (b o n:Nat):(⟨b,o,none⟩:Addr).add n=⟨b,o+n,none⟩:=by unfold Addr.add;split<;>simp_all
theorem ZaS {t:TypeId} {n esz:Nat} {ea:Bool} (h:tix P t= .arr n esz ea):∃e d i,P.underlying t=some (.array n e)/\tsz P e=esz/\Yo P e=ea/\P.underlying e=some d/\P.info? e=some i:=by
 unfold tix at h;split at h;rename_i m e heq;split at h;rename_i d hd;cases h;obtain⟨i,hi⟩:=Xz hd;exact⟨e,d,i,heq,rfl,rfl,hd,hi⟩;cases h;split at h<;>cases h
 cases h;cases h
theorem TQ {t:TypeId} {esz:Nat} {ea:Bool} (h:tix P t= .slc esz ea):∃e d i,P.underlying t=some (.slice e)/\tsz P e=esz/\Yo P e=ea/\P.underlying e=some d/\P.info? e=some i:=by
 unfold tix at h;split at h;split at h<;>cases h
 rename_i e heq;split at h;rename_i d hd;cases h;obtain⟨i,hi⟩:=Xz hd;exact⟨e,d,i,heq,rfl,rfl,hd,hi⟩;cases h;cases h;cases h
theorem ZdN {t:TypeId} (h:tix P t= .str):P.underlying t=some .string:=by
 unfold tix at h;split at h;split at h<;>cases h
 split at h<;>cases h
 assumption;cases h
theorem Zht (hs:Sim B S M s a w) {t:TypeId} {x i:Value} {p q:PV} (hx:RepS S M s.m.q x p) (hxi:∀i∈p.ids,ZX s.m i) (hi:RepS S M s.m.q i q)
  (hok:(Gc P t p q s.m).ok):Snd P B S s a w (KU t x i) (Gc P t p q s.m):=by
 revert hok;unfold Gc;split;rename_i n esz ea cs k0 k heq;obtain⟨e,d,ti,h1,rfl,rfl,h2,h3⟩:=ZaS heq;intro hok;obtain⟨g1,g2,g3,g4⟩:=hok;rw[hi.int_inv];obtain⟨vs,rfl,hl,hr⟩:=hx.agg_inv;have hb:k.toNat*tsz P e+tsz P e<=cs.length:=by rw[Jg,Jw]at g3;exact g3
 obtain⟨v,hv,hrv,hids⟩:=Ziy h2 h3 hl hr hb g4 w;refine Snd.pure hs (v:=v) ?_ hrv (λk hk=>hxi k (by simpa[PV.ids]using hids k hk));simp[KU,asIntOf,ZR h1,Yu h3,g1,g2,hv];rename_i l k0 k heq;have h1:=ZdN heq;intro hok;obtain⟨g1,g2⟩:=hok;rw[hi.int_inv,hx.str_inv];refine Snd.pure hs (v:= .int .u8 (l.getD k.toNat 0).toNat) ?_ (.clean (.int _ _)) (by simp[PV.ids]);have hlt:k.toNat<l.length:=by omega
 simp only[KU,asIntOf,Ji,Jp,Jb,ZR h1,g1,if_true];have:(⟨⟨l⟩⟩:ByteArray)[k.toNat]? = some (l.getD k.toNat 0):=by
  rw[getD_lt hlt];have hsz:k.toNat<(⟨⟨l⟩⟩:ByteArray).size:=by simpa[ByteArray.size]using hlt
  rw[getElem?_pos (⟨⟨l⟩⟩:ByteArray) k.toNat hsz];rfl
 rw[this];simp;intro hok;exact hok.elim
theorem ZaM (hs:Sim B S M s a w) {t:TypeId} {x i:Value} {p q:PV} (hx:RepS S M s.m.q x p) (hxi:∀i∈p.ids,ZX s.m i) (hi:RepS S M s.m.q i q)
  (hok:(Xq P t p q s.m).ok):Snd P B S s a w (JP t x i) (Xq P t p q s.m):=by
 revert hok;unfold Xq;split;rename_i esz ea tk es k0 k heq;obtain⟨e,d,ti,h1,rfl,rfl,h2,h3⟩:=TQ heq;rintro ⟨g1,g2,g3⟩;have hlt:k.toNat<es.length:=by omega
 rw[hi.int_inv];obtain⟨b,o,cap,vals,rfl,hcap,hu,hS,hR⟩:=hx.sl_inv.sl_at hlt;rw[g3]at hS hR hu;refine Snd.pure hs (v:= .pointer (some ⟨b,o+k.toNat*tsz P e,none⟩)) ?_ (.clean (.rptr b _ _ (λj=>vals k.toNat j) (λj hj=> ?_) (λj hj=> ?_))) (by simp[PV.ids]);simp[JP,asIntOf,ZR h1,Yu h3,g1,g2,YL];exact hS _ _ hlt (by omega);exact hR _ _ hlt (by omega);rename_i esz ea id off len sz k0 k heq;obtain⟨e,d,ti,h1,rfl,rfl,h2,h3⟩:=TQ heq;rintro ⟨g1,g2,g3⟩;rw[hi.int_inv];obtain⟨cap,hc,rfl⟩:=hx.osl_inv;refine Snd.pure hs (v:= .pointer (some ⟨M.φ id,off+k.toNat*sz,none⟩)) ?_ (.ptr _ _) (by simpa[PV.ids]using hxi);simp[JP,asIntOf,ZR h1,Yu h3,g1,g2,YL,g3];rename_i n esz ea id off k0 k heq;obtain⟨e,d,ti,h1,rfl,rfl,h2,h3⟩:=ZaS heq;rintro ⟨g1,g2⟩;rw[hi.int_inv,hx.ptr_inv];refine Snd.pure hs (v:= .pointer (some ⟨M.φ id,off+k.toNat*tsz P e,none⟩)) ?_ (.ptr _ _) (by simpa[PV.ids]using hxi);simp[JP,asIntOf,ZR h1,Yu h3,g1,g2,YL,Jv];rename_i n esz ea cs k0 k heq;obtain⟨e,d,ti,h1,rfl,rfl,h2,h3⟩:=ZaS heq;rintro ⟨g1,g2⟩;obtain⟨b,o,vals,rfl,hS,hR⟩:=hx.rptr_inv;rw[hi.int_inv];refine Snd.pure hs (v:= .pointer (some ⟨b,o+k.toNat*tsz P e,none⟩)) ?_ (.clean (.rptr b _ _ (λj=>vals (k.toNat*tsz P e+j)) (λj hj=> ?_) (λj hj=> ?_))) (by simp[PV.ids]);simp[JP,asIntOf,ZR h1,Yu h3,g1,g2,YL,Jv];simp only[Jl]at hj;rw[JW];exact hS _ (by omega);simp only[Jl]at hj;have:=hR (k.toNat*tsz P e+j) (by omega);rw[getD_lt (by simp;omega)];rw[getD_lt (by omega)]at this;simpa using this;rename_i esz ea id n sz k0 k heq;obtain⟨e,d,ti,h1,rfl,rfl,h2,h3⟩:=TQ heq;rintro ⟨g1,g2,g4⟩;rw[hi.int_inv];obtain⟨⟨av,cap,hv,_,ha⟩,t2⟩:=hx.vsl_inv;obtain⟨b,o,rfl⟩:=ha (by omega);refine Snd.pure hs (v:= .pointer (some ⟨b,o+k.toNat*sz,none⟩)) ?_ (.vptr _ _ _ _ _ _ ⟨_,_,rfl⟩ (by omega) λn1 sz1 e1 hq1=> ?_) (by simpa[PV.ids]using hxi);simp[hv,JP,asIntOf,ZR h1,Yu h3,g1,g2,YL,g4];obtain⟨k1,k2⟩:=t2 n1 sz1 e1 hq1;refine⟨k1,λe=> ?_⟩;obtain⟨k3,k4,k5⟩:=k2 e;refine⟨k3,?_⟩;obtain⟨r3,_⟩:=hs.row id _ hq1;cases hκ:M.κ id with
 |zero=>have:=r3 hκ;omega
 |succ c=>
  have hv':=k5 c hκ;rw[hv]at hv';simp only[Value.slice.injEq,Jn.injEq,Addr.mk.injEq]at hv';obtain⟨⟨rfl,rfl,_⟩,_⟩:=hv';simp
 rename_i n esz ea id n' z i' off k0 k heq;obtain⟨e,d,ti,h1,rfl,rfl,h2,h3⟩:=ZaS heq;rintro ⟨g1,g2⟩;obtain⟨⟨b,o,hv⟩,hin,t2⟩:=hx.vptr_inv;rw[hi.int_inv];refine Snd.pure hs (v:= .pointer (some ⟨b,o+k.toNat*tsz P e,none⟩)) ?_ (.vptr _ _ _ _ _ _ ⟨_,_,rfl⟩ hin λn1 sz1 e1 hq1=> ?_) (by simpa[PV.ids]using hxi);simp[hv,JP,asIntOf,ZR h1,Yu h3,g1,g2,YL,Jv];obtain⟨k1,k2⟩:=t2 n1 sz1 e1 hq1;refine⟨k1,λe=> ?_⟩;obtain⟨k3,k4⟩:=k2 e;rw[hv]at k4;simp only[Value.pointer.injEq,Jn.injEq,Addr.mk.injEq]at k4;exact⟨k3,by rw[k4.1,k4.2.1,JW]⟩;intro hok;exact hok.elim
theorem SW {t:TypeId} {d:TypeDesc} {i:TypeInfo} (hu:P.underlying t=some d) (hi:P.info? t=some i) {b o:Nat} {vals:Nat->Value} {qq:Rows} {M:Maps} {cs:List PV} {off:Nat}
  (hc:∀j,j<cs.length->w.cell? ⟨b,o+j,none⟩=some (vals j)) (hr:∀j,j<cs.length->RepS S M qq (vals j) (cs.getD j .any))
  (hoff:off+tsz P t<=cs.length) (h1:Yo P t=false->tsz P t=1):
  ∃v,(loadVar t ⟨b,o+off,none⟩).run P w= .ok v w/\RepS S M qq v (W7 (Yo P t) (tsz P t) cs off)/\ ∀k∈(W7 (Yo P t) (tsz P t) cs off).ids,k∈PV.idsL cs:=by
 unfold loadVar W7;cases hg:Yo P t with
 |true=>
  have hl:=run_loadCells (P:=P) (w:=w) (⟨b,o+off,none⟩:Addr) (tsz P t) (λj=>vals (off+j)) (λj hj=>by
   rw[YL,JW];exact hc _ (by omega))
  refine⟨.agg ⟨(JY (tsz P t)).map λj=>vals (off+j)⟩,?_,?_,?_⟩
  ·simp only[Ji,VS hu,Jb,hg,if_true,Yu hi,hl,Jp]
  ·refine .agg _ _ (by simp;omega) λj hj=> ?_
   simp only[Jk,Jl]at hj;have:=hr (off+j) (by omega);rw[getD_lt (by simp;omega),getD_lt (by simp;omega)];rw[getD_lt (by omega)]at this;simpa using this
  ·intro k hk;simp only[if_true,PV.ids]at hk;exact Zif (λc hc=>JF (JG hc)) hk
 |false=>
  have hz:=h1 hg;refine⟨vals off,?_,?_,?_⟩
  ·simp only[Ji,VS hu,Jb,hg,Jo,if_false];simp[load,Kz,hc off (by omega)]
  ·simpa using hr off (by omega)
  ·intro k hk;simp only[Jo,if_false]at hk;rw[PV.mem_idsL];exact⟨_,Ze (by omega),hk⟩
theorem Rep.clean_ids {S:Stable} {v:Value} {p:PV} (r:Rep S v p):∀k,k∉p.ids:=by
 induction r with
 |agg vs cs hl _ ih=>intro k hk;obtain⟨c,hc,hkc⟩:=PV.mem_idsL.1 (by simpa[PV.ids]using hk);obtain⟨j,hj,rfl⟩:=Jr hc;have:=ih j hj k;rw[getD_lt hj]at this;exact this hkc
 |tup vs cs hl _ ih=>intro k hk;obtain⟨c,hc,hkc⟩:=PV.mem_idsL.1 (by simpa[PV.ids]using hk);obtain⟨j,hj,rfl⟩:=Jr hc;have:=ih j hj k;rw[getD_lt hj]at this;exact this hkc
 |fn f vs cs hl _ ih=>intro k hk;obtain⟨c,hc,hkc⟩:=PV.mem_idsL.1 (by simpa[PV.ids]using hk);obtain⟨j,hj,rfl⟩:=Jr hc;have:=ih j hj k;rw[getD_lt hj]at this;exact this hkc
 |_=>intro k hk;simp[PV.ids]at hk
theorem Zin (hs:Sim B S M s a w) {t:TypeId} {x:Value} {p:PV} (hx:RepS S M s.m.q x p) (hu:P.underlying t≠none)
  (hok:(Un P t p s.m).ok):∃v,(J2 t x).run P w= .ok v w/\RepS S M s.m.q v (Un P t p s.m).v/\(∀i∈(Un P t p s.m).v.ids,ZX s.m i)/\(Un P t p s.m).m=s.m:=by
 obtain⟨d,hd⟩:∃d,P.underlying t=some d:=by cases e:P.underlying t with|none=>exact absurd e hu|some d=>exact⟨d,rfl⟩
 obtain⟨i,hi⟩:=Xz hd;have own:∀ {id off:Nat} {cs:List PV},p= .ptr id off->s.m.h id=some cs->off+tsz P t<=cs.length->(Yo P t=false->tsz P t=1)->
   ∃v,(J2 t x).run P w= .ok v w/\RepS S M s.m.q v (W7 (Yo P t) (tsz P t) cs off)/\(∀i∈(W7 (Yo P t) (tsz P t) cs off).ids,ZX s.m i)/\s.m=s.m:=by
  intro id off cs hp hid g1 g2;subst hp;rw[hx.ptr_inv];have hh:∃vals:Nat->Value,(∀j,j<cs.length->w.cell? ⟨M.φ id,0+j,none⟩=some (vals j))/\(∀j,j<cs.length->RepS S M s.m.q (vals j) (cs.getD j .any))/\(∀k∈PV.idsL cs,ZX s.m k):=by
   have hb:=hs.blk id _ hid;cases hz:s.m.z id with
   |false=>
    rw[hz]at hb;obtain⟨_,_,⟨vs,ty,h3,h4,h5⟩,h6⟩:=hb;refine⟨λj=>vs.getD j undef,λj hj=> ?_,h5,λk hk=> ?_⟩
    ·rw[JA,XH h3,Je (by omega)];show some _=some (vs.getD j undef);rw[getD_lt (by omega)]
    ·obtain⟨c,hc,hkc⟩:=PV.mem_idsL.1 hk;exact h6 c hc k hkc
   |true=>
    rw[hz]at hb;obtain⟨vals,hv⟩:=hb;refine⟨vals,λj hj=>by rw[JA];exact hs.stable _ _ _ (hv j hj).1,λj hj=> .clean (hv j hj).2,λk hk=> ?_⟩;obtain⟨c,hc,hkc⟩:=PV.mem_idsL.1 hk;obtain⟨j,hj,rfl⟩:=Jr hc;have:=(hv j hj).2;rw[getD_lt hj]at this;exact absurd hkc (this.clean_ids k)
  obtain⟨vals,hc,hr,hk⟩:=hh;obtain⟨v,hv,hrv,hids⟩:=SW hd hi hc hr g1 g2;rw[JA]at hv;refine⟨v,?_,hrv,λk hk'=>hk k (hids k hk'),rfl⟩;simp[J2,Jv,hv]
 revert hok;unfold Un;split;rename_i cs;rintro ⟨g1,g2⟩;obtain⟨b,o,vals,rfl,hS,hR⟩:=hx.rptr_inv;obtain⟨v,hv,hrv,hids⟩:=SW (qq:=s.m.q) (M:=M) (off:=0) hd hi (λj hj=>hs.stable _ _ _ (hS j hj)) (λj hj=> .clean (hR j hj)) (by omega) g2;refine⟨v,?_,hrv,λk hk=> ?_,rfl⟩;rw[JR]at hv;simp[J2,Jv,hv];have:=hids k hk;obtain⟨c,hc,hkc⟩:=PV.mem_idsL.1 this;obtain⟨j,hj,rfl⟩:=Jr hc;have hr:=hR j hj;rw[getD_lt hj]at hr;exact absurd hkc (hr.clean_ids k);split;rename_i id off cs heq;exact λhok=>own rfl heq hok.1 hok.2
 exact λhok=>hok.elim
 rename_i id n z i' off;split;rename_i es hq;rintro ⟨g1,g2,g3⟩;obtain⟨sz,e,q1,r1,r2,r4⟩:=hs.vc id es hq;obtain⟨_,hin,t2⟩:=hx.vptr_inv;obtain⟨_,t3⟩:=t2 _ sz e q1;obtain⟨rfl,t4⟩:=t3 g1.symm;rw[t4];obtain⟨o1,o2⟩:=hs.row id _ q1;have hil:i'<es.length:=by omega
 have hlen:=(r1 _ (Ze (d:= .any) hil)).1;cases hκ:M.κ id with
 |zero=>have:=o1 hκ;omega
 |succ c=>
  obtain⟨k1,k2,k3,⟨vs,k5,k6⟩,k4⟩:=o2 c hκ;have k7:=r4 c hκ vs e (0,0) k5;have hb:i'*sz+sz<=vs.length:=by
   rw[k6]
   calc i'*sz+sz=(i'+1)*sz:=by rw[Jg,Jw]
    _<=c*sz:=Ja _ (by omega)
  obtain⟨v,hv,hrv,hids⟩:=SW (w:=w) (b:=M.ψ id) (o:=i'*sz) (vals:=λj=>vs.getD (i'*sz+j) undef) (qq:=s.m.q) (M:=M) (cs:=(es.getD i' .any).cells) (off:=off) hd hi
   (λj hj=>by
    rw[hlen]at hj;rw[XH k5,Je (by omega)];show _=some (vs.getD _ undef);rw[getD_lt (by omega)]) (λj hj=>k7 i' j hil (by rw[<-hlen];exact hj)) g2 g3
  refine⟨v,by simp[J2,Jv,hv],hrv,λk hk=> ?_,rfl⟩;obtain⟨x,hx',hkx⟩:=PV.mem_idsL.1 (hids k hk);refine r2 (es.getD i' .any) (Ze hil) k ?_
  revert hx'
  cases es.getD i' .any with
  |agg cs=>intro hx';exact PV.mem_idsL.2 ⟨_,hx',hkx⟩
  |_=>intro hx';rw[Jy.1 hx']at hkx;exact hkx
 exact λhok=>hok.elim
 exact λhok=>hok.elim
theorem Zki (hs:Sim B S M s a w) {t:TypeId} {x:Value} {p:PV} (hx:RepS S M s.m.q x p) (hu:P.underlying t≠none)
  (hok:(Un P t p s.m).ok):Snd P B S s a w (J2 t x) (Un P t p s.m):=by
 obtain⟨v,h1,h2,h3,h4⟩:=Zin hs hx hu hok;exact⟨v,w,S,M,h1,by rw[h4];exact hs,by rw[h4];exact h2,by rw[h4];exact h3,Ext.refl _ _ _⟩
end
open Go.RowKit
section
variable {P:Program} {B:Frm} {S:Stable} {M:Maps} {s:St} {a:Act} {w:World}
theorem Vz {w:World} {g:Nat} {c c':Array Value} {t:TypeId} (h:w.heap[g]? = some (.cells c t (0,0))):(w.setRow g c').heap[g]? = some (.cells c' t (0,0)):=by
 simp[KG,Kr,h]
theorem VA {w:World} {g k:Nat} {c':Array Value} (h:k≠g):(w.setRow g c').heap[k]? = w.heap[k]? :=by
 simp[KG,Kr,Jt h]
theorem VT (w:World) (g:Nat) (c':Array Value):(w.setRow g c').heap.size=w.heap.size:=by simp[KG]
theorem V2 {B:Frm} {w:World} {g:Nat} {c':Array Value} (h:¬B g):BelowF B w (w.setRow g c'):=
 ⟨rfl,rfl,rfl,by rw[VT];exact Jj _,λk hk=>VA (λe=>h (e▸hk))⟩
theorem Stab.setRow {o:Nat->Option MapC} {it:Nat->Option IterC} (hs:Stab B S w o it) {g:Nat} {vs:Array Value} {t:TypeId} {f:Nat×Nat} (h:w.heap[g]? = some (.cells vs t f)) (hS:∀o,S g o=none) {c':Array Value}:Stab B S (w.setRow g c') o it:=by
 have hold:∀k,k≠g->(w.setRow g c').heap[k]? = w.heap[k]? :=λk hk=>VA hk
 refine hs.move (SLe.refl _) (λb c hc=>(hs.o b c hc).2.1) ⟨λb o v hv=> ?_,λb es he=> ?_,λb hb=>by
  obtain⟨vs1,t1,e⟩:=hs.s.y b hb;by_cases e':b=g;subst e';exact⟨c',t1,Vz (c':=c') e⟩;exact⟨vs1,t1,by rw[hold b e'];exact e⟩⟩ (λb c hc=>hold b (λe=> ?_)) (λb x hx=>hold b (λe=> ?_))
 have hb:b≠g:=λe=>by subst e;rw[hS o]at hv;cases hv
 rw[<-hs.s.c b o v hv];exact JQ (hold b hb);have h':=hs.s.m b es he;rw[hold b (λe=>by subst e;rw[h]at h';cases h')];exact h';subst e;obtain⟨es,h',_⟩:=(hs.o _ c hc).2.2;rw[h]at h';cases h';subst e;have h':=(hs.i _ x hx).2.1;unfold IterAt at h';rw[h]at h';cases h'
theorem Sim.setRow (hs:Sim B S M s a w) {id:Nat} {cs cs':List PV} (hid:s.m.h id=some cs) (hz:s.m.z id=false) {vs':List Value} (hl:vs'.length=cs'.length)
  (hr:∀j,j<cs'.length->RepS S M s.m.q (vs'.getD j undef) (cs'.getD j .any)) (hi:∀c∈cs',∀i∈c.ids,ZX s.m i):
  Sim B S M (s.with { s.m with h:=upd s.m.h id (some cs') }) a (w.setRow (M.φ id) ⟨vs'⟩)/\Ext B S S w (w.setRow (M.φ id) ⟨vs'⟩):=by
 obtain⟨h1,h2,⟨vs,t,h3,h4,h5⟩,h6⟩:=hs.own hid hz;have hlt:M.φ id<w.heap.size:=(Jh.1 h3).1;have hnew:=Vz (c':=⟨vs'⟩) h3;have hold:∀k,k≠M.φ id->(w.setRow (M.φ id) ⟨vs'⟩).heap[k]? = w.heap[k]? :=λk hk=>VA hk
 have hsz:=VT w (M.φ id) ⟨vs'⟩;have some_ne:∀i,ZX s.m i->ZX { s.m with h:=upd s.m.h id (some cs') } i:=λi h=>by
  cases i with
  |b i=>
   show upd _ _ _ _≠none;by_cases e:i=id;subst e;rw[Za];simp;rw[Zk _ _ (Jt e)];exact h
  |r i=>exact h
 have back:∀ {i ds},upd s.m.h id (some cs') i=some ds-> ∃c,s.m.h i=some c:=λ{i b} hb=>by
  by_cases e:i=id;subst e;exact⟨_,hid⟩;rw[Zk _ _ (Jt e)]at hb;exact⟨b,hb⟩
 refine⟨⟨hs.defers,hs.hn,by rw[hsz];exact hs.hB,hs.stable.setRow h3 h2,hs.fr,λi k hk=>some_ne k (hs.ids i k hk),λi b hb=> ?_,λi r hr=> ?_,?_,hs.injq,?_,λb c hc=> ?_,λi es he=> ?_,hs.pn.move rfl rfl some_ne (λ_ _=>rfl) λi _=> .refl _ _ _,hs.hz⟩,SLe.refl _,λ_ _=>⟨λ_=>rfl,rfl⟩,V2 h1⟩;simp only[St.with]at hb ⊢;by_cases e:i=id;subst e;rw[Za]at hb;cases hb;rw[hz];exact⟨h1,h2,⟨vs',t,hnew,hl,hr⟩,λc hc k hk=>some_ne k (hi c hc k hk)⟩;rw[Zk _ _ (Jt e)]at hb;have hb':=hs.blk i b hb;cases hzi:s.m.z i with
 |false=>
  rw[hzi]at hb';obtain⟨g1,g2,⟨us,t',g3,g4,g5⟩,g6⟩:=hb';have hne:=hs.inj i id _ _ hb hid hzi hz e;exact⟨g1,g2,⟨us,t',by rw[hold _ hne];exact g3,g4,g5⟩,λc hc k hk=>some_ne k (g6 c hc k hk)⟩
 |true=>rw[hzi]at hb';exact hb'
 have hr':=hs.row i r hr;cases r with
 |live n sz et=>
  obtain⟨g1,g2⟩:=hr';refine⟨g1,λc hk=> ?_⟩;obtain⟨k0,k0',k1,⟨us,k2,k3⟩,k4⟩:=g2 c hk;have hne:=hs.injx id i _ _ hid hz hr rfl (by omega);exact⟨k0,k0',k1,⟨us,by rw[hold _ (Jt hne)];exact k2,k3⟩,k4⟩
 |vec n sz et=>
  obtain⟨g1,g2⟩:=hr';refine⟨g1,λc hk=> ?_⟩;obtain⟨k0,k0',k1,⟨us,k2,k3⟩,k4⟩:=g2 c hk;have hne:=hs.injx id i _ _ hid hz hr rfl (by omega);exact⟨k0,k0',k1,⟨us,by rw[hold _ (Jt hne)];exact k2,k3⟩,k4⟩
 |dead=>trivial
 intro i k b b' hbi hbk zi zk hik;obtain⟨c,hc⟩:=back hbi;obtain⟨c',hc'⟩:=back hbk;exact hs.inj i k c c' hc hc' zi zk hik;intro i k b r hbi zi hq ho hk;obtain⟨c,hc⟩:=back hbi;exact hs.injx i k c r hc zi hq ho hk;obtain⟨g1,g2,g3,g4⟩:=hs.rm b c hc;refine⟨g1,g2,g3,g4.move (SLe.refl _) (hold b λe=> ?_) (λv p r _=>r) some_ne⟩;obtain⟨⟨es,k1,_⟩,_⟩:=g4;subst e;rw[h3]at k1;cases k1;obtain⟨sz,e,q1⟩:=hs.vec_q he;exact(hs.vc i es he).move (λ_ _ _ h=>h) rfl rfl (λhk=>hold _ (Jt (hs.injx id i _ _ hid hz q1 rfl hk))) (λv p r _=>r) some_ne
theorem YB {p c:PV} (hc:c∈p.cells) {k:Ref} (hk:k∈c.ids):k∈p.ids:=by
 cases p with
 |agg cs=>exact PV.mem_idsL.2 ⟨c,hc,hk⟩
 |_=>have e:=Jy.1 hc;rw[e]at hk;exact hk
theorem XP {m:Hp} {d:Nat} {r:Row} (i:Ref) (h:ZX m i):ZX (m.setq d r) i:=by
 cases i with
 |b i=>exact h
 |r i=>
  show upd _ _ _ _≠none;by_cases ei:d=i;subst ei;rw[Za];simp;rw[Zk _ _ ei];exact h
theorem Sim.setVec (hs:Sim B S M s a w) {id c sz:Nat} {es es':List PV} {e:TypeId} (hid:s.m.v id=some es) (hq:s.m.q id=some (.vec es.length sz e)) (hκ:M.κ id=c+1) (hn:es'.length=es.length) {vs':List Value} (hl:vs'.length=c*sz)
  (h1:∀p∈es',p.cells.length=sz/\p.cells.all PV.atom=true) (hi:∀p∈es',∀i∈p.ids,ZX s.m i)
  (hr:∀i j,i<es'.length->j<sz->RepS S M s.m.q (vs'.getD (i*sz+j) undef) ((es'.getD i .any).cells.getD j .any)):
  Sim B S M (s.with { s.m with v:=upd s.m.v id (some es') }) a (w.setRow (M.ψ id) ⟨vs'⟩)/\Ext B S S w (w.setRow (M.ψ id) ⟨vs'⟩):=by
 obtain⟨r3,r4⟩:=hs.row id _ hq;obtain⟨k1,k2,k3,⟨vs,k5,k6⟩,k4⟩:=r4 c hκ;have hnew:=Vz (c':=⟨vs'⟩) k5;have hold:∀k,k≠M.ψ id->(w.setRow (M.ψ id) ⟨vs'⟩).heap[k]? = w.heap[k]? :=λk hk=>VA hk
 have hsz:=VT w (M.ψ id) ⟨vs'⟩;have live:∀i,ZX s.m i->ZX { s.m with v:=upd s.m.v id (some es') } i:=λi h=>by cases i<;>exact h
 refine⟨⟨hs.defers,hs.hn,by rw[hsz];exact hs.hB,hs.stable.setRow k5 k4,hs.fr,λi k hk=>live k (hs.ids i k hk),λi b hb=> ?_,λi r hri=> ?_,hs.inj,hs.injq,hs.injx,λb d hd=> ?_,λi es1 he=> ?_,⟨hs.pn.h,hs.pn.q⟩,hs.hz⟩,SLe.refl _,λ_ _=>⟨λ_=>rfl,rfl⟩,V2 k3⟩;have hb':=hs.blk i b hb;show GX _ _ _ _ _ _ _ (s.m.z i);cases hz:s.m.z i with
 |true=>rw[hz]at hb';exact hb'
 |false=>
  rw[hz]at hb';obtain⟨g1,g2,⟨us,t',g3,g4,g5⟩,g6⟩:=hb';exact⟨g1,g2,⟨us,t',by rw[hold _ (hs.injx i id _ _ hb hz hq rfl (by omega))];exact g3,g4,g5⟩,λc hc k hk=>live k (g6 c hc k hk)⟩
 have hri:s.m.q i=some r:=hri;have hr':=hs.row i r hri;cases r with
 |live n sz1 e1=>
  obtain⟨g1,g2⟩:=hr';refine⟨g1,λc' hc'=> ?_⟩;obtain⟨p1,p2,p3,⟨us,p4,p5⟩,p6⟩:=g2 c' hc';have hne:M.ψ i≠M.ψ id:=hs.injq i id _ _ hri hq rfl rfl (by omega) (by omega) (λe=>by subst e;have h:=hq.symm.trans hri;cases h);exact⟨p1,p2,p3,⟨us,by rw[hold _ hne];exact p4,p5⟩,p6⟩
 |vec n sz1 e1=>
  obtain⟨g1,g2⟩:=hr';refine⟨g1,λc' hc'=> ?_⟩;obtain⟨p1,p2,p3,⟨us,p4,p5⟩,p6⟩:=g2 c' hc'
  by_cases ei:i=id
  ·subst ei;have hri:=hq.symm.trans hri;cases hri;have:c'=c:=by omega
   subst this;exact⟨p1,p2,p3,⟨vs',hnew,hl⟩,p6⟩
  ·exact⟨p1,p2,p3,⟨us,by rw[hold _ (hs.injq i id _ _ hri hq rfl rfl (by omega) (by omega) ei)];exact p4,p5⟩,p6⟩
 |dead=>trivial
 obtain⟨g1,g2,g3,g4⟩:=hs.rm b d hd;refine⟨g1,g2,g3,g4.move (SLe.refl _) (hold b λee=> ?_) (λv p r _=>r) live⟩;obtain⟨⟨es,k1,_⟩,_⟩:=g4;subst ee;rw[k5]at k1;cases k1;by_cases ei:i=id;subst ei;simp only[St.with,Za,Jn.injEq]at he;subst he;refine⟨sz,e,by rw[hn];exact hq,h1,λp hp k hk=>live k (hi p hp k hk),λc' hc' us t f hus i' j hi' hj=> ?_⟩;rw[hnew]at hus;cases hus;exact hr i' j hi' hj;simp only[St.with,Zk _ _ (Jt ei)]at he;obtain⟨sz1,e1,q1⟩:=hs.vec_q he;exact(hs.vc i es1 he).move (λ_ _ _ h=>h) rfl rfl (λhk=>hold _ (hs.injq i id _ _ q1 hq rfl rfl hk (by omega) ei)) (λv p r _=>r) live
theorem Zg {α:Type} {l l':List α} {i:Nat} {d:α} (h:i<l.length):(l++l').getD i d=l.getD i d:=by
 rw[getD_lt (by simp;omega),getD_lt h,List.getElem_append_left h]
theorem Zj {α:Type} {l l':List α} {i:Nat} {d:α} (h:l.length<=i):(l++l').getD i d=l'.getD (i-l.length) d:=by
 by_cases hi:i<(l++l').length;rw[getD_lt hi,List.getElem_append_right h,getD_lt];rw[VJ (by omega),VJ (by simp at hi;omega)]
theorem Xx {α:Type} {l:List α} {n i:Nat} {d:α} (h:i<n):(l.take n).getD i d=l.getD i d:=by
 by_cases hi:i<l.length;rw[getD_lt (by simp;omega),getD_lt hi];simp;rw[VJ (by simp;omega),VJ (by omega)]
theorem XM {α:Type} {l:List α} {n i:Nat} {d:α}:(l.drop n).getD i d=l.getD (n+i) d:=by
 by_cases hi:n+i<l.length;rw[getD_lt (by simp;omega),getD_lt hi];simp;rw[VJ (by simp;omega),VJ (by omega)]
theorem WU {α:Type} {l n:List α} {off j:Nat} {d:α} (h:off+n.length<=l.length):
  (l.take off++n++l.drop (off+n.length)).getD j d=if j<off then l.getD j d else if j<off+n.length then n.getD (j-off) d else l.getD j d:=by
 have e1:(l.take off).length=off:=by simp;omega
 split;rw[Zg (by simp;omega),Zg (by omega),Xx (by assumption)];split;rw[Zg (by simp;omega),Zj (by omega),e1];rw[Zj (by simp;omega),XM];congr 1;simp;omega
def Zuo (P:Program) (B:Frm) (S:Stable) (s:St) (a:Act) (w:World) (m:Sem Unit) (r:ARes):Prop:=
 ∃w' S' M',m.run P w= .ok () w'/\Sim B S' M' (s.with r.m) a w'/\r.v= .tup []/\Ext B S S' w w'
theorem Zhv (hs:Sim B S M s a w) {t:TypeId} {x y:Value} {p q:PV} (hx:RepS S M s.m.q x p) (hy:RepS S M s.m.q y q) (hyi:∀i∈q.ids,ZX s.m i) (hu:P.underlying t≠none)
  (hok:(W0 P t p q s.m).ok):Zuo P B S s a w (KC t x y) (W0 P t p q s.m):=by
 obtain⟨d,hd⟩:∃d,P.underlying t=some d:=by cases e:P.underlying t with|none=>exact absurd e hu|some d=>exact⟨d,rfl⟩
 obtain⟨i,hi⟩:=Xz hd;revert hok;unfold W0;split;rename_i id off;split;rename_i cs heq;rintro ⟨gz,g1,g2,g3,g4⟩;rw[hx.ptr_inv];obtain⟨ys,hyc,hyl,hyr⟩:=hy.cells_inv g1;obtain⟨h1,h2,⟨vs,ty,h3,h4,h5⟩,h6⟩:=hs.own heq gz;have one:∀v∈ys,v.oneCell'=true:=λv hv=>by
  obtain⟨j,hj,rfl⟩:=Jr hv;have hr:=hyr j (by omega);rw[getD_lt hj,getD_lt (by omega)]at hr;exact hr.atom_inv (JS.1 g4 _ (JH _))
 have hrun:=run_storeCells_at (P:=P) (M.φ id) off ty ys 0 ⟨vs⟩ w h3 (by simp;omega) one;have hyids:∀c∈q.cells,∀i∈c.ids,ZX s.m i:=λc hc k hk=>hyi k (YB hc hk)
 have hlen:ys.length=tsz P t:=by omega
 obtain⟨hsim,hext⟩:=hs.setRow heq gz (cs':=YT cs off q.cells) (vs':=vs.take off++ys++vs.drop (off+ys.length))
  (by simp[YT,h4,hyl])
  (λj hj=>by
   have hjl:j<cs.length:=by simp[YT]at hj;omega
   unfold YT;rw[WU (by omega),WU (by omega),hyl];split
   ·exact h5 j hjl
   ·split
    ·exact hyr _ (by omega)
    ·exact h5 j hjl)
  (λc hc k hk=>by
   simp only[YT,JL]at hc;rcases hc with (hc|hc)|hc
   ·exact h6 c (JG hc) k hk
   ·exact hyids c hc k hk
   ·exact h6 c (JF hc) k hk)
 refine⟨_,S,M,?_,hsim,rfl,hext⟩;simp only[KC,Jv,Ji,Jp,Jb,storeVar,Yu hi,hyc];simp only[J3,hlen,ne_eq,not_true_eq_false,if_false];simpa[hlen]using hrun;exact λhok=>hok.elim
 rename_i id n z i' off;split;rename_i es hq;rintro ⟨gn,g1,g2,g3,g4⟩;obtain⟨sz,e,q1,r1,r2,r4⟩:=hs.vc id es hq;obtain⟨_,hin,t2⟩:=hx.vptr_inv;obtain⟨_,t3⟩:=t2 _ sz e q1;obtain⟨rfl,t4⟩:=t3 gn.symm;rw[t4];obtain⟨ys,hyc,hyl,hyr⟩:=hy.cells_inv g1;obtain⟨o1,o2⟩:=hs.row id _ q1;have hil:i'<es.length:=by omega
 have hxl:=(r1 _ (Ze (d:= .any) hil)).1;cases hκ:M.κ id with
 |zero=>have:=o1 hκ;omega
 |succ c=>
  obtain⟨k1,k2,k3,⟨vs,k5,k6⟩,k4⟩:=o2 c hκ;have k7:=r4 c hκ vs e (0,0) k5;have hb:i'*sz+sz<=vs.length:=by
   rw[k6]
   calc i'*sz+sz=(i'+1)*sz:=by rw[Jg,Jw]
    _<=c*sz:=Ja _ (by omega)
  have one:∀v∈ys,v.oneCell'=true:=λv hv=>by
   obtain⟨j,hj,rfl⟩:=Jr hv;have hr:=hyr j (by omega);rw[getD_lt hj,getD_lt (by omega)]at hr;exact hr.atom_inv (JS.1 g4 _ (JH _))
  have hlen:ys.length=tsz P t:=by omega
  have hrun:=run_storeCells_at (P:=P) (M.ψ id) (i'*sz+off) e ys 0 ⟨vs⟩ w k5 (by simp;omega) one;have pc:(Zax (es.getD i' .any) off q).cells=YT (es.getD i' .any).cells off q.cells:=by
   unfold Zax;split
   ·rename_i hc;obtain⟨rfl,hc⟩:=hc;simp[YT,hc]
   ·rfl
  have pcl:(YT (es.getD i' .any).cells off q.cells).length=sz:=by unfold YT;rw[Jf,Jf,Jk,Jl];omega
  have setD:∀k,k<es.length->(es.set i' (Zax (es.getD i' .any) off q)).getD k .any=if i'=k then Zax (es.getD i' .any) off q else es.getD k .any:=λk hk=>by
   rw[getD_lt (by simpa using hk),List.getElem_set];split
   ·rfl
   ·rw[getD_lt hk]
  have idx:∀ {i j k l:Nat},j<sz->l<sz->i*sz+j=k*sz+l->i=k/\j=l:=λ{i j k l} hj hl h=>by
   rcases Nat.lt_trichotomy i k with h1|h1|h1
   ·have:(i+1)*sz<=k*sz:=Ja _ h1;rw[Jg,Jw]at this;omega
   ·subst h1;exact⟨rfl,by omega⟩
   ·have:(k+1)*sz<=i*sz:=Ja _ h1;rw[Jg,Jw]at this;omega
  obtain⟨hsim,hext⟩:=hs.setVec (es':=es.set i' (Zax (es.getD i' .any) off q)) hq q1 hκ (by simp) (vs':=vs.take (i'*sz+off)++ys++vs.drop (i'*sz+off+ys.length)) (by simp;omega)
   (λp hp=>by
    rcases Kc hp with hp|rfl
    ·exact r1 p hp
    ·rw[pc];refine⟨pcl,?_⟩;have hx2:=(r1 _ (Ze (d:= .any) hil)).2;rw[JS]at hx2 g4 ⊢;intro x hx;simp only[YT,JL]at hx;rcases hx with (hx|hx)|hx
     ·exact hx2 x (JG hx)
     ·exact g4 x hx
     ·exact hx2 x (JF hx))
   (λp hp k hk=>by
    rcases Kc hp with hp|rfl
    ·exact r2 p hp k hk
    ·unfold Zax at hk;split at hk
     ·exact hyi k hk
     ·obtain⟨x,hx,hkx⟩:=PV.mem_idsL.1 (by simpa[PV.ids]using hk);simp only[YT,JL]at hx;rcases hx with (hx|hx)|hx
      ·exact r2 (es.getD i' .any) (Ze hil) k (YB (JG hx) hkx)
      ·exact hyi k (YB hx hkx)
      ·exact r2 (es.getD i' .any) (Ze hil) k (YB (JF hx) hkx))
   (λi j hi hj=>by
    simp only[KZ]at hi;have hb2:i*sz+j<vs.length:=by
     rw[k6]
     calc i*sz+j<i*sz+sz:=by omega
      _=(i+1)*sz:=by rw[Jg,Jw]
      _<=c*sz:=Ja _ (by omega)
    rw[WU (by omega),setD i hi]
    by_cases he:i'=i
    ·subst he;rw[if_pos rfl,pc];unfold YT;rw[WU (by omega)]
     by_cases c1:j<off
     ·rw[if_pos (by omega),if_pos c1];exact k7 _ _ hi hj
     ·by_cases c2:j<off+q.cells.length
      ·rw[if_neg (by omega),if_pos (by omega),if_neg c1,if_pos c2];have:=hyr (j-off) (by omega);rw[show i'*sz+j-(i'*sz+off)=j-off by omega];exact this
      ·rw[if_neg (by omega),if_neg (by omega),if_neg c1,if_neg c2];exact k7 _ _ hi hj
    ·rw[if_neg he]
     by_cases c1:i*sz+j<i'*sz+off
     ·rw[if_pos c1];exact k7 _ _ hi hj
     ·rw[if_neg c1,if_neg]
      ·exact k7 _ _ hi hj
      ·intro c2;have hd:i*sz+j=i'*sz+(i*sz+j-i'*sz):=by omega
       exact he (idx (by omega) hj hd.symm).1)
  refine⟨_,S,M,?_,hsim,rfl,hext⟩;simp only[KC,Jv,Ji,Jp,Jb,storeVar,Yu hi,hyc];simp only[J3,hlen,ne_eq,not_true_eq_false,if_false];simpa[hlen]using hrun
 exact λhok=>hok.elim
 exact λhok=>hok.elim
theorem ZfK (hs:Sim B S M s a w) {t:TypeId} {x:Value} {p:PV} {id:Nat} (hx:RepS S M s.m.q x p) (hxi:∀i∈p.ids,ZX s.m i)
  (hid:s.m.h id=none) (hk:p.known=true) (ok:Prop):Snd P B S s a w (KM t x) ⟨ok,.ptr id 0,s.m.new id p.cells⟩:=by
 obtain⟨vs,hc,hl,hr⟩:=hx.cells_inv hk;have hids:∀c∈p.cells,∀i∈c.ids,ZX s.m i:=λc hc k hk=>hxi k (YB hc hk)
 refine⟨.pointer (some ⟨w.heap.size,0,none⟩),_,S,_,?_,hs.alloc (t:=t) hid hl hr hids,?_,?_,hs.ext_alloc _⟩;simp[KM,newVar,newRow,newObj,hc,Kz,J4];have:RepS S { M with φ:=upd M.φ id w.heap.size } s.m.q (.pointer (some ⟨upd M.φ id w.heap.size id,0,none⟩)) (.ptr id 0):= .ptr id 0;rwa[Za]at this;intro i hi;simp only[PV.ids,Jy]at hi;subst hi;simp[ZX,Hp.new,Za]
theorem Zhp (hs:Sim B S M s a w) {t:TypeId} {i:TypeInfo} {z:Value} {id:Nat} (hi:P.info? t=some i) (hz:i.zero=some z)
  (hid:s.m.h id=none) (hk:(XR z).known=true) (ok:Prop):Snd P B S s a w (KW t true (.tuple #[])) ⟨ok,.ptr id 0,s.m.new id (XR z).cells⟩:=by
 have h:=ZfK (P:=P) (t:=t) hs (.clean (Vb S z)) (by simp[VM]) hid hk ok;have e:∀w,(KW t true (.tuple #[])).run P w=(KM t z).run P w:=λw=>by
  simp[KW,KM,zeroValue,SV hi,hz]
 obtain⟨v,w',S',M',h1,h2⟩:=h;exact⟨v,w',S',M',by rw[e];exact h1,h2⟩
end
end Go.PL
namespace Go.PL
open Go.RowKit
inductive Leaf where
 |int|bool|str
 deriving DecidableEq
mutual
def Te (P:Program):Nat->TypeId->Option (List Leaf)
 |0,_=>none
 |n+1,t=>match P.underlying t with
  |some (.int _)=>some [.int]
  |some .bool=>some [.bool]
  |some .string=>some [.str]
  |some (.struct fs)=>if P.stoodInHeld t then none else Dn P n 0 fs.toList
  |some (.array len e)=>match Te P n e with
   |some l=>if l.length=tsz P e then some (JJ len l).flatten else none
   |none=>none
  |_=>none
def Dn (P:Program):Nat->Nat->List Field->Option (List Leaf)
 |_,_,[]=>some []
 |0,_,_::_=>none
 |n+1,off,f::fs=>if f.name= "_" \/ f.offset≠off then none else
  match Te P n f.type with
  |some l=>if l.length=tsz P f.type then(match Dn P n (off+l.length) fs with|some r=>some (l++r)|none=>none)else none
  |none=>none
end
def Uw:Leaf->PV->PV->Option Bool
 | .int,.int k a,.int k' b=>if k=k' then some (a==b)else none
 | .bool,.bool a,.bool b=>some (a==b)
 | .str,.str a,.str b=>some (a==b)
 |_,_,_=>none
def ZO:List Leaf->List PV->List PV->Option Bool
 | [],[],[]=>some true
 |l::ls,c::cs,d::ds=>match Uw l c d,ZO ls cs ds with
  |some x,some y=>some (x&&y)
  |_,_=>none
 |_,_,_=>none
section
variable {P:Program} {S:Stable} {M:Maps} {h:Rows}
def RepL (S:Stable) (M:Maps) (h:Rows) (vs:List Value) (cs:List PV):Prop:=vs.length=cs.length/\ ∀i,i<cs.length->RepS S M h (vs.getD i undef) (cs.getD i .any)
theorem RepL.cons {v:Value} {vs:List Value} {c:PV} {cs:List PV} (r:RepL S M h (v::vs) (c::cs)):RepS S M h v c/\RepL S M h vs cs:=
 ⟨r.2 0 (by simp),by simpa using r.1,λi hi=>by simpa using r.2 (i+1) (by simpa using hi)⟩
theorem RepL.take {vs:List Value} {cs:List PV} (r:RepL S M h vs cs) (n:Nat):RepL S M h (vs.take n) (cs.take n):=by
 refine⟨by simp[r.1],λi hi=> ?_⟩;simp only[Jk]at hi;rw[Xx (by omega),Xx (by omega)];exact r.2 i (by omega)
theorem RepL.drop {vs:List Value} {cs:List PV} (r:RepL S M h vs cs) (n:Nat):RepL S M h (vs.drop n) (cs.drop n):=by
 refine⟨by simp[r.1],λi hi=> ?_⟩;simp only[Jl]at hi;rw[XM,XM];exact r.2 _ (by omega)
theorem V5:∀ {ls:List Leaf} {cs ds:List PV} {r:Bool},ZO ls cs ds=some r->cs.length=ls.length/\ds.length=ls.length
 | [],[],[],_,_=>⟨rfl,rfl⟩
 |l::ls,c::cs,d::ds,r,h=>by
  simp only[ZO]at h;split at h;rename_i x y h1 h2;obtain⟨e1,e2⟩:=V5 h2;simp[e1,e2];cases h
 | [],c::cs,_,_,h=>by simp[ZO]at h
 | [],[],d::ds,_,h=>by simp[ZO]at h
 |l::ls,[],_,_,h=>by simp[ZO]at h
 |l::ls,c::cs,[],_,h=>by simp[ZO]at h
theorem VH:∀ {ls ls':List Leaf} {cs ds:List PV} {r:Bool},ZO (ls++ls') cs ds=some r->
  ∃x y,ZO ls (cs.take ls.length) (ds.take ls.length)=some x/\ZO ls' (cs.drop ls.length) (ds.drop ls.length)=some y/\r=(x&&y)
 | [],ls',cs,ds,r,h=>⟨true,r,by simp[ZO],by simpa using h,by simp⟩
 |l::ls,ls',c::cs,d::ds,r,h=>by
  simp only[List.cons_append,ZO]at h;split at h;rename_i x y h1 h2;obtain⟨x',y',e1,e2,e3⟩:=VH h2;refine⟨x&&x',y',?_,by simpa using e2,?_⟩;simp only[JI,List.take_succ_cons,ZO,h1,e1];simp only[Jn.injEq]at h;rw[<-h,e3,Bool.and_assoc];cases h
 |l::ls,ls',[],_,_,h=>by simp[ZO]at h
 |l::ls,ls',c::cs,[],_,h=>by simp[ZO]at h
def XD (P:Program) (t:TypeId) (vs:List Value):Value:=if Yo P t then .agg ⟨vs⟩else vs.getD 0 undef
theorem XA {e:TypeId} {d:TypeDesc} {vs:List Value} {off:Nat} (hu:P.underlying e=some d) (hoff:off+tsz P e<=vs.length) (h1:Yo P e=false->tsz P e=1) (w:World):
  (part e ⟨vs⟩ off).run P w= .ok (XD P e ((vs.drop off).take (tsz P e))) w:=by
 obtain⟨i,hi⟩:=Xz hu;unfold part XD;cases hg:Yo P e with
 |true=>
  simp only[Ji,VS hu,Jb,hg,if_true,Yu hi,Jp];simp
 |false=>
  have hz:=h1 hg;simp only[Ji,VS hu,Jb,hg,Jo,if_false,hz];have:off<vs.length:=by omega
  simp[this]
theorem Zb9 {n:Nat} {t:TypeId} {ls:List Leaf} (h:Te P n t=some ls):(∃d,P.underlying t=some d)/\(Yo P t=false->ls.length=1):=by
 cases n with
 |zero=>simp[Te]at h
 |succ n=>
  unfold Te at h;unfold Yo;cases e:P.underlying t with
  |none=>rw[e]at h;simp at h
  |some d=>
   refine⟨⟨d,rfl⟩,?_⟩;rw[e]at h;cases d<;>simp_all<;>(try(rw[<-h];rfl))
def Di (d:Nat) (e:TypeId) (n:Nat) (xs ys:Array Value):Nat->Nat->Sem Bool
 |_,0=>Pure.pure true
 |i,k+1=>do
  let a <-part e xs (i*n)
  let b <-part e ys (i*n)
  let r <-JB d e a b
  if(!r)=true then Pure.pure false else Di d e n xs ys (i+1) k
theorem Dv (w:World) (d:Nat) (t e:TypeId) (len:Nat) (i:TypeInfo) (xs ys:Array Value) (ht:P.underlying t=some (.array len e)) (hi:P.info? e=some i):
  (JB (d+1) t (.agg xs) (.agg ys)).run P w=(Di d e (tsz P e) xs ys 0 len).run P w:=by
 simp only[JB,Ji,ZR ht,Jb,Yu hi];rw[Std.Legacy.Range.forIn_eq_forIn_range'];simp only[Std.Legacy.Range.size,Nat.sub_zero,Nat.add_sub_cancel,Nat.div_one];generalize (0:Nat)=s;clear ht;induction len generalizing w s with
 |zero=>simp[Di]
 |succ k ih=>
  simp only[Ki,List.forIn_cons,Di,Ji];generalize (part e xs (s*tsz P e)).run P w=r1;cases r1 with
  |ok a w1=>
   simp only[Jb];generalize (part e ys (s*tsz P e)).run P w1=r2;cases r2 with
   |ok b w2=>
    simp only[Jb];generalize (JB d e a b).run P w2=r3;cases r3 with
    |ok r w3=>
     cases r
     ·simp only[Jb,Bool.not_false,if_true,Jp]
     ·simp only[Jb,K6,Jo,if_false,Jp];exact ih w3 (s+1)
    |halt x w3=>simp[Kv]
   |halt x w2=>simp[Kv]
  |halt x w1=>simp[Kv]
def Zwu (P:Program) (S:Stable) (M:Maps) (h:Rows) (d:Nat) (t:TypeId) (ls:List Leaf):Prop:=
 ∀vs us cs ds r,RepL S M h vs cs->RepL S M h us ds->ZO ls cs ds=some r-> ∀w,(JB d t (XD P t vs) (XD P t us)).run P w= .ok r w
theorem ZbM {d:Nat} {e:TypeId} {l:List Leaf} {de:TypeDesc} (hu:P.underlying e=some de) (hl:l.length=tsz P e) (h1:Yo P e=false->tsz P e=1) (he:Zwu P S M h d e l):
  ∀(k s:Nat) (vs us:List Value) (cs ds:List PV) (r:Bool),RepL S M h vs cs->RepL S M h us ds->ZO (JJ k l).flatten (cs.drop (s*tsz P e)) (ds.drop (s*tsz P e))=some r->
   s*tsz P e<=cs.length->s*tsz P e<=ds.length-> ∀w,(Di d e (tsz P e) ⟨vs⟩ ⟨us⟩ s k).run P w= .ok r w
 |0,s,vs,us,cs,ds,r,rv,ru,hr,_,_,w=>by
  simp only[List.replicate_zero,List.flatten_nil]at hr;have:r=true:=by
   revert hr;cases cs.drop (s*tsz P e)<;>cases ds.drop (s*tsz P e)<;>simp[ZO]
  subst this;rfl
 |k+1,s,vs,us,cs,ds,r,rv,ru,hr,hc,hd,w=>by
  simp only[List.replicate_succ,List.flatten_cons]at hr;obtain⟨x,y,e1,e2,rfl⟩:=VH hr;obtain⟨f1,f2⟩:=V5 e1;simp only[Jk,Jl]at f1 f2;have p1:=XA (vs:=vs) (off:=s*tsz P e) hu (by rw[rv.1];omega) h1 w;have p2:=XA (vs:=us) (off:=s*tsz P e) hu (by rw[ru.1];omega) h1 w;have q:=he _ _ _ _ x ((rv.drop (s*tsz P e)).take (tsz P e)) ((ru.drop (s*tsz P e)).take (tsz P e)) (by rw[hl]at e1;exact e1) w;have e2':ZO (JJ k l).flatten (cs.drop ((s+1)*tsz P e)) (ds.drop ((s+1)*tsz P e))=some y:=by
   rw[J8,J8,hl]at e2;rw[Jg,Jw];exact e2
  have ih:=ZbM hu hl h1 he k (s+1) vs us cs ds y rv ru e2' (by rw[Jg,Jw];omega) (by rw[Jg,Jw];omega) w;simp only[Di,Ji,p1,p2,q,Jb];cases x;simp;simpa using ih
theorem ZbN {c d:PV} {x:Bool} (h:Uw .int c d=some x):∃k a b,c= .int k a/\d= .int k b/\x=(a==b):=by
 cases c<;>cases d<;>simp[Uw]at h
 obtain⟨rfl,rfl⟩:=h;exact⟨_,_,_,rfl,rfl,rfl⟩
theorem FS0 {c d:PV} {x:Bool} (h:Uw .bool c d=some x):∃a b,c= .bool a/\d= .bool b/\x=(a==b):=by
 cases c<;>cases d<;>simp[Uw]at h
 subst h;exact⟨_,_,rfl,rfl,rfl⟩
theorem ZbO {c d:PV} {x:Bool} (h:Uw .str c d=some x):∃a b,c= .str a/\d= .str b/\x=(a==b):=by
 cases c<;>cases d<;>simp[Uw]at h
 subst h;exact⟨_,_,rfl,rfl,rfl⟩
mutual
theorem ZoF:∀(n:Nat) (t:TypeId) (ls:List Leaf),Te P n t=some ls-> ∀d,n<=d->Zwu P S M h d t ls
 |0,_,_,hh,_,_=>by simp[Te]at hh
 |n+1,t,ls,hh,d,hd=>by
  obtain⟨d,rfl⟩:∃d',d=d'+1:=⟨d-1,by omega⟩;intro vs us cs ds r rv ru hr w;have one:∀ {c' d':PV},cs= [c']->ds= [d']->RepS S M h (vs.getD 0 undef) c'/\RepS S M h (us.getD 0 undef) d':=λh1 h2=>by
   subst h1;subst h2;exact⟨rv.2 0 (by simp),ru.2 0 (by simp)⟩
  unfold Te at hh;cases e:P.underlying t with
  |none=>rw[e]at hh;simp at hh
  |some dd=>
   rw[e]at hh;have leaf:∀ {lf:Leaf},ls= [lf]-> ∃c' d',cs= [c']/\ds= [d']/\ ∃x,Uw lf c' d'=some x/\r=x:=by
    intro lf hl;subst hl;obtain⟨e1,e2⟩:=V5 hr;obtain⟨c',rfl⟩:=Kk.1 e1;obtain⟨d',rfl⟩:=Kk.1 e2;simp only[ZO]at hr;split at hr
    ·rename_i x y h1 h2;simp only[Jn.injEq]at h2;subst h2;refine⟨c',d',rfl,rfl,x,h1,?_⟩;simpa using hr.symm
    ·cases hr
   cases dd with
   |int k0=>
    simp only[Jn.injEq]at hh;obtain⟨c',d',h1,h2,x,hx,rfl⟩:=leaf hh.symm;obtain⟨r1,r2⟩:=one h1 h2;have ht:Yo P t=false:=by simp[Yo,e]
    obtain⟨k,x1,x2,rfl,rfl,rfl⟩:=ZbN hx;simp only[XD,ht,Jo,if_false];rw[r1.int_inv,r2.int_inv];exact run_equalIn_int w d t _ k0 _ _ e
   |bool=>
    simp only[Jn.injEq]at hh;obtain⟨c',d',h1,h2,x,hx,rfl⟩:=leaf hh.symm;obtain⟨r1,r2⟩:=one h1 h2;have ht:Yo P t=false:=by simp[Yo,e]
    obtain⟨x1,x2,rfl,rfl,rfl⟩:=FS0 hx;simp only[XD,ht,Jo,if_false];rw[r1.bool_inv,r2.bool_inv];exact run_equalIn_bool' w d t _ _ e
   |string=>
    simp only[Jn.injEq]at hh;obtain⟨c',d',h1,h2,x,hx,rfl⟩:=leaf hh.symm;obtain⟨r1,r2⟩:=one h1 h2;have ht:Yo P t=false:=by simp[Yo,e]
    obtain⟨x1,x2,rfl,rfl,rfl⟩:=ZbO hx;simp only[XD,ht,Jo,if_false];rw[r1.str_inv,r2.str_inv,run_equalIn_string w d t _ _ e,ByteArray.toList_eq,ByteArray.toList_eq]
   |struct fs=>
    simp only at hh;split at hh
    ·cases hh
    ·rename_i hst;have ht:Yo P t=true:=by simp[Yo,e]
     have hf:P.fieldsOf t=fs:=by simp[Program.fieldsOf,e]
     simp only[XD,ht,if_true];rw[run_equalIn_struct w d t _ _ (by rw[hf];exact e) (by simpa using hst),hf];exact Zp5 n 0 fs.toList ls hh d (by omega) vs us cs ds r rv ru (by simpa using hr) (Ku _) (Ku _) w
   |array len el=>
    simp only at hh;split at hh
    ·rename_i l hl;split at hh
     ·rename_i hlen;simp only[Jn.injEq]at hh;subst hh;have ht:Yo P t=true:=by simp[Yo,e]
      obtain⟨⟨de,hde⟩,h1⟩:=Zb9 hl;obtain⟨i,hi⟩:=Xz hde;simp only[XD,ht,if_true];rw[Dv w d t el len i _ _ e hi];exact ZbM hde hlen (λhg=>by rw[<-hlen];exact h1 hg) (ZoF n el l hl d (by omega)) len 0 vs us cs ds r rv ru (by simpa using hr) (by simp) (by simp) w
     ·cases hh
    ·cases hh
   |_=>simp at hh
theorem Zp5:∀(n off:Nat) (fs:List Field) (ls:List Leaf),Dn P n off fs=some ls-> ∀d,n<=d-> ∀vs us cs ds r,RepL S M h vs cs->RepL S M h us ds->
  ZO ls (cs.drop off) (ds.drop off)=some r->off<=cs.length->off<=ds.length-> ∀w,(Qi d ⟨vs⟩ ⟨us⟩ fs).run P w= .ok r w
 |n,off,[],ls,hh,d,hd,vs,us,cs,ds,r,rv,ru,hr,_,_,w=>by
  have:ls= []:=by cases n<;>simp[Dn]at hh<;>exact hh
  subst this;have:r=true:=by
   revert hr;cases cs.drop off<;>cases ds.drop off<;>simp[ZO]
  subst this;rfl
 |0,off,f::fs,ls,hh,d,hd,vs,us,cs,ds,r,rv,ru,hr,_,_,w=>by simp[Dn]at hh
 |n+1,off,f::fs,ls,hh,d,hd,vs,us,cs,ds,r,rv,ru,hr,hc,hdd,w=>by
  simp only[Dn]at hh;split at hh;cases hh;rename_i hno;have hname:f.name≠ "_" :=λe=>hno (.inl e)
  have hoff:f.offset=off:=Kd λe=>hno (.inr e)
  split at hh;rename_i l hl;split at hh;rename_i hlen;split at hh;rename_i rest hrest;simp only[Jn.injEq]at hh;subst hh;obtain⟨⟨de,hde⟩,h1⟩:=Zb9 hl;obtain⟨x,y,e1,e2,rfl⟩:=VH hr;obtain⟨f1,f2⟩:=V5 e1;simp only[Jk,Jl]at f1 f2;have h1':Yo P f.type=false->tsz P f.type=1:=λhg=>by rw[<-hlen];exact h1 hg
  have p1:=XA (vs:=vs) (off:=off) hde (by rw[rv.1];omega) h1' w;have p2:=XA (vs:=us) (off:=off) hde (by rw[ru.1];omega) h1' w;have q:=ZoF n f.type l hl d (by omega) _ _ _ _ x ((rv.drop off).take (tsz P f.type)) ((ru.drop off).take (tsz P f.type)) (by rw[hlen]at e1;exact e1) w;have ih:=Zp5 n (off+l.length) fs rest hrest d (by omega) vs us cs ds y rv ru (by rw[<-J8,<-J8];exact e2) (by omega) (by omega) w;simp only[Qi,hname,ne_eq,not_false_eq_true,if_true,Ji,hoff,p1,p2,q,Jb];cases x;simp;simpa using ih;cases hh;cases hh;cases hh
end
end
open Go.RowKit
def Dh:Nat:=40
def ZaT (P:Program) (t:TypeId):Option (List Leaf):=if P.eqGuardType P.depth t|| !Yo P t then none else Te P Dh t
def ZS:List UInt8->List UInt8->Bool:=Op.bytesLess
def Zn3 (op:BinOp) (k k':IntKind) (a b:Int) (m:Hp):ARes:=
 match op with
 | .add=>⟨k=k',.int k (k.wrap (a+b)),m⟩
 | .sub=>⟨k=k',.int k (k.wrap (a-b)),m⟩
 | .mul=>⟨k=k',.int k (k.wrap (a*b)),m⟩
 | .quo=>⟨k=k'/\b≠0,.int k (k.wrap (a.tdiv b)),m⟩
 | .rem=>⟨k=k'/\b≠0,.int k (a.tmod b),m⟩
 | .eql=>⟨k=k',.bool (a==b),m⟩
 | .neq=>⟨k=k',.bool (a !=b),m⟩
 | .lss=>⟨k=k',.bool (decide (a<b)),m⟩
 | .leq=>⟨k=k',.bool (decide (a<=b)),m⟩
 | .gtr=>⟨k=k',.bool (decide (b<a)),m⟩
 | .geq=>⟨k=k',.bool (decide (b<=a)),m⟩
 | .and=>⟨k=k',.int k (k.wrap ((BitVec.ofInt k.bits a&&& BitVec.ofInt k.bits b).toNat)),m⟩
 | .or=>⟨k=k',.int k (k.wrap ((BitVec.ofInt k.bits a|||BitVec.ofInt k.bits b).toNat)),m⟩
 | .xor=>⟨k=k',.int k (k.wrap ((BitVec.ofInt k.bits a ^^^ BitVec.ofInt k.bits b).toNat)),m⟩
 | .shl=>⟨0<=b,.int k (k.wrap (a*2 ^ (min b.toNat k.bits))),m⟩
 | .shr=>⟨0<=b,.int k (a.fdiv (2 ^ (min b.toNat k.bits))),m⟩
 |_=> .fail
def Zn8 (op:BinOp) (a b:List UInt8) (m:Hp):ARes:=
 match op with
 | .add=>⟨(a.length+b.length:Int)<=9223372036854775807,.str (a++b),m⟩
 | .eql=>⟨True,.bool (a==b),m⟩
 | .neq=>⟨True,.bool (!(a==b)),m⟩
 | .lss=>⟨True,.bool (ZS a b),m⟩
 | .leq=>⟨True,.bool (ZS a b||a==b),m⟩
 | .gtr=>⟨True,.bool (!(ZS a b||a==b)),m⟩
 | .geq=>⟨True,.bool (!ZS a b),m⟩
 |_=> .fail
def Ziu:PV->PV->Option Bool
 | .nilp,.nilp=>some true
 | .nilp,.ptr _ _| .nilp,.rptr _| .ptr _ _,.nilp| .rptr _,.nilp=>some false
 |_,_=>none
def Zpw:PV->PV->Option Bool
 | .sl .nil _,.sl .nil _=>some true
 | .sl _ (_::_),.sl .nil _=>some false
 | .sl .nil _,.sl _ (_::_)=>some false
 | .osl _ _ _ _,.sl .nil _=>some false
 |_,_=>none
def Zio:PV->PV->Option Bool
 | .nilmap,.nilmap=>some true
 | .nilmap,.mref _| .nilmap,.rmap _ _| .mref _,.nilmap| .rmap _ _,.nilmap=>some false
 |_,_=>none
inductive EqK where
 |bool|ptr|slc|map|other
def Zd0 (P:Program) (t:TypeId):EqK:=
 match P.underlying t with
 |some .bool=> .bool
 |some (.pointer _)=> .ptr
 |some (.slice _)=> .slc
 |some (.map _ _)=> .map
 |_=> .other
def aEq (neg:Bool) (r:Option Bool) (m:Hp):ARes:=match r with|some b=>⟨True,.bool (if neg then !b else b),m⟩|none=> .fail
def ZnQ (P:Program) (neg:Bool) (t:TypeId) (x y:PV) (m:Hp):ARes:=
 match x,y with
 | .agg cs,.agg ds=>match ZaT P t with
  |some ls=>aEq neg (ZO ls cs ds) m
  |none=> .fail
 | .bool a,.bool b=>match Zd0 P t with| .bool=>aEq neg (some (a==b)) m|_=> .fail
 |x,y=>match Zd0 P t with
  | .ptr=>aEq neg (Ziu x y) m
  | .slc=>aEq neg (Zpw x y) m
  | .map=>aEq neg (Zio x y) m
  |_=> .fail
def Zn2 (op:BinOp) (k k':FloatKind) (a b:Nat) (m:Hp):ARes:=
 match op with
 | .eql=>⟨k=k',.bool (k.format.order a b==some .eq),m⟩
 | .neq=>⟨k=k',.bool (k.format.order a b !=some .eq),m⟩
 | .lss=>⟨k=k',.bool (k.format.order a b==some .lt),m⟩
 | .leq=>⟨k=k',.bool (k.format.order a b==some .lt||k.format.order a b==some .eq),m⟩
 | .gtr=>⟨k=k',.bool (k.format.order a b==some .gt),m⟩
 | .geq=>⟨k=k',.bool (k.format.order a b==some .gt||k.format.order a b==some .eq),m⟩
 |_=> .fail
def Zn0 (P:Program) (op:BinOp) (t:TypeId) (x y:PV) (m:Hp):ARes:=
 match x,y with
 | .int k a,.int k' b=>Zn3 op k k' a b m
 | .str a,.str b=>Zn8 op a b m
 | .flt k a,.flt k' b=>Zn2 op k k' a b m
 |x,y=>match op with
  | .eql=>ZnQ P false t x y m
  | .neq=>ZnQ P true t x y m
  |_=> .fail
section
variable {P:Program} {B:Frm} {S:Stable} {M:Maps} {s:St} {a:Act} {w:World}
theorem Zm0 (hs:Sim B S M s a w) {op:BinOp} {t:TypeId} {k k':IntKind} {x y:Int} (hok:(Zn3 op k k' x y s.m).ok):
  Snd P B S s a w (binOp op t (.int k x) (.int k' y)) (Zn3 op k k' x y s.m):=by
 have fin:∀ {v:Value} {p:PV} {ok:Prop},(binOp op t (.int k x) (.int k' y)).run P w= .ok v w->Rep S v p->Snd P B S s a w (binOp op t (.int k x) (.int k' y)) ⟨ok,p,s.m⟩:=
  λ{v p ok} h1 h2=>Snd.pure hs h1 (.clean h2) (λi hi=>absurd hi (h2.clean_ids i))
 revert hok;unfold Zn3;split
 case h_17=>exact λhok=>hok.elim
 all_goals intro hok
 all_goals first
  |(have e:k=k':=hok;subst e;refine fin ?_ (by constructor);simp[binOp,Qj,Op.intCmp,Op.intBits];done)
  |(obtain⟨e,h0⟩:=hok;subst e;refine fin ?_ (by constructor);simp[binOp,Op.intDiv,h0];done)
  |(have h0:0<=y:=hok;have h1:¬y<0:=by omega
    refine fin ?_ (by constructor);simp[binOp,Op.shift,h1];done)
theorem ZmZ (hs:Sim B S M s a w) {op:BinOp} {t:TypeId} {k k':FloatKind} {x y:Nat} (hok:(Zn2 op k k' x y s.m).ok):
  Snd P B S s a w (binOp op t (.float k x) (.float k' y)) (Zn2 op k k' x y s.m):=by
 have fin:∀ {v:Value} {p:PV} {ok:Prop},(binOp op t (.float k x) (.float k' y)).run P w= .ok v w->Rep S v p->Snd P B S s a w (binOp op t (.float k x) (.float k' y)) ⟨ok,p,s.m⟩:=
  λ{v p ok} h1 h2=>Snd.pure hs h1 (.clean h2) (λi hi=>absurd hi (h2.clean_ids i))
 revert hok;unfold Zn2;split
 case h_7=>exact λhok=>hok.elim
 all_goals intro hok
 all_goals
  have e:k=k':=hok;subst e;refine fin ?_ (by constructor);simp[binOp,Op.floatCmp]
theorem Zm4 (hs:Sim B S M s a w) {op:BinOp} {t:TypeId} {x y:List UInt8} (hok:(Zn8 op x y s.m).ok):
  Snd P B S s a w (binOp op t (.string ⟨⟨x⟩⟩) (.string ⟨⟨y⟩⟩)) (Zn8 op x y s.m):=by
 have fin:∀ {v:Value} {p:PV} {ok:Prop},(binOp op t (.string ⟨⟨x⟩⟩) (.string ⟨⟨y⟩⟩)).run P w= .ok v w->Rep S v p->Snd P B S s a w (binOp op t (.string ⟨⟨x⟩⟩) (.string ⟨⟨y⟩⟩)) ⟨ok,p,s.m⟩:=
  λ{v p ok} h1 h2=>Snd.pure hs h1 (.clean h2) (λi hi=>absurd hi (h2.clean_ids i))
 have e1:(⟨⟨x⟩⟩:ByteArray).toList=x:=by rw[ByteArray.toList_eq]
 have e2:(⟨⟨y⟩⟩:ByteArray).toList=y:=by rw[ByteArray.toList_eq]
 revert hok;unfold Zn8;split
 case h_8=>exact λhok=>hok.elim
 all_goals intro hok
 refine fin (v:= .string ⟨⟨x++y⟩⟩) ?_ (.str _);have hle:¬(((⟨⟨x⟩⟩:ByteArray).size+(⟨⟨y⟩⟩:ByteArray).size:Nat):Int)>IntKind.i64.max:=by
  have h2:IntKind.i64.max=9223372036854775807:=by decide
  rw[h2];have h3:(⟨⟨x⟩⟩:ByteArray).size=x.length:=rfl;have h4:(⟨⟨y⟩⟩:ByteArray).size=y.length:=rfl;simp only at hok;rw[h3,h4];omega
 have e3:(⟨⟨x⟩⟩:ByteArray)++(⟨⟨y⟩⟩:ByteArray)=⟨⟨x++y⟩⟩:=by
  apply ByteArray.ext;rw[ByteArray.data_append];simp
 simp only[binOp,Qk,hle,if_false,e3];rfl
 all_goals (refine fin ?_ (by constructor);simp[binOp,Qk,e1,e2,ZS])
theorem Vk {op:BinOp} {t:TypeId} {x y:Operand} {v u:Value} (hv:v≠ .nilIface) (hc:∀cs ds,v= .agg cs->u= .agg ds->P.eqGuardType P.depth t=false):(eqGuard op t x y v u).run P w= .ok () w:=by
 have go:∀op:BinOp,op= .eql\/op= .neq->(eqGuard op t x y v u).run P w= .ok () w:=by
  intro op hop;rcases hop with rfl|rfl
  all_goals
   unfold eqGuard;simp only[K6,Jo,if_false];split
   ·exact absurd rfl hv
   ·have:=hc _ _ rfl rfl;simp[run_program,this]
   ·rfl
 cases op<;>first|rfl|exact go _ (.inl rfl)|exact go _ (.inr rfl)
theorem RepS.nilp_inv {v:Value} {qq:Rows} (r:RepS S M qq v .nilp):v= .pointer none:=by
 cases r with|clean r=>cases r;rfl
theorem Tq {op:BinOp} {t:TypeId} {x y:Value} (hop:op= .eql\/op= .neq) (h1:∀k n k' m,x= .int k n->y≠ .int k' m) (h2:∀k n k' m,x= .float k n->y≠ .float k' m) (h3:∀k n m k' n' m',x= .complex k n m->y≠ .complex k' n' m')
  (h4:∀u v,x= .string u->y≠ .string v) {r:Bool} (he:(Kw t x y).run P w= .ok r w):(binOp op t x y).run P w= .ok (.bool (if op= .neq then !r else r)) w:=by
 rcases hop with rfl|rfl;cases x<;>cases y<;>first|(exact absurd rfl (h1 _ _ _ _ rfl))|(exact absurd rfl (h2 _ _ _ _ rfl))|(exact absurd rfl (h3 _ _ _ _ _ _ rfl))|(exact absurd rfl (h4 _ _ rfl))|(simp only[binOp,Ji,he,Jb];rfl)
 cases x<;>cases y<;>first|(exact absurd rfl (h1 _ _ _ _ rfl))|(exact absurd rfl (h2 _ _ _ _ rfl))|(exact absurd rfl (h3 _ _ _ _ _ _ rfl))|(exact absurd rfl (h4 _ _ rfl))|(simp only[binOp,Ji,he,Jb];rfl)
theorem Y4 (d:Nat) (t e:TypeId) (b:Option Addr) (h:P.underlying t=some (.pointer e)):(JB (d+1) t (.pointer none) (.pointer b)).run P w= .ok b.isNone w:=by
 simp[JB,ZR h]
theorem XT (d:Nat) (t e:TypeId) (b:Addr) (h:P.underlying t=some (.pointer e)):(JB (d+1) t (.pointer (some b)) (.pointer none)).run P w= .ok false w:=by
 simp[JB,ZR h]
theorem Wv (d:Nat) (t e:TypeId) (b:Option Addr) (n c:Nat) (h:P.underlying t=some (.slice e)):(JB (d+1) t (.slice none 0 0) (.slice b n c)).run P w= .ok b.isNone w:=by
 simp[JB,ZR h]
theorem Y5 (d:Nat) (t e:TypeId) (b:Addr) (n c:Nat) (h:P.underlying t=some (.slice e)):(JB (d+1) t (.slice (some b) n c) (.slice none 0 0)).run P w= .ok false w:=by
 simp[JB,ZR h]
theorem RepS.slnil_inv {v:Value} {qq:Rows} {es:List PV} (r:RepS S M qq v (.sl .nil es)):v= .slice none 0 0:=by
 cases r with|clean r=>cases r;rfl
theorem RepS.slcons_inv {v:Value} {qq:Rows} {t:Tok} {e:PV} {es:List PV} (r:RepS S M qq v (.sl t (e::es))):∃b n c,v= .slice (some b) n c:=by
 obtain⟨b,o,cap,vals,rfl,_⟩:=r.sl_inv.sl_at (i:=0) (by simp);exact⟨_,_,_,rfl⟩
theorem Zna {t:TypeId} (h:Zd0 P t= .bool):P.underlying t=some .bool:=by
 unfold Zd0 at h;split at h<;>first|assumption|cases h
theorem ZpF {t:TypeId} (h:Zd0 P t= .ptr):∃e,P.underlying t=some (.pointer e):=by
 unfold Zd0 at h;split at h<;>first|exact⟨_,by assumption⟩|cases h
theorem ZiG {t:TypeId} (h:Zd0 P t= .slc):∃e,P.underlying t=some (.slice e):=by
 unfold Zd0 at h;split at h<;>first|exact⟨_,by assumption⟩|cases h
theorem ZpE {t:TypeId} (h:Zd0 P t= .map):∃k e,P.underlying t=some (.map k e):=by
 unfold Zd0 at h;split at h<;>first|exact⟨_,_,by assumption⟩|cases h
theorem XJ (d:Nat) (t k e:TypeId) (b:Option Nat) (h:P.underlying t=some (.map k e)):(JB (d+1) t (.map none) (.map b)).run P w= .ok b.isNone w:=by
 simp[JB,ZR h]
theorem Vc (d:Nat) (t k e:TypeId) (b:Nat) (h:P.underlying t=some (.map k e)):(JB (d+1) t (.map (some b)) (.map none)).run P w= .ok false w:=by
 simp[JB,ZR h]
theorem RepS.nilmap_inv {v:Value} {qq:Rows} (r:RepS S M qq v .nilmap):v= .map none:=by
 cases r with|clean r=>cases r;rfl
theorem RepS.mref_inv {v:Value} {qq:Rows} {b:Nat} (r:RepS S M qq v (.mref b)):v= .map (some b):=by
 cases r with|clean r=>cases r;rfl
theorem RepS.rmap_inv {v:Value} {qq:Rows} {ks vs:List PV} (r:RepS S M qq v (.rmap ks vs)):∃b,v= .map (some b):=by
 cases r with|clean r=>cases r;exact⟨_,rfl⟩
theorem ZfL (hs:Sim B S M s a w) {op:BinOp} (hop:op= .eql\/op= .neq) {t:TypeId} {x y:Operand} {u v:Value} {p q:PV} (hu:RepS S M s.m.q u p) (hv:RepS S M s.m.q v q)
  (hok:(ZnQ P (decide (op= .neq)) t p q s.m).ok):Snd P B S s a w (do eqGuard op t x y u v;binOp op t u v) (ZnQ P (decide (op= .neq)) t p q s.m):=by
 have fin:∀ {r:Bool},u≠ .nilIface->(∀cs ds,u= .agg cs->v= .agg ds->P.eqGuardType P.depth t=false)->(∀k n k' m,u= .int k n->v≠ .int k' m)->(∀k n k' m,u= .float k n->v≠ .float k' m)->(∀k n m k' n' m',u= .complex k n m->v≠ .complex k' n' m')->
   (∀a b,u= .string a->v≠ .string b)->(Kw t u v).run P w= .ok r w->Snd P B S s a w (do eqGuard op t x y u v;binOp op t u v) (aEq (decide (op= .neq)) (some r) s.m):=by
  intro r g0 g1 g2 g3 g4 g5 he;refine Snd.pure hs (v:= .bool (if op= .neq then !r else r)) ?_ ?_ (by simp[PV.ids])
  ·simp only[Ji,Vk g0 g1,Jb];exact Tq hop g2 g3 g4 g5 he
  ·simp only[decide_eq_true_eq];exact .clean (.bool _)
 revert hok;unfold ZnQ;split;rename_i cs ds;split;rename_i ls hls;intro hok;cases hr:ZO ls cs ds with
 |none=>rw[hr]at hok;exact hok.elim
 |some r=>
  obtain⟨us,rfl,hl,hru⟩:=hu.agg_inv;obtain⟨vs,rfl,hl',hrv⟩:=hv.agg_inv;unfold ZaT at hls;split at hls
  ·cases hls
  ·rename_i hg;simp only[Ko,Bool.not_eq_true',not_or,Bool.not_eq_true,Bool.not_eq_false]at hg;have hk:=ZoF (S:=S) (M:=M) (h:=s.m.q) Dh t ls hls Op.maxDepth (by decide) us vs cs ds r ⟨hl,hru⟩ ⟨hl',hrv⟩ hr w;refine fin (by simp) (λ_ _ _ _=>hg.1) (by simp) (by simp) (by simp) (by simp) ?_;simpa[XD,hg.2,Kw]using hk
 intro hok;exact hok.elim;rename_i b1 b2;split;rename_i heq;intro hok;obtain rfl:=hu.bool_inv;obtain rfl:=hv.bool_inv;exact fin (by simp) (by simp) (by simp) (by simp) (by simp) (by simp) (run_equal_bool w t b1 b2 (Zna heq));intro hok;exact hok.elim;rename_i hne1 hne2;split;rename_i heq;obtain⟨e,he⟩:=ZpF heq;intro hok;cases hr:Ziu p q with
 |none=>rw[hr]at hok;exact hok.elim
 |some r=>
  have hk:(Kw t u v).run P w= .ok r w/\ ∃x y,u= .pointer x/\v= .pointer y:=by
   unfold Ziu at hr;split at hr
   ·cases hr;rw[hu.nilp_inv,hv.nilp_inv];exact⟨Y4 _ t e none he,_,_,rfl,rfl⟩
   ·cases hr;rw[hu.nilp_inv,hv.ptr_inv];exact⟨Y4 _ t e _ he,_,_,rfl,rfl⟩
   ·cases hr;obtain⟨b,o,vals,e2,_⟩:=hv.rptr_inv;rw[hu.nilp_inv,e2];exact⟨Y4 _ t e _ he,_,_,rfl,rfl⟩
   ·cases hr;rw[hu.ptr_inv,hv.nilp_inv];exact⟨XT _ t e _ he,_,_,rfl,rfl⟩
   ·cases hr;obtain⟨b,o,vals,e2,_⟩:=hu.rptr_inv;rw[e2,hv.nilp_inv];exact⟨XT _ t e _ he,_,_,rfl,rfl⟩
   ·cases hr
  obtain⟨hk,x',y',rfl,rfl⟩:=hk;exact fin (by simp) (by simp) (by simp) (by simp) (by simp) (by simp) hk
 rename_i heq;obtain⟨e,he⟩:=ZiG heq;intro hok;cases hr:Zpw p q with
 |none=>rw[hr]at hok;exact hok.elim
 |some r=>
  have hk:(Kw t u v).run P w= .ok r w/\ ∃x n c y n' c',u= .slice x n c/\v= .slice y n' c':=by
   unfold Zpw at hr;split at hr
   ·cases hr;rw[hu.slnil_inv,hv.slnil_inv];exact⟨Wv _ t e none _ _ he,_,_,_,_,_,_,rfl,rfl⟩
   ·cases hr;obtain⟨b,n,c,e2⟩:=hu.slcons_inv;rw[e2,hv.slnil_inv];exact⟨Y5 _ t e _ _ _ he,_,_,_,_,_,_,rfl,rfl⟩
   ·cases hr;obtain⟨b,n,c,e2⟩:=hv.slcons_inv;rw[hu.slnil_inv,e2];exact⟨Wv _ t e _ _ _ he,_,_,_,_,_,_,rfl,rfl⟩
   ·cases hr;obtain⟨cap,_,e2⟩:=hu.osl_inv;rw[e2,hv.slnil_inv];exact⟨Y5 _ t e _ _ _ he,_,_,_,_,_,_,rfl,rfl⟩
   ·cases hr
  obtain⟨hk,_,_,_,_,_,_,rfl,rfl⟩:=hk;exact fin (by simp) (by simp) (by simp) (by simp) (by simp) (by simp) hk
 rename_i heq;obtain⟨k,e,he⟩:=ZpE heq;intro hok;cases hr:Zio p q with
 |none=>rw[hr]at hok;exact hok.elim
 |some r=>
  have hk:(Kw t u v).run P w= .ok r w/\ ∃x y,u= .map x/\v= .map y:=by
   unfold Zio at hr;split at hr
   ·cases hr;rw[hu.nilmap_inv,hv.nilmap_inv];exact⟨XJ _ t k e none he,_,_,rfl,rfl⟩
   ·cases hr;rw[hu.nilmap_inv,hv.mref_inv];exact⟨XJ _ t k e _ he,_,_,rfl,rfl⟩
   ·cases hr;obtain⟨b,e2⟩:=hv.rmap_inv;rw[hu.nilmap_inv,e2];exact⟨XJ _ t k e _ he,_,_,rfl,rfl⟩
   ·cases hr;rw[hu.mref_inv,hv.nilmap_inv];exact⟨Vc _ t k e _ he,_,_,rfl,rfl⟩
   ·cases hr;obtain⟨b,e2⟩:=hu.rmap_inv;rw[e2,hv.nilmap_inv];exact⟨Vc _ t k e _ he,_,_,rfl,rfl⟩
   ·cases hr
  obtain⟨hk,_,_,rfl,rfl⟩:=hk;exact fin (by simp) (by simp) (by simp) (by simp) (by simp) (by simp) hk
 intro hok;exact hok.elim
theorem ZmX (hs:Sim B S M s a w) {op:BinOp} {t:TypeId} {x y:Operand} {u v:Value} {p q:PV} (hu:RepS S M s.m.q u p) (hv:RepS S M s.m.q v q)
  (hok:(Zn0 P op t p q s.m).ok):Snd P B S s a w (do eqGuard op t x y u v;binOp op t u v) (Zn0 P op t p q s.m):=by
 have pre:∀ {r:ARes},u≠ .nilIface->(∀cs ds,u= .agg cs->v≠ .agg ds)->Snd P B S s a w (binOp op t u v) r->Snd P B S s a w (do eqGuard op t x y u v;binOp op t u v) r:=by
  intro r g0 g1 h;obtain⟨z,w',S',M',h1,h2⟩:=h;refine⟨z,w',S',M',?_,h2⟩;simp only[Ji,Vk g0 (λcs ds e1 e2=>absurd e2 (g1 cs ds e1)),Jb];exact h1
 revert hok;unfold Zn0;split;intro hok;obtain rfl:=hu.int_inv;obtain rfl:=hv.int_inv;exact pre (by simp) (by simp) (Zm0 hs hok);intro hok;obtain rfl:=hu.str_inv;obtain rfl:=hv.str_inv;exact pre (by simp) (by simp) (Zm4 hs hok);intro hok;obtain rfl:=hu.flt_inv;obtain rfl:=hv.flt_inv;exact pre (by simp) (by simp) (ZmZ hs hok);split;intro hok;exact ZfL hs (.inl rfl) hu hv hok;intro hok;exact ZfL hs (.inr rfl) hu hv hok;intro hok;exact hok.elim
end
open Go.RowKit
section
variable {P:Program} {B:Frm} {S:Stable} {M:Maps} {s:St} {a:Act} {w:World}
def ZbD (S:Stable) (g k:Nat) (vs:List Value):Stable:=⟨λb o=>if b=g/\o<k then some (vs.getD o undef)else S b o,S.m,S.z,S.y⟩
theorem XK (S:Stable) (g k:Nat) (vs:List Value) (b o:Nat):(ZbD S g k vs).c b o=if b=g/\o<k then some (vs.getD o undef)else S b o:=rfl
def Zr7 (S:Stable) (g lo hi:Nat) (vs:List Value):Stable:=⟨λb o=>if b=g/\lo<=o/\o<hi then some (vs.getD o undef)else S b o,S.m,S.z,S.y⟩
theorem Zsw (S:Stable) (g lo hi:Nat) (vs:List Value) (b o:Nat):(Zr7 S g lo hi vs).c b o=if b=g/\lo<=o/\o<hi then some (vs.getD o undef)else S b o:=rfl
theorem XZ {α:Type} (f:Nat->α) (i:Nat):upd f i (f i)=f:=by
 funext j;by_cases h:i=j;subst h;rw[Za];rw[Zk _ _ h]
theorem Sim.layRow (hs:Sim B S M s a w) {d ψ κ:Nat} {r:Row} (hle:s.m.q d=none\/RowLe M { M with ψ:=upd M.ψ d ψ,κ:=upd M.κ d κ } d (s.m.q d) (some r))
  (hrow:ZcW B S { M with ψ:=upd M.ψ d ψ,κ:=upd M.κ d κ } w d r) (hv:s.m.v d=none)
  (hnq:∀i r',i≠d->s.m.q i=some r'->r'.own=true->0<M.κ i->r.own=true->0<κ->M.ψ i≠ψ) (hnh:∀i cs,s.m.h i=some cs->s.m.z i=false->r.own=true->0<κ->M.φ i≠ψ):
  Sim B S { M with ψ:=upd M.ψ d ψ,κ:=upd M.κ d κ } (s.with (s.m.setq d r)) a w:=by
 have e1:∀i,i≠d->upd M.ψ d ψ i=M.ψ i:=λi h=>Zk _ _ (Jt h)
 have e2:∀i,i≠d->upd M.κ d κ i=M.κ i:=λi h=>Zk _ _ (Jt h)
 have e3:∀i,i≠d->upd s.m.q d (some r) i=s.m.q i:=λi h=>Zk _ _ (Jt h)
 have rep:∀v p,RepS S M s.m.q v p->(∀i∈p.ids,ZX s.m i)->RepS S { M with ψ:=upd M.ψ d ψ,κ:=upd M.κ d κ } (s.m.setq d r).q v p:=λv p rr hids=>
  rr.heap (SLe.refl _) (λ_ _=>rfl) (λi hi=>by
   show RowLe M _ i (s.m.q i) (upd s.m.q d (some r) i)
   by_cases ei:i=d
   ·subst ei;rcases hle with hd|hle
    ·exact absurd hd (hids _ hi)
    ·rw[Za];exact hle
   ·exact .of_eq (e3 i ei) (e2 i ei) (e1 i ei))
 have live:∀i,ZX s.m i->ZX (s.m.setq d r) i:=λi h=>XP i h
 refine⟨hs.defers,hs.hn,hs.hB,hs.stable,λi=>rep _ _ (hs.fr i) (hs.ids i),λi j hj=>live j (hs.ids i j hj),λi b hb=> ?_,λi r' hr=> ?_,hs.inj,?_,?_,λb c hc=> ?_,λi es he=> ?_,hs.pn.move rfl rfl live (λ_ _=>rfl) λi hi=> ?_,hs.hz⟩
 rotate_right
 show RowLe M _ i (s.m.q i) (upd s.m.q d (some r) i);by_cases ei:i=d;subst ei;rcases hle with hd|hle;exact absurd hd hi;rw[Za];exact hle;exact .of_eq (e3 i ei) (e2 i ei) (e1 i ei);have hb':=hs.blk i b hb;show GX _ _ _ _ _ _ _ (s.m.z i);cases hz:s.m.z i with
 |false=>
  rw[hz]at hb';obtain⟨h1,h2,⟨us,t',h3,h4,h5⟩,h6⟩:=hb';exact⟨h1,h2,⟨us,t',h3,h4,λj hj=>rep _ _ (h5 j hj) (λk hk=>h6 _ (Ze hj) k hk)⟩,λc hc k hk=>live k (h6 c hc k hk)⟩
 |true=>rw[hz]at hb';exact hb'
 simp only[St.with,Hp.setq]at hr;by_cases ei:i=d;subst ei;rw[Za]at hr;cases hr;exact hrow;rw[e3 i ei]at hr;have:=hs.row i r' hr;cases r' with
 |live n' z' t'=>simpa only[ZcW,e2 i ei,e1 i ei]using this
 |vec n' z' t'=>simpa only[ZcW,e2 i ei,e1 i ei]using this
 |dead=>trivial
 intro i j r1 r2 hi hj o1 o2 ki kj hij;simp only[St.with,Hp.setq]at hi hj ki kj ⊢;by_cases ei:i=d;subst ei;rw[e3 j (Jt hij)]at hj;rw[e2 j (Jt hij)]at kj;rw[Za]at ki hi ⊢;cases hi;rw[e1 j (Jt hij)];exact Jt (hnq j _ (Jt hij) hj o2 kj o1 ki);by_cases ej:j=d;subst ej;rw[e3 i ei]at hi;rw[e2 i ei]at ki;rw[Za]at kj hj ⊢;cases hj;rw[e1 i ei];exact hnq i _ ei hi o1 ki o2 kj;rw[e3 i ei]at hi;rw[e3 j ej]at hj;rw[e2 i ei]at ki;rw[e2 j ej]at kj;rw[e1 i ei,e1 j ej];exact hs.injq i j _ _ hi hj o1 o2 ki kj hij;intro i j ds r1 hi zi hj oj kj;simp only[St.with,Hp.setq]at hi zi hj kj ⊢;by_cases ej:j=d;subst ej;rw[Za]at kj hj ⊢;cases hj;exact hnh i _ hi zi oj kj;rw[e3 j ej]at hj;rw[e2 j ej]at kj;rw[e1 j ej];exact hs.injx i j _ _ hi zi hj oj kj;obtain⟨g1,g2,g3,g4⟩:=hs.rm b c hc;exact⟨g1,g2,g3,g4.move (SLe.refl _) rfl rep live⟩;have ei:i≠d:=λe=>by subst e;rw[show(s.with (s.m.setq i r)).m.v i=s.m.v i from rfl,hv]at he;cases he
 refine(hs.vc i es he).move (λn sz e h=> ?_) (e2 i ei) (e1 i ei) (λ_=>rfl) rep live;show upd s.m.q d _ i=_;rw[e3 i ei];exact h
theorem Sim.forget (hs:Sim B S M s a w) (d:Nat):Sim B S M (s.with { s.m with v:=upd s.m.v d none }) a w:=by
 have live:∀i,ZX s.m i->ZX { s.m with v:=upd s.m.v d none } i:=λi h=>by cases i<;>exact h
 refine⟨hs.defers,hs.hn,hs.hB,hs.stable,hs.fr,λi k hk=>live k (hs.ids i k hk),λi b hb=> ?_,hs.row,hs.inj,hs.injq,hs.injx,λb c hc=> ?_,λi es he=> ?_,⟨hs.pn.h,hs.pn.q⟩,hs.hz⟩;have hb':=hs.blk i b hb;show GX _ _ _ _ _ _ _ (s.m.z i);cases hz:s.m.z i with
 |false=>
  rw[hz]at hb';obtain⟨h1,h2,⟨us,t',h3,h4,h5⟩,h6⟩:=hb';exact⟨h1,h2,⟨us,t',h3,h4,h5⟩,λc hc k hk=>live k (h6 c hc k hk)⟩
 |true=>rw[hz]at hb';exact hb'
 obtain⟨g1,g2,g3,g4⟩:=hs.rm b c hc;exact⟨g1,g2,g3,g4.move (SLe.refl _) rfl (λv p r _=>r) live⟩;by_cases e:d=i;subst e;simp only[St.with,Za]at he;cases he;simp only[St.with,Zk _ _ e]at he;exact(hs.vc i es he).move (λ_ _ _ h=>h) rfl rfl (λ_=>rfl) (λv p r _=>r) live
theorem Sim.deadRow (hs:Sim B S M s a w) (d:Nat):Sim B S M (s.with ({ s.m with v:=upd s.m.v d none }.setq d .dead)) a w:=by
 have h:=(hs.forget d).layRow (d:=d) (ψ:=M.ψ d) (κ:=M.κ d) (r:= .dead) (.inr .dead) trivial (Za _ _ _) (λ_ _ _ _ _ _ h=>by cases h) (λ_ _ _ _ h=>by cases h);rwa[XZ,XZ]at h
theorem Sim.newRow (hs:Sim B S M s a w) {d:Nat} {n sz c:Nat} {e:TypeId} {vs:List Value} {w':World}
  (hd:s.m.q d=none\/ ∃n0 sz0 e0,s.m.q d=some (.live n0 sz0 e0)/\n0<n) (hn:n<=c) (hc:c<=maxLen) (hl:vs.length=c*sz)
  (hw:∀k,k<w.heap.size->w'.heap[k]? = w.heap[k]?) (hnew:w'.heap[w.heap.size]? = some (.cells ⟨vs⟩ e (0,0))):
  Sim B (ZbD S w.heap.size (n*sz) vs) { M with ψ:=upd M.ψ d w.heap.size,κ:=upd M.κ d (c+1) } (s.with (s.m.setq d (.live n sz e))) a w':=by
 have hkl:n*sz<=vs.length:=by rw[hl];exact Ja _ hn
 have hle:SLe S (ZbD S w.heap.size (n*sz) vs):= .cells rfl λb o v hv=>by
  rw[XK];rw[if_neg];exact hv;rintro ⟨rfl,_⟩;rw[hs.S_lt (Jj _)]at hv;cases hv
 have hlt:w.heap.size<w'.heap.size:=(Jh.1 hnew).1;have g:=hs.grow (w':=w') hle (λb hb=>⟨λo=>by rw[XK,if_neg];rintro ⟨rfl,_⟩;omega,rfl⟩)
  ⟨λb o v hv=>by
   rw[XK]at hv;split at hv
   ·rename_i hb;obtain⟨rfl,ho⟩:=hb;rw[XH hnew,Je (by omega),<-hv,getD_lt (by omega)]
   ·have h':=hs.stable b o v hv;rw[<-h'];exact JQ (hw _ (De h')),λb es h=>(hs.stable.s.old hw).m b es h,λb h=>(hs.stable.s.old hw).y b h⟩
  hw (by omega)
 have q1:s.m.q d=none\/RowLe M { M with ψ:=upd M.ψ d w.heap.size,κ:=upd M.κ d (c+1) } d (s.m.q d) (some (.live n sz e)):=
  hd.imp (λh=>h) λ⟨n0,sz0,e0,h1,h2⟩=>⟨λn' sz' e' h=>by cases h;exact .inr ⟨n0,sz0,e0,h1,h2⟩,λ_ _ _ h=>by cases h⟩
 refine g.layRow q1 ⟨λh0=>by simp[Za]at h0,λc' hc'=> ?_⟩ (hs.v_none λn1 z1 t1 h=>by rcases hd with hd|⟨_,_,_,hd,_⟩<;>(rw[hd]at h;cases h)) (λi r' _ hi oi ki _ _=>by have:=hs.row_lt hi oi ki;omega) (λi cs hi zi _ _=>by have:=hs.blk_lt hi zi;omega);simp only[Za,Jq]at hc';subst hc';refine⟨hn,hc,by simp only[Za];exact hs.new_ok,⟨vs,by simp only[Za];exact hnew,hl⟩,λo ho=> ?_⟩;simp only[Za];rw[XK];rw[if_neg (by omega)];exact hs.S_lt (Jj _)
theorem Sim.growRow (hs:Sim B S M s a w) {d:Nat} {n m sz c:Nat} {e:TypeId} {news:List Value} (hd:s.m.q d=some (.live n sz e)) (hk:M.κ d=c+1) (hm:n+m<=c) (hl:news.length=m*sz):
  ∃vs,w.heap[M.ψ d]? = some (.cells ⟨vs⟩ e (0,0))/\vs.length=c*sz/\ ¬B (M.ψ d)/\(∀o,n*sz<=o->S (M.ψ d) o=none)/\
   let vs':=vs.take (n*sz)++news++vs.drop (n*sz+news.length)
   Sim B (Zr7 S (M.ψ d) (n*sz) ((n+m)*sz) vs') M (s.with (s.m.setq d (.live (n+m) sz e))) a (w.setRow (M.ψ d) ⟨vs'⟩):=by
 obtain⟨_,hrow⟩:=hs.row d _ hd;obtain⟨r0,r0',r1,⟨vs,r2,r3⟩,r4⟩:=hrow c hk;refine⟨vs,r2,r3,r1,r4,?_⟩;have hmul:(n+m)*sz<=c*sz:=Ja _ hm;have hsum:(n+m)*sz=n*sz+news.length:=by rw[Jg,hl]
 have hv':(vs.take (n*sz)++news++vs.drop (n*sz+news.length)).length=c*sz:=by
  simp only[Jf,Jk,Jl];omega
 intro vs';have hold:∀k,k≠M.ψ d->(w.setRow (M.ψ d) ⟨vs'⟩).heap[k]? = w.heap[k]? :=λk hk=>VA hk
 have hnew:(w.setRow (M.ψ d) ⟨vs'⟩).heap[M.ψ d]? = some (.cells ⟨vs'⟩ e (0,0)):=Vz r2;have hlt:M.ψ d<w.heap.size:=(Jh.1 r2).1;have hle:SLe S (Zr7 S (M.ψ d) (n*sz) ((n+m)*sz) vs'):= .cells rfl λb o v hv=>by
  show(if _ then _ else _)=some v;rw[if_neg];exact hv;rintro ⟨rfl,h1,_⟩;rw[r4 o h1]at hv;cases hv
 have e3:∀i,i≠d->upd s.m.q d (some (.live (n+m) sz e)) i=s.m.q i:=λi h=>Zk _ _ (Jt h)
 have rep:∀ {v p},RepS S M s.m.q v p->RepS (Zr7 S (M.ψ d) (n*sz) ((n+m)*sz) vs') M (upd s.m.q d (some (.live (n+m) sz e))) v p:=λr=>
  r.heap hle (λ_ _=>rfl) (λi hi=>by
   by_cases ei:i=d
   ·subst ei;rw[Za];refine⟨λn' sz' e' hq=> ?_,λ_ _ _ h=>by cases h⟩;cases hq
    by_cases h0:m=0
    ·subst h0;exact .inl ⟨hd,rfl,rfl⟩
    ·exact .inr ⟨n,sz,e,hd,by omega⟩
   ·exact .of_eq (e3 i ei) rfl rfl)
 have live:∀i,ZX s.m i->ZX (s.m.setq d (.live (n+m) sz e)) i:=λi h=>by
  cases i with
  |b i=>exact h
  |r i=>
   show upd _ _ _ _≠none;by_cases ei:i=d;subst ei;rw[Za];simp;rw[e3 i ei];exact h
 have back:∀ {i r},upd s.m.q d (some (.live (n+m) sz e)) i=some r-> ∃r2,s.m.q i=some r2/\(r.own=true->r2.own=true):=λ{i r} h=>by
  by_cases ei:i=d;subst ei;exact⟨_,hd,λ_=>rfl⟩;rw[e3 i ei]at h;exact⟨_,h,λh=>h⟩
 refine⟨hs.defers,hs.hn,by rw[VT];exact hs.hB,hs.stable.move hle (λb c hc=>(hs.stable.o b c hc).2.1) ⟨λb o v hv=> ?_,λb es he=> ?_,λb hb=>by
  obtain⟨vs1,t1,e1⟩:=hs.stable.s.y b hb;by_cases e':b=M.ψ d;rw[e']at e1 ⊢;exact⟨_,_,Vz e1⟩;exact⟨vs1,t1,by rw[hold b e'];exact e1⟩⟩ (λb c hc=>hold b (λe=>by subst e;obtain⟨es,h,_⟩:=(hs.stable.o _ c hc).2.2;rw[r2]at h;cases h)) (λb x hx=>hold b (λe=>by subst e;have h:=(hs.stable.i _ x hx).2.1;unfold IterAt at h;rw[r2]at h;cases h)),λi=>rep (hs.fr i),λi j hj=>live j (hs.ids i j hj),λi b hb=> ?_,λi r hr=> ?_,hs.inj,?_,?_,λb x hx=> ?_,λi es he=> ?_,hs.pn.move rfl rfl live (λ_ _=>rfl) λi hi=> ?_,hs.hz⟩
 rotate_right
 show RowLe M M i (s.m.q i) (upd s.m.q d _ i);by_cases ei:i=d;subst ei;rw[Za];refine⟨λn' sz' e' hq=> ?_,(by intro _ _ _ h;cases h)⟩;cases hq;by_cases h0:m=0;subst h0;exact .inl ⟨hd,rfl,rfl⟩;exact .inr ⟨n,sz,e,hd,by omega⟩;exact .of_eq (e3 i ei) rfl rfl;rw[Zsw]at hv;split at hv;rename_i hb;obtain⟨rfl,ho1,ho2⟩:=hb;rw[XH hnew,Je (by rw[hv'];omega),<-hv,getD_lt (by rw[hv'];omega)];rename_i hb;have h':=hs.stable b o v hv;by_cases eb:b=M.ψ d;subst eb;have ho:o<n*sz:=by
  refine Kd λh=> ?_
  rw[r4 o (by omega)]at hv;cases hv
 rw[XH r2]at h';rw[XH hnew];show(vs.take (n*sz)++news++vs.drop (n*sz+news.length))[o]? = some v;rw[KI,List.getElem?_append_left (by simp;omega),Kg ho];exact h';rw[<-h'];exact JQ (hold b eb);have h':=hs.stable.s.m b es he;rw[hold b (λe=>by subst e;rw[r2]at h';cases h')];exact h';have hb':=hs.blk i b hb;show GX _ _ _ _ _ _ _ (s.m.z i);cases hz:s.m.z i with
 |false=>
  rw[hz]at hb';obtain⟨h1,h2,⟨us,t',h3,h4,h5⟩,h6⟩:=hb';have hne:=hs.injx i d _ _ hb hz hd rfl (by omega);refine⟨h1,λo=> ?_,⟨us,t',by rw[hold _ hne];exact h3,h4,λj hj=>rep (h5 j hj)⟩,λc hc k hk=>live k (h6 c hc k hk)⟩;show(if _ then _ else _)=none;rw[if_neg (λh=>hne h.1)];exact h2 o
 |true=>rw[hz]at hb';obtain⟨vals,hv⟩:=hb';exact⟨vals,λj hj=>⟨hle _ _ _ (hv j hj).1,(hv j hj).2.mono hle⟩⟩
 simp only[St.with,Hp.setq]at hr;by_cases ei:i=d;subst ei;rw[Za]at hr;cases hr;refine⟨λh0=>by omega,λc' hc'=> ?_⟩;obtain rfl:c'=c:=by omega
 refine⟨hm,r0',r1,⟨vs',hnew,hv'⟩,λo ho=> ?_⟩;show(if _ then _ else _)=none;rw[if_neg (by omega)];exact r4 o (by rw[Jg]at ho;omega);rw[e3 i ei]at hr;have hr':=hs.row i r hr;cases r with
 |live n' sz' e'=>
  obtain⟨h1,h2⟩:=hr';refine⟨h1,λc' hc'=> ?_⟩;obtain⟨g0,g0',g1,⟨us,g2,g3⟩,g4⟩:=h2 c' hc';have hne:=hs.injq i d _ _ hr hd rfl rfl (by omega) (by omega) ei;refine⟨g0,g0',g1,⟨us,by rw[hold _ hne];exact g2,g3⟩,λo ho=> ?_⟩;show(if _ then _ else _)=none;rw[if_neg (λh=>hne h.1)];exact g4 o ho
 |vec n' sz' e'=>
  obtain⟨h1,h2⟩:=hr';refine⟨h1,λc' hc'=> ?_⟩;obtain⟨g0,g0',g1,⟨us,g2,g3⟩,g4⟩:=h2 c' hc';have hne:=hs.injq i d _ _ hr hd rfl rfl (by omega) (by omega) ei;refine⟨g0,g0',g1,⟨us,by rw[hold _ hne];exact g2,g3⟩,λo=> ?_⟩;show(if _ then _ else _)=none;rw[if_neg (λh=>hne h.1)];exact g4 o
 |dead=>trivial
 intro i j r1 r2 hi hj oi oj ki kj hij;obtain⟨_,hi',gi⟩:=back hi;obtain⟨_,hj',gj⟩:=back hj;exact hs.injq i j _ _ hi' hj' (gi oi) (gj oj) ki kj hij;intro i j ds r1 hi zi hj oj kj;obtain⟨_,hj',gj⟩:=back hj;exact hs.injx i j _ _ hi zi hj' (gj oj) kj;obtain⟨g1,g2,g3,g4⟩:=hs.rm b x hx;refine⟨g1,g2,g3,g4.move hle (hold b λee=> ?_) (λv p r _=>rep r) live⟩;obtain⟨⟨es,k1,_⟩,_⟩:=g4;subst ee;rw[r2]at k1;cases k1;obtain⟨sz1,e1,q1⟩:=hs.vec_q he;have ei:i≠d:=λe=>by subst e;rw[hd]at q1;cases q1
 refine(hs.vc i es he).move (λn sz e h=> ?_) rfl rfl (λhk=>hold _ (hs.injq i d _ _ q1 hd rfl rfl hk (by omega) ei)) (λv p r _=>rep r) live;show upd s.m.q d _ i=_;rw[e3 i ei];exact h
theorem ZpL {α:Type} {f:Nat->Option α} {d:Nat} (h:f d=none):upd f d none=f:=by
 funext j;by_cases e:d=j;subst e;rw[Za,h];rw[Zk _ _ e]
theorem Sim.moveRow (hs:Sim B S M s a w) {i d:Nat} {n sz:Nat} {e:TypeId} (hi:s.m.q i=some (.live n sz e)) (hd:s.m.q d=none):
  Sim B S { M with ψ:=upd M.ψ d (M.ψ i),κ:=upd M.κ d (M.κ i) } (s.with ((s.m.setq i .dead).setq d (.live n sz e))) a w:=by
 have hid:i≠d:=λh=>by subst h;rw[hi]at hd;cases hd
 have hs1:=hs.deadRow i;rw[ZpL (hs.v_none λ_ _ _ h=>by rw[hi]at h;cases h)]at hs1;have h:=hs1.layRow (d:=d) (ψ:=M.ψ i) (κ:=M.κ i) (r:= .live n sz e) (.inl ?_) ?_ (hs.v_none λ_ _ _ h=>by rw[hd]at h;cases h) (λj r' hj hq oj kj _ ki=> ?_) (λj cs hj zj _ ki=>hs.injx j i cs _ hj zj hi rfl ki);exact h;show upd s.m.q i _ d=none;rw[Zk _ _ hid];exact hd;have:=hs.row i _ hi;simpa only[ZcW,Za]using this;have hji:j≠i:=λe=>by subst e;simp only[St.with,Hp.setq,Za,Jn.injEq]at hq;subst hq;cases oj
 have hq':s.m.q j=some r':=by simpa only[St.with,Hp.setq,Zk _ _ (Jt hji)]using hq
 exact hs.injq j i _ _ hq' hi oj rfl kj ki hji
theorem Sim.layVec (hs:Sim B S M s a w) {d:Nat} {es:List PV} (hv:VecOk S M s.m w d es):Sim B S M (s.with { s.m with v:=upd s.m.v d (some es) }) a w:=by
 have live:∀i,ZX s.m i->ZX { s.m with v:=upd s.m.v d (some es) } i:=λi h=>by cases i<;>exact h
 refine⟨hs.defers,hs.hn,hs.hB,hs.stable,hs.fr,λi k hk=>live k (hs.ids i k hk),λi b hb=> ?_,hs.row,hs.inj,hs.injq,hs.injx,λb c hc=> ?_,λi es' he=> ?_,⟨hs.pn.h,hs.pn.q⟩,hs.hz⟩;have hb':=hs.blk i b hb;show GX _ _ _ _ _ _ _ (s.m.z i);cases hz:s.m.z i with
 |false=>
  rw[hz]at hb';obtain⟨h1,h2,⟨us,t',h3,h4,h5⟩,h6⟩:=hb';exact⟨h1,h2,⟨us,t',h3,h4,h5⟩,λc hc k hk=>live k (h6 c hc k hk)⟩
 |true=>rw[hz]at hb';exact hb'
 obtain⟨g1,g2,g3,g4⟩:=hs.rm b c hc;exact⟨g1,g2,g3,g4.move (SLe.refl _) rfl (λv p r _=>r) live⟩;by_cases e:d=i;subst e;simp only[St.with,Za,Jn.injEq]at he;subst he;exact hv.move (λ_ _ _ h=>h) rfl rfl (λ_=>rfl) (λv p r _=>r) live;simp only[St.with,Zk _ _ e]at he;exact(hs.vc i es' he).move (λ_ _ _ h=>h) rfl rfl (λ_=>rfl) (λv p r _=>r) live
theorem Sim.moveVec (hs:Sim B S M s a w) {i d:Nat} {es:List PV} {sz:Nat} {e:TypeId} (hi:s.m.q i=some (.vec es.length sz e)) (hvi:s.m.v i=some es) (hd:s.m.q d=none):
  Sim B S { M with ψ:=upd M.ψ d (M.ψ i),κ:=upd M.κ d (M.κ i) } (s.with { ({ s.m with v:=upd s.m.v i none }.setq i .dead).setq d (.vec es.length sz e)with v:=upd (upd s.m.v i none) d (some es) }) a w:=by
 have hid:i≠d:=λh=>by subst h;rw[hi]at hd;cases hd
 have hs1:=hs.deadRow i;have hvd:s.m.v d=none:=hs.v_none λ_ _ _ h=>by rw[hd]at h;cases h
 have hq1:(s.with ({ s.m with v:=upd s.m.v i none }.setq i .dead)).m.q d=none:=by
  show upd s.m.q i _ d=none;rw[Zk _ _ hid];exact hd
 have h:=hs1.layRow (d:=d) (ψ:=M.ψ i) (κ:=M.κ i) (r:= .vec es.length sz e) (.inl hq1) (by have:=hs.row i _ hi;simpa only[ZcW,Za]using this) (by show upd s.m.v i none d=none;rw[Zk _ _ hid];exact hvd) (λj r' hj hq oj kj _ ki=>by
  have hji:j≠i:=λe=>by subst e;simp only[St.with,Hp.setq,Za,Jn.injEq]at hq;subst hq;cases oj
  have hq':s.m.q j=some r':=by simpa only[St.with,Hp.setq,Zk _ _ (Jt hji)]using hq
  exact hs.injq j i _ _ hq' hi oj rfl kj ki hji) (λj cs hj zj _ ki=>hs.injx j i cs _ hj zj hi rfl ki)
 refine h.layVec (es:=es) ?_;refine(hs.vc i es hvi).move (λn1 z1 t1 hq=> ?_) (by simp only[Za]) (by simp only[Za]) (λ_=>rfl) (λv p r hids=> ?_) (λk hk=>XP k (XP k (by cases k<;>exact hk)));rw[hi]at hq;cases hq;exact Za _ _ _;refine r.heap (SLe.refl _) (λ_ _=>rfl) λk hk=> ?_
 show RowLe M _ k (s.m.q k) (upd (upd s.m.q i (some .dead)) d _ k);by_cases e1:d=k;subst e1;exact absurd hd (hids _ hk);rw[Zk _ _ e1];by_cases e2:i=k;subst e2;rw[Za];exact .dead;rw[Zk _ _ e2];exact .same (Zk _ _ e1) (Zk _ _ e1)
end
open Go.RowKit
def Sized (n:Nat) (es:List PV):Prop:=∀e∈es,e.cells.length=n
def Xw (es:List PV):Prop:=∀e∈es,e.cells.all PV.atom=true
structure EInfo where
 e:TypeId
 size:Nat
 bytes:Nat
def We (P:Program) (t:TypeId):Option EInfo:=
 match P.underlying t with
 |some (.slice e)=>match P.info? e with
  |some i=>match i.zero with
   |some z=>if z.cells.size=i.size/\0<i.size then some ⟨e,i.size,i.bytes⟩else none
   |none=>none
  |none=>none
 |_=>none
theorem YP {P:Program} {t:TypeId} {x:EInfo} (h:We P t=some x):∃i z,P.underlying t=some (.slice x.e)/\P.info? x.e=some i/\i.zero=some z/\z.cells.size=x.size/\i.size=x.size/\i.bytes=x.bytes/\0<x.size/\tsz P x.e=x.size:=by
 unfold We at h;split at h;rename_i e he;split at h;rename_i i hi;split at h;rename_i z hz;split at h;rename_i hc;simp only[Jn.injEq]at h;subst h;exact⟨i,z,he,hi,hz,hc.1,rfl,rfl,hc.2,by simp[tsz,Program.cellsOf,hi]⟩;cases h;cases h;cases h;cases h
section
variable {P:Program} {B:Frm} {S:Stable} {M:Maps} {s:St} {a:Act} {w:World}
theorem ZbV {n i j:Nat} (hj:j<n):(i*n+j) / n=i/\(i*n+j) % n=j:=by
 have hn:0<n:=by omega
 exact⟨by rw[KJ,Nat.add_mul_div_right _ _ hn,Nat.div_eq_of_lt hj,JA],by rw[KJ,J9,KN hj]⟩
theorem Rep.src (hst:∀b o v,S b o=some v->w.cell? ⟨b,o,none⟩=some v) {v:Value} {xs:List PV} {sz:Nat} (r:Rep S v (.sl .no xs)) (hz:Sized sz xs) (hat:Xw xs) {tx e':TypeId} (hk:P.underlying tx=some (.slice e')):
  ∃news:List Value,Src P sz tx v xs.length news w/\ ∀i j,i<xs.length->j<sz->Rep S (news.getD (i*sz+j) undef) ((xs.getD i .any).cells.getD j .any):=by
 by_cases h0:xs.length=0;have hx:xs= []:=Jc h0;subst hx;obtain⟨ad,cap,rfl,_⟩:=r.sl_len;refine⟨[],?_,λi j hi=>by simp at hi⟩;cases ad with
 |none=>exact Src.ofNil w hk cap
 |some ad=>exact Src.ofSlice w hk ad 0 cap [] (by simp) (by simp) (by simp)
 have hpos:0<xs.length:=by omega
 obtain⟨b,o,cap,vals,rfl,hcap,hu,hS,hR⟩:=r.sl_at hpos;have e0:(xs.getD 0 .any).cells.length=sz:=hz _ (Ze hpos);rw[e0]at hS hR hu;have key:∀k,k<xs.length*sz->(k / sz<xs.length/\k % sz<sz/\k / sz*sz+k % sz=k):=λk hk=>by
  have hsz:0<sz:=KD λh=>by subst h;simp at hk
  exact⟨by rw[Ks hsz];exact hk,K4 _ hsz,by rw[Kl];exact Kq k sz⟩
 refine⟨(JY (xs.length*sz)).map λk=>vals (k / sz) (k % sz),?_,λi j hi hj=> ?_⟩;refine Src.ofSlice w hk ⟨b,o,none⟩ xs.length cap _ (by simp) (λk u hu'=> ?_) (λu hu'=> ?_);rw[Ke]at hu';obtain⟨k',hk',rfl⟩:=Option.map_eq_some_iff.1 hu';obtain⟨h1,h2⟩:=JK.1 hk';simp only[List.length_range]at h1;simp only[Ka]at h2;subst h2;obtain⟨g1,g2,g3⟩:=key k h1;rw[YL];have:=hst _ _ _ (hS (k / sz) (k % sz) g1 g2);rw[JW,g3]at this;exact this;obtain⟨k,hk',rfl⟩:=J5.1 hu';obtain⟨g1,g2,g3⟩:=key k (by simpa using hk');have hr:=hR (k / sz) (k % sz) g1 g2;have hc:=hz _ (Ze (d:=PV.any) g1);have ha:=JS.1 (hat _ (Ze (d:=PV.any) g1)) _ (Ze (d:=PV.any) (by rw[hc];exact g2));exact(RepS.clean (M:=⟨id,id,id⟩) (q:=λ_=>none) hr).atom_inv ha;have hlt:i*sz+j<xs.length*sz:=by
  have:=Ja sz (show i+1<=xs.length by omega);rw[Jg]at this;omega
 rw[getD_lt (by simpa using hlt)];simp only[JD,Ka];obtain⟨d1,d2⟩:=ZbV (i:=i) hj;rw[d1,d2];exact hR i j hi hj
def Xd (l:List UInt8):List PV:=l.map λb=> .int .u8 b.toNat
theorem Zcx {tx:TypeId} (hk:P.underlying tx=some .string) (l:List UInt8):
  ∃news:List Value,Src P 1 tx (.string ⟨⟨l⟩⟩) (Xd l).length news w/\ ∀i j,i<(Xd l).length->j<1->Rep S (news.getD (i*1+j) undef) (((Xd l).getD i .any).cells.getD j .any):=by
 refine⟨byteCells ⟨⟨l⟩⟩,?_,λi j hi hj=> ?_⟩;have:=Src.ofString (P:=P) w hk ⟨⟨l⟩⟩;have e:(⟨⟨l⟩⟩:ByteArray).size=(Xd l).length:=by simp[Xd,ByteArray.size]
 rw[e]at this;exact this;obtain rfl:j=0:=by omega
 simp only[Xd,JO]at hi;rw[Ql,JR,getD_lt (by simpa[byteCells]using hi)];simp only[byteCells,JD,Xd];rw[getD_lt (l:=Kx _ l) (by simpa using hi)];simp only[JD];exact .int _ _
theorem TJ {b cap sz:Nat} {es:List PV} (hz:Sized sz es) (hcap:es.length<=cap) {cells:List Value} (hS:∀k,k<es.length*sz->S b k=some (cells.getD k undef))
  (hR:∀i j,i<es.length->j<sz->Rep S (cells.getD (i*sz+j) undef) ((es.getD i .any).cells.getD j .any)):Rep S (.slice (some ⟨b,0,none⟩) es.length cap) (.sl .no es):=by
 refine .sl b 0 cap sz es (λi j=>cells.getD (i*sz+j) undef) (λi hi=>hz _ (Ze hi)) hcap (λi j hi hj=> ?_) hR;rw[JA];apply hS;have:=Ja sz (show i+1<=es.length by omega);rw[Jg]at this;omega
theorem Rep.cells_of {v:Value} {es:List PV} {sz b c:Nat} (r:Rep S v (.sl .no es)) (hv:v= .slice (some ⟨b,0,none⟩) es.length c) (hz:Sized sz es):
  ∃cells:List Value,cells.length=es.length*sz/\(∀k,k<es.length*sz->S b k=some (cells.getD k undef))/\ ∀i j,i<es.length->j<sz->Rep S (cells.getD (i*sz+j) undef) ((es.getD i .any).cells.getD j .any):=by
 by_cases h0:es.length=0;have hx:es= []:=Jc h0;subst hx;exact⟨[],by simp,λk hk=>by simp at hk,λi j hi=>by simp at hi⟩;have hpos:0<es.length:=by omega
 obtain⟨b',o,cap,vals,e,hcap,hu,hS,hR⟩:=r.sl_at hpos;rw[hv]at e;cases e;have e0:(es.getD 0 .any).cells.length=sz:=hz _ (Ze hpos);rw[e0]at hS hR hu;refine⟨(JY (es.length*sz)).map λk=>vals (k / sz) (k % sz),by simp,λk hk=> ?_,λi j hi hj=> ?_⟩;have hsz:0<sz:=KD λh=>by subst h;simp at hk
 have:=hS (k / sz) (k % sz) (by rw[Ks hsz];exact hk) (K4 _ hsz);rw[JA,Kl,Kq]at this;rw[getD_lt (by simpa using hk)];simpa using this;have hlt:i*sz+j<es.length*sz:=by
  have:=Ja sz (show i+1<=es.length by omega);rw[Jg]at this;omega
 rw[getD_lt (by simpa using hlt)];simp only[JD,Ka];obtain⟨d1,d2⟩:=ZbV (i:=i) hj;rw[d1,d2];exact hR i j hi hj
theorem ZaC {es xs:List PV} {sz:Nat} {c1 c2:List Value} (hl:c1.length=es.length*sz) (h1:∀i j,i<es.length->j<sz->Rep S (c1.getD (i*sz+j) undef) ((es.getD i .any).cells.getD j .any))
  (h2:∀i j,i<xs.length->j<sz->Rep S (c2.getD (i*sz+j) undef) ((xs.getD i .any).cells.getD j .any)):
  ∀i j,i<(es++xs).length->j<sz->Rep S ((c1++c2).getD (i*sz+j) undef) (((es++xs).getD i .any).cells.getD j .any):=by
 intro i j hi hj;by_cases hlt:i<es.length;have hb:i*sz+j<c1.length:=by
  have:=Ja sz (show i+1<=es.length by omega);rw[Jg]at this;omega
 rw[Zg hb,Zg hlt];exact h1 i j hlt hj;have hb:c1.length<=i*sz+j:=by
  have:=Ja sz (show es.length<=i by omega);omega
 rw[Zj hb,Zj (by omega)];have e:i*sz+j-c1.length=(i-es.length)*sz+j:=by
  rw[hl,Qm];have:=Ja sz (show es.length<=i by omega);omega
 rw[e];exact h2 _ _ (by simp at hi;omega) hj
theorem Sized.append {n:Nat} {a b:List PV} (ha:Sized n a) (hb:Sized n b):Sized n (a++b):=λe he=>(JL.1 he).elim (ha e) (hb e)
end
open Go.RowKit
def Zjl (n bytes:Nat):Prop:=n*bytes<=140737488355328/\n<=maxLen
theorem ZaV {α:Type} (f:Nat->α) (i:Nat) (u v:α):upd (upd f i u) i v=upd f i v:=by
 funext j;by_cases e:i=j<;>simp[upd,e]
section
variable {P:Program} {B:Frm} {S:Stable} {M:Maps} {s:St} {a:Act} {w:World}
theorem Sim.world (hs:Sim B S M s a w) {w':World} (h:w'.heap=w.heap):Sim B S M s a w':=by
 have hc:∀x,w'.cell? x=w.cell? x:=λx=>by simp[KT,h]
 exact hs.grow (SLe.refl S) (λ_ _=>⟨λ_=>rfl,rfl⟩) (hs.stable.s.old (λk hk=>by rw[h])) (λk hk=>by rw[h]) (by rw[h];exact Jj _)
theorem Sim.nilRow (hs:Sim B S M s a w) {d sz:Nat} {e:TypeId} (hd:s.m.q d=none):Sim B S { M with κ:=upd M.κ d 0 } (s.with (s.m.setq d (.live 0 sz e))) a w:=by
 have h:=hs.layRow (d:=d) (ψ:=M.ψ d) (κ:=0) (r:= .live 0 sz e) (.inl hd) ⟨λ_=>rfl,λc hc=>by simp[Za]at hc⟩ (hs.v_none λ_ _ _ h=>by rw[hd]at h;cases h) (λ_ _ _ _ _ _ _ h=>absurd h (J7 _)) (λ_ _ _ _ _ h=>absurd h (J7 _));rwa[XZ]at h
theorem Sim.nilVec (hs:Sim B S M s a w) {d sz:Nat} {e:TypeId} (hd:s.m.q d=none):Sim B S { M with κ:=upd M.κ d 0 } (s.with { s.m.setq d (.vec 0 sz e)with v:=upd s.m.v d (some []) }) a w:=by
 have h:=hs.layRow (d:=d) (ψ:=M.ψ d) (κ:=0) (r:= .vec 0 sz e) (.inl hd) ⟨λ_=>rfl,λc hc=>by simp[Za]at hc⟩ (hs.v_none λ_ _ _ h=>by rw[hd]at h;cases h) (λ_ _ _ _ _ _ _ h=>absurd h (J7 _)) (λ_ _ _ _ _ h=>absurd h (J7 _));rw[XZ]at h;exact h.layVec (es:= []) ⟨sz,e,Za _ _ _,λ_ h=>by simp at h,λ_ h=>by simp at h,λc _ vs t f _ i j hi=>by simp at hi⟩
def ZqB (P:Program) (B:Frm) (S:Stable) (s:St) (a:Act) (w:World) (m:Sem Value) (d n sz:Nat) (e:TypeId) (es:List PV):Prop:=
 ∃v w' S' M',m.run P w= .ok v w'/\Sim B S' M' (s.with (s.m.setq d (.live n sz e))) a w'/\Rep S' v (.sl .no es)/\es.length=n/\
  (M'.κ d=0->v= .slice none 0 0)/\(∀c,M'.κ d=c+1->v= .slice (some ⟨M'.ψ d,0,none⟩) n c)/\Ext B S S' w w'
theorem G8 (hs:Sim B S M s a w) {d n:Nat} {t tx ty:TypeId} {x:EInfo} (hx:We P t=some x) {base:Option Addr} {sLen sCap:Nat} {es ys:List PV} {olds news:List Value} {y:Value}
  (hd:s.m.q d=none\/ ∃n0 sz0 e0,s.m.q d=some (.live n0 sz0 e0)/\n0<sLen+ys.length) (hold:(Jm x.size sLen (.slice base sLen sCap)).run P w.drew= .ok olds.toArray w.drew)
  (hle:es.length=sLen) (ho:olds.length=sLen*x.size) (hro:∀i j,i<es.length->j<x.size->Rep S (olds.getD (i*x.size+j) undef) ((es.getD i .any).cells.getD j .any))
  (hsrc:Src P x.size tx y ys.length news w) (hrn:∀i j,i<ys.length->j<x.size->Rep S (news.getD (i*x.size+j) undef) ((ys.getD i .any).cells.getD j .any))
  (hz1:Sized x.size es) (hz2:Sized x.size ys) (hg:sCap<sLen+ys.length) (hroom:Zjl (sLen+ys.length) x.bytes):
  ZqB P B S s a w (Jz #[t,tx] ty #[.slice base sLen sCap,y]) d (sLen+ys.length) x.size x.e (es++ys):=by
 obtain⟨i,z,h1,h2,h3,h4,h5,h6,h7,h8⟩:=YP hx;obtain⟨r1,r2⟩:=hroom;have h63:((sLen+ys.length:Nat):Int)<=9223372036854775807:=by simp only[maxLen]at r2;omega
 have hrun:=run_append_grow_src (P:=P) w t tx ty x.e i z h1 h2 h3 base sLen sCap olds (by rw[h5];exact hold) y ys.length news (by rw[h5];exact hsrc) hg h63
  (by rw[h6];exact growslice_fits hg r1)
 have hge:=grownCap_ge w (sLen+ys.length) sCap x.e;have hcm:=grownCap_le_maxLen w (sLen+ys.length) sCap x.e r2;generalize hcap:grownCap w (sLen+ys.length) sCap x.e=cap at *;have hlen:(olds++news).length=(sLen+ys.length)*x.size:=by rw[Jf,ho,hsrc.newsLen,Jg]
 let vs:List Value:=olds++news++(JM z.cells (cap-(sLen+ys.length))).toList;have hvl:vs.length=cap*x.size:=by
  show(olds++news++_).length=_;have hzl:(JM z.cells (cap-(sLen+ys.length))).toList.length=(cap-(sLen+ys.length))*x.size:=by
   rw[JC,size_zeroCells,h4]
  rw[Jf,hlen,hzl,<-Jg];congr 1;omega
 have harr:(olds++news).toArray++JM z.cells (cap-(sLen+ys.length))=⟨vs⟩:=by
  apply JZ;simp[vs]
 rw[harr]at hrun;have hsim:=hs.newRow (w':=w.drew.alloc (.cells ⟨vs⟩ x.e)) hd hge hcm hvl (λk hk=>ZZ w.drew _ hk) (alloc_heap_new w.drew _);have hle':SLe S (ZbD S w.heap.size ((sLen+ys.length)*x.size) vs):= .cells rfl λb o v hv=>by
  rw[XK];rw[if_neg];exact hv;rintro ⟨rfl,_⟩;rw[hs.S_lt (Jj _)]at hv;cases hv
 refine⟨_,_,_,_,hrun,hsim,?_,by simp[hle],?_,?_,hle',?_,?_⟩;have:=TJ (S:=ZbD S w.heap.size ((sLen+ys.length)*x.size) vs) (b:=w.heap.size) (cap:=cap) (es:=es++ys) (sz:=x.size) (hz1.append hz2) (by simp;omega) (cells:=olds++news)
  (λk hk=>by
   have hk':k<(olds++news).length:=by rw[hlen];simpa[hle]using hk
   rw[XK,if_pos ⟨rfl,by rw[<-hlen];exact hk'⟩];show some ((olds++news++_).getD k undef)=_;rw[Zg hk'])
  (λi j hi hj=>(ZaC (by rw[ho,hle]) hro hrn i j hi hj).mono hle')
 simpa[hle]using this;intro h0;simp[Za]at h0;intro c hc;simp only[Za,Jq]at hc ⊢;rw[hc];intro b hb;refine⟨λo=> ?_,rfl⟩;rw[XK,if_neg];rintro ⟨rfl,_⟩;exact hs.new_ok hb;exact((BelowF.refl B w).drew).alloc hs.hB _
theorem ZgC (hs:Sim B S M s a w) {d n c:Nat} {t tx ty:TypeId} {x:EInfo} (hx:We P t=some x) {es ys:List PV} {news:List Value} {y:Value}
  (hd:s.m.q d=some (.live n x.size x.e)) (hk:M.κ d=c+1) (hn:es.length=n) (hre:Rep S (.slice (some ⟨M.ψ d,0,none⟩) n c) (.sl .no es))
  (hsrc:Src P x.size tx y ys.length news w) (hrn:∀i j,i<ys.length->j<x.size->Rep S (news.getD (i*x.size+j) undef) ((ys.getD i .any).cells.getD j .any))
  (hz1:Sized x.size es) (hz2:Sized x.size ys) (hg:n+ys.length<=c):
  ZqB P B S s a w (Jz #[t,tx] ty #[.slice (some ⟨M.ψ d,0,none⟩) n c,y]) d (n+ys.length) x.size x.e (es++ys):=by
 obtain⟨i,z,h1,h2,h3,h4,h5,h6,h7,h8⟩:=YP hx;subst hn;obtain⟨vs,g1,g2,g3,g3',g4⟩:=hs.growRow (m:=ys.length) (news:=news) hd hk hg hsrc.newsLen;simp only at g4;have hmul:(es.length+ys.length)*x.size<=c*x.size:=Ja _ hg;have hsum:(es.length+ys.length)*x.size=es.length*x.size+news.length:=by rw[Jg,hsrc.newsLen]
 have hst:=run_storeCells_at (P:=P) (M.ψ d) (es.length*x.size) x.e news 0 ⟨vs⟩ w g1 (by simp;omega) hsrc.one;simp only[JR]at hst;have hrun:(Jz #[t,tx] ty #[.slice (some ⟨M.ψ d,0,none⟩) es.length c,y]).run P w= .ok (.slice (some ⟨M.ψ d,0,none⟩) (es.length+ys.length) c) (w.setRow (M.ψ d) ⟨vs.take (es.length*x.size)++news++vs.drop (es.length*x.size+news.length)⟩):=by
  have e5:(sizeOf x.e).run P w= .ok x.size w:=by rw[Yu h2,h8]
  rcases hsrc.kind with ⟨e',hk'⟩|hk'<;>simp[Jz,run_underlying h1,run_underlying hk',e5,hsrc.len,hg,hsrc.cells,Addr.add_lit,hst]
 obtain⟨cells,hcl,hcS,hcR⟩:=hre.cells_of rfl hz1;have hle:SLe S (Zr7 S (M.ψ d) (es.length*x.size) ((es.length+ys.length)*x.size) (vs.take (es.length*x.size)++news++vs.drop (es.length*x.size+news.length))):= .cells rfl λb o v hv=>by
  show(if _ then _ else _)=some v;rw[if_neg];exact hv;rintro ⟨rfl,h1,_⟩;rw[g3' o h1]at hv;cases hv
 refine⟨_,_,_,_,hrun,g4,?_,by simp,?_,?_,hle,?_,V2 g3⟩;have:=TJ (b:=M.ψ d) (cap:=c) (es:=es++ys) (sz:=x.size) (S:=Zr7 S (M.ψ d) (es.length*x.size) ((es.length+ys.length)*x.size) (vs.take (es.length*x.size)++news++vs.drop (es.length*x.size+news.length))) (hz1.append hz2) (by simp;omega) (cells:=cells++news)
  (λk hk=>by
   simp only[Jf]at hk;show(if _ then _ else _)=_
   by_cases hlt:k<es.length*x.size
   ·rw[if_neg (by omega),hcS k hlt,Zg (by omega)]
   ·rw[if_pos ⟨rfl,by omega,hk⟩,Zj (l:=cells) (by omega),Zg (by simp;omega),Zj (by simp;omega)];congr 2;simp;omega)
  (λi j hi hj=>(ZaC hcl hcR hrn i j hi hj).mono hle)
 simpa using this;intro h0;omega;intro c' hc';obtain rfl:c'=c:=by omega
 rfl;intro b hb;refine⟨λo=> ?_,rfl⟩;show(if _ then _ else _)=_;rw[if_neg];rintro ⟨rfl,_⟩;exact g3 hb
def WW (P:Program) (tx:TypeId) (y:PV):Option (List PV):=
 match tix P tx,y with
 | .slc _ _,.sl _ ys=>some ys
 | .str,.str l=>some (Xd l)
 |_,_=>none
def UP (P:Program) (d:Nat) (t tx:TypeId) (x y:PV) (m:Hp):ARes:=
 match We P t,WW P tx y,x with
 |some ei,some ys,.sl .nil _=>⟨m.q d=none/\Sized ei.size ys/\Xw ys/\Zjl ys.length ei.bytes,.sl (.row d) ys,m.setq d (.live ys.length ei.size ei.e)⟩
 |some ei,some ys,.sl (.row id) es=>match m.q id with
  |some (.live n sz e)=>⟨n=es.length/\sz=ei.size/\e=ei.e/\(d=id\/m.q d=none)/\Sized ei.size es/\Sized ei.size ys/\Xw ys/\Zjl (es.length+ys.length) ei.bytes,
    .sl (.row d) (es++ys),if d=id then m.setq d (.live (es.length+ys.length) ei.size ei.e)else(m.setq id .dead).setq d (.live (es.length+ys.length) ei.size ei.e)⟩
  |_=> .fail
 |_,_,_=> .fail
theorem X3 {t tx ty:TypeId} {x:EInfo} (hx:We P t=some x) {base:Option Addr} {sLen sCap:Nat} (hle:sLen<=sCap) {y:Value} {news:List Value} (hs:Src P x.size tx y 0 news w):
  (Jz #[t,tx] ty #[.slice base sLen sCap,y]).run P w= .ok (.slice base sLen sCap) w:=by
 obtain⟨i,z,h1,h2,h3,h4,h5,h6,h7,h8⟩:=YP hx;have hn:news= []:=Jc (by simpa using hs.newsLen);subst hn;exact run_append_nothing w t tx ty x.e i h1 h2 base sLen sCap hle y (by rw[h5];exact hs)
theorem ZfJ (hs:Sim B S M s a w) {d:Nat} {t tx ty:TypeId} {u v:Value} {p y:PV} (hu:RepS S M s.m.q u p) (hui:∀i∈p.ids,ZX s.m i) (hv:RepS S M s.m.q v y)
  (hok:(UP P d t tx p y s.m).ok):Snd P B S s a w (Jz #[t,tx] ty #[u,v]) (UP P d t tx p y s.m):=by
 have src:∀ {ei:EInfo} {ys:List PV},WW P tx y=some ys->Sized ei.size ys->Xw ys->0<ei.size-> ∃news:List Value,Src P ei.size tx v ys.length news w/\ ∀i j,i<ys.length->j<ei.size->Rep S (news.getD (i*ei.size+j) undef) ((ys.getD i .any).cells.getD j .any):=by
  intro ei ys hy hz hat hpos;unfold WW at hy;split at hy;rename_i es2 ea tk ys' heq;cases hy;obtain⟨e,d',ti,h1,_⟩:=TQ heq;exact hv.sl_inv.src hs.stable hz hat h1;rename_i l heq;cases hy;have h1:=ZdN heq;rw[hv.str_inv];by_cases h0:l= [];subst h0;refine⟨[],?_,λi j hi=>by simp[Xd]at hi⟩;refine⟨.inr h1,λ_=>rfl,?_,?_,by simp[Xd],λ_ h=>by cases h⟩;simp[Jm,Xd];simp[Jm,Xd];have e1:ei.size=1:=by
   obtain⟨c,l',rfl⟩:=Kb h0;exact(hz (.int .u8 c.toNat) (by simp[Xd])).symm
  rw[e1];exact Zcx h1 l;cases hy
 -- the row keeps its name,or goes under another one
 have close:∀ {n sz:Nat} {e:TypeId} {es:List PV} {id:Nat} {ok:Prop} {m:Sem Value},ZqB P B S s a w m id n sz e es->(d=id\/(s.m.q d=none/\s.m.q id≠none))->
   Snd P B S s a w m ⟨ok,.sl (.row d) es,if d=id then s.m.setq d (.live n sz e)else(s.m.setq id .dead).setq d (.live n sz e)⟩:=by
  intro n sz e es id ok m hap hdi;obtain⟨v',w',S',M',h1,h2,h3,h4,h5,h6,h7⟩:=hap
  by_cases hd:d=id
  ·subst hd;refine⟨v',w',S',M',h1,?_,?_,?_,h7⟩
   ·simp only[if_true];exact h2
   ·simp only[if_true];refine .row d v' es h3 λn' sz' e' hq=> ?_
    simp only[Hp.setq,Za]at hq;cases hq;exact⟨by omega,λ_=>⟨h5,h6⟩⟩
   ·intro i hi;simp only[PV.ids,Jy]at hi;subst hi;simp[ZX,Hp.setq,Za]
  ·rcases hdi with hdi|⟨hdn,hin⟩
   ·exact absurd hdi hd
   ·have hq1:(s.with (s.m.setq id (.live n sz e))).m.q id=some (.live n sz e):=Za _ _ _;have hq2:(s.with (s.m.setq id (.live n sz e))).m.q d=none:=by
     show upd s.m.q id _ d=none;rw[Zk _ _ (Jt hd)];exact hdn
    have h2':=h2.moveRow hq1 hq2;simp only[St.with,Hp.setq,ZaV]at h2';refine⟨v',w',S',{ M' with ψ:=upd M'.ψ d (M'.ψ id),κ:=upd M'.κ d (M'.κ id) },h1,?_,?_,?_,h7⟩
    ·simp only[if_neg hd];exact h2'
    ·simp only[if_neg hd];refine .row d v' es h3 λn' sz' e' hq=> ?_
     simp only[Hp.setq,Za]at hq;cases hq;refine⟨by omega,λ_=> ?_⟩;simp only[Za];exact⟨h5,h6⟩
    ·intro i hi;simp only[PV.ids,Jy]at hi;subst hi;simp[ZX,Hp.setq,Za,if_neg hd]
 revert hok;unfold UP;split;rename_i ei ys es hx hy;rintro ⟨g1,g2,g3,g4⟩;obtain⟨i,z,h1,h2,h3,h4,h5,h6,h7,h8⟩:=YP hx;obtain⟨news,hsrc,hrn⟩:=src hy g2 g3 h7;rw[hu.slnil_inv];have base:∀(w:World),(Jm ei.size 0 (.slice none 0 0)).run P w= .ok ([]:List Value).toArray w:=λw=>by simp[Jm]
 by_cases hm:ys.length=0;have e0:ys= []:=Jc hm;subst e0;have hrun:=X3 (ty:=ty) hx (base:=none) (Jj 0) hsrc;refine⟨_,w,S,{ M with κ:=upd M.κ d 0 },hrun,hs.nilRow g1,?_,?_,Ext.refl _ _ _⟩;refine .row d _ [] (.sl0 none 0) λn' sz' e' hq=> ?_
 simp only[Hp.setq,Za]at hq;cases hq;exact⟨Jj _,λ_=>⟨λ_=>rfl,λc hc=>by simp[Za]at hc⟩⟩;intro i hi;simp only[PV.ids,Jy]at hi;subst hi;simp[ZX,Hp.setq,Za];have hap:=G8 (n:=0) hs (d:=d) (ty:=ty) hx (.inl g1) (es:= []) (olds:= []) (base w.drew) rfl (by simp) (λi j hi=>by simp at hi) hsrc hrn (λ_ h=>by cases h) g2 (by omega) (by simpa using g4);simp only[JA,K0]at hap;have:=close (ok:=s.m.q d=none/\Sized ei.size ys/\Xw ys/\Zjl ys.length ei.bytes) hap (.inl rfl);simpa using this;rename_i ei ys id es hx hy;split;rename_i n sz e hq;rintro ⟨g0,g1,g2,g3,g4,g5,g6,g7⟩;subst g0;subst g1;subst g2;obtain⟨i,z,h1,h2,h3,h4,h5,h6,h7,h8⟩:=YP hx;obtain⟨news,hsrc,hrn⟩:=src hy g5 g6 h7;have hdi:d=id\/(s.m.q d=none/\s.m.q id≠none):=g3.imp (λh=>h) (λh=>⟨h,by rw[hq];simp⟩);refine close ?_ hdi;have hrow:Rep S u (.sl .no es)/\(M.κ id=0->u= .slice none 0 0)/\(∀c,M.κ id=c+1->u= .slice (some ⟨M.ψ id,0,none⟩) es.length c):=by
  cases hu with
  |clean r=>cases r
  |row id v es r t=>obtain⟨_,t2⟩:=t _ _ _ hq;exact⟨r,t2 rfl⟩
 obtain⟨hre,k0,k1⟩:=hrow;obtain⟨r0,r1⟩:=hs.row id _ hq;have self:s.m.setq id (.live es.length ei.size ei.e)=s.m:=by
  have:upd s.m.q id (some (.live es.length ei.size ei.e))=s.m.q:=by
   funext k;by_cases e:id=k;subst e;simp[upd,hq];simp[upd,e]
  unfold Hp.setq;rw[this]
 cases hk:M.κ id with
 |zero=>
  have hu0:=k0 hk;have he0:es= []:=Jc (r0 hk);subst he0;subst hu0;by_cases hm:ys.length=0;have e0:ys= []:=Jc hm;subst e0;have hrun:=X3 (ty:=ty) hx (base:=none) (Jj 0) hsrc;refine⟨_,w,S,M,hrun,?_,.sl0 none 0,rfl,λ_=>rfl,λc hc=>(by rw[hk]at hc;cases hc),Ext.refl _ _ _⟩;simp only[Kn,JR]at self ⊢;rw[self];exact hs;have base:∀(w:World),(Jm ei.size 0 (.slice none 0 0)).run P w= .ok ([]:List Value).toArray w:=λw=>by simp[Jm]
  exact G8 (n:=0) hs (d:=id) (ty:=ty) hx (.inr ⟨_,_,_,hq,by simp;omega⟩) (es:= []) (olds:= []) (base w.drew) rfl (by simp) (λi j hi=>by simp at hi) hsrc hrn (λ_ h=>by cases h) g5 (by omega) (by simpa using g7)
 |succ c=>
  have hu0:=k1 c hk;subst hu0;obtain⟨q1,q2,q3,⟨vs,q4,q5⟩,q6⟩:=r1 c hk;by_cases hroom:es.length+ys.length<=c;exact ZgC hs hx hq hk rfl hre hsrc hrn g4 g5 hroom;obtain⟨cells,hcl,hcS,hcR⟩:=hre.cells_of rfl g4;refine G8 (n:=0) hs (d:=id) (ty:=ty) hx (.inr ⟨_,_,_,hq,by omega⟩) (es:=es) (olds:=cells) ?_ rfl hcl hcR hsrc hrn g4 g5 (by omega) g7;refine run_firstCells_some w.drew ei.size es.length ⟨M.ψ id,0,none⟩ es.length c cells hcl (λj u hj=> ?_);obtain⟨hj1,hj2⟩:=JK.1 hj;have:=hs.stable _ _ _ (hcS j (by omega));rw[getD_lt hj1,hj2]at this;rw[YL,JA];exact this
 exact λhok=>hok.elim
 exact λhok=>hok.elim
end
open Go.RowKit
def aUn (op:UnOp) (x:PV) (m:Hp):ARes:=
 match op,x with
 | .not,.bool b=>⟨True,.bool (!b),m⟩
 | .neg,.int k n=>⟨True,.int k (k.wrap (0-n)),m⟩
 | .neg,.flt k b=>⟨True,.flt k (Op.negFloat k b),m⟩
 |_,_=> .fail
inductive CvK where
 |int (k:IntKind)|same|bytes|none|flt (k:FloatKind)
def tcv (P:Program) (src dst:TypeId):CvK:=
 match P.underlying src,P.underlying dst with
 |some _,some (.int k)=> .int k
 |some _,some (.float k)=> .flt k
 |some .string,some .string=> .same
 |some (.slice e),some .string=>match P.underlying e with|some (.int .u8)=> .bytes|_=> .none
 |_,_=> .none
def Da:List PV->Option (List UInt8)
 | []=>some []
 | .int .u8 n::r=>if 0<=n/\n<256 then(match Da r with|some l=>some (UInt8.ofNat n.toNat::l)|none=>none)else none
 |_::_=>none
def Ti (P:Program) (src dst:TypeId) (x:PV) (m:Hp):ARes:=
 match tcv P src dst,x with
 | .int k,.int _ n=>⟨True,.int k (k.wrap n),m⟩
 | .flt k,.int _ n=>⟨True,.flt k (k.nearest n),m⟩
 | .int k,.flt s b=>match(s.decode b).toInt .zero with
  |some n=>⟨k.min<=n/\n<=k.max,.int k n,m⟩
  |none=> .fail
 | .same,.str l=>⟨True,.str l,m⟩
 | .bytes,.sl _ es=>match Da es with
  |some l=>⟨True,.str l,m⟩
  |none=> .fail
 | .bytes,.osl id off len _=>match m.h id with
  |some cs=>match Da ((cs.drop off).take len)with
   |some l=>⟨off+len<=cs.length,.str l,m⟩
   |none=> .fail
  |none=> .fail
 |_,_=> .fail
def Vo (x:PV) (i:Nat) (m:Hp):ARes:=
 match x with
 | .tup vs=>⟨i<vs.length,vs.getD i .any,m⟩
 |_=> .fail
def Za6 (c x y:PV) (m:Hp):ARes:=
 match c with
 | .bool true=>⟨True,x,m⟩
 | .bool false=>⟨True,y,m⟩
 |_=> .fail
def VE (x:PV) (m:Hp):ARes:=
 match x with
 | .ptr id o=>⟨True,.ptr id o,m⟩
 | .rptr cs=>⟨True,.rptr cs,m⟩
 | .fn f cs=>⟨True,.fn f cs,m⟩
 |_=> .fail
inductive LenK where
 |arr (n:Nat)|slc|str|none
def ZcF (P:Program) (t:TypeId):LenK:=
 match P.underlying t with
 |some (.array n _)=> .arr n
 |some (.slice _)=> .slc
 |some .string=> .str
 |some (.pointer e)=>match P.underlying e with|some (.array n _)=> .arr n|_=> .none
 |_=> .none
def Zn4 (P:Program) (t:TypeId) (x:PV) (m:Hp):ARes:=
 match ZcF P t,x with
 | .arr n,_=>⟨True,.int .i64 n,m⟩
 | .slc,.sl _ es=>⟨True,.int .i64 es.length,m⟩
 | .slc,.osl _ _ n _=>⟨True,.int .i64 n,m⟩
 | .slc,.vsl _ n _=>⟨True,.int .i64 n,m⟩
 | .str,.str l=>⟨True,.int .i64 l.length,m⟩
 |_,_=> .fail
def Zn5 (x y:PV) (m:Hp):ARes:=
 match x,y with
 | .int k a,.int k' b=>⟨k=k',.int k (max a b),m⟩
 |_,_=> .fail
def Zn6 (x y:PV) (m:Hp):ARes:=
 match x,y with
 | .int k a,.int k' b=>⟨k=k',.int k (min a b),m⟩
 |_,_=> .fail
def Zn1 (x y:PV) (m:Hp):ARes:=
 match x,y with
 | .flt k a,.flt k' b=>⟨k=k',.cpx k a b,m⟩
 |_,_=> .fail
def ZcY (x:PV) (m:Hp):ARes:=
 match x with
 | .cpx k a _=>⟨True,.flt k a,m⟩
 |_=> .fail
def ZcX (x:PV) (m:Hp):ARes:=
 match x with
 | .cpx k _ b=>⟨True,.flt k b,m⟩
 |_=> .fail
section
variable {P:Program} {B:Frm} {S:Stable} {M:Maps} {s:St} {a:Act} {w:World}
theorem Snd.clean (hs:Sim B S M s a w) {m:Sem Value} {ok:Prop} {p:PV} {v:Value} (hm:m.run P w= .ok v w) (hr:Rep S v p):Snd P B S s a w m ⟨ok,p,s.m⟩:=
 Snd.pure hs hm (.clean hr) (λi hi=>absurd hi (hr.clean_ids i))
theorem ZmY (hs:Sim B S M s a w) {ts:Array TypeId} {ty:TypeId} {u v:Value} {p q:PV} (hu:RepS S M s.m.q u p) (hv:RepS S M s.m.q v q) (hok:(Zn1 p q s.m).ok):Snd P B S s a w (Builtin.complex_ ts ty #[u,v]) (Zn1 p q s.m):=by
 revert hok;unfold Zn1;split;intro hok;have e:=hok;simp only at e;subst e;rw[hu.flt_inv,hv.flt_inv];exact Snd.clean hs (by show(if _ then _ else _:Sem Value).run P w=_;rw[if_pos rfl];rfl) (.cpx _ _ _);exact λhok=>hok.elim
theorem Zkj (hs:Sim B S M s a w) {ts:Array TypeId} {ty:TypeId} {u:Value} {p:PV} (hu:RepS S M s.m.q u p) (hok:(ZcY p s.m).ok):Snd P B S s a w (Builtin.real_ ts ty #[u]) (ZcY p s.m):=by
 revert hok;unfold ZcY;split;intro _;rw[hu.cpx_inv];exact Snd.clean hs (by rfl) (.flt _ _);exact λhok=>hok.elim
theorem Zkh (hs:Sim B S M s a w) {ts:Array TypeId} {ty:TypeId} {u:Value} {p:PV} (hu:RepS S M s.m.q u p) (hok:(ZcX p s.m).ok):Snd P B S s a w (Builtin.imag_ ts ty #[u]) (ZcX p s.m):=by
 revert hok;unfold ZcX;split;intro _;rw[hu.cpx_inv];exact Snd.clean hs (by rfl) (.flt _ _);exact λhok=>hok.elim
theorem Zpx (hs:Sim B S M s a w) {op:UnOp} {u:Value} {p:PV} (hu:RepS S M s.m.q u p) (hok:(aUn op p s.m).ok):Snd P B S s a w (K5 op u) (aUn op p s.m):=by
 revert hok;unfold aUn;split;intro _;rw[hu.bool_inv];exact Snd.clean hs (by simp[K5]) (.bool _);intro _;rw[hu.int_inv];exact Snd.clean hs (by simp[K5,Qj]) (.int _ _);intro _;rw[hu.flt_inv];exact Snd.clean hs (by simp[K5]) (.flt _ _);exact λhok=>hok.elim
theorem Db:∀ {es:List PV} {l:List UInt8},Da es=some l->l.length=es.length/\ ∀j (hj:j<l.length),es.getD j .any= .int .u8 (l[j].toNat:Int)
 | [],l,h=>by
  simp only[Da,Jn.injEq]at h;subst h;exact⟨rfl,λj hj=>by simp at hj⟩
 |e::es,l,h=>by
  unfold Da at h;split at h;rename_i he;cases he;rename_i n r he;cases he;split at h;rename_i hn;split at h;rename_i l' hl';cases h;obtain⟨h1,h2⟩:=Db hl';refine⟨by simp[h1],λj hj=> ?_⟩;cases j with
  |zero=>
   simp only[JV,List.getElem_cons_zero];congr 1;rw[UInt8.toNat_ofNat'];omega
  |succ j=>simpa using h2 j (by simpa using hj)
  cases h;cases h;cases h
theorem Zkg (hs:Sim B S M s a w) {src dst:TypeId} {u:Value} {p:PV} (hu:RepS S M s.m.q u p) (hok:(Ti P src dst p s.m).ok):Snd P B S s a w (convert src dst u) (Ti P src dst p s.m):=by
 revert hok;unfold Ti;split;rename_i k k' n heq;intro _;rw[hu.int_inv];unfold tcv at heq;split at heq;rename_i d k0 h1 h2;cases heq;exact Snd.clean hs (by simp[convert,ZR h1,ZR h2,Conv.intToInt]) (.int _ _);cases heq;cases heq;split at heq<;>cases heq
 cases heq;rename_i k k' n heq;intro _;rw[hu.int_inv];unfold tcv at heq;split at heq;cases heq;rename_i d k0 _ h1 h2;cases heq;exact Snd.clean hs (by simp[convert,ZR h1,ZR h2,Conv.intToFloat]) (.flt _ _);cases heq;split at heq<;>cases heq
 cases heq;rename_i k k' b heq;split;rename_i n hn;rintro ⟨g1,g2⟩;rw[hu.flt_inv];unfold tcv at heq;split at heq;rename_i d k0 h1 h2;cases heq;exact Snd.clean hs (by simp[convert,ZR h1,ZR h2,Conv.floatToInt,hn,g1,g2]) (.int _ _);cases heq;cases heq;split at heq<;>cases heq
 cases heq;exact λhok=>hok.elim
 rename_i l heq;intro _;rw[hu.str_inv];unfold tcv at heq;split at heq;cases heq;cases heq;rename_i h1 h2;exact Snd.clean hs (by simp[convert,ZR h1,ZR h2]) (.str _);split at heq<;>cases heq
 cases heq;rename_i t es heq;split;rename_i l hl;intro _;obtain⟨b1,b2⟩:=Db hl;have hr:=hu.sl_inv;have ty:∃e,P.underlying src=some (.slice e)/\P.underlying e=some (.int .u8)/\P.underlying dst=some .string:=by
  unfold tcv at heq;split at heq;cases heq;cases heq;cases heq;rename_i e h1 h2;split at heq;rename_i h3;exact⟨e,h1,h3,h2⟩;cases heq;cases heq
 obtain⟨e,t1,t2,t3⟩:=ty;cases hr with
 |sl0 a0 cap=>
  have:l= []:=Jc (by simpa using b1);subst this;cases a0 with
  |none=>exact Snd.clean hs (v:= .string ⟨⟨[]⟩⟩) (by rw[run_convert_bytes_string w src dst e none 0 cap t1 t2 t3];simp[Conv.bytesToString];rfl) (.str [])
  |some ad=>exact Snd.clean hs (v:= .string ⟨⟨[]⟩⟩) (run_convert_bytes_back w src dst e ad cap [] t1 t2 t3 (λj hj=>by simp at hj)) (.str [])
 |sl b o cap sz _ vals hsz hcap hS hR=>
  have key:=run_convert_bytes_back (P:=P) w src dst e ⟨b,o,none⟩ cap l t1 t2 t3 (λj hj=>by
   have hj':j<es.length:=by rw[<-b1];exact hj
   have e1:=b2 j hj;have s1:sz=1:=by have:=hsz j hj';rw[e1]at this;simpa[PV.cells]using this.symm
   subst s1;have r1:=hR j 0 hj' (by omega);rw[e1]at r1;have r2:vals j 0= .int .u8 (l[j].toNat:Int):=by
    simp only[PV.cells,JV]at r1;exact(RepS.clean (M:=M) (q:=s.m.q) r1).int_inv
   have:=hs.stable _ _ _ (hS j 0 hj' (by omega));rw[r2,Ql,JR]at this;rw[YL];exact this)
  rw[b1]at key;exact Snd.clean hs key (.str l)
 exact λhok=>hok.elim
 rename_i id off len sz heq;split;rename_i cs hcs;split;rename_i l hl;intro hle;obtain⟨b1,b2⟩:=Db hl;have ty:∃e,P.underlying src=some (.slice e)/\P.underlying e=some (.int .u8)/\P.underlying dst=some .string:=by
  unfold tcv at heq;split at heq;cases heq;cases heq;cases heq;rename_i e h1 h2;split at heq;rename_i h3;exact⟨e,h1,h3,h2⟩;cases heq;cases heq
 obtain⟨e,t1,t2,t3⟩:=ty;obtain⟨cap,_,rfl⟩:=hu.osl_inv;have hh:∃vals:Nat->Value,(∀j,j<cs.length->w.cell? ⟨M.φ id,j,none⟩=some (vals j))/\(∀j,j<cs.length->RepS S M s.m.q (vals j) (cs.getD j .any)):=by
  have hb:=hs.blk id _ hcs;cases hz:s.m.z id with
  |false=>
   rw[hz]at hb;obtain⟨_,_,⟨vs,ty,h3,h4,h5⟩,h6⟩:=hb;refine⟨λj=>vs.getD j undef,λj hj=> ?_,h5⟩;rw[XH h3,Je (by omega)];show some _=some (vs.getD j undef);rw[getD_lt (by omega)]
  |true=>
   rw[hz]at hb;obtain⟨vals,hv⟩:=hb;exact⟨vals,λj hj=>hs.stable _ _ _ (hv j hj).1,λj hj=> .clean (hv j hj).2⟩
 obtain⟨vals,hc,hr⟩:=hh;have hlen:l.length=len:=by rw[b1];simp;omega
 have key:=run_convert_bytes_back (P:=P) w src dst e ⟨M.φ id,off,none⟩ cap l t1 t2 t3 (λj hj=>by
  have e1:=b2 j hj;have hj':off+j<cs.length:=by omega
  have e2:((cs.drop off).take len).getD j .any=cs.getD (off+j) .any:=by
   simp only[Js];rw[Kg (by omega),KE]
  rw[e2]at e1;have r1:=hr _ hj';rw[e1]at r1;rw[YL,hc _ hj',r1.int_inv])
 rw[hlen]at key;exact Snd.clean hs key (.str l);exact λhok=>hok.elim
 exact λhok=>hok.elim
 exact λhok=>hok.elim
theorem ZdE (hs:Sim B S M s a w) {u:Value} {p:PV} {i:Nat} (hu:RepS S M s.m.q u p) (hui:∀i∈p.ids,ZX s.m i) (hok:(Vo p i s.m).ok):Snd P B S s a w (K7 u i) (Vo p i s.m):=by
 revert hok;unfold Vo;split;rename_i vs;intro hi;simp only at hi;obtain⟨us,rfl,hl,hr⟩:=hu.tup_inv;refine Snd.pure hs (v:=us.getD i undef) ?_ (hr i hi) (λk hk=>hui k (PV.mem_idsL.2 ⟨_,Ze hi,hk⟩));rw[getD_lt (by omega)];have:i<us.length:=by omega
 simp[K7,this];exact λhok=>hok.elim
theorem Zm1 (hs:Sim B S M s a w) {t ty:TypeId} {u:Value} {p:PV} (hu:RepS S M s.m.q u p) (hok:(Zn4 P t p s.m).ok):Snd P B S s a w (JT #[t] ty #[u]) (Zn4 P t p s.m):=by
 revert hok;unfold Zn4;split;rename_i n x heq;intro _;unfold ZcF at heq;split at heq;rename_i h1;cases heq;exact Snd.clean hs (by simp[JT,ZR h1,goInt]) (.int _ _);cases heq;cases heq;rename_i e h1;split at heq;rename_i h2;cases heq;exact Snd.clean hs (by simp[JT,ZR h1,ZR h2,goInt]) (.int _ _);cases heq;cases heq;rename_i tk es heq;intro _;obtain⟨ad,cap,rfl,_⟩:=hu.sl_inv.sl_len;unfold ZcF at heq;split at heq;cases heq;rename_i h1;exact Snd.clean hs (by simp[JT,ZR h1,goInt]) (.int _ _);cases heq;split at heq<;>cases heq
 cases heq;rename_i id off n sz heq;intro _;obtain⟨cap,_,rfl⟩:=hu.osl_inv;unfold ZcF at heq;split at heq;cases heq;rename_i h1;exact Snd.clean hs (by simp[JT,ZR h1,goInt]) (.int _ _);cases heq;split at heq<;>cases heq
 cases heq;rename_i id n sz heq;intro _;obtain⟨⟨ad,cap,hv,_⟩,_⟩:=hu.vsl_inv;unfold ZcF at heq;split at heq;cases heq;rename_i h1;exact Snd.clean hs (by simp[hv,JT,ZR h1,goInt]) (.int _ _);cases heq;split at heq<;>cases heq
 cases heq;rename_i l heq;intro _;rw[hu.str_inv];unfold ZcF at heq;split at heq;cases heq;cases heq;rename_i h1;exact Snd.clean hs (v:= .int .i64 l.length) (by simp[JT,ZR h1,goInt];rfl) (.int _ _);split at heq<;>cases heq
 cases heq;exact λhok=>hok.elim
theorem Zm2 (hs:Sim B S M s a w) {ts:Array TypeId} {ty:TypeId} {u v:Value} {p q:PV} (hu:RepS S M s.m.q u p) (hv:RepS S M s.m.q v q) (hok:(Zn5 p q s.m).ok):Snd P B S s a w (Qd ts ty #[u,v]) (Zn5 p q s.m):=by
 revert hok;unfold Zn5;split;rename_i k x k' y;intro hk;rw[hu.int_inv,hv.int_inv];simp only at hk;subst hk;have e:(if y>x then y else x)=max x y:=by rw[Int.max_def];split<;>split<;>omega
 exact Snd.clean hs (v:= .int k (max x y)) (by simp[Qd,Builtin.max2];omega) (.int _ _);exact λhok=>hok.elim
theorem Zm3 (hs:Sim B S M s a w) {ts:Array TypeId} {ty:TypeId} {u v:Value} {p q:PV} (hu:RepS S M s.m.q u p) (hv:RepS S M s.m.q v q) (hok:(Zn6 p q s.m).ok):Snd P B S s a w (Qe ts ty #[u,v]) (Zn6 p q s.m):=by
 revert hok;unfold Zn6;split;rename_i k x k' y;intro hk;rw[hu.int_inv,hv.int_inv];simp only at hk;subst hk;exact Snd.clean hs (v:= .int k (min x y)) (by simp[Qe,Builtin.min2];omega) (.int _ _);exact λhok=>hok.elim
end
end Go.PL
namespace Go.PL
open Go.RowKit
def Tv (place:Nat->Option (Nat×Nat)):List PV->List (Nat×PV)->Option (List PV)
 |cs,[]=>some cs
 |cs,(i,p)::rest=>match place i with
  |none=>none
  |some (o,sz)=>if p.known=true/\p.cells.length=sz/\o+sz<=cs.length then Tv place (YT cs o p.cells) rest else none
inductive BdK where
 |str (fs:List (Nat×Nat)) (z:List PV)
 |arr (esz:Nat) (z:List PV)
 |none
def tbd (P:Program) (t:TypeId):BdK:=
 match P.info? t with
 |some i=>match i.zero with
  |some z=>match P.underlying t with
   |some (.struct fs)=>if(fs.all λf=>(P.info? f.type).isSome)&&(XR z).known then .str (fs.toList.map λf=>(f.offset,tsz P f.type)) (XR z).cells else .none
   |some (.array _ e)=>if(P.info? e).isSome&&(XR z).known then .arr (tsz P e) (XR z).cells else .none
   |_=> .none
  |none=> .none
 |none=> .none
def Ga (P:Program) (t:TypeId) (parts:List (Nat×PV)) (m:Hp):ARes:=
 match tbd P t with
 | .str fs z=>match Tv (fs[·]?) z parts with
  |some cs=>⟨True,.agg cs,m⟩
  |none=> .fail
 | .arr esz z=>match Tv (λi=>some (i*esz,esz)) z parts with
  |some cs=>⟨True,.agg cs,m⟩
  |none=> .fail
 | .none=> .fail
section
variable {P:Program} {B:Frm} {S:Stable} {M:Maps} {s:St} {a:Act} {w:World}
theorem Ze0 (l:List Value):∀(k:Nat) (cs:Array Value) (off:Nat),off+k+l.length<=cs.size->
  (l.zipIdx k).foldl (λcs x=>cs.setIfInBounds (off+x.2) x.1) cs=⟨cs.toList.take (off+k)++l++cs.toList.drop (off+k+l.length)⟩:=by
 induction l with
 |nil=>intro k cs off h;simp
 |cons v l ih=>
  intro k cs off h;simp only[KO,List.foldl_cons];rw[ih (k+1) _ off (by simp at h ⊢;omega)];congr 1;simp only[Array.toList_setIfInBounds];apply List.ext_getElem?;intro j;simp only[JI]at h;have hk:off+k<cs.toList.length:=by simp;omega
  simp only[KI,List.getElem?_append,Jk,KZ,JC,List.getElem?_take,KE,List.getElem?_set,JI];have m1:min (off+(k+1)) cs.size=off+k+1:=by omega
  have m2:min (off+k) cs.size=off+k:=by omega
  rw[m1,m2];by_cases c1:j<off+k;have:j<off+k+1:=by omega
  have h3:¬off+k=j:=by omega
  simp[c1,this,h3];omega;by_cases c2:j=off+k;subst c2;have:off+k<cs.size:=by omega
  simp[this];have c3:¬j<off+k+1:=by omega
  simp only[c1,c3,if_false];have e1:j-(off+k)=(j-(off+k+1))+1:=by omega
  rw[e1];simp only[JI,List.getElem?_cons_succ];by_cases c4:j-(off+k+1)<l.length;have:j-(off+k+1)+1<l.length+1:=by omega
  simp[c4];have:¬j-(off+k+1)+1<l.length+1:=by omega
  simp only[c4,this,if_false];have e2:¬off+k=off+(k+1)+l.length+(j-(off+k+1)-l.length):=by omega
  simp only[e2,if_false];congr 1;omega
theorem ZgS {place:Nat->Option (Nat×Nat)}:∀(parts:List (Nat×PV)) (vparts:List (Nat×Value)) (cs cs':List PV) (vs:List Value),
  vparts.length=parts.length->(∀i,i<parts.length->(vparts.getD i (0,undef)).1=(parts.getD i (0,.any)).1/\RepS S M s.m.q (vparts.getD i (0,undef)).2 (parts.getD i (0,.any)).2)->
  RepL S M s.m.q vs cs->Tv place cs parts=some cs'-> ∃vs',JN place ⟨vs⟩ vparts=some ⟨vs'⟩/\RepL S M s.m.q vs' cs'/\ ∀k∈PV.idsL cs',k∈PV.idsL cs\/ ∃x∈parts,k∈x.2.ids
 | [],vparts,cs,cs',vs,hl,_,hr,h=>by
  have:vparts= []:=Jc (by simpa using hl);subst this;simp only[Tv,Jn.injEq]at h;subst h;exact⟨vs,rfl,hr,λk hk=> .inl hk⟩
 |(i,p)::rest,[],cs,cs',vs,hl,_,hr,h=>by simp at hl
 |(i,p)::rest,(i',v)::vrest,cs,cs',vs,hl,hp,hr,h=>by
  obtain⟨h0,hv⟩:=hp 0 (by simp);simp only[JV]at h0 hv;subst h0;simp only[Tv]at h;split at h;cases h;rename_i o sz hpl;split at h;rename_i hc;obtain⟨hc1,hc2,hc3⟩:=hc;obtain⟨ys,hyc,hyl,hyr⟩:=hv.cells_inv hc1;have hlen:ys.length=sz:=by omega
  have hvl:vs.length=cs.length:=hr.1;have hr':RepL S M s.m.q (vs.take o++ys++vs.drop (o+ys.length)) (YT cs o p.cells):=by
   refine⟨by simp[YT,hvl,hyl],λj hj=> ?_⟩;have hjl:j<cs.length:=by simp[YT]at hj;omega
   unfold YT;rw[WU (by omega),WU (by omega),hyl];split;exact hr.2 j hjl;split;exact hyr _ (by omega);exact hr.2 j hjl
  obtain⟨vs',e1,e2,e3⟩:=ZgS rest vrest (YT cs o p.cells) cs' (vs.take o++ys++vs.drop (o+ys.length)) (by simpa using hl) (λj hj=>by simpa using hp (j+1) (by simpa using hj)) hr' h;refine⟨vs',?_,e2,λk hk=> ?_⟩;simp only[JN,hpl,hyc];have hz:(⟨ys⟩:Array Value).size=sz:=by simp[hlen]
  have hno:¬((decide ((⟨ys⟩:Array Value).size≠sz)||decide (o+(⟨ys⟩:Array Value).size>(⟨vs⟩:Array Value).size))=true):=by
   simp only[J3,Ko,decide_eq_true_eq,not_or];omega
  rw[if_neg hno];have hf:=Ze0 ys 0 ⟨vs⟩ o (by simp;omega);simp only[JR]at hf;have hz2:Qn (λcs x=>cs.setIfInBounds (o+x.2) x.1) (⟨vs⟩:Array Value) (Qf ⟨ys⟩)=⟨vs.take o++ys++vs.drop (o+ys.length)⟩:=by
   rw[<-KF];simpa using hf
  first|(rw[hz2];exact e1)|(simp only[hz2];exact e1)
  rcases e3 k hk with h1|⟨x,hx,hkx⟩;obtain⟨c,hc,hkc⟩:=PV.mem_idsL.1 h1;simp only[YT,JL]at hc;rcases hc with (hc|hc)|hc;exact .inl (PV.mem_idsL.2 ⟨c,JG hc,hkc⟩);exact .inr ⟨(i',p),by simp,YB hc hkc⟩;exact .inl (PV.mem_idsL.2 ⟨c,JF hc,hkc⟩);exact .inr ⟨x,by simp[hx],hkx⟩;cases h
end
open Go.RowKit
section
variable {P:Program} {B:Frm} {S:Stable} {M:Maps} {s:St} {a:Act} {w:World}
theorem GJ {α β:Type} (g:α->Sem β) (g':α->β) (w:World):∀(l:List α),(∀x∈l,(g x).run P w= .ok (g' x) w)->(l.mapM g).run P w= .ok (l.map g') w
 | [],_=>by simp
 |x::l,h=>by
  have ih:=GJ g g' w l (λy hy=>h y (by simp[hy]));simp[List.mapM_cons,h x (by simp),ih]
theorem Zbf {α β:Type} (g:α->Sem β) (g':α->β) (w:World) (l:Array α) (h:∀x∈l,(g x).run P w= .ok (g' x) w):(l.mapM g).run P w= .ok (l.map g') w:=by
 rw[Array.mapM_eq_mapM_toList];simp only[Sem.run_map,GJ g g' w l.toList (λx hx=>h x (by simpa using hx)),Jb];congr 1;apply JZ;simp
theorem Zhq (hs:Sim B S M s a w) {t:TypeId} {parts:List (Nat×PV)} {vparts:List (Nat×Value)} (hl:vparts.length=parts.length)
  (hp:∀i,i<parts.length->(vparts.getD i (0,undef)).1=(parts.getD i (0,.any)).1/\RepS S M s.m.q (vparts.getD i (0,undef)).2 (parts.getD i (0,.any)).2) (hi:∀x∈parts,∀i∈x.2.ids,ZX s.m i)
  (hok:(Ga P t parts s.m).ok):Snd P B S s a w (KX t ⟨vparts⟩) (Ga P t parts s.m):=by
 have zero:∀ {i:TypeInfo} {z:Value},P.info? t=some i->i.zero=some z->(XR z).known=true->(zeroValue t).run P w= .ok z w/\ ∃zs:List Value,z.cells=⟨zs⟩/\RepL S M s.m.q zs (XR z).cells/\PV.idsL (XR z).cells= []:=by
  intro i z h1 h2 hk;refine⟨by simp[zeroValue,SV h1,h2],?_⟩;obtain⟨zs,e1,e2,e3⟩:=(RepS.clean (S:=S) (M:=M) (q:=s.m.q) (Vb S z)).cells_inv hk;refine⟨zs,e1,⟨e2,e3⟩,?_⟩;have:=VM z;cases hz:XR z with
  |agg cs=>rw[hz]at this;simpa[PV.cells,PV.ids]using this
  |_=>rw[hz]at this;simpa[PV.cells,PV.idsL]using this
 revert hok;unfold Ga;split;rename_i fs z heq;unfold tbd at heq;split at heq;rename_i i h1;split at heq;rename_i zv h2;split at heq;rename_i fds h3;split at heq;rename_i hall;cases heq;simp only[KP]at hall;obtain⟨hz0,zs,hz1,hz2,hz3⟩:=zero h1 h2 hall.2;split;rename_i cs' hf;intro _;obtain⟨vs',e1,e2,e3⟩:=ZgS (S:=S) (M:=M) (s:=s) parts vparts _ cs' zs hl hp hz2 hf;refine Snd.pure hs (v:= .agg ⟨vs'⟩) ?_ (.agg vs' cs' e2.1 e2.2) (λk hk=> ?_);have hm:=Zbf (P:=P) (λf:Field=>do pure (f.offset,<-sizeOf f.type)) (λf=>(f.offset,tsz P f.type)) w fds (λf hf=>by
  have hsome:(P.info? f.type).isSome=true:=by
   have:=hall.1;rw[Array.all_eq_true']at this;exact this f hf
  obtain⟨fi,hfi⟩:=Kh.1 hsome;simp[Yu hfi])
 simp only[KX,Ji,hz0,Jb,ZR h3,hm,hz1];have hplace:(λ(x:Nat)=>(fds.map λf=>(f.offset,tsz P f.type))[x]?)=(λ(x:Nat)=>(Kx (λf:Field=>(f.offset,tsz P f.type)) fds.toList)[x]?):=by
  funext x;simp
 rw[hplace,e1];simp;rcases e3 k (by simpa[PV.ids]using hk)with h|⟨x,hx,hkx⟩;rw[hz3]at h;cases h;exact hi x hx k hkx;exact λhok=>hok.elim
 cases heq;split at heq<;>cases heq
 cases heq;cases heq;cases heq;rename_i esz z heq;unfold tbd at heq;split at heq;rename_i i h1;split at heq;rename_i zv h2;split at heq;split at heq<;>cases heq
 rename_i n e h3;split at heq;rename_i hall;cases heq;simp only[KP]at hall;obtain⟨hz0,zs,hz1,hz2,hz3⟩:=zero h1 h2 hall.2;obtain⟨ei,hei⟩:=Kh.1 hall.1;split;rename_i cs' hf;intro _;obtain⟨vs',e1,e2,e3⟩:=ZgS (S:=S) (M:=M) (s:=s) parts vparts _ cs' zs hl hp hz2 hf;refine Snd.pure hs (v:= .agg ⟨vs'⟩) ?_ (.agg vs' cs' e2.1 e2.2) (λk hk=> ?_);simp only[KX,Ji,hz0,Jb,ZR h3,Yu hei,hz1,e1];simp;rcases e3 k (by simpa[PV.ids]using hk)with h|⟨x,hx,hkx⟩;rw[hz3]at h;cases h;exact hi x hx k hkx;exact λhok=>hok.elim
 cases heq;cases heq;cases heq;cases heq;exact λhok=>hok.elim
end
open Go.RowKit
mutual
def PV.share:PV->PV
 | .sl t es=> .sl t.sh es
 | .agg cs=> .agg (PV.shareL cs)
 | .tup cs=> .tup (PV.shareL cs)
 | .fn f cs=> .fn f (PV.shareL cs)
 |p=>p
def PV.shareL:List PV->List PV
 | []=> []
 |c::cs=>PV.share c::PV.shareL cs
end
mutual
def PV.clean:PV->Bool
 | .ptr _ _=>false
 | .osl _ _ _ _=>false
 | .vsl _ _ _=>false
 | .vptr _ _ _ _ _=>false
 | .agg cs=>PV.cleanL cs
 | .tup cs=>PV.cleanL cs
 | .fn _ cs=>PV.cleanL cs
 |_=>true
def PV.cleanL:List PV->Bool
 | []=>true
 |c::cs=>PV.clean c&&PV.cleanL cs
end
theorem PV.shareL_length:∀(cs:List PV),(PV.shareL cs).length=cs.length
 | []=>rfl
 |c::cs=>by simp[PV.shareL,PV.shareL_length cs]
theorem PV.shareL_getD:∀(cs:List PV) (i:Nat),i<cs.length->(PV.shareL cs).getD i .any=(cs.getD i .any).share
 | [],i,h=>by simp at h
 |c::cs,0,_=>by simp[PV.shareL]
 |c::cs,i+1,h=>by simpa[PV.shareL]using PV.shareL_getD cs i (by simpa using h)
theorem PV.cleanL_getD:∀ {cs:List PV} (h:PV.cleanL cs=true) (i:Nat),i<cs.length->(cs.getD i .any).clean=true
 | [],_,i,h=>by simp at h
 |c::cs,hc,0,_=>by simp[PV.cleanL]at hc ⊢;exact hc.1
 |c::cs,hc,i+1,h=>by simp[PV.cleanL]at hc;simpa using PV.cleanL_getD hc.2 i (by simpa using h)
theorem ZaI (p:PV):p.share.cells=PV.shareL p.cells:=by
 cases p<;>simp[PV.share,PV.cells,PV.shareL]
theorem ZgJ {p:PV} (h:p.clean=true) {j:Nat} (hj:j<p.cells.length):(p.cells.getD j .any).clean=true:=by
 cases p with
 |agg cs=>exact PV.cleanL_getD (cs:=cs) (by simpa[PV.clean]using h) j hj
 |_=>
  simp only[PV.cells,JI,Kn]at hj;have:j=0:=by omega
  subst this;exact h
theorem Rep.share {S:Stable} {v:Value} {p:PV} (r:Rep S v p):Rep S v p.share:=by
 induction r with
 |agg vs cs hl _ ih=>exact .agg vs _ (by rw[PV.shareL_length];exact hl) (λi hi=>by rw[PV.shareL_length]at hi;rw[PV.shareL_getD cs i hi];exact ih i hi)
 |tup vs cs hl _ ih=>exact .tup vs _ (by rw[PV.shareL_length];exact hl) (λi hi=>by rw[PV.shareL_length]at hi;rw[PV.shareL_getD cs i hi];exact ih i hi)
 |fn f vs cs hl _ ih=>exact .fn f vs _ (by rw[PV.shareL_length];exact hl) (λi hi=>by rw[PV.shareL_length]at hi;rw[PV.shareL_getD cs i hi];exact ih i hi)
 |any v=>exact .any v
 |int k n=>exact .int k n
 |bool b=>exact .bool b
 |str l=>exact .str l
 |flt k b=>exact .flt k b
 |cpx k a b=>exact .cpx k a b
 |sl0 a cap=>exact .sl0 a cap
 |slnil=>exact .sl0 none 0
 |sl b o cap sz es vals h1 h2 h3 h4 _=>exact .sl b o cap sz es vals h1 h2 h3 h4
 |slf v es r hz _=>exact .slf v es r hz
 |rptr b o cs vals h1 h2 _=>exact .rptr b o cs vals h1 h2
 |nilp=>exact .nilp
 |nilfn=>exact .nilfn
 |nilmap=>exact .nilmap
 |mref b=>exact .mref b
 |iptr b=>exact .iptr b
 |rmap b es ks vs h1 h2 h3 h4 h5 h6 _ _=>exact .rmap b es ks vs h1 h2 h3 h4 h5 h6
theorem RepS.share {S:Stable} {M:Maps} {q:Rows} {v:Value} {p:PV} (r:RepS S M q v p) (h:p.clean=true):Rep S v p.share:=by
 induction r with
 |clean r=>exact r.share
 |ptr id off=>simp[PV.clean]at h
 |osl id off len cap sz hc=>simp[PV.clean]at h
 |vsl id len sz v hv t=>simp[PV.clean]at h
 |vptr id n sz i off v hv hi t=>simp[PV.clean]at h
 |row id v es r _=>exact r
 |agg vs cs hl _ ih=>exact .agg vs _ (by rw[PV.shareL_length];exact hl) (λi hi=>by rw[PV.shareL_length]at hi;rw[PV.shareL_getD cs i hi];exact ih i hi (PV.cleanL_getD h i hi))
 |tup vs cs hl _ ih=>exact .tup vs _ (by rw[PV.shareL_length];exact hl) (λi hi=>by rw[PV.shareL_length]at hi;rw[PV.shareL_getD cs i hi];exact ih i hi (PV.cleanL_getD h i hi))
 |fn f vs cs hl _ ih=>exact .fn f vs _ (by rw[PV.shareL_length];exact hl) (λi hi=>by rw[PV.shareL_length]at hi;rw[PV.shareL_getD cs i hi];exact ih i hi (PV.cleanL_getD h i hi))
def Zas (size:Nat):Nat->List (Nat×PV)->Prop
 |_,[]=>True
 |k,(i,p)::rest=>i=k/\p.clean=true/\p.known=true/\p.cells.length=size/\Zas size (k+1) rest
def Xc (P:Program) (d:Nat) (t:TypeId) (len:Nat) (parts:List (Nat×PV)) (m:Hp):ARes:=
 match We P t with
 |some ei=>⟨m.q d=none/\len=parts.length/\len*ei.size<=16777216/\Zas ei.size 0 parts,.sl (.row d) (parts.map λx=>x.2.share),m.setq d (.live len ei.size ei.e)⟩
 |none=> .fail
section
variable {P:Program} {B:Frm} {S:Stable} {M:Maps} {s:St} {a:Act} {w:World}
theorem Dj {size:Nat}:∀(us:List Value) (k:Nat) (vs:List Value),vs.length=(k+us.length)*size->(∀u∈us,u.cells.size=size)->
  JN (λi=>some (i*size,size)) ⟨vs⟩ (us.zipIdx k |>.map λx=>(x.2,x.1))=some ⟨vs.take (k*size)++us.flatMap λu=>u.cells.toList⟩
 | [],k,vs,hl,_=>by
  have:vs.take (k*size)=vs:=List.take_of_length_le (by simp at hl;omega);simp[JN,this]
 |u::us,k,vs,hl,hu=>by
  have hus:=hu u (by simp);have hle:k*size+size<=vs.length:=by
   rw[hl];have:=Ja size (show k+1<=k+(u::us).length by simp);rw[Jg]at this;omega
  simp only[KO,List.map_cons,JN];have hno:¬((decide (u.cells.size≠size)||decide (k*size+u.cells.size>(⟨vs⟩:Array Value).size))=true):=by
   simp only[J3,Ko,decide_eq_true_eq,not_or];omega
  rw[if_neg hno];have hf:=Ze0 u.cells.toList 0 ⟨vs⟩ (k*size) (by simp;omega);have hz2:Qn (λcs x=>cs.setIfInBounds (k*size+x.2) x.1) (⟨vs⟩:Array Value) (Qf u.cells)=⟨vs.take (k*size)++u.cells.toList++vs.drop (k*size+u.cells.toList.length)⟩:=by
   rw[<-KF];simpa using hf
  have ih:=Dj us (k+1) (vs.take (k*size)++u.cells.toList++vs.drop (k*size+u.cells.toList.length))
   (by simp only[Jf,Jk,Jl,JC,hus]
       have:(k+1+us.length)*size=(k+(us.length+1))*size:=by congr 1;omega
       simp only[JI]at hl;omega) (λx hx=>hu x (by simp[hx]))
  have fin:JN (λi=>some (i*size,size)) ⟨vs.take (k*size)++u.cells.toList++vs.drop (k*size+u.cells.toList.length)⟩ ((us.zipIdx (k+1)).map λx=>(x.2,x.1))=some ⟨vs.take (k*size)++List.flatMap (λu=>u.cells.toList) (u::us)⟩:=by
   rw[ih];congr 2;have hl2:(vs.take (k*size)++u.cells.toList).length=(k+1)*size:=by simp[hus,Jg];omega
   rw[<-hl2,List.take_left];simp
  first|(rw[hz2];exact fin)|(simp only[hz2];exact fin)
theorem Zat {size:Nat}:∀ {parts:List (Nat×PV)} {k:Nat},Zas size k parts->(∀x∈parts,x.2.clean=true/\x.2.known=true/\x.2.cells.length=size)/\parts.map (·.1)=(Qo k parts.length)
 | [],k,_=>by simp
 |(i,p)::rest,k,h=>by
  obtain⟨rfl,h1,h2,h3,h4⟩:=h;obtain⟨g1,g2⟩:=Zat h4;refine⟨λx hx=> ?_,?_⟩;rcases K8.1 hx with rfl|hx;exact⟨h1,h2,h3⟩;exact g1 x hx;simp[g2,Ki]
theorem FW {size:Nat}:∀ {us:List Value} (hu:∀u∈us,u.cells.size=size) {i j:Nat} (hi:i<us.length) (hj:j<size),
  (us.flatMap λu=>u.cells.toList).getD (i*size+j) undef=(us.getD i undef).cells.toList.getD j undef
 | [],_,i,j,hi,_=>by simp at hi
 |u::us,hu,0,j,_,hj=>by
  have:=hu u (by simp);simp only[KK,Qg,JA,JV];rw[Zg (by simpa[this]using hj)]
 |u::us,hu,i+1,j,hi,hj=>by
  have h0:=hu u (by simp);simp only[KK,List.getD_cons_succ];rw[Zj (by simp[h0,Jg];omega)];have:(i+1)*size+j-u.cells.toList.length=i*size+j:=by simp[h0,Jg];omega
  rw[this];exact FW (λx hx=>hu x (by simp[hx])) (by simpa using hi) hj
theorem D9 (hs:Sim B S M s a w) {d:Nat} {t:TypeId} {len:Nat} {parts:List (Nat×PV)} {vparts:List (Nat×Value)} (hl:vparts.length=parts.length)
  (hp:∀i,i<parts.length->(vparts.getD i (0,undef)).1=(parts.getD i (0,.any)).1/\RepS S M s.m.q (vparts.getD i (0,undef)).2 (parts.getD i (0,.any)).2)
  (hok:(Xc P d t len parts s.m).ok):Snd P B S s a w (JE t len ⟨vparts⟩) (Xc P d t len parts s.m):=by
 revert hok;unfold Xc;split;rename_i ei hx;rintro ⟨g1,g2,g3,g4⟩;obtain⟨ti,z,h1,h2,h3,h4,h5,h6,h7,h8⟩:=YP hx;obtain⟨p1,p2⟩:=Zat g4;subst g2
 -- the values of the parts
 have hus:∀i,i<parts.length->RepS S M s.m.q ((vparts.map (·.2)).getD i undef) (parts.getD i (0,.any)).2:=λi hi=>by
  have:=(hp i hi).2;rw[getD_lt (by simp;omega)];rw[getD_lt (by omega)]at this;simpa using this
 have hcell:∀i,i<parts.length-> ∃ys:List Value,((vparts.map (·.2)).getD i undef).cells=⟨ys⟩/\ys.length=ei.size/\ ∀j,j<ei.size->Rep S (ys.getD j undef) ((parts.getD i (0,.any)).2.share.cells.getD j .any):=λi hi=>by
  obtain⟨q1,q2,q3⟩:=p1 _ (Ze (d:=(0,PV.any)) hi);obtain⟨ys,e1,e2,e3⟩:=(hus i hi).cells_inv q2;refine⟨ys,e1,by omega,λj hj=> ?_⟩;have hr:=e3 j (by omega);have hc:((parts.getD i (0,.any)).2.cells.getD j .any).clean=true:=by
   exact ZgJ q1 (by omega)
  have:=hr.share hc;rw[ZaI,PV.shareL_getD _ j (by omega)];exact this
 have hsz:∀u∈vparts.map (·.2),u.cells.size=ei.size:=λu hu=>by
  obtain⟨i,hi,rfl⟩:=Jr hu;simp only[JO]at hi;obtain⟨ys,e1,e2,_⟩:=hcell i (by omega);rw[getD_lt (by simpa using hi)]at e1;rw[e1];simp[e2]
 have hpairs:vparts=((vparts.map (·.2)).zipIdx 0).map λx=>(x.2,x.1):=by
  apply KQ;simp;intro i hi1 hi2;simp only[JD,KA,JA];have:=(hp i (by omega)).1;rw[getD_lt hi1,getD_lt (by omega)]at this;have hidx:(parts[i]'(by omega)).1=i:=by
   have e:=congrArg (λl=>l[i]?) p2;simp only[Ke]at e;rw[Je (by omega),Je (by simp;omega)]at e;simpa using e
  rw[hidx]at this;exact Qr this rfl
 have hz0:∃zs:List Value,zs.length=parts.length*ei.size/\(JE t parts.length ⟨vparts⟩).run P w= .ok (.slice (some ⟨w.heap.size,0,none⟩) parts.length parts.length) (w.alloc (.cells ⟨zs.take (0*ei.size)++(vparts.map (·.2)).flatMap λu=>u.cells.toList⟩ ei.e)):=by
  have nolim:¬parts.length*ei.size>2 ^ 24:=by omega
  have hfill:∀zs:List Value,zs.length=parts.length*ei.size->JN (λi=>some (i*ei.size,ei.size)) ⟨zs⟩ vparts=some ⟨zs.take (0*ei.size)++(vparts.map (·.2)).flatMap λu=>u.cells.toList⟩:=λzs hzs=>by
   have:=Dj (size:=ei.size) (vparts.map (·.2)) 0 zs (by simp[hl,hzs]) hsz;rw[<-hpairs]at this;exact this
  have e5:(sizeOf ei.e).run P w= .ok ei.size w:=by rw[Yu h2,h8]
  by_cases h0:parts.length*ei.size=0;refine⟨[],by simp[h0],?_⟩;have hp0:parts= []:=by
   rcases K1.1 h0 with h|h;exact Jc h;omega
  subst hp0;have hv0:vparts= []:=Jc (by simpa using hl);subst hv0;simp[JE,ZR h1,e5,JN,newRow,newObj,Kz,J4];have er:Qq (λ_:Nat=>(Jd:Value)) (Ky 0)=⟨[]⟩:=by
   apply JZ;simp
  rw[er];refine⟨((JY (parts.length*ei.size)).map λx=>z.cells[x % z.cells.size]!),by simp,?_⟩;have hf:=hfill ((JY (parts.length*ei.size)).map λx=>z.cells[x % z.cells.size]!) (by simp);have hzr:(zeroValue ei.e).run P w= .ok z w:=by simp[zeroValue,SV h2,h3]
  simp only[JE,Ji,ZR h1,Jb,e5,nolim,if_false,Jp,h0,hzr];have:(Ky (parts.length*ei.size)).map (λx=>z.cells[x % z.cells.size]!)=⟨(JY (parts.length*ei.size)).map λx=>z.cells[x % z.cells.size]!⟩:=by
   apply JZ;simp
  simp only[this,hf];simp[newRow,newObj,Kz,J4]
 obtain⟨zs,_,hrun⟩:=hz0;simp only[Qg,List.take_zero,K0]at hrun;generalize hvs:(vparts.map (·.2)).flatMap (λu=>u.cells.toList)=vs at hrun;have hvl:vs.length=parts.length*ei.size:=by
  rw[<-hvs,KB];have:(Kx (λu:Value=>u.cells.toList.length) (vparts.map (·.2)))=JJ parts.length ei.size:=by
   apply Kt.2;refine⟨by simp[hl],λx hx=> ?_⟩;obtain⟨u,hu,rfl⟩:=J5.1 hx;simpa using hsz u hu
  rw[this];simp
 have hmax:parts.length<=maxLen:=by
  have:=Kj parts.length h7;simp only[maxLen];omega
 have hsim:=hs.newRow (d:=d) (n:=parts.length) (sz:=ei.size) (c:=parts.length) (e:=ei.e) (vs:=vs) (w':=w.alloc (.cells ⟨vs⟩ ei.e)) (.inl g1) (Jj _) hmax hvl (λk hk=>ZZ w _ hk) (alloc_heap_new w _);have hle':SLe S (ZbD S w.heap.size (parts.length*ei.size) vs):= .cells rfl λb o v hv=>by
  rw[XK];rw[if_neg];exact hv;rintro ⟨rfl,_⟩;rw[hs.S_lt (Jj _)]at hv;cases hv
 have hrep:Rep (ZbD S w.heap.size (parts.length*ei.size) vs) (.slice (some ⟨w.heap.size,0,none⟩) parts.length parts.length) (.sl .no (parts.map λx=>x.2.share)):=by
  have:=TJ (S:=ZbD S w.heap.size (parts.length*ei.size) vs) (b:=w.heap.size) (cap:=parts.length) (es:=parts.map λx=>x.2.share) (sz:=ei.size)
   (λe he=>by
    obtain⟨x,hx',rfl⟩:=J5.1 he;rw[ZaI,PV.shareL_length];exact(p1 x hx').2.2) (by simp) (cells:=vs)
   (λk hk=>by rw[XK,if_pos ⟨rfl,by simpa using hk⟩])
   (λi j hi hj=>by
    simp only[JO]at hi;obtain⟨ys,e1,e2,e3⟩:=hcell i hi;have hcells:vs.getD (i*ei.size+j) undef=ys.getD j undef:=by
     rw[<-hvs,FW hsz (by simpa[hl]using hi) hj,e1]
    rw[hcells];rw[getD_lt (l:=Kx _ parts) (by simpa using hi)];simp only[JD];have:=e3 j hj;rw[getD_lt hi]at this;exact this.mono hle')
  simpa using this
 refine⟨_,_,_,_,hrun,hsim,?_,?_,hle',?_,?_⟩;refine .row d _ _ hrep λn' sz' e' hq=> ?_
 simp only[Hp.setq,Za]at hq;cases hq;refine⟨by simp,λ_=>⟨λh0=>by simp[Za]at h0,λc hc=> ?_⟩⟩;simp only[Za,Jq]at hc ⊢;rw[<-hc];intro i hi;simp only[PV.ids,Jy]at hi;subst hi;simp[ZX,Hp.setq,Hp.new,Za];intro b hb;refine⟨λo=> ?_,rfl⟩;rw[XK,if_neg];rintro ⟨rfl,_⟩;exact hs.new_ok hb;exact(BelowF.refl B w).alloc hs.hB _;exact λhok=>hok.elim
end
open Go.RowKit
def Zqd:Option PV->Option Int
 |none=>some 0
 |some (.int _ k)=>some k
 |_=>none
def Zp9 (n:Nat):Option PV->Option Int
 |none=>some n
 |some (.int _ k)=>some k
 |_=>none
def cut {α:Type} (l:List α) (i j:Int):List α:=(l.drop i.toNat).take (j.toNat-i.toNat)
def Gd (P:Program) (t:TypeId) (x:PV) (lo hi:Option PV) (m:Hp):ARes:=
 match tix P t,x with
 | .str,.str l=>match Zqd lo,Zp9 l.length hi with
  |some i,some j=>⟨0<=i/\i<=j/\j<=l.length,.str (cut l i j),m⟩
  |_,_=> .fail
 | .slc esz _,.sl _ es=>match Zqd lo,Zp9 es.length hi with
  |some i,some j=>⟨0<=i/\i<=j/\j<=es.length/\Sized esz es,.sl .no (cut es i j),m⟩
  |_,_=> .fail
 | .slc esz _,.osl id off len sz=>match Zqd lo,Zp9 len hi with
  |some i,some j=>⟨0<=i/\i<j/\j<=len/\esz=sz,.osl id (off+i.toNat*sz) (j.toNat-i.toNat) sz,m⟩
  |_,_=> .fail
 | .arr n esz _,.ptr id off=>match Zqd lo,Zp9 n hi with
  |some i,some j=>⟨0<=i/\i<j/\j<=n,.osl id (off+i.toNat*esz) (j.toNat-i.toNat) esz,m⟩
  |_,_=> .fail
 |_,_=> .fail
def Wg (P:Program) (d:Nat) (t:TypeId) (c:PV) (m:Hp):ARes:=
 match We P t,c with
 |some ei,.int _ c=>⟨m.q d=none/\0<=c/\(ei.bytes:Int)*c<=281474976710656/\c<=9223372036854775807,.sl (.row d) [],m.setq d (.live 0 ei.size ei.e)⟩
 |_,_=> .fail
section
variable {P:Program} {B:Frm} {S:Stable} {M:Maps} {s:St} {a:Act} {w:World}
theorem ZeN (l:List UInt8) (i j:Nat):(⟨⟨l⟩⟩:ByteArray).extract i j=⟨⟨(l.drop i).take (j-i)⟩⟩:=by
 apply ByteArray.ext;apply JZ;rw[Lib.extract_data]
theorem Ww {isSlice:Bool} {len cap:Nat} {lo hi:Option Value} {plo phi:Option PV} {i j:Int} (hlo:∀v p,lo=some v->plo=some p->RepS S M s.m.q v p) (hhi:∀v p,hi=some v->phi=some p->RepS S M s.m.q v p)
  (hl1:lo.isSome=plo.isSome) (hl2:hi.isSome=phi.isSome) (h1:Zqd plo=some i) (h2:Zp9 len phi=some j) (g1:0<=i) (g2:i<=j) (g3:j<=len) (hc:len<=cap):
  (KL isSlice len cap lo hi none).run P w= .ok (i.toNat,j.toNat,cap) w:=by
 have hj0:0<=j:=by omega
 have hjc:j<=cap:=by omega
 have hij:i<=(j.toNat:Int):=by omega
 have hh:∀code,(match hi,(none:Option Value)with
   |some v,some _=>JU v cap .slice3B
   |some v,none=>JU v cap code
   |none,none=>Pure.pure len
   |none,some _=>stuck "x").run P w= .ok j.toNat w:=by
  intro code;cases hi with
  |none=>
   cases phi with
   |none=>simp only[Zp9,Jn.injEq]at h2;subst h2;simp
   |some p=>simp at hl2
  |some v=>
   cases phi with
   |none=>simp at hl2
   |some p=>
    have r:=hhi v p rfl rfl;cases p<;>simp[Zp9]at h2
    subst h2;rw[r.int_inv];simp[JU,asIntOf,hj0,hjc]
 have hl:∀code,(match lo with
   |some v=>JU v j.toNat code
   |none=>Pure.pure 0).run P w= .ok i.toNat w:=by
  intro code;cases lo with
  |none=>
   cases plo with
   |none=>simp only[Zqd,Jn.injEq]at h1;subst h1;simp
   |some p=>simp at hl1
  |some v=>
   cases plo with
   |none=>simp at hl1
   |some p=>
    have r:=hlo v p rfl rfl;cases p<;>simp[Zqd]at h1
    subst h1;rw[r.int_inv];simp only[JU,asIntOf,Ji,Jp,Jb];rw[if_pos ⟨g1,hij⟩];rfl
 unfold KL;cases hi with
 |none=>
  have e:=hh .sliceAlen;simp only at e;cases lo with
  |none=>have e':=hl .sliceB;simp only at e';simp only[Ji,Jp,Jb]at e e' ⊢;simp_all
  |some v=>have e':=hl .sliceB;simp only at e';simp only[Ji,Jp,Jb]at e e' ⊢;simp_all
 |some u=>
  have e1:=hh .sliceAlen;have e2:=hh .sliceAcap;simp only at e1 e2;cases lo with
  |none=>have e':=hl .sliceB;simp only at e';cases isSlice<;>simp only[Ji,Jp,Jb,Jo,if_false,if_true,e1,e2]at e' ⊢ <;> simp_all
  |some v=>have e':=hl .sliceB;simp only at e';cases isSlice<;>simp only[Ji,Jp,Jb,Jo,if_false,if_true,e1,e2]at e' ⊢ <;> simp_all
theorem Zhu (hs:Sim B S M s a w) {t:TypeId} {x:Value} {p:PV} {lo hi:Option Value} {plo phi:Option PV} (hx:RepS S M s.m.q x p) (hxi:∀i∈p.ids,ZX s.m i)
  (hlo:∀v p,lo=some v->plo=some p->RepS S M s.m.q v p) (hhi:∀v p,hi=some v->phi=some p->RepS S M s.m.q v p) (hl1:lo.isSome=plo.isSome) (hl2:hi.isSome=phi.isSome)
  (hok:(Gd P t p plo phi s.m).ok):Snd P B S s a w (JX t x lo hi none) (Gd P t p plo phi s.m):=by
 revert hok;unfold Gd;split;rename_i l heq;have h1:=ZdN heq;split;rename_i i j e1 e2;rintro ⟨g1,g2,g3⟩;rw[hx.str_inv];have hb:=Ww (P:=P) (w:=w) (isSlice:=false) (cap:=l.length) hlo hhi hl1 hl2 e1 e2 g1 g2 g3 (Jj _);refine Snd.clean hs (v:= .string ⟨⟨cut l i j⟩⟩) ?_ (.str _);have hsz:(⟨⟨l⟩⟩:ByteArray).size=l.length:=rfl;simp[JX,ZR h1,KY,hsz,hb,ZeN,cut];exact λhok=>hok.elim
 rename_i esz ea tk es heq;obtain⟨e,d,ti,h1,rfl,rfl,h2,h3⟩:=TQ heq;split;rename_i i j e1 e2;rintro ⟨g1,g2,g3,g4⟩;have hr:=hx.sl_inv;obtain⟨ad,cap,rfl,hcap⟩:=hr.sl_len;have hb:=Ww (P:=P) (w:=w) (isSlice:=true) (cap:=cap) hlo hhi hl1 hl2 e1 e2 g1 g2 g3 hcap;have hlen:(cut es i j).length=j.toNat-i.toNat:=by simp[cut];omega
 have hrun:(JX t (.slice ad es.length cap) lo hi none).run P w= .ok (.slice (if cap=i.toNat then ad else ad.map (·.add (i.toNat*tsz P e))) (j.toNat-i.toNat) (cap-i.toNat)) w:=by
  simp[JX,ZR h1,KY,hb,Yu h3]
 refine Snd.clean hs hrun ?_;by_cases h0:j.toNat-i.toNat=0;have:cut es i j= []:=Jc (by omega);rw[this,h0];exact .sl0 _ _;have hlt:i.toNat<es.length:=by omega
 obtain⟨b,o,cap',vals,ev,hcap',hu,hS,hR⟩:=hr.sl_at hlt;cases ev;have e0:(es.getD i.toNat .any).cells.length=tsz P e:=g4 _ (Ze hlt);rw[e0]at hS hR hu;rw[if_neg (by omega)];simp only[Option.map_some,YL];have gd:∀k,k<(cut es i j).length->(cut es i j).getD k .any=es.getD (i.toNat+k) .any:=λk hk=>by
  unfold cut;rw[Xx (by omega),XM]
 have:=Rep.sl (S:=S) b (o+i.toNat*tsz P e) (cap-i.toNat) (tsz P e) (cut es i j) (λk l=>vals (i.toNat+k) l) (λk hk=>by rw[gd k hk];exact hu _ (by omega)) (by omega)
  (λk l hk hl=>by
   have:=hS (i.toNat+k) l (by omega) hl;rw[Jg]at this;rw[<-this];congr 1;omega)
  (λk l hk hl=>by rw[gd k hk];exact hR _ _ (by omega) hl)
 rw[hlen]at this;exact this;exact λhok=>hok.elim
 rename_i esz ea id off len sz heq;obtain⟨e,d,ti,h1,rfl,rfl,h2,h3⟩:=TQ heq;split;rename_i i j e1 e2;rintro ⟨g1,g2,g3,rfl⟩;obtain⟨cap,hcap,rfl⟩:=hx.osl_inv;have hb:=Ww (P:=P) (w:=w) (isSlice:=true) (cap:=cap) hlo hhi hl1 hl2 e1 e2 g1 (by omega) g3 hcap;refine Snd.pure hs (v:= .slice (some ⟨M.φ id,off+i.toNat*tsz P e,none⟩) (j.toNat-i.toNat) (cap-i.toNat)) ?_ (.osl _ _ _ _ _ (by omega)) (by simpa[PV.ids]using hxi);have hne:¬cap=i.toNat:=by omega
 simp[JX,ZR h1,KY,hb,Yu h3,hne,YL];exact λhok=>hok.elim
 rename_i n esz ea id off heq;obtain⟨e,d,ti,h1,rfl,rfl,h2,h3⟩:=ZaS heq;split;rename_i i j e1 e2;rintro ⟨g1,g2,g3⟩;rw[hx.ptr_inv];have hb:=Ww (P:=P) (w:=w) (isSlice:=false) (cap:=n) hlo hhi hl1 hl2 e1 e2 g1 (by omega) g3 (Jj _);refine Snd.pure hs (v:= .slice (some ⟨M.φ id,off+i.toNat*tsz P e,none⟩) (j.toNat-i.toNat) (n-i.toNat)) ?_ (.osl _ _ _ _ _ (by omega)) (by simpa[PV.ids]using hxi);have hne:¬n=i.toNat:=by omega
 simp[JX,ZR h1,Jv,hb,Yu h3,hne,YL];exact λhok=>hok.elim
 exact λhok=>hok.elim
theorem ZdF (hs:Sim B S M s a w) {d:Nat} {t:TypeId} {k:IntKind} {c:Value} {p:PV} (hc:RepS S M s.m.q c p)
  (hok:(Wg P d t p s.m).ok):Snd P B S s a w (K2 t (.int k 0) c) (Wg P d t p s.m):=by
 revert hok;unfold Wg;split;rename_i ei kc n hx;rintro ⟨g1,g2,g3,g4⟩;obtain⟨ti,z,h1,h2,h3,h4,h5,h6,h7,h8⟩:=YP hx;rw[hc.int_inv];have hrun:=run_make (P:=P) w t ei.e ti z h1 h2 h3 k kc 0 n (Qp _) g2 (by rw[h6];exact g3) g4;have hm:madeCells z.cells (n.toNat*ti.size)=⟨(madeCells z.cells (n.toNat*ti.size)).toList⟩:=rfl;have hl:(madeCells z.cells (n.toNat*ti.size)).toList.length=n.toNat*ei.size:=by rw[JC,size_madeCells,h5]
 have hsim:=hs.newRow (d:=d) (n:=0) (sz:=ei.size) (c:=n.toNat) (e:=ei.e) (w':=w.alloc (.cells (madeCells z.cells (n.toNat*ti.size)) ei.e)) (.inl g1) (Ku _) (by simp only[maxLen];omega) hl (λk hk=>ZZ w _ hk) (alloc_heap_new w _);have hS:ZbD S w.heap.size (0*ei.size) (madeCells z.cells (n.toNat*ti.size)).toList=S:=by
  unfold ZbD;congr 1;funext b o;rw[if_neg (by simp)]
 rw[hS]at hsim;refine⟨_,_,S,_,hrun,hsim,?_,?_,hs.ext_alloc _⟩;refine .row d _ [] (.sl0 _ _) λn' sz' e' hq=> ?_
 simp only[Hp.setq,Za]at hq;cases hq;refine⟨Jj _,λ_=>⟨λh0=>by simp[Za]at h0,λc hc=> ?_⟩⟩;simp only[Za,Jq]at hc ⊢;rw[<-hc];rfl;intro i hi;simp only[PV.ids,Jy]at hi;subst hi;simp[ZX,Hp.setq,Hp.new,Za];exact λhok=>hok.elim
def aMakeFull (P:Program) (d:Nat) (t:TypeId) (l c:PV) (m:Hp):ARes:=
 match We P t,l,c with
 |some ei,.int _ n,.int _ n'=>match tz P ei.e with
  |some z=>⟨m.q d=none/\n=n'/\0<=n/\(ei.bytes:Int)*n<=281474976710656/\n<=1000000/\z.cells.length=ei.size,.sl (.row d) (JJ n.toNat z),m.setq d (.live n.toNat ei.size ei.e)⟩
  |none=> .fail
 |_,_,_=> .fail
where
 tz (P:Program) (e:TypeId):Option PV:=match P.info? e with
  |some i=>match i.zero with
   |some z=>if(XR z).known then some (XR z)else none
   |none=>none
  |none=>none
 tbdz (P:Program) (e:TypeId):Option (List PV):=match P.info? e with
  |some i=>match i.zero with
   |some z=>if(XR z).known then some (XR z).cells else none
   |none=>none
  |none=>none
end
open Go.RowKit
section
variable {P:Program} {B:Frm} {S:Stable} {M:Maps} {s:St} {a:Act} {w:World}
theorem Fi {cs:List PV} (h:PV.idsL cs= []) {i:Nat} (hi:i<cs.length):(cs.getD i .any).ids= []:=by
 have hm:=Ze (d:=PV.any) hi;apply J6.2;intro r hr;have:=PV.mem_idsL.2 ⟨_,hm,hr⟩;rw[h]at this;cases this
theorem RepS.alone {q:Rows} {v:Value} {p:PV} (r:RepS S M q v p) (h:p.ids= []):Rep S v p:=by
 induction r with
 |clean r=>exact r
 |ptr id off=>simp[PV.ids]at h
 |osl id off len cap sz hc=>simp[PV.ids]at h
 |vsl id len sz v hv t=>simp[PV.ids]at h
 |vptr id n sz i off v hv hi t=>simp[PV.ids]at h
 |row id v es r _=>simp[PV.ids]at h
 |agg vs cs hl _ ih=>exact .agg vs cs hl (λi hi=>ih i hi (Fi h hi))
 |tup vs cs hl _ ih=>exact .tup vs cs hl (λi hi=>ih i hi (Fi h hi))
 |fn f vs cs hl _ ih=>exact .fn f vs cs hl (λi hi=>ih i hi (Fi h hi))
theorem Sim.freeze (hs:Sim B S M s a w) {id:Nat} {cs:List PV} (hid:s.m.h id=some cs) (hp:PV.idsL cs= []):
  ∃S',Sim B S' M (s.with (s.m.freeze id)) a w/\Ext B S S' w w:=by
 cases hz:s.m.z id with
 |true=>
  have e:s.m.freeze id=s.m:=by
   have:upd s.m.z id true=s.m.z:=by
    funext k;by_cases e:id=k;subst e;simp[upd,hz];simp[upd,e]
   unfold Hp.freeze;rw[this]
  exact⟨S,by rw[e];exact hs,Ext.refl _ _ _⟩
 |false=>
  obtain⟨h1,h2,⟨vs,t,h3,h4,h5⟩,h6⟩:=hs.own hid hz;have hle:SLe S (ZbD S (M.φ id) vs.length vs):= .cells rfl λb o v hv=>by
   rw[XK];rw[if_neg];exact hv;rintro ⟨rfl,_⟩;rw[h2 o]at hv;cases hv
  have rep:∀ {v p},RepS S M s.m.q v p->RepS (ZbD S (M.φ id) vs.length vs) M s.m.q v p:=λr=>r.heap hle (λ_ _=>rfl) (λ_ _=> .refl _ _ _)
  have e4:∀i,i≠id->(s.m.freeze id).z i=s.m.z i:=λi h=>Zk _ _ (Jt h)
  have n2:(s.m.freeze id).z id=true:=Za _ _ _;have other:∀ {b o},b≠M.φ id->ZbD S (M.φ id) vs.length vs b o=S b o:=λ{b o} h=>by
   rw[XK,if_neg (λhh=>h hh.1)]
  refine⟨ZbD S (M.φ id) vs.length vs,⟨hs.defers,hs.hn,hs.hB,hs.stable.move hle (λb c hc=>(hs.stable.o b c hc).2.1) ⟨λb o v hv=> ?_,hs.stable.s.m,hs.stable.s.y⟩ (λ_ _ _=>rfl) (λ_ _ _=>rfl),λi=>rep (hs.fr i),hs.ids,λi ds hd=> ?_,λi r hr=> ?_,?_,hs.injq,?_,λb c hc=> ?_,λi es he=> ?_,⟨hs.pn.h,hs.pn.q⟩,hs.hz⟩,hle,?_,BelowF.refl _ _⟩;rw[XK]at hv;split at hv;rename_i hb;obtain⟨rfl,ho⟩:=hb;rw[XH h3,Je ho,<-hv,getD_lt ho];exact hs.stable b o v hv;simp only[St.with]at hd ⊢;by_cases e:i=id;subst e;rw[n2];have:ds=cs:=by
   have hd':s.m.h i=some ds:=hd;rw[hid]at hd';exact(Jn.inj hd').symm
  subst this;refine⟨λj=>vs.getD j undef,λj hj=>⟨?_,?_⟩⟩;rw[XK,if_pos ⟨rfl,by omega⟩];exact((h5 j hj).alone (Fi hp hj)).mono hle;rw[e4 i e];have hb':=hs.blk i ds hd;cases hzi:s.m.z i with
  |false=>
   rw[hzi]at hb';obtain⟨g1,g2,⟨us,t',g3,g4,g5⟩,g6⟩:=hb';have hne:=hs.inj i id _ _ hd hid hzi hz e;exact⟨g1,λo=>by rw[other hne];exact g2 o,⟨us,t',g3,g4,λk hk=>rep (g5 k hk)⟩,g6⟩
  |true=>
   rw[hzi]at hb';obtain⟨vals,hv⟩:=hb';exact⟨vals,λj hj=>⟨hle _ _ _ (hv j hj).1,(hv j hj).2.mono hle⟩⟩
  have hr':=hs.row i r hr;cases r with
  |live n sz et=>
   obtain⟨g1,g2⟩:=hr';refine⟨g1,λc hk=> ?_⟩;obtain⟨k0,k0',k1,⟨us,k2,k3⟩,k4⟩:=g2 c hk;have hne:=hs.injx id i _ _ hid hz hr rfl (by omega);exact⟨k0,k0',k1,⟨us,k2,k3⟩,λo ho=>by rw[other (Jt hne)];exact k4 o ho⟩
  |vec n sz et=>
   obtain⟨g1,g2⟩:=hr';refine⟨g1,λc hk=> ?_⟩;obtain⟨k0,k0',k1,⟨us,k2,k3⟩,k4⟩:=g2 c hk;have hne:=hs.injx id i _ _ hid hz hr rfl (by omega);exact⟨k0,k0',k1,⟨us,k2,k3⟩,λo=>by rw[other (Jt hne)];exact k4 o⟩
  |dead=>trivial
  intro i k b b' hbi hbk zi zk hik;simp only[St.with]at zi zk;have hi':i≠id:=λe=>by subst e;rw[n2]at zi;cases zi
  have hk':k≠id:=λe=>by subst e;rw[n2]at zk;cases zk
  rw[e4 i hi']at zi;rw[e4 k hk']at zk;exact hs.inj i k _ _ hbi hbk zi zk hik;intro i k b r hbi zi hq ho hk;simp only[St.with]at zi;have hi':i≠id:=λe=>by subst e;rw[n2]at zi;cases zi
  rw[e4 i hi']at zi;exact hs.injx i k _ _ hbi zi hq ho hk;obtain⟨g1,g2,g3,g4⟩:=hs.rm b c hc;exact⟨g1,g2,g3,g4.move hle rfl (λv p r _=>rep r) (λ_ h=>h)⟩;exact(hs.vc i es he).move (λ_ _ _ h=>h) rfl rfl (λ_=>rfl) (λv p r _=>rep r) (λ_ h=>h);intro b hb;exact⟨λo=>other (λe=>h1 (e▸hb)),rfl⟩
def frozenBy (m:Hp):List PV->Hp
 | []=>m
 | .ptr id _::cs=>frozenBy (m.freeze id) cs
 |_::cs=>frozenBy m cs
def Uq (m:Hp):List PV->Prop
 | []=>True
 | .ptr id _::cs=>(match m.h id with|some ds=>PV.idsL ds= []|none=>False)/\Uq m cs
 |c::cs=>c.ids= []/\Uq m cs
theorem Gm {m:Hp} (d:Nat):∀ {cs:List PV},Uq m cs->Uq (m.freeze d) cs
 | [],_=>trivial
 |c::cs,h=>by
  cases c<;>exact⟨h.1,Gm d h.2⟩
theorem Sim.frozenBy (hs:Sim B S M s a w):∀(cs:List PV),Uq s.m cs-> ∃S',Sim B S' M (s.with (frozenBy s.m cs)) a w/\Ext B S S' w w:=by
 intro cs;induction cs generalizing s S with
 |nil=>intro _;exact⟨S,hs,Ext.refl _ _ _⟩
 |cons c cs ih=>
  intro hok;have skip:∀m',PL.frozenBy s.m (c::cs)=PL.frozenBy m' cs->(∃S1,Sim B S1 M (s.with m') a w/\Ext B S S1 w w)->Uq m' cs-> ∃S',Sim B S' M (s.with (PL.frozenBy s.m (c::cs))) a w/\Ext B S S' w w:=by
   intro m' e h1 h2;obtain⟨S1,hs1,he1⟩:=h1;obtain⟨S2,hs2,he2⟩:=ih hs1 h2;refine⟨S2,?_,he1.trans he2⟩;rw[e];exact hs2
  cases c with
  |ptr id off=>
   obtain⟨h1,h2⟩:=hok;cases hid:s.m.h id with
   |none=>rw[hid]at h1;exact h1.elim
   |some ds=>
    rw[hid]at h1;exact skip (s.m.freeze id) rfl (hs.freeze hid h1) (Gm id h2)
  |_=>exact skip s.m rfl ⟨S,hs,Ext.refl _ _ _⟩ hok.2
theorem WP (m:Hp):∀cs,(frozenBy m cs).h=m.h
 | []=>rfl
 |c::cs=>by
  cases c<;>first|exact WP m cs|exact WP (m.freeze _) cs
theorem X8 (m:Hp):∀cs,(frozenBy m cs).q=m.q
 | []=>rfl
 |c::cs=>by
  cases c<;>first|exact X8 m cs|exact X8 (m.freeze _) cs
mutual
def PV.give (m:Hp):PV->PV
 | .sl _ es=> .sl .no es
 | .ptr id off=>match m.z id,m.h id with
  |true,some cs=> .rptr (cs.drop off)
  |_,_=> .ptr id off
 | .agg cs=> .agg (PV.giveL m cs)
 | .tup cs=> .tup (PV.giveL m cs)
 | .fn f cs=> .fn f (PV.giveL m cs)
 |p=>p
def PV.giveL (m:Hp):List PV->List PV
 | []=> []
 |c::cs=>PV.give m c::PV.giveL m cs
end
mutual
def PV.givable (m:Hp):PV->Prop
 | .ptr id _=>m.z id=true/\m.h id≠none
 | .osl _ _ _ _=>False
 | .vsl _ _ _=>False
 | .vptr _ _ _ _ _=>False
 | .agg cs=>PV.givableL m cs
 | .tup cs=>PV.givableL m cs
 | .fn _ cs=>PV.givableL m cs
 |_=>True
def PV.givableL (m:Hp):List PV->Prop
 | []=>True
 |c::cs=>PV.givable m c/\PV.givableL m cs
end
theorem PV.giveL_length (m:Hp):∀(cs:List PV),(PV.giveL m cs).length=cs.length
 | []=>rfl
 |c::cs=>by simp[PV.giveL,PV.giveL_length m cs]
theorem PV.giveL_getD (m:Hp):∀(cs:List PV) (i:Nat),i<cs.length->(PV.giveL m cs).getD i .any=(cs.getD i .any).give m
 | [],i,h=>by simp at h
 |c::cs,0,_=>by simp[PV.giveL]
 |c::cs,i+1,h=>by simpa[PV.giveL]using PV.giveL_getD m cs i (by simpa using h)
theorem PV.givableL_getD {m:Hp}:∀ {cs:List PV} (h:PV.givableL m cs) (i:Nat),i<cs.length->(cs.getD i .any).givable m
 | [],_,i,h=>by simp at h
 |c::cs,hc,0,_=>by simpa using hc.1
 |c::cs,hc,i+1,h=>by simpa using PV.givableL_getD hc.2 i (by simpa using h)
theorem Rep.give (m:Hp) {v:Value} {p:PV} (r:Rep S v p):Rep S v (p.give m):=by
 induction r with
 |agg vs cs hl _ ih=>exact .agg vs _ (by rw[PV.giveL_length];exact hl) (λi hi=>by rw[PV.giveL_length]at hi;rw[PV.giveL_getD m cs i hi];exact ih i hi)
 |tup vs cs hl _ ih=>exact .tup vs _ (by rw[PV.giveL_length];exact hl) (λi hi=>by rw[PV.giveL_length]at hi;rw[PV.giveL_getD m cs i hi];exact ih i hi)
 |fn f vs cs hl _ ih=>exact .fn f vs _ (by rw[PV.giveL_length];exact hl) (λi hi=>by rw[PV.giveL_length]at hi;rw[PV.giveL_getD m cs i hi];exact ih i hi)
 |any v=>exact .any v
 |int k n=>exact .int k n
 |bool b=>exact .bool b
 |str l=>exact .str l
 |flt k b=>exact .flt k b
 |cpx k a b=>exact .cpx k a b
 |sl0 a cap=>exact .sl0 a cap
 |slnil=>exact .sl0 none 0
 |sl b o cap sz es vals h1 h2 h3 h4 _=>exact .sl b o cap sz es vals h1 h2 h3 h4
 |slf v es r hz _=>exact r
 |rptr b o cs vals h1 h2 _=>exact .rptr b o cs vals h1 h2
 |nilp=>exact .nilp
 |nilfn=>exact .nilfn
 |nilmap=>exact .nilmap
 |mref b=>exact .mref b
 |iptr b=>exact .iptr b
 |rmap b es ks vs h1 h2 h3 h4 h5 h6 _ _=>exact .rmap b es ks vs h1 h2 h3 h4 h5 h6
theorem RepS.give (hs:Sim B S M s a w) {v:Value} {p:PV} (r:RepS S M s.m.q v p) (h:p.givable s.m):Rep S v (p.give s.m):=by
 induction r with
 |clean r=>exact r.give s.m
 |ptr id off=>
  obtain⟨h1,h2⟩:=h;cases hid:s.m.h id with
  |none=>exact absurd hid h2
  |some cs=>
   have hb:=hs.blk id cs hid;rw[h1]at hb;obtain⟨vals,hv⟩:=hb;simp only[PV.give,h1,hid];refine .rptr (M.φ id) off _ (λj=>vals (off+j)) (λj hj=> ?_) (λj hj=> ?_)
   ·simp only[Jl]at hj;exact(hv (off+j) (by omega)).1
   ·simp only[Jl]at hj;rw[XM];exact(hv (off+j) (by omega)).2
 |osl id off len cap sz hc=>exact h.elim
 |vsl id len sz v hv t=>exact h.elim
 |vptr id n sz i off v hv hi t=>exact h.elim
 |row id v es r _=>exact r
 |agg vs cs hl _ ih=>exact .agg vs _ (by rw[PV.giveL_length];exact hl) (λi hi=>by rw[PV.giveL_length]at hi;rw[PV.giveL_getD s.m cs i hi];exact ih i hi (PV.givableL_getD h i hi))
 |tup vs cs hl _ ih=>exact .tup vs _ (by rw[PV.giveL_length];exact hl) (λi hi=>by rw[PV.giveL_length]at hi;rw[PV.giveL_getD s.m cs i hi];exact ih i hi (PV.givableL_getD h i hi))
 |fn f vs cs hl _ ih=>exact .fn f vs _ (by rw[PV.giveL_length];exact hl) (λi hi=>by rw[PV.giveL_length]at hi;rw[PV.giveL_getD s.m cs i hi];exact ih i hi (PV.givableL_getD h i hi))
theorem Zbg (hs:Sim B S M s a w) {d:Nat} {t:TypeId} {l c:Value} {pl pc:PV} (hl:RepS S M s.m.q l pl) (hc:RepS S M s.m.q c pc)
  (hok:(aMakeFull P d t pl pc s.m).ok):Snd P B S s a w (K2 t l c) (aMakeFull P d t pl pc s.m):=by
 revert hok;unfold aMakeFull;split;rename_i ei kl n kc m hx;split;rename_i z hz;rintro ⟨g1,rfl,g2,g3,g4,g5⟩;obtain⟨ti,zv,h1,h2,h3,h4,h5,h6,h7,h8⟩:=YP hx;rw[hl.int_inv,hc.int_inv];have hrun:=run_make (P:=P) w t ei.e ti zv h1 h2 h3 kl kc n n g2 (Qp _) (by rw[h6];exact g3) (by omega);unfold aMakeFull.tz at hz;rw[h2]at hz;simp only[h3]at hz;split at hz;rename_i hk;cases hz;have hlen:(madeCells zv.cells (n.toNat*ti.size)).toList.length=n.toNat*ei.size:=by rw[JC,size_madeCells,h5]
 have hsim:=hs.newRow (d:=d) (n:=n.toNat) (sz:=ei.size) (c:=n.toNat) (e:=ei.e) (w':=w.alloc (.cells (madeCells zv.cells (n.toNat*ti.size)) ei.e)) (.inl g1) (Jj _) (by simp only[maxLen];omega) hlen (λk hk=>ZZ w _ hk) (alloc_heap_new w _);generalize hvs:(madeCells zv.cells (n.toNat*ti.size)).toList=vs at hsim hlen;generalize hS':ZbD S w.heap.size (n.toNat*ei.size) vs=S' at hsim;have hSle:SLe S S':=by
  rw[<-hS'];refine .cells rfl λb o v hv=> ?_
  rw[XK,if_neg];exact hv;rintro ⟨rfl,_⟩;rw[hs.S_lt (Jj _)]at hv;cases hv
 obtain⟨zs,e1,e2,e3⟩:=(RepS.clean (S:=S') (M:=M) (q:=s.m.q) (Vb S' zv)).cells_inv hk;have hzl:zv.cells.size=ei.size:=h4;have hget:∀i j,i<n.toNat->j<ei.size->vs.getD (i*ei.size+j) undef=zv.cells.toList.getD j undef:=λi j hi hj=>by
  have hlt:i*ei.size+j<n.toNat*ei.size:=by
   have:(i+1)*ei.size<=n.toNat*ei.size:=Ja _ hi;rw[Jg]at this;omega
  rw[<-hvs,getD_lt (by rw[JC,size_madeCells,h5];exact hlt),getD_lt (by rw[JC,hzl];exact hj)];simp only[madeCells,Array.getElem_toList,Array.getElem_map,Array.getElem_range,hzl];rw[KJ,J9,KN hj,getElem!_pos]
 refine⟨_,_,S',_,hrun,hsim,?_,?_,hSle,λb hb=>⟨λo=> ?_,by rw[<-hS'];rfl⟩,(hs.ext_alloc _).2.2⟩;refine .row d _ _ ?_ λn' sz' e' hq=> ?_
 have hr:=Rep.sl (S:=S') w.heap.size 0 n.toNat ei.size (JJ n.toNat (XR zv)) (λi j=>vs.getD (i*ei.size+j) undef) (λi hi=>by
  rw[Ju]at hi;rw[getD_lt (by rw[Ju];exact hi),Km];exact g5) (by rw[Ju];exact Jj _) (λi j hi hj=>by
  rw[Ju]at hi;have hlt:i*ei.size+j<n.toNat*ei.size:=by
   have:(i+1)*ei.size<=n.toNat*ei.size:=Ja _ hi;rw[Jg]at this;omega
  rw[<-hS',XK,if_pos ⟨rfl,by omega⟩];simp) (λi j hi hj=>by
  rw[Ju]at hi;rw[show(JJ n.toNat (XR zv)).getD i .any=XR zv by rw[getD_lt (by rw[Ju];exact hi),Km]];rw[hget i j hi hj,show zv.cells.toList=zs by rw[e1]];have hj':j<(XR zv).cells.length:=by rw[g5];exact hj
  refine(e3 j hj').alone (J6.2 λr hr=> ?_);have:=YB (Ze (d:=PV.any) hj') hr;rw[VM]at this;cases this)
 rw[Ju]at hr;exact hr;simp only[Hp.setq,Za]at hq;cases hq;refine⟨by rw[Ju];exact Jj _,λ_=>⟨λh0=>by simp[Za]at h0,λc hc=> ?_⟩⟩;simp only[Za,Jq]at hc ⊢;rw[<-hc];intro i hi;simp only[PV.ids,Jy]at hi;subst hi;simp[ZX,Hp.setq,Za];rw[<-hS',XK,if_neg];rintro ⟨rfl,_⟩;have:=hs.hB _ hb;omega;cases hz;exact λhok=>hok.elim
 exact λhok=>hok.elim
end
open Go.RowKit
section
variable {P:Program} {B:Frm} {S:Stable} {M:Maps} {s:St} {a:Act} {w:World}
theorem Sim.pokeVec (hs:Sim B S M s a w) {id c n sz:Nat} {e:TypeId} (hq:s.m.q id=some (.vec n sz e)) (hv:s.m.v id=none) (hκ:M.κ id=c+1) {vs':List Value} (hl:vs'.length=c*sz):
  Sim B S M s a (w.setRow (M.ψ id) ⟨vs'⟩)/\Ext B S S w (w.setRow (M.ψ id) ⟨vs'⟩)/\(w.setRow (M.ψ id) ⟨vs'⟩).heap[M.ψ id]? = some (.cells ⟨vs'⟩ e (0,0)):=by
 obtain⟨r3,r4⟩:=hs.row id _ hq;obtain⟨k1,k2,k3,⟨vs,k5,k6⟩,k4⟩:=r4 c hκ;have hnew:=Vz (c':=⟨vs'⟩) k5;have hold:∀k,k≠M.ψ id->(w.setRow (M.ψ id) ⟨vs'⟩).heap[k]? = w.heap[k]? :=λk hk=>VA hk
 have hsz:=VT w (M.ψ id) ⟨vs'⟩;refine⟨⟨hs.defers,hs.hn,by rw[hsz];exact hs.hB,hs.stable.setRow k5 k4,hs.fr,hs.ids,λi b hb=> ?_,λi r hri=> ?_,hs.inj,hs.injq,hs.injx,λb d hd=> ?_,λi es1 he=> ?_,hs.pn,hs.hz⟩,⟨SLe.refl _,λ_ _=>⟨λ_=>rfl,rfl⟩,V2 k3⟩,hnew⟩;have hb':=hs.blk i b hb;cases hz:s.m.z i with
 |true=>rw[hz]at hb';exact hb'
 |false=>
  rw[hz]at hb';obtain⟨g1,g2,⟨us,t',g3,g4,g5⟩,g6⟩:=hb';exact⟨g1,g2,⟨us,t',by rw[hold _ (hs.injx i id _ _ hb hz hq rfl (by omega))];exact g3,g4,g5⟩,g6⟩
 have hr':=hs.row i r hri;cases r with
 |live n sz1 e1=>
  obtain⟨g1,g2⟩:=hr';refine⟨g1,λc' hc'=> ?_⟩;obtain⟨p1,p2,p3,⟨us,p4,p5⟩,p6⟩:=g2 c' hc';have hne:M.ψ i≠M.ψ id:=hs.injq i id _ _ hri hq rfl rfl (by omega) (by omega) (λe=>by subst e;rw[hq]at hri;cases hri);exact⟨p1,p2,p3,⟨us,by rw[hold _ hne];exact p4,p5⟩,p6⟩
 |vec n sz1 e1=>
  obtain⟨g1,g2⟩:=hr';refine⟨g1,λc' hc'=> ?_⟩;obtain⟨p1,p2,p3,⟨us,p4,p5⟩,p6⟩:=g2 c' hc'
  by_cases ei:i=id
  ·subst ei;rw[hq]at hri;cases hri;have:c'=c:=by omega
   subst this;exact⟨p1,p2,p3,⟨vs',hnew,hl⟩,p6⟩
  ·exact⟨p1,p2,p3,⟨us,by rw[hold _ (hs.injq i id _ _ hri hq rfl rfl (by omega) (by omega) ei)];exact p4,p5⟩,p6⟩
 |dead=>trivial
 obtain⟨g1,g2,g3,g4⟩:=hs.rm b d hd;refine⟨g1,g2,g3,g4.move (SLe.refl _) (hold b λee=> ?_) (λv p r _=>r) (λ_ h=>h)⟩;obtain⟨⟨es,k1,_⟩,_⟩:=g4;subst ee;rw[k5]at k1;cases k1;have ei:i≠id:=λe=>by subst e;rw[hv]at he;cases he
 obtain⟨sz1,e1,q1⟩:=hs.vec_q he;exact(hs.vc i es1 he).move (λ_ _ _ h=>h) rfl rfl (λhk=>hold _ (hs.injq i id _ _ q1 hq rfl rfl hk (by omega) ei)) (λv p r _=>r) (λ_ h=>h)
theorem Sim.relen (hs:Sim B S M s a w) {id n n' sz:Nat} {e:TypeId} (hq:s.m.q id=some (.vec n sz e)) (hv:s.m.v id=none) (h1:n<=n') (h2:∀c,M.κ id=c+1->n'<=c) (h3:M.κ id=0->n'=0):
  Sim B S M (s.with (s.m.setq id (.vec n' sz e))) a w:=by
 obtain⟨r3,r4⟩:=hs.row id _ hq;have h:=hs.layRow (d:=id) (ψ:=M.ψ id) (κ:=M.κ id) (r:= .vec n' sz e) (.inr ?_) ?_ hv (λi r' hi hq' oi ki _ k0=>hs.injq i id _ _ hq' hq oi rfl ki k0 hi) (λi cs hi zi _ k0=>hs.injx i id cs _ hi zi hq rfl k0);rwa[XZ,XZ]at h;rw[hq];refine⟨(by intro _ _ _ h;cases h),λn1 sz1 e1 h=> ?_⟩;cases h;by_cases hn:n=n';subst hn;exact .inl ⟨e,rfl,by simp[Za],by simp[Za]⟩;exact .inr ⟨n,sz,e,rfl,by omega⟩;rw[XZ,XZ];refine⟨h3,λc hc=> ?_⟩;obtain⟨g1,g2⟩:=r4 c hc;exact⟨h2 c hc,g2⟩
theorem Sim.newVec (hs:Sim B S M s a w) {d:Nat} {n sz c:Nat} {e:TypeId} {vs:List Value} {es:List PV} {w':World}
  (hd:s.m.q d=none\/ ∃n0 sz0 e0,s.m.q d=some (.vec n0 sz0 e0)/\n0<n) (hes:es.length=n) (hn:n<=c) (hc:c<=maxLen) (hl:vs.length=c*sz)
  (hw:∀k,k<w.heap.size->w'.heap[k]? = w.heap[k]?) (hnew:w'.heap[w.heap.size]? = some (.cells ⟨vs⟩ e (0,0)))
  (h1:∀p∈es,p.cells.length=sz/\p.cells.all PV.atom=true) (hi:∀p∈es,∀i∈p.ids,ZX s.m i/\i≠ .r d)
  (hr:∀i j,i<es.length->j<sz->RepS S M s.m.q (vs.getD (i*sz+j) undef) ((es.getD i .any).cells.getD j .any)):
  Sim B S { M with ψ:=upd M.ψ d w.heap.size,κ:=upd M.κ d (c+1) } (s.with { s.m.setq d (.vec n sz e)with v:=upd s.m.v d (some es) }) a w':=by
 subst hes;have hlt:w.heap.size<w'.heap.size:=(Jh.1 hnew).1;have g:=hs.grow (S':=S) (w':=w') (SLe.refl S) (λ_ _=>⟨λ_=>rfl,rfl⟩) (hs.stable.s.old hw) hw (by omega);have g1:=g.forget d;have q1:(s.with { s.m with v:=upd s.m.v d none }).m.q d=none\/RowLe M { M with ψ:=upd M.ψ d w.heap.size,κ:=upd M.κ d (c+1) } d (s.m.q d) (some (.vec es.length sz e)):=
  hd.imp (λh=>h) λ⟨n0,sz0,e0,h1,h2⟩=>⟨(by intro _ _ _ h;cases h),(by intro n' sz' e' h;cases h;exact .inr ⟨n0,sz0,e0,h1,h2⟩)⟩
 have g2:=g1.layRow (ψ:=w.heap.size) (κ:=c+1) (r:= .vec es.length sz e) q1 ⟨λh0=>by simp[Za]at h0,λc' hc'=>by
   simp only[Za,Jq]at hc';subst hc';exact⟨hn,hc,by simp only[Za];exact hs.new_ok,⟨vs,by simp only[Za];exact hnew,hl⟩,λo=>by simp only[Za];exact hs.S_lt (Jj _)⟩⟩ (Za _ _ _)
  (λi r' _ hi oi ki _ _=>by have:=hs.row_lt hi oi ki;omega) (λi cs hi zi _ _=>by have:=hs.blk_lt hi zi;omega)
 have g3:=g2.layVec (d:=d) (es:=es) ⟨sz,e,Za _ _ _,h1,λp hp i hi'=>XP i (by have:=(hi p hp i hi').1;cases i<;>exact this),λc' hc' us t f hus i j hi' hj=>by
  simp only[Za]at hus;rw[hnew]at hus;cases hus;refine(hr i j hi' hj).heap (SLe.refl _) (λ_ _=>rfl) λk hk=> ?_
  have hkd:d≠k:=λe=>by
   subst e;have hlen:=(h1 _ (Ze (d:= .any) hi')).1;exact(hi (es.getD i .any) (Ze hi') (.r d) (YB (Ze (by omega)) hk)).2 rfl
  show RowLe M _ k (s.m.q k) (upd s.m.q d _ k);rw[Zk _ _ hkd];exact .same (Zk _ _ hkd) (Zk _ _ hkd)⟩
 have e:(upd (upd s.m.v d none) d (some es))=upd s.m.v d (some es):=ZaV _ _ _ _;simp only[St.with,Hp.setq,e]at g3 ⊢;exact g3
theorem Sim.publish (hs:Sim B S M s a w) {id sz:Nat} {e:TypeId} {es:List PV} (hv:s.m.v id=some es) (hq:s.m.q id=some (.vec es.length sz e)) (hc:∀p∈es,p.ids= []):
  ∃S',Sim B S' M (s.with ({ s.m with v:=upd s.m.v id none }.setq id .dead)) a w/\Ext B S S' w w/\ ∀v,RepS S M s.m.q v (.vsl id es.length sz)->Rep S' v (.sl .no es):=by
 obtain⟨sz',e',q1,r1,r2,r4⟩:=hs.vc id es hv;rw[hq]at q1;cases q1;obtain⟨o1,o2⟩:=hs.row id _ hq;have hd:=hs.deadRow id;cases hκ:M.κ id with
 |zero=>
  have h0:=o1 hκ;refine⟨S,hd,Ext.refl _ _ _,λv hr=> ?_⟩;obtain⟨_,t⟩:=hr.vsl_inv;obtain⟨_,t2⟩:=t _ _ _ hq;rw[(t2 rfl).2.1 hκ,Jc h0];exact .sl0 none 0
 |succ c=>
  obtain⟨k1,k2,k3,⟨vs,k5,k6⟩,k4⟩:=o2 c hκ;have k7:=r4 c hκ vs e (0,0) k5;have hkl:es.length*sz<=vs.length:=by rw[k6];exact Ja _ k1
  have hle:SLe S (ZbD S (M.ψ id) (es.length*sz) vs):= .cells rfl λb o v hv=>by
   rw[XK,if_neg]
   ·exact hv
   ·rintro ⟨rfl,_⟩;rw[k4 o]at hv;cases hv
  have other:∀ {b o},b≠M.ψ id->ZbD S (M.ψ id) (es.length*sz) vs b o=S b o:=λ{b o} h=>by rw[XK,if_neg (λhh=>h hh.1)]
  have rep:∀ {q:Rows} {v p},RepS S M q v p->RepS (ZbD S (M.ψ id) (es.length*sz) vs) M q v p:=λr=>r.heap hle (λ_ _=>rfl) (λ_ _=> .refl _ _ _)
  have hst:StabS (ZbD S (M.ψ id) (es.length*sz) vs) w:=⟨λb o v hv=>by
   rw[XK]at hv;split at hv
   ·rename_i hb;obtain⟨rfl,ho⟩:=hb;rw[XH k5,Je (by omega),<-hv,getD_lt (by omega)]
   ·exact hs.stable b o v hv,hs.stable.s.m,hs.stable.s.y⟩
  have hnq:∀ {i r},(s.with ({ s.m with v:=upd s.m.v id none }.setq id .dead)).m.q i=some r->r.own=true->i≠id/\s.m.q i=some r:=λ{i r} hi ho=>by
   by_cases ei:id=i
   ·subst ei;simp only[St.with,Hp.setq,Za,Jn.injEq]at hi;subst hi;cases ho
   ·simp only[St.with,Hp.setq,Zk _ _ ei]at hi;exact⟨Jt ei,hi⟩
  refine⟨ZbD S (M.ψ id) (es.length*sz) vs,⟨hd.defers,hd.hn,hd.hB,hd.stable.move hle (λb c hc=>(hd.stable.o b c hc).2.1) hst (λ_ _ _=>rfl) (λ_ _ _=>rfl),λi=>rep (hd.fr i),hd.ids,λi ds hi=> ?_,λi r hr=> ?_,hd.inj,hd.injq,hd.injx,λb c hc=> ?_,λi es1 he=> ?_,hd.pn,hd.hz⟩,⟨hle,λb hb=>⟨λo=>other (λe=>k3 (e▸hb)),rfl⟩,BelowF.refl _ _⟩,λv hr=> ?_⟩
  ·have hb:=hd.blk i ds hi;cases hz:(s.with ({ s.m with v:=upd s.m.v id none }.setq id .dead)).m.z i with
   |false=>
    rw[hz]at hb;obtain⟨g1,g2,⟨us,t',g3,g4,g5⟩,g6⟩:=hb;exact⟨g1,λo=>by rw[other (hs.injx i id _ _ hi hz hq rfl (by omega))];exact g2 o,⟨us,t',g3,g4,λj hj=>rep (g5 j hj)⟩,g6⟩
   |true=>
    rw[hz]at hb;obtain⟨vals,hv⟩:=hb;exact⟨vals,λj hj=>⟨hle _ _ _ (hv j hj).1,(hv j hj).2.mono hle⟩⟩
  ·have hr':=hd.row i r hr;cases r with
   |live n1 sz1 e1=>
    obtain⟨ei,hqi⟩:=hnq hr rfl;obtain⟨g1,g2⟩:=hr';refine⟨g1,λc' hc'=> ?_⟩;obtain⟨p1,p2,p3,p4,p6⟩:=g2 c' hc';exact⟨p1,p2,p3,p4,λo ho=>by rw[other (hs.injq i id _ _ hqi hq rfl rfl (by omega) (by omega) ei)];exact p6 o ho⟩
   |vec n1 sz1 e1=>
    obtain⟨ei,hqi⟩:=hnq hr rfl;obtain⟨g1,g2⟩:=hr';refine⟨g1,λc' hc'=> ?_⟩;obtain⟨p1,p2,p3,p4,p6⟩:=g2 c' hc';exact⟨p1,p2,p3,p4,λo=>by rw[other (hs.injq i id _ _ hqi hq rfl rfl (by omega) (by omega) ei)];exact p6 o⟩
   |dead=>trivial
  ·obtain⟨g1,g2,g3,g4⟩:=hd.rm b c hc;exact⟨g1,g2,g3,g4.move hle rfl (λv p r _=>rep r) (λ_ h=>h)⟩
  ·exact(hd.vc i es1 he).move (λ_ _ _ h=>h) rfl rfl (λ_=>rfl) (λv p r _=>rep r) (λ_ h=>h)
  ·obtain⟨_,t⟩:=hr.vsl_inv;obtain⟨_,t2⟩:=t _ _ _ hq;rw[(t2 rfl).2.2 c hκ];refine .sl (M.ψ id) 0 c sz es (λi j=>vs.getD (i*sz+j) undef) (λi hi=>(r1 _ (Ze (d:= .any) hi)).1) k1 (λi j hi hj=> ?_) (λi j hi hj=> ?_)
   ·have hb:i*sz+j<es.length*sz:=by
     calc i*sz+j<i*sz+sz:=by omega
      _=(i+1)*sz:=by rw[Jg,Jw]
      _<=es.length*sz:=Ja _ hi
    rw[JA,XK,if_pos ⟨rfl,hb⟩]
   ·refine((k7 i j hi hj).alone ?_).mono hle;have hx:=r1 _ (Ze (d:= .any) hi);have hid:=hc _ (Ze (d:= .any) hi);cases hids:((es.getD i .any).cells.getD j .any).ids with
    |nil=>rfl
    |cons r rs=>
     have:=YB (p:=es.getD i .any) (Ze (d:= .any) (by omega:j<(es.getD i .any).cells.length)) (k:=r) (by rw[hids];simp);rw[hid]at this;cases this
theorem ZeA {q:Rows} {es ys:List PV} {sz:Nat} {c1 c2:List Value} (hl:c1.length=es.length*sz) (h1:∀i j,i<es.length->j<sz->RepS S M q (c1.getD (i*sz+j) undef) ((es.getD i .any).cells.getD j .any))
  (h2:∀i j,i<ys.length->j<sz->RepS S M q (c2.getD (i*sz+j) undef) ((ys.getD i .any).cells.getD j .any)) (i j:Nat) (hi:i<(es++ys).length) (hj:j<sz):
  RepS S M q ((c1++c2).getD (i*sz+j) undef) (((es++ys).getD i .any).cells.getD j .any):=by
 by_cases h:i<es.length;have:i*sz+j<c1.length:=by
  rw[hl]
  calc i*sz+j<i*sz+sz:=by omega
   _=(i+1)*sz:=by rw[Jg,Jw]
   _<=es.length*sz:=Ja _ h
 rw[Zg this,Zg h];exact h1 i j h hj;have hge:es.length*sz<=i*sz:=Ja _ (by omega);rw[Zj (by omega),Zj (by omega),hl];have e:i*sz+j-es.length*sz=(i-es.length)*sz+j:=by rw[Qm];omega
 rw[e];exact h2 _ _ (by simp only[Jf]at hi;omega) hj
theorem Zkz (hs:Sim B S M s a w) {d:Nat} {t tx ty:TypeId} {x:EInfo} (hx:We P t=some x) {es ys:List PV} {news:List Value} {u y:Value}
  (hu:RepS S M s.m.q u (.vsl d es.length x.size)) (hv:s.m.v d=some es) (hq:s.m.q d=some (.vec es.length x.size x.e))
  (hsrc:Src P x.size tx y ys.length news w) (hrn':∀i j,i<ys.length->j<x.size->RepS S M s.m.q (news.getD (i*x.size+j) undef) ((ys.getD i .any).cells.getD j .any))
  (hz:∀p∈ys,p.cells.length=x.size/\p.cells.all PV.atom=true/\ ∀i∈p.ids,ZX s.m i/\i≠ .r d) (hself:∀p∈es,∀i∈p.ids,i≠ .r d) (hroom:Zjl (es.length+ys.length) x.bytes):
  ∃v w' S' M',(Jz #[t,tx] ty #[u,y]).run P w= .ok v w'/\Sim B S' M' (s.with { s.m.setq d (.vec (es++ys).length x.size x.e)with v:=upd s.m.v d (some (es++ys)) }) a w'/\
   RepS S' M' (upd s.m.q d (some (.vec (es++ys).length x.size x.e))) v (.vsl d (es++ys).length x.size)/\Ext B S S' w w':=by
 obtain⟨i,z,h1,h2,h3,h4,h5,h6,h7,h8⟩:=YP hx;obtain⟨sz',e',q1,r1,r2,r4⟩:=hs.vc d es hv;rw[hq]at q1;cases q1;obtain⟨o1,o2⟩:=hs.row d _ hq;obtain⟨_,t1⟩:=hu.vsl_inv;obtain⟨_,t2⟩:=t1 _ _ _ hq;obtain⟨_,u0,u1⟩:=t2 rfl;have good:∀p∈es++ys,p.cells.length=x.size/\p.cells.all PV.atom=true:=λp hp=>by
  rcases JL.1 hp with hp|hp;exact r1 p hp;exact⟨(hz p hp).1,(hz p hp).2.1⟩
 have gids:∀p∈es++ys,∀i∈p.ids,ZX s.m i/\i≠ .r d:=λp hp i hi=>by
  rcases JL.1 hp with hp|hp;exact⟨r2 p hp i hi,hself p hp i hi⟩;exact(hz p hp).2.2 i hi
 -- a new block
 have grow:∀ {base:Option Addr} {sCap:Nat} {olds:List Value},u= .slice base es.length sCap->(Jm x.size es.length (.slice base es.length sCap)).run P w.drew= .ok olds.toArray w.drew->olds.length=es.length*x.size->
   (∀i j,i<es.length->j<x.size->RepS S M s.m.q (olds.getD (i*x.size+j) undef) ((es.getD i .any).cells.getD j .any))->sCap<es.length+ys.length->es.length<=sCap->
   ∃v w' S' M',(Jz #[t,tx] ty #[u,y]).run P w= .ok v w'/\Sim B S' M' (s.with { s.m.setq d (.vec (es++ys).length x.size x.e)with v:=upd s.m.v d (some (es++ys)) }) a w'/\
   RepS S' M' (upd s.m.q d (some (.vec (es++ys).length x.size x.e))) v (.vsl d (es++ys).length x.size)/\Ext B S S' w w':=by
  intro base sCap olds hu' hold ho hro hg hlt;subst hu';obtain⟨g1,g2⟩:=hroom;have h63:((es.length+ys.length:Nat):Int)<=9223372036854775807:=by simp only[maxLen]at g2;omega
  have hrun:=run_append_grow_src (P:=P) w t tx ty x.e i z h1 h2 h3 base es.length sCap olds (by rw[h5];exact hold) y ys.length news (by rw[h5];exact hsrc) hg h63
   (by rw[h6];exact growslice_fits hg g1)
  have hge:=grownCap_ge w (es.length+ys.length) sCap x.e;have hcm:=grownCap_le_maxLen w (es.length+ys.length) sCap x.e g2;generalize hcap:grownCap w (es.length+ys.length) sCap x.e=cap at *;have hlen:(olds++news).length=(es.length+ys.length)*x.size:=by rw[Jf,ho,hsrc.newsLen,Jg]
  let vs:List Value:=olds++news++(JM z.cells (cap-(es.length+ys.length))).toList
  have hvl:vs.length=cap*x.size:=by
   show(olds++news++_).length=_;have hzl:(JM z.cells (cap-(es.length+ys.length))).toList.length=(cap-(es.length+ys.length))*x.size:=by
    rw[JC,size_zeroCells,h4]
   rw[Jf,hlen,hzl,<-Jg];congr 1;omega
  have harr:(olds++news).toArray++JM z.cells (cap-(es.length+ys.length))=⟨vs⟩:=by
   apply JZ;simp[vs]
  rw[harr]at hrun;have hsim:=hs.newVec (d:=d) (n:=(es++ys).length) (sz:=x.size) (c:=cap) (e:=x.e) (vs:=vs) (es:=es++ys) (w':=w.drew.alloc (.cells ⟨vs⟩ x.e)) (.inr ⟨_,_,_,hq,by simp only[Jf];omega⟩) rfl (by simpa using hge) hcm hvl
   (λk hk=>ZZ w.drew _ hk) (alloc_heap_new w.drew _) good gids (λi j hi hj=>by
    have hb:i*x.size+j<(olds++news).length:=by
     rw[hlen];simp only[Jf]at hi
     calc i*x.size+j<i*x.size+x.size:=by omega
      _=(i+1)*x.size:=by rw[Jg,Jw]
      _<=(es.length+ys.length)*x.size:=Ja _ hi
    show RepS S M s.m.q ((olds++news++_).getD _ undef) _;rw[Zg hb];exact ZeA ho hro hrn' i j hi hj)
  refine⟨_,_,_,_,hrun,hsim,?_,?_⟩
  ·have hc1:es.length+ys.length<=cap:=hge;refine .vsl d _ _ _ ⟨some ⟨w.heap.size,0,none⟩,cap,by rw[Jf],by simp only[Jf];exact hc1,λ_=>⟨_,_,rfl⟩⟩ λn1 sz1 e1 hq1=> ?_
   rw[Za]at hq1;cases hq1;refine⟨Jj _,λ_=>⟨rfl,λh0=>by simp[Za]at h0,λc hc=> ?_⟩⟩;simp only[Za,Jq]at hc ⊢;rw[hc,Jf]
  ·exact⟨SLe.refl _,λ_ _=>⟨λ_=>rfl,rfl⟩,((BelowF.refl B w).drew).alloc hs.hB _⟩
 cases hκ:M.κ d with
 |zero=>
  have hu0:=u0 hκ;have he0:es= []:=Jc (o1 hκ);subst he0;by_cases hm:ys.length=0
  ·have e0:ys= []:=Jc hm;subst e0;subst hu0;have hrun:=X3 (ty:=ty) hx (base:=none) (Jj 0) hsrc;have hself':({ s.m.setq d (.vec ([]++([]:List PV)).length x.size x.e)with v:=upd s.m.v d (some ([]++ [])) }:Hp)=s.m:=by
    have e1:upd s.m.q d (some (.vec ([]:List PV).length x.size x.e))=s.m.q:=by rw[<-hq,XZ]
    have e2:upd s.m.v d (some [])=s.m.v:=by rw[<-hv,XZ]
    simp only[K3,Hp.setq,e1,e2];try rfl
   refine⟨_,w,S,M,hrun,?_,?_,Ext.refl _ _ _⟩;rw[hself'];exact hs;simp only[K3];rw[<-hq,XZ];exact hu
  exact grow (olds:= []) hu0 (by simp[Jm]) (by simp) (λi j hi=>by simp at hi) (by simp;omega) (by simp)
 |succ c=>
  have hu1:=u1 c hκ;obtain⟨k1,k2,k3,⟨vs,k5,k6⟩,k4⟩:=o2 c hκ;have k7:=r4 c hκ vs x.e (0,0) k5;have hkl:es.length*x.size<=vs.length:=by rw[k6];exact Ja _ k1
  by_cases hg:es.length+ys.length<=c
  -- in place
  subst hu1;have hmul:(es.length+ys.length)*x.size<=c*x.size:=Ja _ hg;have hsum:(es.length+ys.length)*x.size=es.length*x.size+news.length:=by rw[Jg,hsrc.newsLen]
  have hst:=run_storeCells_at (P:=P) (M.ψ d) (es.length*x.size) x.e news 0 ⟨vs⟩ w k5 (by simp;omega) hsrc.one;simp only[JR]at hst;have hrun:(Jz #[t,tx] ty #[.slice (some ⟨M.ψ d,0,none⟩) es.length c,y]).run P w= .ok (.slice (some ⟨M.ψ d,0,none⟩) (es.length+ys.length) c) (w.setRow (M.ψ d) ⟨vs.take (es.length*x.size)++news++vs.drop (es.length*x.size+news.length)⟩):=by
   have e5:(sizeOf x.e).run P w= .ok x.size w:=by rw[Yu h2,h8]
   rcases hsrc.kind with ⟨e',hk'⟩|hk'<;>simp[Jz,run_underlying h1,run_underlying hk',e5,hsrc.len,hg,hsrc.cells,Addr.add_lit,hst]
  have hf:=hs.forget d;have hlen':(vs.take (es.length*x.size)++news++vs.drop (es.length*x.size+news.length)).length=c*x.size:=by
   simp only[Jf,Jk,Jl];omega
  have hr1:=hf.relen (id:=d) (n':=(es++ys).length) hq (Za _ _ _) (by simp) (λc' hc'=>by simp;omega) (λh0=>by omega);obtain⟨hp1,hp2,hp3⟩:=hr1.pokeVec (id:=d) (n:=(es++ys).length) (sz:=x.size) (e:=x.e) (Za _ _ _) (Za _ _ _) hκ hlen';have hl:=hp1.layVec (d:=d) (es:=es++ys) ⟨x.size,x.e,Za _ _ _,good,λp hp i hi=>XP i (by have:=(gids p hp i hi).1;cases i<;>exact this),λc' hc' us t' f hus i j hi hj=>by
   rw[hp3]at hus;cases hus;have hb:i*x.size+j<(vs.take (es.length*x.size)++news).length:=by
    simp only[Jf,Jk];simp only[Jf]at hi;rw[Nat.min_eq_left hkl,<-hsum]
    calc i*x.size+j<i*x.size+x.size:=by omega
     _=(i+1)*x.size:=by rw[Jg,Jw]
     _<=(es.length+ys.length)*x.size:=Ja _ hi
   rw[Zg hb];have:=ZeA (c1:=vs.take (es.length*x.size)) (by rw[Jk];omega) (λi j hi hj=>by
    have hb2:i*x.size+j<es.length*x.size:=by
     calc i*x.size+j<i*x.size+x.size:=by omega
      _=(i+1)*x.size:=by rw[Jg,Jw]
      _<=es.length*x.size:=Ja _ hi
    rw[Xx hb2];exact k7 i j hi hj) hrn' i j hi hj
   refine this.heap (SLe.refl _) (λ_ _=>rfl) λk hk=> ?_
   have hkd:d≠k:=λe=>by
    subst e;have hlen:=(good _ (Ze (d:= .any) hi)).1;exact(gids ((es++ys).getD i .any) (Ze hi) (.r d) (YB (Ze (by omega)) hk)).2 rfl
   show RowLe M M k (s.m.q k) (upd s.m.q d _ k);rw[Zk _ _ hkd];exact .refl _ _ _⟩
  have e2:(upd (upd s.m.v d none) d (some (es++ys)))=upd s.m.v d (some (es++ys)):=ZaV _ _ _ _;simp only[St.with,Hp.setq,e2]at hl ⊢;refine⟨_,_,S,M,hrun,hl,?_,hp2⟩;refine .vsl d _ _ _ ⟨some ⟨M.ψ d,0,none⟩,c,by rw[Jf],by simp only[Jf];exact hg,λ_=>⟨_,_,rfl⟩⟩ λn1 sz1 e1 hq1=> ?_
  rw[Za]at hq1;cases hq1;refine⟨Jj _,λ_=>⟨rfl,λh0=>by omega,λc' hc'=> ?_⟩⟩;have:c'=c:=by omega
  subst this;rw[Jf];refine grow (olds:=vs.take (es.length*x.size)) hu1 ?_ (by rw[Jk];omega) (λi j hi hj=> ?_) (by omega) k1;refine run_firstCells_some w.drew x.size es.length ⟨M.ψ d,0,none⟩ es.length c _ (by rw[Jk];omega) (λj u hj=> ?_);obtain⟨hj1,hj2⟩:=JK.1 hj;rw[Addr.add_lit];have hj3:j<es.length*x.size:=by rw[Jk]at hj1;omega
  have hc0:=XH (o:=0+j) k5;have:w.drew.cell? ⟨M.ψ d,0+j,none⟩=w.cell? ⟨M.ψ d,0+j,none⟩:=rfl;rw[this,hc0,JA,Je (by omega),<-hj2];simp;have hb2:i*x.size+j<es.length*x.size:=by
   calc i*x.size+j<i*x.size+x.size:=by omega
    _=(i+1)*x.size:=by rw[Jg,Jw]
    _<=es.length*x.size:=Ja _ hi
  rw[Xx hb2];exact k7 i j hi hj
theorem Zjs (hs:Sim B S M s a w) {tx:TypeId} {v:Value} {y:PV} (hv:RepS S M s.m.q v y) {ei:EInfo} {ys:List PV} (hy:WW P tx y=some ys) (hz:Sized ei.size ys) (hat:Xw ys) (hpos:0<ei.size):
  ∃news:List Value,Src P ei.size tx v ys.length news w/\ ∀i j,i<ys.length->j<ei.size->Rep S (news.getD (i*ei.size+j) undef) ((ys.getD i .any).cells.getD j .any):=by
 unfold WW at hy;split at hy;rename_i es2 ea tk ys' heq;cases hy;obtain⟨e,d',ti,h1,_⟩:=TQ heq;exact hv.sl_inv.src hs.stable hz hat h1;rename_i l heq;cases hy;have h1:=ZdN heq;rw[hv.str_inv];by_cases h0:l= [];subst h0;refine⟨[],?_,λi j hi=>by simp[Xd]at hi⟩;refine⟨.inr h1,λ_=>rfl,?_,?_,by simp[Xd],λ_ h=>by cases h⟩;simp[Jm,Xd];simp[Jm,Xd];have e1:ei.size=1:=by
  obtain⟨c,l',rfl⟩:=Kb h0;exact(hz (.int .u8 c.toNat) (by simp[Xd])).symm
 rw[e1];exact Zcx h1 l;cases hy
theorem Zr0 (hs:Sim B S M s a w) {tx e':TypeId} (hk:P.underlying tx=some (.slice e')) {id sz:Nat} {e:TypeId} {ys:List PV} {v:Value} (hv:s.m.v id=some ys) (hq:s.m.q id=some (.vec ys.length sz e)) (hr:RepS S M s.m.q v (.vsl id ys.length sz)):
  ∃news:List Value,Src P sz tx v ys.length news w/\ ∀i j,i<ys.length->j<sz->RepS S M s.m.q (news.getD (i*sz+j) undef) ((ys.getD i .any).cells.getD j .any):=by
 obtain⟨sz',e1,q1,r1,r2,r4⟩:=hs.vc id ys hv;rw[hq]at q1;cases q1;obtain⟨o1,o2⟩:=hs.row id _ hq;obtain⟨_,t⟩:=hr.vsl_inv;obtain⟨_,t2⟩:=t _ _ _ hq;obtain⟨_,u0,u1⟩:=t2 rfl;cases hκ:M.κ id with
 |zero=>
  have h0:=o1 hκ;have hy:ys= []:=Jc h0;subst hy;rw[u0 hκ];refine⟨[],⟨.inl ⟨e',hk⟩,λ_=>rfl,?_,?_,by simp,λ_ h=>by cases h⟩,λi j hi=>by simp at hi⟩
  ·simp[Jm]
  ·simp[Jm]
 |succ c=>
  obtain⟨k1,k2,k3,⟨vs,k5,k6⟩,k4⟩:=o2 c hκ;have k7:=r4 c hκ vs e (0,0) k5;have hkl:ys.length*sz<=vs.length:=by rw[k6];exact Ja _ k1
  have hb:∀ {i j},i<ys.length->j<sz->i*sz+j<ys.length*sz:=λ{i j} hi hj=>by
   calc i*sz+j<i*sz+sz:=by omega
    _=(i+1)*sz:=by rw[Jg,Jw]
    _<=ys.length*sz:=Ja _ hi
  rw[u1 c hκ];refine⟨vs.take (ys.length*sz),Src.ofSlice w hk ⟨M.ψ id,0,none⟩ ys.length c _ (by rw[Jk];omega) (λj u hj=> ?_) (λu hu=> ?_),λi j hi hj=> ?_⟩
  ·obtain⟨hj1,hj2⟩:=JK.1 hj;have hj3:j<ys.length*sz:=by rw[Jk]at hj1;omega
   rw[Addr.add_lit,XH k5,JA,Je (by omega),<-hj2];simp
  ·obtain⟨j,hj,rfl⟩:=Jr hu;have hj3:j<ys.length*sz:=by rw[Jk]at hj;omega
   have hpos:0<sz:=by rcases Nat.eq_zero_or_pos sz with h|h;rw[h]at hj3;simp at hj3;exact h
   have hi:j / sz<ys.length:=Nat.div_lt_of_lt_mul (by rwa[Kl]);have hm:j % sz<sz:=K4 _ hpos;have he:j / sz*sz+j % sz=j:=by rw[Kl];exact Kq j sz
   have hg:=k7 (j / sz) (j % sz) hi hm;rw[he,getD_lt (by omega)]at hg;simp only[List.getElem_take];refine hg.atom_inv ?_;have hx:=r1 _ (Ze (d:= .any) hi);exact JS.1 hx.2 _ (Ze (by omega))
  ·rw[Xx (hb hi hj)];exact k7 i j hi hj
def VF (P:Program) (tx:TypeId) (y:PV) (m:Hp):Option (List PV):=
 match y with
 | .vsl id _ _=>match tix P tx with
  | .slc _ _=>m.v id
  |_=>none
 |y=>WW P tx y
def ZcG (y:PV) (m:Hp) (ys:List PV) (size:Nat) (ids:List Nat):Prop:=
 match y with
 | .vsl id n sz=>ys.length=n/\sz=size/\(∃e,m.q id=some (.vec n sz e))/\id∉ids
 |_=>∀p∈ys,p.ids= []
theorem ZgB (hs:Sim B S M s a w) {tx:TypeId} {v:Value} {y:PV} (hv:RepS S M s.m.q v y) {ei:EInfo} {ys:List PV} (hy:VF P tx y s.m=some ys) (hz:∀p∈ys,p.cells.length=ei.size/\p.cells.all PV.atom=true) (hpos:0<ei.size) {ids:List Nat} (hsrc:ZcG y s.m ys ei.size ids):
  ∃news:List Value,Src P ei.size tx v ys.length news w/\(∀i j,i<ys.length->j<ei.size->RepS S M s.m.q (news.getD (i*ei.size+j) undef) ((ys.getD i .any).cells.getD j .any))/\ ∀p∈ys,∀i∈p.ids,ZX s.m i:=by
 by_cases hvs:∃id n sz,y= .vsl id n sz;obtain⟨id,n,sz,rfl⟩:=hvs;simp only[VF]at hy;split at hy;rename_i esz ea ht;obtain⟨rfl,rfl,⟨e,hq⟩,_⟩:=hsrc;obtain⟨e',d,ti,h1,_⟩:=TQ ht;obtain⟨news,g1,g2⟩:=Zr0 hs h1 hy hq hv;obtain⟨_,_,_,_,r2,_⟩:=hs.vc id ys hy;exact⟨news,g1,g2,r2⟩;cases hy;have hy':WW P tx y=some ys:=by
  cases y<;>first|exact hy|exact absurd ⟨_,_,_,rfl⟩ hvs
 have hc:∀p∈ys,p.ids= []:=by
  cases y<;>first|exact hsrc|exact absurd ⟨_,_,_,rfl⟩ hvs
 obtain⟨news,g1,g2⟩:=Zjs hs hv hy' (λp hp=>(hz p hp).1) (λp hp=>(hz p hp).2) hpos;exact⟨news,g1,λi j hi hj=> .clean (g2 i j hi hj),λp hp i hi=>by rw[hc p hp]at hi;cases hi⟩
def Zoh (m:Hp) (id d n sz:Nat) (e:TypeId) (es:List PV):Hp:=
 if d=id then { m.setq d (.vec n sz e)with v:=upd m.v d (some es) } else { (m.setq id .dead).setq d (.vec n sz e)with v:=upd (upd m.v id none) d (some es) }
theorem DY (hs:Sim B S M s a w) {id d:Nat} {t tx ty:TypeId} {x:EInfo} (hx:We P t=some x) {es ys:List PV} {u v:Value} {y:PV} (hu:RepS S M s.m.q u (.vsl id es.length x.size)) (hv:s.m.v id=some es) (hq:s.m.q id=some (.vec es.length x.size x.e))
  (hw:RepS S M s.m.q v y) (hy:VF P tx y s.m=some ys) (hso:ZcG y s.m ys x.size [id,d]) (hd:d=id\/s.m.q d=none) (hz:∀p∈ys,p.cells.length=x.size/\p.cells.all PV.atom=true) (hself:∀p∈es++ys,.r id∉p.ids) (hroom:Zjl (es.length+ys.length) x.bytes):
  ∃r w' S' M',(Jz #[t,tx] ty #[u,v]).run P w= .ok r w'/\Sim B S' M' (s.with (Zoh s.m id d (es.length+ys.length) x.size x.e (es++ys))) a w'/\
   RepS S' M' (Zoh s.m id d (es.length+ys.length) x.size x.e (es++ys)).q r (.vsl d (es.length+ys.length) x.size)/\Ext B S S' w w':=by
 obtain⟨i,z,h1,h2,h3,h4,h5,h6,h7,h8⟩:=YP hx;obtain⟨news,hsrc,hrn,hlv⟩:=ZgB hs hw hy hz h7 hso;obtain⟨r,w',S',M',g1,g2,g3,g4⟩:=Zkz hs (ty:=ty) hx hu hv hq hsrc hrn (λp hp=>⟨(hz p hp).1,(hz p hp).2,λi hi=>⟨hlv p hp i hi,λe=>hself p (by simp[hp]) (e▸hi)⟩⟩) (λp hp i hi e=>hself p (by simp[hp]) (e▸hi)) hroom;rw[Jf]at g2 g3;unfold Zoh;by_cases e:d=id;subst e;simp only[if_true];exact⟨r,w',S',M',g1,g2,g3,g4⟩;simp only[if_neg e];have hdn:=hd.resolve_left e;have hq1:(s.with { s.m.setq id (.vec (es.length+ys.length) x.size x.e)with v:=upd s.m.v id (some (es++ys)) }).m.q id=some (.vec (es++ys).length x.size x.e):=by rw[Jf];exact Za _ _ _
 have hv1:(s.with { s.m.setq id (.vec (es.length+ys.length) x.size x.e)with v:=upd s.m.v id (some (es++ys)) }).m.v id=some (es++ys):=Za _ _ _;have hd1:(s.with { s.m.setq id (.vec (es.length+ys.length) x.size x.e)with v:=upd s.m.v id (some (es++ys)) }).m.q d=none:=by
  show upd s.m.q id _ d=none;rw[Zk _ _ (Jt e)];exact hdn
 have hm:=g2.moveVec hq1 hv1 hd1;rw[Jf]at hm;simp only[St.with,Hp.setq,ZaV]at hm;refine⟨r,w',S',_,g1,hm,?_,g4⟩;obtain⟨hv0,t⟩:=g3.vsl_inv;refine .vsl d _ _ r hv0 λn sz' e' hq'=> ?_
 simp only[Hp.setq,Za]at hq';cases hq';obtain⟨_,t2⟩:=t _ _ _ (Za _ _ _);refine⟨Jj _,λ_=> ?_⟩;have t3:=t2 rfl;simp only[Za];exact⟨trivial,t3.2⟩
def Zfq (size d:Nat):Nat->List (Nat×PV)->Prop
 |_,[]=>True
 |k,(i,p)::rest=>i=k/\p.known=true/\p.cells.length=size/\p.cells.all PV.atom=true/\ .r d∉p.ids/\Zfq size d (k+1) rest
theorem Zch {size d:Nat}:∀ {parts:List (Nat×PV)} {k:Nat},Zfq size d k parts->(∀x∈parts,x.2.known=true/\x.2.cells.length=size/\x.2.cells.all PV.atom=true/\ .r d∉x.2.ids)/\parts.map (·.1)=(Qo k parts.length)
 | [],k,_=>by simp
 |(i,p)::rest,k,h=>by
  obtain⟨rfl,h1,h2,h3,h5,h4⟩:=h;obtain⟨g1,g2⟩:=Zch h4;refine⟨λx hx=> ?_,?_⟩;rcases K8.1 hx with rfl|hx;exact⟨h1,h2,h3,h5⟩;exact g1 x hx;simp[g2,Ki]
theorem Zbe {t:TypeId} {ei:EInfo} (hx:We P t=some ei) {vparts:List (Nat×Value)} (hpairs:vparts=((vparts.map (·.2)).zipIdx 0).map λx=>(x.2,x.1)) (hsz:∀u∈vparts.map (·.2),u.cells.size=ei.size) (hlim:vparts.length*ei.size<=16777216) (w:World):
  (JE t vparts.length ⟨vparts⟩).run P w= .ok (.slice (some ⟨w.heap.size,0,none⟩) vparts.length vparts.length) (w.alloc (.cells ⟨(vparts.map (·.2)).flatMap λu=>u.cells.toList⟩ ei.e)):=by
 obtain⟨ti,z,h1,h2,h3,h4,h5,h6,h7,h8⟩:=YP hx;have nolim:¬vparts.length*ei.size>2 ^ 24:=by omega
 have hfill:∀zs:List Value,zs.length=vparts.length*ei.size->JN (λi=>some (i*ei.size,ei.size)) ⟨zs⟩ vparts=some ⟨zs.take (0*ei.size)++(vparts.map (·.2)).flatMap λu=>u.cells.toList⟩:=λzs hzs=>by
  have:=Dj (size:=ei.size) (vparts.map (·.2)) 0 zs (by simp[hzs]) hsz;rw[<-hpairs]at this;exact this
 have e5:(sizeOf ei.e).run P w= .ok ei.size w:=by rw[Yu h2,h8]
 by_cases h0:vparts.length*ei.size=0;have hv0:vparts= []:=by
  rcases K1.1 h0 with h|h;exact Jc h;omega
 subst hv0;simp[JE,ZR h1,e5,JN,newRow,newObj,Kz,J4];have er:Qq (λ_:Nat=>(Jd:Value)) (Ky 0)=⟨[]⟩:=by
  apply JZ;simp
 rw[er];have hf:=hfill ((JY (vparts.length*ei.size)).map λx=>z.cells[x % z.cells.size]!) (by simp);have hzr:(zeroValue ei.e).run P w= .ok z w:=by simp[zeroValue,SV h2,h3]
 simp only[JE,Ji,ZR h1,Jb,e5,nolim,if_false,Jp,h0,hzr];have:(Ky (vparts.length*ei.size)).map (λx=>z.cells[x % z.cells.size]!)=⟨(JY (vparts.length*ei.size)).map λx=>z.cells[x % z.cells.size]!⟩:=by
  apply JZ;simp
 simp only[this,hf];simp[newRow,newObj,Kz,J4]
theorem Zny (hs:Sim B S M s a w) {d:Nat} {t:TypeId} {ei:EInfo} (hx:We P t=some ei) {parts:List (Nat×PV)} {vparts:List (Nat×Value)} (hl:vparts.length=parts.length)
  (hp:∀i,i<parts.length->(vparts.getD i (0,undef)).1=(parts.getD i (0,.any)).1/\RepS S M s.m.q (vparts.getD i (0,undef)).2 (parts.getD i (0,.any)).2) (hids:∀x∈parts,∀i∈x.2.ids,ZX s.m i)
  (g1:s.m.q d=none) (g3:parts.length*ei.size<=16777216) (g4:Zfq ei.size d 0 parts):
  ∃v w' M',(JE t parts.length ⟨vparts⟩).run P w= .ok v w'/\Sim B S M' (s.with { s.m.setq d (.vec parts.length ei.size ei.e)with v:=upd s.m.v d (some (parts.map (·.2))) }) a w'/\
   RepS S M' (upd s.m.q d (some (.vec parts.length ei.size ei.e))) v (.vsl d parts.length ei.size)/\Ext B S S w w':=by
 obtain⟨ti,z,h1,h2,h3,h4,h5,h6,h7,h8⟩:=YP hx;obtain⟨p1,p2⟩:=Zch g4;have hus:∀i,i<parts.length->RepS S M s.m.q ((vparts.map (·.2)).getD i undef) (parts.getD i (0,.any)).2:=λi hi=>by
  have:=(hp i hi).2;rw[getD_lt (by simp;omega)];rw[getD_lt (by omega)]at this;simpa using this
 have hcell:∀i,i<parts.length-> ∃ys:List Value,((vparts.map (·.2)).getD i undef).cells=⟨ys⟩/\ys.length=ei.size/\ ∀j,j<ei.size->RepS S M s.m.q (ys.getD j undef) ((parts.getD i (0,.any)).2.cells.getD j .any):=λi hi=>by
  obtain⟨q1,q2,q3⟩:=p1 _ (Ze (d:=(0,PV.any)) hi);obtain⟨ys,e1,e2,e3⟩:=(hus i hi).cells_inv q1;exact⟨ys,e1,by omega,λj hj=>e3 j (by omega)⟩
 have hsz:∀u∈vparts.map (·.2),u.cells.size=ei.size:=λu hu=>by
  obtain⟨i,hi,rfl⟩:=Jr hu;simp only[JO]at hi;obtain⟨ys,e1,e2,_⟩:=hcell i (by omega);rw[getD_lt (by simpa using hi)]at e1;rw[e1];simp[e2]
 have hpairs:vparts=((vparts.map (·.2)).zipIdx 0).map λx=>(x.2,x.1):=by
  apply KQ;simp;intro i hi1 hi2;simp only[JD,KA,JA];have:=(hp i (by omega)).1;rw[getD_lt hi1,getD_lt (by omega)]at this;have hidx:(parts[i]'(by omega)).1=i:=by
   have e:=congrArg (λl=>l[i]?) p2;simp only[Ke]at e;rw[Je (by omega),Je (by simp;omega)]at e;simpa using e
  rw[hidx]at this;exact Qr this rfl
 have hrun:=Zbe hx hpairs hsz (by rw[hl];exact g3) w;rw[hl]at hrun;generalize hvs:(vparts.map (·.2)).flatMap (λu=>u.cells.toList)=vs at hrun;have hvl:vs.length=parts.length*ei.size:=by
  rw[<-hvs,KB];have:(Kx (λu:Value=>u.cells.toList.length) (vparts.map (·.2)))=JJ parts.length ei.size:=by
   apply Kt.2;refine⟨by simp[hl],λx hx=> ?_⟩;obtain⟨u,hu,rfl⟩:=J5.1 hx;simpa using hsz u hu
  rw[this];simp
 have hmax:parts.length<=maxLen:=by
  have:=Kj parts.length h7;simp only[maxLen];omega
 have hsim:=hs.newVec (d:=d) (n:=parts.length) (sz:=ei.size) (c:=parts.length) (e:=ei.e) (vs:=vs) (es:=parts.map (·.2)) (w':=w.alloc (.cells ⟨vs⟩ ei.e)) (.inl g1) (by simp) (Jj _) hmax hvl (λk hk=>ZZ w _ hk) (alloc_heap_new w _)
  (λp hp=>by
   obtain⟨x,hx',rfl⟩:=J5.1 hp;exact⟨(p1 x hx').2.1,(p1 x hx').2.2.1⟩)
  (λp hp i hi=>by
   obtain⟨x,hx',rfl⟩:=J5.1 hp;exact⟨hids x hx' i hi,λe=>(p1 x hx').2.2.2 (e▸hi)⟩)
  (λi j hi hj=>by
   simp only[JO]at hi;obtain⟨ys,e1,e2,e3⟩:=hcell i hi;have hcells:vs.getD (i*ei.size+j) undef=ys.getD j undef:=by
    rw[<-hvs,FW hsz (by simpa[hl]using hi) hj,e1]
   rw[hcells];rw[getD_lt (l:=Kx _ parts) (by simpa using hi)];simp only[JD];have:=e3 j hj;rw[getD_lt hi]at this;exact this)
 refine⟨_,_,_,hrun,hsim,?_,hs.ext_alloc _⟩;refine .vsl d _ _ _ ⟨some ⟨w.heap.size,0,none⟩,_,rfl,Jj _,λ_=>⟨_,_,rfl⟩⟩ λn' sz' e' hq=> ?_
 rw[Za]at hq;cases hq;refine⟨Jj _,λ_=>⟨rfl,λh0=>by simp[Za]at h0,λc hc=> ?_⟩⟩;simp only[Za,Jq]at hc ⊢;rw[<-hc]
end
end Go.PL
