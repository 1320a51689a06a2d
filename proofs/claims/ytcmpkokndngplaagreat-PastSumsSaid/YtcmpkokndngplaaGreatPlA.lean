/- Lemmas. -/
import Derived.WalkKit
import Derived.Deep.AppendSrc
import Derived.Deep.Upon
import Derived.Laws.IdiomStrings
import Derived.Laws.BytesString
import Derived.Lib.Strings
set_option maxHeartbeats 64000000
set_option maxRecDepth 20000
set_option linter.unusedVariables false
set_option linter.unusedSimpArgs false
set_option linter.defProp false
open Inhabited renaming default→Jd
open Option renaming some→Hs,none→Hn
open Bool renaming true→Ht,false→Hf
open Go
open _root_.Array renaming getElem?_eq_some_iff→Jh,length_toList→JC,ext'→JZ,getElem?_modify→Ks,range→Kz,foldl_toList→KG,zipIdx→Qg,foldl→Qo,map→Qr
open Bool renaming false_eq_true→Jo,or_eq_true→Kq,and_eq_true→KQ,not_true→K7
open Builtin renaming firstCells→Jm,append_→Jz,zeroCells→JM,len_→JT,max_→Qe,min_→Qf
open Decidable renaming byContradiction→Ke
open Instr renaming sureAddr→Jv,buildSlice→JE,fill→JN,indexAt→JP,sliceBound→JU,sliceAt→JX,loadAt→J2,fieldAt→Kg,storeAt→KD,sliceBounds→KM,box→KN,index→KW,alloc→KX,build→KY,slice→KZ,makeSlice→K3,extract→K8,field→Qi
open Int renaming le_refl→Qq
open List renaming eq_nil_of_length_eq_zero→Jc,getElem?_eq_getElem→Je,length_append→Jf,length_take→Jk,length_drop→Jl,getElem_of_mem→Jr,getD_eq_getElem?_getD→Js,length_replicate→Ju,mem_singleton→Jy,getElem_map→JD,mem_of_mem_drop→JF,mem_of_mem_take→JG,getElem_mem→JH,length_cons→JI,replicate→JJ,getElem?_eq_some_iff→JK,mem_append→JL,length_map→JO,all_eq_true→JS,getD_cons_zero→JV,range→JY,size_toArray→J3,mem_map→J5,eq_nil_iff_forall_not_mem→J6,drop_drop→J8,getElem_range→Ka,exists_cons_of_ne_nil→Kc,mem_or_eq_of_mem_set→Kd,getElem?_map→Kf,getElem?_take_of_lt→Kh,range'_succ→Kj,length_eq_one_iff→Kl,getElem_replicate→Kn,length_nil→Ko,eq_replicate_iff→Ku,map→Ky,getElem_zipIdx→KB,length_flatMap→KC,getElem?_drop→KF,append_assoc→KJ,flatMap_cons→KL,zipIdx_cons→KP,ext_getElem→KT,length_set→K0,nil_append→K1,append_nil→K4,mem_cons→K9,range'→Qp
open Nat renaming mul_le_mul_right→Ja,add_mul→Jg,le_refl→Jj,add_right_cancel_iff→Jq,one_mul→Jw,zero_add→JA,add_zero→JR,add_assoc→JW,lt_irrefl→J7,add_mul_mod_self_right→J9,le_mul_of_pos_right→Kk,mul_comm→Km,div_add_mod→Kr,div_lt_iff_lt_mul→Kt,zero_le→Kv,pos_of_ne_zero→KE,add_comm→KK,mod_eq_of_lt→KO,mul_eq_zero→K2,mod_lt→K5,le_of_lt→Qa,ne_of_lt→Qb,le_trans→Qd,zero_mul→Qh,mul_one→Qm,sub_mul→Qn
open Ne renaming symm→Jt
open Op renaming equalIn→JB,equal→Kx,unary→K6,eqFields→Qj,intArith→Qk,stringOp→Ql
open Option renaming some→Jn,isSome_iff_exists→Ki
open Prod renaming ext→Qs
open Result renaming andThen_ok→Jb,andThen→Kw
open Sem renaming run_bind→Ji,run_pure→Jp,run→KA
open World renaming cell?_of_block→JQ,alloc_eq→J4,setRow→KI,cell?→KU
namespace Go.PL
structure Stable where
 c:Nat->Nat->Option Value
 m:Nat->Option (List MapEntry)
 z:Nat->Prop
 y:Nat->Prop
instance:CoeFun Stable (λ_=>Nat->Nat->Option Value):=⟨Stable.c⟩
abbrev Frm:=Nat->Prop
inductive Tok where
 |no|nil|row (id:Nat)|fr
 deriving DecidableEq
def Tok.sh:Tok->Tok
 | .fr=> .fr
 |_=> .no
inductive PV where
 |any
 |int (k:IntKind) (n:Int)
 |bool (b:Bool)
 |str (s:List UInt8)
 |flt (k:FloatKind) (b:Nat)
 |cpx (k:FloatKind) (re im:Nat)
 |agg (cs:List PV)
 |tup (vs:List PV)
 |sl (t:Tok) (es:List PV)
 |ptr (id off:Nat)
 |rptr (cs:List PV)
 |osl (id off len sz:Nat)
 |nilp
 |fn (f:FuncId) (caps:List PV)
 |nilfn
 |nilmap
 |mref (b:Nat)
 |rmap (ks vs:List PV)
 |iptr (b:Nat)
 |vsl (id len sz:Nat)
 |vptr (id n sz i off:Nat)
 deriving Inhabited
def PV.cells:PV->List PV
 | .agg cs=>cs
 |v=> [v]
def PV.known:PV->Bool
 | .any=>Hf
 |_=>Ht
def PV.atom:PV->Bool
 | .any| .agg _| .tup _=>Hf
 |_=>Ht
inductive Rep (S:Stable):Value->PV->Prop
 |any (v:Value):Rep S v .any
 |int (k:IntKind) (n:Int):Rep S (.int k n) (.int k n)
 |bool (b:Bool):Rep S (.bool b) (.bool b)
 |str (l:List UInt8):Rep S (.string ⟨⟨l⟩⟩) (.str l)
 |flt (k:FloatKind) (b:Nat):Rep S (.float k b) (.flt k b)
 |cpx (k:FloatKind) (re im:Nat):Rep S (.complex k re im) (.cpx k re im)
 |agg (vs:List Value) (cs:List PV) (hl:vs.length=cs.length) (h:∀i,i<cs.length->Rep S (vs.getD i undef) (cs.getD i .any)):Rep S (.agg ⟨vs⟩) (.agg cs)
 |tup (vs:List Value) (cs:List PV) (hl:vs.length=cs.length) (h:∀i,i<cs.length->Rep S (vs.getD i undef) (cs.getD i .any)):Rep S (.tuple ⟨vs⟩) (.tup cs)
 |sl0 (a:Option Addr) (cap:Nat):Rep S (.slice a 0 cap) (.sl .no [])
 |slnil:Rep S (.slice Hn 0 0) (.sl .nil [])
 |sl (b o cap sz:Nat) (es:List PV) (vals:Nat->Nat->Value) (hsz:∀i,i<es.length->(es.getD i .any).cells.length=sz) (hcap:es.length<=cap)
   (hS:∀i j,i<es.length->j<sz->S b (o+i*sz+j)=Hs (vals i j))
   (hR:∀i j,i<es.length->j<sz->Rep S (vals i j) ((es.getD i .any).cells.getD j .any)):Rep S (.slice (Hs ⟨b,o,Hn⟩) es.length cap) (.sl .no es)
 |slf (v:Value) (es:List PV) (r:Rep S v (.sl .no es)) (hz:∀b o n c,v= .slice (Hs ⟨b,o,Hn⟩) n c->0<n->S.z b/\S.y b):Rep S v (.sl .fr es)
 |rptr (b o:Nat) (cs:List PV) (vals:Nat->Value) (hS:∀j,j<cs.length->S b (o+j)=Hs (vals j))
   (hR:∀j,j<cs.length->Rep S (vals j) (cs.getD j .any)):Rep S (.pointer (Hs ⟨b,o,Hn⟩)) (.rptr cs)
 |nilp:Rep S (.pointer Hn) .nilp
 |nilfn:Rep S .nilFunc .nilfn
 |nilmap:Rep S (.map Hn) .nilmap
 |mref (b:Nat):Rep S (.map (Hs b)) (.mref b)
 |iptr (b:Nat):Rep S (.pointer (Hs ⟨b,0,Hn⟩)) (.iptr b)
 |rmap (b:Nat) (es:List MapEntry) (ks vs:List PV) (hS:S.m b=Hs es) (hk:es.length=ks.length) (hv:vs.length=ks.length) (hb:∀i,i<ks.length->(es.getD i Jd).born=i)
   (hK:∀i,i<ks.length->Rep S (es.getD i Jd).key (ks.getD i .any)) (hV:∀i,i<ks.length->Rep S (es.getD i Jd).val (vs.getD i .any)):Rep S (.map (Hs b)) (.rmap ks vs)
 |fn (f:FuncId) (vs:List Value) (cs:List PV) (hl:vs.length=cs.length) (h:∀i,i<cs.length->Rep S (vs.getD i undef) (cs.getD i .any)):Rep S (.func (.func f) #[] ⟨vs⟩) (.fn f cs)
structure SLe (S S':Stable):Prop where
 c:∀b o v,S b o=Hs v->S' b o=Hs v
 m:∀b es,S.m b=Hs es->S'.m b=Hs es
 z:S'.z=S.z
 y:∀b,S.y b->S'.y b
instance (S S':Stable):CoeFun (SLe S S') (λ_=>∀b o v,S b o=Hs v->S' b o=Hs v):=⟨SLe.c⟩
def SLe.refl (S:Stable):SLe S S:=⟨λ_ _ _ h=>h,λ_ _ h=>h,rfl,λ_ h=>h⟩
def SLe.trans {S S' S'':Stable} (h:SLe S S') (c:SLe S' S''):SLe S S'':=⟨λb o v e=>c b o v (h b o v e),λb es e=>c.m b es (h.m b es e),c.z.trans h.z,λb d=>c.y b (h.y b d)⟩
def SLe.cells {S S':Stable} (c:S'.m=S.m) (h:∀b o v,S b o=Hs v->S' b o=Hs v) (f:S'.z=S.z:=by rfl) (d:∀b,S.y b->S'.y b:=by exact λ_ h=>h):SLe S S':=⟨h,λb es e=>by rw[c];exact e,f,d⟩
theorem Rep.mono {S S':Stable} (h:SLe S S') {v:Value} {p:PV} (r:Rep S v p):Rep S' v p:=by
 induction r with
 |any v=>exact .any v
 |int k n=>exact .int k n
 |bool b=>exact .bool b
 |str l=>exact .str l
 |flt k b=>exact .flt k b
 |cpx k a b=>exact .cpx k a b
 |agg vs cs hl _ ih=>exact .agg vs cs hl ih
 |tup vs cs hl _ ih=>exact .tup vs cs hl ih
 |sl0 a cap=>exact .sl0 a cap
 |slnil=>exact .slnil
 |sl b o cap sz es vals hsz hcap hS _ ih=>exact .sl b o cap sz es vals hsz hcap (λi j m d=>h _ _ _ (hS i j m d)) ih
 |slf v es _ hz ih=>exact .slf v es ih λb o n c e g=>⟨by rw[h.z];exact(hz b o n c e g).1,h.y _ (hz b o n c e g).2⟩
 |rptr b o cs vals hS _ ih=>exact .rptr b o cs vals (λj d=>h _ _ _ (hS j d)) ih
 |nilp=>exact .nilp
 |nilfn=>exact .nilfn
 |nilmap=>exact .nilmap
 |mref b=>exact .mref b
 |iptr b=>exact .iptr b
 |rmap b es ks vs hS hk hv hb _ _ ihK ihV=>exact .rmap b es ks vs (h.m _ _ hS) hk hv hb ihK ihV
 |fn f vs cs hl _ ih=>exact .fn f vs cs hl ih
inductive Row where
 |live (n sz:Nat) (e:TypeId)
 |vec (n sz:Nat) (e:TypeId)
 |dead
 deriving Inhabited
def Row.len:Row->Option Nat
 | .live n _ _=>Hs n
 | .vec n _ _=>Hs n
 | .dead=>Hn
def Row.own:Row->Bool
 | .dead=>Hf
 |_=>Ht
abbrev Rows:=Nat->Option Row
structure MapC where
 ks:List PV
 vs:List PV
structure IterC where
 b:Nat
 n:Nat
 seen:List Nat
 c:Option MapC:=Hn
structure Hp where
 h:Nat->Option (List PV)
 z:Nat->Bool
 q:Rows
 o:Nat->Option MapC
 it:Nat->Option IterC
 om:Nat->Option MapC
 v:Nat->Option (List PV)
 ph:Nat->Option Nat
 pq:Nat->Option (Nat×Nat×Nat)
 vm:Nat->Bool
def upd {α:Type} (f:Nat->α) (i:Nat) (v:α):Nat->α:=λj=>if i=j then v else f j
def Za {α:Type} (f:Nat->α) (i:Nat) (v:α):upd f i v i=v:=by simp[upd]
def Zb {α:Type} (f:Nat->α) {i j:Nat} (v:α) (h:i≠j):upd f i v j=f j:=by simp[upd,h]
def Hp.empty:Hp:=⟨λ_=>Hn,λ_=>Hf,λ_=>Hn,λ_=>Hn,λ_=>Hn,λ_=>Hn,λ_=>Hn,λ_=>Hn,λ_=>Hn,λ_=>Hf⟩
def Hp.setq (m:Hp) (d:Nat) (r:Row):Hp:= { m with q:=upd m.q d (Hs r) }
structure Maps where
 φ:Nat->Nat
 ψ:Nat->Nat
 κ:Nat->Nat
inductive RepS (S:Stable) (M:Maps) (q:Rows):Value->PV->Prop
 |clean {v:Value} {p:PV} (r:Rep S v p):RepS S M q v p
 |ptr (id off:Nat):RepS S M q (.pointer (Hs ⟨M.φ id,off,Hn⟩)) (.ptr id off)
 |osl (id off len cap sz:Nat) (hc:len<=cap):RepS S M q (.slice (Hs ⟨M.φ id,off,Hn⟩) len cap) (.osl id off len sz)
 |row (id:Nat) (v:Value) (es:List PV) (r:Rep S v (.sl .no es))
   (t:∀n sz e,q id=Hs (.live n sz e)->es.length<=n/\(es.length=n->(M.κ id=0->v= .slice Hn 0 0)/\(∀c,M.κ id=c+1->v= .slice (Hs ⟨M.ψ id,0,Hn⟩) n c))):RepS S M q v (.sl (.row id) es)
 |vsl (id len sz:Nat) (v:Value) (hv:∃a cap,v= .slice a len cap/\len<=cap/\(0<len-> ∃b o,a=Hs ⟨b,o,Hn⟩))
   (t:∀n sz' e,q id=Hs (.vec n sz' e)->len<=n/\(len=n->sz'=sz/\(M.κ id=0->v= .slice Hn 0 0)/\(∀c,M.κ id=c+1->v= .slice (Hs ⟨M.ψ id,0,Hn⟩) len c))):RepS S M q v (.vsl id len sz)
 |vptr (id n sz i off:Nat) (v:Value) (hv:∃b o,v= .pointer (Hs ⟨b,o,Hn⟩)) (hi:i<n)
   (t:∀n' sz' e,q id=Hs (.vec n' sz' e)->n<=n'/\(n=n'->sz'=sz/\v= .pointer (Hs ⟨M.ψ id,i*sz+off,Hn⟩))):RepS S M q v (.vptr id n sz i off)
 |agg (vs:List Value) (cs:List PV) (hl:vs.length=cs.length) (hh:∀i,i<cs.length->RepS S M q (vs.getD i undef) (cs.getD i .any)):RepS S M q (.agg ⟨vs⟩) (.agg cs)
 |tup (vs:List Value) (cs:List PV) (hl:vs.length=cs.length) (hh:∀i,i<cs.length->RepS S M q (vs.getD i undef) (cs.getD i .any)):RepS S M q (.tuple ⟨vs⟩) (.tup cs)
 |fn (f:FuncId) (vs:List Value) (cs:List PV) (hl:vs.length=cs.length) (hh:∀i,i<cs.length->RepS S M q (vs.getD i undef) (cs.getD i .any)):RepS S M q (.func (.func f) #[] ⟨vs⟩) (.fn f cs)
inductive Ref where
 |b (id:Nat)
 |r (id:Nat)
 deriving DecidableEq
mutual
def PV.ids:PV->List Ref
 | .ptr id _=> [.b id]
 | .osl id _ _ _=> [.b id]
 | .sl (.row id) _=> [.r id]
 | .vsl id _ _=> [.r id]
 | .vptr id _ _ _ _=> [.r id]
 | .agg cs=>PV.idsL cs
 | .tup cs=>PV.idsL cs
 | .fn _ cs=>PV.idsL cs
 |_=> []
def PV.idsL:List PV->List Ref
 | []=> []
 |c::cs=>PV.ids c++PV.idsL cs
end
theorem PV.mem_idsL {id:Ref}:∀ {cs:List PV},id∈PV.idsL cs↔ ∃c∈cs,id∈c.ids
 | []=>by simp[PV.idsL]
 |c::cs=>by simp[PV.idsL,PV.mem_idsL (cs:=cs)]
def ZI (m:Hp):Ref->Prop
 | .b i=>m.h i≠Hn
 | .r i=>m.q i≠Hn
structure RowLe (M M':Maps) (id:Nat) (r r':Option Row):Prop where
 l:∀n sz e,r'=Hs (.live n sz e)->(r=Hs (.live n sz e)/\M'.κ id=M.κ id/\M'.ψ id=M.ψ id)\/ ∃m sz' e',r=Hs (.live m sz' e')/\m<n
 v:∀n sz e,r'=Hs (.vec n sz e)->(∃e0,r=Hs (.vec n sz e0)/\M'.κ id=M.κ id/\M'.ψ id=M.ψ id)\/ ∃n0 sz0 e0,r=Hs (.vec n0 sz0 e0)/\n0<n
def RowLe.same {M b:Maps} {id:Nat} {r:Option Row} (d:b.κ id=M.κ id) (c:b.ψ id=M.ψ id):RowLe M b id r r:=
 ⟨λ_ _ _ h=> .inl ⟨h,d,c⟩,λ_ _ _ h=> .inl ⟨_,h,d,c⟩⟩
def RowLe.refl (M:Maps) (id:Nat) (r:Option Row):RowLe M M id r r:= .same rfl rfl
def RowLe.of_eq {M b:Maps} {id:Nat} {r r':Option Row} (h:r'=r) (d:b.κ id=M.κ id) (c:b.ψ id=M.ψ id):RowLe M b id r r':=by subst h;exact .same d c
def RowLe.dead {M b:Maps} {id:Nat} {r:Option Row}:RowLe M b id r (Hs .dead):=⟨(by intro _ _ _ h;cases h),(by intro _ _ _ h;cases h)⟩
def RowLe.none {M b:Maps} {id:Nat} {r:Option Row}:RowLe M b id r none:=⟨(by intro _ _ _ h;cases h),(by intro _ _ _ h;cases h)⟩
theorem RepS.heap {S S':Stable} {M u:Maps} {q x:Rows} (y:SLe S S') {v:Value} {p:PV}
  (r:RepS S M q v p)
  (l:∀id,.b id∈p.ids->u.φ id=M.φ id)
  (k:∀id,.r id∈p.ids->RowLe M u id (q id) (x id)):RepS S' u x v p:=by
 induction r with
 |clean r=>exact .clean (r.mono y)
 |ptr id off=>rw[<-l id (by simp[PV.ids])];exact .ptr id off
 |osl id off len cap sz hc=>rw[<-l id (by simp[PV.ids])];exact .osl id off len cap sz hc
 |row id v es r t=>
  refine .row id v es (r.mono y) λn sz e o=> ?_
  rcases(k id (by simp[PV.ids])).l n sz e o with ⟨h1,h2,h3⟩|⟨m,c,e',h1,h2⟩;obtain⟨g,j⟩:=t n sz e h1;refine⟨g,λe=> ?_⟩;rw[h2,h3];exact j e;obtain⟨g,j⟩:=t m c e' h1;exact⟨by omega,λe=>by omega⟩
 |vsl id len sz v hv t=>
  refine .vsl id len sz v hv λn c e o=> ?_
  rcases(k id (by simp[PV.ids])).v n c e o with ⟨e0,h1,h3,h4⟩|⟨n0,sz0,e0,h1,h2⟩;obtain⟨g,j⟩:=t n c e0 h1;refine⟨g,λe=> ?_⟩;rw[h3,h4];exact j e;obtain⟨g,j⟩:=t n0 sz0 e0 h1;exact⟨by omega,λe=>by omega⟩
 |vptr id n sz i off v hv d t=>
  refine .vptr id n sz i off v hv d λn' c e o=> ?_
  rcases(k id (by simp[PV.ids])).v n' c e o with ⟨e0,h1,h3,h4⟩|⟨n0,sz0,e0,h1,h2⟩;obtain⟨g,j⟩:=t n' c e0 h1;refine⟨g,λe=> ?_⟩;rw[h4];exact j e;obtain⟨g,j⟩:=t n0 sz0 e0 h1;exact⟨by omega,λe=>by omega⟩
 |agg vs cs hl _ ih=>
  refine .agg vs cs hl λi d=>ih i d (λid b=>l id ?_) (λid b=>k id ?_)<;>
  ·simp only[PV.ids,PV.mem_idsL];exact⟨_,by rw[Js,Je d];exact JH d,b⟩
 |tup vs cs hl _ ih=>
  refine .tup vs cs hl λi d=>ih i d (λid b=>l id ?_) (λid b=>k id ?_)<;>
  ·simp only[PV.ids,PV.mem_idsL];exact⟨_,by rw[Js,Je d];exact JH d,b⟩
 |fn f vs cs hl _ ih=>
  refine .fn f vs cs hl λi d=>ih i d (λid b=>l id ?_) (λid b=>k id ?_)<;>
  ·simp only[PV.ids,PV.mem_idsL];exact⟨_,by rw[Js,Je d];exact JH d,b⟩
structure St where
 fr:Nat->PV
 m:Hp
 n:Nat
def DJ (B:Frm) (S:Stable) (M:Maps) (m:Hp) (w:World) (id:Nat) (cs:List PV):Bool->Prop
 |false=>¬B (M.φ id)/\(∀o,S (M.φ id) o=Hn)/\(∃vs t,w.heap[M.φ id]? = Hs (.cells ⟨vs⟩ t (0,0))/\vs.length=cs.length/\
   ∀j,j<cs.length->RepS S M m.q (vs.getD j undef) (cs.getD j .any))/\(∀c∈cs,∀i∈c.ids,ZI m i)
 |true=>∃vals:Nat->Value,∀j,j<cs.length->S (M.φ id) j=Hs (vals j)/\Rep S (vals j) (cs.getD j .any)
def Zd2 (B:Frm) (S:Stable) (M:Maps) (w:World) (id:Nat):Row->Prop
 | .live n sz e=>(M.κ id=0->n=0)/\(∀c,M.κ id=c+1->n<=c/\c<=maxLen/\ ¬B (M.ψ id)/\(∃vs,w.heap[M.ψ id]? = Hs (.cells ⟨vs⟩ e (0,0))/\vs.length=c*sz)/\ ∀o,n*sz<=o->S (M.ψ id) o=Hn)
 | .vec n sz e=>(M.κ id=0->n=0)/\(∀c,M.κ id=c+1->n<=c/\c<=maxLen/\ ¬B (M.ψ id)/\(∃vs,w.heap[M.ψ id]? = Hs (.cells ⟨vs⟩ e (0,0))/\vs.length=c*sz)/\ ∀o,S (M.ψ id) o=Hn)
 | .dead=>True
def VecOk (S:Stable) (M:Maps) (m:Hp) (w:World) (id:Nat) (es:List PV):Prop:=
 ∃sz e,m.q id=Hs (.vec es.length sz e)/\(∀p∈es,p.cells.length=sz/\p.cells.all PV.atom=Ht)/\(∀p∈es,∀i∈p.ids,ZI m i)/\
  ∀c,M.κ id=c+1-> ∀vs t f,w.heap[M.ψ id]? = Hs (.cells ⟨vs⟩ t f)-> ∀i j,i<es.length->j<sz->RepS S M m.q (vs.getD (i*sz+j) undef) ((es.getD i .any).cells.getD j .any)
structure StabS (S:Stable) (w:World):Prop where
 c:∀b o v,S b o=Hs v->w.cell? ⟨b,o,Hn⟩=Hs v
 m:∀b es,S.m b=Hs es->w.heap[b]? = Hs (.map ⟨es⟩ es.length)
 y:∀b,S.y b-> ∃vs t,w.heap[b]? = Hs (.cells vs t (0,0))
instance (S:Stable) (w:World):CoeFun (StabS S w) (λ_=>∀b o v,S b o=Hs v->w.cell? ⟨b,o,Hn⟩=Hs v):=⟨StabS.c⟩
def MapAt (S:Stable) (w:World) (b:Nat) (c:MapC):Prop:=
 ∃es:List MapEntry,w.heap[b]? = Hs (.map ⟨es⟩ es.length)/\es.length=c.ks.length/\c.vs.length=c.ks.length/\(∀i,i<c.ks.length->(es.getD i Jd).born=i)/\
  (∀i,i<c.ks.length->Rep S (es.getD i Jd).key (c.ks.getD i .any))/\(∀i,i<c.ks.length->Rep S (es.getD i Jd).val (c.vs.getD i .any))
def IterAt (w:World) (b:Nat) (x:IterC):Prop:=w.heap[b]? = Hs (.mapIter (Hs x.b) x.n ⟨x.seen⟩ x.n)
def MapAtR (S:Stable) (M:Maps) (m:Hp) (w:World) (b:Nat) (c:MapC):Prop:=
 (∃es:List MapEntry,w.heap[b]? = Hs (.map ⟨es⟩ es.length)/\es.length=c.ks.length/\c.vs.length=c.ks.length/\(∀i,i<c.ks.length->(es.getD i Jd).born=i)/\
  (∀i,i<c.ks.length->Rep S (es.getD i Jd).key (c.ks.getD i .any))/\(∀i,i<c.ks.length->RepS S M m.q (es.getD i Jd).val (c.vs.getD i .any)))/\ ∀p∈c.vs,∀i∈p.ids,ZI m i
def RdAt (S:Stable) (x:IterC):Prop:=∀c,x.c=Hs c-> ∃es:List MapEntry,S.m x.b=Hs es/\es.length=c.ks.length/\c.vs.length=c.ks.length/\(∀i,i<c.ks.length->(es.getD i Jd).born=i)/\
  (∀i,i<c.ks.length->Rep S (es.getD i Jd).key (c.ks.getD i .any))/\(∀i,i<c.ks.length->Rep S (es.getD i Jd).val (c.vs.getD i .any))
def RdAt.mono {S S':Stable} {x:IterC} (h:RdAt S x) (b:SLe S S'):RdAt S' x:=λc f=>by
 obtain⟨es,g,e,j,l,k,m⟩:=h c f;exact⟨es,b.m _ _ g,e,j,l,λi d=>(k i d).mono b,λi d=>(m i d).mono b⟩
structure Stab (B:Frm) (S:Stable) (w:World) (o:Nat->Option MapC) (it:Nat->Option IterC):Prop where
 s:StabS S w
 o:∀b c,o b=Hs c-> ¬B b/\S.m b=Hn/\MapAt S w b c
 i:∀b x,it b=Hs x-> ¬B b/\IterAt w b x/\RdAt S x
instance (B:Frm) (S:Stable) (w:World) (o:Nat->Option MapC) (it:Nat->Option IterC):CoeFun (Stab B S w o it) (λ_=>∀b o v,S b o=Hs v->w.cell? ⟨b,o,Hn⟩=Hs v):=⟨λh=>h.s.c⟩
structure PinOk (m:Hp) (M:Maps):Prop where
 h:∀id b,m.ph id=Hs b->m.h id≠Hn/\M.φ id=b
 q:∀id n k b,m.pq id=Hs (n,k,b)->m.q id≠Hn/\ ∀r n',m.q id=Hs r->r.len=Hs n'->n<=n'/\(n=n'->M.κ id=k/\M.ψ id=b)
theorem RowLe.len {M i:Maps} {id:Nat} {r k:Option Row} (h:RowLe M i id r k) {x:Row} {n:Nat} (l:k=Hs x) (j:x.len=Hs n):∃y d,r=Hs y/\y.len=Hs d/\d<=n/\(d=n->i.κ id=M.κ id/\i.ψ id=M.ψ id):=by
 cases x with
 |dead=>cases j
 |live n' sz e=>
  cases j;rcases h.l n sz e l with ⟨c,b,f⟩|⟨m,g,o,c,b⟩;exact⟨_,n,c,rfl,Jj _,λ_=>⟨b,f⟩⟩;exact⟨_,m,c,rfl,Qa b,λe=>absurd e (Qb b)⟩
 |vec n' sz e=>
  cases j;rcases h.v n sz e l with ⟨p,c,b,f⟩|⟨m,g,o,c,b⟩;exact⟨_,n,c,rfl,Jj _,λ_=>⟨b,f⟩⟩;exact⟨_,m,c,rfl,Qa b,λe=>absurd e (Qb b)⟩
def PinOk.move {m m':Hp} {M M':Maps} (h:PinOk m M) (z:m'.ph=m.ph) (j:m'.pq=m.pq) (live:∀i,ZI m i->ZI m' i) (E:∀id,m.h id≠Hn->M'.φ id=M.φ id) (x:∀id,m.q id≠Hn->RowLe M M' id (m.q id) (m'.q id)):PinOk m' M':=by
 refine⟨λid b c=> ?_,λid n k b c=> ?_⟩;rw[z]at c;obtain⟨d,g⟩:=h.h id b c;exact⟨live (.b id) d,by rw[E id d];exact g⟩;rw[j]at c;obtain⟨d,g⟩:=h.q id n k b c;refine⟨live (.r id) d,λr n' p D=> ?_⟩;obtain⟨y,o,A,t,F,l⟩:=(x id d).len p D;obtain⟨G,C⟩:=g y o A t;refine⟨by omega,λe=> ?_⟩;obtain⟨q,u⟩:=l (by omega);obtain⟨v,f⟩:=C (by omega);exact⟨q.trans v,u.trans f⟩
structure Sim (B:Frm) (S:Stable) (M:Maps) (s:St) (a:Act) (w:World):Prop where
 defers:a.defers= []
 hn:a.tmps.size=s.n
 hB:∀k,B k->k<w.heap.size
 stable:Stab B S w s.m.o s.m.it
 fr:∀i,RepS S M s.m.q (a.tmps.getD i undef) (s.fr i)
 ids:∀i id,id∈(s.fr i).ids->ZI s.m id
 blk:∀id cs,s.m.h id=Hs cs->DJ B S M s.m w id cs (s.m.z id)
 row:∀id r,s.m.q id=Hs r->Zd2 B S M w id r
 inj:∀id id' cs cs',s.m.h id=Hs cs->s.m.h id'=Hs cs'->s.m.z id=Hf->s.m.z id'=Hf->id≠id'->M.φ id≠M.φ id'
 injq:∀id id' r r',s.m.q id=Hs r->s.m.q id'=Hs r'->r.own=Ht->r'.own=Ht->0<M.κ id->0<M.κ id'->id≠id'->M.ψ id≠M.ψ id'
 injx:∀id id' cs r,s.m.h id=Hs cs->s.m.z id=Hf->s.m.q id'=Hs r->r.own=Ht->0<M.κ id'->M.φ id≠M.ψ id'
 rm:∀b c,s.m.om b=Hs c-> ¬B b/\S.m b=Hn/\s.m.o b=Hn/\MapAtR S M s.m w b c
 vc:∀id es,s.m.v id=Hs es->VecOk S M s.m w id es
 pn:PinOk s.m M
 hz:∀b,¬B b->S.z b
def ZmP (S:Stable) (w:World):Prop:=∀b,w.heap.size<=b->S.z b
def Sim.young {B:Frm} {S:Stable} {M:Maps} {s:St} {a:Act} {w:World} (c:Sim B S M s a w):ZmP S w:=λb d=>c.hz b λh=>by have:=c.hB b h;omega
def Sim.zle {B:Frm} {S S':Stable} {M:Maps} {s:St} {a:Act} {w:World} (e:Sim B S M s a w) (c:SLe S S'):∀b,¬B b->S'.z b:=λb d=>by rw[c.z];exact e.hz b d
def MapAt.move {S S':Stable} {w w':World} {b:Nat} {c:MapC} (h:MapAt S w b c) (d:SLe S S') (g:w'.heap[b]? = w.heap[b]?):MapAt S' w' b c:=by
 obtain⟨es,j,f,k,m,l,n⟩:=h;exact⟨es,by rw[g];exact j,f,k,m,λi e=>(l i e).mono d,λi e=>(n i e).mono d⟩
def MapAt.lt {S:Stable} {w:World} {b:Nat} {c:MapC} (h:MapAt S w b c):b<w.heap.size:=by
 obtain⟨es,d,_⟩:=h;exact(Jh.1 d).1
def MapAtR.lt {S:Stable} {M:Maps} {m:Hp} {w:World} {b:Nat} {c:MapC} (h:MapAtR S M m w b c):b<w.heap.size:=by
 obtain⟨⟨es,d,_⟩,_⟩:=h;exact(Jh.1 d).1
def MapAtR.move {S S':Stable} {M g:Maps} {m m':Hp} {w w':World} {b:Nat} {c:MapC} (h:MapAtR S M m w b c) (e:SLe S S') (l:w'.heap[b]? = w.heap[b]?)
  (rep:∀v p,RepS S M m.q v p->(∀i∈p.ids,ZI m i)->RepS S' g m'.q v p) (live:∀i,ZI m i->ZI m' i):MapAtR S' g m' w' b c:=by
 obtain⟨⟨es,n,j,o,r,q,u⟩,f⟩:=h;refine⟨⟨es,by rw[l];exact n,j,o,r,λi d=>(q i d).mono e,λi d=>rep _ _ (u i d) λk t=>f _ ?_ k t⟩,λp hp i d=>live i (f p hp i d)⟩;rw[Js,Je (by omega)];exact JH (by omega)
def IterAt.lt {w:World} {b:Nat} {x:IterC} (h:IterAt w b x):b<w.heap.size:=(Jh.1 h).1
def Stab.move {B:Frm} {S S':Stable} {w w':World} {o:Nat->Option MapC} {it:Nat->Option IterC} (h:Stab B S w o it) (d:SLe S S') (k:∀b c,o b=Hs c->S'.m b=Hn) (i:StabS S' w')
  (g:∀b c,o b=Hs c->w'.heap[b]? = w.heap[b]?) (j:∀b x,it b=Hs x->w'.heap[b]? = w.heap[b]?):Stab B S' w' o it:=
 ⟨i,λb c e=>⟨(h.o b c e).1,k b c e,(h.o b c e).2.2.move d (g b c e)⟩,λb x f=>⟨(h.i b x f).1,by unfold IterAt;rw[j b x f];exact(h.i b x f).2.1,(h.i b x f).2.2.mono d⟩⟩
open Go.RowKit
def getD_lt {α:Type} {l:List α} {i:Nat} {d:α} (h:i<l.length):l.getD i d=l[i]:=by
 rw[Js,Je h];rfl
def Zc {α:Type} {l:List α} {i:Nat} {d:α} (h:i<l.length):l.getD i d∈l:=by rw[getD_lt h];exact JH h
def Vi {α:Type} {l:List α} {i:Nat} {d:α} (h:l.length<=i):l.getD i d=d:=by
 rw[Js,List.getElem?_eq_none h];rfl
structure BelowF (B:Frm) (w w':World):Prop where
 os:w'.os=w.os
 tape:w'.tape=w.tape
 output:w'.output=w.output
 size:w.heap.size<=w'.heap.size
 block:∀k,B k->w'.heap[k]? = w.heap[k]?
def BelowF.refl (B:Frm) (w:World):BelowF B w w:=⟨rfl,rfl,rfl,Jj _,λ_ _=>rfl⟩
def BelowF.trans {B:Frm} {a b c:World} (h:BelowF B a b) (k:BelowF B b c):BelowF B a c:=
 ⟨k.os.trans h.os,k.tape.trans h.tape,k.output.trans h.output,Qd h.size k.size,λi d=>(k.block i d).trans (h.block i d)⟩
def BelowF.mono {B B':Frm} {w w':World} (h:BelowF B w w') (c:∀k,B' k->B k):BelowF B' w w':=⟨h.os,h.tape,h.output,h.size,λk b=>h.block k (c k b)⟩
def BelowF.of {n:Nat} {w w':World} (h:Below n w w'):BelowF (λk=>k<n) w w':=⟨h.os,h.tape,h.output,h.size,h.block⟩
def BelowF.to {n:Nat} {w w':World} (h:BelowF (λk=>k<n) w w'):Below n w w':=⟨h.os,h.tape,h.output,h.size,h.block⟩
def BelowF.alloc {B:Frm} {w w':World} (h:BelowF B w w') (c:∀k,B k->k<w'.heap.size) (o:Obj):BelowF B w (w'.alloc o):=
 ⟨h.os,h.tape,h.output,Qd h.size (by show _<=(w'.heap.push o).size;simp),λk b=>(Below.heap_alloc w' o k (c k b)).trans (h.block k b)⟩
def BelowF.drew {B:Frm} {w w':World} (h:BelowF B w w'):BelowF B w { w' with drawn:=w'.drawn+1 }:=⟨h.os,h.tape,h.output,h.size,h.block⟩
def Ext (B:Frm) (S S':Stable) (w w':World):Prop:=SLe S S'/\(∀b,B b->(∀o,S' b o=S b o)/\S'.m b=S.m b)/\BelowF B w w'
def Ext.refl (B:Frm) (S:Stable) (w:World):Ext B S S w w:=⟨SLe.refl S,λ_ _=>⟨λ_=>rfl,rfl⟩,BelowF.refl _ _⟩
def Ext.trans {B:Frm} {S S' c:Stable} {w w' w'':World} (h:Ext B S S' w w') (k:Ext B S' c w' w''):Ext B S c w w'':=
 ⟨h.1.trans k.1,λb d=>⟨λo=>((k.2.1 b d).1 o).trans ((h.2.1 b d).1 o),(k.2.1 b d).2.trans (h.2.1 b d).2⟩,h.2.2.trans k.2.2⟩
section
variable {B:Frm} {S:Stable} {M:Maps} {s:St} {a:Act} {w:World}
def St.put (s:St) (d:Option Nat) (v:PV):St:=match d with|some d=> { s with fr:=upd s.fr d v }|none=>s
def St.with (s:St) (m:Hp):St:= { s with m:=m }
def ZrO {a:Act} {d i:Nat} {v:Value} (hd:d<a.tmps.size):(a.put (Hs d) v).tmps.getD i undef=if d=i then v else a.tmps.getD i undef:=by
 simp only[Act.put,Array.getD_eq_getD_getElem?,Array.getElem?_setIfInBounds];by_cases e:d=i;subst e;simp[hd];simp[e]
def ZrP (a:Act) (d:Option Nat) (v:Value):(a.put d v).tmps.size=a.tmps.size:=by
 cases d<;>simp[Act.put]
def ZlS (a:Act) (d:Option Nat) (v:Value):(a.put d v).defers=a.defers:=by
 cases d<;>simp[Act.put]
theorem Sim.put (b:Sim B S M s a w) {d:Option Nat} {v:Value} {p:PV} (hd:∀x,d=Hs x->x<s.n) (hv:RepS S M s.m.q v p) (f:∀id∈p.ids,ZI s.m id):
  Sim B S M (s.put d p) (a.put d v) w:=by
 cases d with
 |none=>exact b
 |some d=>
  have e:d<a.tmps.size:=by rw[b.hn];exact hd d rfl
  refine⟨by rw[ZlS];exact b.defers,by rw[ZrP];exact b.hn,b.hB,b.stable,λi=> ?_,λi id c=> ?_,b.blk,b.row,b.inj,b.injq,b.injx,b.rm,b.vc,b.pn,b.hz⟩;rw[ZrO e];simp only[St.put,upd];split;exact hv;exact b.fr i;simp only[St.put,upd]at c;split at c;exact f id c;exact b.ids i id c
def Uo {w:World} {b o:Nat} {v:Value} (h:w.cell? ⟨b,o,Hn⟩=Hs v):b<w.heap.size:=by
 unfold KU at h;by_cases c:b<w.heap.size;exact c;rw[Array.getElem?_eq_none (by simpa using c)]at h;simp at h
def Yu {w:World} {b o:Nat} {vs:List Value} {t:TypeId} {f:Nat×Nat} (h:w.heap[b]? = Hs (.cells ⟨vs⟩ t f)):w.cell? ⟨b,o,Hn⟩=vs[o]? :=by
 simp[KU,h]
def Sim.own (c:Sim B S M s a w) {id:Nat} {cs:List PV} (h:s.m.h id=Hs cs) (b:s.m.z id=Hf):DJ B S M s.m w id cs false:=by
 have:=c.blk id cs h;rwa[b]at this
def Sim.blk_lt (d:Sim B S M s a w) {id:Nat} {cs:List PV} (h:s.m.h id=Hs cs) (c:s.m.z id=Hf):M.φ id<w.heap.size:=by
 obtain⟨_,_,⟨vs,t,b,_⟩,_⟩:=d.own h c;exact(Jh.1 b).1
theorem Sim.row_lt (d:Sim B S M s a w) {id:Nat} {r:Row} (h:s.m.q id=Hs r) (f:r.own=Ht) (g:0<M.κ id):M.ψ id<w.heap.size:=by
 cases r with
 |dead=>cases f
 |live n sz e=>
  obtain⟨_,b⟩:=d.row id _ h;obtain⟨_,_,_,⟨vs,c,_⟩,_⟩:=b (M.κ id-1) (by omega);exact(Jh.1 c).1
 |vec n sz e=>
  obtain⟨_,b⟩:=d.row id _ h;obtain⟨_,_,_,⟨vs,c,_⟩,_⟩:=b (M.κ id-1) (by omega);exact(Jh.1 c).1
theorem VecOk.move {S S':Stable} {M r:Maps} {m m':Hp} {w w':World} {id g:Nat} {es:List PV} (h:VecOk S M m w id es)
  (E:∀n sz e,m.q id=Hs (.vec n sz e)->m'.q g=Hs (.vec n sz e)) (D:r.κ g=M.κ id) (I:r.ψ g=M.ψ id) (A:0<M.κ id->w'.heap[M.ψ id]? = w.heap[M.ψ id]?)
  (rep:∀v p,RepS S M m.q v p->(∀i∈p.ids,ZI m i)->RepS S' r m'.q v p) (live:∀i,ZI m i->ZI m' i):VecOk S' r m' w' g es:=by
 obtain⟨sz,e,C,u,z,F⟩:=h;refine⟨sz,e,E _ _ _ C,u,λp hp i l=>live i (z p hp i l),λc y vs t f o i j l G=> ?_⟩;rw[D]at y;rw[I,A (by omega)]at o;refine rep _ _ (F c y vs t f o i j l G) λk q=>z (es.getD i .any) (Zc l) k ?_
 have b:=(u _ (Zc (d:= .any) l)).1;generalize es.getD i .any=x at q b ⊢;cases x with
 |agg cs=>
  simp only[PV.cells]at q b;simp only[PV.ids,PV.mem_idsL];exact⟨_,Zc (d:= .any) (by omega:j<cs.length),q⟩
 |_=>
  simp only[PV.cells,List.length_singleton]at q b;have:j=0:=by omega
  subst this;exact q
def Sim.vec_q (c:Sim B S M s a w) {id:Nat} {es:List PV} (h:s.m.v id=Hs es):∃sz e,s.m.q id=Hs (.vec es.length sz e):=by
 obtain⟨sz,e,b,_⟩:=c.vc id es h;exact⟨sz,e,b⟩
theorem Sim.v_none (c:Sim B S M s a w) {d:Nat} (h:∀n sz e,s.m.q d≠Hs (.vec n sz e)):s.m.v d=none:=by
 cases e:s.m.v d with
 |none=>rfl
 |some es=>obtain⟨sz,t,b⟩:=c.vec_q e;exact absurd b (h _ _ _)
def Sim.vec_lt (b:Sim B S M s a w) {id:Nat} {es:List PV} (h:s.m.v id=Hs es) (c:0<M.κ id):M.ψ id<w.heap.size:=by
 obtain⟨sz,e,d⟩:=b.vec_q h;exact b.row_lt d rfl c
theorem Sim.S_lt (c:Sim B S M s a w) {b o:Nat} (h:w.heap.size<=b):S b o=none:=by
 cases e:S b o with
 |none=>rfl
 |some v=>have:=Uo (c.stable b o v e);omega
theorem Sim.S_m (c:Sim B S M s a w) {b:Nat} (h:w.heap.size<=b):S.m b=none:=by
 cases e:S.m b with
 |none=>rfl
 |some v=>have:=(Jh.1 (c.stable.s.m b v e)).1;omega
def StabS.old {S:Stable} {w w':World} (f:StabS S w) (d:∀k,k<w.heap.size->w'.heap[k]? = w.heap[k]?):StabS S w':=
 ⟨λb o v h=>by
   have c:=f.c b o v h;have:=Uo c;rw[<-c];exact JQ (d _ this),
  λb es h=>by
     have c:=f.m b es h;rw[d b (Jh.1 c).1];exact c,λb h=>by
     obtain⟨vs,t,e⟩:=f.y b h;exact⟨vs,t,by rw[d b (Jh.1 e).1];exact e⟩⟩
def Sim.new_ok (b:Sim B S M s a w):¬B w.heap.size:=λh=>J7 _ (b.hB _ h)
theorem Sim.grow (d:Sim B S M s a w) {S':Stable} {w':World} (g:SLe S S') (l:∀b,b<w.heap.size->(∀o,S' b o=S b o)/\S'.m b=S.m b)
  (L:StabS S' w') (q:∀k,k<w.heap.size->w'.heap[k]? = w.heap[k]?) (N:w.heap.size<=w'.heap.size):
  Sim B S' M s a w':=by
 have rep:∀ {v p},RepS S M s.m.q v p->RepS S' M s.m.q v p:=λr=>r.heap g (λ_ _=>rfl) (λ_ _=>RowLe.refl _ _ _)
 refine⟨d.defers,d.hn,λk u=>Nat.lt_of_lt_of_le (d.hB k u) N,d.stable.move g (λb c A=> ?_) L (λb c A=>q b (d.stable.o b c A).2.2.lt) (λb x X=>q b (d.stable.i b x X).2.1.lt),λi=>rep (d.fr i),d.ids,λid cs R=> ?_,λid r O=> ?_,d.inj,d.injq,d.injx,λb c A=> ?_,λid es T=> ?_,d.pn,d.zle g⟩;rw[(l b (d.stable.o b c A).2.2.lt).2];exact(d.stable.o b c A).2.1;have m:=d.blk id cs R;cases K:s.m.z id with
 |false=>
  rw[K]at m;have f:=d.blk_lt R K;obtain⟨F,C,⟨vs,t,V,Y,W⟩,Z⟩:=m;exact⟨F,λo=>by rw[(l _ f).1];exact C o,⟨vs,t,by rw[q _ f];exact V,Y,λj J=>rep (W j J)⟩,Z⟩
 |true=>
  rw[K]at m;obtain⟨vals,hv⟩:=m;exact⟨vals,λj J=>⟨g _ _ _ (hv j J).1,(hv j J).2.mono g⟩⟩
 have E:=d.row id r O;cases r with
 |live n sz e=>
  obtain⟨F,C⟩:=E;refine⟨F,λc u=> ?_⟩;have f:=d.row_lt O rfl (by omega);obtain⟨Q,y,D,⟨vs,I,G⟩,z⟩:=C c u;exact⟨Q,y,D,⟨vs,by rw[q _ f];exact I,G⟩,λo U=>by rw[(l _ f).1];exact z o U⟩
 |vec n sz e=>
  obtain⟨F,C⟩:=E;refine⟨F,λc u=> ?_⟩;have f:=d.row_lt O rfl (by omega);obtain⟨Q,y,D,⟨vs,I,G⟩,z⟩:=C c u;exact⟨Q,y,D,⟨vs,by rw[q _ f];exact I,G⟩,λo=>by rw[(l _ f).1];exact z o⟩
 |dead=>trivial
 obtain⟨D,I,G,z⟩:=d.rm b c A;exact⟨D,by rw[(l b z.lt).2];exact I,G,z.move g (q b z.lt) (λv p r _=>rep r) (λ_ h=>h)⟩;exact(d.vc id es T).move (λ_ _ _ h=>h) rfl rfl (λu=>q _ (d.vec_lt T u)) (λv p r _=>rep r) (λ_ h=>h)
end
open Go.RowKit
section
variable {B:Frm} {S:Stable} {M:Maps} {s:St} {a:Act} {w:World}
def ZU (w:World) (o:Obj) {k:Nat} (h:k<w.heap.size):(w.alloc o).heap[k]? = w.heap[k]? :=Below.heap_alloc w o k h
def alloc_heap_new (w:World) (o:Obj):(w.alloc o).heap[w.heap.size]? = Hs o:=by
 show(w.heap.push o)[w.heap.size]? = Hs o;simp
def Sr (w:World) (o:Obj):(w.alloc o).heap.size=w.heap.size+1:=by
 show(w.heap.push o).size=_;simp
def Sim.ext_alloc (b:Sim B S M s a w) (o:Obj):Ext B S S w (w.alloc o):=⟨SLe.refl _,λ_ _=>⟨λ_=>rfl,rfl⟩,(BelowF.refl _ _).alloc b.hB o⟩
def RepS.fresh {S:Stable} {M c:Maps} {m:Hp} {id:Nat} {v:Value} {p:PV} (r:RepS S M m.q v p) (b:∀i∈p.ids,ZI m i) (d:m.h id=Hn)
  (j:∀i,i≠id->c.φ i=M.φ i) (k:c.κ=M.κ) (g:c.ψ=M.ψ):RepS S c m.q v p:=
 r.heap (SLe.refl S) (λi f=>j i (λe=>b _ f (e▸d)))
  (λi f=>RowLe.same (by rw[k]) (by rw[g]))
def Hp.new (m:Hp) (d:Nat) (cs:List PV):Hp:= { m with h:=upd m.h d (Hs cs),z:=upd m.z d Hf }
theorem Sim.alloc (f:Sim B S M s a w) {id:Nat} (A:s.m.h id=Hn) {vs:List Value} {t:TypeId} {cs:List PV} (hl:vs.length=cs.length)
  (K:∀j,j<cs.length->RepS S M s.m.q (vs.getD j undef) (cs.getD j .any)) (O:∀c∈cs,∀i∈c.ids,ZI s.m i):
  Sim B S { M with φ:=upd M.φ id w.heap.size } (s.with (s.m.new id cs)) a (w.alloc (.cells ⟨vs⟩ t)):=by
 have g:=f.grow (S':=S) (w':=w.alloc (.cells ⟨vs⟩ t)) (SLe.refl S) (λ_ _=>⟨λ_=>rfl,rfl⟩)
  (f.stable.s.old (λk l=>ZU w _ l))
  (λk l=>ZU w _ l) (by rw[Sr];omega)
 have n:∀i,i≠id->upd M.φ id w.heap.size i=M.φ i:=λi h=>Zb _ _ (Jt h)
 have z:∀i,i≠id->(s.m.new id cs).h i=s.m.h i:=λi h=>Zb _ _ (Jt h)
 have C:∀i,i≠id->(s.m.new id cs).z i=s.m.z i:=λi h=>Zb _ _ (Jt h)
 have Z:(s.m.new id cs).h id=Hs cs:=Za _ _ _;have n2:(s.m.new id cs).z id=false:=Za _ _ _;have rep:∀ {v p},RepS S M s.m.q v p->(∀i∈p.ids,ZI s.m i)->RepS S { M with φ:=upd M.φ id w.heap.size } s.m.q v p:=
  λr hh=>r.fresh hh A n rfl rfl
 have some_ne:∀i,ZI s.m i->ZI (s.m.new id cs) i:=λi h=>by
  cases i with
  |b i=>
   by_cases e:i=id;subst e;exact absurd A h;show(s.m.new id cs).h i≠Hn;rw[z i e];exact h
  |r i=>exact h
 refine⟨g.defers,g.hn,g.hB,g.stable,λi=>rep (f.fr i) (f.ids i),λi j q=>some_ne j (f.ids i j q),λi b F=> ?_,λi r K=>g.row i r K,?_,f.injq,?_,λb c E=> ?_,λi es U=> ?_,f.pn.move rfl rfl some_ne (λi h=>n i λe=>h (e▸A)) λi _=> .same rfl rfl,f.hz⟩;simp only[St.with]at F ⊢;by_cases e:i=id;subst e;rw[Z]at F;cases F;rw[n2];refine⟨by simp only[Za];exact f.new_ok,λo=>by simp only[Za];exact f.S_lt (Jj _),⟨vs,t,by simp only[Za];exact alloc_heap_new w _,hl,λj q=>rep (K j q) ?_⟩,λc E k l=>some_ne k (O c E k l)⟩;intro k l;exact O _ (Zc q) k l;rw[z i e]at F;rw[C i e];have x:=g.blk i b F;cases L:s.m.z i with
 |false=>
  rw[L]at x;obtain⟨W,Q,⟨us,R,X,h4,Y⟩,N⟩:=x;exact⟨by simp only[n i e];exact W,λo=>by simp only[n i e];exact Q o,⟨us,R,by simp only[n i e];exact X,h4,λj q=>rep (Y j q) (λk l=>N _ (Zc q) k l)⟩,λc E k l=>some_ne k (N c E k l)⟩
 |true=>
  rw[L]at x;obtain⟨vals,hv⟩:=x;exact⟨vals,λj q=>by simp only[n i e];exact hv j q⟩
 intro i j ds T d m y G u;simp only[St.with]at d m y G ⊢;by_cases e:i=id;subst e;rw[z j (Jt u)]at m;rw[C j (Jt u)]at G;rw[Za,n j (Jt u)];have:=f.blk_lt m G;omega;by_cases J:j=id;subst J;rw[z i e]at d;rw[C i e]at y;rw[Za,n i e];have:=f.blk_lt d y;omega;rw[z i e]at d;rw[z j J]at m;rw[C i e]at y;rw[C j J]at G;rw[n i e,n j J];exact f.inj i j _ _ d m y G u;intro i j ds rj d y D I l;simp only[St.with]at d y ⊢;by_cases e:i=id;subst e;rw[Za];have:=f.row_lt D I l;omega;rw[z i e]at d;rw[C i e]at y;rw[n i e];exact f.injx i j _ _ d y D I l;obtain⟨V,g2,g3,g4⟩:=g.rm b c E;exact⟨V,g2,g3,g4.move (SLe.refl _) rfl (λv p r h=>rep r h) some_ne⟩;exact(g.vc i es U).move (λ_ _ _ h=>h) rfl rfl (λ_=>rfl) (λv p r h=>rep r h) some_ne
def Hp.freeze (m:Hp) (d:Nat):Hp:= { m with z:=upd m.z d Ht }
end
open Go.RowKit
def tsz (P:Program) (t:TypeId):Nat:=P.cellsOf t
def Yp (P:Program) (t:TypeId):Bool:=match P.underlying t with|some (.struct _)|some (.array _ _)=>Ht|_=>Hf
def Wy (P:Program) (t:TypeId) (f:Nat):Option (Nat×Nat×Bool):=
 match P.underlying t with
 |some (.struct fs)=>match fs[f]? with
  |some fd=>match P.underlying fd.type with
   |some _=>Hs (fd.offset,tsz P fd.type,Yp P fd.type)
   |none=>Hn
  |none=>Hn
 |_=>Hn
inductive IxK where
 |arr (len esz:Nat) (ea:Bool)
 |slc (esz:Nat) (ea:Bool)
 |str
 |none
def tix (P:Program) (t:TypeId):IxK:=
 match P.underlying t with
 |some (.array n e)=>match P.underlying e with|some _=> .arr n (tsz P e) (Yp P e)|none=> .none
 |some (.slice e)=>match P.underlying e with|some _=> .slc (tsz P e) (Yp P e)|none=> .none
 |some .string=> .str
 |_=> .none
def T2:Value->PV
 | .int k n=> .int k n
 | .bool b=> .bool b
 | .string s=> .str s.data.toList
 | .float k b=> .flt k b
 | .complex k a b=> .cpx k a b
 | .pointer Hn=> .nilp
 | .slice Hn 0 0=> .sl .nil []
 | .nilFunc=> .nilfn
 | .map Hn=> .nilmap
 |_=> .any
def XP:Value->PV
 | .agg cs=> .agg (cs.toList.map T2)
 | .tuple cs=>if cs.isEmpty then .tup []else .any
 |v=>T2 v
def Zdu (S:Stable) (v:Value):Rep S v (T2 v):=by
 unfold T2;split;exact .int _ _;exact .bool _;rename_i s;exact .str s.data.toList;exact .flt _ _;exact .cpx _ _ _;exact .nilp;exact .slnil;exact .nilfn;exact .nilmap;exact .any _
def Ve (S:Stable) (v:Value):Rep S v (XP v):=by
 unfold XP;split;rename_i cs;obtain⟨l⟩:=cs;refine .agg l _ (by simp) λi b=> ?_
 simp only[JO]at b;rw[getD_lt (by simpa using b),getD_lt (by simpa using b)];simp only[JD];exact Zdu S _;rename_i cs;split;rename_i h;obtain⟨l⟩:=cs;have:l= []:=by simpa using h
 subst this;exact .tup [] [] rfl (λi b=>by simp at b);exact .any _;exact Zdu S _
def Zdc (v:Value):(T2 v).ids= []:=by unfold T2;split<;>rfl
theorem Zih (l:List Value):PV.idsL (l.map T2)= []:=by
 induction l with
 |nil=>rfl
 |cons v l ih=>simp[PV.idsL,Zdc,ih]
def W7 (v:Value):(XP v).ids= []:=by
 unfold XP;split;simp[PV.ids,Zih];split<;>rfl
 exact Zdc _
def St.eval (s:St):Operand->PV
 | .tmp t=>s.fr t
 | .const v=>XP v
 | .global _=> .any
 | .func f=> .fn f []
section
variable {B:Frm} {S:Stable} {M:Maps} {s:St} {a:Act} {w:World}
def Sim.eval (c:Sim B S M s a w) (x:Operand):RepS S M s.m.q (a.eval x) (s.eval x):=by
 rcases x with t|v|g|f;exact c.fr t;exact .clean (Ve S v);exact .clean (.any _);exact .clean (.fn f [] [] rfl (λi b=>by simp at b))
def Sim.eval_ids (c:Sim B S M s a w) (x:Operand):∀i∈(s.eval x).ids,ZI s.m i:=by
 rcases x with t|v|g|f;exact c.ids t;intro i b;simp[St.eval,W7]at b;intro i b;simp[St.eval,PV.ids]at b;intro i b;simp[St.eval,PV.ids,PV.idsL]at b
end
structure ARes where
 ok:Prop
 v:PV
 m:Hp
def ARes.fail:ARes:=⟨False,.any,Hp.empty⟩
def Vb (b:Bool) (sz:Nat) (cs:List PV) (off:Nat):PV:=if b then .agg ((cs.drop off).take sz)else cs.getD off .any
def GS (P:Program) (t:TypeId) (x:PV) (f:Nat) (m:Hp):ARes:=
 match Wy P t f,x with
 |some (o,sz,ag),.agg cs=>⟨o+sz<=cs.length/\(ag=Hf->sz=1),Vb ag sz cs o,m⟩
 |_,_=> .fail
def YH (P:Program) (t:TypeId) (x:PV) (f:Nat) (m:Hp):ARes:=
 match Wy P t f,x with
 |some (o,sz,_),.ptr id off=>⟨sz≠0,.ptr id (off+o),m⟩
 |some (o,sz,_),.rptr cs=>⟨sz≠0,.rptr (cs.drop o),m⟩
 |some (o,sz,_),.vptr id n z i off=>⟨sz≠0,.vptr id n z i (off+o),m⟩
 |_,_=> .fail
def GT (P:Program) (t:TypeId) (x i:PV) (m:Hp):ARes:=
 match tix P t,x,i with
 | .arr n esz ea,.agg cs,.int _ k=>⟨0<=k/\k<n/\(k.toNat+1)*esz<=cs.length/\(ea=Hf->esz=1),Vb ea esz cs (k.toNat*esz),m⟩
 | .str,.str l,.int _ k=>⟨0<=k/\k<l.length,.int .u8 (l.getD k.toNat 0).toNat,m⟩
 |_,_,_=> .fail
def YI (P:Program) (t:TypeId) (x i:PV) (m:Hp):ARes:=
 match tix P t,x,i with
 | .slc esz _,.sl _ es,.int _ k=>⟨0<=k/\k<es.length/\(es.getD k.toNat .any).cells.length=esz,.rptr (es.getD k.toNat .any).cells,m⟩
 | .slc esz _,.osl id off len sz,.int _ k=>⟨0<=k/\k<len/\esz=sz,.ptr id (off+k.toNat*sz),m⟩
 | .arr n esz _,.ptr id off,.int _ k=>⟨0<=k/\k<n,.ptr id (off+k.toNat*esz),m⟩
 | .arr n esz _,.rptr cs,.int _ k=>⟨0<=k/\k<n,.rptr (cs.drop (k.toNat*esz)),m⟩
 | .slc esz _,.vsl id n sz,.int _ k=>⟨0<=k/\k<n/\esz=sz,.vptr id n sz k.toNat 0,m⟩
 | .arr n esz _,.vptr id n' z i off,.int _ k=>⟨0<=k/\k<n,.vptr id n' z i (off+k.toNat*esz),m⟩
 |_,_,_=> .fail
def VO (P:Program) (t:TypeId) (x:PV) (m:Hp):ARes:=
 match x with
 | .rptr cs=>⟨tsz P t<=cs.length/\(Yp P t=Hf->tsz P t=1),Vb (Yp P t) (tsz P t) cs 0,m⟩
 | .ptr id off=>match m.h id with
  |some cs=>⟨off+tsz P t<=cs.length/\(Yp P t=Hf->tsz P t=1),Vb (Yp P t) (tsz P t) cs off,m⟩
  |none=> .fail
 | .vptr id n _ i off=>match m.v id with
  |some es=>⟨es.length=n/\off+tsz P t<=(es.getD i .any).cells.length/\(Yp P t=Hf->tsz P t=1),Vb (Yp P t) (tsz P t) (es.getD i .any).cells off,m⟩
  |_=> .fail
 |_=> .fail
def YT (cs:List PV) (off:Nat) (ns:List PV):List PV:=cs.take off++ns++cs.drop (off+ns.length)
def ZbA (x:PV) (off:Nat) (v:PV):PV:=if off=0/\v.cells.length=x.cells.length then v else .agg (YT x.cells off v.cells)
def W0 (P:Program) (t:TypeId) (x v:PV) (m:Hp):ARes:=
 match x with
 | .ptr id off=>match m.h id with
  |some cs=>⟨m.z id=Hf/\v.known=Ht/\v.cells.length=tsz P t/\off+tsz P t<=cs.length/\v.cells.all PV.atom=Ht,.tup [],{ m with h:=upd m.h id (Hs (YT cs off v.cells)) }⟩
  |none=> .fail
 | .vptr id n sz i off=>match m.v id with
  |some es=>⟨es.length=n/\v.known=Ht/\v.cells.length=tsz P t/\off+tsz P t<=sz/\v.cells.all PV.atom=Ht,.tup [],{ m with v:=upd m.v id (Hs (es.set i (ZbA (es.getD i .any) off v))) }⟩
  |_=> .fail
 |_=> .fail
open Go.RowKit
section
variable {P:Program} {B:Frm} {S:Stable} {M:Maps} {s:St} {a:Act} {w:World}
def Snd (P:Program) (B:Frm) (S:Stable) (s:St) (a:Act) (w:World) (m:Sem Value) (r:ARes):Prop:=
 ∃v w' S' b,m.run P w= .ok v w'/\Sim B S' b (s.with r.m) a w'/\RepS S' b r.m.q v r.v/\(∀i∈r.v.ids,ZI r.m i)/\Ext B S S' w w'
def Snd.pure (e:Sim B S M s a w) {m:Sem Value} {ok:Prop} {p:PV} {v:Value} (c:m.run P w= .ok v w) (d:RepS S M s.m.q v p) (b:∀i∈p.ids,ZI s.m i):
  Snd P B S s a w m ⟨ok,p,s.m⟩:=⟨v,w,S,M,c,e,d,b,Ext.refl _ _ _⟩
def ZH {t:TypeId} {d:TypeDesc} (h:P.underlying t=Hs d) (w:World):(underlying t).run P w= .ok d w:=run_underlying h w
def GF {t:TypeId} {i:TypeInfo} (h:P.info? t=Hs i) (w:World):(typeInfo t).run P w= .ok i w:=by
 simp[typeInfo,program,KA,h]
def YA {t:TypeId} {i:TypeInfo} (h:P.info? t=Hs i) (w:World):(sizeOf t).run P w= .ok (tsz P t) w:=by
 simp[sizeOf,GF h,tsz,Program.cellsOf,h]
theorem Xv {t:TypeId} {d:TypeDesc} (h:P.underlying t=Hs d):∃i,P.info? t=Hs i:=by
 unfold Program.underlying at h;cases e:P.info? t with
 |none=>rw[e]at h;simp at h
 |some i=>exact⟨i,rfl⟩
def V2 {t:TypeId} {d:TypeDesc} (h:P.underlying t=Hs d) (w:World):(isAgg t).run P w= .ok (Yp P t) w:=by
 unfold isAgg Yp;simp only[Ji,ZH h,Jb,h];cases d<;>rfl
theorem RepS.agg_inv {v:Value} {cs:List PV} {q:Rows} (r:RepS S M q v (.agg cs)):∃vs:List Value,v= .agg ⟨vs⟩/\vs.length=cs.length/\ ∀i,i<cs.length->RepS S M q (vs.getD i undef) (cs.getD i .any):=by
 cases r with
 |clean r=>cases r with|agg vs cs hl h=>exact⟨vs,rfl,hl,λi b=> .clean (h i b)⟩
 |agg vs cs hl h=>exact⟨vs,rfl,hl,h⟩
theorem RepS.tup_inv {v:Value} {cs:List PV} {q:Rows} (r:RepS S M q v (.tup cs)):∃vs:List Value,v= .tuple ⟨vs⟩/\vs.length=cs.length/\ ∀i,i<cs.length->RepS S M q (vs.getD i undef) (cs.getD i .any):=by
 cases r with
 |clean r=>cases r with|tup vs cs hl h=>exact⟨vs,rfl,hl,λi b=> .clean (h i b)⟩
 |tup vs cs hl h=>exact⟨vs,rfl,hl,h⟩
theorem RepS.fn_inv {v:Value} {f:FuncId} {cs:List PV} {q:Rows} (r:RepS S M q v (.fn f cs)):∃vs:List Value,v= .func (.func f) #[] ⟨vs⟩/\vs.length=cs.length/\ ∀i,i<cs.length->RepS S M q (vs.getD i undef) (cs.getD i .any):=by
 cases r with
 |clean r=>cases r with|fn f vs cs hl h=>exact⟨vs,rfl,hl,λi b=> .clean (h i b)⟩
 |fn f vs cs hl h=>exact⟨vs,rfl,hl,h⟩
def RepS.int_inv {v:Value} {k:IntKind} {n:Int} {q:Rows} (r:RepS S M q v (.int k n)):v= .int k n:=by
 cases r with|clean r=>cases r;rfl
def RepS.flt_inv {v:Value} {k:FloatKind} {b:Nat} {q:Rows} (r:RepS S M q v (.flt k b)):v= .float k b:=by
 cases r with|clean r=>cases r;rfl
def RepS.cpx_inv {v:Value} {k:FloatKind} {x y:Nat} {q:Rows} (r:RepS S M q v (.cpx k x y)):v= .complex k x y:=by
 cases r with|clean r=>cases r;rfl
def RepS.bool_inv {v:Value} {b:Bool} {q:Rows} (r:RepS S M q v (.bool b)):v= .bool b:=by
 cases r with|clean r=>cases r;rfl
def RepS.str_inv {v:Value} {l:List UInt8} {q:Rows} (r:RepS S M q v (.str l)):v= .string ⟨⟨l⟩⟩:=by
 cases r with|clean r=>cases r;rfl
theorem RepS.ptr_inv {v:Value} {id off:Nat} {q:Rows} (r:RepS S M q v (.ptr id off)):v= .pointer (Hs ⟨M.φ id,off,Hn⟩):=by
 cases r with
 |clean r=>cases r
 |ptr=>rfl
def RepS.rptr_inv {v:Value} {cs:List PV} {q:Rows} (r:RepS S M q v (.rptr cs)):∃b o,∃vals:Nat->Value,v= .pointer (Hs ⟨b,o,Hn⟩)/\(∀j,j<cs.length->S b (o+j)=Hs (vals j))/\ ∀j,j<cs.length->Rep S (vals j) (cs.getD j .any):=by
 cases r with|clean r=>cases r with|rptr b o cs vals hS hR=>exact⟨b,o,vals,rfl,hS,hR⟩
theorem RepS.osl_inv {v:Value} {id off len sz:Nat} {q:Rows} (r:RepS S M q v (.osl id off len sz)):∃cap,len<=cap/\v= .slice (Hs ⟨M.φ id,off,Hn⟩) len cap:=by
 cases r with
 |clean r=>cases r
 |osl _ _ _ cap _ hc=>exact⟨cap,hc,rfl⟩
theorem RepS.sl_inv {v:Value} {t:Tok} {es:List PV} {q:Rows} (r:RepS S M q v (.sl t es)):Rep S v (.sl .no es):=by
 cases r with
 |clean r=>
  cases r with
  |sl0 a cap=>exact .sl0 a cap
  |slnil=>exact .sl0 Hn 0
  |sl b o cap sz es vals h1 h2 h3 h4=>exact .sl b o cap sz es vals h1 h2 h3 h4
  |slf v es r hz=>exact r
 |row id v es r _=>exact r
theorem RepS.row_tok {v:Value} {id:Nat} {es:List PV} {q:Rows} (r:RepS S M q v (.sl (.row id) es)):∀n sz e,q id=Hs (.live n sz e)->es.length<=n/\(es.length=n->(M.κ id=0->v= .slice Hn 0 0)/\(∀c,M.κ id=c+1->v= .slice (Hs ⟨M.ψ id,0,Hn⟩) n c)):=by
 cases r with
 |clean r=>cases r
 |row _ _ _ _ t=>exact t
theorem RepS.vsl_inv {v:Value} {id len sz:Nat} {q:Rows} (r:RepS S M q v (.vsl id len sz)):(∃a cap,v= .slice a len cap/\len<=cap/\(0<len-> ∃b o,a=Hs ⟨b,o,Hn⟩))/\
  ∀n d e,q id=Hs (.vec n d e)->len<=n/\(len=n->d=sz/\(M.κ id=0->v= .slice Hn 0 0)/\(∀c,M.κ id=c+1->v= .slice (Hs ⟨M.ψ id,0,Hn⟩) len c)):=by
 cases r with
 |clean r=>cases r
 |vsl _ _ _ _ hv t=>exact⟨hv,t⟩
theorem RepS.vptr_inv {v:Value} {id n sz i off:Nat} {q:Rows} (r:RepS S M q v (.vptr id n sz i off)):(∃b o,v= .pointer (Hs ⟨b,o,Hn⟩))/\i<n/\
  ∀n' c e,q id=Hs (.vec n' c e)->n<=n'/\(n=n'->c=sz/\v= .pointer (Hs ⟨M.ψ id,i*sz+off,Hn⟩)):=by
 cases r with
 |clean r=>cases r
 |vptr _ _ _ _ _ _ hv hi t=>exact⟨hv,hi,t⟩
theorem Rep.sl_len {v:Value} {es:List PV} (r:Rep S v (.sl .no es)):∃a cap,v= .slice a es.length cap/\es.length<=cap:=by
 cases r with
 |sl0 a cap=>exact⟨a,cap,rfl,Kv _⟩
 |sl b o cap sz es vals h1 h2 h3 h4=>exact⟨_,cap,rfl,h2⟩
theorem Rep.sl_at {v:Value} {es:List PV} (r:Rep S v (.sl .no es)) {i:Nat} (c:i<es.length):∃b o cap,∃vals:Nat->Nat->Value,v= .slice (Hs ⟨b,o,Hn⟩) es.length cap/\es.length<=cap/\
  (∀k,k<es.length->(es.getD k .any).cells.length=(es.getD i .any).cells.length)/\(∀k j,k<es.length->j<(es.getD i .any).cells.length->S b (o+k*(es.getD i .any).cells.length+j)=Hs (vals k j))/\
  ∀k j,k<es.length->j<(es.getD i .any).cells.length->Rep S (vals k j) ((es.getD k .any).cells.getD j .any):=by
 cases r with
 |sl0 a cap=>simp at c
 |sl b o cap sz es vals h1 h2 h3 h4=>
  have e:=h1 i c;exact⟨b,o,cap,vals,rfl,h2,λk d=>(h1 k d).trans e.symm,by rw[e];exact h3,by rw[e];exact h4⟩
theorem RepS.cells_inv {v:Value} {p:PV} {q:Rows} (r:RepS S M q v p) (m:p.known=Ht):∃vs:List Value,v.cells=⟨vs⟩/\vs.length=p.cells.length/\ ∀i,i<p.cells.length->RepS S M q (vs.getD i undef) (p.cells.getD i .any):=by
 have one:v.cells= #[v]->p.cells= [p]-> ∃vs:List Value,v.cells=⟨vs⟩/\vs.length=p.cells.length/\ ∀i,i<p.cells.length->RepS S M q (vs.getD i undef) (p.cells.getD i .any):=by
  intro g d;refine⟨[v],g,by rw[d];rfl,λi c=> ?_⟩;rw[d]at c ⊢;simp only[JI,Ko]at c;have:i=0:=by omega
  subst this;exact r
 cases p with
 |any=>simp[PV.known]at m
 |agg cs=>obtain⟨vs,rfl,j,u⟩:=r.agg_inv;exact⟨vs,rfl,j,u⟩
 |tup cs=>obtain⟨vs,rfl,_,_⟩:=r.tup_inv;exact one rfl rfl
 |fn f cs=>obtain⟨vs,rfl,_,_⟩:=r.fn_inv;exact one rfl rfl
 |int k n=>rw[r.int_inv]at one ⊢;exact one rfl rfl
 |bool b=>rw[r.bool_inv]at one ⊢;exact one rfl rfl
 |str l=>rw[r.str_inv]at one ⊢;exact one rfl rfl
 |flt k b=>have e:v= .float k b:=by cases r with|clean r=>cases r;rfl
           subst e;exact one rfl rfl
 |cpx k x y=>have e:v= .complex k x y:=by cases r with|clean r=>cases r;rfl
             subst e;exact one rfl rfl
 |ptr id off=>rw[r.ptr_inv]at one ⊢;exact one rfl rfl
 |rptr cs=>obtain⟨b,o,vals,e,_⟩:=r.rptr_inv;subst e;exact one rfl rfl
 |osl id off len sz=>obtain⟨cap,_,e⟩:=r.osl_inv;subst e;exact one rfl rfl
 |sl t es=>obtain⟨x,cap,e,_⟩:=r.sl_inv.sl_len;subst e;exact one rfl rfl
 |nilp=>have e:v= .pointer none:=by cases r with|clean r=>cases r;rfl
        subst e;exact one rfl rfl
 |nilfn=>have e:v= .nilFunc:=by cases r with|clean r=>cases r;rfl
         subst e;exact one rfl rfl
 |nilmap=>have e:v= .map none:=by cases r with|clean r=>cases r;rfl
          subst e;exact one rfl rfl
 |mref b=>have e:v= .map (Hs b):=by cases r with|clean r=>cases r;rfl
          subst e;exact one rfl rfl
 |rmap ks vs=>have e:∃b,v= .map (Hs b):=by cases r with|clean r=>cases r;exact⟨_,rfl⟩
              obtain⟨b,e⟩:=e;subst e;exact one rfl rfl
 |iptr b=>have e:v= .pointer (Hs ⟨b,0,Hn⟩):=by cases r with|clean r=>cases r;rfl
          subst e;exact one rfl rfl
 |vsl id len sz=>obtain⟨⟨x,n,e,_⟩,_⟩:=r.vsl_inv;subst e;exact one rfl rfl
 |vptr id n sz i off=>obtain⟨⟨x,o,e⟩,_⟩:=r.vptr_inv;subst e;exact one rfl rfl
theorem RepS.atom_inv {v:Value} {p:PV} {q:Rows} (r:RepS S M q v p) (c:p.atom=Ht):v.oneCell'=true:=by
 cases p with
 |any=>simp[PV.atom]at c
 |agg cs=>simp[PV.atom]at c
 |tup cs=>simp[PV.atom]at c
 |fn f cs=>obtain⟨vs,rfl,_,_⟩:=r.fn_inv;rfl
 |int k n=>rw[r.int_inv];rfl
 |bool b=>rw[r.bool_inv];rfl
 |str l=>rw[r.str_inv];rfl
 |flt k b=>have e:v= .float k b:=by cases r with|clean r=>cases r;rfl
           subst e;rfl
 |cpx k x y=>have e:v= .complex k x y:=by cases r with|clean r=>cases r;rfl
             subst e;rfl
 |ptr id off=>rw[r.ptr_inv];rfl
 |rptr cs=>obtain⟨b,o,vals,e,_⟩:=r.rptr_inv;subst e;rfl
 |osl id off len sz=>obtain⟨cap,_,e⟩:=r.osl_inv;subst e;rfl
 |sl t es=>obtain⟨x,cap,e,_⟩:=r.sl_inv.sl_len;subst e;rfl
 |nilp=>have e:v= .pointer none:=by cases r with|clean r=>cases r;rfl
        subst e;rfl
 |nilfn=>have e:v= .nilFunc:=by cases r with|clean r=>cases r;rfl
         subst e;rfl
 |nilmap=>have e:v= .map none:=by cases r with|clean r=>cases r;rfl
          subst e;rfl
 |mref b=>have e:v= .map (Hs b):=by cases r with|clean r=>cases r;rfl
          subst e;rfl
 |rmap ks vs=>have e:∃b,v= .map (Hs b):=by cases r with|clean r=>cases r;exact⟨_,rfl⟩
              obtain⟨b,e⟩:=e;subst e;rfl
 |iptr b=>have e:v= .pointer (Hs ⟨b,0,Hn⟩):=by cases r with|clean r=>cases r;rfl
          subst e;rfl
 |vsl id len sz=>obtain⟨⟨x,n,e,_⟩,_⟩:=r.vsl_inv;subst e;rfl
 |vptr id n sz i off=>obtain⟨⟨x,o,e⟩,_⟩:=r.vptr_inv;subst e;rfl
end
open Go.RowKit
section
variable {P:Program} {B:Frm} {S:Stable} {M:Maps} {s:St} {a:Act} {w:World}
def ZjJ {l l':List PV} (h:∀c∈l,c∈l') {i:Ref} (d:i∈PV.idsL l):i∈PV.idsL l':=by
 rw[PV.mem_idsL]at d ⊢;obtain⟨c,e,b⟩:=d;exact⟨c,h c e,b⟩
theorem Zkb {e:TypeId} {d:TypeDesc} {i:TypeInfo} {qq:Rows} (l:P.underlying e=Hs d) (r:P.info? e=Hs i) {vs:List Value} {cs:List PV} (q:vs.length=cs.length)
  (n:∀j,j<cs.length->RepS S M qq (vs.getD j undef) (cs.getD j .any)) {off:Nat} (m:off+tsz P e<=cs.length) (o:Yp P e=Hf->tsz P e=1) (w:World):
  ∃v,(part e ⟨vs⟩ off).run P w= .ok v w/\RepS S M qq v (Vb (Yp P e) (tsz P e) cs off)/\ ∀k∈(Vb (Yp P e) (tsz P e) cs off).ids,k∈PV.idsL cs:=by
 unfold part Vb;cases g:Yp P e with
 |true=>
  refine⟨.agg ⟨(vs.drop off).take (tsz P e)⟩,?_,?_,?_⟩
  ·simp only[Ji,V2 l,Jb,g,if_true,YA r,Jp];simp
  ·refine .agg _ _ (by simp;omega) λj t=> ?_
   simp only[Jk,Jl]at t;have:=n (off+j) (by omega);rw[getD_lt (by simp;omega),getD_lt (by simp;omega)];rw[getD_lt (by omega),getD_lt (by omega)]at this;simpa using this
  ·intro k f;simp only[if_true,PV.ids]at f;exact ZjJ (λc p=>JF (JG p)) f
 |false=>
  have u:=o g;have b:off<cs.length:=by omega
  refine⟨vs.getD off undef,?_,?_,?_⟩
  ·simp only[Ji,V2 l,Jb,g,Jo,if_false];rw[getD_lt (by omega)];simp[q,b]
  ·simpa using n off b
  ·intro k f;simp only[Jo,if_false]at f;rw[PV.mem_idsL];exact⟨_,Zc b,f⟩
theorem Dy {t:TypeId} {f o sz:Nat} {j:Bool} (h:Wy P t f=Hs (o,sz,j)):∃fs b,P.underlying t=Hs (.struct fs)/\fs[f]? = Hs b/\b.offset=o/\tsz P b.type=sz/\Yp P b.type=j/\(∃d,P.underlying b.type=Hs d)/\ ∃i,P.info? b.type=Hs i:=by
 unfold Wy at h;cases e:P.underlying t with
 |none=>rw[e]at h;simp at h
 |some d=>
  rw[e]at h;cases d<;>simp only[reduceCtorEq]at h
  rename_i fs;cases g:fs[f]? with
  |none=>rw[g]at h;simp at h
  |some b=>
   rw[g]at h;simp only at h;cases c:P.underlying b.type with
   |none=>rw[c]at h;simp at h
   |some i=>
    rw[c]at h;simp only[Jn.injEq,Prod.mk.injEq]at h;exact⟨fs,b,rfl,g,h.1,h.2.1,h.2.2,⟨i,c⟩,Xv c⟩
def ZiP (n:Sim B S M s a w) {t:TypeId} {x:Value} {p:PV} {f:Nat} (r:RepS S M s.m.q x p) (j:∀i∈p.ids,ZI s.m i)
  (b:(GS P t p f s.m).ok):Snd P B S s a w (Qi t x f) (GS P t p f s.m):=by
 revert b;unfold GS;split;rename_i o sz C cs g;obtain⟨fs,A,m,l,rfl,rfl,rfl,⟨d,hd⟩,i,q⟩:=Dy g;intro b;obtain⟨vs,rfl,u,z⟩:=r.agg_inv;obtain⟨v,hv,e,c⟩:=Zkb hd q u z b.1 b.2 w;refine Snd.pure n (v:=v) ?_ e (λk y=>j k (by simpa[PV.ids]using c k y));simp[Qi,ZH m,l,asAgg,hv];intro b;exact b.elim
def ZbN (A:Sim B S M s a w) {t:TypeId} {x:Value} {p:PV} {f:Nat} (G:RepS S M s.m.q x p) (q:∀i∈p.ids,ZI s.m i)
  (c:(YH P t p f s.m).ok):Snd P B S s a w (Kg t x f) (YH P t p f s.m):=by
 revert c;unfold YH;have k:∀b o n:Nat,(⟨b,o,Hn⟩:Addr).add n=⟨b,o+n,Hn⟩:=λb o n=>by
  unfold Addr.add;split<;>simp_all
 split;rename_i o sz I id off g;obtain⟨fs,l,r,m,rfl,rfl,rfl,⟨d,hd⟩,i,u⟩:=Dy g;intro c;rw[G.ptr_inv];refine Snd.pure A (v:= .pointer (Hs ⟨M.φ id,off+l.offset,Hn⟩)) ?_ (.ptr _ _) q;simp only[Kg,Ji,ZH r,Jb,m,Jv,Jp,fieldPlace,YA u];simp only at c;simp[c,k];rename_i o sz I cs g;obtain⟨fs,l,r,m,rfl,rfl,rfl,⟨d,hd⟩,i,u⟩:=Dy g;intro c;obtain⟨b,o,vals,rfl,T,R⟩:=G.rptr_inv;refine Snd.pure A (v:= .pointer (Hs ⟨b,o+l.offset,Hn⟩)) ?_ (.clean (.rptr b (o+l.offset) _ (λj=>vals (l.offset+j)) (λj D=> ?_) (λj D=> ?_))) (by simp[PV.ids]);simp only[Kg,Ji,ZH r,Jb,m,Jv,Jp,fieldPlace,YA u];simp only at c;simp[c,k];simp only[Jl]at D;rw[JW];exact T _ (by omega);simp only[Jl]at D;have:=R (l.offset+j) (by omega);rw[getD_lt (by simp;omega)];rw[getD_lt (by omega)]at this;simpa using this;rename_i o sz I id n z i off g;obtain⟨fs,l,r,m,rfl,rfl,rfl,⟨d,hd⟩,U,u⟩:=Dy g;intro c;obtain⟨⟨b,o,hv⟩,E,N⟩:=G.vptr_inv;refine Snd.pure A (v:= .pointer (Hs ⟨b,o+l.offset,Hn⟩)) ?_ (.vptr _ _ _ _ _ _ ⟨_,_,rfl⟩ E λQ C O F=> ?_) q;simp only[hv,Kg,Ji,ZH r,Jb,m,Jv,Jp,fieldPlace,YA u];simp only at c;simp[c,k];obtain⟨L,J⟩:=N Q C O F;refine⟨L,λe=> ?_⟩;obtain⟨K,y⟩:=J e;rw[hv]at y;simp only[Value.pointer.injEq,Jn.injEq,Addr.mk.injEq]at y;exact⟨K,by rw[y.1,y.2.1,JW]⟩;intro c;exact c.elim
end
open Go.RowKit
section
variable {P:Program} {B:Frm} {S:Stable} {M:Maps} {s:St} {a:Act} {w:World}
def Z7 (b o n:Nat):(⟨b,o,Hn⟩:Addr).add n=⟨b,o+n,Hn⟩:=by unfold Addr.add;split<;>simp_all
def ZbT {t:TypeId} {n b:Nat} {f:Bool} (h:tix P t= .arr n b f):∃e d i,P.underlying t=Hs (.array n e)/\tsz P e=b/\Yp P e=f/\P.underlying e=Hs d/\P.info? e=Hs i:=by
 unfold tix at h;split at h;rename_i m e c;split at h;rename_i d hd;cases h;obtain⟨i,g⟩:=Xv hd;exact⟨e,d,i,c,rfl,rfl,hd,g⟩;cases h;split at h<;>cases h
 cases h;cases h
def Sd {t:TypeId} {b:Nat} {f:Bool} (h:tix P t= .slc b f):∃e d i,P.underlying t=Hs (.slice e)/\tsz P e=b/\Yp P e=f/\P.underlying e=Hs d/\P.info? e=Hs i:=by
 unfold tix at h;split at h;split at h<;>cases h
 rename_i e c;split at h;rename_i d hd;cases h;obtain⟨i,g⟩:=Xv hd;exact⟨e,d,i,c,rfl,rfl,hd,g⟩;cases h;cases h;cases h
def ZeV {t:TypeId} (h:tix P t= .str):P.underlying t=Hs .string:=by
 unfold tix at h;split at h;split at h<;>cases h
 split at h<;>cases h
 assumption;cases h
def ZiQ (y:Sim B S M s a w) {t:TypeId} {x i:Value} {p q:PV} (A:RepS S M s.m.q x p) (j:∀i∈p.ids,ZI s.m i) (E:RepS S M s.m.q i q)
  (b:(GT P t p q s.m).ok):Snd P B S s a w (KW t x i) (GT P t p q s.m):=by
 revert b;unfold GT;split;rename_i n I R cs L k c;obtain⟨e,d,Q,u,rfl,rfl,F,z⟩:=ZbT c;intro b;obtain⟨o,D,C,O⟩:=b;rw[E.int_inv];obtain⟨vs,rfl,N,K⟩:=A.agg_inv;have G:k.toNat*tsz P e+tsz P e<=cs.length:=by rw[Jg,Jw]at C;exact C
 obtain⟨v,hv,m,g⟩:=Zkb F z N K G O w;refine Snd.pure y (v:=v) ?_ m (λk J=>j k (by simpa[PV.ids]using g k J));simp[KW,asIntOf,ZH u,YA z,o,D,hv];rename_i l L k c;have u:=ZeV c;intro b;obtain⟨o,D⟩:=b;rw[E.int_inv,A.str_inv];refine Snd.pure y (v:= .int .u8 (l.getD k.toNat 0).toNat) ?_ (.clean (.int _ _)) (by simp[PV.ids]);have f:k.toNat<l.length:=by omega
 simp only[KW,asIntOf,Ji,Jp,Jb,ZH u,o,if_true];have:(⟨⟨l⟩⟩:ByteArray)[k.toNat]? = Hs (l.getD k.toNat 0):=by
  rw[getD_lt f];have r:k.toNat<(⟨⟨l⟩⟩:ByteArray).size:=by simpa[ByteArray.size]using f
  rw[getElem?_pos (⟨⟨l⟩⟩:ByteArray) k.toNat r];rfl
 rw[this];simp;intro b;exact b.elim
theorem ZbO (C:Sim B S M s a w) {t:TypeId} {x i:Value} {p q:PV} (I:RepS S M s.m.q x p) (y:∀i∈p.ids,ZI s.m i) (J:RepS S M s.m.q i q)
  (E:(YI P t p q s.m).ok):Snd P B S s a w (JP t x i) (YI P t p q s.m):=by
 revert E;unfold YI;split;rename_i g Q tk es R k f;obtain⟨e,d,N,m,rfl,rfl,K,r⟩:=Sd f;rintro ⟨l,u,g3⟩;have F:k.toNat<es.length:=by omega
 rw[J.int_inv];obtain⟨b,o,cap,vals,rfl,xa,hu,U,T⟩:=I.sl_inv.sl_at F;rw[g3]at U T hu;refine Snd.pure C (v:= .pointer (Hs ⟨b,o+k.toNat*tsz P e,Hn⟩)) ?_ (.clean (.rptr b _ _ (λj=>vals k.toNat j) (λj L=> ?_) (λj L=> ?_))) (by simp[PV.ids]);simp[JP,asIntOf,ZH m,YA r,l,u,Z7];exact U _ _ F (by omega);exact T _ _ F (by omega);rename_i g Q id off len sz R k f;obtain⟨e,d,N,m,rfl,rfl,K,r⟩:=Sd f;rintro ⟨l,u,g3⟩;rw[J.int_inv];obtain⟨cap,hc,rfl⟩:=I.osl_inv;refine Snd.pure C (v:= .pointer (Hs ⟨M.φ id,off+k.toNat*sz,Hn⟩)) ?_ (.ptr _ _) (by simpa[PV.ids]using y);simp[JP,asIntOf,ZH m,YA r,l,u,Z7,g3];rename_i n g Q id off R k f;obtain⟨e,d,N,m,rfl,rfl,K,r⟩:=ZbT f;rintro ⟨l,u⟩;rw[J.int_inv,I.ptr_inv];refine Snd.pure C (v:= .pointer (Hs ⟨M.φ id,off+k.toNat*tsz P e,Hn⟩)) ?_ (.ptr _ _) (by simpa[PV.ids]using y);simp[JP,asIntOf,ZH m,YA r,l,u,Z7,Jv];rename_i n g Q cs R k f;obtain⟨e,d,N,m,rfl,rfl,K,r⟩:=ZbT f;rintro ⟨l,u⟩;obtain⟨b,o,vals,rfl,U,T⟩:=I.rptr_inv;rw[J.int_inv];refine Snd.pure C (v:= .pointer (Hs ⟨b,o+k.toNat*tsz P e,Hn⟩)) ?_ (.clean (.rptr b _ _ (λj=>vals (k.toNat*tsz P e+j)) (λj L=> ?_) (λj L=> ?_))) (by simp[PV.ids]);simp[JP,asIntOf,ZH m,YA r,l,u,Z7,Jv];simp only[Jl]at L;rw[JW];exact U _ (by omega);simp only[Jl]at L;have:=T (k.toNat*tsz P e+j) (by omega);rw[getD_lt (by simp;omega)];rw[getD_lt (by omega)]at this;simpa using this;rename_i g Q id n sz R k f;obtain⟨e,d,N,m,rfl,rfl,K,r⟩:=Sd f;rintro ⟨l,u,g4⟩;rw[J.int_inv];obtain⟨⟨av,cap,hv,_,ha⟩,Y⟩:=I.vsl_inv;obtain⟨b,o,rfl⟩:=ha (by omega);refine Snd.pure C (v:= .pointer (Hs ⟨b,o+k.toNat*sz,Hn⟩)) ?_ (.vptr _ _ _ _ _ _ ⟨_,_,rfl⟩ (by omega) λn1 D e1 A=> ?_) (by simpa[PV.ids]using y);simp[hv,JP,asIntOf,ZH m,YA r,l,u,Z7,g4];obtain⟨X,V⟩:=Y n1 D e1 A;refine⟨X,λe=> ?_⟩;obtain⟨W,O,k5⟩:=V e;refine⟨W,?_⟩;obtain⟨r3,_⟩:=C.row id _ A;cases hκ:M.κ id with
 |zero=>have:=r3 hκ;omega
 |succ c=>
  have G:=k5 c hκ;rw[hv]at G;simp only[Value.slice.injEq,Jn.injEq,Addr.mk.injEq]at G;obtain⟨⟨rfl,rfl,_⟩,_⟩:=G;simp
 rename_i n g Q id n' z i' off R k f;obtain⟨e,d,N,m,rfl,rfl,K,r⟩:=ZbT f;rintro ⟨l,u⟩;obtain⟨⟨b,o,hv⟩,Z,Y⟩:=I.vptr_inv;rw[J.int_inv];refine Snd.pure C (v:= .pointer (Hs ⟨b,o+k.toNat*tsz P e,Hn⟩)) ?_ (.vptr _ _ _ _ _ _ ⟨_,_,rfl⟩ Z λn1 D e1 A=> ?_) (by simpa[PV.ids]using y);simp[hv,JP,asIntOf,ZH m,YA r,l,u,Z7,Jv];obtain⟨X,V⟩:=Y n1 D e1 A;refine⟨X,λe=> ?_⟩;obtain⟨W,O⟩:=V e;rw[hv]at O;simp only[Value.pointer.injEq,Jn.injEq,Addr.mk.injEq]at O;exact⟨W,by rw[O.1,O.2.1,JW]⟩;intro E;exact E.elim
theorem GG {t:TypeId} {d:TypeDesc} {i:TypeInfo} (m:P.underlying t=Hs d) (u:P.info? t=Hs i) {b o:Nat} {vals:Nat->Value} {qq:Rows} {M:Maps} {cs:List PV} {off:Nat}
  (f:∀j,j<cs.length->w.cell? ⟨b,o+j,Hn⟩=Hs (vals j)) (p:∀j,j<cs.length->RepS S M qq (vals j) (cs.getD j .any))
  (n:off+tsz P t<=cs.length) (q:Yp P t=Hf->tsz P t=1):
  ∃v,(loadVar t ⟨b,o+off,Hn⟩).run P w= .ok v w/\RepS S M qq v (Vb (Yp P t) (tsz P t) cs off)/\ ∀k∈(Vb (Yp P t) (tsz P t) cs off).ids,k∈PV.idsL cs:=by
 unfold loadVar Vb;cases g:Yp P t with
 |true=>
  have r:=run_loadCells (P:=P) (w:=w) (⟨b,o+off,Hn⟩:Addr) (tsz P t) (λj=>vals (off+j)) (λj l=>by
   rw[Z7,JW];exact f _ (by omega))
  refine⟨.agg ⟨(JY (tsz P t)).map λj=>vals (off+j)⟩,?_,?_,?_⟩
  ·simp only[Ji,V2 m,Jb,g,if_true,YA u,r,Jp]
  ·refine .agg _ _ (by simp;omega) λj l=> ?_
   simp only[Jk,Jl]at l;have:=p (off+j) (by omega);rw[getD_lt (by simp;omega),getD_lt (by simp;omega)];rw[getD_lt (by omega)]at this;simpa using this
  ·intro k e;simp only[if_true,PV.ids]at e;exact ZjJ (λc f=>JF (JG f)) e
 |false=>
  have x:=q g;refine⟨vals off,?_,?_,?_⟩
  ·simp only[Ji,V2 m,Jb,g,Jo,if_false];simp[load,KA,f off (by omega)]
  ·simpa using p off (by omega)
  ·intro k e;simp only[Jo,if_false]at e;rw[PV.mem_idsL];exact⟨_,Zc (by omega),e⟩
theorem Rep.clean_ids {S:Stable} {v:Value} {p:PV} (r:Rep S v p):∀k,k∉p.ids:=by
 induction r with
 |agg vs cs hl _ ih=>intro k e;obtain⟨c,g,b⟩:=PV.mem_idsL.1 (by simpa[PV.ids]using e);obtain⟨j,d,rfl⟩:=Jr g;have:=ih j d k;rw[getD_lt d]at this;exact this b
 |tup vs cs hl _ ih=>intro k e;obtain⟨c,g,b⟩:=PV.mem_idsL.1 (by simpa[PV.ids]using e);obtain⟨j,d,rfl⟩:=Jr g;have:=ih j d k;rw[getD_lt d]at this;exact this b
 |fn f vs cs hl _ ih=>intro k e;obtain⟨c,g,b⟩:=PV.mem_idsL.1 (by simpa[PV.ids]using e);obtain⟨j,d,rfl⟩:=Jr g;have:=ih j d k;rw[getD_lt d]at this;exact this b
 |_=>intro k e;simp[PV.ids]at e
theorem ZjV (F:Sim B S M s a w) {t:TypeId} {x:Value} {p:PV} (Q:RepS S M s.m.q x p) (hu:P.underlying t≠Hn)
  (f:(VO P t p s.m).ok):∃v,(J2 t x).run P w= .ok v w/\RepS S M s.m.q v (VO P t p s.m).v/\(∀i∈(VO P t p s.m).v.ids,ZI s.m i)/\(VO P t p s.m).m=s.m:=by
 obtain⟨d,hd⟩:∃d,P.underlying t=Hs d:=by cases e:P.underlying t with|none=>exact absurd e hu|some d=>exact⟨d,rfl⟩
 obtain⟨i,T⟩:=Xv hd;have own:∀ {id off:Nat} {cs:List PV},p= .ptr id off->s.m.h id=Hs cs->off+tsz P t<=cs.length->(Yp P t=Hf->tsz P t=1)->
   ∃v,(J2 t x).run P w= .ok v w/\RepS S M s.m.q v (Vb (Yp P t) (tsz P t) cs off)/\(∀i∈(Vb (Yp P t) (tsz P t) cs off).ids,ZI s.m i)/\s.m=s.m:=by
  intro id off cs hp N J I;subst hp;rw[Q.ptr_inv];have hh:∃vals:Nat->Value,(∀j,j<cs.length->w.cell? ⟨M.φ id,0+j,Hn⟩=Hs (vals j))/\(∀j,j<cs.length->RepS S M s.m.q (vals j) (cs.getD j .any))/\(∀k∈PV.idsL cs,ZI s.m k):=by
   have G:=F.blk id _ N;cases U:s.m.z id with
   |false=>
    rw[U]at G;obtain⟨_,_,⟨vs,ty,h3,h4,h5⟩,h6⟩:=G;refine⟨λj=>vs.getD j undef,λj g=> ?_,h5,λk y=> ?_⟩
    ·rw[JA,Yu h3,Je (by omega)];show Hs _=Hs (vs.getD j undef);rw[getD_lt (by omega)]
    ·obtain⟨c,C,q⟩:=PV.mem_idsL.1 y;exact h6 c C k q
   |true=>
    rw[U]at G;obtain⟨vals,hv⟩:=G;refine⟨vals,λj g=>by rw[JA];exact F.stable _ _ _ (hv j g).1,λj g=> .clean (hv j g).2,λk y=> ?_⟩;obtain⟨c,C,q⟩:=PV.mem_idsL.1 y;obtain⟨j,g,rfl⟩:=Jr C;have:=(hv j g).2;rw[getD_lt g]at this;exact absurd q (this.clean_ids k)
  obtain⟨vals,C,K,y⟩:=hh;obtain⟨v,hv,m,l⟩:=GG hd T C K J I;rw[JA]at hv;refine⟨v,?_,m,λk O=>y k (l k O),rfl⟩;simp[J2,Jv,hv]
 revert f;unfold VO;split;rename_i cs;rintro ⟨J,I⟩;obtain⟨b,o,vals,rfl,hS,W⟩:=Q.rptr_inv;obtain⟨v,hv,m,l⟩:=GG (qq:=s.m.q) (M:=M) (off:=0) hd T (λj g=>F.stable _ _ _ (hS j g)) (λj g=> .clean (W j g)) (by omega) I;refine⟨v,?_,m,λk y=> ?_,rfl⟩;rw[JR]at hv;simp[J2,Jv,hv];have:=l k y;obtain⟨c,C,q⟩:=PV.mem_idsL.1 this;obtain⟨j,g,rfl⟩:=Jr C;have K:=W j g;rw[getD_lt g]at K;exact absurd q (K.clean_ids k);split;rename_i id off cs R;exact λf=>own rfl R f.1 f.2
 exact λf=>f.elim
 rename_i id n z u off;split;rename_i es hq;rintro ⟨J,I,g3⟩;obtain⟨sz,e,X,r1,r2,Y⟩:=F.vc id es hq;obtain⟨_,xa,t2⟩:=Q.vptr_inv;obtain⟨_,t3⟩:=t2 _ sz e X;obtain⟨rfl,t4⟩:=t3 J.symm;rw[t4];obtain⟨o1,o2⟩:=F.row id _ X;have E:u<es.length:=by omega
 have A:=(r1 _ (Zc (d:= .any) E)).1;cases L:M.κ id with
 |zero=>have:=o1 L;omega
 |succ c=>
  obtain⟨k1,k2,k3,⟨vs,V,k6⟩,k4⟩:=o2 c L;have Z:=Y c L vs e (0,0) V;have G:u*sz+sz<=vs.length:=by
   rw[k6]
   calc u*sz+sz=(u+1)*sz:=by rw[Jg,Jw]
    _<=c*sz:=Ja _ (by omega)
  obtain⟨v,hv,m,l⟩:=GG (w:=w) (b:=M.ψ id) (o:=u*sz) (vals:=λj=>vs.getD (u*sz+j) undef) (qq:=s.m.q) (M:=M) (cs:=(es.getD u .any).cells) (off:=off) hd T
   (λj g=>by
    rw[A]at g;rw[Yu V,Je (by omega)];show _=Hs (vs.getD _ undef);rw[getD_lt (by omega)]) (λj g=>Z u j E (by rw[<-A];exact g)) I g3
  refine⟨v,by simp[J2,Jv,hv],m,λk y=> ?_,rfl⟩;obtain⟨x,r,D⟩:=PV.mem_idsL.1 (l k y);refine r2 (es.getD u .any) (Zc E) k ?_
  revert r
  cases es.getD u .any with
  |agg cs=>intro r;exact PV.mem_idsL.2 ⟨_,r,D⟩
  |_=>intro r;rw[Jy.1 r]at D;exact D
 exact λf=>f.elim
 exact λf=>f.elim
def Zl4 (d:Sim B S M s a w) {t:TypeId} {x:Value} {p:PV} (i:RepS S M s.m.q x p) (j:P.underlying t≠Hn)
  (c:(VO P t p s.m).ok):Snd P B S s a w (J2 t x) (VO P t p s.m):=by
 obtain⟨v,f,e,g,b⟩:=ZjV d i j c;exact⟨v,w,S,M,f,by rw[b];exact d,by rw[b];exact e,by rw[b];exact g,Ext.refl _ _ _⟩
end
open Go.RowKit
section
variable {P:Program} {B:Frm} {S:Stable} {M:Maps} {s:St} {a:Act} {w:World}
def VI {w:World} {g:Nat} {c c':Array Value} {t:TypeId} (h:w.heap[g]? = Hs (.cells c t (0,0))):(w.setRow g c').heap[g]? = Hs (.cells c' t (0,0)):=by
 simp[KI,Ks,h]
def VJ {w:World} {g k:Nat} {c':Array Value} (h:k≠g):(w.setRow g c').heap[k]? = w.heap[k]? :=by
 simp[KI,Ks,Jt h]
def V3 (w:World) (g:Nat) (c':Array Value):(w.setRow g c').heap.size=w.heap.size:=by simp[KI]
def Ym {B:Frm} {w:World} {g:Nat} {c':Array Value} (h:¬B g):BelowF B w (w.setRow g c'):=
 ⟨rfl,rfl,rfl,by rw[V3];exact Jj _,λk b=>VJ (λe=>h (e▸b))⟩
def Stab.setRow {o:Nat->Option MapC} {it:Nat->Option IterC} (j:Stab B S w o it) {g:Nat} {vs:Array Value} {t:TypeId} {f:Nat×Nat} (h:w.heap[g]? = Hs (.cells vs t f)) (z:∀o,S g o=Hn) {c':Array Value}:Stab B S (w.setRow g c') o it:=by
 have d:∀k,k≠g->(w.setRow g c').heap[k]? = w.heap[k]? :=λk y=>VJ y
 refine j.move (SLe.refl _) (λb c m=>(j.o b c m).2.1) ⟨λb o v hv=> ?_,λb es u=> ?_,λb n=>by
  obtain⟨l,p,e⟩:=j.s.y b n;by_cases q:b=g;subst q;exact⟨c',p,VI (c':=c') e⟩;exact⟨l,p,by rw[d b q];exact e⟩⟩ (λb c m=>d b (λe=> ?_)) (λb x r=>d b (λe=> ?_))
 have n:b≠g:=λe=>by subst e;rw[z o]at hv;cases hv
 rw[<-j.s.c b o v hv];exact JQ (d b n);have i:=j.s.m b es u;rw[d b (λe=>by subst e;rw[h]at i;cases i)];exact i;subst e;obtain⟨es,i,_⟩:=(j.o _ c m).2.2;rw[h]at i;cases i;subst e;have i:=(j.i _ x r).2.1;unfold IterAt at i;rw[h]at i;cases i
theorem Sim.setRow (d:Sim B S M s a w) {id:Nat} {cs cs':List PV} (l:s.m.h id=Hs cs) (D:s.m.z id=Hf) {vs':List Value} (hl:vs'.length=cs'.length)
  (I:∀j,j<cs'.length->RepS S M s.m.q (vs'.getD j undef) (cs'.getD j .any)) (hi:∀c∈cs',∀i∈c.ids,ZI s.m i):
  Sim B S M (s.with { s.m with h:=upd s.m.h id (Hs cs') }) a (w.setRow (M.φ id) ⟨vs'⟩)/\Ext B S S w (w.setRow (M.φ id) ⟨vs'⟩):=by
 obtain⟨h1,Y,⟨vs,t,J,h4,h5⟩,h6⟩:=d.own l D;have xa:M.φ id<w.heap.size:=(Jh.1 J).1;have F:=VI (c':=⟨vs'⟩) J;have f:∀k,k≠M.φ id->(w.setRow (M.φ id) ⟨vs'⟩).heap[k]? = w.heap[k]? :=λk g=>VJ g
 have R:=V3 w (M.φ id) ⟨vs'⟩;have some_ne:∀i,ZI s.m i->ZI { s.m with h:=upd s.m.h id (Hs cs') } i:=λi h=>by
  cases i with
  |b i=>
   show upd _ _ _ _≠Hn;by_cases e:i=id;subst e;rw[Za];simp;rw[Zb _ _ (Jt e)];exact h
  |r i=>exact h
 have back:∀ {i ds},upd s.m.h id (Hs cs') i=Hs ds-> ∃c,s.m.h i=Hs c:=λ{i b} q=>by
  by_cases e:i=id;subst e;exact⟨_,l⟩;rw[Zb _ _ (Jt e)]at q;exact⟨b,q⟩
 refine⟨⟨d.defers,d.hn,by rw[R];exact d.hB,d.stable.setRow J Y,d.fr,λi k g=>some_ne k (d.ids i k g),λi b q=> ?_,λi r I=> ?_,?_,d.injq,?_,λb c o=> ?_,λi es Z=> ?_,d.pn.move rfl rfl some_ne (λ_ _=>rfl) λi _=> .refl _ _ _,d.hz⟩,SLe.refl _,λ_ _=>⟨λ_=>rfl,rfl⟩,Ym h1⟩;simp only[St.with]at q ⊢;by_cases e:i=id;subst e;rw[Za]at q;cases q;rw[D];exact⟨h1,Y,⟨vs',t,F,hl,I⟩,λc o k g=>some_ne k (hi c o k g)⟩;rw[Zb _ _ (Jt e)]at q;have u:=d.blk i b q;cases C:s.m.z i with
 |false=>
  rw[C]at u;obtain⟨z,A,⟨us,t',V,K,g5⟩,g6⟩:=u;have m:=d.inj i id _ _ q l C D e;exact⟨z,A,⟨us,t',by rw[f _ m];exact V,K,g5⟩,λc o k g=>some_ne k (g6 c o k g)⟩
 |true=>rw[C]at u;exact u
 have G:=d.row i r I;cases r with
 |live n sz et=>
  obtain⟨z,A⟩:=G;refine⟨z,λc g=> ?_⟩;obtain⟨X,y,E,⟨us,L,N⟩,Q⟩:=A c g;have m:=d.injx id i _ _ l D I rfl (by omega);exact⟨X,y,E,⟨us,by rw[f _ (Jt m)];exact L,N⟩,Q⟩
 |vec n sz et=>
  obtain⟨z,A⟩:=G;refine⟨z,λc g=> ?_⟩;obtain⟨X,y,E,⟨us,L,N⟩,Q⟩:=A c g;have m:=d.injx id i _ _ l D I rfl (by omega);exact⟨X,y,E,⟨us,by rw[f _ (Jt m)];exact L,N⟩,Q⟩
 |dead=>trivial
 intro i k b b' x T W zk O;obtain⟨c,o⟩:=back x;obtain⟨c',U⟩:=back T;exact d.inj i k c c' o U W zk O;intro i k b r x W hq ho g;obtain⟨c,o⟩:=back x;exact d.injx i k c r o W hq ho g;obtain⟨z,A,V,K⟩:=d.rm b c o;refine⟨z,A,V,K.move (SLe.refl _) (f b λe=> ?_) (λv p r _=>r) some_ne⟩;obtain⟨⟨es,E,_⟩,_⟩:=K;subst e;rw[J]at E;cases E;obtain⟨sz,e,q1⟩:=d.vec_q Z;exact(d.vc i es Z).move (λ_ _ _ h=>h) rfl rfl (λg=>f _ (Jt (d.injx id i _ _ l D q1 rfl g))) (λv p r _=>r) some_ne
theorem Yv {p c:PV} (d:c∈p.cells) {k:Ref} (b:k∈c.ids):k∈p.ids:=by
 cases p with
 |agg cs=>exact PV.mem_idsL.2 ⟨c,d,b⟩
 |_=>have e:=Jy.1 d;rw[e]at b;exact b
theorem XM {m:Hp} {d:Nat} {r:Row} (i:Ref) (h:ZI m i):ZI (m.setq d r) i:=by
 cases i with
 |b i=>exact h
 |r i=>
  show upd _ _ _ _≠Hn;by_cases ei:d=i;subst ei;rw[Za];simp;rw[Zb _ _ ei];exact h
theorem Sim.setVec (g:Sim B S M s a w) {id c sz:Nat} {es es':List PV} {e:TypeId} (xa:s.m.v id=Hs es) (y:s.m.q id=Hs (.vec es.length sz e)) (hκ:M.κ id=c+1) (hn:es'.length=es.length) {vs':List Value} (hl:vs'.length=c*sz)
  (h1:∀p∈es',p.cells.length=sz/\p.cells.all PV.atom=Ht) (hi:∀p∈es',∀i∈p.ids,ZI s.m i)
  (hr:∀i j,i<es'.length->j<sz->RepS S M s.m.q (vs'.getD (i*sz+j) undef) ((es'.getD i .any).cells.getD j .any)):
  Sim B S M (s.with { s.m with v:=upd s.m.v id (Hs es') }) a (w.setRow (M.ψ id) ⟨vs'⟩)/\Ext B S S w (w.setRow (M.ψ id) ⟨vs'⟩):=by
 obtain⟨r3,r4⟩:=g.row id _ y;obtain⟨O,k2,k3,⟨vs,V,k6⟩,k4⟩:=r4 c hκ;have x:=VI (c':=⟨vs'⟩) V;have m:∀k,k≠M.ψ id->(w.setRow (M.ψ id) ⟨vs'⟩).heap[k]? = w.heap[k]? :=λk o=>VJ o
 have T:=V3 w (M.ψ id) ⟨vs'⟩;have live:∀i,ZI s.m i->ZI { s.m with v:=upd s.m.v id (Hs es') } i:=λi h=>by cases i<;>exact h
 refine⟨⟨g.defers,g.hn,by rw[T];exact g.hB,g.stable.setRow V k4,g.fr,λi k o=>live k (g.ids i k o),λi b Z=> ?_,λi r l=> ?_,g.inj,g.injq,g.injx,λb d hd=> ?_,λi Q E=> ?_,⟨g.pn.h,g.pn.q⟩,g.hz⟩,SLe.refl _,λ_ _=>⟨λ_=>rfl,rfl⟩,Ym k3⟩;have q:=g.blk i b Z;show DJ _ _ _ _ _ _ _ (s.m.z i);cases N:s.m.z i with
 |true=>rw[N]at q;exact q
 |false=>
  rw[N]at q;obtain⟨z,A,⟨us,t',X,L,g5⟩,g6⟩:=q;exact⟨z,A,⟨us,t',by rw[m _ (g.injx i id _ _ Z N y rfl (by omega))];exact X,L,g5⟩,λc hc k o=>live k (g6 c hc k o)⟩
 have l:s.m.q i=Hs r:=l;have F:=g.row i r l;cases r with
 |live n D e1=>
  obtain⟨z,A⟩:=F;refine⟨z,λc' u=> ?_⟩;obtain⟨G,K,I,⟨us,Y,R⟩,J⟩:=A c' u;have W:M.ψ i≠M.ψ id:=g.injq i id _ _ l y rfl rfl (by omega) (by omega) (λe=>by subst e;have h:=y.symm.trans l;cases h);exact⟨G,K,I,⟨us,by rw[m _ W];exact Y,R⟩,J⟩
 |vec n D e1=>
  obtain⟨z,A⟩:=F;refine⟨z,λc' u=> ?_⟩;obtain⟨G,K,I,⟨us,Y,R⟩,J⟩:=A c' u
  by_cases ei:i=id
  ·subst ei;have l:=y.symm.trans l;cases l;have:c'=c:=by omega
   subst this;exact⟨G,K,I,⟨vs',x,hl⟩,J⟩
  ·exact⟨G,K,I,⟨us,by rw[m _ (g.injq i id _ _ l y rfl rfl (by omega) (by omega) ei)];exact Y,R⟩,J⟩
 |dead=>trivial
 obtain⟨z,A,X,L⟩:=g.rm b d hd;refine⟨z,A,X,L.move (SLe.refl _) (m b λee=> ?_) (λv p r _=>r) live⟩;obtain⟨⟨es,O,_⟩,_⟩:=L;subst ee;rw[V]at O;cases O;by_cases ei:i=id;subst ei;simp only[St.with,Za,Jn.injEq]at E;subst E;refine⟨sz,e,by rw[hn];exact y,h1,λp hp k o=>live k (hi p hp k o),λc' u us t f C i' j U hj=> ?_⟩;rw[x]at C;cases C;exact hr i' j U hj;simp only[St.with,Zb _ _ (Jt ei)]at E;obtain⟨D,e1,q1⟩:=g.vec_q E;exact(g.vc i Q E).move (λ_ _ _ h=>h) rfl rfl (λo=>m _ (g.injq i id _ _ q1 y rfl rfl o (by omega) ei)) (λv p r _=>r) live
def Zf {α:Type} {l b:List α} {i:Nat} {d:α} (h:i<l.length):(l++b).getD i d=l.getD i d:=by
 rw[getD_lt (by simp;omega),getD_lt h,List.getElem_append_left h]
def Zg {α:Type} {l b:List α} {i:Nat} {d:α} (h:l.length<=i):(l++b).getD i d=b.getD (i-l.length) d:=by
 by_cases c:i<(l++b).length;rw[getD_lt c,List.getElem_append_right h,getD_lt];rw[Vi (by omega),Vi (by simp at c;omega)]
def Xu {α:Type} {l:List α} {n i:Nat} {d:α} (h:i<n):(l.take n).getD i d=l.getD i d:=by
 by_cases b:i<l.length;rw[getD_lt (by simp;omega),getD_lt b];simp;rw[Vi (by simp;omega),Vi (by omega)]
def XJ {α:Type} {l:List α} {n i:Nat} {d:α}:(l.drop n).getD i d=l.getD (n+i) d:=by
 by_cases b:n+i<l.length;rw[getD_lt (by simp;omega),getD_lt b];simp;rw[Vi (by simp;omega),Vi (by omega)]
def WP {α:Type} {l n:List α} {off j:Nat} {d:α} (h:off+n.length<=l.length):
  (l.take off++n++l.drop (off+n.length)).getD j d=if j<off then l.getD j d else if j<off+n.length then n.getD (j-off) d else l.getD j d:=by
 have b:(l.take off).length=off:=by simp;omega
 split;rw[Zf (by simp;omega),Zf (by omega),Xu (by assumption)];split;rw[Zf (by simp;omega),Zg (by omega),b];rw[Zg (by simp;omega),XJ];congr 1;simp;omega
def Zxq (P:Program) (B:Frm) (S:Stable) (s:St) (a:Act) (w:World) (m:Sem Unit) (r:ARes):Prop:=
 ∃w' S' b,m.run P w= .ok () w'/\Sim B S' b (s.with r.m) a w'/\r.v= .tup []/\Ext B S S' w w'
theorem ZiS (R:Sim B S M s a w) {t:TypeId} {x y:Value} {p q:PV} (f:RepS S M s.m.q x p) (hy:RepS S M s.m.q y q) (L:∀i∈q.ids,ZI s.m i) (hu:P.underlying t≠Hn)
  (m:(W0 P t p q s.m).ok):Zxq P B S s a w (KD t x y) (W0 P t p q s.m):=by
 obtain⟨d,hd⟩:∃d,P.underlying t=Hs d:=by cases e:P.underlying t with|none=>exact absurd e hu|some d=>exact⟨d,rfl⟩
 obtain⟨i,G⟩:=Xv hd;revert m;unfold W0;split;rename_i id off;split;rename_i cs V;rintro ⟨gz,g1,g2,g3,W⟩;rw[f.ptr_inv];obtain⟨ys,J,O,D⟩:=hy.cells_inv g1;obtain⟨Q,h2,⟨vs,ty,h3,h4,h5⟩,h6⟩:=R.own V gz;have one:∀v∈ys,v.oneCell'=true:=λv hv=>by
  obtain⟨j,u,rfl⟩:=Jr hv;have U:=D j (by omega);rw[getD_lt u,getD_lt (by omega)]at U;exact U.atom_inv (JS.1 W _ (JH _))
 have E:=run_storeCells_at (P:=P) (M.φ id) off ty ys 0 ⟨vs⟩ w h3 (by simp;omega) one;have I:∀c∈q.cells,∀i∈c.ids,ZI s.m i:=λc o k r=>L k (Yv o r)
 have g:ys.length=tsz P t:=by omega
 obtain⟨A,C⟩:=R.setRow V gz (cs':=YT cs off q.cells) (vs':=vs.take off++ys++vs.drop (off+ys.length))
  (by simp[YT,h4,O])
  (λj u=>by
   have T:j<cs.length:=by simp[YT]at u;omega
   unfold YT;rw[WP (by omega),WP (by omega),O];split
   ·exact h5 j T
   ·split
    ·exact D _ (by omega)
    ·exact h5 j T)
  (λc o k r=>by
   simp only[YT,JL]at o;rcases o with (o|o)|o
   ·exact h6 c (JG o) k r
   ·exact I c o k r
   ·exact h6 c (JF o) k r)
 refine⟨_,S,M,?_,A,rfl,C⟩;simp only[KD,Jv,Ji,Jp,Jb,storeVar,YA G,J];simp only[J3,g,ne_eq,not_true_eq_false,if_false];simpa[g]using E;exact λm=>m.elim
 rename_i id n z b off;split;rename_i es hq;rintro ⟨gn,g1,g2,g3,W⟩;obtain⟨sz,e,q1,r1,r2,r4⟩:=R.vc id es hq;obtain⟨_,xa,t2⟩:=f.vptr_inv;obtain⟨_,t3⟩:=t2 _ sz e q1;obtain⟨rfl,t4⟩:=t3 gn.symm;rw[t4];obtain⟨ys,J,O,D⟩:=hy.cells_inv g1;obtain⟨o1,o2⟩:=R.row id _ q1;have F:b<es.length:=by omega
 have xc:=(r1 _ (Zc (d:= .any) F)).1;cases Y:M.κ id with
 |zero=>have:=o1 Y;omega
 |succ c=>
  obtain⟨k1,k2,k3,⟨vs,k5,k6⟩,k4⟩:=o2 c Y;have X:=r4 c Y vs e (0,0) k5;have hb:b*sz+sz<=vs.length:=by
   rw[k6]
   calc b*sz+sz=(b+1)*sz:=by rw[Jg,Jw]
    _<=c*sz:=Ja _ (by omega)
  have one:∀v∈ys,v.oneCell'=true:=λv hv=>by
   obtain⟨j,u,rfl⟩:=Jr hv;have U:=D j (by omega);rw[getD_lt u,getD_lt (by omega)]at U;exact U.atom_inv (JS.1 W _ (JH _))
  have g:ys.length=tsz P t:=by omega
  have E:=run_storeCells_at (P:=P) (M.ψ id) (b*sz+off) e ys 0 ⟨vs⟩ w k5 (by simp;omega) one;have pc:(ZbA (es.getD b .any) off q).cells=YT (es.getD b .any).cells off q.cells:=by
   unfold ZbA;split
   ·rename_i o;obtain⟨rfl,o⟩:=o;simp[YT,o]
   ·rfl
  have Z:(YT (es.getD b .any).cells off q.cells).length=sz:=by unfold YT;rw[Jf,Jf,Jk,Jl];omega
  have setD:∀k,k<es.length->(es.set b (ZbA (es.getD b .any) off q)).getD k .any=if b=k then ZbA (es.getD b .any) off q else es.getD k .any:=λk r=>by
   rw[getD_lt (by simpa using r),List.getElem_set];split
   ·rfl
   ·rw[getD_lt r]
  have idx:∀ {i j k l:Nat},j<sz->l<sz->i*sz+j=k*sz+l->i=k/\j=l:=λ{i j k l} u hl h=>by
   rcases Nat.lt_trichotomy i k with Q|Q|Q
   ·have:(i+1)*sz<=k*sz:=Ja _ Q;rw[Jg,Jw]at this;omega
   ·subst Q;exact⟨rfl,by omega⟩
   ·have:(k+1)*sz<=i*sz:=Ja _ Q;rw[Jg,Jw]at this;omega
  obtain⟨A,C⟩:=R.setVec (es':=es.set b (ZbA (es.getD b .any) off q)) hq q1 Y (by simp) (vs':=vs.take (b*sz+off)++ys++vs.drop (b*sz+off+ys.length)) (by simp;omega)
   (λp hp=>by
    rcases Kd hp with hp|rfl
    ·exact r1 p hp
    ·rw[pc];refine⟨Z,?_⟩;have N:=(r1 _ (Zc (d:= .any) F)).2;rw[JS]at N W ⊢;intro x f;simp only[YT,JL]at f;rcases f with (f|f)|f
     ·exact N x (JG f)
     ·exact W x f
     ·exact N x (JF f))
   (λp hp k r=>by
    rcases Kd hp with hp|rfl
    ·exact r2 p hp k r
    ·unfold ZbA at r;split at r
     ·exact L k r
     ·obtain⟨x,f,K⟩:=PV.mem_idsL.1 (by simpa[PV.ids]using r);simp only[YT,JL]at f;rcases f with (f|f)|f
      ·exact r2 (es.getD b .any) (Zc F) k (Yv (JG f) K)
      ·exact L k (Yv f K)
      ·exact r2 (es.getD b .any) (Zc F) k (Yv (JF f) K))
   (λi j G u=>by
    simp only[K0]at G;have xb:i*sz+j<vs.length:=by
     rw[k6]
     calc i*sz+j<i*sz+sz:=by omega
      _=(i+1)*sz:=by rw[Jg,Jw]
      _<=c*sz:=Ja _ (by omega)
    rw[WP (by omega),setD i G]
    by_cases he:b=i
    ·subst he;rw[if_pos rfl,pc];unfold YT;rw[WP (by omega)]
     by_cases c1:j<off
     ·rw[if_pos (by omega),if_pos c1];exact X _ _ G u
     ·by_cases c2:j<off+q.cells.length
      ·rw[if_neg (by omega),if_pos (by omega),if_neg c1,if_pos c2];have:=D (j-off) (by omega);rw[show b*sz+j-(b*sz+off)=j-off by omega];exact this
      ·rw[if_neg (by omega),if_neg (by omega),if_neg c1,if_neg c2];exact X _ _ G u
    ·rw[if_neg he]
     by_cases c1:i*sz+j<b*sz+off
     ·rw[if_pos c1];exact X _ _ G u
     ·rw[if_neg c1,if_neg]
      ·exact X _ _ G u
      ·intro c2;have hd:i*sz+j=b*sz+(i*sz+j-b*sz):=by omega
       exact he (idx (by omega) u hd.symm).1)
  refine⟨_,S,M,?_,A,rfl,C⟩;simp only[KD,Jv,Ji,Jp,Jb,storeVar,YA G,J];simp only[J3,g,ne_eq,not_true_eq_false,if_false];simpa[g]using E
 exact λm=>m.elim
 exact λm=>m.elim
def ZgZ (j:Sim B S M s a w) {t:TypeId} {x:Value} {p:PV} {id:Nat} (m:RepS S M s.m.q x p) (g:∀i∈p.ids,ZI s.m i)
  (e:s.m.h id=Hn) (f:p.known=Ht) (ok:Prop):Snd P B S s a w (KN t x) ⟨ok,.ptr id 0,s.m.new id p.cells⟩:=by
 obtain⟨vs,d,n,o⟩:=m.cells_inv f;have b:∀c∈p.cells,∀i∈c.ids,ZI s.m i:=λc d k f=>g k (Yv d f)
 refine⟨.pointer (Hs ⟨w.heap.size,0,Hn⟩),_,S,_,?_,j.alloc (t:=t) e n o b,?_,?_,j.ext_alloc _⟩;simp[KN,newVar,newRow,newObj,d,KA,J4];have:RepS S { M with φ:=upd M.φ id w.heap.size } s.m.q (.pointer (Hs ⟨upd M.φ id w.heap.size id,0,Hn⟩)) (.ptr id 0):= .ptr id 0;rwa[Za]at this;intro i l;simp only[PV.ids,Jy]at l;subst l;simp[ZI,Hp.new,Za]
def ZiM (g:Sim B S M s a w) {t:TypeId} {i:TypeInfo} {z:Value} {id:Nat} (k:P.info? t=Hs i) (d:i.zero=Hs z)
  (b:s.m.h id=Hn) (l:(XP z).known=Ht) (ok:Prop):Snd P B S s a w (KX t Ht (.tuple #[])) ⟨ok,.ptr id 0,s.m.new id (XP z).cells⟩:=by
 have h:=ZgZ (P:=P) (t:=t) g (.clean (Ve S z)) (by simp[W7]) b l ok;have e:∀w,(KX t Ht (.tuple #[])).run P w=(KN t z).run P w:=λw=>by
  simp[KX,KN,zeroValue,GF k,d]
 obtain⟨v,w',S',j,f,c⟩:=h;exact⟨v,w',S',j,by rw[e];exact f,c⟩
end
end Go.PL
namespace Go.PL
open Go.RowKit
inductive Leaf where
 |int|bool|str
 deriving DecidableEq
mutual
def Tz (P:Program):Nat->TypeId->Option (List Leaf)
 |0,_=>Hn
 |n+1,t=>match P.underlying t with
  |some (.int _)=>Hs [.int]
  |some .bool=>Hs [.bool]
  |some .string=>Hs [.str]
  |some (.struct fs)=>if P.stoodInHeld t then Hn else D8 P n 0 fs.toList
  |some (.array len e)=>match Tz P n e with
   |some l=>if l.length=tsz P e then Hs (JJ len l).flatten else Hn
   |none=>Hn
  |_=>Hn
def D8 (P:Program):Nat->Nat->List Field->Option (List Leaf)
 |_,_,[]=>Hs []
 |0,_,_::_=>Hn
 |n+1,off,f::fs=>if f.name= "_" \/ f.offset≠off then Hn else
  match Tz P n f.type with
  |some l=>if l.length=tsz P f.type then(match D8 P n (off+l.length) fs with|some r=>Hs (l++r)|none=>Hn)else Hn
  |none=>Hn
end
def UJ:Leaf->PV->PV->Option Bool
 | .int,.int k a,.int k' b=>if k=k' then Hs (a==b)else Hn
 | .bool,.bool a,.bool b=>Hs (a==b)
 | .str,.str a,.str b=>Hs (a==b)
 |_,_,_=>Hn
def ZC:List Leaf->List PV->List PV->Option Bool
 | [],[],[]=>Hs Ht
 |l::ls,c::cs,d::ds=>match UJ l c d,ZC ls cs ds with
  |some x,Hs y=>Hs (x&&y)
  |_,_=>Hn
 |_,_,_=>Hn
section
variable {P:Program} {S:Stable} {M:Maps} {h:Rows}
def RepL (S:Stable) (M:Maps) (h:Rows) (vs:List Value) (cs:List PV):Prop:=vs.length=cs.length/\ ∀i,i<cs.length->RepS S M h (vs.getD i undef) (cs.getD i .any)
def RepL.cons {v:Value} {vs:List Value} {c:PV} {cs:List PV} (r:RepL S M h (v::vs) (c::cs)):RepS S M h v c/\RepL S M h vs cs:=
 ⟨r.2 0 (by simp),by simpa using r.1,λi b=>by simpa using r.2 (i+1) (by simpa using b)⟩
def RepL.take {vs:List Value} {cs:List PV} (r:RepL S M h vs cs) (n:Nat):RepL S M h (vs.take n) (cs.take n):=by
 refine⟨by simp[r.1],λi b=> ?_⟩;simp only[Jk]at b;rw[Xu (by omega),Xu (by omega)];exact r.2 i (by omega)
def RepL.drop {vs:List Value} {cs:List PV} (r:RepL S M h vs cs) (n:Nat):RepL S M h (vs.drop n) (cs.drop n):=by
 refine⟨by simp[r.1],λi b=> ?_⟩;simp only[Jl]at b;rw[XJ,XJ];exact r.2 _ (by omega)
theorem Uf:∀ {b:List Leaf} {cs e:List PV} {r:Bool},ZC b cs e=Hs r->cs.length=b.length/\e.length=b.length
 | [],[],[],_,_=>⟨rfl,rfl⟩
 |l::b,c::cs,d::e,r,h=>by
  simp only[ZC]at h;split at h;rename_i x y j f;obtain⟨g,i⟩:=Uf f;simp[g,i];cases h
 | [],c::cs,_,_,h=>by simp[ZC]at h
 | [],[],d::e,_,h=>by simp[ZC]at h
 |l::b,[],_,_,h=>by simp[ZC]at h
 |l::b,c::cs,[],_,h=>by simp[ZC]at h
theorem VT:∀ {e b:List Leaf} {cs f:List PV} {r:Bool},ZC (e++b) cs f=Hs r->
  ∃x y,ZC e (cs.take e.length) (f.take e.length)=Hs x/\ZC b (cs.drop e.length) (f.drop e.length)=Hs y/\r=(x&&y)
 | [],b,cs,f,r,h=>⟨Ht,r,by simp[ZC],by simpa using h,by simp⟩
 |l::e,b,c::cs,d::f,r,h=>by
  simp only[List.cons_append,ZC]at h;split at h;rename_i x y i g;obtain⟨m,n,j,o,k⟩:=VT g;refine⟨x&&m,n,?_,by simpa using o,?_⟩;simp only[JI,List.take_succ_cons,ZC,i,j];simp only[Jn.injEq]at h;rw[<-h,k,Bool.and_assoc];cases h
 |l::e,b,[],_,_,h=>by simp[ZC]at h
 |l::e,b,c::cs,[],_,h=>by simp[ZC]at h
def Xy (P:Program) (t:TypeId) (vs:List Value):Value:=if Yp P t then .agg ⟨vs⟩else vs.getD 0 undef
theorem Xw {e:TypeId} {d:TypeDesc} {vs:List Value} {off:Nat} (c:P.underlying e=Hs d) (f:off+tsz P e<=vs.length) (j:Yp P e=Hf->tsz P e=1) (w:World):
  (part e ⟨vs⟩ off).run P w= .ok (Xy P e ((vs.drop off).take (tsz P e))) w:=by
 obtain⟨i,k⟩:=Xv c;unfold part Xy;cases b:Yp P e with
 |true=>
  simp only[Ji,V2 c,Jb,b,if_true,YA k,Jp];simp
 |false=>
  have g:=j b;simp only[Ji,V2 c,Jb,b,Jo,if_false,g];have:off<vs.length:=by omega
  simp[this]
theorem Zdg {n:Nat} {t:TypeId} {b:List Leaf} (h:Tz P n t=Hs b):(∃d,P.underlying t=Hs d)/\(Yp P t=Hf->b.length=1):=by
 cases n with
 |zero=>simp[Tz]at h
 |succ n=>
  unfold Tz at h;unfold Yp;cases e:P.underlying t with
  |none=>rw[e]at h;simp at h
  |some d=>
   refine⟨⟨d,rfl⟩,?_⟩;rw[e]at h;cases d<;>simp_all<;>(try(rw[<-h];rfl))
def DZ (d:Nat) (e:TypeId) (n:Nat) (xs ys:Array Value):Nat->Nat->Sem Bool
 |_,0=>Pure.pure Ht
 |i,k+1=>do
  let a <-part e xs (i*n)
  let b <-part e ys (i*n)
  let r <-JB d e a b
  if(!r)=Ht then Pure.pure Hf else DZ d e n xs ys (i+1) k
theorem Fl (w:World) (d:Nat) (t e:TypeId) (len:Nat) (i:TypeInfo) (xs ys:Array Value) (c:P.underlying t=Hs (.array len e)) (f:P.info? e=Hs i):
  (JB (d+1) t (.agg xs) (.agg ys)).run P w=(DZ d e (tsz P e) xs ys 0 len).run P w:=by
 simp only[JB,Ji,ZH c,Jb,YA f];rw[Std.Legacy.Range.forIn_eq_forIn_range'];simp only[Std.Legacy.Range.size,Nat.sub_zero,Nat.add_sub_cancel,Nat.div_one];generalize (0:Nat)=s;clear c;induction len generalizing w s with
 |zero=>simp[DZ]
 |succ k ih=>
  simp only[Kj,List.forIn_cons,DZ,Ji];generalize (part e xs (s*tsz P e)).run P w=r1;cases r1 with
  |ok a w1=>
   simp only[Jb];generalize (part e ys (s*tsz P e)).run P w1=r2;cases r2 with
   |ok b w2=>
    simp only[Jb];generalize (JB d e a b).run P w2=r3;cases r3 with
    |ok r w3=>
     cases r
     ·simp only[Jb,Bool.not_false,if_true,Jp]
     ·simp only[Jb,K7,Jo,if_false,Jp];exact ih w3 (s+1)
    |halt x w3=>simp[Kw]
   |halt x w2=>simp[Kw]
  |halt x w1=>simp[Kw]
def Zzz (P:Program) (S:Stable) (M:Maps) (h:Rows) (d:Nat) (t:TypeId) (c:List Leaf):Prop:=
 ∀vs us cs b r,RepL S M h vs cs->RepL S M h us b->ZC c cs b=Hs r-> ∀w,(JB d t (Xy P t vs) (Xy P t us)).run P w= .ok r w
theorem ZcW {d:Nat} {e:TypeId} {l:List Leaf} {u:TypeDesc} (j:P.underlying e=Hs u) (i:l.length=tsz P e) (c:Yp P e=Hf->tsz P e=1) (m:Zzz P S M h d e l):
  ∀(k s:Nat) (vs us:List Value) (cs b:List PV) (r:Bool),RepL S M h vs cs->RepL S M h us b->ZC (JJ k l).flatten (cs.drop (s*tsz P e)) (b.drop (s*tsz P e))=Hs r->
   s*tsz P e<=cs.length->s*tsz P e<=b.length-> ∀w,(DZ d e (tsz P e) ⟨vs⟩ ⟨us⟩ s k).run P w= .ok r w
 |0,s,vs,us,cs,b,r,rv,ru,hr,_,_,w=>by
  simp only[List.replicate_zero,List.flatten_nil]at hr;have:r=true:=by
   revert hr;cases cs.drop (s*tsz P e)<;>cases b.drop (s*tsz P e)<;>simp[ZC]
  subst this;rfl
 |k+1,s,vs,us,cs,b,r,rv,ru,hr,hc,hd,w=>by
  simp only[List.replicate_succ,List.flatten_cons]at hr;obtain⟨x,y,f,n,rfl⟩:=VT hr;obtain⟨v,z⟩:=Uf f;simp only[Jk,Jl]at v z;have p:=Xw (vs:=vs) (off:=s*tsz P e) j (by rw[rv.1];omega) c w;have o:=Xw (vs:=us) (off:=s*tsz P e) j (by rw[ru.1];omega) c w;have q:=m _ _ _ _ x ((rv.drop (s*tsz P e)).take (tsz P e)) ((ru.drop (s*tsz P e)).take (tsz P e)) (by rw[i]at f;exact f) w;have g:ZC (JJ k l).flatten (cs.drop ((s+1)*tsz P e)) (b.drop ((s+1)*tsz P e))=Hs y:=by
   rw[J8,J8,i]at n;rw[Jg,Jw];exact n
  have t:=ZcW j i c m k (s+1) vs us cs b y rv ru g (by rw[Jg,Jw];omega) (by rw[Jg,Jw];omega) w;simp only[DZ,Ji,p,o,q,Jb];cases x;simp;simpa using t
def ZcX {c d:PV} {x:Bool} (h:UJ .int c d=Hs x):∃k a b,c= .int k a/\d= .int k b/\x=(a==b):=by
 cases c<;>cases d<;>simp[UJ]at h
 obtain⟨rfl,rfl⟩:=h;exact⟨_,_,_,rfl,rfl,rfl⟩
def ZaV {c d:PV} {x:Bool} (h:UJ .bool c d=Hs x):∃a b,c= .bool a/\d= .bool b/\x=(a==b):=by
 cases c<;>cases d<;>simp[UJ]at h
 subst h;exact⟨_,_,rfl,rfl,rfl⟩
def ZcY {c d:PV} {x:Bool} (h:UJ .str c d=Hs x):∃a b,c= .str a/\d= .str b/\x=(a==b):=by
 cases c<;>cases d<;>simp[UJ]at h
 subst h;exact⟨_,_,rfl,rfl,rfl⟩
mutual
theorem Zq3:∀(n:Nat) (t:TypeId) (q:List Leaf),Tz P n t=Hs q-> ∀d,n<=d->Zzz P S M h d t q
 |0,_,_,hh,_,_=>by simp[Tz]at hh
 |n+1,t,q,hh,d,hd=>by
  obtain⟨d,rfl⟩:∃d',d=d'+1:=⟨d-1,by omega⟩;intro vs us cs z r C D j w;have one:∀ {c' d':PV},cs= [c']->z= [d']->RepS S M h (vs.getD 0 undef) c'/\RepS S M h (us.getD 0 undef) d':=λb c=>by
   subst b;subst c;exact⟨C.2 0 (by simp),D.2 0 (by simp)⟩
  unfold Tz at hh;cases e:P.underlying t with
  |none=>rw[e]at hh;simp at hh
  |some dd=>
   rw[e]at hh;have leaf:∀ {E:Leaf},q= [E]-> ∃c' d',cs= [c']/\z= [d']/\ ∃x,UJ E c' d'=Hs x/\r=x:=by
    intro E v;subst v;obtain⟨L,K⟩:=Uf j;obtain⟨c',rfl⟩:=Kl.1 L;obtain⟨d',rfl⟩:=Kl.1 K;simp only[ZC]at j;split at j
    ·rename_i x y b c;simp only[Jn.injEq]at c;subst c;refine⟨c',d',rfl,rfl,x,b,?_⟩;simpa using j.symm
    ·cases j
   cases dd with
   |int k0=>
    simp only[Jn.injEq]at hh;obtain⟨c',d',b,c,x,p,rfl⟩:=leaf hh.symm;obtain⟨u,o⟩:=one b c;have f:Yp P t=false:=by simp[Yp,e]
    obtain⟨k,G,I,rfl,rfl,rfl⟩:=ZcX p;simp only[Xy,f,Jo,if_false];rw[u.int_inv,o.int_inv];exact run_equalIn_int w d t _ k0 _ _ e
   |bool=>
    simp only[Jn.injEq]at hh;obtain⟨c',d',b,c,x,p,rfl⟩:=leaf hh.symm;obtain⟨u,o⟩:=one b c;have f:Yp P t=false:=by simp[Yp,e]
    obtain⟨G,I,rfl,rfl,rfl⟩:=ZaV p;simp only[Xy,f,Jo,if_false];rw[u.bool_inv,o.bool_inv];exact run_equalIn_bool' w d t _ _ e
   |string=>
    simp only[Jn.injEq]at hh;obtain⟨c',d',b,c,x,p,rfl⟩:=leaf hh.symm;obtain⟨u,o⟩:=one b c;have f:Yp P t=false:=by simp[Yp,e]
    obtain⟨G,I,rfl,rfl,rfl⟩:=ZcY p;simp only[Xy,f,Jo,if_false];rw[u.str_inv,o.str_inv,run_equalIn_string w d t _ _ e,ByteArray.toList_eq,ByteArray.toList_eq]
   |struct fs=>
    simp only at hh;split at hh
    ·cases hh
    ·rename_i A;have f:Yp P t=true:=by simp[Yp,e]
     have F:P.fieldsOf t=fs:=by simp[Program.fieldsOf,e]
     simp only[Xy,f,if_true];rw[run_equalIn_struct w d t _ _ (by rw[F];exact e) (by simpa using A),F];exact ZsK n 0 fs.toList q hh d (by omega) vs us cs z r C D (by simpa using j) (Kv _) (Kv _) w
   |array len el=>
    simp only at hh;split at hh
    ·rename_i l v;split at hh
     ·rename_i g;simp only[Jn.injEq]at hh;subst hh;have f:Yp P t=true:=by simp[Yp,e]
      obtain⟨⟨O,m⟩,b⟩:=Zdg v;obtain⟨i,N⟩:=Xv m;simp only[Xy,f,if_true];rw[Fl w d t el len i _ _ e N];exact ZcW m g (λJ=>by rw[<-g];exact b J) (Zq3 n el l v d (by omega)) len 0 vs us cs z r C D (by simpa using j) (by simp) (by simp) w
     ·cases hh
    ·cases hh
   |_=>simp at hh
theorem ZsK:∀(n off:Nat) (fs:List Field) (j:List Leaf),D8 P n off fs=Hs j-> ∀d,n<=d-> ∀vs us cs c r,RepL S M h vs cs->RepL S M h us c->
  ZC j (cs.drop off) (c.drop off)=Hs r->off<=cs.length->off<=c.length-> ∀w,(Qj d ⟨vs⟩ ⟨us⟩ fs).run P w= .ok r w
 |n,off,[],j,hh,d,hd,vs,us,cs,c,r,rv,ru,hr,_,_,w=>by
  have:j= []:=by cases n<;>simp[D8]at hh<;>exact hh
  subst this;have:r=true:=by
   revert hr;cases cs.drop off<;>cases c.drop off<;>simp[ZC]
  subst this;rfl
 |0,off,f::fs,j,hh,d,hd,vs,us,cs,c,r,rv,ru,hr,_,_,w=>by simp[D8]at hh
 |n+1,off,f::fs,j,hh,d,hd,vs,us,cs,c,r,rv,ru,hr,hc,hdd,w=>by
  simp only[D8]at hh;split at hh;cases hh;rename_i k;have g:f.name≠ "_" :=λe=>k (.inl e)
  have p:f.offset=off:=Ke λe=>k (.inr e)
  split at hh;rename_i l u;split at hh;rename_i b;split at hh;rename_i rest i;simp only[Jn.injEq]at hh;subst hh;obtain⟨⟨I,m⟩,E⟩:=Zdg u;obtain⟨x,y,t,C,rfl⟩:=VT hr;obtain⟨D,G⟩:=Uf t;simp only[Jk,Jl]at D G;have o:Yp P f.type=Hf->tsz P f.type=1:=λA=>by rw[<-b];exact E A
  have v:=Xw (vs:=vs) (off:=off) m (by rw[rv.1];omega) o w;have F:=Xw (vs:=us) (off:=off) m (by rw[ru.1];omega) o w;have q:=Zq3 n f.type l u d (by omega) _ _ _ _ x ((rv.drop off).take (tsz P f.type)) ((ru.drop off).take (tsz P f.type)) (by rw[b]at t;exact t) w;have z:=ZsK n (off+l.length) fs rest i d (by omega) vs us cs c y rv ru (by rw[<-J8,<-J8];exact C) (by omega) (by omega) w;simp only[Qj,g,ne_eq,not_false_eq_true,if_true,Ji,p,v,F,q,Jb];cases x;simp;simpa using z;cases hh;cases hh;cases hh
end
end
open Go.RowKit
def DY:Nat:=40
def ZbU (P:Program) (t:TypeId):Option (List Leaf):=if P.eqGuardType P.depth t|| !Yp P t then Hn else Tz P DY t
def Zl:List UInt8->List UInt8->Bool:=Op.bytesLess
def Zqj (op:BinOp) (k c:IntKind) (a b:Int) (m:Hp):ARes:=
 match op with
 | .add=>⟨k=c,.int k (k.wrap (a+b)),m⟩
 | .sub=>⟨k=c,.int k (k.wrap (a-b)),m⟩
 | .mul=>⟨k=c,.int k (k.wrap (a*b)),m⟩
 | .quo=>⟨k=c/\b≠0,.int k (k.wrap (a.tdiv b)),m⟩
 | .rem=>⟨k=c/\b≠0,.int k (a.tmod b),m⟩
 | .eql=>⟨k=c,.bool (a==b),m⟩
 | .neq=>⟨k=c,.bool (a !=b),m⟩
 | .lss=>⟨k=c,.bool (decide (a<b)),m⟩
 | .leq=>⟨k=c,.bool (decide (a<=b)),m⟩
 | .gtr=>⟨k=c,.bool (decide (b<a)),m⟩
 | .geq=>⟨k=c,.bool (decide (b<=a)),m⟩
 | .and=>⟨k=c,.int k (k.wrap ((BitVec.ofInt k.bits a&&& BitVec.ofInt k.bits b).toNat)),m⟩
 | .or=>⟨k=c,.int k (k.wrap ((BitVec.ofInt k.bits a|||BitVec.ofInt k.bits b).toNat)),m⟩
 | .xor=>⟨k=c,.int k (k.wrap ((BitVec.ofInt k.bits a ^^^ BitVec.ofInt k.bits b).toNat)),m⟩
 | .shl=>⟨0<=b,.int k (k.wrap (a*2 ^ (min b.toNat k.bits))),m⟩
 | .shr=>⟨0<=b,.int k (a.fdiv (2 ^ (min b.toNat k.bits))),m⟩
 |_=> .fail
def Zqo (op:BinOp) (a b:List UInt8) (m:Hp):ARes:=
 match op with
 | .add=>⟨(a.length+b.length:Int)<=9223372036854775807,.str (a++b),m⟩
 | .eql=>⟨True,.bool (a==b),m⟩
 | .neq=>⟨True,.bool (!(a==b)),m⟩
 | .lss=>⟨True,.bool (Zl a b),m⟩
 | .leq=>⟨True,.bool (Zl a b||a==b),m⟩
 | .gtr=>⟨True,.bool (!(Zl a b||a==b)),m⟩
 | .geq=>⟨True,.bool (!Zl a b),m⟩
 |_=> .fail
def Zj6:PV->PV->Option Bool
 | .nilp,.nilp=>Hs Ht
 | .nilp,.ptr _ _| .nilp,.rptr _| .ptr _ _,.nilp| .rptr _,.nilp=>Hs Hf
 |_,_=>Hn
def Zr9:PV->PV->Option Bool
 | .sl .nil _,.sl .nil _=>Hs Ht
 | .sl _ (_::_),.sl .nil _=>Hs Hf
 | .sl .nil _,.sl _ (_::_)=>Hs Hf
 | .osl _ _ _ _,.sl .nil _=>Hs Hf
 |_,_=>Hn
def ZjW:PV->PV->Option Bool
 | .nilmap,.nilmap=>Hs Ht
 | .nilmap,.mref _| .nilmap,.rmap _ _| .mref _,.nilmap| .rmap _ _,.nilmap=>Hs Hf
 |_,_=>Hn
inductive EqK where
 |bool|ptr|slc|map|other
def Ze8 (P:Program) (t:TypeId):EqK:=
 match P.underlying t with
 |some .bool=> .bool
 |some (.pointer _)=> .ptr
 |some (.slice _)=> .slc
 |some (.map _ _)=> .map
 |_=> .other
def aEq (c:Bool) (r:Option Bool) (m:Hp):ARes:=match r with|some b=>⟨True,.bool (if c then !b else b),m⟩|none=> .fail
def ZpX (P:Program) (c:Bool) (t:TypeId) (x y:PV) (m:Hp):ARes:=
 match x,y with
 | .agg cs,.agg ds=>match ZbU P t with
  |some ls=>aEq c (ZC ls cs ds) m
  |none=> .fail
 | .bool a,.bool b=>match Ze8 P t with| .bool=>aEq c (Hs (a==b)) m|_=> .fail
 |x,y=>match Ze8 P t with
  | .ptr=>aEq c (Zj6 x y) m
  | .slc=>aEq c (Zr9 x y) m
  | .map=>aEq c (ZjW x y) m
  |_=> .fail
def Zqi (op:BinOp) (k c:FloatKind) (a b:Nat) (m:Hp):ARes:=
 match op with
 | .eql=>⟨k=c,.bool (k.format.order a b==Hs .eq),m⟩
 | .neq=>⟨k=c,.bool (k.format.order a b !=Hs .eq),m⟩
 | .lss=>⟨k=c,.bool (k.format.order a b==Hs .lt),m⟩
 | .leq=>⟨k=c,.bool (k.format.order a b==Hs .lt||k.format.order a b==Hs .eq),m⟩
 | .gtr=>⟨k=c,.bool (k.format.order a b==Hs .gt),m⟩
 | .geq=>⟨k=c,.bool (k.format.order a b==Hs .gt||k.format.order a b==Hs .eq),m⟩
 |_=> .fail
def Zqg (P:Program) (op:BinOp) (t:TypeId) (x y:PV) (m:Hp):ARes:=
 match x,y with
 | .int k a,.int k' b=>Zqj op k k' a b m
 | .str a,.str b=>Zqo op a b m
 | .flt k a,.flt k' b=>Zqi op k k' a b m
 |x,y=>match op with
  | .eql=>ZpX P Hf t x y m
  | .neq=>ZpX P Ht t x y m
  |_=> .fail
section
variable {P:Program} {B:Frm} {S:Stable} {M:Maps} {s:St} {a:Act} {w:World}
theorem Zo8 (g:Sim B S M s a w) {op:BinOp} {t:TypeId} {k k':IntKind} {x y:Int} (b:(Zqj op k k' x y s.m).ok):
  Snd P B S s a w (binOp op t (.int k x) (.int k' y)) (Zqj op k k' x y s.m):=by
 have c:∀ {v:Value} {p:PV} {ok:Prop},(binOp op t (.int k x) (.int k' y)).run P w= .ok v w->Rep S v p->Snd P B S s a w (binOp op t (.int k x) (.int k' y)) ⟨ok,p,s.m⟩:=
  λ{v p ok} d h2=>Snd.pure g d (.clean h2) (λi j=>absurd j (h2.clean_ids i))
 revert b;unfold Zqj;split
 case h_17=>exact λb=>b.elim
 all_goals intro b
 all_goals first
  |(have e:k=k':=b;subst e;refine c ?_ (by constructor);simp[binOp,Qk,Op.intCmp,Op.intBits];done)
  |(obtain⟨e,f⟩:=b;subst e;refine c ?_ (by constructor);simp[binOp,Op.intDiv,f];done)
  |(have f:0<=y:=b;have d:¬y<0:=by omega
    refine c ?_ (by constructor);simp[binOp,Op.shift,d];done)
def Zo7 (f:Sim B S M s a w) {op:BinOp} {t:TypeId} {k k':FloatKind} {x y:Nat} (b:(Zqi op k k' x y s.m).ok):
  Snd P B S s a w (binOp op t (.float k x) (.float k' y)) (Zqi op k k' x y s.m):=by
 have c:∀ {v:Value} {p:PV} {ok:Prop},(binOp op t (.float k x) (.float k' y)).run P w= .ok v w->Rep S v p->Snd P B S s a w (binOp op t (.float k x) (.float k' y)) ⟨ok,p,s.m⟩:=
  λ{v p ok} h1 h2=>Snd.pure f h1 (.clean h2) (λi d=>absurd d (h2.clean_ids i))
 revert b;unfold Zqi;split
 case h_7=>exact λb=>b.elim
 all_goals intro b
 all_goals
  have e:k=k':=b;subst e;refine c ?_ (by constructor);simp[binOp,Op.floatCmp]
def Zpc (g:Sim B S M s a w) {op:BinOp} {t:TypeId} {x y:List UInt8} (b:(Zqo op x y s.m).ok):
  Snd P B S s a w (binOp op t (.string ⟨⟨x⟩⟩) (.string ⟨⟨y⟩⟩)) (Zqo op x y s.m):=by
 have c:∀ {v:Value} {p:PV} {ok:Prop},(binOp op t (.string ⟨⟨x⟩⟩) (.string ⟨⟨y⟩⟩)).run P w= .ok v w->Rep S v p->Snd P B S s a w (binOp op t (.string ⟨⟨x⟩⟩) (.string ⟨⟨y⟩⟩)) ⟨ok,p,s.m⟩:=
  λ{v p ok} h1 d=>Snd.pure g h1 (.clean d) (λi m=>absurd m (d.clean_ids i))
 have k:(⟨⟨x⟩⟩:ByteArray).toList=x:=by rw[ByteArray.toList_eq]
 have n:(⟨⟨y⟩⟩:ByteArray).toList=y:=by rw[ByteArray.toList_eq]
 revert b;unfold Zqo;split
 case h_8=>exact λb=>b.elim
 all_goals intro b
 refine c (v:= .string ⟨⟨x++y⟩⟩) ?_ (.str _);have e:¬(((⟨⟨x⟩⟩:ByteArray).size+(⟨⟨y⟩⟩:ByteArray).size:Nat):Int)>IntKind.i64.max:=by
  have d:IntKind.i64.max=9223372036854775807:=by decide
  rw[d];have j:(⟨⟨x⟩⟩:ByteArray).size=x.length:=rfl;have l:(⟨⟨y⟩⟩:ByteArray).size=y.length:=rfl;simp only at b;rw[j,l];omega
 have f:(⟨⟨x⟩⟩:ByteArray)++(⟨⟨y⟩⟩:ByteArray)=⟨⟨x++y⟩⟩:=by
  apply ByteArray.ext;rw[ByteArray.data_append];simp
 simp only[binOp,Ql,e,if_false,f];rfl
 all_goals (refine c ?_ (by constructor);simp[binOp,Ql,k,n,Zl])
def Vl {op:BinOp} {t:TypeId} {x y:Operand} {v u:Value} (hv:v≠ .nilIface) (e:∀cs d,v= .agg cs->u= .agg d->P.eqGuardType P.depth t=Hf):(eqGuard op t x y v u).run P w= .ok () w:=by
 have c:∀op:BinOp,op= .eql\/op= .neq->(eqGuard op t x y v u).run P w= .ok () w:=by
  intro op b;rcases b with rfl|rfl
  all_goals
   unfold eqGuard;simp only[K7,Jo,if_false];split
   ·exact absurd rfl hv
   ·have:=e _ _ rfl rfl;simp[run_program,this]
   ·rfl
 cases op<;>first|rfl|exact c _ (.inl rfl)|exact c _ (.inr rfl)
def RepS.nilp_inv {v:Value} {qq:Rows} (r:RepS S M qq v .nilp):v= .pointer none:=by
 cases r with|clean r=>cases r;rfl
def TH {op:BinOp} {t:TypeId} {x y:Value} (c:op= .eql\/op= .neq) (e:∀k n b m,x= .int k n->y≠ .int b m) (d:∀k n b m,x= .float k n->y≠ .float b m) (f:∀k n m b n' m',x= .complex k n m->y≠ .complex b n' m')
  (g:∀u v,x= .string u->y≠ .string v) {r:Bool} (i:(Kx t x y).run P w= .ok r w):(binOp op t x y).run P w= .ok (.bool (if op= .neq then !r else r)) w:=by
 rcases c with rfl|rfl;cases x<;>cases y<;>first|(exact absurd rfl (e _ _ _ _ rfl))|(exact absurd rfl (d _ _ _ _ rfl))|(exact absurd rfl (f _ _ _ _ _ _ rfl))|(exact absurd rfl (g _ _ rfl))|(simp only[binOp,Ji,i,Jb];rfl)
 cases x<;>cases y<;>first|(exact absurd rfl (e _ _ _ _ rfl))|(exact absurd rfl (d _ _ _ _ rfl))|(exact absurd rfl (f _ _ _ _ _ _ rfl))|(exact absurd rfl (g _ _ rfl))|(simp only[binOp,Ji,i,Jb];rfl)
def Y3 (d:Nat) (t e:TypeId) (b:Option Addr) (h:P.underlying t=Hs (.pointer e)):(JB (d+1) t (.pointer Hn) (.pointer b)).run P w= .ok b.isNone w:=by
 simp[JB,ZH h]
def XQ (d:Nat) (t e:TypeId) (b:Addr) (h:P.underlying t=Hs (.pointer e)):(JB (d+1) t (.pointer (Hs b)) (.pointer Hn)).run P w= .ok Hf w:=by
 simp[JB,ZH h]
def Wu (d:Nat) (t e:TypeId) (b:Option Addr) (n c:Nat) (h:P.underlying t=Hs (.slice e)):(JB (d+1) t (.slice Hn 0 0) (.slice b n c)).run P w= .ok b.isNone w:=by
 simp[JB,ZH h]
def Y4 (d:Nat) (t e:TypeId) (b:Addr) (n c:Nat) (h:P.underlying t=Hs (.slice e)):(JB (d+1) t (.slice (Hs b) n c) (.slice Hn 0 0)).run P w= .ok Hf w:=by
 simp[JB,ZH h]
def RepS.slnil_inv {v:Value} {qq:Rows} {es:List PV} (r:RepS S M qq v (.sl .nil es)):v= .slice Hn 0 0:=by
 cases r with|clean r=>cases r;rfl
def RepS.slcons_inv {v:Value} {qq:Rows} {t:Tok} {e:PV} {es:List PV} (r:RepS S M qq v (.sl t (e::es))):∃b n c,v= .slice (Hs b) n c:=by
 obtain⟨b,o,cap,vals,rfl,_⟩:=r.sl_inv.sl_at (i:=0) (by simp);exact⟨_,_,_,rfl⟩
def Zpk {t:TypeId} (h:Ze8 P t= .bool):P.underlying t=Hs .bool:=by
 unfold Ze8 at h;split at h<;>first|assumption|cases h
def Zsh {t:TypeId} (h:Ze8 P t= .ptr):∃e,P.underlying t=Hs (.pointer e):=by
 unfold Ze8 at h;split at h<;>first|exact⟨_,by assumption⟩|cases h
def Zkj {t:TypeId} (h:Ze8 P t= .slc):∃e,P.underlying t=Hs (.slice e):=by
 unfold Ze8 at h;split at h<;>first|exact⟨_,by assumption⟩|cases h
def Zsg {t:TypeId} (h:Ze8 P t= .map):∃k e,P.underlying t=Hs (.map k e):=by
 unfold Ze8 at h;split at h<;>first|exact⟨_,_,by assumption⟩|cases h
def XE (d:Nat) (t k e:TypeId) (b:Option Nat) (h:P.underlying t=Hs (.map k e)):(JB (d+1) t (.map Hn) (.map b)).run P w= .ok b.isNone w:=by
 simp[JB,ZH h]
def Vf (d:Nat) (t k e:TypeId) (b:Nat) (h:P.underlying t=Hs (.map k e)):(JB (d+1) t (.map (Hs b)) (.map Hn)).run P w= .ok Hf w:=by
 simp[JB,ZH h]
def RepS.nilmap_inv {v:Value} {qq:Rows} (r:RepS S M qq v .nilmap):v= .map none:=by
 cases r with|clean r=>cases r;rfl
def RepS.mref_inv {v:Value} {qq:Rows} {b:Nat} (r:RepS S M qq v (.mref b)):v= .map (Hs b):=by
 cases r with|clean r=>cases r;rfl
def RepS.rmap_inv {v:Value} {qq:Rows} {ks vs:List PV} (r:RepS S M qq v (.rmap ks vs)):∃b,v= .map (Hs b):=by
 cases r with|clean r=>cases r;exact⟨_,rfl⟩
theorem Zg0 (Q:Sim B S M s a w) {op:BinOp} (K:op= .eql\/op= .neq) {t:TypeId} {x y:Operand} {u v:Value} {p q:PV} (i:RepS S M s.m.q u p) (hv:RepS S M s.m.q v q)
  (d:(ZpX P (decide (op= .neq)) t p q s.m).ok):Snd P B S s a w (do eqGuard op t x y u v;binOp op t u v) (ZpX P (decide (op= .neq)) t p q s.m):=by
 have A:∀ {r:Bool},u≠ .nilIface->(∀cs E,u= .agg cs->v= .agg E->P.eqGuardType P.depth t=Hf)->(∀k n D m,u= .int k n->v≠ .int D m)->(∀k n D m,u= .float k n->v≠ .float D m)->(∀k n m D n' m',u= .complex k n m->v≠ .complex D n' m')->
   (∀a b,u= .string a->v≠ .string b)->(Kx t u v).run P w= .ok r w->Snd P B S s a w (do eqGuard op t x y u v;binOp op t u v) (aEq (decide (op= .neq)) (Hs r) s.m):=by
  intro r T R W V g4 X g;refine Snd.pure Q (v:= .bool (if op= .neq then !r else r)) ?_ ?_ (by simp[PV.ids])
  ·simp only[Ji,Vl T R,Jb];exact TH K W V g4 X g
  ·simp only[decide_eq_true_eq];exact .clean (.bool _)
 revert d;unfold ZpX;split;rename_i cs E;split;rename_i L C;intro d;cases f:ZC L cs E with
 |none=>rw[f]at d;exact d.elim
 |some r=>
  obtain⟨us,rfl,Z,I⟩:=i.agg_inv;obtain⟨vs,rfl,J,G⟩:=hv.agg_inv;unfold ZbU at C;split at C
  ·cases C
  ·rename_i F;simp only[Kq,Bool.not_eq_true',not_or,Bool.not_eq_true,Bool.not_eq_false]at F;have l:=Zq3 (S:=S) (M:=M) (h:=s.m.q) DY t L C Op.maxDepth (by decide) us vs cs E r ⟨Z,I⟩ ⟨J,G⟩ f w;refine A (by simp) (λ_ _ _ _=>F.1) (by simp) (by simp) (by simp) (by simp) ?_;simpa[Xy,F.2,Kx]using l
 intro d;exact d.elim;rename_i Y U;split;rename_i j;intro d;obtain rfl:=i.bool_inv;obtain rfl:=hv.bool_inv;exact A (by simp) (by simp) (by simp) (by simp) (by simp) (by simp) (run_equal_bool w t Y U (Zpk j));intro d;exact d.elim;rename_i O N;split;rename_i j;obtain⟨e,g⟩:=Zsh j;intro d;cases f:Zj6 p q with
 |none=>rw[f]at d;exact d.elim
 |some r=>
  have l:(Kx t u v).run P w= .ok r w/\ ∃x y,u= .pointer x/\v= .pointer y:=by
   unfold Zj6 at f;split at f
   ·cases f;rw[i.nilp_inv,hv.nilp_inv];exact⟨Y3 _ t e Hn g,_,_,rfl,rfl⟩
   ·cases f;rw[i.nilp_inv,hv.ptr_inv];exact⟨Y3 _ t e _ g,_,_,rfl,rfl⟩
   ·cases f;obtain⟨b,o,vals,z,_⟩:=hv.rptr_inv;rw[i.nilp_inv,z];exact⟨Y3 _ t e _ g,_,_,rfl,rfl⟩
   ·cases f;rw[i.ptr_inv,hv.nilp_inv];exact⟨XQ _ t e _ g,_,_,rfl,rfl⟩
   ·cases f;obtain⟨b,o,vals,z,_⟩:=i.rptr_inv;rw[z,hv.nilp_inv];exact⟨XQ _ t e _ g,_,_,rfl,rfl⟩
   ·cases f
  obtain⟨l,x',y',rfl,rfl⟩:=l;exact A (by simp) (by simp) (by simp) (by simp) (by simp) (by simp) l
 rename_i j;obtain⟨e,g⟩:=Zkj j;intro d;cases f:Zr9 p q with
 |none=>rw[f]at d;exact d.elim
 |some r=>
  have l:(Kx t u v).run P w= .ok r w/\ ∃x n c y n' c',u= .slice x n c/\v= .slice y n' c':=by
   unfold Zr9 at f;split at f
   ·cases f;rw[i.slnil_inv,hv.slnil_inv];exact⟨Wu _ t e Hn _ _ g,_,_,_,_,_,_,rfl,rfl⟩
   ·cases f;obtain⟨b,n,c,z⟩:=i.slcons_inv;rw[z,hv.slnil_inv];exact⟨Y4 _ t e _ _ _ g,_,_,_,_,_,_,rfl,rfl⟩
   ·cases f;obtain⟨b,n,c,z⟩:=hv.slcons_inv;rw[i.slnil_inv,z];exact⟨Wu _ t e _ _ _ g,_,_,_,_,_,_,rfl,rfl⟩
   ·cases f;obtain⟨cap,_,z⟩:=i.osl_inv;rw[z,hv.slnil_inv];exact⟨Y4 _ t e _ _ _ g,_,_,_,_,_,_,rfl,rfl⟩
   ·cases f
  obtain⟨l,_,_,_,_,_,_,rfl,rfl⟩:=l;exact A (by simp) (by simp) (by simp) (by simp) (by simp) (by simp) l
 rename_i j;obtain⟨k,e,g⟩:=Zsg j;intro d;cases f:ZjW p q with
 |none=>rw[f]at d;exact d.elim
 |some r=>
  have l:(Kx t u v).run P w= .ok r w/\ ∃x y,u= .map x/\v= .map y:=by
   unfold ZjW at f;split at f
   ·cases f;rw[i.nilmap_inv,hv.nilmap_inv];exact⟨XE _ t k e Hn g,_,_,rfl,rfl⟩
   ·cases f;rw[i.nilmap_inv,hv.mref_inv];exact⟨XE _ t k e _ g,_,_,rfl,rfl⟩
   ·cases f;obtain⟨b,z⟩:=hv.rmap_inv;rw[i.nilmap_inv,z];exact⟨XE _ t k e _ g,_,_,rfl,rfl⟩
   ·cases f;rw[i.mref_inv,hv.nilmap_inv];exact⟨Vf _ t k e _ g,_,_,rfl,rfl⟩
   ·cases f;obtain⟨b,z⟩:=i.rmap_inv;rw[z,hv.nilmap_inv];exact⟨Vf _ t k e _ g,_,_,rfl,rfl⟩
   ·cases f
  obtain⟨l,_,_,rfl,rfl⟩:=l;exact A (by simp) (by simp) (by simp) (by simp) (by simp) (by simp) l
 intro d;exact d.elim
def Zo5 (c:Sim B S M s a w) {op:BinOp} {t:TypeId} {x y:Operand} {u v:Value} {p q:PV} (d:RepS S M s.m.q u p) (hv:RepS S M s.m.q v q)
  (b:(Zqg P op t p q s.m).ok):Snd P B S s a w (do eqGuard op t x y u v;binOp op t u v) (Zqg P op t p q s.m):=by
 have pre:∀ {r:ARes},u≠ .nilIface->(∀cs e,u= .agg cs->v≠ .agg e)->Snd P B S s a w (binOp op t u v) r->Snd P B S s a w (do eqGuard op t x y u v;binOp op t u v) r:=by
  intro r l k h;obtain⟨z,w',S',j,g,f⟩:=h;refine⟨z,w',S',j,?_,f⟩;simp only[Ji,Vl l (λcs e i m=>absurd m (k cs e i)),Jb];exact g
 revert b;unfold Zqg;split;intro b;obtain rfl:=d.int_inv;obtain rfl:=hv.int_inv;exact pre (by simp) (by simp) (Zo8 c b);intro b;obtain rfl:=d.str_inv;obtain rfl:=hv.str_inv;exact pre (by simp) (by simp) (Zpc c b);intro b;obtain rfl:=d.flt_inv;obtain rfl:=hv.flt_inv;exact pre (by simp) (by simp) (Zo7 c b);split;intro b;exact Zg0 c (.inl rfl) d hv b;intro b;exact Zg0 c (.inr rfl) d hv b;intro b;exact b.elim
end
open Go.RowKit
section
variable {P:Program} {B:Frm} {S:Stable} {M:Maps} {s:St} {a:Act} {w:World}
def ZcN (S:Stable) (g k:Nat) (vs:List Value):Stable:=⟨λb o=>if b=g/\o<k then Hs (vs.getD o undef)else S b o,S.m,S.z,S.y⟩
theorem XH (S:Stable) (g k:Nat) (vs:List Value) (b o:Nat):(ZcN S g k vs).c b o=if b=g/\o<k then Hs (vs.getD o undef)else S b o:=rfl
def ZuW (S:Stable) (g lo c:Nat) (vs:List Value):Stable:=⟨λb o=>if b=g/\lo<=o/\o<c then Hs (vs.getD o undef)else S b o,S.m,S.z,S.y⟩
theorem Zvm (S:Stable) (g lo c:Nat) (vs:List Value) (b o:Nat):(ZuW S g lo c vs).c b o=if b=g/\lo<=o/\o<c then Hs (vs.getD o undef)else S b o:=rfl
def XX {α:Type} (f:Nat->α) (i:Nat):upd f i (f i)=f:=by
 funext j;by_cases h:i=j;subst h;rw[Za];rw[Zb _ _ h]
theorem Sim.layRow (g:Sim B S M s a w) {d ψ κ:Nat} {r:Row} (o:s.m.q d=Hn\/RowLe M { M with ψ:=upd M.ψ d ψ,κ:=upd M.κ d κ } d (s.m.q d) (Hs r))
  (D:Zd2 B S { M with ψ:=upd M.ψ d ψ,κ:=upd M.κ d κ } w d r) (hv:s.m.v d=Hn)
  (G:∀i F,i≠d->s.m.q i=Hs F->F.own=Ht->0<M.κ i->r.own=Ht->0<κ->M.ψ i≠ψ) (Q:∀i cs,s.m.h i=Hs cs->s.m.z i=Hf->r.own=Ht->0<κ->M.φ i≠ψ):
  Sim B S { M with ψ:=upd M.ψ d ψ,κ:=upd M.κ d κ } (s.with (s.m.setq d r)) a w:=by
 have u:∀i,i≠d->upd M.ψ d ψ i=M.ψ i:=λi h=>Zb _ _ (Jt h)
 have t:∀i,i≠d->upd M.κ d κ i=M.κ i:=λi h=>Zb _ _ (Jt h)
 have y:∀i,i≠d->upd s.m.q d (Hs r) i=s.m.q i:=λi h=>Zb _ _ (Jt h)
 have rep:∀v p,RepS S M s.m.q v p->(∀i∈p.ids,ZI s.m i)->RepS S { M with ψ:=upd M.ψ d ψ,κ:=upd M.κ d κ } (s.m.setq d r).q v p:=λv p rr E=>
  rr.heap (SLe.refl _) (λ_ _=>rfl) (λi l=>by
   show RowLe M _ i (s.m.q i) (upd s.m.q d (Hs r) i)
   by_cases ei:i=d
   ·subst ei;rcases o with hd|o
    ·exact absurd hd (E _ l)
    ·rw[Za];exact o
   ·exact .of_eq (y i ei) (t i ei) (u i ei))
 have live:∀i,ZI s.m i->ZI (s.m.setq d r) i:=λi h=>XM i h
 refine⟨g.defers,g.hn,g.hB,g.stable,λi=>rep _ _ (g.fr i) (g.ids i),λi j f=>live j (g.ids i j f),λi b X=> ?_,λi F C=> ?_,g.inj,?_,?_,λb c I=> ?_,λi es K=> ?_,g.pn.move rfl rfl live (λ_ _=>rfl) λi l=> ?_,g.hz⟩
 rotate_right
 show RowLe M _ i (s.m.q i) (upd s.m.q d (Hs r) i);by_cases ei:i=d;subst ei;rcases o with hd|o;exact absurd hd l;rw[Za];exact o;exact .of_eq (y i ei) (t i ei) (u i ei);have x:=g.blk i b X;show DJ _ _ _ _ _ _ _ (s.m.z i);cases T:s.m.z i with
 |false=>
  rw[T]at x;obtain⟨Z,W,⟨us,J,h3,h4,h5⟩,V⟩:=x;exact⟨Z,W,⟨us,J,h3,h4,λj f=>rep _ _ (h5 j f) (λk L=>V _ (Zc f) k L)⟩,λc I k L=>live k (V c I k L)⟩
 |true=>rw[T]at x;exact x
 simp only[St.with,Hp.setq]at C;by_cases ei:i=d;subst ei;rw[Za]at C;cases C;exact D;rw[y i ei]at C;have:=g.row i F C;cases F with
 |live n' z' J=>simpa only[Zd2,t i ei,u i ei]using this
 |vec n' z' J=>simpa only[Zd2,t i ei,u i ei]using this
 |dead=>trivial
 intro i j r1 r2 l f N R A m q;simp only[St.with,Hp.setq]at l f A m ⊢;by_cases ei:i=d;subst ei;rw[y j (Jt q)]at f;rw[t j (Jt q)]at m;rw[Za]at A l ⊢;cases l;rw[u j (Jt q)];exact Jt (G j _ (Jt q) f R m N A);by_cases z:j=d;subst z;rw[y i ei]at l;rw[t i ei]at A;rw[Za]at m f ⊢;cases f;rw[u i ei];exact G i _ ei l N A R m;rw[y i ei]at l;rw[y j z]at f;rw[t i ei]at A;rw[t j z]at m;rw[u i ei,u j z];exact g.injq i j _ _ l f N R A m q;intro i j ds r1 l O f U m;simp only[St.with,Hp.setq]at l O f m ⊢;by_cases z:j=d;subst z;rw[Za]at m f ⊢;cases f;exact Q i _ l O U m;rw[y j z]at f;rw[t j z]at m;rw[u j z];exact g.injx i j _ _ l O f U m;obtain⟨Y,g2,g3,g4⟩:=g.rm b c I;exact⟨Y,g2,g3,g4.move (SLe.refl _) rfl rep live⟩;have ei:i≠d:=λe=>by subst e;rw[show(s.with (s.m.setq i r)).m.v i=s.m.v i from rfl,hv]at K;cases K
 refine(g.vc i es K).move (λn sz e h=> ?_) (t i ei) (u i ei) (λ_=>rfl) rep live;show upd s.m.q d _ i=_;rw[y i ei];exact h
theorem Sim.forget (f:Sim B S M s a w) (d:Nat):Sim B S M (s.with { s.m with v:=upd s.m.v d Hn }) a w:=by
 have live:∀i,ZI s.m i->ZI { s.m with v:=upd s.m.v d Hn } i:=λi h=>by cases i<;>exact h
 refine⟨f.defers,f.hn,f.hB,f.stable,f.fr,λi k m=>live k (f.ids i k m),λi b x=> ?_,f.row,f.inj,f.injq,f.injx,λb c l=> ?_,λi es j=> ?_,⟨f.pn.h,f.pn.q⟩,f.hz⟩;have g:=f.blk i b x;show DJ _ _ _ _ _ _ _ (s.m.z i);cases n:s.m.z i with
 |false=>
  rw[n]at g;obtain⟨q,o,⟨us,y,t,A,u⟩,F⟩:=g;exact⟨q,o,⟨us,y,t,A,u⟩,λc l k m=>live k (F c l k m)⟩
 |true=>rw[n]at g;exact g
 obtain⟨C,z,E,D⟩:=f.rm b c l;exact⟨C,z,E,D.move (SLe.refl _) rfl (λv p r _=>r) live⟩;by_cases e:d=i;subst e;simp only[St.with,Za]at j;cases j;simp only[St.with,Zb _ _ e]at j;exact(f.vc i es j).move (λ_ _ _ h=>h) rfl rfl (λ_=>rfl) (λv p r _=>r) live
def Sim.deadRow (b:Sim B S M s a w) (d:Nat):Sim B S M (s.with ({ s.m with v:=upd s.m.v d Hn }.setq d .dead)) a w:=by
 have h:=(b.forget d).layRow (d:=d) (ψ:=M.ψ d) (κ:=M.κ d) (r:= .dead) (.inr .dead) trivial (Za _ _ _) (λ_ _ _ _ _ _ h=>by cases h) (λ_ _ _ _ h=>by cases h);rwa[XX,XX]at h
def Sim.newRow (j:Sim B S M s a w) {d:Nat} {n sz c:Nat} {e:TypeId} {vs:List Value} {w':World}
  (hd:s.m.q d=Hn\/ ∃q l r,s.m.q d=Hs (.live q l r)/\q<n) (y:n<=c) (C:c<=maxLen) (A:vs.length=c*sz)
  (p:∀k,k<w.heap.size->w'.heap[k]? = w.heap[k]?) (f:w'.heap[w.heap.size]? = Hs (.cells ⟨vs⟩ e (0,0))):
  Sim B (ZcN S w.heap.size (n*sz) vs) { M with ψ:=upd M.ψ d w.heap.size,κ:=upd M.κ d (c+1) } (s.with (s.m.setq d (.live n sz e))) a w':=by
 have G:n*sz<=vs.length:=by rw[A];exact Ja _ y
 have u:SLe S (ZcN S w.heap.size (n*sz) vs):= .cells rfl λb o v hv=>by
  rw[XH];rw[if_neg];exact hv;rintro ⟨rfl,_⟩;rw[j.S_lt (Jj _)]at hv;cases hv
 have I:w.heap.size<w'.heap.size:=(Jh.1 f).1;have g:=j.grow (w':=w') u (λb x=>⟨λo=>by rw[XH,if_neg];rintro ⟨rfl,_⟩;omega,rfl⟩)
  ⟨λb o v hv=>by
   rw[XH]at hv;split at hv
   ·rename_i x;obtain⟨rfl,E⟩:=x;rw[Yu f,Je (by omega),<-hv,getD_lt (by omega)]
   ·have z:=j.stable b o v hv;rw[<-z];exact JQ (p _ (Uo z)),λb es h=>(j.stable.s.old p).m b es h,λb h=>(j.stable.s.old p).y b h⟩
  p (by omega)
 have N:s.m.q d=Hn\/RowLe M { M with ψ:=upd M.ψ d w.heap.size,κ:=upd M.κ d (c+1) } d (s.m.q d) (Hs (.live n sz e)):=
  hd.imp (λh=>h) λ⟨q,l,r,h1,h2⟩=>⟨λn' D Q h=>by cases h;exact .inr ⟨q,l,r,h1,h2⟩,λ_ _ _ h=>by cases h⟩
 refine g.layRow N ⟨λJ=>by simp[Za]at J,λc' m=> ?_⟩ (j.v_none λR U O h=>by rcases hd with hd|⟨_,_,_,hd,_⟩<;>(rw[hd]at h;cases h)) (λi T _ t F L _ _=>by have:=j.row_lt t F L;omega) (λi cs t K _ _=>by have:=j.blk_lt t K;omega);simp only[Za,Jq]at m;subst m;refine⟨y,C,by simp only[Za];exact j.new_ok,⟨vs,by simp only[Za];exact f,A⟩,λo E=> ?_⟩;simp only[Za];rw[XH];rw[if_neg (by omega)];exact j.S_lt (Jj _)
theorem Sim.growRow (g:Sim B S M s a w) {d:Nat} {n m sz c:Nat} {e:TypeId} {news:List Value} (hd:s.m.q d=Hs (.live n sz e)) (E:M.κ d=c+1) (hm:n+m<=c) (hl:news.length=m*sz):
  ∃vs,w.heap[M.ψ d]? = Hs (.cells ⟨vs⟩ e (0,0))/\vs.length=c*sz/\ ¬B (M.ψ d)/\(∀o,n*sz<=o->S (M.ψ d) o=Hn)/\
   let vs':=vs.take (n*sz)++news++vs.drop (n*sz+news.length)
   Sim B (ZuW S (M.ψ d) (n*sz) ((n+m)*sz) vs') M (s.with (s.m.setq d (.live (n+m) sz e))) a (w.setRow (M.ψ d) ⟨vs'⟩):=by
 obtain⟨_,X⟩:=g.row d _ hd;obtain⟨r0,xd,r1,⟨vs,q,r3⟩,r4⟩:=X c E;refine⟨vs,q,r3,r1,r4,?_⟩;have xe:(n+m)*sz<=c*sz:=Ja _ hm;have xf:(n+m)*sz=n*sz+news.length:=by rw[Jg,hl]
 have J:(vs.take (n*sz)++news++vs.drop (n*sz+news.length)).length=c*sz:=by
  simp only[Jf,Jk,Jl];omega
 intro vs';have f:∀k,k≠M.ψ d->(w.setRow (M.ψ d) ⟨vs'⟩).heap[k]? = w.heap[k]? :=λk E=>VJ E
 have t:(w.setRow (M.ψ d) ⟨vs'⟩).heap[M.ψ d]? = Hs (.cells ⟨vs'⟩ e (0,0)):=VI q;have xj:M.ψ d<w.heap.size:=(Jh.1 q).1;have u:SLe S (ZuW S (M.ψ d) (n*sz) ((n+m)*sz) vs'):= .cells rfl λb o v hv=>by
  show(if _ then _ else _)=Hs v;rw[if_neg];exact hv;rintro ⟨rfl,I,_⟩;rw[r4 o I]at hv;cases hv
 have N:∀i,i≠d->upd s.m.q d (Hs (.live (n+m) sz e)) i=s.m.q i:=λi h=>Zb _ _ (Jt h)
 have rep:∀ {v p},RepS S M s.m.q v p->RepS (ZuW S (M.ψ d) (n*sz) ((n+m)*sz) vs') M (upd s.m.q d (Hs (.live (n+m) sz e))) v p:=λr=>
  r.heap u (λ_ _=>rfl) (λi hi=>by
   by_cases ei:i=d
   ·subst ei;rw[Za];refine⟨λn' C O hq=> ?_,λ_ _ _ h=>by cases h⟩;cases hq
    by_cases h0:m=0
    ·subst h0;exact .inl ⟨hd,rfl,rfl⟩
    ·exact .inr ⟨n,sz,e,hd,by omega⟩
   ·exact .of_eq (N i ei) rfl rfl)
 have live:∀i,ZI s.m i->ZI (s.m.setq d (.live (n+m) sz e)) i:=λi h=>by
  cases i with
  |b i=>exact h
  |r i=>
   show upd _ _ _ _≠Hn;by_cases ei:i=d;subst ei;rw[Za];simp;rw[N i ei];exact h
 have back:∀ {i r},upd s.m.q d (Hs (.live (n+m) sz e)) i=Hs r-> ∃q,s.m.q i=Hs q/\(r.own=Ht->q.own=Ht):=λ{i r} h=>by
  by_cases ei:i=d;subst ei;exact⟨_,hd,λ_=>rfl⟩;rw[N i ei]at h;exact⟨_,h,λh=>h⟩
 refine⟨g.defers,g.hn,by rw[V3];exact g.hB,g.stable.move u (λb c T=>(g.stable.o b c T).2.1) ⟨λb o v hv=> ?_,λb es he=> ?_,λb D=>by
  obtain⟨xa,t1,e1⟩:=g.stable.s.y b D;by_cases O:b=M.ψ d;rw[O]at e1 ⊢;exact⟨_,_,VI e1⟩;exact⟨xa,t1,by rw[f b O];exact e1⟩⟩ (λb c T=>f b (λe=>by subst e;obtain⟨es,h,_⟩:=(g.stable.o _ c T).2.2;rw[q]at h;cases h)) (λb x hx=>f b (λe=>by subst e;have h:=(g.stable.i _ x hx).2.1;unfold IterAt at h;rw[q]at h;cases h)),λi=>rep (g.fr i),λi j y=>live j (g.ids i j y),λi b D=> ?_,λi r G=> ?_,g.inj,?_,?_,λb x hx=> ?_,λi es he=> ?_,g.pn.move rfl rfl live (λ_ _=>rfl) λi hi=> ?_,g.hz⟩
 rotate_right
 show RowLe M M i (s.m.q i) (upd s.m.q d _ i);by_cases ei:i=d;subst ei;rw[Za];refine⟨λn' C O hq=> ?_,(by intro _ _ _ h;cases h)⟩;cases hq;by_cases h0:m=0;subst h0;exact .inl ⟨hd,rfl,rfl⟩;exact .inr ⟨n,sz,e,hd,by omega⟩;exact .of_eq (N i ei) rfl rfl;rw[Zvm]at hv;split at hv;rename_i D;obtain⟨rfl,xi,xg⟩:=D;rw[Yu t,Je (by rw[J];omega),<-hv,getD_lt (by rw[J];omega)];rename_i D;have K:=g.stable b o v hv;by_cases eb:b=M.ψ d;subst eb;have U:o<n*sz:=by
  refine Ke λh=> ?_
  rw[r4 o (by omega)]at hv;cases hv
 rw[Yu q]at K;rw[Yu t];show(vs.take (n*sz)++news++vs.drop (n*sz+news.length))[o]? = Hs v;rw[KJ,List.getElem?_append_left (by simp;omega),Kh U];exact K;rw[<-K];exact JQ (f b eb);have K:=g.stable.s.m b es he;rw[f b (λe=>by subst e;rw[q]at K;cases K)];exact K;have z:=g.blk i b D;show DJ _ _ _ _ _ _ _ (s.m.z i);cases hz:s.m.z i with
 |false=>
  rw[hz]at z;obtain⟨I,R,⟨us,t',h3,h4,h5⟩,h6⟩:=z;have l:=g.injx i d _ _ D hz hd rfl (by omega);refine⟨I,λo=> ?_,⟨us,t',by rw[f _ l];exact h3,h4,λj y=>rep (h5 j y)⟩,λc T k E=>live k (h6 c T k E)⟩;show(if _ then _ else _)=Hn;rw[if_neg (λh=>l h.1)];exact R o
 |true=>rw[hz]at z;obtain⟨vals,hv⟩:=z;exact⟨vals,λj y=>⟨u _ _ _ (hv j y).1,(hv j y).2.mono u⟩⟩
 simp only[St.with,Hp.setq]at G;by_cases ei:i=d;subst ei;rw[Za]at G;cases G;refine⟨λh0=>by omega,λc' A=> ?_⟩;obtain rfl:c'=c:=by omega
 refine⟨hm,xd,r1,⟨vs',t,J⟩,λo U=> ?_⟩;show(if _ then _ else _)=Hn;rw[if_neg (by omega)];exact r4 o (by rw[Jg]at U;omega);rw[N i ei]at G;have W:=g.row i r G;cases r with
 |live n' C O=>
  obtain⟨I,R⟩:=W;refine⟨I,λc' A=> ?_⟩;obtain⟨g0,L,V,⟨us,Z,Y⟩,Q⟩:=R c' A;have l:=g.injq i d _ _ G hd rfl rfl (by omega) (by omega) ei;refine⟨g0,L,V,⟨us,by rw[f _ l];exact Z,Y⟩,λo U=> ?_⟩;show(if _ then _ else _)=Hn;rw[if_neg (λh=>l h.1)];exact Q o U
 |vec n' C O=>
  obtain⟨I,R⟩:=W;refine⟨I,λc' A=> ?_⟩;obtain⟨g0,L,V,⟨us,Z,Y⟩,Q⟩:=R c' A;have l:=g.injq i d _ _ G hd rfl rfl (by omega) (by omega) ei;refine⟨g0,L,V,⟨us,by rw[f _ l];exact Z,Y⟩,λo=> ?_⟩;show(if _ then _ else _)=Hn;rw[if_neg (λh=>l h.1)];exact Q o
 |dead=>trivial
 intro i j r1 q hi y oi oj ki kj xb;obtain⟨_,xc,gi⟩:=back hi;obtain⟨_,F,gj⟩:=back y;exact g.injq i j _ _ xc F (gi oi) (gj oj) ki kj xb;intro i j ds r1 hi zi y oj kj;obtain⟨_,F,gj⟩:=back y;exact g.injx i j _ _ hi zi F (gj oj) kj;obtain⟨V,Z,Y,Q⟩:=g.rm b x hx;refine⟨V,Z,Y,Q.move u (f b λee=> ?_) (λv p r _=>rep r) live⟩;obtain⟨⟨es,k1,_⟩,_⟩:=Q;subst ee;rw[q]at k1;cases k1;obtain⟨xh,e1,q1⟩:=g.vec_q he;have ei:i≠d:=λe=>by subst e;rw[hd]at q1;cases q1
 refine(g.vc i es he).move (λn sz e h=> ?_) rfl rfl (λE=>f _ (g.injq i d _ _ q1 hd rfl rfl E (by omega) ei)) (λv p r _=>rep r) live;show upd s.m.q d _ i=_;rw[N i ei];exact h
def Zso {α:Type} {f:Nat->Option α} {d:Nat} (h:f d=Hn):upd f d Hn=f:=by
 funext j;by_cases e:d=j;subst e;rw[Za,h];rw[Zb _ _ e]
def Sim.moveRow (b:Sim B S M s a w) {i d:Nat} {n sz:Nat} {e:TypeId} (g:s.m.q i=Hs (.live n sz e)) (hd:s.m.q d=Hn):
  Sim B S { M with ψ:=upd M.ψ d (M.ψ i),κ:=upd M.κ d (M.κ i) } (s.with ((s.m.setq i .dead).setq d (.live n sz e))) a w:=by
 have o:i≠d:=λh=>by subst h;rw[g]at hd;cases hd
 have f:=b.deadRow i;rw[Zso (b.v_none λ_ _ _ h=>by rw[g]at h;cases h)]at f;have h:=f.layRow (d:=d) (ψ:=M.ψ i) (κ:=M.κ i) (r:= .live n sz e) (.inl ?_) ?_ (b.v_none λ_ _ _ h=>by rw[hd]at h;cases h) (λj r' q l p t _ k=> ?_) (λj cs q u _ k=>b.injx j i cs _ q u g rfl k);exact h;show upd s.m.q i _ d=Hn;rw[Zb _ _ o];exact hd;have:=b.row i _ g;simpa only[Zd2,Za]using this;have c:j≠i:=λe=>by subst e;simp only[St.with,Hp.setq,Za,Jn.injEq]at l;subst l;cases p
 have m:s.m.q j=Hs r':=by simpa only[St.with,Hp.setq,Zb _ _ (Jt c)]using l
 exact b.injq j i _ _ m g p rfl t k c
theorem Sim.layVec (f:Sim B S M s a w) {d:Nat} {es:List PV} (hv:VecOk S M s.m w d es):Sim B S M (s.with { s.m with v:=upd s.m.v d (Hs es) }) a w:=by
 have live:∀i,ZI s.m i->ZI { s.m with v:=upd s.m.v d (Hs es) } i:=λi h=>by cases i<;>exact h
 refine⟨f.defers,f.hn,f.hB,f.stable,f.fr,λi k m=>live k (f.ids i k m),λi b x=> ?_,f.row,f.inj,f.injq,f.injx,λb c l=> ?_,λi es' j=> ?_,⟨f.pn.h,f.pn.q⟩,f.hz⟩;have g:=f.blk i b x;show DJ _ _ _ _ _ _ _ (s.m.z i);cases n:s.m.z i with
 |false=>
  rw[n]at g;obtain⟨q,o,⟨us,y,t,A,u⟩,F⟩:=g;exact⟨q,o,⟨us,y,t,A,u⟩,λc l k m=>live k (F c l k m)⟩
 |true=>rw[n]at g;exact g
 obtain⟨C,z,E,D⟩:=f.rm b c l;exact⟨C,z,E,D.move (SLe.refl _) rfl (λv p r _=>r) live⟩;by_cases e:d=i;subst e;simp only[St.with,Za,Jn.injEq]at j;subst j;exact hv.move (λ_ _ _ h=>h) rfl rfl (λ_=>rfl) (λv p r _=>r) live;simp only[St.with,Zb _ _ e]at j;exact(f.vc i es' j).move (λ_ _ _ h=>h) rfl rfl (λ_=>rfl) (λv p r _=>r) live
def Sim.moveVec (b:Sim B S M s a w) {i d:Nat} {es:List PV} {sz:Nat} {e:TypeId} (l:s.m.q i=Hs (.vec es.length sz e)) (y:s.m.v i=Hs es) (hd:s.m.q d=Hn):
  Sim B S { M with ψ:=upd M.ψ d (M.ψ i),κ:=upd M.κ d (M.κ i) } (s.with { ({ s.m with v:=upd s.m.v i Hn }.setq i .dead).setq d (.vec es.length sz e)with v:=upd (upd s.m.v i Hn) d (Hs es) }) a w:=by
 have m:i≠d:=λh=>by subst h;rw[l]at hd;cases hd
 have x:=b.deadRow i;have q:s.m.v d=none:=b.v_none λ_ _ _ h=>by rw[hd]at h;cases h
 have u:(s.with ({ s.m with v:=upd s.m.v i Hn }.setq i .dead)).m.q d=none:=by
  show upd s.m.q i _ d=Hn;rw[Zb _ _ m];exact hd
 have h:=x.layRow (d:=d) (ψ:=M.ψ i) (κ:=M.κ i) (r:= .vec es.length sz e) (.inl u) (by have:=b.row i _ l;simpa only[Zd2,Za]using this) (by show upd s.m.v i Hn d=Hn;rw[Zb _ _ m];exact q) (λj r' A c C F _ z=>by
  have f:j≠i:=λe=>by subst e;simp only[St.with,Hp.setq,Za,Jn.injEq]at c;subst c;cases C
  have o:s.m.q j=Hs r':=by simpa only[St.with,Hp.setq,Zb _ _ (Jt f)]using c
  exact b.injq j i _ _ o l C rfl F z f) (λj cs A E _ z=>b.injx j i cs _ A E l rfl z)
 refine h.layVec (es:=es) ?_;refine(b.vc i es y).move (λI J G c=> ?_) (by simp only[Za]) (by simp only[Za]) (λ_=>rfl) (λv p r g=> ?_) (λk t=>XM k (XM k (by cases k<;>exact t)));rw[l]at c;cases c;exact Za _ _ _;refine r.heap (SLe.refl _) (λ_ _=>rfl) λk t=> ?_
 show RowLe M _ k (s.m.q k) (upd (upd s.m.q i (Hs .dead)) d _ k);by_cases n:d=k;subst n;exact absurd hd (g _ t);rw[Zb _ _ n];by_cases D:i=k;subst D;rw[Za];exact .dead;rw[Zb _ _ D];exact .same (Zb _ _ n) (Zb _ _ n)
end
open Go.RowKit
def Sized (n:Nat) (es:List PV):Prop:=∀e∈es,e.cells.length=n
def XF (es:List PV):Prop:=∀e∈es,e.cells.all PV.atom=Ht
structure EInfo where
 e:TypeId
 size:Nat
 bytes:Nat
def XS (P:Program) (t:TypeId):Option EInfo:=
 match P.underlying t with
 |some (.slice e)=>match P.info? e with
  |some i=>match i.zero with
   |some z=>if z.cells.size=i.size/\0<i.size then Hs ⟨e,i.size,i.bytes⟩else Hn
   |none=>Hn
  |none=>Hn
 |_=>Hn
def YR {P:Program} {t:TypeId} {x:EInfo} (h:XS P t=Hs x):∃i z,P.underlying t=Hs (.slice x.e)/\P.info? x.e=Hs i/\i.zero=Hs z/\z.cells.size=x.size/\i.size=x.size/\i.bytes=x.bytes/\0<x.size/\tsz P x.e=x.size:=by
 unfold XS at h;split at h;rename_i e d;split at h;rename_i i b;split at h;rename_i z f;split at h;rename_i c;simp only[Jn.injEq]at h;subst h;exact⟨i,z,d,b,f,c.1,rfl,rfl,c.2,by simp[tsz,Program.cellsOf,b]⟩;cases h;cases h;cases h;cases h
section
variable {P:Program} {B:Frm} {S:Stable} {M:Maps} {s:St} {a:Act} {w:World}
def Zc4 {n i j:Nat} (b:j<n):(i*n+j) / n=i/\(i*n+j) % n=j:=by
 have c:0<n:=by omega
 exact⟨by rw[KK,Nat.add_mul_div_right _ _ c,Nat.div_eq_of_lt b,JA],by rw[KK,J9,KO b]⟩
theorem Rep.src (p:∀b o v,S b o=Hs v->w.cell? ⟨b,o,Hn⟩=Hs v) {v:Value} {xs:List PV} {sz:Nat} (r:Rep S v (.sl .no xs)) (D:Sized sz xs) (t:XF xs) {J R:TypeId} (g:P.underlying J=Hs (.slice R)):
  ∃news:List Value,Src P sz J v xs.length news w/\ ∀i j,i<xs.length->j<sz->Rep S (news.getD (i*sz+j) undef) ((xs.getD i .any).cells.getD j .any):=by
 by_cases U:xs.length=0;have T:xs= []:=Jc U;subst T;obtain⟨x,cap,rfl,_⟩:=r.sl_len;refine⟨[],?_,λi j A=>by simp at A⟩;cases x with
 |none=>exact Src.ofNil w g cap
 |some x=>exact Src.ofSlice w g x 0 cap [] (by simp) (by simp) (by simp)
 have e:0<xs.length:=by omega
 obtain⟨b,o,cap,vals,rfl,F,W,K,z⟩:=r.sl_at e;have O:(xs.getD 0 .any).cells.length=sz:=D _ (Zc e);rw[O]at K z W;have key:∀k,k<xs.length*sz->(k / sz<xs.length/\k % sz<sz/\k / sz*sz+k % sz=k):=λk g=>by
  have m:0<sz:=KE λh=>by subst h;simp at g
  exact⟨by rw[Kt m];exact g,K5 _ m,by rw[Km];exact Kr k sz⟩
 refine⟨(JY (xs.length*sz)).map λk=>vals (k / sz) (k % sz),?_,λi j A E=> ?_⟩;refine Src.ofSlice w g ⟨b,o,Hn⟩ xs.length cap _ (by simp) (λk u c=> ?_) (λu c=> ?_);rw[Kf]at c;obtain⟨X,f,rfl⟩:=Option.map_eq_some_iff.1 c;obtain⟨G,C⟩:=JK.1 f;simp only[List.length_range]at G;simp only[Ka]at C;subst C;obtain⟨l,n,I⟩:=key k G;rw[Z7];have:=p _ _ _ (K (k / sz) (k % sz) l n);rw[JW,I]at this;exact this;obtain⟨k,f,rfl⟩:=J5.1 c;obtain⟨l,n,I⟩:=key k (by simpa using f);have Q:=z (k / sz) (k % sz) l n;have L:=D _ (Zc (d:=PV.any) l);have N:=JS.1 (t _ (Zc (d:=PV.any) l)) _ (Zc (d:=PV.any) (by rw[L];exact n));exact(RepS.clean (M:=⟨id,id,id⟩) (q:=λ_=>Hn) Q).atom_inv N;have y:i*sz+j<xs.length*sz:=by
  have:=Ja sz (show i+1<=xs.length by omega);rw[Jg]at this;omega
 rw[getD_lt (by simpa using y)];simp only[JD,Ka];obtain⟨V,d2⟩:=Zc4 (i:=i) E;rw[V,d2];exact z i j A E
def Y8 (l:List UInt8):List PV:=l.map λb=> .int .u8 b.toNat
def ZdH {c:TypeId} (d:P.underlying c=Hs .string) (l:List UInt8):
  ∃news:List Value,Src P 1 c (.string ⟨⟨l⟩⟩) (Y8 l).length news w/\ ∀i j,i<(Y8 l).length->j<1->Rep S (news.getD (i*1+j) undef) (((Y8 l).getD i .any).cells.getD j .any):=by
 refine⟨byteCells ⟨⟨l⟩⟩,?_,λi j b f=> ?_⟩;have:=Src.ofString (P:=P) w d ⟨⟨l⟩⟩;have e:(⟨⟨l⟩⟩:ByteArray).size=(Y8 l).length:=by simp[Y8,ByteArray.size]
 rw[e]at this;exact this;obtain rfl:j=0:=by omega
 simp only[Y8,JO]at b;rw[Qm,JR,getD_lt (by simpa[byteCells]using b)];simp only[byteCells,JD,Y8];rw[getD_lt (l:=Ky _ l) (by simpa using b)];simp only[JD];exact .int _ _
def T9 {b cap sz:Nat} {es:List PV} (e:Sized sz es) (c:es.length<=cap) {cells:List Value} (g:∀k,k<es.length*sz->S b k=Hs (cells.getD k undef))
  (f:∀i j,i<es.length->j<sz->Rep S (cells.getD (i*sz+j) undef) ((es.getD i .any).cells.getD j .any)):Rep S (.slice (Hs ⟨b,0,Hn⟩) es.length cap) (.sl .no es):=by
 refine .sl b 0 cap sz es (λi j=>cells.getD (i*sz+j) undef) (λi d=>e _ (Zc d)) c (λi j d l=> ?_) f;rw[JA];apply g;have:=Ja sz (show i+1<=es.length by omega);rw[Jg]at this;omega
def Rep.cells_of {v:Value} {es:List PV} {sz b c:Nat} (r:Rep S v (.sl .no es)) (hv:v= .slice (Hs ⟨b,0,Hn⟩) es.length c) (u:Sized sz es):
  ∃cells:List Value,cells.length=es.length*sz/\(∀k,k<es.length*sz->S b k=Hs (cells.getD k undef))/\ ∀i j,i<es.length->j<sz->Rep S (cells.getD (i*sz+j) undef) ((es.getD i .any).cells.getD j .any):=by
 by_cases z:es.length=0;have x:es= []:=Jc z;subst x;exact⟨[],by simp,λk g=>by simp at g,λi j m=>by simp at m⟩;have d:0<es.length:=by omega
 obtain⟨D,o,cap,vals,e,t,C,q,p⟩:=r.sl_at d;rw[hv]at e;cases e;have y:(es.getD 0 .any).cells.length=sz:=u _ (Zc d);rw[y]at q p C;refine⟨(JY (es.length*sz)).map λk=>vals (k / sz) (k % sz),by simp,λk g=> ?_,λi j m n=> ?_⟩;have f:0<sz:=KE λh=>by subst h;simp at g
 have:=q (k / sz) (k % sz) (by rw[Kt f];exact g) (K5 _ f);rw[JA,Km,Kr]at this;rw[getD_lt (by simpa using g)];simpa using this;have l:i*sz+j<es.length*sz:=by
  have:=Ja sz (show i+1<=es.length by omega);rw[Jg]at this;omega
 rw[getD_lt (by simpa using l)];simp only[JD,Ka];obtain⟨A,d2⟩:=Zc4 (i:=i) n;rw[A,d2];exact p i j m n
def ZbD {es xs:List PV} {sz:Nat} {c1 f:List Value} (l:c1.length=es.length*sz) (k:∀i j,i<es.length->j<sz->Rep S (c1.getD (i*sz+j) undef) ((es.getD i .any).cells.getD j .any))
  (g:∀i j,i<xs.length->j<sz->Rep S (f.getD (i*sz+j) undef) ((xs.getD i .any).cells.getD j .any)):
  ∀i j,i<(es++xs).length->j<sz->Rep S ((c1++f).getD (i*sz+j) undef) (((es++xs).getD i .any).cells.getD j .any):=by
 intro i j m d;by_cases b:i<es.length;have c:i*sz+j<c1.length:=by
  have:=Ja sz (show i+1<=es.length by omega);rw[Jg]at this;omega
 rw[Zf c,Zf b];exact k i j b d;have c:c1.length<=i*sz+j:=by
  have:=Ja sz (show es.length<=i by omega);omega
 rw[Zg c,Zg (by omega)];have e:i*sz+j-c1.length=(i-es.length)*sz+j:=by
  rw[l,Qn];have:=Ja sz (show es.length<=i by omega);omega
 rw[e];exact g _ _ (by simp at m;omega) d
def Sized.append {n:Nat} {a b:List PV} (f:Sized n a) (d:Sized n b):Sized n (a++b):=λe c=>(JL.1 c).elim (f e) (d e)
end
open Go.RowKit
def ZkQ (n bytes:Nat):Prop:=n*bytes<=140737488355328/\n<=maxLen
def ZbV {α:Type} (f:Nat->α) (i:Nat) (u v:α):upd (upd f i u) i v=upd f i v:=by
 funext j;by_cases e:i=j<;>simp[upd,e]
section
variable {P:Program} {B:Frm} {S:Stable} {M:Maps} {s:St} {a:Act} {w:World}
def Sim.world (b:Sim B S M s a w) {w':World} (h:w'.heap=w.heap):Sim B S M s a w':=by
 have d:∀x,w'.cell? x=w.cell? x:=λx=>by simp[KU,h]
 exact b.grow (SLe.refl S) (λ_ _=>⟨λ_=>rfl,rfl⟩) (b.stable.s.old (λk c=>by rw[h])) (λk c=>by rw[h]) (by rw[h];exact Jj _)
def Sim.nilRow (b:Sim B S M s a w) {d sz:Nat} {e:TypeId} (hd:s.m.q d=Hn):Sim B S { M with κ:=upd M.κ d 0 } (s.with (s.m.setq d (.live 0 sz e))) a w:=by
 have h:=b.layRow (d:=d) (ψ:=M.ψ d) (κ:=0) (r:= .live 0 sz e) (.inl hd) ⟨λ_=>rfl,λc f=>by simp[Za]at f⟩ (b.v_none λ_ _ _ h=>by rw[hd]at h;cases h) (λ_ _ _ _ _ _ _ h=>absurd h (J7 _)) (λ_ _ _ _ _ h=>absurd h (J7 _));rwa[XX]at h
def Sim.nilVec (b:Sim B S M s a w) {d sz:Nat} {e:TypeId} (hd:s.m.q d=Hn):Sim B S { M with κ:=upd M.κ d 0 } (s.with { s.m.setq d (.vec 0 sz e)with v:=upd s.m.v d (Hs []) }) a w:=by
 have h:=b.layRow (d:=d) (ψ:=M.ψ d) (κ:=0) (r:= .vec 0 sz e) (.inl hd) ⟨λ_=>rfl,λc k=>by simp[Za]at k⟩ (b.v_none λ_ _ _ h=>by rw[hd]at h;cases h) (λ_ _ _ _ _ _ _ h=>absurd h (J7 _)) (λ_ _ _ _ _ h=>absurd h (J7 _));rw[XX]at h;exact h.layVec (es:= []) ⟨sz,e,Za _ _ _,λ_ h=>by simp at h,λ_ h=>by simp at h,λc _ vs t f _ i j g=>by simp at g⟩
def Ztn (P:Program) (B:Frm) (S:Stable) (s:St) (a:Act) (w:World) (m:Sem Value) (d n sz:Nat) (e:TypeId) (es:List PV):Prop:=
 ∃v w' S' b,m.run P w= .ok v w'/\Sim B S' b (s.with (s.m.setq d (.live n sz e))) a w'/\Rep S' v (.sl .no es)/\es.length=n/\
  (b.κ d=0->v= .slice Hn 0 0)/\(∀c,b.κ d=c+1->v= .slice (Hs ⟨b.ψ d,0,Hn⟩) n c)/\Ext B S S' w w'
def DR (C:Sim B S M s a w) {d n:Nat} {t N ty:TypeId} {x:EInfo} (hx:XS P t=Hs x) {base:Option Addr} {sLen sCap:Nat} {es ys:List PV} {olds news:List Value} {y:Value}
  (hd:s.m.q d=Hn\/ ∃V I e0,s.m.q d=Hs (.live V I e0)/\V<sLen+ys.length) (A:(Jm x.size sLen (.slice base sLen sCap)).run P w.drew= .ok olds.toArray w.drew)
  (f:es.length=sLen) (W:olds.length=sLen*x.size) (R:∀i j,i<es.length->j<x.size->Rep S (olds.getD (i*x.size+j) undef) ((es.getD i .any).cells.getD j .any))
  (g:Src P x.size N y ys.length news w) (Q:∀i j,i<ys.length->j<x.size->Rep S (news.getD (i*x.size+j) undef) ((ys.getD i .any).cells.getD j .any))
  (L:Sized x.size es) (K:Sized x.size ys) (U:sCap<sLen+ys.length) (p:ZkQ (sLen+ys.length) x.bytes):
  Ztn P B S s a w (Jz #[t,N] ty #[.slice base sLen sCap,y]) d (sLen+ys.length) x.size x.e (es++ys):=by
 obtain⟨i,z,h1,h2,h3,h4,Z,h6,h7,h8⟩:=YR hx;obtain⟨r1,X⟩:=p;have E:((sLen+ys.length:Nat):Int)<=9223372036854775807:=by simp only[maxLen]at X;omega
 have m:=run_append_grow_src (P:=P) w t N ty x.e i z h1 h2 h3 base sLen sCap olds (by rw[Z];exact A) y ys.length news (by rw[Z];exact g) U E
  (by rw[h6];exact growslice_fits U r1)
 have O:=grownCap_ge w (sLen+ys.length) sCap x.e;have F:=grownCap_le_maxLen w (sLen+ys.length) sCap x.e X;generalize Y:grownCap w (sLen+ys.length) sCap x.e=cap at *;have e:(olds++news).length=(sLen+ys.length)*x.size:=by rw[Jf,W,g.newsLen,Jg]
 let vs:List Value:=olds++news++(JM z.cells (cap-(sLen+ys.length))).toList;have J:vs.length=cap*x.size:=by
  show(olds++news++_).length=_;have D:(JM z.cells (cap-(sLen+ys.length))).toList.length=(cap-(sLen+ys.length))*x.size:=by
   rw[JC,size_zeroCells,h4]
  rw[Jf,e,D,<-Jg];congr 1;omega
 have q:(olds++news).toArray++JM z.cells (cap-(sLen+ys.length))=⟨vs⟩:=by
  apply JZ;simp[vs]
 rw[q]at m;have r:=C.newRow (w':=w.drew.alloc (.cells ⟨vs⟩ x.e)) hd O F J (λk G=>ZU w.drew _ G) (alloc_heap_new w.drew _);have l:SLe S (ZcN S w.heap.size ((sLen+ys.length)*x.size) vs):= .cells rfl λb o v hv=>by
  rw[XH];rw[if_neg];exact hv;rintro ⟨rfl,_⟩;rw[C.S_lt (Jj _)]at hv;cases hv
 refine⟨_,_,_,_,m,r,?_,by simp[f],?_,?_,l,?_,?_⟩;have:=T9 (S:=ZcN S w.heap.size ((sLen+ys.length)*x.size) vs) (b:=w.heap.size) (cap:=cap) (es:=es++ys) (sz:=x.size) (L.append K) (by simp;omega) (cells:=olds++news)
  (λk G=>by
   have u:k<(olds++news).length:=by rw[e];simpa[f]using G
   rw[XH,if_pos ⟨rfl,by rw[<-e];exact u⟩];show Hs ((olds++news++_).getD k undef)=_;rw[Zf u])
  (λi j hi hj=>(ZbD (by rw[W,f]) R Q i j hi hj).mono l)
 simpa[f]using this;intro h0;simp[Za]at h0;intro c T;simp only[Za,Jq]at T ⊢;rw[T];intro b hb;refine⟨λo=> ?_,rfl⟩;rw[XH,if_neg];rintro ⟨rfl,_⟩;exact C.new_ok hb;exact((BelowF.refl B w).drew).alloc C.hB _
def ZhP (V:Sim B S M s a w) {d n c:Nat} {t K ty:TypeId} {x:EInfo} (hx:XS P t=Hs x) {es ys:List PV} {news:List Value} {y:Value}
  (hd:s.m.q d=Hs (.live n x.size x.e)) (u:M.κ d=c+1) (hn:es.length=n) (N:Rep S (.slice (Hs ⟨M.ψ d,0,Hn⟩) n c) (.sl .no es))
  (e:Src P x.size K y ys.length news w) (L:∀i j,i<ys.length->j<x.size->Rep S (news.getD (i*x.size+j) undef) ((ys.getD i .any).cells.getD j .any))
  (p:Sized x.size es) (I:Sized x.size ys) (A:n+ys.length<=c):
  Ztn P B S s a w (Jz #[t,K] ty #[.slice (Hs ⟨M.ψ d,0,Hn⟩) n c,y]) d (n+ys.length) x.size x.e (es++ys):=by
 obtain⟨i,z,G,U,h3,h4,h5,h6,h7,Z⟩:=YR hx;subst hn;obtain⟨vs,Y,g2,Q,E,T⟩:=V.growRow (m:=ys.length) (news:=news) hd u A e.newsLen;simp only at T;have O:(es.length+ys.length)*x.size<=c*x.size:=Ja _ A;have R:(es.length+ys.length)*x.size=es.length*x.size+news.length:=by rw[Jg,e.newsLen]
 have f:=run_storeCells_at (P:=P) (M.ψ d) (es.length*x.size) x.e news 0 ⟨vs⟩ w Y (by simp;omega) e.one;simp only[JR]at f;have q:(Jz #[t,K] ty #[.slice (Hs ⟨M.ψ d,0,Hn⟩) es.length c,y]).run P w= .ok (.slice (Hs ⟨M.ψ d,0,Hn⟩) (es.length+ys.length) c) (w.setRow (M.ψ d) ⟨vs.take (es.length*x.size)++news++vs.drop (es.length*x.size+news.length)⟩):=by
  have e5:(sizeOf x.e).run P w= .ok x.size w:=by rw[YA U,Z]
  rcases e.kind with ⟨e',g⟩|g<;>simp[Jz,run_underlying G,run_underlying g,e5,e.len,A,e.cells,Addr.add_lit,f]
 obtain⟨cells,C,F,D⟩:=N.cells_of rfl p;have r:SLe S (ZuW S (M.ψ d) (es.length*x.size) ((es.length+ys.length)*x.size) (vs.take (es.length*x.size)++news++vs.drop (es.length*x.size+news.length))):= .cells rfl λb o v hv=>by
  show(if _ then _ else _)=Hs v;rw[if_neg];exact hv;rintro ⟨rfl,G,_⟩;rw[E o G]at hv;cases hv
 refine⟨_,_,_,_,q,T,?_,by simp,?_,?_,r,?_,Ym Q⟩;have:=T9 (b:=M.ψ d) (cap:=c) (es:=es++ys) (sz:=x.size) (S:=ZuW S (M.ψ d) (es.length*x.size) ((es.length+ys.length)*x.size) (vs.take (es.length*x.size)++news++vs.drop (es.length*x.size+news.length))) (p.append I) (by simp;omega) (cells:=cells++news)
  (λk u=>by
   simp only[Jf]at u;show(if _ then _ else _)=_
   by_cases J:k<es.length*x.size
   ·rw[if_neg (by omega),F k J,Zf (by omega)]
   ·rw[if_pos ⟨rfl,by omega,u⟩,Zg (l:=cells) (by omega),Zf (by simp;omega),Zg (by simp;omega)];congr 2;simp;omega)
  (λi j hi X=>(ZbD C D L i j hi X).mono r)
 simpa using this;intro h0;omega;intro c' xa;obtain rfl:c'=c:=by omega
 rfl;intro b W;refine⟨λo=> ?_,rfl⟩;show(if _ then _ else _)=_;rw[if_neg];rintro ⟨rfl,_⟩;exact Q W
def WT (P:Program) (b:TypeId) (y:PV):Option (List PV):=
 match tix P b,y with
 | .slc _ _,.sl _ ys=>Hs ys
 | .str,.str l=>Hs (Y8 l)
 |_,_=>Hn
def U7 (P:Program) (d:Nat) (t b:TypeId) (x y:PV) (m:Hp):ARes:=
 match XS P t,WT P b y,x with
 |some ei,Hs ys,.sl .nil _=>⟨m.q d=Hn/\Sized ei.size ys/\XF ys/\ZkQ ys.length ei.bytes,.sl (.row d) ys,m.setq d (.live ys.length ei.size ei.e)⟩
 |some ei,Hs ys,.sl (.row id) es=>match m.q id with
  |some (.live n sz e)=>⟨n=es.length/\sz=ei.size/\e=ei.e/\(d=id\/m.q d=Hn)/\Sized ei.size es/\Sized ei.size ys/\XF ys/\ZkQ (es.length+ys.length) ei.bytes,
    .sl (.row d) (es++ys),if d=id then m.setq d (.live (es.length+ys.length) ei.size ei.e)else(m.setq id .dead).setq d (.live (es.length+ys.length) ei.size ei.e)⟩
  |_=> .fail
 |_,_,_=> .fail
def X1 {t c ty:TypeId} {x:EInfo} (j:XS P t=Hs x) {base:Option Addr} {sLen sCap:Nat} (b:sLen<=sCap) {y:Value} {news:List Value} (d:Src P x.size c y 0 news w):
  (Jz #[t,c] ty #[.slice base sLen sCap,y]).run P w= .ok (.slice base sLen sCap) w:=by
 obtain⟨i,z,f,e,m,n,g,p,l,o⟩:=YR j;have k:news= []:=Jc (by simpa using d.newsLen);subst k;exact run_append_nothing w t c ty x.e i f e base sLen sCap b y (by rw[g];exact d)
theorem ZgY (C:Sim B S M s a w) {d:Nat} {t W ty:TypeId} {u v:Value} {p y:PV} (hu:RepS S M s.m.q u p) (xl:∀i∈p.ids,ZI s.m i) (hv:RepS S M s.m.q v y)
  (q:(U7 P d t W p y s.m).ok):Snd P B S s a w (Jz #[t,W] ty #[u,v]) (U7 P d t W p y s.m):=by
 have src:∀ {ei:EInfo} {ys:List PV},WT P W y=Hs ys->Sized ei.size ys->XF ys->0<ei.size-> ∃news:List Value,Src P ei.size W v ys.length news w/\ ∀i j,i<ys.length->j<ei.size->Rep S (news.getD (i*ei.size+j) undef) ((ys.getD i .any).cells.getD j .any):=by
  intro ei ys F hz xb xj;unfold WT at F;split at F;rename_i xn ea tk xm K;cases F;obtain⟨e,d',ti,E,_⟩:=Sd K;exact hv.sl_inv.src C.stable hz xb E;rename_i l K;cases F;have E:=ZeV K;rw[hv.str_inv];by_cases h0:l= [];subst h0;refine⟨[],?_,λi j g=>by simp[Y8]at g⟩;refine⟨.inr E,λ_=>rfl,?_,?_,by simp[Y8],λ_ h=>by cases h⟩;simp[Jm,Y8];simp[Jm,Y8];have e1:ei.size=1:=by
   obtain⟨c,l',rfl⟩:=Kc h0;exact(hz (.int .u8 c.toNat) (by simp[Y8])).symm
  rw[e1];exact ZdH E l;cases F
 -- the row keeps its name,or goes under another one
 have close:∀ {n sz:Nat} {e:TypeId} {es:List PV} {id:Nat} {ok:Prop} {m:Sem Value},Ztn P B S s a w m id n sz e es->(d=id\/(s.m.q d=Hn/\s.m.q id≠Hn))->
   Snd P B S s a w m ⟨ok,.sl (.row d) es,if d=id then s.m.setq d (.live n sz e)else(s.m.setq id .dead).setq d (.live n sz e)⟩:=by
  intro n sz e es id ok m D o;obtain⟨v',w',S',O,E,Y,h3,h4,h5,h6,L⟩:=D
  by_cases hd:d=id
  ·subst hd;refine⟨v',w',S',O,E,?_,?_,?_,L⟩
   ·simp only[if_true];exact Y
   ·simp only[if_true];refine .row d v' es h3 λn' R e' f=> ?_
    simp only[Hp.setq,Za]at f;cases f;exact⟨by omega,λ_=>⟨h5,h6⟩⟩
   ·intro i g;simp only[PV.ids,Jy]at g;subst g;simp[ZI,Hp.setq,Za]
  ·rcases o with o|⟨xi,xk⟩
   ·exact absurd o hd
   ·have xf:(s.with (s.m.setq id (.live n sz e))).m.q id=Hs (.live n sz e):=Za _ _ _;have xh:(s.with (s.m.setq id (.live n sz e))).m.q d=none:=by
     show upd s.m.q id _ d=Hn;rw[Zb _ _ (Jt hd)];exact xi
    have Q:=Y.moveRow xf xh;simp only[St.with,Hp.setq,ZbV]at Q;refine⟨v',w',S',{ O with ψ:=upd O.ψ d (O.ψ id),κ:=upd O.κ d (O.κ id) },E,?_,?_,?_,L⟩
    ·simp only[if_neg hd];exact Q
    ·simp only[if_neg hd];refine .row d v' es h3 λn' R e' f=> ?_
     simp only[Hp.setq,Za]at f;cases f;refine⟨by omega,λ_=> ?_⟩;simp only[Za];exact⟨h5,h6⟩
    ·intro i g;simp only[PV.ids,Jy]at g;subst g;simp[ZI,Hp.setq,Za,if_neg hd]
 revert q;unfold U7;split;rename_i ei ys es G F;rintro ⟨g1,g2,g3,X⟩;obtain⟨i,z,E,Y,h3,h4,h5,h6,L,h8⟩:=YR G;obtain⟨news,b,x⟩:=src F g2 g3 L;rw[hu.slnil_inv];have base:∀(w:World),(Jm ei.size 0 (.slice Hn 0 0)).run P w= .ok ([]:List Value).toArray w:=λw=>by simp[Jm]
 by_cases hm:ys.length=0;have e0:ys= []:=Jc hm;subst e0;have A:=X1 (ty:=ty) G (base:=Hn) (Jj 0) b;refine⟨_,w,S,{ M with κ:=upd M.κ d 0 },A,C.nilRow g1,?_,?_,Ext.refl _ _ _⟩;refine .row d _ [] (.sl0 Hn 0) λn' R e' f=> ?_
 simp only[Hp.setq,Za]at f;cases f;exact⟨Jj _,λ_=>⟨λ_=>rfl,λc Z=>by simp[Za]at Z⟩⟩;intro i g;simp only[PV.ids,Jy]at g;subst g;simp[ZI,Hp.setq,Za];have D:=DR (n:=0) C (d:=d) (ty:=ty) G (.inl g1) (es:= []) (olds:= []) (base w.drew) rfl (by simp) (λi j g=>by simp at g) b x (λ_ h=>by cases h) g2 (by omega) (by simpa using X);simp only[JA,K1]at D;have:=close (ok:=s.m.q d=Hn/\Sized ei.size ys/\XF ys/\ZkQ ys.length ei.bytes) D (.inl rfl);simpa using this;rename_i ei ys id es G F;split;rename_i n sz e f;rintro ⟨g0,g1,g2,g3,X,g5,g6,g7⟩;subst g0;subst g1;subst g2;obtain⟨i,z,E,Y,h3,h4,h5,h6,L,h8⟩:=YR G;obtain⟨news,b,x⟩:=src F g5 g6 L;have o:d=id\/(s.m.q d=Hn/\s.m.q id≠Hn):=g3.imp (λh=>h) (λh=>⟨h,by rw[f];simp⟩);refine close ?_ o;have V:Rep S u (.sl .no es)/\(M.κ id=0->u= .slice Hn 0 0)/\(∀c,M.κ id=c+1->u= .slice (Hs ⟨M.ψ id,0,Hn⟩) es.length c):=by
  cases hu with
  |clean r=>cases r
  |row id v es r t=>obtain⟨_,t2⟩:=t _ _ _ f;exact⟨r,t2 rfl⟩
 obtain⟨U,k0,k1⟩:=V;obtain⟨r0,r1⟩:=C.row id _ f;have self:s.m.setq id (.live es.length ei.size ei.e)=s.m:=by
  have:upd s.m.q id (Hs (.live es.length ei.size ei.e))=s.m.q:=by
   funext k;by_cases e:id=k;subst e;simp[upd,f];simp[upd,e]
  unfold Hp.setq;rw[this]
 cases N:M.κ id with
 |zero=>
  have I:=k0 N;have xc:es= []:=Jc (r0 N);subst xc;subst I;by_cases hm:ys.length=0;have e0:ys= []:=Jc hm;subst e0;have A:=X1 (ty:=ty) G (base:=Hn) (Jj 0) b;refine⟨_,w,S,M,A,?_,.sl0 Hn 0,rfl,λ_=>rfl,λc Z=>(by rw[N]at Z;cases Z),Ext.refl _ _ _⟩;simp only[Ko,JR]at self ⊢;rw[self];exact C;have base:∀(w:World),(Jm ei.size 0 (.slice Hn 0 0)).run P w= .ok ([]:List Value).toArray w:=λw=>by simp[Jm]
  exact DR (n:=0) C (d:=id) (ty:=ty) G (.inr ⟨_,_,_,f,by simp;omega⟩) (es:= []) (olds:= []) (base w.drew) rfl (by simp) (λi j g=>by simp at g) b x (λ_ h=>by cases h) g5 (by omega) (by simpa using g7)
 |succ c=>
  have I:=k1 c N;subst I;obtain⟨q1,q2,q3,⟨vs,q4,q5⟩,q6⟩:=r1 c N;by_cases J:es.length+ys.length<=c;exact ZhP C G f N rfl U b x X g5 J;obtain⟨cells,T,xg,xe⟩:=U.cells_of rfl X;refine DR (n:=0) C (d:=id) (ty:=ty) G (.inr ⟨_,_,_,f,by omega⟩) (es:=es) (olds:=cells) ?_ rfl T xe b x X g5 (by omega) g7;refine run_firstCells_some w.drew ei.size es.length ⟨M.ψ id,0,Hn⟩ es.length c cells T (λj u hj=> ?_);obtain⟨xa,xd⟩:=JK.1 hj;have:=C.stable _ _ _ (xg j (by omega));rw[getD_lt xa,xd]at this;rw[Z7,JA];exact this
 exact λq=>q.elim
 exact λq=>q.elim
end
open Go.RowKit
def aUn (op:UnOp) (x:PV) (m:Hp):ARes:=
 match op,x with
 | .not,.bool b=>⟨True,.bool (!b),m⟩
 | .neg,.int k n=>⟨True,.int k (k.wrap (0-n)),m⟩
 | .neg,.flt k b=>⟨True,.flt k (Op.negFloat k b),m⟩
 |_,_=> .fail
inductive CvK where
 |int (k:IntKind)|same|bytes|none|flt (k:FloatKind)
def tcv (P:Program) (src dst:TypeId):CvK:=
 match P.underlying src,P.underlying dst with
 |some _,Hs (.int k)=> .int k
 |some _,Hs (.float k)=> .flt k
 |some .string,Hs .string=> .same
 |some (.slice e),Hs .string=>match P.underlying e with|some (.int .u8)=> .bytes|_=> .none
 |_,_=> .none
def DT:List PV->Option (List UInt8)
 | []=>Hs []
 | .int .u8 n::r=>if 0<=n/\n<256 then(match DT r with|some l=>Hs (UInt8.ofNat n.toNat::l)|none=>Hn)else Hn
 |_::_=>Hn
def TC (P:Program) (src dst:TypeId) (x:PV) (m:Hp):ARes:=
 match tcv P src dst,x with
 | .int k,.int _ n=>⟨True,.int k (k.wrap n),m⟩
 | .flt k,.int _ n=>⟨True,.flt k (k.nearest n),m⟩
 | .int k,.flt s b=>match(s.decode b).toInt .zero with
  |some n=>⟨k.min<=n/\n<=k.max,.int k n,m⟩
  |none=> .fail
 | .same,.str l=>⟨True,.str l,m⟩
 | .bytes,.sl _ es=>match DT es with
  |some l=>⟨True,.str l,m⟩
  |none=> .fail
 | .bytes,.osl id off len _=>match m.h id with
  |some cs=>match DT ((cs.drop off).take len)with
   |some l=>⟨off+len<=cs.length,.str l,m⟩
   |none=> .fail
  |none=> .fail
 |_,_=> .fail
def Vo (x:PV) (i:Nat) (m:Hp):ARes:=
 match x with
 | .tup vs=>⟨i<vs.length,vs.getD i .any,m⟩
 |_=> .fail
def Zca (c x y:PV) (m:Hp):ARes:=
 match c with
 | .bool Ht=>⟨True,x,m⟩
 | .bool Hf=>⟨True,y,m⟩
 |_=> .fail
def XG (x:PV) (m:Hp):ARes:=
 match x with
 | .ptr id o=>⟨True,.ptr id o,m⟩
 | .rptr cs=>⟨True,.rptr cs,m⟩
 | .fn f cs=>⟨True,.fn f cs,m⟩
 |_=> .fail
inductive LenK where
 |arr (n:Nat)|slc|str|none
def ZdR (P:Program) (t:TypeId):LenK:=
 match P.underlying t with
 |some (.array n _)=> .arr n
 |some (.slice _)=> .slc
 |some .string=> .str
 |some (.pointer e)=>match P.underlying e with|some (.array n _)=> .arr n|_=> .none
 |_=> .none
def Zqk (P:Program) (t:TypeId) (x:PV) (m:Hp):ARes:=
 match ZdR P t,x with
 | .arr n,_=>⟨True,.int .i64 n,m⟩
 | .slc,.sl _ es=>⟨True,.int .i64 es.length,m⟩
 | .slc,.osl _ _ n _=>⟨True,.int .i64 n,m⟩
 | .slc,.vsl _ n _=>⟨True,.int .i64 n,m⟩
 | .str,.str l=>⟨True,.int .i64 l.length,m⟩
 |_,_=> .fail
def Zql (x y:PV) (m:Hp):ARes:=
 match x,y with
 | .int k a,.int k' b=>⟨k=k',.int k (max a b),m⟩
 |_,_=> .fail
def Zqm (x y:PV) (m:Hp):ARes:=
 match x,y with
 | .int k a,.int k' b=>⟨k=k',.int k (min a b),m⟩
 |_,_=> .fail
def Zqh (x y:PV) (m:Hp):ARes:=
 match x,y with
 | .flt k a,.flt k' b=>⟨k=k',.cpx k a b,m⟩
 |_,_=> .fail
def Zd4 (x:PV) (m:Hp):ARes:=
 match x with
 | .cpx k a _=>⟨True,.flt k a,m⟩
 |_=> .fail
def Zd3 (x:PV) (m:Hp):ARes:=
 match x with
 | .cpx k _ b=>⟨True,.flt k b,m⟩
 |_=> .fail
section
variable {P:Program} {B:Frm} {S:Stable} {M:Maps} {s:St} {a:Act} {w:World}
def Snd.clean (e:Sim B S M s a w) {m:Sem Value} {ok:Prop} {p:PV} {v:Value} (d:m.run P w= .ok v w) (b:Rep S v p):Snd P B S s a w m ⟨ok,p,s.m⟩:=
 Snd.pure e d (.clean b) (λi c=>absurd c (b.clean_ids i))
def Zo6 (f:Sim B S M s a w) {c:Array TypeId} {ty:TypeId} {u v:Value} {p q:PV} (d:RepS S M s.m.q u p) (hv:RepS S M s.m.q v q) (b:(Zqh p q s.m).ok):Snd P B S s a w (Builtin.complex_ c ty #[u,v]) (Zqh p q s.m):=by
 revert b;unfold Zqh;split;intro b;have e:=b;simp only at e;subst e;rw[d.flt_inv,hv.flt_inv];exact Snd.clean f (by show(if _ then _ else _:Sem Value).run P w=_;rw[if_pos rfl];rfl) (.cpx _ _ _);exact λb=>b.elim
def Zl5 (e:Sim B S M s a w) {c:Array TypeId} {ty:TypeId} {u:Value} {p:PV} (d:RepS S M s.m.q u p) (b:(Zd4 p s.m).ok):Snd P B S s a w (Builtin.real_ c ty #[u]) (Zd4 p s.m):=by
 revert b;unfold Zd4;split;intro _;rw[d.cpx_inv];exact Snd.clean e (by rfl) (.flt _ _);exact λb=>b.elim
def Zl3 (e:Sim B S M s a w) {c:Array TypeId} {ty:TypeId} {u:Value} {p:PV} (d:RepS S M s.m.q u p) (b:(Zd3 p s.m).ok):Snd P B S s a w (Builtin.imag_ c ty #[u]) (Zd3 p s.m):=by
 revert b;unfold Zd3;split;intro _;rw[d.cpx_inv];exact Snd.clean e (by rfl) (.flt _ _);exact λb=>b.elim
def Zsa (d:Sim B S M s a w) {op:UnOp} {u:Value} {p:PV} (c:RepS S M s.m.q u p) (b:(aUn op p s.m).ok):Snd P B S s a w (K6 op u) (aUn op p s.m):=by
 revert b;unfold aUn;split;intro _;rw[c.bool_inv];exact Snd.clean d (by simp[K6]) (.bool _);intro _;rw[c.int_inv];exact Snd.clean d (by simp[K6,Qk]) (.int _ _);intro _;rw[c.flt_inv];exact Snd.clean d (by simp[K6]) (.flt _ _);exact λb=>b.elim
theorem DU:∀ {es:List PV} {l:List UInt8},DT es=Hs l->l.length=es.length/\ ∀j (b:j<l.length),es.getD j .any= .int .u8 (l[j].toNat:Int)
 | [],l,h=>by
  simp only[DT,Jn.injEq]at h;subst h;exact⟨rfl,λj b=>by simp at b⟩
 |e::es,l,h=>by
  unfold DT at h;split at h;rename_i d;cases d;rename_i n r d;cases d;split at h;rename_i k;split at h;rename_i i c;cases h;obtain⟨g,f⟩:=DU c;refine⟨by simp[g],λj b=> ?_⟩;cases j with
  |zero=>
   simp only[JV,List.getElem_cons_zero];congr 1;rw[UInt8.toNat_ofNat'];omega
  |succ j=>simpa using f j (by simpa using b)
  cases h;cases h;cases h
theorem Zl2 (m:Sim B S M s a w) {src dst:TypeId} {u:Value} {p:PV} (z:RepS S M s.m.q u p) (f:(TC P src dst p s.m).ok):Snd P B S s a w (convert src dst u) (TC P src dst p s.m):=by
 revert f;unfold TC;split;rename_i k R n c;intro _;rw[z.int_inv];unfold tcv at c;split at c;rename_i d T x i;cases c;exact Snd.clean m (by simp[convert,ZH x,ZH i,Conv.intToInt]) (.int _ _);cases c;cases c;split at c<;>cases c
 cases c;rename_i k R n c;intro _;rw[z.int_inv];unfold tcv at c;split at c;cases c;rename_i d T _ x i;cases c;exact Snd.clean m (by simp[convert,ZH x,ZH i,Conv.intToFloat]) (.flt _ _);cases c;split at c<;>cases c
 cases c;rename_i k R b c;split;rename_i n hn;rintro ⟨W,g2⟩;rw[z.flt_inv];unfold tcv at c;split at c;rename_i d T x i;cases c;exact Snd.clean m (by simp[convert,ZH x,ZH i,Conv.floatToInt,hn,W,g2]) (.int _ _);cases c;cases c;split at c<;>cases c
 cases c;exact λf=>f.elim
 rename_i l c;intro _;rw[z.str_inv];unfold tcv at c;split at c;cases c;cases c;rename_i x i;exact Snd.clean m (by simp[convert,ZH x,ZH i]) (.str _);split at c<;>cases c
 cases c;rename_i t es c;split;rename_i l O;intro _;obtain⟨I,L⟩:=DU O;have K:=z.sl_inv;have ty:∃e,P.underlying src=Hs (.slice e)/\P.underlying e=Hs (.int .u8)/\P.underlying dst=Hs .string:=by
  unfold tcv at c;split at c;cases c;cases c;cases c;rename_i e x i;split at c;rename_i D;exact⟨e,x,D,i⟩;cases c;cases c
 obtain⟨e,A,C,G⟩:=ty;cases K with
 |sl0 a0 cap=>
  have:l= []:=Jc (by simpa using I);subst this;cases a0 with
  |none=>exact Snd.clean m (v:= .string ⟨⟨[]⟩⟩) (by rw[run_convert_bytes_string w src dst e Hn 0 cap A C G];simp[Conv.bytesToString];rfl) (.str [])
  |some ad=>exact Snd.clean m (v:= .string ⟨⟨[]⟩⟩) (run_convert_bytes_back w src dst e ad cap [] A C G (λj r=>by simp at r)) (.str [])
 |sl b o cap sz _ vals hsz hcap hS hR=>
  have key:=run_convert_bytes_back (P:=P) w src dst e ⟨b,o,Hn⟩ cap l A C G (λj r=>by
   have g:j<es.length:=by rw[<-I];exact r
   have E:=L j r;have U:sz=1:=by have:=hsz j g;rw[E]at this;simpa[PV.cells]using this.symm
   subst U;have y:=hR j 0 g (by omega);rw[E]at y;have Y:vals j 0= .int .u8 (l[j].toNat:Int):=by
    simp only[PV.cells,JV]at y;exact(RepS.clean (M:=M) (q:=s.m.q) y).int_inv
   have:=m.stable _ _ _ (hS j 0 g (by omega));rw[Y,Qm,JR]at this;rw[Z7];exact this)
  rw[I]at key;exact Snd.clean m key (.str l)
 exact λf=>f.elim
 rename_i id off len sz c;split;rename_i cs N;split;rename_i l O;intro xa;obtain⟨I,L⟩:=DU O;have ty:∃e,P.underlying src=Hs (.slice e)/\P.underlying e=Hs (.int .u8)/\P.underlying dst=Hs .string:=by
  unfold tcv at c;split at c;cases c;cases c;cases c;rename_i e x i;split at c;rename_i D;exact⟨e,x,D,i⟩;cases c;cases c
 obtain⟨e,A,C,G⟩:=ty;obtain⟨cap,_,rfl⟩:=z.osl_inv;have hh:∃vals:Nat->Value,(∀j,j<cs.length->w.cell? ⟨M.φ id,j,Hn⟩=Hs (vals j))/\(∀j,j<cs.length->RepS S M s.m.q (vals j) (cs.getD j .any)):=by
  have J:=m.blk id _ N;cases Q:s.m.z id with
  |false=>
   rw[Q]at J;obtain⟨_,_,⟨vs,ty,D,h4,Z⟩,h6⟩:=J;refine⟨λj=>vs.getD j undef,λj r=> ?_,Z⟩;rw[Yu D,Je (by omega)];show Hs _=Hs (vs.getD j undef);rw[getD_lt (by omega)]
  |true=>
   rw[Q]at J;obtain⟨vals,hv⟩:=J;exact⟨vals,λj r=>m.stable _ _ _ (hv j r).1,λj r=> .clean (hv j r).2⟩
 obtain⟨vals,V,K⟩:=hh;have F:l.length=len:=by rw[I];simp;omega
 have key:=run_convert_bytes_back (P:=P) w src dst e ⟨M.φ id,off,Hn⟩ cap l A C G (λj r=>by
  have E:=L j r;have g:off+j<cs.length:=by omega
  have X:((cs.drop off).take len).getD j .any=cs.getD (off+j) .any:=by
   simp only[Js];rw[Kh (by omega),KF]
  rw[X]at E;have y:=K _ g;rw[E]at y;rw[Z7,V _ g,y.int_inv])
 rw[F]at key;exact Snd.clean m key (.str l);exact λf=>f.elim
 exact λf=>f.elim
 exact λf=>f.elim
def ZeO (e:Sim B S M s a w) {u:Value} {p:PV} {i:Nat} (f:RepS S M s.m.q u p) (d:∀i∈p.ids,ZI s.m i) (b:(Vo p i s.m).ok):Snd P B S s a w (K8 u i) (Vo p i s.m):=by
 revert b;unfold Vo;split;rename_i vs;intro c;simp only at c;obtain⟨us,rfl,l,j⟩:=f.tup_inv;refine Snd.pure e (v:=us.getD i undef) ?_ (j i c) (λk g=>d k (PV.mem_idsL.2 ⟨_,Zc c,g⟩));rw[getD_lt (by omega)];have:i<us.length:=by omega
 simp[K8,this];exact λb=>b.elim
def Zo9 (f:Sim B S M s a w) {t ty:TypeId} {u:Value} {p:PV} (g:RepS S M s.m.q u p) (d:(Zqk P t p s.m).ok):Snd P B S s a w (JT #[t] ty #[u]) (Zqk P t p s.m):=by
 revert d;unfold Zqk;split;rename_i n x b;intro _;unfold ZdR at b;split at b;rename_i c;cases b;exact Snd.clean f (by simp[JT,ZH c,goInt]) (.int _ _);cases b;cases b;rename_i e c;split at b;rename_i i;cases b;exact Snd.clean f (by simp[JT,ZH c,ZH i,goInt]) (.int _ _);cases b;cases b;rename_i k es b;intro _;obtain⟨j,cap,rfl,_⟩:=g.sl_inv.sl_len;unfold ZdR at b;split at b;cases b;rename_i c;exact Snd.clean f (by simp[JT,ZH c,goInt]) (.int _ _);cases b;split at b<;>cases b
 cases b;rename_i id off n sz b;intro _;obtain⟨cap,_,rfl⟩:=g.osl_inv;unfold ZdR at b;split at b;cases b;rename_i c;exact Snd.clean f (by simp[JT,ZH c,goInt]) (.int _ _);cases b;split at b<;>cases b
 cases b;rename_i id n sz b;intro _;obtain⟨⟨j,cap,hv,_⟩,_⟩:=g.vsl_inv;unfold ZdR at b;split at b;cases b;rename_i c;exact Snd.clean f (by simp[hv,JT,ZH c,goInt]) (.int _ _);cases b;split at b<;>cases b
 cases b;rename_i l b;intro _;rw[g.str_inv];unfold ZdR at b;split at b;cases b;cases b;rename_i c;exact Snd.clean f (v:= .int .i64 l.length) (by simp[JT,ZH c,goInt];rfl) (.int _ _);split at b<;>cases b
 cases b;exact λd=>d.elim
def Zpa (d:Sim B S M s a w) {f:Array TypeId} {ty:TypeId} {u v:Value} {p q:PV} (g:RepS S M s.m.q u p) (hv:RepS S M s.m.q v q) (b:(Zql p q s.m).ok):Snd P B S s a w (Qe f ty #[u,v]) (Zql p q s.m):=by
 revert b;unfold Zql;split;rename_i k x i y;intro c;rw[g.int_inv,hv.int_inv];simp only at c;subst c;have e:(if y>x then y else x)=max x y:=by rw[Int.max_def];split<;>split<;>omega
 exact Snd.clean d (v:= .int k (max x y)) (by simp[Qe,Builtin.max2];omega) (.int _ _);exact λb=>b.elim
def Zpb (d:Sim B S M s a w) {e:Array TypeId} {ty:TypeId} {u v:Value} {p q:PV} (f:RepS S M s.m.q u p) (hv:RepS S M s.m.q v q) (b:(Zqm p q s.m).ok):Snd P B S s a w (Qf e ty #[u,v]) (Zqm p q s.m):=by
 revert b;unfold Zqm;split;rename_i k x g y;intro c;rw[f.int_inv,hv.int_inv];simp only at c;subst c;exact Snd.clean d (v:= .int k (min x y)) (by simp[Qf,Builtin.min2];omega) (.int _ _);exact λb=>b.elim
end
end Go.PL
namespace Go.PL
open Go.RowKit
def TO (place:Nat->Option (Nat×Nat)):List PV->List (Nat×PV)->Option (List PV)
 |cs,[]=>Hs cs
 |cs,(i,p)::rest=>match place i with
  |none=>Hn
  |some (o,sz)=>if p.known=Ht/\p.cells.length=sz/\o+sz<=cs.length then TO place (YT cs o p.cells) rest else Hn
inductive BdK where
 |str (fs:List (Nat×Nat)) (z:List PV)
 |arr (esz:Nat) (z:List PV)
 |none
def tbd (P:Program) (t:TypeId):BdK:=
 match P.info? t with
 |some i=>match i.zero with
  |some z=>match P.underlying t with
   |some (.struct fs)=>if(fs.all λf=>(P.info? f.type).isSome)&&(XP z).known then .str (fs.toList.map λf=>(f.offset,tsz P f.type)) (XP z).cells else .none
   |some (.array _ e)=>if(P.info? e).isSome&&(XP z).known then .arr (tsz P e) (XP z).cells else .none
   |_=> .none
  |none=> .none
 |none=> .none
def S7 (P:Program) (t:TypeId) (parts:List (Nat×PV)) (m:Hp):ARes:=
 match tbd P t with
 | .str fs z=>match TO (fs[·]?) z parts with
  |some cs=>⟨True,.agg cs,m⟩
  |none=> .fail
 | .arr esz z=>match TO (λi=>Hs (i*esz,esz)) z parts with
  |some cs=>⟨True,.agg cs,m⟩
  |none=> .fail
 | .none=> .fail
section
variable {P:Program} {B:Frm} {S:Stable} {M:Maps} {s:St} {a:Act} {w:World}
theorem Zf5 (l:List Value):∀(k:Nat) (cs:Array Value) (off:Nat),off+k+l.length<=cs.size->
  (l.zipIdx k).foldl (λcs x=>cs.setIfInBounds (off+x.2) x.1) cs=⟨cs.toList.take (off+k)++l++cs.toList.drop (off+k+l.length)⟩:=by
 induction l with
 |nil=>intro k cs off h;simp
 |cons v l ih=>
  intro k cs off h;simp only[KP,List.foldl_cons];rw[ih (k+1) _ off (by simp at h ⊢;omega)];congr 1;simp only[Array.toList_setIfInBounds];apply List.ext_getElem?;intro j;simp only[JI]at h;have i:off+k<cs.toList.length:=by simp;omega
  simp only[KJ,List.getElem?_append,Jk,K0,JC,List.getElem?_take,KF,List.getElem?_set,JI];have m1:min (off+(k+1)) cs.size=off+k+1:=by omega
  have m2:min (off+k) cs.size=off+k:=by omega
  rw[m1,m2];by_cases c1:j<off+k;have:j<off+k+1:=by omega
  have e:¬off+k=j:=by omega
  simp[c1,this,e];omega;by_cases f:j=off+k;subst f;have:off+k<cs.size:=by omega
  simp[this];have c:¬j<off+k+1:=by omega
  simp only[c1,c,if_false];have d:j-(off+k)=(j-(off+k+1))+1:=by omega
  rw[d];simp only[JI,List.getElem?_cons_succ];by_cases b:j-(off+k+1)<l.length;have:j-(off+k+1)+1<l.length+1:=by omega
  simp[b];have:¬j-(off+k+1)+1<l.length+1:=by omega
  simp only[b,this,if_false];have g:¬off+k=off+(k+1)+l.length+(j-(off+k+1)-l.length):=by omega
  simp only[g,if_false];congr 1;omega
theorem Zia {place:Nat->Option (Nat×Nat)}:∀(parts:List (Nat×PV)) (vparts:List (Nat×Value)) (cs cs':List PV) (vs:List Value),
  vparts.length=parts.length->(∀i,i<parts.length->(vparts.getD i (0,undef)).1=(parts.getD i (0,.any)).1/\RepS S M s.m.q (vparts.getD i (0,undef)).2 (parts.getD i (0,.any)).2)->
  RepL S M s.m.q vs cs->TO place cs parts=Hs cs'-> ∃vs',JN place ⟨vs⟩ vparts=Hs ⟨vs'⟩/\RepL S M s.m.q vs' cs'/\ ∀k∈PV.idsL cs',k∈PV.idsL cs\/ ∃x∈parts,k∈x.2.ids
 | [],vparts,cs,cs',vs,hl,_,hr,h=>by
  have:vparts= []:=Jc (by simpa using hl);subst this;simp only[TO,Jn.injEq]at h;subst h;exact⟨vs,rfl,hr,λk t=> .inl t⟩
 |(i,p)::rest,[],cs,cs',vs,hl,_,hr,h=>by simp at hl
 |(i,p)::rest,(i',v)::vrest,cs,cs',vs,hl,hp,hr,h=>by
  obtain⟨F,hv⟩:=hp 0 (by simp);simp only[JV]at F hv;subst F;simp only[TO]at h;split at h;cases h;rename_i o sz C;split at h;rename_i b;obtain⟨m,L,N⟩:=b;obtain⟨ys,r,l,A⟩:=hv.cells_inv m;have g:ys.length=sz:=by omega
  have z:vs.length=cs.length:=hr.1;have u:RepL S M s.m.q (vs.take o++ys++vs.drop (o+ys.length)) (YT cs o p.cells):=by
   refine⟨by simp[YT,z,l],λj n=> ?_⟩;have e:j<cs.length:=by simp[YT]at n;omega
   unfold YT;rw[WP (by omega),WP (by omega),l];split;exact hr.2 j e;split;exact A _ (by omega);exact hr.2 j e
  obtain⟨vs',E,G,J⟩:=Zia rest vrest (YT cs o p.cells) cs' (vs.take o++ys++vs.drop (o+ys.length)) (by simpa using hl) (λj n=>by simpa using hp (j+1) (by simpa using n)) u h;refine⟨vs',?_,G,λk t=> ?_⟩;simp only[JN,C,r];have O:(⟨ys⟩:Array Value).size=sz:=by simp[g]
  have q:¬((decide ((⟨ys⟩:Array Value).size≠sz)||decide (o+(⟨ys⟩:Array Value).size>(⟨vs⟩:Array Value).size))=Ht):=by
   simp only[J3,Kq,decide_eq_true_eq,not_or];omega
  rw[if_neg q];have D:=Zf5 ys 0 ⟨vs⟩ o (by simp;omega);simp only[JR]at D;have f:Qo (λcs x=>cs.setIfInBounds (o+x.2) x.1) (⟨vs⟩:Array Value) (Qg ⟨ys⟩)=⟨vs.take o++ys++vs.drop (o+ys.length)⟩:=by
   rw[<-KG];simpa using D
  first|(rw[f];exact E)|(simp only[f];exact E)
  rcases J k t with I|⟨x,K,y⟩;obtain⟨c,b,d⟩:=PV.mem_idsL.1 I;simp only[YT,JL]at b;rcases b with (b|b)|b;exact .inl (PV.mem_idsL.2 ⟨c,JG b,d⟩);exact .inr ⟨(i',p),by simp,Yv b d⟩;exact .inl (PV.mem_idsL.2 ⟨c,JF b,d⟩);exact .inr ⟨x,by simp[K],y⟩;cases h
end
open Go.RowKit
section
variable {P:Program} {B:Frm} {S:Stable} {M:Maps} {s:St} {a:Act} {w:World}
theorem Dt {α β:Type} (g:α->Sem β) (b:α->β) (w:World):∀(l:List α),(∀x∈l,(g x).run P w= .ok (b x) w)->(l.mapM g).run P w= .ok (l.map b) w
 | [],_=>by simp
 |x::l,h=>by
  have c:=Dt g b w l (λy d=>h y (by simp[d]));simp[List.mapM_cons,h x (by simp),c]
def Zcn {α β:Type} (g:α->Sem β) (b:α->β) (w:World) (l:Array α) (h:∀x∈l,(g x).run P w= .ok (b x) w):(l.mapM g).run P w= .ok (l.map b) w:=by
 rw[Array.mapM_eq_mapM_toList];simp only[Sem.run_map,Dt g b w l.toList (λx c=>h x (by simpa using c)),Jb];congr 1;apply JZ;simp
theorem ZiN (N:Sim B S M s a w) {t:TypeId} {parts:List (Nat×PV)} {vparts:List (Nat×Value)} (O:vparts.length=parts.length)
  (hp:∀i,i<parts.length->(vparts.getD i (0,undef)).1=(parts.getD i (0,.any)).1/\RepS S M s.m.q (vparts.getD i (0,undef)).2 (parts.getD i (0,.any)).2) (Q:∀x∈parts,∀i∈x.2.ids,ZI s.m i)
  (d:(S7 P t parts s.m).ok):Snd P B S s a w (KY t ⟨vparts⟩) (S7 P t parts s.m):=by
 have zero:∀ {i:TypeInfo} {z:Value},P.info? t=Hs i->i.zero=Hs z->(XP z).known=Ht->(zeroValue t).run P w= .ok z w/\ ∃j:List Value,z.cells=⟨j⟩/\RepL S M s.m.q j (XP z).cells/\PV.idsL (XP z).cells= []:=by
  intro i z E A D;refine⟨by simp[zeroValue,GF E,A],?_⟩;obtain⟨j,G,p,F⟩:=(RepS.clean (S:=S) (M:=M) (q:=s.m.q) (Ve S z)).cells_inv D;refine⟨j,G,⟨p,F⟩,?_⟩;have:=W7 z;cases L:XP z with
  |agg cs=>rw[L]at this;simpa[PV.cells,PV.ids]using this
  |_=>rw[L]at this;simpa[PV.cells,PV.idsL]using this
 revert d;unfold S7;split;rename_i fs z b;unfold tbd at b;split at b;rename_i i E;split at b;rename_i U A;split at b;rename_i l K;split at b;rename_i c;cases b;simp only[KQ]at c;obtain⟨m,j,u,r,o⟩:=zero E A c.2;split;rename_i cs' C;intro _;obtain⟨vs',G,p,F⟩:=Zia (S:=S) (M:=M) (s:=s) parts vparts _ cs' j O hp r C;refine Snd.pure N (v:= .agg ⟨vs'⟩) ?_ (.agg vs' cs' p.1 p.2) (λk D=> ?_);have T:=Zcn (P:=P) (λf:Field=>do pure (f.offset,<-sizeOf f.type)) (λf=>(f.offset,tsz P f.type)) w l (λf C=>by
  have y:(P.info? f.type).isSome=true:=by
   have:=c.1;rw[Array.all_eq_true']at this;exact this f C
  obtain⟨V,I⟩:=Ki.1 y;simp[YA I])
 simp only[KY,Ji,m,Jb,ZH K,T,u];have g:(λ(x:Nat)=>(l.map λf=>(f.offset,tsz P f.type))[x]?)=(λ(x:Nat)=>(Ky (λf:Field=>(f.offset,tsz P f.type)) l.toList)[x]?):=by
  funext x;simp
 rw[g,G];simp;rcases F k (by simpa[PV.ids]using D)with h|⟨x,hx,hkx⟩;rw[o]at h;cases h;exact Q x hx k hkx;exact λd=>d.elim
 cases b;split at b<;>cases b
 cases b;cases b;cases b;rename_i R z b;unfold tbd at b;split at b;rename_i i E;split at b;rename_i U A;split at b;split at b<;>cases b
 rename_i n e K;split at b;rename_i c;cases b;simp only[KQ]at c;obtain⟨m,j,u,r,o⟩:=zero E A c.2;obtain⟨ei,J⟩:=Ki.1 c.1;split;rename_i cs' C;intro _;obtain⟨vs',G,p,F⟩:=Zia (S:=S) (M:=M) (s:=s) parts vparts _ cs' j O hp r C;refine Snd.pure N (v:= .agg ⟨vs'⟩) ?_ (.agg vs' cs' p.1 p.2) (λk D=> ?_);simp only[KY,Ji,m,Jb,ZH K,YA J,u,G];simp;rcases F k (by simpa[PV.ids]using D)with h|⟨x,hx,hkx⟩;rw[o]at h;cases h;exact Q x hx k hkx;exact λd=>d.elim
 cases b;cases b;cases b;cases b;exact λd=>d.elim
end
open Go.RowKit
mutual
def PV.share:PV->PV
 | .sl t es=> .sl t.sh es
 | .agg cs=> .agg (PV.shareL cs)
 | .tup cs=> .tup (PV.shareL cs)
 | .fn f cs=> .fn f (PV.shareL cs)
 |p=>p
def PV.shareL:List PV->List PV
 | []=> []
 |c::cs=>PV.share c::PV.shareL cs
end
mutual
def PV.clean:PV->Bool
 | .ptr _ _=>Hf
 | .osl _ _ _ _=>Hf
 | .vsl _ _ _=>Hf
 | .vptr _ _ _ _ _=>Hf
 | .agg cs=>PV.cleanL cs
 | .tup cs=>PV.cleanL cs
 | .fn _ cs=>PV.cleanL cs
 |_=>Ht
def PV.cleanL:List PV->Bool
 | []=>Ht
 |c::cs=>PV.clean c&&PV.cleanL cs
end
theorem PV.shareL_length:∀(cs:List PV),(PV.shareL cs).length=cs.length
 | []=>rfl
 |c::cs=>by simp[PV.shareL,PV.shareL_length cs]
theorem PV.shareL_getD:∀(cs:List PV) (i:Nat),i<cs.length->(PV.shareL cs).getD i .any=(cs.getD i .any).share
 | [],i,h=>by simp at h
 |c::cs,0,_=>by simp[PV.shareL]
 |c::cs,i+1,h=>by simpa[PV.shareL]using PV.shareL_getD cs i (by simpa using h)
theorem PV.cleanL_getD:∀ {cs:List PV} (h:PV.cleanL cs=Ht) (i:Nat),i<cs.length->(cs.getD i .any).clean=Ht
 | [],_,i,h=>by simp at h
 |c::cs,hc,0,_=>by simp[PV.cleanL]at hc ⊢;exact hc.1
 |c::cs,hc,i+1,h=>by simp[PV.cleanL]at hc;simpa using PV.cleanL_getD hc.2 i (by simpa using h)
def ZbK (p:PV):p.share.cells=PV.shareL p.cells:=by
 cases p<;>simp[PV.share,PV.cells,PV.shareL]
theorem ZhY {p:PV} (h:p.clean=Ht) {j:Nat} (b:j<p.cells.length):(p.cells.getD j .any).clean=true:=by
 cases p with
 |agg cs=>exact PV.cleanL_getD (cs:=cs) (by simpa[PV.clean]using h) j b
 |_=>
  simp only[PV.cells,JI,Ko]at b;have:j=0:=by omega
  subst this;exact h
theorem Rep.share {S:Stable} {v:Value} {p:PV} (r:Rep S v p):Rep S v p.share:=by
 induction r with
 |agg vs cs hl _ ih=>exact .agg vs _ (by rw[PV.shareL_length];exact hl) (λi c=>by rw[PV.shareL_length]at c;rw[PV.shareL_getD cs i c];exact ih i c)
 |tup vs cs hl _ ih=>exact .tup vs _ (by rw[PV.shareL_length];exact hl) (λi c=>by rw[PV.shareL_length]at c;rw[PV.shareL_getD cs i c];exact ih i c)
 |fn f vs cs hl _ ih=>exact .fn f vs _ (by rw[PV.shareL_length];exact hl) (λi c=>by rw[PV.shareL_length]at c;rw[PV.shareL_getD cs i c];exact ih i c)
 |any v=>exact .any v
 |int k n=>exact .int k n
 |bool b=>exact .bool b
 |str l=>exact .str l
 |flt k b=>exact .flt k b
 |cpx k a b=>exact .cpx k a b
 |sl0 a cap=>exact .sl0 a cap
 |slnil=>exact .sl0 Hn 0
 |sl b o cap sz es vals h1 h2 h3 h4 _=>exact .sl b o cap sz es vals h1 h2 h3 h4
 |slf v es r hz _=>exact .slf v es r hz
 |rptr b o cs vals h1 h2 _=>exact .rptr b o cs vals h1 h2
 |nilp=>exact .nilp
 |nilfn=>exact .nilfn
 |nilmap=>exact .nilmap
 |mref b=>exact .mref b
 |iptr b=>exact .iptr b
 |rmap b es ks vs h1 h2 h3 h4 h5 h6 _ _=>exact .rmap b es ks vs h1 h2 h3 h4 h5 h6
theorem RepS.share {S:Stable} {M:Maps} {q:Rows} {v:Value} {p:PV} (r:RepS S M q v p) (h:p.clean=Ht):Rep S v p.share:=by
 induction r with
 |clean r=>exact r.share
 |ptr id off=>simp[PV.clean]at h
 |osl id off len cap sz hc=>simp[PV.clean]at h
 |vsl id len sz v hv t=>simp[PV.clean]at h
 |vptr id n sz i off v hv b t=>simp[PV.clean]at h
 |row id v es r _=>exact r
 |agg vs cs hl _ ih=>exact .agg vs _ (by rw[PV.shareL_length];exact hl) (λi b=>by rw[PV.shareL_length]at b;rw[PV.shareL_getD cs i b];exact ih i b (PV.cleanL_getD h i b))
 |tup vs cs hl _ ih=>exact .tup vs _ (by rw[PV.shareL_length];exact hl) (λi b=>by rw[PV.shareL_length]at b;rw[PV.shareL_getD cs i b];exact ih i b (PV.cleanL_getD h i b))
 |fn f vs cs hl _ ih=>exact .fn f vs _ (by rw[PV.shareL_length];exact hl) (λi b=>by rw[PV.shareL_length]at b;rw[PV.shareL_getD cs i b];exact ih i b (PV.cleanL_getD h i b))
def Zbu (size:Nat):Nat->List (Nat×PV)->Prop
 |_,[]=>True
 |k,(i,p)::rest=>i=k/\p.clean=Ht/\p.known=Ht/\p.cells.length=size/\Zbu size (k+1) rest
def Y7 (P:Program) (d:Nat) (t:TypeId) (len:Nat) (parts:List (Nat×PV)) (m:Hp):ARes:=
 match XS P t with
 |some ei=>⟨m.q d=Hn/\len=parts.length/\len*ei.size<=16777216/\Zbu ei.size 0 parts,.sl (.row d) (parts.map λx=>x.2.share),m.setq d (.live len ei.size ei.e)⟩
 |none=> .fail
section
variable {P:Program} {B:Frm} {S:Stable} {M:Maps} {s:St} {a:Act} {w:World}
theorem D1 {size:Nat}:∀(us:List Value) (k:Nat) (vs:List Value),vs.length=(k+us.length)*size->(∀u∈us,u.cells.size=size)->
  JN (λi=>Hs (i*size,size)) ⟨vs⟩ (us.zipIdx k |>.map λx=>(x.2,x.1))=Hs ⟨vs.take (k*size)++us.flatMap λu=>u.cells.toList⟩
 | [],k,vs,hl,_=>by
  have:vs.take (k*size)=vs:=List.take_of_length_le (by simp at hl;omega);simp[JN,this]
 |u::us,k,vs,hl,hu=>by
  have d:=hu u (by simp);have m:k*size+size<=vs.length:=by
   rw[hl];have:=Ja size (show k+1<=k+(u::us).length by simp);rw[Jg]at this;omega
  simp only[KP,List.map_cons,JN];have f:¬((decide (u.cells.size≠size)||decide (k*size+u.cells.size>(⟨vs⟩:Array Value).size))=Ht):=by
   simp only[J3,Kq,decide_eq_true_eq,not_or];omega
  rw[if_neg f];have g:=Zf5 u.cells.toList 0 ⟨vs⟩ (k*size) (by simp;omega);have c:Qo (λcs x=>cs.setIfInBounds (k*size+x.2) x.1) (⟨vs⟩:Array Value) (Qg u.cells)=⟨vs.take (k*size)++u.cells.toList++vs.drop (k*size+u.cells.toList.length)⟩:=by
   rw[<-KG];simpa using g
  have j:=D1 us (k+1) (vs.take (k*size)++u.cells.toList++vs.drop (k*size+u.cells.toList.length))
   (by simp only[Jf,Jk,Jl,JC,d]
       have:(k+1+us.length)*size=(k+(us.length+1))*size:=by congr 1;omega
       simp only[JI]at hl;omega) (λx l=>hu x (by simp[l]))
  have b:JN (λi=>Hs (i*size,size)) ⟨vs.take (k*size)++u.cells.toList++vs.drop (k*size+u.cells.toList.length)⟩ ((us.zipIdx (k+1)).map λx=>(x.2,x.1))=Hs ⟨vs.take (k*size)++List.flatMap (λu=>u.cells.toList) (u::us)⟩:=by
   rw[j];congr 2;have e:(vs.take (k*size)++u.cells.toList).length=(k+1)*size:=by simp[d,Jg];omega
   rw[<-e,List.take_left];simp
  first|(rw[c];exact b)|(simp only[c];exact b)
theorem Zbv {size:Nat}:∀ {parts:List (Nat×PV)} {k:Nat},Zbu size k parts->(∀x∈parts,x.2.clean=Ht/\x.2.known=Ht/\x.2.cells.length=size)/\parts.map (·.1)=(Qp k parts.length)
 | [],k,_=>by simp
 |(i,p)::rest,k,h=>by
  obtain⟨rfl,d,c,e,f⟩:=h;obtain⟨g,j⟩:=Zbv f;refine⟨λx b=> ?_,?_⟩;rcases K9.1 b with rfl|b;exact⟨d,c,e⟩;exact g x b;simp[j,Kj]
theorem Za1 {size:Nat}:∀ {us:List Value} (b:∀u∈us,u.cells.size=size) {i j:Nat} (c:i<us.length) (d:j<size),
  (us.flatMap λu=>u.cells.toList).getD (i*size+j) undef=(us.getD i undef).cells.toList.getD j undef
 | [],_,i,j,c,_=>by simp at c
 |u::us,b,0,j,_,d=>by
  have:=b u (by simp);simp only[KL,Qh,JA,JV];rw[Zf (by simpa[this]using d)]
 |u::us,b,i+1,j,c,d=>by
  have e:=b u (by simp);simp only[KL,List.getD_cons_succ];rw[Zg (by simp[e,Jg];omega)];have:(i+1)*size+j-u.cells.toList.length=i*size+j:=by simp[e,Jg];omega
  rw[this];exact Za1 (λx f=>b x (by simp[f])) (by simpa using c) d
def F0 (O:Sim B S M s a w) {d:Nat} {t:TypeId} {len:Nat} {parts:List (Nat×PV)} {vparts:List (Nat×Value)} (Q:vparts.length=parts.length)
  (hp:∀i,i<parts.length->(vparts.getD i (0,undef)).1=(parts.getD i (0,.any)).1/\RepS S M s.m.q (vparts.getD i (0,undef)).2 (parts.getD i (0,.any)).2)
  (A:(Y7 P d t len parts s.m).ok):Snd P B S s a w (JE t len ⟨vparts⟩) (Y7 P d t len parts s.m):=by
 revert A;unfold Y7;split;rename_i ei hx;rintro ⟨g1,g2,g3,g4⟩;obtain⟨ti,z,h1,h2,h3,h4,h5,h6,h7,h8⟩:=YR hx;obtain⟨p1,p2⟩:=Zbv g4;subst g2
 -- the values of the parts
 have T:∀i,i<parts.length->RepS S M s.m.q ((vparts.map (·.2)).getD i undef) (parts.getD i (0,.any)).2:=λi f=>by
  have:=(hp i f).2;rw[getD_lt (by simp;omega)];rw[getD_lt (by omega)]at this;simpa using this
 have g:∀i,i<parts.length-> ∃ys:List Value,((vparts.map (·.2)).getD i undef).cells=⟨ys⟩/\ys.length=ei.size/\ ∀j,j<ei.size->Rep S (ys.getD j undef) ((parts.getD i (0,.any)).2.share.cells.getD j .any):=λi f=>by
  obtain⟨q1,q2,q3⟩:=p1 _ (Zc (d:=(0,PV.any)) f);obtain⟨ys,E,Z,e3⟩:=(T i f).cells_inv q2;refine⟨ys,E,by omega,λj U=> ?_⟩;have hr:=e3 j (by omega);have N:((parts.getD i (0,.any)).2.cells.getD j .any).clean=true:=by
   exact ZhY q1 (by omega)
  have:=hr.share N;rw[ZbK,PV.shareL_getD _ j (by omega)];exact this
 have C:∀u∈vparts.map (·.2),u.cells.size=ei.size:=λu hu=>by
  obtain⟨i,f,rfl⟩:=Jr hu;simp only[JO]at f;obtain⟨ys,E,Z,_⟩:=g i (by omega);rw[getD_lt (by simpa using f)]at E;rw[E];simp[Z]
 have r:vparts=((vparts.map (·.2)).zipIdx 0).map λx=>(x.2,x.1):=by
  apply KT;simp;intro i R xf;simp only[JD,KB,JA];have:=(hp i (by omega)).1;rw[getD_lt R,getD_lt (by omega)]at this;have I:(parts[i]'(by omega)).1=i:=by
   have e:=congrArg (λl=>l[i]?) p2;simp only[Kf]at e;rw[Je (by omega),Je (by simp;omega)]at e;simpa using e
  rw[I]at this;exact Qs this rfl
 have W:∃q:List Value,q.length=parts.length*ei.size/\(JE t parts.length ⟨vparts⟩).run P w= .ok (.slice (Hs ⟨w.heap.size,0,Hn⟩) parts.length parts.length) (w.alloc (.cells ⟨q.take (0*ei.size)++(vparts.map (·.2)).flatMap λu=>u.cells.toList⟩ ei.e)):=by
  have nolim:¬parts.length*ei.size>2 ^ 24:=by omega
  have D:∀q:List Value,q.length=parts.length*ei.size->JN (λi=>Hs (i*ei.size,ei.size)) ⟨q⟩ vparts=Hs ⟨q.take (0*ei.size)++(vparts.map (·.2)).flatMap λu=>u.cells.toList⟩:=λq V=>by
   have:=D1 (size:=ei.size) (vparts.map (·.2)) 0 q (by simp[Q,V]) C;rw[<-r]at this;exact this
  have e5:(sizeOf ei.e).run P w= .ok ei.size w:=by rw[YA h2,h8]
  by_cases L:parts.length*ei.size=0;refine⟨[],by simp[L],?_⟩;have X:parts= []:=by
   rcases K2.1 L with h|h;exact Jc h;omega
  subst X;have xc:vparts= []:=Jc (by simpa using Q);subst xc;simp[JE,ZH h1,e5,JN,newRow,newObj,KA,J4];have er:Qr (λ_:Nat=>(Jd:Value)) (Kz 0)=⟨[]⟩:=by
   apply JZ;simp
  rw[er];refine⟨((JY (parts.length*ei.size)).map λx=>z.cells[x % z.cells.size]!),by simp,?_⟩;have hf:=D ((JY (parts.length*ei.size)).map λx=>z.cells[x % z.cells.size]!) (by simp);have xa:(zeroValue ei.e).run P w= .ok z w:=by simp[zeroValue,GF h2,h3]
  simp only[JE,Ji,ZH h1,Jb,e5,nolim,if_false,Jp,L,xa];have:(Kz (parts.length*ei.size)).map (λx=>z.cells[x % z.cells.size]!)=⟨(JY (parts.length*ei.size)).map λx=>z.cells[x % z.cells.size]!⟩:=by
   apply JZ;simp
  simp only[this,hf];simp[newRow,newObj,KA,J4]
 obtain⟨q,_,m⟩:=W;simp only[Qh,List.take_zero,K1]at m;generalize K:(vparts.map (·.2)).flatMap (λu=>u.cells.toList)=vs at m;have xb:vs.length=parts.length*ei.size:=by
  rw[<-K,KC];have:(Ky (λu:Value=>u.cells.toList.length) (vparts.map (·.2)))=JJ parts.length ei.size:=by
   apply Ku.2;refine⟨by simp[Q],λx hx=> ?_⟩;obtain⟨u,hu,rfl⟩:=J5.1 hx;simpa using C u hu
  rw[this];simp
 have J:parts.length<=maxLen:=by
  have:=Kk parts.length h7;simp only[maxLen];omega
 have F:=O.newRow (d:=d) (n:=parts.length) (sz:=ei.size) (c:=parts.length) (e:=ei.e) (vs:=vs) (w':=w.alloc (.cells ⟨vs⟩ ei.e)) (.inl g1) (Jj _) J xb (λk Y=>ZU w _ Y) (alloc_heap_new w _);have y:SLe S (ZcN S w.heap.size (parts.length*ei.size) vs):= .cells rfl λb o v hv=>by
  rw[XH];rw[if_neg];exact hv;rintro ⟨rfl,_⟩;rw[O.S_lt (Jj _)]at hv;cases hv
 have G:Rep (ZcN S w.heap.size (parts.length*ei.size) vs) (.slice (Hs ⟨w.heap.size,0,Hn⟩) parts.length parts.length) (.sl .no (parts.map λx=>x.2.share)):=by
  have:=T9 (S:=ZcN S w.heap.size (parts.length*ei.size) vs) (b:=w.heap.size) (cap:=parts.length) (es:=parts.map λx=>x.2.share) (sz:=ei.size)
   (λe he=>by
    obtain⟨x,xd,rfl⟩:=J5.1 he;rw[ZbK,PV.shareL_length];exact(p1 x xd).2.2) (by simp) (cells:=vs)
   (λk Y=>by rw[XH,if_pos ⟨rfl,by simpa using Y⟩])
   (λi j f U=>by
    simp only[JO]at f;obtain⟨ys,E,Z,e3⟩:=g i f;have p:vs.getD (i*ei.size+j) undef=ys.getD j undef:=by
     rw[<-K,Za1 C (by simpa[Q]using f) U,E]
    rw[p];rw[getD_lt (l:=Ky _ parts) (by simpa using f)];simp only[JD];have:=e3 j U;rw[getD_lt f]at this;exact this.mono y)
  simpa using this
 refine⟨_,_,_,_,m,F,?_,?_,y,?_,?_⟩;refine .row d _ _ G λn' xe e' hq=> ?_
 simp only[Hp.setq,Za]at hq;cases hq;refine⟨by simp,λ_=>⟨λL=>by simp[Za]at L,λc N=> ?_⟩⟩;simp only[Za,Jq]at N ⊢;rw[<-N];intro i f;simp only[PV.ids,Jy]at f;subst f;simp[ZI,Hp.setq,Hp.new,Za];intro b hb;refine⟨λo=> ?_,rfl⟩;rw[XH,if_neg];rintro ⟨rfl,_⟩;exact O.new_ok hb;exact(BelowF.refl B w).alloc O.hB _;exact λA=>A.elim
end
open Go.RowKit
def ZsT:Option PV->Option Int
 |none=>Hs 0
 |some (.int _ k)=>Hs k
 |_=>Hn
def ZsP (n:Nat):Option PV->Option Int
 |none=>Hs n
 |some (.int _ k)=>Hs k
 |_=>Hn
def cut {α:Type} (l:List α) (i j:Int):List α:=(l.drop i.toNat).take (j.toNat-i.toNat)
def GU (P:Program) (t:TypeId) (x:PV) (lo b:Option PV) (m:Hp):ARes:=
 match tix P t,x with
 | .str,.str l=>match ZsT lo,ZsP l.length b with
  |some i,Hs j=>⟨0<=i/\i<=j/\j<=l.length,.str (cut l i j),m⟩
  |_,_=> .fail
 | .slc esz _,.sl _ es=>match ZsT lo,ZsP es.length b with
  |some i,Hs j=>⟨0<=i/\i<=j/\j<=es.length/\Sized esz es,.sl .no (cut es i j),m⟩
  |_,_=> .fail
 | .slc esz _,.osl id off len sz=>match ZsT lo,ZsP len b with
  |some i,Hs j=>⟨0<=i/\i<j/\j<=len/\esz=sz,.osl id (off+i.toNat*sz) (j.toNat-i.toNat) sz,m⟩
  |_,_=> .fail
 | .arr n esz _,.ptr id off=>match ZsT lo,ZsP n b with
  |some i,Hs j=>⟨0<=i/\i<j/\j<=n,.osl id (off+i.toNat*esz) (j.toNat-i.toNat) esz,m⟩
  |_,_=> .fail
 |_,_=> .fail
def Wc (P:Program) (d:Nat) (t:TypeId) (c:PV) (m:Hp):ARes:=
 match XS P t,c with
 |some ei,.int _ c=>⟨m.q d=Hn/\0<=c/\(ei.bytes:Int)*c<=281474976710656/\c<=9223372036854775807,.sl (.row d) [],m.setq d (.live 0 ei.size ei.e)⟩
 |_,_=> .fail
section
variable {P:Program} {B:Frm} {S:Stable} {M:Maps} {s:St} {a:Act} {w:World}
def ZfP (l:List UInt8) (i j:Nat):(⟨⟨l⟩⟩:ByteArray).extract i j=⟨⟨(l.drop i).take (j-i)⟩⟩:=by
 apply ByteArray.ext;apply JZ;rw[Lib.extract_data]
theorem Wv {isSlice:Bool} {len cap:Nat} {lo f:Option Value} {b c:Option PV} {i j:Int} (o:∀v p,lo=Hs v->b=Hs p->RepS S M s.m.q v p) (A:∀v p,f=Hs v->c=Hs p->RepS S M s.m.q v p)
  (k:lo.isSome=b.isSome) (g:f.isSome=c.isSome) (m:ZsT b=Hs i) (l:ZsP len c=Hs j) (E:0<=i) (I:i<=j) (G:j<=len) (F:len<=cap):
  (KM isSlice len cap lo f Hn).run P w= .ok (i.toNat,j.toNat,cap) w:=by
 have C:0<=j:=by omega
 have z:j<=cap:=by omega
 have q:i<=(j.toNat:Int):=by omega
 have D:∀code,(match f,(none:Option Value)with
   |some v,Hs _=>JU v cap .slice3B
   |some v,Hn=>JU v cap code
   |none,Hn=>Pure.pure len
   |none,Hs _=>stuck "x").run P w= .ok j.toNat w:=by
  intro code;cases f with
  |none=>
   cases c with
   |none=>simp only[ZsP,Jn.injEq]at l;subst l;simp
   |some p=>simp at g
  |some v=>
   cases c with
   |none=>simp at g
   |some p=>
    have r:=A v p rfl rfl;cases p<;>simp[ZsP]at l
    subst l;rw[r.int_inv];simp[JU,asIntOf,C,z]
 have n:∀code,(match lo with
   |some v=>JU v j.toNat code
   |none=>Pure.pure 0).run P w= .ok i.toNat w:=by
  intro code;cases lo with
  |none=>
   cases b with
   |none=>simp only[ZsT,Jn.injEq]at m;subst m;simp
   |some p=>simp at k
  |some v=>
   cases b with
   |none=>simp at k
   |some p=>
    have r:=o v p rfl rfl;cases p<;>simp[ZsT]at m
    subst m;rw[r.int_inv];simp only[JU,asIntOf,Ji,Jp,Jb];rw[if_pos ⟨E,q⟩];rfl
 unfold KM;cases f with
 |none=>
  have e:=D .sliceAlen;simp only at e;cases lo with
  |none=>have d:=n .sliceB;simp only at d;simp only[Ji,Jp,Jb]at e d ⊢;simp_all
  |some v=>have d:=n .sliceB;simp only at d;simp only[Ji,Jp,Jb]at e d ⊢;simp_all
 |some u=>
  have y:=D .sliceAlen;have t:=D .sliceAcap;simp only at y t;cases lo with
  |none=>have d:=n .sliceB;simp only at d;cases isSlice<;>simp only[Ji,Jp,Jb,Jo,if_false,if_true,y,t]at d ⊢ <;> simp_all
  |some v=>have d:=n .sliceB;simp only at d;cases isSlice<;>simp only[Ji,Jp,Jb,Jo,if_false,if_true,y,t]at d ⊢ <;> simp_all
def ZiR (U:Sim B S M s a w) {t:TypeId} {x:Value} {p:PV} {lo W:Option Value} {q y:Option PV} (V:RepS S M s.m.q x p) (K:∀i∈p.ids,ZI s.m i)
  (m:∀v p,lo=Hs v->q=Hs p->RepS S M s.m.q v p) (z:∀v p,W=Hs v->y=Hs p->RepS S M s.m.q v p) (u:lo.isSome=q.isSome) (r:W.isSome=y.isSome)
  (c:(GU P t p q y s.m).ok):Snd P B S s a w (JX t x lo W Hn) (GU P t p q y s.m):=by
 revert c;unfold GU;split;rename_i l f;have F:=ZeV f;split;rename_i i j G D;rintro ⟨C,R,I⟩;rw[V.str_inv];have A:=Wv (P:=P) (w:=w) (isSlice:=Hf) (cap:=l.length) m z u r G D C R I (Jj _);refine Snd.clean U (v:= .string ⟨⟨cut l i j⟩⟩) ?_ (.str _);have X:(⟨⟨l⟩⟩:ByteArray).size=l.length:=rfl;simp[JX,ZH F,KZ,X,A,ZfP,cut];exact λc=>c.elim
 rename_i J ea tk es f;obtain⟨e,d,ti,F,rfl,rfl,h2,N⟩:=Sd f;split;rename_i i j G D;rintro ⟨C,R,I,g4⟩;have hr:=V.sl_inv;obtain⟨Y,cap,rfl,g⟩:=hr.sl_len;have A:=Wv (P:=P) (w:=w) (isSlice:=Ht) (cap:=cap) m z u r G D C R I g;have Q:(cut es i j).length=j.toNat-i.toNat:=by simp[cut];omega
 have T:(JX t (.slice Y es.length cap) lo W Hn).run P w= .ok (.slice (if cap=i.toNat then Y else Y.map (·.add (i.toNat*tsz P e))) (j.toNat-i.toNat) (cap-i.toNat)) w:=by
  simp[JX,ZH F,KZ,A,YA N]
 refine Snd.clean U T ?_;by_cases h0:j.toNat-i.toNat=0;have:cut es i j= []:=Jc (by omega);rw[this,h0];exact .sl0 _ _;have O:i.toNat<es.length:=by omega
 obtain⟨b,o,xa,vals,ev,Z,hu,hS,hR⟩:=hr.sl_at O;cases ev;have e0:(es.getD i.toNat .any).cells.length=tsz P e:=g4 _ (Zc O);rw[e0]at hS hR hu;rw[if_neg (by omega)];simp only[Option.map_some,Z7];have gd:∀k,k<(cut es i j).length->(cut es i j).getD k .any=es.getD (i.toNat+k) .any:=λk L=>by
  unfold cut;rw[Xu (by omega),XJ]
 have:=Rep.sl (S:=S) b (o+i.toNat*tsz P e) (cap-i.toNat) (tsz P e) (cut es i j) (λk l=>vals (i.toNat+k) l) (λk L=>by rw[gd k L];exact hu _ (by omega)) (by omega)
  (λk l L hl=>by
   have:=hS (i.toNat+k) l (by omega) hl;rw[Jg]at this;rw[<-this];congr 1;omega)
  (λk l L hl=>by rw[gd k L];exact hR _ _ (by omega) hl)
 rw[Q]at this;exact this;exact λc=>c.elim
 rename_i J ea id off len sz f;obtain⟨e,d,ti,F,rfl,rfl,h2,N⟩:=Sd f;split;rename_i i j G D;rintro ⟨C,R,I,rfl⟩;obtain⟨cap,g,rfl⟩:=V.osl_inv;have A:=Wv (P:=P) (w:=w) (isSlice:=Ht) (cap:=cap) m z u r G D C (by omega) I g;refine Snd.pure U (v:= .slice (Hs ⟨M.φ id,off+i.toNat*tsz P e,Hn⟩) (j.toNat-i.toNat) (cap-i.toNat)) ?_ (.osl _ _ _ _ _ (by omega)) (by simpa[PV.ids]using K);have E:¬cap=i.toNat:=by omega
 simp[JX,ZH F,KZ,A,YA N,E,Z7];exact λc=>c.elim
 rename_i n J ea id off f;obtain⟨e,d,ti,F,rfl,rfl,h2,N⟩:=ZbT f;split;rename_i i j G D;rintro ⟨C,R,I⟩;rw[V.ptr_inv];have A:=Wv (P:=P) (w:=w) (isSlice:=Hf) (cap:=n) m z u r G D C (by omega) I (Jj _);refine Snd.pure U (v:= .slice (Hs ⟨M.φ id,off+i.toNat*tsz P e,Hn⟩) (j.toNat-i.toNat) (n-i.toNat)) ?_ (.osl _ _ _ _ _ (by omega)) (by simpa[PV.ids]using K);have E:¬n=i.toNat:=by omega
 simp[JX,ZH F,Jv,A,YA N,E,Z7];exact λc=>c.elim
 exact λc=>c.elim
def ZeP (q:Sim B S M s a w) {d:Nat} {t:TypeId} {k:IntKind} {c:Value} {p:PV} (m:RepS S M s.m.q c p)
  (g:(Wc P d t p s.m).ok):Snd P B S s a w (K3 t (.int k 0) c) (Wc P d t p s.m):=by
 revert g;unfold Wc;split;rename_i ei C n G;rintro ⟨y,K,J,N⟩;obtain⟨j,z,D,v,E,W,F,Q,R,T⟩:=YR G;rw[m.int_inv];have l:=run_make (P:=P) w t ei.e j z D v E k C 0 n (Qq _) K (by rw[Q];exact J) N;have V:madeCells z.cells (n.toNat*j.size)=⟨(madeCells z.cells (n.toNat*j.size)).toList⟩:=rfl;have L:(madeCells z.cells (n.toNat*j.size)).toList.length=n.toNat*ei.size:=by rw[JC,size_madeCells,F]
 have f:=q.newRow (d:=d) (n:=0) (sz:=ei.size) (c:=n.toNat) (e:=ei.e) (w':=w.alloc (.cells (madeCells z.cells (n.toNat*j.size)) ei.e)) (.inl y) (Kv _) (by simp only[maxLen];omega) L (λk A=>ZU w _ A) (alloc_heap_new w _);have O:ZcN S w.heap.size (0*ei.size) (madeCells z.cells (n.toNat*j.size)).toList=S:=by
  unfold ZcN;congr 1;funext b o;rw[if_neg (by simp)]
 rw[O]at f;refine⟨_,_,S,_,l,f,?_,?_,q.ext_alloc _⟩;refine .row d _ [] (.sl0 _ _) λn' x U r=> ?_
 simp only[Hp.setq,Za]at r;cases r;refine⟨Jj _,λ_=>⟨λI=>by simp[Za]at I,λc m=> ?_⟩⟩;simp only[Za,Jq]at m ⊢;rw[<-m];rfl;intro i u;simp only[PV.ids,Jy]at u;subst u;simp[ZI,Hp.setq,Hp.new,Za];exact λg=>g.elim
def aMakeFull (P:Program) (d:Nat) (t:TypeId) (l c:PV) (m:Hp):ARes:=
 match XS P t,l,c with
 |some ei,.int _ n,.int _ n'=>match tz P ei.e with
  |some z=>⟨m.q d=Hn/\n=n'/\0<=n/\(ei.bytes:Int)*n<=281474976710656/\n<=1000000/\z.cells.length=ei.size,.sl (.row d) (JJ n.toNat z),m.setq d (.live n.toNat ei.size ei.e)⟩
  |none=> .fail
 |_,_,_=> .fail
where
 tz (P:Program) (e:TypeId):Option PV:=match P.info? e with
  |some i=>match i.zero with
   |some z=>if(XP z).known then Hs (XP z)else Hn
   |none=>Hn
  |none=>Hn
 tbdz (P:Program) (e:TypeId):Option (List PV):=match P.info? e with
  |some i=>match i.zero with
   |some z=>if(XP z).known then Hs (XP z).cells else Hn
   |none=>Hn
  |none=>Hn
end
open Go.RowKit
section
variable {P:Program} {B:Frm} {S:Stable} {M:Maps} {s:St} {a:Act} {w:World}
def Zac {cs:List PV} (h:PV.idsL cs= []) {i:Nat} (b:i<cs.length):(cs.getD i .any).ids= []:=by
 have c:=Zc (d:=PV.any) b;apply J6.2;intro r e;have:=PV.mem_idsL.2 ⟨_,c,e⟩;rw[h]at this;cases this
theorem RepS.alone {q:Rows} {v:Value} {p:PV} (r:RepS S M q v p) (h:p.ids= []):Rep S v p:=by
 induction r with
 |clean r=>exact r
 |ptr id off=>simp[PV.ids]at h
 |osl id off len cap sz hc=>simp[PV.ids]at h
 |vsl id len sz v hv t=>simp[PV.ids]at h
 |vptr id n sz i off v hv b t=>simp[PV.ids]at h
 |row id v es r _=>simp[PV.ids]at h
 |agg vs cs hl _ ih=>exact .agg vs cs hl (λi b=>ih i b (Zac h b))
 |tup vs cs hl _ ih=>exact .tup vs cs hl (λi b=>ih i b (Zac h b))
 |fn f vs cs hl _ ih=>exact .fn f vs cs hl (λi b=>ih i b (Zac h b))
theorem Sim.freeze (d:Sim B S M s a w) {id:Nat} {cs:List PV} (g:s.m.h id=Hs cs) (hp:PV.idsL cs= []):
  ∃S',Sim B S' M (s.with (s.m.freeze id)) a w/\Ext B S S' w w:=by
 cases F:s.m.z id with
 |true=>
  have e:s.m.freeze id=s.m:=by
   have:upd s.m.z id Ht=s.m.z:=by
    funext k;by_cases e:id=k;subst e;simp[upd,F];simp[upd,e]
   unfold Hp.freeze;rw[this]
  exact⟨S,by rw[e];exact d,Ext.refl _ _ _⟩
 |false=>
  obtain⟨h1,h2,⟨vs,t,h3,h4,h5⟩,h6⟩:=d.own g F;have f:SLe S (ZcN S (M.φ id) vs.length vs):= .cells rfl λb o v hv=>by
   rw[XH];rw[if_neg];exact hv;rintro ⟨rfl,_⟩;rw[h2 o]at hv;cases hv
  have rep:∀ {v p},RepS S M s.m.q v p->RepS (ZcN S (M.φ id) vs.length vs) M s.m.q v p:=λr=>r.heap f (λ_ _=>rfl) (λ_ _=> .refl _ _ _)
  have L:∀i,i≠id->(s.m.freeze id).z i=s.m.z i:=λi h=>Zb _ _ (Jt h)
  have N:(s.m.freeze id).z id=true:=Za _ _ _;have other:∀ {b o},b≠M.φ id->ZcN S (M.φ id) vs.length vs b o=S b o:=λ{b o} h=>by
   rw[XH,if_neg (λhh=>h hh.1)]
  refine⟨ZcN S (M.φ id) vs.length vs,⟨d.defers,d.hn,d.hB,d.stable.move f (λb c Q=>(d.stable.o b c Q).2.1) ⟨λb o v hv=> ?_,d.stable.s.m,d.stable.s.y⟩ (λ_ _ _=>rfl) (λ_ _ _=>rfl),λi=>rep (d.fr i),d.ids,λi ds hd=> ?_,λi r Z=> ?_,?_,d.injq,?_,λb c Q=> ?_,λi es he=> ?_,⟨d.pn.h,d.pn.q⟩,d.hz⟩,f,?_,BelowF.refl _ _⟩;rw[XH]at hv;split at hv;rename_i R;obtain⟨rfl,E⟩:=R;rw[Yu h3,Je E,<-hv,getD_lt E];exact d.stable b o v hv;simp only[St.with]at hd ⊢;by_cases e:i=id;subst e;rw[N];have:ds=cs:=by
   have I:s.m.h i=Hs ds:=hd;rw[g]at I;exact(Jn.inj I).symm
  subst this;refine⟨λj=>vs.getD j undef,λj G=>⟨?_,?_⟩⟩;rw[XH,if_pos ⟨rfl,by omega⟩];exact((h5 j G).alone (Zac hp G)).mono f;rw[L i e];have q:=d.blk i ds hd;cases D:s.m.z i with
  |false=>
   rw[D]at q;obtain⟨y,C,⟨us,t',g3,g4,g5⟩,g6⟩:=q;have l:=d.inj i id _ _ hd g D F e;exact⟨y,λo=>by rw[other l];exact C o,⟨us,t',g3,g4,λk z=>rep (g5 k z)⟩,g6⟩
  |true=>
   rw[D]at q;obtain⟨vals,hv⟩:=q;exact⟨vals,λj G=>⟨f _ _ _ (hv j G).1,(hv j G).2.mono f⟩⟩
  have J:=d.row i r Z;cases r with
  |live n sz et=>
   obtain⟨y,C⟩:=J;refine⟨y,λc z=> ?_⟩;obtain⟨k0,x,U,⟨us,O,T⟩,W⟩:=C c z;have l:=d.injx id i _ _ g F Z rfl (by omega);exact⟨k0,x,U,⟨us,O,T⟩,λo E=>by rw[other (Jt l)];exact W o E⟩
  |vec n sz et=>
   obtain⟨y,C⟩:=J;refine⟨y,λc z=> ?_⟩;obtain⟨k0,x,U,⟨us,O,T⟩,W⟩:=C c z;have l:=d.injx id i _ _ g F Z rfl (by omega);exact⟨k0,x,U,⟨us,O,T⟩,λo=>by rw[other (Jt l)];exact W o⟩
  |dead=>trivial
  intro i k b b' u Y m K V;simp only[St.with]at m K;have A:i≠id:=λe=>by subst e;rw[N]at m;cases m
  have X:k≠id:=λe=>by subst e;rw[N]at K;cases K
  rw[L i A]at m;rw[L k X]at K;exact d.inj i k _ _ u Y m K V;intro i k b r u m hq E z;simp only[St.with]at m;have A:i≠id:=λe=>by subst e;rw[N]at m;cases m
  rw[L i A]at m;exact d.injx i k _ _ u m hq E z;obtain⟨y,C,g3,g4⟩:=d.rm b c Q;exact⟨y,C,g3,g4.move f rfl (λv p r _=>rep r) (λ_ h=>h)⟩;exact(d.vc i es he).move (λ_ _ _ h=>h) rfl rfl (λ_=>rfl) (λv p r _=>rep r) (λ_ h=>h);intro b R;exact⟨λo=>other (λe=>h1 (e▸R)),rfl⟩
def frozenBy (m:Hp):List PV->Hp
 | []=>m
 | .ptr id _::cs=>frozenBy (m.freeze id) cs
 |_::cs=>frozenBy m cs
def UD (m:Hp):List PV->Prop
 | []=>True
 | .ptr id _::cs=>(match m.h id with|some ds=>PV.idsL ds= []|none=>False)/\UD m cs
 |c::cs=>c.ids= []/\UD m cs
theorem GX {m:Hp} (d:Nat):∀ {cs:List PV},UD m cs->UD (m.freeze d) cs
 | [],_=>trivial
 |c::cs,h=>by
  cases c<;>exact⟨h.1,GX d h.2⟩
theorem Sim.frozenBy (l:Sim B S M s a w):∀(cs:List PV),UD s.m cs-> ∃S',Sim B S' M (s.with (frozenBy s.m cs)) a w/\Ext B S S' w w:=by
 intro cs;induction cs generalizing s S with
 |nil=>intro _;exact⟨S,l,Ext.refl _ _ _⟩
 |cons c cs ih=>
  intro f;have skip:∀m',PL.frozenBy s.m (c::cs)=PL.frozenBy m' cs->(∃S1,Sim B S1 M (s.with m') a w/\Ext B S S1 w w)->UD m' cs-> ∃S',Sim B S' M (s.with (PL.frozenBy s.m (c::cs))) a w/\Ext B S S' w w:=by
   intro m' e d g;obtain⟨S1,j,k⟩:=d;obtain⟨S2,i,m⟩:=ih j g;refine⟨S2,?_,k.trans m⟩;rw[e];exact i
  cases c with
  |ptr id off=>
   obtain⟨d,g⟩:=f;cases b:s.m.h id with
   |none=>rw[b]at d;exact d.elim
   |some ds=>
    rw[b]at d;exact skip (s.m.freeze id) rfl (l.freeze b d) (GX id g)
  |_=>exact skip s.m rfl ⟨S,l,Ext.refl _ _ _⟩ f.2
theorem WN (m:Hp):∀cs,(frozenBy m cs).h=m.h
 | []=>rfl
 |c::cs=>by
  cases c<;>first|exact WN m cs|exact WN (m.freeze _) cs
theorem X5 (m:Hp):∀cs,(frozenBy m cs).q=m.q
 | []=>rfl
 |c::cs=>by
  cases c<;>first|exact X5 m cs|exact X5 (m.freeze _) cs
mutual
def PV.give (m:Hp):PV->PV
 | .sl _ es=> .sl .no es
 | .ptr id off=>match m.z id,m.h id with
  |true,Hs cs=> .rptr (cs.drop off)
  |_,_=> .ptr id off
 | .agg cs=> .agg (PV.giveL m cs)
 | .tup cs=> .tup (PV.giveL m cs)
 | .fn f cs=> .fn f (PV.giveL m cs)
 |p=>p
def PV.giveL (m:Hp):List PV->List PV
 | []=> []
 |c::cs=>PV.give m c::PV.giveL m cs
end
mutual
def PV.givable (m:Hp):PV->Prop
 | .ptr id _=>m.z id=Ht/\m.h id≠Hn
 | .osl _ _ _ _=>False
 | .vsl _ _ _=>False
 | .vptr _ _ _ _ _=>False
 | .agg cs=>PV.givableL m cs
 | .tup cs=>PV.givableL m cs
 | .fn _ cs=>PV.givableL m cs
 |_=>True
def PV.givableL (m:Hp):List PV->Prop
 | []=>True
 |c::cs=>PV.givable m c/\PV.givableL m cs
end
theorem PV.giveL_length (m:Hp):∀(cs:List PV),(PV.giveL m cs).length=cs.length
 | []=>rfl
 |c::cs=>by simp[PV.giveL,PV.giveL_length m cs]
theorem PV.giveL_getD (m:Hp):∀(cs:List PV) (i:Nat),i<cs.length->(PV.giveL m cs).getD i .any=(cs.getD i .any).give m
 | [],i,h=>by simp at h
 |c::cs,0,_=>by simp[PV.giveL]
 |c::cs,i+1,h=>by simpa[PV.giveL]using PV.giveL_getD m cs i (by simpa using h)
theorem PV.givableL_getD {m:Hp}:∀ {cs:List PV} (h:PV.givableL m cs) (i:Nat),i<cs.length->(cs.getD i .any).givable m
 | [],_,i,h=>by simp at h
 |c::cs,hc,0,_=>by simpa using hc.1
 |c::cs,hc,i+1,h=>by simpa using PV.givableL_getD hc.2 i (by simpa using h)
theorem Rep.give (m:Hp) {v:Value} {p:PV} (r:Rep S v p):Rep S v (p.give m):=by
 induction r with
 |agg vs cs hl _ ih=>exact .agg vs _ (by rw[PV.giveL_length];exact hl) (λi c=>by rw[PV.giveL_length]at c;rw[PV.giveL_getD m cs i c];exact ih i c)
 |tup vs cs hl _ ih=>exact .tup vs _ (by rw[PV.giveL_length];exact hl) (λi c=>by rw[PV.giveL_length]at c;rw[PV.giveL_getD m cs i c];exact ih i c)
 |fn f vs cs hl _ ih=>exact .fn f vs _ (by rw[PV.giveL_length];exact hl) (λi c=>by rw[PV.giveL_length]at c;rw[PV.giveL_getD m cs i c];exact ih i c)
 |any v=>exact .any v
 |int k n=>exact .int k n
 |bool b=>exact .bool b
 |str l=>exact .str l
 |flt k b=>exact .flt k b
 |cpx k a b=>exact .cpx k a b
 |sl0 a cap=>exact .sl0 a cap
 |slnil=>exact .sl0 Hn 0
 |sl b o cap sz es vals h1 h2 h3 h4 _=>exact .sl b o cap sz es vals h1 h2 h3 h4
 |slf v es r hz _=>exact r
 |rptr b o cs vals h1 h2 _=>exact .rptr b o cs vals h1 h2
 |nilp=>exact .nilp
 |nilfn=>exact .nilfn
 |nilmap=>exact .nilmap
 |mref b=>exact .mref b
 |iptr b=>exact .iptr b
 |rmap b es ks vs h1 h2 h3 h4 h5 h6 _ _=>exact .rmap b es ks vs h1 h2 h3 h4 h5 h6
theorem RepS.give (l:Sim B S M s a w) {v:Value} {p:PV} (r:RepS S M s.m.q v p) (h:p.givable s.m):Rep S v (p.give s.m):=by
 induction r with
 |clean r=>exact r.give s.m
 |ptr id off=>
  obtain⟨e,k⟩:=h;cases c:s.m.h id with
  |none=>exact absurd c k
  |some cs=>
   have g:=l.blk id cs c;rw[e]at g;obtain⟨vals,hv⟩:=g;simp only[PV.give,e,c];refine .rptr (M.φ id) off _ (λj=>vals (off+j)) (λj d=> ?_) (λj d=> ?_)
   ·simp only[Jl]at d;exact(hv (off+j) (by omega)).1
   ·simp only[Jl]at d;rw[XJ];exact(hv (off+j) (by omega)).2
 |osl id off len cap sz hc=>exact h.elim
 |vsl id len sz v hv t=>exact h.elim
 |vptr id n sz i off v hv b t=>exact h.elim
 |row id v es r _=>exact r
 |agg vs cs hl _ ih=>exact .agg vs _ (by rw[PV.giveL_length];exact hl) (λi b=>by rw[PV.giveL_length]at b;rw[PV.giveL_getD s.m cs i b];exact ih i b (PV.givableL_getD h i b))
 |tup vs cs hl _ ih=>exact .tup vs _ (by rw[PV.giveL_length];exact hl) (λi b=>by rw[PV.giveL_length]at b;rw[PV.giveL_getD s.m cs i b];exact ih i b (PV.givableL_getD h i b))
 |fn f vs cs hl _ ih=>exact .fn f vs _ (by rw[PV.giveL_length];exact hl) (λi b=>by rw[PV.giveL_length]at b;rw[PV.giveL_getD s.m cs i b];exact ih i b (PV.givableL_getD h i b))
def Zco (L:Sim B S M s a w) {d:Nat} {t:TypeId} {l c:Value} {T Q:PV} (hl:RepS S M s.m.q l T) (K:RepS S M s.m.q c Q)
  (u:(aMakeFull P d t T Q s.m).ok):Snd P B S s a w (K3 t l c) (aMakeFull P d t T Q s.m):=by
 revert u;unfold aMakeFull;split;rename_i ei kl n kc m hx;split;rename_i z A;rintro ⟨g1,rfl,g2,g3,g4,Z⟩;obtain⟨N,g,h1,V,X,h4,Y,h6,h7,h8⟩:=YR hx;rw[hl.int_inv,K.int_inv];have J:=run_make (P:=P) w t ei.e N g h1 V X kl kc n n g2 (Qq _) (by rw[h6];exact g3) (by omega);unfold aMakeFull.tz at A;rw[V]at A;simp only[X]at A;split at A;rename_i R;cases A;have y:(madeCells g.cells (n.toNat*N.size)).toList.length=n.toNat*ei.size:=by rw[JC,size_madeCells,Y]
 have p:=L.newRow (d:=d) (n:=n.toNat) (sz:=ei.size) (c:=n.toNat) (e:=ei.e) (w':=w.alloc (.cells (madeCells g.cells (n.toNat*N.size)) ei.e)) (.inl g1) (Jj _) (by simp only[maxLen];omega) y (λk R=>ZU w _ R) (alloc_heap_new w _);generalize U:(madeCells g.cells (n.toNat*N.size)).toList=vs at p y;generalize x:ZcN S w.heap.size (n.toNat*ei.size) vs=S' at p;have E:SLe S S':=by
  rw[<-x];refine .cells rfl λb o v hv=> ?_
  rw[XH,if_neg];exact hv;rintro ⟨rfl,_⟩;rw[L.S_lt (Jj _)]at hv;cases hv
 obtain⟨zs,e1,e2,e3⟩:=(RepS.clean (S:=S') (M:=M) (q:=s.m.q) (Ve S' g)).cells_inv R;have D:g.cells.size=ei.size:=h4;have F:∀i j,i<n.toNat->j<ei.size->vs.getD (i*ei.size+j) undef=g.cells.toList.getD j undef:=λi j f C=>by
  have I:i*ei.size+j<n.toNat*ei.size:=by
   have:(i+1)*ei.size<=n.toNat*ei.size:=Ja _ f;rw[Jg]at this;omega
  rw[<-U,getD_lt (by rw[JC,size_madeCells,Y];exact I),getD_lt (by rw[JC,D];exact C)];simp only[madeCells,Array.getElem_toList,Array.getElem_map,Array.getElem_range,D];rw[KK,J9,KO C,getElem!_pos]
 refine⟨_,_,S',_,J,p,?_,?_,E,λb hb=>⟨λo=> ?_,by rw[<-x];rfl⟩,(L.ext_alloc _).2.2⟩;refine .row d _ _ ?_ λn' xa e' W=> ?_
 have O:=Rep.sl (S:=S') w.heap.size 0 n.toNat ei.size (JJ n.toNat (XP g)) (λi j=>vs.getD (i*ei.size+j) undef) (λi f=>by
  rw[Ju]at f;rw[getD_lt (by rw[Ju];exact f),Kn];exact Z) (by rw[Ju];exact Jj _) (λi j f C=>by
  rw[Ju]at f;have I:i*ei.size+j<n.toNat*ei.size:=by
   have:(i+1)*ei.size<=n.toNat*ei.size:=Ja _ f;rw[Jg]at this;omega
  rw[<-x,XH,if_pos ⟨rfl,by omega⟩];simp) (λi j f C=>by
  rw[Ju]at f;rw[show(JJ n.toNat (XP g)).getD i .any=XP g by rw[getD_lt (by rw[Ju];exact f),Kn]];rw[F i j f C,show g.cells.toList=zs by rw[e1]];have G:j<(XP g).cells.length:=by rw[Z];exact C
  refine(e3 j G).alone (J6.2 λr O=> ?_);have:=Yv (Zc (d:=PV.any) G) O;rw[W7]at this;cases this)
 rw[Ju]at O;exact O;simp only[Hp.setq,Za]at W;cases W;refine⟨by rw[Ju];exact Jj _,λ_=>⟨λh0=>by simp[Za]at h0,λc K=> ?_⟩⟩;simp only[Za,Jq]at K ⊢;rw[<-K];intro i f;simp only[PV.ids,Jy]at f;subst f;simp[ZI,Hp.setq,Za];rw[<-x,XH,if_neg];rintro ⟨rfl,_⟩;have:=L.hB _ hb;omega;cases A;exact λu=>u.elim
 exact λu=>u.elim
end
open Go.RowKit
section
variable {P:Program} {B:Frm} {S:Stable} {M:Maps} {s:St} {a:Act} {w:World}
theorem Sim.pokeVec (f:Sim B S M s a w) {id c n sz:Nat} {e:TypeId} (o:s.m.q id=Hs (.vec n sz e)) (hv:s.m.v id=Hn) (X:M.κ id=c+1) {vs':List Value} (hl:vs'.length=c*sz):
  Sim B S M s a (w.setRow (M.ψ id) ⟨vs'⟩)/\Ext B S S w (w.setRow (M.ψ id) ⟨vs'⟩)/\(w.setRow (M.ψ id) ⟨vs'⟩).heap[M.ψ id]? = Hs (.cells ⟨vs'⟩ e (0,0)):=by
 obtain⟨r3,W⟩:=f.row id _ o;obtain⟨I,k2,Y,⟨vs,O,k6⟩,k4⟩:=W c X;have m:=VI (c':=⟨vs'⟩) O;have g:∀k,k≠M.ψ id->(w.setRow (M.ψ id) ⟨vs'⟩).heap[k]? = w.heap[k]? :=λk N=>VJ N
 have L:=V3 w (M.ψ id) ⟨vs'⟩;refine⟨⟨f.defers,f.hn,by rw[L];exact f.hB,f.stable.setRow O k4,f.fr,f.ids,λi b U=> ?_,λi r j=> ?_,f.inj,f.injq,f.injx,λb d hd=> ?_,λi J D=> ?_,f.pn,f.hz⟩,⟨SLe.refl _,λ_ _=>⟨λ_=>rfl,rfl⟩,Ym Y⟩,m⟩;have l:=f.blk i b U;cases G:s.m.z i with
 |true=>rw[G]at l;exact l
 |false=>
  rw[G]at l;obtain⟨q,u,⟨us,Z,R,F,g5⟩,g6⟩:=l;exact⟨q,u,⟨us,Z,by rw[g _ (f.injx i id _ _ U G o rfl (by omega))];exact R,F,g5⟩,g6⟩
 have y:=f.row i r j;cases r with
 |live n x V=>
  obtain⟨q,u⟩:=y;refine⟨q,λc' t=> ?_⟩;obtain⟨z,E,A,⟨us,T,K⟩,C⟩:=u c' t;have Q:M.ψ i≠M.ψ id:=f.injq i id _ _ j o rfl rfl (by omega) (by omega) (λe=>by subst e;rw[o]at j;cases j);exact⟨z,E,A,⟨us,by rw[g _ Q];exact T,K⟩,C⟩
 |vec n x V=>
  obtain⟨q,u⟩:=y;refine⟨q,λc' t=> ?_⟩;obtain⟨z,E,A,⟨us,T,K⟩,C⟩:=u c' t
  by_cases ei:i=id
  ·subst ei;rw[o]at j;cases j;have:c'=c:=by omega
   subst this;exact⟨z,E,A,⟨vs',m,hl⟩,C⟩
  ·exact⟨z,E,A,⟨us,by rw[g _ (f.injq i id _ _ j o rfl rfl (by omega) (by omega) ei)];exact T,K⟩,C⟩
 |dead=>trivial
 obtain⟨q,u,R,F⟩:=f.rm b d hd;refine⟨q,u,R,F.move (SLe.refl _) (g b λee=> ?_) (λv p r _=>r) (λ_ h=>h)⟩;obtain⟨⟨es,I,_⟩,_⟩:=F;subst ee;rw[O]at I;cases I;have ei:i≠id:=λe=>by subst e;rw[hv]at D;cases D
 obtain⟨x,V,q1⟩:=f.vec_q D;exact(f.vc i J D).move (λ_ _ _ h=>h) rfl rfl (λN=>g _ (f.injq i id _ _ q1 o rfl rfl N (by omega) ei)) (λv p r _=>r) (λ_ h=>h)
def Sim.relen (b:Sim B S M s a w) {id n n' sz:Nat} {e:TypeId} (f:s.m.q id=Hs (.vec n sz e)) (hv:s.m.v id=Hn) (A:n<=n') (m:∀c,M.κ id=c+1->n'<=c) (t:M.κ id=0->n'=0):
  Sim B S M (s.with (s.m.setq id (.vec n' sz e))) a w:=by
 obtain⟨E,o⟩:=b.row id _ f;have h:=b.layRow (d:=id) (ψ:=M.ψ id) (κ:=M.κ id) (r:= .vec n' sz e) (.inr ?_) ?_ hv (λi F k g q y _ j=>b.injq i id _ _ g f q rfl y j k) (λi cs k v _ j=>b.injx i id cs _ k v f rfl j);rwa[XX,XX]at h;rw[f];refine⟨(by intro _ _ _ h;cases h),λD p C h=> ?_⟩;cases h;by_cases u:n=n';subst u;exact .inl ⟨e,rfl,by simp[Za],by simp[Za]⟩;exact .inr ⟨n,sz,e,rfl,by omega⟩;rw[XX,XX];refine⟨t,λc l=> ?_⟩;obtain⟨z,x⟩:=o c l;exact⟨m c l,x⟩
def Sim.newVec (y:Sim B S M s a w) {d:Nat} {n sz c:Nat} {e:TypeId} {vs:List Value} {es:List PV} {w':World}
  (hd:s.m.q d=Hn\/ ∃A u D,s.m.q d=Hs (.vec A u D)/\A<n) (E:es.length=n) (V:n<=c) (J:c<=maxLen) (Z:vs.length=c*sz)
  (F:∀k,k<w.heap.size->w'.heap[k]? = w.heap[k]?) (b:w'.heap[w.heap.size]? = Hs (.cells ⟨vs⟩ e (0,0)))
  (C:∀p∈es,p.cells.length=sz/\p.cells.all PV.atom=Ht) (z:∀p∈es,∀i∈p.ids,ZI s.m i/\i≠ .r d)
  (R:∀i j,i<es.length->j<sz->RepS S M s.m.q (vs.getD (i*sz+j) undef) ((es.getD i .any).cells.getD j .any)):
  Sim B S { M with ψ:=upd M.ψ d w.heap.size,κ:=upd M.κ d (c+1) } (s.with { s.m.setq d (.vec n sz e)with v:=upd s.m.v d (Hs es) }) a w':=by
 subst E;have T:w.heap.size<w'.heap.size:=(Jh.1 b).1;have g:=y.grow (S':=S) (w':=w') (SLe.refl S) (λ_ _=>⟨λ_=>rfl,rfl⟩) (y.stable.s.old F) F (by omega);have O:=g.forget d;have q1:(s.with { s.m with v:=upd s.m.v d Hn }).m.q d=Hn\/RowLe M { M with ψ:=upd M.ψ d w.heap.size,κ:=upd M.κ d (c+1) } d (s.m.q d) (Hs (.vec es.length sz e)):=
  hd.imp (λh=>h) λ⟨A,u,D,C,h2⟩=>⟨(by intro _ _ _ h;cases h),(by intro n' K e' h;cases h;exact .inr ⟨A,u,D,C,h2⟩)⟩
 have X:=O.layRow (ψ:=w.heap.size) (κ:=c+1) (r:= .vec es.length sz e) q1 ⟨λU=>by simp[Za]at U,λc' x=>by
   simp only[Za,Jq]at x;subst x;exact⟨V,J,by simp only[Za];exact y.new_ok,⟨vs,by simp only[Za];exact b,Z⟩,λo=>by simp only[Za];exact y.S_lt (Jj _)⟩⟩ (Za _ _ _)
  (λi r' _ z N Y _ _=>by have:=y.row_lt z N Y;omega) (λi cs z W _ _=>by have:=y.blk_lt z W;omega)
 have I:=X.layVec (d:=d) (es:=es) ⟨sz,e,Za _ _ _,C,λp hp i l=>XM i (by have:=(z p hp i l).1;cases i<;>exact this),λc' x us t f m i j l L=>by
  simp only[Za]at m;rw[b]at m;cases m;refine(R i j l L).heap (SLe.refl _) (λ_ _=>rfl) λk Q=> ?_
  have q:d≠k:=λe=>by
   subst e;have G:=(C _ (Zc (d:= .any) l)).1;exact(z (es.getD i .any) (Zc l) (.r d) (Yv (Zc (by omega)) Q)).2 rfl
  show RowLe M _ k (s.m.q k) (upd s.m.q d _ k);rw[Zb _ _ q];exact .same (Zb _ _ q) (Zb _ _ q)⟩
 have e:(upd (upd s.m.v d Hn) d (Hs es))=upd s.m.v d (Hs es):=ZbV _ _ _ _;simp only[St.with,Hp.setq,e]at I ⊢;exact I
theorem Sim.publish (m:Sim B S M s a w) {id sz:Nat} {e:TypeId} {es:List PV} (hv:s.m.v id=Hs es) (u:s.m.q id=Hs (.vec es.length sz e)) (D:∀p∈es,p.ids= []):
  ∃S',Sim B S' M (s.with ({ s.m with v:=upd s.m.v id Hn }.setq id .dead)) a w/\Ext B S S' w w/\ ∀v,RepS S M s.m.q v (.vsl id es.length sz)->Rep S' v (.sl .no es):=by
 obtain⟨xa,e',q1,r1,r2,r4⟩:=m.vc id es hv;rw[u]at q1;cases q1;obtain⟨o1,o2⟩:=m.row id _ u;have hd:=m.deadRow id;cases E:M.κ id with
 |zero=>
  have h0:=o1 E;refine⟨S,hd,Ext.refl _ _ _,λv y=> ?_⟩;obtain⟨_,t⟩:=y.vsl_inv;obtain⟨_,Q⟩:=t _ _ _ u;rw[(Q rfl).2.1 E,Jc h0];exact .sl0 Hn 0
 |succ c=>
  obtain⟨Z,k2,k3,⟨vs,k5,k6⟩,k4⟩:=o2 c E;have k7:=r4 c E vs e (0,0) k5;have xb:es.length*sz<=vs.length:=by rw[k6];exact Ja _ Z
  have g:SLe S (ZcN S (M.ψ id) (es.length*sz) vs):= .cells rfl λb o v hv=>by
   rw[XH,if_neg]
   ·exact hv
   ·rintro ⟨rfl,_⟩;rw[k4 o]at hv;cases hv
  have other:∀ {b o},b≠M.ψ id->ZcN S (M.ψ id) (es.length*sz) vs b o=S b o:=λ{b o} h=>by rw[XH,if_neg (λhh=>h hh.1)]
  have rep:∀ {q:Rows} {v p},RepS S M q v p->RepS (ZcN S (M.ψ id) (es.length*sz) vs) M q v p:=λr=>r.heap g (λ_ _=>rfl) (λ_ _=> .refl _ _ _)
  have O:StabS (ZcN S (M.ψ id) (es.length*sz) vs) w:=⟨λb o v hv=>by
   rw[XH]at hv;split at hv
   ·rename_i l;obtain⟨rfl,J⟩:=l;rw[Yu k5,Je (by omega),<-hv,getD_lt (by omega)]
   ·exact m.stable b o v hv,m.stable.s.m,m.stable.s.y⟩
  have I:∀ {i r},(s.with ({ s.m with v:=upd s.m.v id Hn }.setq id .dead)).m.q i=Hs r->r.own=Ht->i≠id/\s.m.q i=Hs r:=λ{i r} f J=>by
   by_cases ei:id=i
   ·subst ei;simp only[St.with,Hp.setq,Za,Jn.injEq]at f;subst f;cases J
   ·simp only[St.with,Hp.setq,Zb _ _ ei]at f;exact⟨Jt ei,f⟩
  refine⟨ZcN S (M.ψ id) (es.length*sz) vs,⟨hd.defers,hd.hn,hd.hB,hd.stable.move g (λb c D=>(hd.stable.o b c D).2.1) O (λ_ _ _=>rfl) (λ_ _ _=>rfl),λi=>rep (hd.fr i),hd.ids,λi ds f=> ?_,λi r y=> ?_,hd.inj,hd.injq,hd.injx,λb c D=> ?_,λi N he=> ?_,hd.pn,hd.hz⟩,⟨g,λb l=>⟨λo=>other (λe=>k3 (e▸l)),rfl⟩,BelowF.refl _ _⟩,λv y=> ?_⟩
  ·have l:=hd.blk i ds f;cases K:(s.with ({ s.m with v:=upd s.m.v id Hn }.setq id .dead)).m.z i with
   |false=>
    rw[K]at l;obtain⟨x,C,⟨us,t',U,W,g5⟩,g6⟩:=l;exact⟨x,λo=>by rw[other (m.injx i id _ _ f K u rfl (by omega))];exact C o,⟨us,t',U,W,λj n=>rep (g5 j n)⟩,g6⟩
   |true=>
    rw[K]at l;obtain⟨vals,hv⟩:=l;exact⟨vals,λj n=>⟨g _ _ _ (hv j n).1,(hv j n).2.mono g⟩⟩
  ·have F:=hd.row i r y;cases r with
   |live n1 sz1 e1=>
    obtain⟨ei,A⟩:=I y rfl;obtain⟨x,C⟩:=F;refine⟨x,λc' z=> ?_⟩;obtain⟨L,V,R,X,T⟩:=C c' z;exact⟨L,V,R,X,λo J=>by rw[other (m.injq i id _ _ A u rfl rfl (by omega) (by omega) ei)];exact T o J⟩
   |vec n1 sz1 e1=>
    obtain⟨ei,A⟩:=I y rfl;obtain⟨x,C⟩:=F;refine⟨x,λc' z=> ?_⟩;obtain⟨L,V,R,X,T⟩:=C c' z;exact⟨L,V,R,X,λo=>by rw[other (m.injq i id _ _ A u rfl rfl (by omega) (by omega) ei)];exact T o⟩
   |dead=>trivial
  ·obtain⟨x,C,U,W⟩:=hd.rm b c D;exact⟨x,C,U,W.move g rfl (λv p r _=>rep r) (λ_ h=>h)⟩
  ·exact(hd.vc i N he).move (λ_ _ _ h=>h) rfl rfl (λ_=>rfl) (λv p r _=>rep r) (λ_ h=>h)
  ·obtain⟨_,t⟩:=y.vsl_inv;obtain⟨_,Q⟩:=t _ _ _ u;rw[(Q rfl).2.2 c E];refine .sl (M.ψ id) 0 c sz es (λi j=>vs.getD (i*sz+j) undef) (λi f=>(r1 _ (Zc (d:= .any) f)).1) Z (λi j f n=> ?_) (λi j f n=> ?_)
   ·have l:i*sz+j<es.length*sz:=by
     calc i*sz+j<i*sz+sz:=by omega
      _=(i+1)*sz:=by rw[Jg,Jw]
      _<=es.length*sz:=Ja _ f
    rw[JA,XH,if_pos ⟨rfl,l⟩]
   ·refine((k7 i j f n).alone ?_).mono g;have hx:=r1 _ (Zc (d:= .any) f);have Y:=D _ (Zc (d:= .any) f);cases G:((es.getD i .any).cells.getD j .any).ids with
    |nil=>rfl
    |cons r rs=>
     have:=Yv (p:=es.getD i .any) (Zc (d:= .any) (by omega:j<(es.getD i .any).cells.length)) (k:=r) (by rw[G];simp);rw[Y]at this;cases this
def ZfD {q:Rows} {es ys:List PV} {sz:Nat} {c1 d:List Value} (b:c1.length=es.length*sz) (k:∀i j,i<es.length->j<sz->RepS S M q (c1.getD (i*sz+j) undef) ((es.getD i .any).cells.getD j .any))
  (f:∀i j,i<ys.length->j<sz->RepS S M q (d.getD (i*sz+j) undef) ((ys.getD i .any).cells.getD j .any)) (i j:Nat) (l:i<(es++ys).length) (c:j<sz):
  RepS S M q ((c1++d).getD (i*sz+j) undef) (((es++ys).getD i .any).cells.getD j .any):=by
 by_cases h:i<es.length;have:i*sz+j<c1.length:=by
  rw[b]
  calc i*sz+j<i*sz+sz:=by omega
   _=(i+1)*sz:=by rw[Jg,Jw]
   _<=es.length*sz:=Ja _ h
 rw[Zf this,Zf h];exact k i j h c;have g:es.length*sz<=i*sz:=Ja _ (by omega);rw[Zg (by omega),Zg (by omega),b];have e:i*sz+j-es.length*sz=(i-es.length)*sz+j:=by rw[Qn];omega
 rw[e];exact f _ _ (by simp only[Jf]at l;omega) c
theorem Zmo (K:Sim B S M s a w) {d:Nat} {t V ty:TypeId} {x:EInfo} (hx:XS P t=Hs x) {es ys:List PV} {news:List Value} {u y:Value}
  (hu:RepS S M s.m.q u (.vsl d es.length x.size)) (hv:s.m.v d=Hs es) (F:s.m.q d=Hs (.vec es.length x.size x.e))
  (b:Src P x.size V y ys.length news w) (C:∀i j,i<ys.length->j<x.size->RepS S M s.m.q (news.getD (i*x.size+j) undef) ((ys.getD i .any).cells.getD j .any))
  (hz:∀p∈ys,p.cells.length=x.size/\p.cells.all PV.atom=Ht/\ ∀i∈p.ids,ZI s.m i/\i≠ .r d) (G:∀p∈es,∀i∈p.ids,i≠ .r d) (E:ZkQ (es.length+ys.length) x.bytes):
  ∃v w' S' Z,(Jz #[t,V] ty #[u,y]).run P w= .ok v w'/\Sim B S' Z (s.with { s.m.setq d (.vec (es++ys).length x.size x.e)with v:=upd s.m.v d (Hs (es++ys)) }) a w'/\
   RepS S' Z (upd s.m.q d (Hs (.vec (es++ys).length x.size x.e))) v (.vsl d (es++ys).length x.size)/\Ext B S S' w w':=by
 obtain⟨i,z,h1,h2,h3,h4,h5,h6,h7,h8⟩:=YR hx;obtain⟨xw,e',q1,r1,r2,r4⟩:=K.vc d es hv;rw[F]at q1;cases q1;obtain⟨o1,o2⟩:=K.row d _ F;obtain⟨_,t1⟩:=hu.vsl_inv;obtain⟨_,t2⟩:=t1 _ _ _ F;obtain⟨_,u0,u1⟩:=t2 rfl;have good:∀p∈es++ys,p.cells.length=x.size/\p.cells.all PV.atom=true:=λp hp=>by
  rcases JL.1 hp with hp|hp;exact r1 p hp;exact⟨(hz p hp).1,(hz p hp).2.1⟩
 have gids:∀p∈es++ys,∀i∈p.ids,ZI s.m i/\i≠ .r d:=λp hp i g=>by
  rcases JL.1 hp with hp|hp;exact⟨r2 p hp i g,G p hp i g⟩;exact(hz p hp).2.2 i g
 -- a new block
 have grow:∀ {base:Option Addr} {sCap:Nat} {olds:List Value},u= .slice base es.length sCap->(Jm x.size es.length (.slice base es.length sCap)).run P w.drew= .ok olds.toArray w.drew->olds.length=es.length*x.size->
   (∀i j,i<es.length->j<x.size->RepS S M s.m.q (olds.getD (i*x.size+j) undef) ((es.getD i .any).cells.getD j .any))->sCap<es.length+ys.length->es.length<=sCap->
   ∃v w' S' Z,(Jz #[t,V] ty #[u,y]).run P w= .ok v w'/\Sim B S' Z (s.with { s.m.setq d (.vec (es++ys).length x.size x.e)with v:=upd s.m.v d (Hs (es++ys)) }) a w'/\
   RepS S' Z (upd s.m.q d (Hs (.vec (es++ys).length x.size x.e))) v (.vsl d (es++ys).length x.size)/\Ext B S S' w w':=by
  intro base sCap olds xd xb ho xi J xx;subst xd;obtain⟨g1,g2⟩:=E;have xl:((es.length+ys.length:Nat):Int)<=9223372036854775807:=by simp only[maxLen]at g2;omega
  have l:=run_append_grow_src (P:=P) w t V ty x.e i z h1 h2 h3 base es.length sCap olds (by rw[h5];exact xb) y ys.length news (by rw[h5];exact b) J xl
   (by rw[h6];exact growslice_fits J g1)
  have X:=grownCap_ge w (es.length+ys.length) sCap x.e;have xm:=grownCap_le_maxLen w (es.length+ys.length) sCap x.e g2;generalize xv:grownCap w (es.length+ys.length) sCap x.e=cap at *;have m:(olds++news).length=(es.length+ys.length)*x.size:=by rw[Jf,ho,b.newsLen,Jg]
  let vs:List Value:=olds++news++(JM z.cells (cap-(es.length+ys.length))).toList
  have xh:vs.length=cap*x.size:=by
   show(olds++news++_).length=_;have xc:(JM z.cells (cap-(es.length+ys.length))).toList.length=(cap-(es.length+ys.length))*x.size:=by
    rw[JC,size_zeroCells,h4]
   rw[Jf,m,xc,<-Jg];congr 1;omega
  have U:(olds++news).toArray++JM z.cells (cap-(es.length+ys.length))=⟨vs⟩:=by
   apply JZ;simp[vs]
  rw[U]at l;have N:=K.newVec (d:=d) (n:=(es++ys).length) (sz:=x.size) (c:=cap) (e:=x.e) (vs:=vs) (es:=es++ys) (w':=w.drew.alloc (.cells ⟨vs⟩ x.e)) (.inr ⟨_,_,_,F,by simp only[Jf];omega⟩) rfl (by simpa using X) xm xh
   (λk hk=>ZU w.drew _ hk) (alloc_heap_new w.drew _) good gids (λi j g r=>by
    have hb:i*x.size+j<(olds++news).length:=by
     rw[m];simp only[Jf]at g
     calc i*x.size+j<i*x.size+x.size:=by omega
      _=(i+1)*x.size:=by rw[Jg,Jw]
      _<=(es.length+ys.length)*x.size:=Ja _ g
    show RepS S M s.m.q ((olds++news++_).getD _ undef) _;rw[Zf hb];exact ZfD ho xi C i j g r)
  refine⟨_,_,_,_,l,N,?_,?_⟩
  ·have xs:es.length+ys.length<=cap:=X;refine .vsl d _ _ _ ⟨Hs ⟨w.heap.size,0,Hn⟩,cap,by rw[Jf],by simp only[Jf];exact xs,λ_=>⟨_,_,rfl⟩⟩ λn1 xr e1 q=> ?_
   rw[Za]at q;cases q;refine⟨Jj _,λ_=>⟨rfl,λh0=>by simp[Za]at h0,λc hc=> ?_⟩⟩;simp only[Za,Jq]at hc ⊢;rw[hc,Jf]
  ·exact⟨SLe.refl _,λ_ _=>⟨λ_=>rfl,rfl⟩,((BelowF.refl B w).drew).alloc K.hB _⟩
 cases L:M.κ d with
 |zero=>
  have Y:=u0 L;have xn:es= []:=Jc (o1 L);subst xn;by_cases hm:ys.length=0
  ·have e0:ys= []:=Jc hm;subst e0;subst Y;have l:=X1 (ty:=ty) hx (base:=Hn) (Jj 0) b;have A:({ s.m.setq d (.vec ([]++([]:List PV)).length x.size x.e)with v:=upd s.m.v d (Hs ([]++ [])) }:Hp)=s.m:=by
    have e1:upd s.m.q d (Hs (.vec ([]:List PV).length x.size x.e))=s.m.q:=by rw[<-F,XX]
    have e2:upd s.m.v d (Hs [])=s.m.v:=by rw[<-hv,XX]
    simp only[K4,Hp.setq,e1,e2];try rfl
   refine⟨_,w,S,M,l,?_,?_,Ext.refl _ _ _⟩;rw[A];exact K;simp only[K4];rw[<-F,XX];exact hu
  exact grow (olds:= []) Y (by simp[Jm]) (by simp) (λi j g=>by simp at g) (by simp;omega) (by simp)
 |succ c=>
  have W:=u1 c L;obtain⟨k1,k2,k3,⟨vs,k5,k6⟩,k4⟩:=o2 c L;have k7:=r4 c L vs x.e (0,0) k5;have xq:es.length*x.size<=vs.length:=by rw[k6];exact Ja _ k1
  by_cases J:es.length+ys.length<=c
  -- in place
  subst W;have xu:(es.length+ys.length)*x.size<=c*x.size:=Ja _ J;have Q:(es.length+ys.length)*x.size=es.length*x.size+news.length:=by rw[Jg,b.newsLen]
  have T:=run_storeCells_at (P:=P) (M.ψ d) (es.length*x.size) x.e news 0 ⟨vs⟩ w k5 (by simp;omega) b.one;simp only[JR]at T;have l:(Jz #[t,V] ty #[.slice (Hs ⟨M.ψ d,0,Hn⟩) es.length c,y]).run P w= .ok (.slice (Hs ⟨M.ψ d,0,Hn⟩) (es.length+ys.length) c) (w.setRow (M.ψ d) ⟨vs.take (es.length*x.size)++news++vs.drop (es.length*x.size+news.length)⟩):=by
   have e5:(sizeOf x.e).run P w= .ok x.size w:=by rw[YA h2,h8]
   rcases b.kind with ⟨e',O⟩|O<;>simp[Jz,run_underlying h1,run_underlying O,e5,b.len,J,b.cells,Addr.add_lit,T]
  have hf:=K.forget d;have D:(vs.take (es.length*x.size)++news++vs.drop (es.length*x.size+news.length)).length=c*x.size:=by
   simp only[Jf,Jk,Jl];omega
  have xe:=hf.relen (id:=d) (n':=(es++ys).length) F (Za _ _ _) (by simp) (λc' xa=>by simp;omega) (λh0=>by omega);obtain⟨xk,xo,xt⟩:=xe.pokeVec (id:=d) (n:=(es++ys).length) (sz:=x.size) (e:=x.e) (Za _ _ _) (Za _ _ _) L D;have hl:=xk.layVec (d:=d) (es:=es++ys) ⟨x.size,x.e,Za _ _ _,good,λp hp i g=>XM i (by have:=(gids p hp i g).1;cases i<;>exact this),λc' xa us t' f R i j g r=>by
   rw[xt]at R;cases R;have hb:i*x.size+j<(vs.take (es.length*x.size)++news).length:=by
    simp only[Jf,Jk];simp only[Jf]at g;rw[Nat.min_eq_left xq,<-Q]
    calc i*x.size+j<i*x.size+x.size:=by omega
     _=(i+1)*x.size:=by rw[Jg,Jw]
     _<=(es.length+ys.length)*x.size:=Ja _ g
   rw[Zf hb];have:=ZfD (c1:=vs.take (es.length*x.size)) (by rw[Jk];omega) (λi j g r=>by
    have I:i*x.size+j<es.length*x.size:=by
     calc i*x.size+j<i*x.size+x.size:=by omega
      _=(i+1)*x.size:=by rw[Jg,Jw]
      _<=es.length*x.size:=Ja _ g
    rw[Xu I];exact k7 i j g r) C i j g r
   refine this.heap (SLe.refl _) (λ_ _=>rfl) λk hk=> ?_
   have xp:d≠k:=λe=>by
    subst e;have m:=(good _ (Zc (d:= .any) g)).1;exact(gids ((es++ys).getD i .any) (Zc g) (.r d) (Yv (Zc (by omega)) hk)).2 rfl
   show RowLe M M k (s.m.q k) (upd s.m.q d _ k);rw[Zb _ _ xp];exact .refl _ _ _⟩
  have e2:(upd (upd s.m.v d Hn) d (Hs (es++ys)))=upd s.m.v d (Hs (es++ys)):=ZbV _ _ _ _;simp only[St.with,Hp.setq,e2]at hl ⊢;refine⟨_,_,S,M,l,hl,?_,xo⟩;refine .vsl d _ _ _ ⟨Hs ⟨M.ψ d,0,Hn⟩,c,by rw[Jf],by simp only[Jf];exact J,λ_=>⟨_,_,rfl⟩⟩ λn1 xr e1 q=> ?_
  rw[Za]at q;cases q;refine⟨Jj _,λ_=>⟨rfl,λh0=>by omega,λc' xa=> ?_⟩⟩;have:c'=c:=by omega
  subst this;rw[Jf];refine grow (olds:=vs.take (es.length*x.size)) W ?_ (by rw[Jk];omega) (λi j g r=> ?_) (by omega) k1;refine run_firstCells_some w.drew x.size es.length ⟨M.ψ d,0,Hn⟩ es.length c _ (by rw[Jk];omega) (λj u r=> ?_);obtain⟨xj,xf⟩:=JK.1 r;rw[Addr.add_lit];have xy:j<es.length*x.size:=by rw[Jk]at xj;omega
  have xg:=Yu (o:=0+j) k5;have:w.drew.cell? ⟨M.ψ d,0+j,Hn⟩=w.cell? ⟨M.ψ d,0+j,Hn⟩:=rfl;rw[this,xg,JA,Je (by omega),<-xf];simp;have I:i*x.size+j<es.length*x.size:=by
   calc i*x.size+j<i*x.size+x.size:=by omega
    _=(i+1)*x.size:=by rw[Jg,Jw]
    _<=es.length*x.size:=Ja _ g
  rw[Xu I];exact k7 i j g r
def ZkZ (q:Sim B S M s a w) {o:TypeId} {v:Value} {y:PV} (hv:RepS S M s.m.q v y) {ei:EInfo} {ys:List PV} (d:WT P o y=Hs ys) (m:Sized ei.size ys) (g:XF ys) (k:0<ei.size):
  ∃news:List Value,Src P ei.size o v ys.length news w/\ ∀i j,i<ys.length->j<ei.size->Rep S (news.getD (i*ei.size+j) undef) ((ys.getD i .any).cells.getD j .any):=by
 unfold WT at d;split at d;rename_i t x z u b;cases d;obtain⟨e,d',A,f,_⟩:=Sd b;exact hv.sl_inv.src q.stable m g f;rename_i l b;cases d;have f:=ZeV b;rw[hv.str_inv];by_cases n:l= [];subst n;refine⟨[],?_,λi j r=>by simp[Y8]at r⟩;refine⟨.inr f,λ_=>rfl,?_,?_,by simp[Y8],λ_ h=>by cases h⟩;simp[Jm,Y8];simp[Jm,Y8];have p:ei.size=1:=by
  obtain⟨c,C,rfl⟩:=Kc n;exact(m (.int .u8 c.toNat) (by simp[Y8])).symm
 rw[p];exact ZdH f l;cases d
theorem ZuQ (p:Sim B S M s a w) {A z:TypeId} (x:P.underlying A=Hs (.slice z)) {id sz:Nat} {e:TypeId} {ys:List PV} {v:Value} (hv:s.m.v id=Hs ys) (n:s.m.q id=Hs (.vec ys.length sz e)) (N:RepS S M s.m.q v (.vsl id ys.length sz)):
  ∃news:List Value,Src P sz A v ys.length news w/\ ∀i j,i<ys.length->j<sz->RepS S M s.m.q (news.getD (i*sz+j) undef) ((ys.getD i .any).cells.getD j .any):=by
 obtain⟨E,e1,C,W,r2,D⟩:=p.vc id ys hv;rw[n]at C;cases C;obtain⟨V,Z⟩:=p.row id _ n;obtain⟨_,t⟩:=N.vsl_inv;obtain⟨_,K⟩:=t _ _ _ n;obtain⟨_,J,X⟩:=K rfl;cases l:M.κ id with
 |zero=>
  have T:=V l;have O:ys= []:=Jc T;subst O;rw[J l];refine⟨[],⟨.inl ⟨z,x⟩,λ_=>rfl,?_,?_,by simp,λ_ h=>by cases h⟩,λi j b=>by simp at b⟩
  ·simp[Jm]
  ·simp[Jm]
 |succ c=>
  obtain⟨G,k2,k3,⟨vs,y,I⟩,k4⟩:=Z c l;have q:=D c l vs e (0,0) y;have Q:ys.length*sz<=vs.length:=by rw[I];exact Ja _ G
  have F:∀ {i j},i<ys.length->j<sz->i*sz+j<ys.length*sz:=λ{i j} b f=>by
   calc i*sz+j<i*sz+sz:=by omega
    _=(i+1)*sz:=by rw[Jg,Jw]
    _<=ys.length*sz:=Ja _ b
  rw[X c l];refine⟨vs.take (ys.length*sz),Src.ofSlice w x ⟨M.ψ id,0,Hn⟩ ys.length c _ (by rw[Jk];omega) (λj u f=> ?_) (λu Y=> ?_),λi j b f=> ?_⟩
  ·obtain⟨m,o⟩:=JK.1 f;have g:j<ys.length*sz:=by rw[Jk]at m;omega
   rw[Addr.add_lit,Yu y,JA,Je (by omega),<-o];simp
  ·obtain⟨j,f,rfl⟩:=Jr Y;have g:j<ys.length*sz:=by rw[Jk]at f;omega
   have k:0<sz:=by rcases Nat.eq_zero_or_pos sz with h|h;rw[h]at g;simp at g;exact h
   have b:j / sz<ys.length:=Nat.div_lt_of_lt_mul (by rwa[Km]);have U:j % sz<sz:=K5 _ k;have L:j / sz*sz+j % sz=j:=by rw[Km];exact Kr j sz
   have r:=q (j / sz) (j % sz) b U;rw[L,getD_lt (by omega)]at r;simp only[List.getElem_take];refine r.atom_inv ?_;have R:=W _ (Zc (d:= .any) b);exact JS.1 R.2 _ (Zc (by omega))
  ·rw[Xu (F b f)];exact q i j b f
def VQ (P:Program) (b:TypeId) (y:PV) (m:Hp):Option (List PV):=
 match y with
 | .vsl id _ _=>match tix P b with
  | .slc _ _=>m.v id
  |_=>Hn
 |y=>WT P b y
def ZdT (y:PV) (m:Hp) (ys:List PV) (size:Nat) (ids:List Nat):Prop:=
 match y with
 | .vsl id n sz=>ys.length=n/\sz=size/\(∃e,m.q id=Hs (.vec n sz e))/\id∉ids
 |_=>∀p∈ys,p.ids= []
def ZhO (l:Sim B S M s a w) {q:TypeId} {v:Value} {y:PV} (hv:RepS S M s.m.q v y) {ei:EInfo} {ys:List PV} (f:VQ P q y s.m=Hs ys) (t:∀p∈ys,p.cells.length=ei.size/\p.cells.all PV.atom=Ht) (g:0<ei.size) {ids:List Nat} (b:ZdT y s.m ys ei.size ids):
  ∃news:List Value,Src P ei.size q v ys.length news w/\(∀i j,i<ys.length->j<ei.size->RepS S M s.m.q (news.getD (i*ei.size+j) undef) ((ys.getD i .any).cells.getD j .any))/\ ∀p∈ys,∀i∈p.ids,ZI s.m i:=by
 by_cases c:∃id n sz,y= .vsl id n sz;obtain⟨id,n,sz,rfl⟩:=c;simp only[VQ]at f;split at f;rename_i z G x;obtain⟨rfl,rfl,⟨e,C⟩,_⟩:=b;obtain⟨I,d,F,E,_⟩:=Sd x;obtain⟨news,m,r⟩:=ZuQ l E f C hv;obtain⟨_,_,_,_,D,_⟩:=l.vc id ys f;exact⟨news,m,r,D⟩;cases f;have o:WT P q y=Hs ys:=by
  cases y<;>first|exact f|exact absurd ⟨_,_,_,rfl⟩ c
 have u:∀p∈ys,p.ids= []:=by
  cases y<;>first|exact b|exact absurd ⟨_,_,_,rfl⟩ c
 obtain⟨news,m,r⟩:=ZkZ l hv o (λp hp=>(t p hp).1) (λp hp=>(t p hp).2) g;exact⟨news,m,λi j k A=> .clean (r i j k A),λp hp i k=>by rw[u p hp]at k;cases k⟩
def Zqx (m:Hp) (id d n sz:Nat) (e:TypeId) (es:List PV):Hp:=
 if d=id then { m.setq d (.vec n sz e)with v:=upd m.v d (Hs es) } else { (m.setq id .dead).setq d (.vec n sz e)with v:=upd (upd m.v id Hn) d (Hs es) }
def FK (K:Sim B S M s a w) {id d:Nat} {t O ty:TypeId} {x:EInfo} (N:XS P t=Hs x) {es ys:List PV} {u v:Value} {y:PV} (Z:RepS S M s.m.q u (.vsl id es.length x.size)) (hv:s.m.v id=Hs es) (W:s.m.q id=Hs (.vec es.length x.size x.e))
  (T:RepS S M s.m.q v y) (X:VQ P O y s.m=Hs ys) (F:ZdT y s.m ys x.size [id,d]) (hd:d=id\/s.m.q d=Hn) (l:∀p∈ys,p.cells.length=x.size/\p.cells.all PV.atom=Ht) (b:∀p∈es++ys,.r id∉p.ids) (c:ZkQ (es.length+ys.length) x.bytes):
  ∃r w' S' j,(Jz #[t,O] ty #[u,v]).run P w= .ok r w'/\Sim B S' j (s.with (Zqx s.m id d (es.length+ys.length) x.size x.e (es++ys))) a w'/\
   RepS S' j (Zqx s.m id d (es.length+ys.length) x.size x.e (es++ys)).q r (.vsl d (es.length+ys.length) x.size)/\Ext B S S' w w':=by
 obtain⟨i,z,h1,h2,h3,h4,h5,h6,R,h8⟩:=YR N;obtain⟨news,g,J,m⟩:=ZhO K T X l R F;obtain⟨r,w',S',j,L,E,A,Q⟩:=Zmo K (ty:=ty) N Z hv W g J (λp hp=>⟨(l p hp).1,(l p hp).2,λi k=>⟨m p hp i k,λe=>b p (by simp[hp]) (e▸k)⟩⟩) (λp hp i k e=>b p (by simp[hp]) (e▸k)) c;rw[Jf]at E A;unfold Zqx;by_cases e:d=id;subst e;simp only[if_true];exact⟨r,w',S',j,L,E,A,Q⟩;simp only[if_neg e];have I:=hd.resolve_left e;have o:(s.with { s.m.setq id (.vec (es.length+ys.length) x.size x.e)with v:=upd s.m.v id (Hs (es++ys)) }).m.q id=Hs (.vec (es++ys).length x.size x.e):=by rw[Jf];exact Za _ _ _
 have q:(s.with { s.m.setq id (.vec (es.length+ys.length) x.size x.e)with v:=upd s.m.v id (Hs (es++ys)) }).m.v id=Hs (es++ys):=Za _ _ _;have G:(s.with { s.m.setq id (.vec (es.length+ys.length) x.size x.e)with v:=upd s.m.v id (Hs (es++ys)) }).m.q d=none:=by
  show upd s.m.q id _ d=Hn;rw[Zb _ _ (Jt e)];exact I
 have C:=E.moveVec o q G;rw[Jf]at C;simp only[St.with,Hp.setq,ZbV]at C;refine⟨r,w',S',_,L,C,?_,Q⟩;obtain⟨D,t⟩:=A.vsl_inv;refine .vsl d _ _ r D λn U e' f=> ?_
 simp only[Hp.setq,Za]at f;cases f;obtain⟨_,V⟩:=t _ _ _ (Za _ _ _);refine⟨Jj _,λ_=> ?_⟩;have Y:=V rfl;simp only[Za];exact⟨trivial,Y.2⟩
def T5 (size d:Nat):Nat->List (Nat×PV)->Prop
 |_,[]=>True
 |k,(i,p)::rest=>i=k/\p.known=Ht/\p.cells.length=size/\p.cells.all PV.atom=Ht/\ .r d∉p.ids/\T5 size d (k+1) rest
theorem Zds {size d:Nat}:∀ {parts:List (Nat×PV)} {k:Nat},T5 size d k parts->(∀x∈parts,x.2.known=Ht/\x.2.cells.length=size/\x.2.cells.all PV.atom=Ht/\ .r d∉x.2.ids)/\parts.map (·.1)=(Qp k parts.length)
 | [],k,_=>by simp
 |(i,p)::rest,k,h=>by
  obtain⟨rfl,e,c,f,g,j⟩:=h;obtain⟨l,m⟩:=Zds j;refine⟨λx b=> ?_,?_⟩;rcases K9.1 b with rfl|b;exact⟨e,c,f,g⟩;exact l x b;simp[m,Kj]
def Zcm {t:TypeId} {ei:EInfo} (v:XS P t=Hs ei) {vparts:List (Nat×Value)} (b:vparts=((vparts.map (·.2)).zipIdx 0).map λx=>(x.2,x.1)) (f:∀u∈vparts.map (·.2),u.cells.size=ei.size) (l:vparts.length*ei.size<=16777216) (w:World):
  (JE t vparts.length ⟨vparts⟩).run P w= .ok (.slice (Hs ⟨w.heap.size,0,Hn⟩) vparts.length vparts.length) (w.alloc (.cells ⟨(vparts.map (·.2)).flatMap λu=>u.cells.toList⟩ ei.e)):=by
 obtain⟨C,z,m,k,r,E,D,F,A,q⟩:=YR v;have nolim:¬vparts.length*ei.size>2 ^ 24:=by omega
 have c:∀d:List Value,d.length=vparts.length*ei.size->JN (λi=>Hs (i*ei.size,ei.size)) ⟨d⟩ vparts=Hs ⟨d.take (0*ei.size)++(vparts.map (·.2)).flatMap λu=>u.cells.toList⟩:=λd e=>by
  have:=D1 (size:=ei.size) (vparts.map (·.2)) 0 d (by simp[e]) f;rw[<-b]at this;exact this
 have o:(sizeOf ei.e).run P w= .ok ei.size w:=by rw[YA k,q]
 by_cases n:vparts.length*ei.size=0;have j:vparts= []:=by
  rcases K2.1 n with h|h;exact Jc h;omega
 subst j;simp[JE,ZH m,o,JN,newRow,newObj,KA,J4];have y:Qr (λ_:Nat=>(Jd:Value)) (Kz 0)=⟨[]⟩:=by
  apply JZ;simp
 rw[y];have p:=c ((JY (vparts.length*ei.size)).map λx=>z.cells[x % z.cells.size]!) (by simp);have g:(zeroValue ei.e).run P w= .ok z w:=by simp[zeroValue,GF k,r]
 simp only[JE,Ji,ZH m,Jb,o,nolim,if_false,Jp,n,g];have:(Kz (vparts.length*ei.size)).map (λx=>z.cells[x % z.cells.size]!)=⟨(JY (vparts.length*ei.size)).map λx=>z.cells[x % z.cells.size]!⟩:=by
  apply JZ;simp
 simp only[this,p];simp[newRow,newObj,KA,J4]
def ZpH (V:Sim B S M s a w) {d:Nat} {t:TypeId} {ei:EInfo} (I:XS P t=Hs ei) {parts:List (Nat×PV)} {vparts:List (Nat×Value)} (J:vparts.length=parts.length)
  (hp:∀i,i<parts.length->(vparts.getD i (0,undef)).1=(parts.getD i (0,.any)).1/\RepS S M s.m.q (vparts.getD i (0,undef)).2 (parts.getD i (0,.any)).2) (F:∀x∈parts,∀i∈x.2.ids,ZI s.m i)
  (g1:s.m.q d=Hn) (g3:parts.length*ei.size<=16777216) (g4:T5 ei.size d 0 parts):
  ∃v w' X,(JE t parts.length ⟨vparts⟩).run P w= .ok v w'/\Sim B S X (s.with { s.m.setq d (.vec parts.length ei.size ei.e)with v:=upd s.m.v d (Hs (parts.map (·.2))) }) a w'/\
   RepS S X (upd s.m.q d (Hs (.vec parts.length ei.size ei.e))) v (.vsl d parts.length ei.size)/\Ext B S S w w':=by
 obtain⟨ti,z,h1,h2,h3,h4,h5,h6,Y,h8⟩:=YR I;obtain⟨G,p2⟩:=Zds g4;have L:∀i,i<parts.length->RepS S M s.m.q ((vparts.map (·.2)).getD i undef) (parts.getD i (0,.any)).2:=λi b=>by
  have:=(hp i b).2;rw[getD_lt (by simp;omega)];rw[getD_lt (by omega)]at this;simpa using this
 have f:∀i,i<parts.length-> ∃ys:List Value,((vparts.map (·.2)).getD i undef).cells=⟨ys⟩/\ys.length=ei.size/\ ∀j,j<ei.size->RepS S M s.m.q (ys.getD j undef) ((parts.getD i (0,.any)).2.cells.getD j .any):=λi b=>by
  obtain⟨q1,q2,q3⟩:=G _ (Zc (d:=(0,PV.any)) b);obtain⟨ys,y,O,R⟩:=(L i b).cells_inv q1;exact⟨ys,y,by omega,λj N=>R j (by omega)⟩
 have r:∀u∈vparts.map (·.2),u.cells.size=ei.size:=λu T=>by
  obtain⟨i,b,rfl⟩:=Jr T;simp only[JO]at b;obtain⟨ys,y,O,_⟩:=f i (by omega);rw[getD_lt (by simpa using b)]at y;rw[y];simp[O]
 have q:vparts=((vparts.map (·.2)).zipIdx 0).map λx=>(x.2,x.1):=by
  apply KT;simp;intro i K xa;simp only[JD,KB,JA];have:=(hp i (by omega)).1;rw[getD_lt K,getD_lt (by omega)]at this;have C:(parts[i]'(by omega)).1=i:=by
   have e:=congrArg (λl=>l[i]?) p2;simp only[Kf]at e;rw[Je (by omega),Je (by simp;omega)]at e;simpa using e
  rw[C]at this;exact Qs this rfl
 have m:=Zcm I q r (by rw[J];exact g3) w;rw[J]at m;generalize E:(vparts.map (·.2)).flatMap (λu=>u.cells.toList)=vs at m;have Q:vs.length=parts.length*ei.size:=by
  rw[<-E,KC];have:(Ky (λu:Value=>u.cells.toList.length) (vparts.map (·.2)))=JJ parts.length ei.size:=by
   apply Ku.2;refine⟨by simp[J],λx I=> ?_⟩;obtain⟨u,T,rfl⟩:=J5.1 I;simpa using r u T
  rw[this];simp
 have D:parts.length<=maxLen:=by
  have:=Kk parts.length Y;simp only[maxLen];omega
 have A:=V.newVec (d:=d) (n:=parts.length) (sz:=ei.size) (c:=parts.length) (e:=ei.e) (vs:=vs) (es:=parts.map (·.2)) (w':=w.alloc (.cells ⟨vs⟩ ei.e)) (.inl g1) (by simp) (Jj _) D Q (λk hk=>ZU w _ hk) (alloc_heap_new w _)
  (λp hp=>by
   obtain⟨x,g,rfl⟩:=J5.1 hp;exact⟨(G x g).2.1,(G x g).2.2.1⟩)
  (λp hp i b=>by
   obtain⟨x,g,rfl⟩:=J5.1 hp;exact⟨F x g i b,λe=>(G x g).2.2.2 (e▸b)⟩)
  (λi j b N=>by
   simp only[JO]at b;obtain⟨ys,y,O,R⟩:=f i b;have o:vs.getD (i*ei.size+j) undef=ys.getD j undef:=by
    rw[<-E,Za1 r (by simpa[J]using b) N,y]
   rw[o];rw[getD_lt (l:=Ky _ parts) (by simpa using b)];simp only[JD];have:=R j N;rw[getD_lt b]at this;exact this)
 refine⟨_,_,_,m,A,?_,V.ext_alloc _⟩;refine .vsl d _ _ _ ⟨Hs ⟨w.heap.size,0,Hn⟩,_,rfl,Jj _,λ_=>⟨_,_,rfl⟩⟩ λn' Z e' W=> ?_
 rw[Za]at W;cases W;refine⟨Jj _,λ_=>⟨rfl,λh0=>by simp[Za]at h0,λc U=> ?_⟩⟩;simp only[Za,Jq]at U ⊢;rw[<-U]
end
end Go.PL
