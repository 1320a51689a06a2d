/- Lemmas of the proof. -/
import Derived.Test.YtadgngamdofhiaaGreatPlD
import GoSem.ClaimChange
import Derived.WalkKit
import Derived.ProofKit
import Derived.OpenShut
import Derived.Carry
import Derived.Test.YtadgngamdofhiaaGreatPlA
import Derived.OrdersIn
import Derived.RangeFuncCalls
import Derived.RangeFuncKeeps
import Derived.LoopNIn
import Derived.RangeFuncLeaves
import Derived.OrdersHeld
import Derived.Still
set_option maxHeartbeats 64000000
set_option maxRecDepth 20000
set_option linter.unusedVariables false
set_option linter.unusedSimpArgs false
open Go Go.PL
open _root_.Array renaming getD_eq_getD_getElem?→Jb,getElem?_eq_some_iff→Je,replicate→Jl,getElem?_replicate→Jy,getElem?_setIfInBounds→JD,getElem?_append_right→JV,any_eq_true'→J3,getElem?_append_left→J5,mk→K9
open BelowF renaming refl→JL
open Bool renaming and_eq_true→Jh,or_eq_true→JH,false_eq_true→J4,not_eq_true'→Kz
open DataW renaming TrodAll→Jk,trod→Kf
open Ext renaming refl→Jt
open Int renaming mul_lt_mul_of_pos_right→JX,compare_eq_lt→KC,compare_eq_gt→KD
open List renaming mem_singleton→Ja,mem_map→Jc,all_eq_true→Jg,getD_eq_getElem?_getD→Ji,contains_iff_mem→Jj,length_drop→Jp,eq_nil_iff_forall_not_mem→Jq,pairwise_cons→Jr,mem_cons→Js,getElem_of_mem→Ju,getElem?_eq_getElem→Jz,length_take→JB,getElem?_cons_succ→JK,append_assoc→JO,getElem_take→JP,getElem_drop→JQ,append_nil→JS,map_nil→JY,replicate→JZ,getElem?_append_right→J2,map_cons→J7,finRange→J8,getElem?_cons_zero→J9,length_cons→Ka,getElem_mem→Kc,range→Kd,drop_eq_nil_of_le→Ke,length_map→Kh,length_set→Kj,take_append_drop→Kk,mem_range→Kl,mem_of_getElem?→Kn,pairwise_append→Kr,range_eq_range'→Ks,Pairwise→Kw,getElem_map→KI,range'_succ→KJ,ext_getElem→KK,mem_append→KP,of_mem_zip→KQ,mapM_cons→KW,drop_drop→KX,map_map→K2,range'→K6,Perm→K7,map→K8
open Nat renaming mul_le_mul_right→Jm,shiftLeft_eq→Jo,le_of_not_lt→Jv,le_refl→JE,shiftLeft_zero→JI,two_pow_pos→JT,mul_lt_mul_of_pos_right→JW,lt_succ_self→Kb,strongRecOn→Ki,zero_le→Km,one_mul→Ko,add_assoc→Kv,succ_mul→Kx,add_comm→KA,sub_zero→KB,shiftLeft_add→KE,zero_add→KF,lt_log2_self→KG,pow_add→KL,add_mul→KM,min_eq_left→KN
open Ne renaming symm→KT
open Option renaming bind_eq_some_iff→JJ,map_eq_some_iff→JM,some→J6,map_some→KO
open PV renaming ids→JA,idsL→JN,mem_idsL→JR,dids→Ku,atom→KU,didsL→KY,any→K0,cells→K4,giveL→K5,sl→Qa
open Region renaming ready→Jw,Mode→JF,binds→JG,wanted→KZ
open SLe renaming refl→JC
open Sem renaming run→K1
open Sum renaming elim→Jf,elim_inl→JU,elim_inr→Ky
open World renaming putObj_heap_other→Jn,putObj_heap_same→Kg,cell?_of_block→Kq,alloc_heap_new→Kt,cell?→K3
namespace Go.PL
open Go.RowKit
def Zoi (ag:Bool) (ds:List PV):PV:=if ag then .agg ds else ds.getD 0 .any
theorem Zmc {b:Bool} (h:(!b)=false):b=true:=by cases b<;>simp_all
def Zds (P:Program) (t:TypeId):Bool:=
 match P.underlying t with
 |some (.slice e)=> !(decide (0<P.cellsOf e)&&(Yo P e||P.cellsOf e==1))
 |some (.pointer e)=> !decide (0<P.cellsOf e)
 |_=>false
mutual
inductive PT (P:Program):TypeId->List PV->Prop
 |bool {t:TypeId} (h:P.underlying t=some .bool) (b:Bool):PT P t [.bool b]
 |int {t:TypeId} {k:IntKind} (h:P.underlying t=some (.int k)) (n:Int) (h1:k.min<=n) (h2:n<=k.max):PT P t [.int k n]
 |flt {t:TypeId} {k:FloatKind} (h:P.underlying t=some (.float k)) (b:Nat) (hw:(Lit.float k b).wf=true):PT P t [.flt k b]
 |str {t:TypeId} (h:P.underlying t=some .string) (l:List UInt8) (hl:l.length<=maxLen):PT P t [.str l]
 |nilp {t e:TypeId} (h:P.underlying t=some (.pointer e)):PT P t [.nilp]
 |ptr {t e:TypeId} (h:P.underlying t=some (.pointer e)) (cs:List PV) (hp:PT P e cs):PT P t [.rptr cs]
 |sl {t e:TypeId} (h:P.underlying t=some (.slice e)) (n:Nat) (hn:n<=maxLen) (f:Nat->List PV) (hp:∀i,i<n->PT P e (f i)):PT P t [.sl .no ((Kd n).map λi=>Zoi (Yo P e) (f i))]
 |str' {t:TypeId} {fs:Array Field} (h:P.underlying t=some (.struct fs)) (cs:List PV) (hp:PTs P (fs.toList.map (·.type)) cs):PT P t cs
 |arr {t e:TypeId} {n:Nat} (h:P.underlying t=some (.array n e)) (cs:List PV) (hp:PTs P (JZ n e) cs):PT P t cs
 |odd {t:TypeId} (h:Zds P t=true):PT P t [.any]
 |any {t:TypeId} (h:∀d,P.underlying t=some d->(match d with| .interface _| .map _ _| .func .. | .chan .. | .unsafePointer=>True|_=>False)):PT P t [.any]
inductive PTs (P:Program):List TypeId->List PV->Prop
 |nil:PTs P [] []
 |cons {t:TypeId} {ts:List TypeId} {a b:List PV} (h:PT P t a) (hs:PTs P ts b):PTs P (t::ts) (a++b)
end
def Zfi (P:Program):Nat->List Field->Option Nat
 |o,[]=>some o
 |o,f::fs=>if f.offset=o then Zfi P (o+P.cellsOf f.type) fs else none
def Zsd (P:Program) (t:TypeId):Bool:=
 match P.underlying t with
 |some (.struct fs)=>Zfi P 0 fs.toList==some (P.cellsOf t)&&fs.toList.all λf=>decide (f.type<P.types.size)
 |some (.array n e)=>P.cellsOf t==n*P.cellsOf e&&decide (e<P.types.size)
 |some (.slice e)=>decide (e<P.types.size)
 |some (.pointer e)=>decide (e<P.types.size)
 |_=>true
def Zb7 (P:Program):Bool:=(Kd P.types.size).all (Zsd P)
def RepC (S:Stable) (vs:List Value) (ps:List PV):Prop:=vs.length=ps.length/\ ∀i,i<ps.length->Rep S (vs.getD i undef) (ps.getD i .any)
section
variable {P:Program} {S:Stable}
theorem RepC.nil:RepC S [] []:=⟨rfl,λi hi=>by simp at hi⟩
theorem RepC.one {v:Value} {p:PV} (h:Rep S v p):RepC S [v] [p]:=⟨rfl,λi hi=>by
 have:i=0:=by simpa using hi
 subst this;exact h⟩
theorem RepC.append {vs ws:List Value} {ps qs:List PV} (h:RepC S vs ps) (h':RepC S ws qs):RepC S (vs++ws) (ps++qs):=by
 refine⟨by simp[h.1,h'.1],λi hi=> ?_⟩;by_cases h1:i<ps.length;rw[Zg (by rw[h.1];exact h1),Zg h1];exact h.2 i h1;have h1':ps.length<=i:=by omega
 have h2:=h'.2 (i-ps.length) (by simp at hi;omega);have e1:(vs++ws).getD i undef=ws.getD (i-ps.length) undef:=by
  simp only[Ji];rw[J2 (by rw[h.1];exact h1'),h.1]
 have e2:(ps++qs).getD i .any=qs.getD (i-ps.length) .any:=by
  simp only[Ji];rw[J2 h1']
 rw[e1,e2];exact h2
def cellsOf (w:World):Stable:=⟨λb o=>w.cell? ⟨b,o,none⟩,λ_=>none,λ_=>True,λ_=>False⟩
theorem ZsK {t:TypeId} (hl:Zb7 P=true) (h:t<P.types.size):Zsd P t=true:=
 Jg.1 hl t (Kl.2 h)
theorem GA {α β:Type} {f:α->Option β}:∀ {l:List α} {xs:List β},l.mapM f=some xs-> ∀a∈l,∃x,f a=some x
 | [],_,_,a,ha=>by cases ha
 |b::l,xs,h,a,ha=>by
  rw[KW]at h;cases hb:f b with
  |none=>rw[hb]at h;cases h
  |some y=>
   rw[hb]at h;cases hl:l.mapM f with
   |none=>rw[hl]at h;cases h
   |some ys=>
    rcases Js.1 ha with rfl|ha
    ·exact⟨y,hb⟩
    ·exact GA hl a ha
theorem Vu {w:World} {base:Nat} {a:Addr} {n:Nat} {cs:List Value} (h:w.cells? base a n=some cs):cs.length=n/\ ∀i,i<n->w.cell? (a.add i)=some (cs.getD i undef):=by
 unfold World.cells? at h;split at h;have go:∀(l:List Nat) (cs:List Value),(l.mapM λi=>w.cell? (a.add i))=some cs->cs.length=l.length/\ ∀i,i<l.length->w.cell? (a.add (l.getD i 0))=some (cs.getD i undef):=by
  intro l;induction l with
  |nil=>intro cs h;simp at h;subst h;simp
  |cons b l ih=>
   intro cs h;rw[KW]at h;cases hb:w.cell? (a.add b)with
   |none=>rw[hb]at h;cases h
   |some y=>
    rw[hb]at h;cases hl:(l.mapM λi=>w.cell? (a.add i))with
    |none=>rw[hl]at h;cases h
    |some ys=>
     rw[hl]at h;simp at h;subst h;obtain⟨h1,h2⟩:=ih ys hl;refine⟨by simp[h1],λi hi=> ?_⟩;cases i with
     |zero=>simpa using hb
     |succ i=>simpa using h2 i (by simpa using hi)
 obtain⟨h1,h2⟩:=go _ _ h;refine⟨by simpa using h1,λi hi=> ?_⟩;have:=h2 i (by simpa using hi);simpa[Ji,hi]using this;cases h
theorem ZcA {g:TypeId->List Value->Prop} (hg:∀t cs,t<P.types.size->g t cs-> ∃ps,RepC S cs ps/\PT P t ps):∀(fs:List Field) (o n:Nat) (cs:List Value),Zfi P o fs=some n->cs.length=n->
  (∀f∈fs,f.type<P.types.size)->(∀f∈fs,g f.type ((cs.drop f.offset).take (P.cellsOf f.type)))-> ∃ps,RepC S (cs.drop o) ps/\PTs P (fs.map (·.type)) ps
 | [],o,n,cs,ho,hn,_,_=>by
  simp only[Zfi,J6.injEq]at ho;subst ho;rw[Ke (by omega)];exact⟨[],.nil,.nil⟩
 |f::fs,o,n,cs,ho,hn,hlt,h=>by
  simp only[Zfi]at ho;split at ho;rename_i hof;obtain⟨ps,h1,h2⟩:=ZcA hg fs _ n cs ho hn (λf hf=>hlt f (by simp[hf])) (λf hf=>h f (by simp[hf]));obtain⟨qs,h3,h4⟩:=hg _ _ (hlt f (by simp)) (h f (by simp));rw[hof]at h3;refine⟨qs++ps,?_,.cons h4 h2⟩;have:=h3.append h1;rwa[show cs.drop (o+P.cellsOf f.type)=(cs.drop o).drop (P.cellsOf f.type)by rw[KX],Kk]at this;cases ho
theorem Zet {g:TypeId->List Value->Prop} (hg:∀t cs,t<P.types.size->g t cs-> ∃ps,RepC S cs ps/\PT P t ps) {e:TypeId} (he:e<P.types.size):∀(n k:Nat) (cs:List Value),cs.length=(k+n)*P.cellsOf e->
  (∀i,i<k+n->g e ((cs.drop (i*P.cellsOf e)).take (P.cellsOf e)))-> ∃ps,RepC S (cs.drop (k*P.cellsOf e)) ps/\PTs P (JZ n e) ps
 |0,k,cs,hn,_=>by
  rw[Ke (by rw[hn,Nat.add_zero];exact JE _)];exact⟨[],.nil,.nil⟩
 |n+1,k,cs,hn,h=>by
  obtain⟨ps,h1,h2⟩:=Zet hg he n (k+1) cs (by rw[hn];congr 1;omega) (λi hi=>h i (by omega));obtain⟨qs,h3,h4⟩:=hg _ _ he (h k (by omega));refine⟨qs++ps,?_,.cons h4 h2⟩;have:=h3.append h1;rwa[show cs.drop ((k+1)*P.cellsOf e)=(cs.drop (k*P.cellsOf e)).drop (P.cellsOf e)by rw[KX,Kx],Kk]at this
theorem PT.noAgg {t:TypeId} {ps:List PV} (h:PT P t ps) (ha:Yo P t=false) (h1:ps.length=1):(ps.getD 0 .any).cells=ps:=by
 cases h with
 |str' h=>unfold Yo at ha;rw[h]at ha;cases ha
 |arr h=>unfold Yo at ha;rw[h]at ha;cases ha
 |_=>rfl
theorem Zjt {t:TypeId} {ps:List PV} (h:PT P t ps) (h1:Yo P t=true\/ps.length=1):(Zoi (Yo P t) ps).cells=ps:=by
 unfold Zoi;cases ha:Yo P t with
 |true=>rfl
 |false=>exact h.noAgg ha (by simpa[ha]using h1)
theorem ZfO {w:World} {a:Addr} {v:Value} (h:w.cell? a=some v):a=⟨a.block,a.off,none⟩:=by
 obtain⟨b,o,s⟩:=a;unfold K3 at h;split at h;split at h;cases h;cases s<;>simp_all
 cases h
theorem add_zero (a:Addr):a.add 0=a:=by unfold Addr.add;simp
theorem Zrw {H:Type} {enc:TypeId×Value->H} {w:World} {base:Nat} {spare:Nat->Bool} {ZsH:Bool} (hl:Zb7 P=true):
  ∀(fuel:Nat) (t:TypeId) (cs:List Value) (x:DataW H×List MemPlace),t<P.types.size->Kf enc P w base spare ZsH fuel t cs=some x-> ∃ps,RepC (cellsOf w) cs ps/\PT P t ps:=by
 intro fuel;induction fuel with
 |zero=>intro t cs x _ h;cases h
 |succ fuel ih=>
  intro t cs x ht h;have lay:=ZsK hl ht;have any:∀ {v:Value},(∀d,P.underlying t=some d->(match d with| .interface _| .map _ _| .func .. | .chan .. | .unsafePointer=>True|_=>False))-> ∃ps,RepC (cellsOf w) [v] ps/\PT P t ps:=λh=>⟨_,.one (.any _),.any h⟩
  have anyd:∀ {v:Value} {d:TypeDesc},P.underlying t=some d->(match d with| .interface _| .map _ _| .func .. | .chan .. | .unsafePointer=>True|_=>False)-> ∃ps,RepC (cellsOf w) [v] ps/\PT P t ps:=λh1 h2=>any λd hd=>by rw[h1]at hd;cases hd;exact h2
  unfold Kf at h;split at h;rename_i hu;exact⟨_,.one (.bool _),.bool hu _⟩;rename_i hu;split at h;rename_i hk;obtain⟨rfl,hw⟩:=hk;simp only[Lit.wf,Jh,decide_eq_true_eq]at hw;exact⟨_,.one (.int _ _),.int hu _ hw.1 hw.2⟩;cases h;rename_i hu;split at h;rename_i hk;obtain⟨rfl,hw⟩:=hk;exact⟨_,.one (.flt _ _),.flt hu _ hw⟩;cases h;rename_i s hu;split at h;rename_i hk;obtain⟨⟨l⟩⟩:=s;exact⟨_,.one (.str l),.str hu l hk⟩;cases h;rename_i hu;exact⟨_,.one .nilp,.nilp hu⟩;rename_i e a hu;by_cases hod:Zds P t=true;exact⟨_,.one (.any _),.odd hod⟩;have lay0:decide (0<P.cellsOf e)=true:=by
   have:Zds P t=false:=by simpa using hod
   unfold Zds at this;rw[hu]at this;exact Zmc this
  simp only[Zsd,hu,decide_eq_true_eq]at lay lay0;obtain⟨x',hx,_⟩:=JM.1 h;obtain⟨ds,hc,hx⟩:=JJ.1 hx;obtain⟨ps,h1,h2⟩:=ih _ _ _ lay hx;obtain⟨h3,h4⟩:=Vu hc;have ha:a=⟨a.block,a.off,none⟩:=ZfO (add_zero a▸h4 0 lay0);refine⟨[.rptr ps],.one ?_,.ptr hu ps h2⟩;rw[ha];refine .rptr _ _ ps (λj=>ds.getD j undef) (λj hj=> ?_) (λj hj=>h1.2 j hj);have:=h4 j (by rw[<-h3,h1.1];exact hj);rw[ha,YL]at this;exact this;rename_i hu;exact⟨_,.one (.sl0 none 0),.sl hu 0 (Km _) (λ_=> []) (λi hi=>by omega)⟩;rename_i e a len cap hu;by_cases hod:Zds P t=true;exact⟨_,.one (.any _),.odd hod⟩;have lay0:(decide (0<P.cellsOf e)&&(Yo P e||P.cellsOf e==1))=true:=by
   have:Zds P t=false:=by simpa using hod
   unfold Zds at this;rw[hu]at this;exact Zmc this
  simp only[Zsd,hu,decide_eq_true_eq]at lay;simp only[Jh,decide_eq_true_eq,JH,beq_iff_eq]at lay0;obtain⟨l1,l2⟩:=lay0;have l3:=lay;simp only at h;split at h;rename_i hb;obtain⟨elems,he,h⟩:=JJ.1 h;have el:∀i,i<len-> ∃ds ps,w.cells? base (a.add (i*P.cellsOf e)) (P.cellsOf e)=some ds/\RepC (cellsOf w) ds ps/\PT P e ps:=λi hi=>by
   obtain⟨y,hy⟩:=GA he i (Kl.2 hi);obtain⟨ds,hc,hx⟩:=JJ.1 hy;obtain⟨ps,h1,h2⟩:=ih _ _ _ l3 hx;exact⟨ds,ps,hc,h1,h2⟩
  obtain⟨F,hF⟩:∃F:Nat->List Value×List PV,∀i,i<len->w.cells? base (a.add (i*P.cellsOf e)) (P.cellsOf e)=some (F i).1/\RepC (cellsOf w) (F i).1 (F i).2/\PT P e (F i).2:=by
   classical
   refine⟨λi=>if h:i<len then((el i h).choose,(el i h).choose_spec.choose)else([],[]),λi hi=> ?_⟩;simp only[hi,dif_pos];exact(el i hi).choose_spec.choose_spec
  refine⟨_,.one ?_,.sl hu len (by omega) (λi=>(F i).2) λi hi=>(hF i hi).2.2⟩;have hes:∀i,i<len->((Kd len).map λi=>Zoi (Yo P e) (F i).2).getD i .any=Zoi (Yo P e) (F i).2:=λi hi=>by simp[Ji,hi]
  have hcl:∀i,i<len->(Zoi (Yo P e) (F i).2).cells=(F i).2:=λi hi=>by
   obtain⟨h1,h2,h3⟩:=hF i hi;refine Zjt h3 (l2.imp id λh=> ?_);rw[<-h2.1,(Vu h1).1,h]
  by_cases h0:len=0;subst h0;exact .sl0 _ _;have hp0:0<len:=by omega
  have ha:a=⟨a.block,a.off,none⟩:=by
   have:=(Vu (hF 0 hp0).1).2 0 l1;rw[Nat.zero_mul,add_zero,add_zero]at this;exact ZfO this
  have key:=Rep.sl (S:=cellsOf w) a.block a.off cap (P.cellsOf e) ((Kd len).map λi=>Zoi (Yo P e) (F i).2) (λi j=>(F i).1.getD j undef)
   (λi hi=>by
    have hi:i<len:=by simpa using hi
    rw[hes i hi,hcl i hi,<-(hF i hi).2.1.1,(Vu (hF i hi).1).1])
   (by simp;exact hb.2.1)
   (λi j hi hj=>by
    have hi:i<len:=by simpa using hi
    have:=(Vu (hF i hi).1).2 j hj;rw[ha,YL,YL]at this;exact this)
   (λi j hi hj=>by
    have hi:i<len:=by simpa using hi
    rw[hes i hi,hcl i hi];exact(hF i hi).2.1.2 j (by rw[<-(hF i hi).2.1.1,(Vu (hF i hi).1).1];exact hj))
  rw[Kh,List.length_range,<-ha]at key;exact key;cases h;rename_i fs hu;simp only[Zsd,hu,Jh,beq_iff_eq,Jg,decide_eq_true_eq]at lay;split at h;rename_i hn;obtain⟨xs,hx,_⟩:=JM.1 h;obtain⟨ps,h1,h2⟩:=ZcA (S:=cellsOf w) (g:=λt cs=>∃x,Kf enc P w base spare ZsH fuel t cs=some x) (λt cs ht ⟨x,hx⟩=>ih t cs x ht hx) fs.toList 0 _ _ lay.1 hn lay.2 (λf hf=>GA hx f hf);exact⟨ps,by simpa using h1,.str' hu ps h2⟩;cases h;rename_i n e hu;simp only[Zsd,hu,Jh,beq_iff_eq,decide_eq_true_eq]at lay;split at h;rename_i hn;obtain⟨xs,hx,_⟩:=JM.1 h;obtain⟨ps,h1,h2⟩:=Zet (S:=cellsOf w) (g:=λt cs=>∃x,Kf enc P w base spare ZsH fuel t cs=some x) (λt cs ht ⟨x,hx⟩=>ih t cs x ht hx) lay.2 n 0 _ (by rw[hn,lay.1];simp) (λi hi=>GA hx i (by simpa using hi));exact⟨ps,by simpa using h1,.arr hu ps h2⟩;cases h
  all_goals first|(cases h;done)|(rename_i hu;exact anyd hu trivial)|(rename_i hu _;exact anyd hu trivial)|skip
end
open Go.ChangeShapes Go.WideShapes Go.ChangeAt Go.RowKit
def PA (P:Program) (t:TypeId) (p:PV):Prop:=∃cs,PT P t cs/\p=Zoi (Yo P t) cs
inductive PAs (P:Program):List TypeId->List PV->Prop
 |nil:PAs P [] []
 |cons {t:TypeId} {ts:List TypeId} {p:PV} {ps:List PV} (h:PA P t p) (hs:PAs P ts ps):PAs P (t::ts) (p::ps)
section
variable {P:Program} {H:Type} {enc:TypeId×Value->H}
theorem Zhb {W:World} {base:Nat} {t:TypeId} {v:Value} (ha:Yo P t=false) (hd:∃d,P.underlying t=some d) (h:Value.okWide P W .any base t v):v.cells.toList= [v]:=by
 obtain⟨d,hd⟩:=hd;cases v with
 |agg cs=>
  exfalso;unfold Value.okWide at h;unfold Yo at ha;rw[hd]at ha h;cases d<;>simp[Cell.okWide,Cell.ok,hd]at h ha
 |_=>rfl
theorem Zpm {W:World} {base:Nat} {t:TypeId} {v:Value} {d:DataW H} {ps:List MemPlace} (hl:Zb7 P=true) (ht:t<P.types.size) (hok:Value.okWide P W .any base t v)
  (h:DataW.Trod enc P W 0 (λ_=>true) true t v d ps):∃p,Rep (cellsOf W) v p/\PA P t p:=by
 obtain⟨n,hn⟩:=h;obtain⟨cs,h1,h2⟩:=Zrw hl n t _ _ ht hn;have hd:∃d,P.underlying t=some d:=by
  cases n with
  |zero=>cases hn
  |succ n=>
   cases hu:P.underlying t with
   |none=>unfold Kf at hn;rw[hu]at hn;simp at hn
   |some d=>exact⟨d,rfl⟩
 refine⟨_,?_,cs,h2,rfl⟩;unfold Zoi;cases ha:Yo P t with
 |true=>
  obtain⟨d,hd⟩:=hd;have:∃c,v= .agg c:=by
   unfold Yo at ha;unfold Value.okWide at hok;rw[hd]at ha hok;cases d<;>simp at ha
   ·obtain⟨c,hc,_⟩:=hok;exact⟨c,hc⟩
   ·obtain⟨c,hc,_⟩:=hok;exact⟨c,hc⟩
  obtain⟨⟨c⟩,rfl⟩:=this;exact .agg c cs h1.1 h1.2
 |false=>
  rw[Zhb ha hd hok]at h1;have:=h1.2 0 (by rw[<-h1.1];simp);simpa using this
theorem ZfA {W:World} {base:Nat} (hl:Zb7 P=true):∀(ts:List TypeId) (vs:List Value) (ds:List (DataW H)) (ps:List MemPlace),(∀t∈ts,t<P.types.size)->
  (∀(j:Nat) t v,ts[j]? = some t->vs[j]? = some v->Value.okWide P W .any base t v)->Jk enc P W 0 (λ_=>true) true ts vs ds ps->
  ∃qs,RepC (cellsOf W) vs qs/\PAs P ts qs/\ds.length=ts.length
 | [],[],[],ps,_,_,h=>⟨[],.nil,.nil,rfl⟩
 |t::ts,v::vs,d::ds,ps,hlt,hok,h=>by
  obtain⟨p,q,h1,h2,rfl⟩:=h;obtain⟨x,hx,hp⟩:=Zpm hl (hlt t (by simp)) (hok 0 t v rfl rfl) h1;obtain⟨qs,h3,h4,h5⟩:=ZfA hl ts vs ds q (λt ht=>hlt t (by simp[ht])) (λj t v h1 h2=>hok (j+1) t v (by simpa using h1) (by simpa using h2)) h2;exact⟨x::qs,(RepC.one hx).append h3,.cons hp h4,by simp[h5]⟩
 | [],_::_,_,_,_,_,h=>by simp[Jk]at h
 | [],[],_::_,_,_,_,h=>by simp[Jk]at h
 |_::_,[],_,_,_,_,h=>by simp[Jk]at h
 |_::_,_::_,[],_,_,_,h=>by simp[Jk]at h
theorem Zcy {W W':World} {sp:Nat->Bool} (hl:laidOutB P=true) (hb:Below W.heap.size W W'):∀(ts:List TypeId) (vs:List Value) (ds:List (DataW H)) (ps:List MemPlace),(∀t∈ts,t<P.types.size/\P.readableRec t=true)->
  (∀x∈ps,x.block<W.heap.size)->(∀x∈ps,sp x.block=true)->Jk enc P W 0 (λ_=>true) true ts vs ds ps->Jk enc P W' 0 sp true ts vs ds ps
 | [],[],[],ps,_,_,_,h=>h
 |t::ts,v::vs,d::ds,ps,ht,hlt,hsp,h=>by
  obtain⟨p,q,h1,h2,rfl⟩:=h;exact⟨p,q,WideElems.Trod_stays hl (ht t (by simp)).2 (ht t (by simp)).1 h1 (λx hx=>hb.same (hlt x (by simp[hx]))) (λx hx=>hsp x (by simp[hx])),
   Zcy hl hb ts vs ds q (λt h=>ht t (by simp[h])) (λx hx=>hlt x (by simp[hx])) (λx hx=>hsp x (by simp[hx])) h2,rfl⟩
 | [],_::_,_,_,_,_,_,h=>by simp[Jk]at h
 | [],[],_::_,_,_,_,_,h=>by simp[Jk]at h
 |_::_,[],_,_,_,_,_,h=>by simp[Jk]at h
 |_::_,_::_,[],_,_,_,_,h=>by simp[Jk]at h
theorem contract_of_pure {f:FuncId} {fn:Func} {s:ChangeSpec} {tb:TypeId} {fresh handsOn again:Bool} (hl:Zb7 P=true) (hlaid:laidOutB P=true) (hvars:s.vars= [])
  (ht:∀t∈fn.params.toList,t<P.types.size/\P.readableRec t=true) (hres:fn.resultTypes= #[tb]) (hb:P.underlying tb=some .bool)
  (hfn:∀ds:List (DataW H),ds.length=fn.params.toList.length->s.fn H ds= { results:= [.lit (.bool true)],args:=ds })
  (hp:∀ps,PAs P fn.params.toList ps->PL.Pure P f ps (.bool true))
  (W:World) (base:Nat) (args:Array Value) (ds gs:List (DataW H)) (before:List MemPlace)
  (hval:∀(j:Nat) t v,fn.params[j]? = some t->args[j]? = some v->Value.okWide P W .any base t v)
  (hW:DataW.Whole enc P fn.params.toList s.vars false W args.toList ds gs before):
  Calls P f args W λe W'=>∃v,e= .returned v/\s.post enc P fn false fresh handsOn again W args v W':=by
 have hW0:=hW;obtain⟨p,q,hA,hV,hpq,hfz,hnd⟩:=hW;rw[hvars]at hV;obtain⟨rfl,rfl⟩:=trodVars_none hV;obtain⟨qs,h1,h2,h3⟩:=ZfA hl _ _ _ _ (λt h=>(ht t h).1) (λj t v a b=>hval j t v (by simpa using a) (by simpa using b)) hA;obtain⟨_,_,hcalls⟩:=hp qs h2;have:=hcalls W (cellsOf W) args.toList ⟨λb o v h=>h,λb es h=>(by cases h),λb h=>h.elim⟩ (λ_ _=>trivial) h1.1 h1.2;have ea:(⟨args.toList⟩:Array Value)=args:=rfl;rw[ea]at this;refine this.mono λe W' ⟨v,S',he,hr,_,_,_,hB⟩=> ?_
 subst he;have hv:v= .bool true:=by cases hr;rfl
 subst hv;have hlt:=hW0.lt;have hps:before=p++ []:=hpq;rw[JS]at hps;subst hps;have hf:=hfn ds h3;have hone:(Value.bool true).resultList 1= [.bool true]:=rfl;have hT:∀(sp:Nat->Bool),(∀x∈before,sp x.block=true)->Jk enc P W' 0 sp true fn.params.toList args.toList ds before:=λsp hsp=>Zcy hlaid hB _ _ _ _ ht hlt hsp hA
 have hR:∀(b:Nat) (sp:Nat->Bool) (hd:Bool),Jk enc P W' b sp hd fn.resultTypes.toList ((Value.bool true).resultList fn.resultTypes.size) [.lit (.bool true)] []:=λb sp hd=>by
  rw[hres];exact trodAll_cons_mk (shut_bool hb true) trodAll_mk0
 have hVs:∀sp:Nat->Bool,DataW.TrodVars enc P W' sp s.vars ([]:List (DataW H)) []:=λsp=>by rw[hvars];exact rfl
 refine⟨_,rfl,ds,[],before,[],before,[],hW0,?_,?_,?_,World.keptBut_mono (λp hp=>⟨hp,.inr (.inl hp)⟩) (hB.frame _),λ_=>⟨ok_one hres hone (okWide_bool_mk hb true),?_⟩⟩;rw[JS,hf];exact hR _ _ _;rw[JS,hf];exact hT _ (λx hx=>by simpa using hlt x hx);rw[JS,hf];exact hVs _;refine⟨_,_,([]++before)++ [],⟨[]++before,[],trodAll_append (hT _ λ_ _=>rfl) (hR _ _ _),hVs _,rfl,?_,λh=>by cases h⟩,?_⟩;intro b off hp;have hp:MemPlace.cell b off∈before:=by simpa using hp
 rw[hB.frozen (hlt _ hp)];exact hfz b off (by simpa using hp);intro x hx _;simpa using hx
end
section
variable {P:Program}
theorem PT.arr_inv {t e:TypeId} {n:Nat} {cs:List PV} (hu:P.underlying t=some (.array n e)) (h:PT P t cs):PTs P (JZ n e) cs:=by
 cases h with
 |arr h' _ hp=>rw[hu]at h';cases h';exact hp
 |any h'=>exact(h' _ hu).elim
 |odd h'=>simp[Zds,hu]at h'
 |bool h' _=>rw[hu]at h';cases h'
 |int h'=>rw[hu]at h';cases h'
 |flt h' _=>rw[hu]at h';cases h'
 |str h' _=>rw[hu]at h';cases h'
 |nilp h'=>rw[hu]at h';cases h'
 |ptr h' _=>rw[hu]at h';cases h'
 |sl h' _=>rw[hu]at h';cases h'
 |str' h' _=>rw[hu]at h';cases h'
theorem PT.struct_inv {t:TypeId} {fs:Array Field} {cs:List PV} (hu:P.underlying t=some (.struct fs)) (h:PT P t cs):PTs P (fs.toList.map (·.type)) cs:=by
 cases h with
 |str' h' _ hp=>rw[hu]at h';cases h';exact hp
 |any h'=>exact(h' _ hu).elim
 |odd h'=>simp[Zds,hu]at h'
 |bool h' _=>rw[hu]at h';cases h'
 |int h'=>rw[hu]at h';cases h'
 |flt h' _=>rw[hu]at h';cases h'
 |str h' _=>rw[hu]at h';cases h'
 |nilp h'=>rw[hu]at h';cases h'
 |ptr h' _=>rw[hu]at h';cases h'
 |sl h' _=>rw[hu]at h';cases h'
 |arr h' _=>rw[hu]at h';cases h'
theorem PT.int_inv {t:TypeId} {k:IntKind} {cs:List PV} (hu:P.underlying t=some (.int k)) (h:PT P t cs):∃n,cs= [.int k n]/\k.min<=n/\n<=k.max:=by
 cases h with
 |int h' n h1 h2=>rw[hu]at h';cases h';exact⟨n,rfl,h1,h2⟩
 |any h'=>exact(h' _ hu).elim
 |odd h'=>simp[Zds,hu]at h'
 |bool h' _=>rw[hu]at h';cases h'
 |flt h' _=>rw[hu]at h';cases h'
 |str h' _=>rw[hu]at h';cases h'
 |nilp h'=>rw[hu]at h';cases h'
 |ptr h' _=>rw[hu]at h';cases h'
 |sl h' _=>rw[hu]at h';cases h'
 |str' h' _=>rw[hu]at h';cases h'
 |arr h' _=>rw[hu]at h';cases h'
theorem PT.bool_inv {t:TypeId} {cs:List PV} (hu:P.underlying t=some .bool) (h:PT P t cs):∃b,cs= [.bool b]:=by
 cases h with
 |bool h' b=>exact⟨b,rfl⟩
 |any h'=>exact(h' _ hu).elim
 |odd h'=>simp[Zds,hu]at h'
 |int h'=>rw[hu]at h';cases h'
 |flt h' _=>rw[hu]at h';cases h'
 |str h' _=>rw[hu]at h';cases h'
 |nilp h'=>rw[hu]at h';cases h'
 |ptr h' _=>rw[hu]at h';cases h'
 |sl h' _=>rw[hu]at h';cases h'
 |str' h' _=>rw[hu]at h';cases h'
 |arr h' _=>rw[hu]at h';cases h'
theorem PT.string_inv {t:TypeId} {cs:List PV} (hu:P.underlying t=some .string) (h:PT P t cs):∃l,cs= [.str l]/\l.length<=maxLen:=by
 cases h with
 |str h' l hl=>exact⟨l,rfl,hl⟩
 |any h'=>exact(h' _ hu).elim
 |odd h'=>simp[Zds,hu]at h'
 |bool h' _=>rw[hu]at h';cases h'
 |int h'=>rw[hu]at h';cases h'
 |flt h' _=>rw[hu]at h';cases h'
 |nilp h'=>rw[hu]at h';cases h'
 |ptr h' _=>rw[hu]at h';cases h'
 |sl h' _=>rw[hu]at h';cases h'
 |str' h' _=>rw[hu]at h';cases h'
 |arr h' _=>rw[hu]at h';cases h'
theorem PT.slice_inv {t e:TypeId} {cs:List PV} (ho:Zds P t=false) (hu:P.underlying t=some (.slice e)) (h:PT P t cs):∃l,cs= [.sl .no l]/\l.length<=maxLen/\ ∀p∈l,PA P e p:=by
 cases h with
 |sl h' n hn f hp=>
  rw[hu]at h';cases h';refine⟨_,rfl,by simpa using hn,λp hp'=> ?_⟩;obtain⟨i,hi,rfl⟩:=Jc.1 hp';exact⟨f i,hp i (by simpa using hi),rfl⟩
 |any h'=>exact(h' _ hu).elim
 |odd h'=>rw[ho]at h';cases h'
 |bool h' _=>rw[hu]at h';cases h'
 |int h'=>rw[hu]at h';cases h'
 |flt h' _=>rw[hu]at h';cases h'
 |str h' _=>rw[hu]at h';cases h'
 |nilp h'=>rw[hu]at h';cases h'
 |ptr h' _=>rw[hu]at h';cases h'
 |str' h' _=>rw[hu]at h';cases h'
 |arr h' _=>rw[hu]at h';cases h'
theorem PTs.cons_inv {t:TypeId} {ts:List TypeId} {cs:List PV} (h:PTs P (t::ts) cs):∃a b,cs=a++b/\PT P t a/\PTs P ts b:=by
 cases h with
 |cons h hs=>exact⟨_,_,rfl,h,hs⟩
theorem PTs.nil_inv {cs:List PV} (h:PTs P [] cs):cs= []:=by cases h;rfl
theorem PAs.cons_inv {t:TypeId} {ts:List TypeId} {cs:List PV} (h:PAs P (t::ts) cs):∃a b,cs=a::b/\PA P t a/\PAs P ts b:=by
 cases h with
 |cons h hs=>exact⟨_,_,rfl,h,hs⟩
theorem PAs.nil_inv {cs:List PV} (h:PAs P [] cs):cs= []:=by cases h;rfl
theorem PA.agg {t:TypeId} {p:PV} (ha:Yo P t=true) (h:PA P t p):∃cs,p= .agg cs/\PT P t cs:=by
 obtain⟨cs,h1,h2⟩:=h;rw[ha]at h2;exact⟨cs,h2,h1⟩
theorem PA.one {t:TypeId} {p:PV} (ha:Yo P t=false) (h:PA P t p):∃cs,p=cs.getD 0 .any/\PT P t cs:=by
 obtain⟨cs,h1,h2⟩:=h;rw[ha]at h2;exact⟨cs,h2,h1⟩
theorem PA.int {t:TypeId} {k:IntKind} {p:PV} (hu:P.underlying t=some (.int k)) (h:PA P t p):∃n,p= .int k n/\k.min<=n/\n<=k.max:=by
 obtain⟨cs,h1,h2⟩:=PA.one (by simp[Yo,hu]) h;obtain⟨n,rfl,h3⟩:=PT.int_inv hu h2;exact⟨n,h1,h3⟩
theorem PA.string {t:TypeId} {p:PV} (hu:P.underlying t=some .string) (h:PA P t p):∃l,p= .str l/\l.length<=maxLen:=by
 obtain⟨cs,h1,h2⟩:=PA.one (by simp[Yo,hu]) h;obtain⟨n,rfl,h3⟩:=PT.string_inv hu h2;exact⟨n,h1,h3⟩
theorem PA.bool {t:TypeId} {p:PV} (hu:P.underlying t=some .bool) (h:PA P t p):∃b,p= .bool b:=by
 obtain⟨cs,h1,h2⟩:=PA.one (by simp[Yo,hu]) h;obtain⟨n,rfl⟩:=PT.bool_inv hu h2;exact⟨n,h1⟩
theorem PA.slice {t e:TypeId} {p:PV} (ho:Zds P t=false) (hu:P.underlying t=some (.slice e)) (h:PA P t p):∃l,p= .sl .no l/\l.length<=maxLen/\ ∀p∈l,PA P e p:=by
 obtain⟨cs,h1,h2⟩:=PA.one (by simp[Yo,hu]) h;obtain⟨n,rfl,h3⟩:=PT.slice_inv ho hu h2;exact⟨n,h1,h3⟩
theorem T0 {α:Type} {enc:α->PV} {Q:α->Prop}:∀ {l:List PV},(∀p∈l,∃x,p=enc x/\Q x)-> ∃xs:List α,l=xs.map enc/\ ∀x∈xs,Q x
 | [],_=>⟨[],rfl,λx hx=>by cases hx⟩
 |p::l,h=>by
  obtain⟨x,rfl,hq⟩:=h p (by simp);obtain⟨xs,rfl,hxs⟩:=T0 (l:=l) (λp hp=>h p (by simp[hp]));exact⟨x::xs,rfl,λy hy=>by
   rcases Js.1 hy with e|e;rw[e];exact hq;exact hxs y e⟩
theorem PTs.ints {e:TypeId} {k:IntKind} (hu:P.underlying e=some (.int k)):∀ {n:Nat} {cs:List PV},PTs P (JZ n e) cs-> ∃l:List Int,cs=l.map (.int k)/\l.length=n/\ ∀x∈l,k.min<=x/\x<=k.max
 |0,cs,h=>⟨[],h.nil_inv,rfl,λx hx=>by cases hx⟩
 |n+1,cs,h=>by
  obtain⟨a,b,rfl,h1,h2⟩:=h.cons_inv;obtain⟨x,rfl,hx⟩:=h1.int_inv hu;obtain⟨l,rfl,hl,hr⟩:=PTs.ints hu h2;exact⟨x::l,rfl,by simp[hl],λy hy=>by
   rcases Js.1 hy with e|e;rw[e];exact hx;exact hr y e⟩
end
section
variable {P:Program} {s:St} {Q:Exit->St->Prop}
@[go_sem] theorem GR {α:Type} (f:Nat->α):Yz [] f=f:=rfl
@[go_sem] theorem TS {α:Type} (i:Nat) (v:α) (L:List (Nat×α)) (f:Nat->α):Yz ((i,v)::L) f=upd (Yz L f) i v:=rfl
@[go_sem] theorem ZsJ (f:Nat->PV):Ze7 [] f=f:=by funext i;simp[Ze7]
@[go_sem] theorem Zsc (w:Nat) (ws:List Nat) (f:Nat->PV):Ze7 (w::ws) f=upd (Ze7 ws f) w .any:=by
 funext i;simp only[Ze7,upd,List.contains_cons];by_cases h:w=i;subst h;simp;have:(i==w)=false:=by simp;exact λe=>h e.symm
 simp[this,h]
attribute [go_sem] St.inv
theorem Zuc {id:Nat} {l:List Oper} (hm:P.follows .mixedOrders=true) (hB:Zlv l.toArray=true) (h:@vA P false ⟨@vQ ⟨Q⟩ .normal⟩ ⟨l⟩ ⟨l⟩ s):awp P (.region id l.toArray true) Q s:=
 Zwj hm hB h
def HRest (X:List Nat) (h':Nat->Option (List PV)) (z':Nat->Bool) (h:Nat->Option (List PV)) (z:Nat->Bool):Prop:=∀i,X.contains i=false->h i=none\/(h i=h' i/\z i=z' i)
theorem HRest.refl (X:List Nat) (h:Nat->Option (List PV)) (z:Nat->Bool):HRest X h z h z:=λ_ _=> .inr ⟨rfl,rfl⟩
def QRest (X:List Nat) (q' q:Rows):Prop:=∀i,X.contains i=false->q i=none\/q i=q' i
theorem QRest.refl (X:List Nat) (q:Rows):QRest X q q:=λ_ _=> .inr rfl
theorem QRest.upd {X:List Nat} {q' q:Rows} {d:Nat} {v:Option Row} (hd:X.contains d=true\/q d=none) (hh:QRest X q' q):QRest X (PL.upd q' d v) q:=λi hi=>by
 by_cases e:d=i;subst e;rcases hd with hd|hd;rw[hd]at hi;cases hi;exact .inl hd;rw[Zk _ _ e];exact hh i hi
def ZxS (H:List (Nat×List PV)) (R:List (Nat×Row)):Ref->Bool
 | .r i=>(R.map (·.1)).contains i
 | .b i=>(H.map (·.1)).contains i
theorem fnl {α:Type} {p:α->Prop}:∀x∈([]:List α),p x:=λx hx=>by cases hx
theorem fcs {α:Type} {p:α->Prop} {a:α} {l:List α} (h:p a) (h':∀x∈l,p x):∀x∈a::l,p x:=λx hx=>by
 rcases Js.1 hx with e|e;rw[e];exact h;exact h' x e
theorem Fc2 {α:Type} {p:α->Prop} {a0 a1:α} (ha0:p a0) (ha1:p a1):∀x∈[a0,a1],p x:=fcs ha0 (fcs ha1 fnl)
theorem Fc3 {α:Type} {p:α->Prop} {a0 a1 a2:α} (ha0:p a0) (ha1:p a1) (ha2:p a2):∀x∈[a0,a1,a2],p x:=fcs ha0 (fcs ha1 (fcs ha2 fnl))
theorem Fc4 {α:Type} {p:α->Prop} {a0 a1 a2 a3:α} (ha0:p a0) (ha1:p a1) (ha2:p a2) (ha3:p a3):∀x∈[a0,a1,a2,a3],p x:=fcs ha0 (fcs ha1 (fcs ha2 (fcs ha3 fnl)))
theorem Fc5 {α:Type} {p:α->Prop} {a0 a1 a2 a3 a4:α} (ha0:p a0) (ha1:p a1) (ha2:p a2) (ha3:p a3) (ha4:p a4):∀x∈[a0,a1,a2,a3,a4],p x:=fcs ha0 (fcs ha1 (fcs ha2 (fcs ha3 (fcs ha4 fnl))))
theorem Fc6 {α:Type} {p:α->Prop} {a0 a1 a2 a3 a4 a5:α} (ha0:p a0) (ha1:p a1) (ha2:p a2) (ha3:p a3) (ha4:p a4) (ha5:p a5):∀x∈[a0,a1,a2,a3,a4,a5],p x:=fcs ha0 (fcs ha1 (fcs ha2 (fcs ha3 (fcs ha4 (fcs ha5 fnl)))))
theorem Fc7 {α:Type} {p:α->Prop} {a0 a1 a2 a3 a4 a5 a6:α} (ha0:p a0) (ha1:p a1) (ha2:p a2) (ha3:p a3) (ha4:p a4) (ha5:p a5) (ha6:p a6):∀x∈[a0,a1,a2,a3,a4,a5,a6],p x:=fcs ha0 (fcs ha1 (fcs ha2 (fcs ha3 (fcs ha4 (fcs ha5 (fcs ha6 fnl))))))
theorem Fc8 {α:Type} {p:α->Prop} {a0 a1 a2 a3 a4 a5 a6 a7:α} (ha0:p a0) (ha1:p a1) (ha2:p a2) (ha3:p a3) (ha4:p a4) (ha5:p a5) (ha6:p a6) (ha7:p a7):∀x∈[a0,a1,a2,a3,a4,a5,a6,a7],p x:=fcs ha0 (fcs ha1 (fcs ha2 (fcs ha3 (fcs ha4 (fcs ha5 (fcs ha6 (fcs ha7 fnl)))))))
theorem Fc9 {α:Type} {p:α->Prop} {a0 a1 a2 a3 a4 a5 a6 a7 a8:α} (ha0:p a0) (ha1:p a1) (ha2:p a2) (ha3:p a3) (ha4:p a4) (ha5:p a5) (ha6:p a6) (ha7:p a7) (ha8:p a8):∀x∈[a0,a1,a2,a3,a4,a5,a6,a7,a8],p x:=fcs ha0 (fcs ha1 (fcs ha2 (fcs ha3 (fcs ha4 (fcs ha5 (fcs ha6 (fcs ha7 (fcs ha8 fnl))))))))
theorem Fc10 {α:Type} {p:α->Prop} {a0 a1 a2 a3 a4 a5 a6 a7 a8 a9:α} (ha0:p a0) (ha1:p a1) (ha2:p a2) (ha3:p a3) (ha4:p a4) (ha5:p a5) (ha6:p a6) (ha7:p a7) (ha8:p a8) (ha9:p a9):∀x∈[a0,a1,a2,a3,a4,a5,a6,a7,a8,a9],p x:=fcs ha0 (fcs ha1 (fcs ha2 (fcs ha3 (fcs ha4 (fcs ha5 (fcs ha6 (fcs ha7 (fcs ha8 (fcs ha9 fnl)))))))))
def WE (J:Nat->St->Prop) (Q:Exit->St->Prop):Exit->St->Prop
 | .goto l,s=>J l s
 |e,s=>Q e s
theorem Gj {c:Code} {ι:Type} (lab:ι->Nat) (code:ι->Code) (I:ι->St) (μ:ι->Nat) (hf:∀i,findLabel c (lab i)=some (code i)) (hr:Refs s-> ∀i,Refs (I i))
  (pass:∀i,(∀j s',μ j<μ i->Weak (I j) s'->awp P (code j) (WE (λl s'=>∃j,lab j=l/\μ j<μ i/\Weak (I j) s') Q) s')->
   awp P (code i) (WE (λl s'=>∃j,lab j=l/\μ j<μ i/\Weak (I j) s') Q) (I i))
  (first:(∀j s',Weak (I j) s'->awp P (code j) (WE (λl s'=>∃j,lab j=l/\Weak (I j) s') Q) s')->awp P c (WE (λl s'=>∃j,lab j=l/\Weak (I j) s') Q) s):
  awp P (.scope c) Q s:=λB S M a w hs=>by
 have hrefs:=hr hs.refs;have all:∀n i,μ i=n->awp P (code i) (WE (λl s'=>∃j,lab j=l/\μ j<μ i/\Weak (I j) s') Q) (I i):=by
  intro n;induction n using Ki with
  |_ n ih=>
   intro i hi;refine pass i λj s' hj hw=>Ff hw (λ_=>hrefs j) (YR (λe s'' h=> ?_) (ih (μ j) (by omega) j rfl))
   cases e with
   |goto l=>obtain⟨k,h1,h2,h3⟩:=h;exact⟨k,h1,by omega,h3⟩
   |_=>exact h
 have hfirst:=first λj s' hw=>Ff hw (λ_=>hrefs j) (YR (λe s'' h=>by
  cases e with
  |goto l=>obtain⟨k,h1,h2,h3⟩:=h;exact⟨k,h1,h3⟩
  |_=>exact h) (all _ j rfl))
 intro b k cs;have hg:∀i,gotoIn (lab i) (.inScope c::k)=some (.code (code i):: .inScope c::k):=λi=>by simp[gotoIn,hf i]
 have key:∀n i S1 M1 a1 w1,μ i=n->Sim B S1 M1 (I i) a1 w1->Ext B S S1 w w1-> ∃e a' w',(∃s' S' M',Q e s'/\Sim B S' M' s' a' w'/\Ext B S S' w w')/\Arrives P (lone (b.at a1 (.code (code i):: .inScope c::k)) cs w1) b k cs e a' w':=by
  intro n;induction n using Ki with
  |_ n ih=>
   intro i S1 M1 a1 w1 hi hs1 he1;obtain⟨e,a2,w2,⟨s2,S2,M2,hq,hs2,he2⟩,harr⟩:=all _ i rfl B S1 M1 a1 w1 hs1 b (.inScope c::k) cs;cases e with
   |normal=>exact⟨.normal,a2,w2,⟨s2,S2,M2,hq,hs2,he1.trans he2⟩,Steps.trans harr (.one step_inScope)⟩
   |exit id=>exact⟨.exit id,a2,w2,⟨s2,S2,M2,hq,hs2,he1.trans he2⟩,λk' hk=>harr k' (by simp[exitTo,hk])⟩
   |goto l'=>
    obtain⟨j,rfl,hlt,hw⟩:=hq;obtain⟨e3,a3,w3,hq3,harr3⟩:=ih (μ j) (by omega) j S2 M2 a2 w2 rfl (hs2.weak hw (hrefs j)) (he1.trans he2);exact⟨e3,a3,w3,hq3,.of_steps (harr _ (hg j)) harr3⟩
   |ret=>exact⟨_,a2,w2,⟨s2,S2,M2,hq,hs2,he1.trans he2⟩,harr⟩
   |panic ch=>exact⟨_,a2,w2,⟨s2,S2,M2,hq,hs2,he1.trans he2⟩,harr⟩
   |outgrown=>exact⟨_,a2,w2,⟨s2,S2,M2,hq,hs2,he1.trans he2⟩,harr⟩
 obtain⟨e,a1,w1,⟨s1,S1,M1,hq,hs1,he1⟩,harr⟩:=hfirst B S M a w hs b (.inScope c::k) cs;cases e with
 |normal=>exact⟨.normal,a1,w1,⟨s1,S1,M1,hq,hs1,he1⟩,.head step_scope (Steps.trans harr (.one step_inScope))⟩
 |exit id=>exact⟨.exit id,a1,w1,⟨s1,S1,M1,hq,hs1,he1⟩,λk' hk=> .head step_scope (harr k' (by simp[exitTo,hk]))⟩
 |goto l'=>
  obtain⟨j,rfl,hw⟩:=hq;obtain⟨e3,a3,w3,hq3,harr3⟩:=key _ j S1 M1 a1 w1 rfl (hs1.weak hw (hrefs j)) he1;exact⟨e3,a3,w3,hq3,.of_steps (.head step_scope (harr _ (hg j))) harr3⟩
 |ret=>exact⟨_,a1,w1,⟨s1,S1,M1,hq,hs1,he1⟩,.of_steps (.one step_scope) harr⟩
 |panic ch=>exact⟨_,a1,w1,⟨s1,S1,M1,hq,hs1,he1⟩,.of_steps (.one step_scope) harr⟩
 |outgrown=>exact⟨_,a1,w1,⟨s1,S1,M1,hq,hs1,he1⟩,.of_steps (.one step_scope) harr⟩
def mkSt (n:Nat) (L:List (Nat×PV)) (H:List (Nat×List PV×Bool)) (R:List (Nat×Row)):St:=
 { fr:=Yz L λ_=> .any,m:= { h:=Yz (H.map λx=>(x.1,some x.2.1)) λ_=>none,z:=Yz (H.map λx=>(x.1,x.2.2)) λ_=>false,q:=Yz (R.map λx=>(x.1,some x.2)) λ_=>none,o:=λ_=>none,it:=λ_=>none,om:=λ_=>none,v:=λ_=>none,ph:=λ_=>none,pq:=λ_=>none,vm:=λ_=>false },n:=n }
structure Has (n:Nat) (L:List (Nat×PV)) (H:List (Nat×List PV×Bool)) (R:List (Nat×Row)) (s:St):Prop where
 n:s.n=n
 fr:∀x∈L,s.fr x.1=x.2
 h:∀x∈H,s.m.h x.1=some x.2.1/\s.m.z x.1=x.2.2
 q:∀x∈R,s.m.q x.1=some x.2
theorem Has.weak {n:Nat} {L:List (Nat×PV)} {H:List (Nat×List PV×Bool)} {R:List (Nat×Row)} (h:Has n L H R s):Weak (mkSt n L H R) s:=by
 have m1:∀ {α β:Type} (L:List (Nat×α)) (f:α->β),(L.map λx=>(x.1,f x.2)).map (·.1)=L.map (·.1):=λL f=>by simp
 refine⟨h.n.symm,λi=> ?_,λi=> ?_,λi=> ?_,λ_=> .inl rfl,λ_=> .inl rfl,λ_=> .inl rfl,λ_=> .inl rfl,λ_=> .inl rfl,λ_=> .inl rfl⟩;by_cases hi:(L.map (·.1)).contains i=true;exact .inr (Yg (R:=λi v=>v=s.fr i) (λx hx=>(h.fr x hx).symm) hi);exact .inl (X5 (by simpa using hi));show Yz (H.map λx=>(x.1,some x.2.1)) (λ_=>none) i=none\/(Yz (H.map λx=>(x.1,some x.2.1)) (λ_=>none) i=_/\Yz (H.map λx=>(x.1,x.2.2)) (λ_=>false) i=_);by_cases hi:(H.map (·.1)).contains i=true;right;refine⟨Yg (R:=λi v=>v=s.m.h i) (λx hx=> ?_) (by rw[m1 H (λx=>some x.1)];exact hi),Yg (R:=λi v=>v=s.m.z i) (λx hx=> ?_) (by rw[m1 H (λx=>x.2)];exact hi)⟩;obtain⟨y,hy,rfl⟩:=Jc.1 hx;exact(h.h y hy).1.symm;obtain⟨y,hy,rfl⟩:=Jc.1 hx;exact(h.h y hy).2.symm;exact .inl (X5 (by rw[m1 H (λx=>some x.1)];simpa using hi));show Yz (R.map λx=>(x.1,some x.2)) (λ_=>none) i=none\/Yz (R.map λx=>(x.1,some x.2)) (λ_=>none) i=_;by_cases hi:(R.map (·.1)).contains i=true;right;refine Yg (R:=λi v=>v=s.m.q i) (λx hx=> ?_) (by rw[m1 R some];exact hi);obtain⟨y,hy,rfl⟩:=Jc.1 hx;exact(h.q y hy).symm;exact .inl (X5 (by rw[m1 R some];simpa using hi))
def ZG (H:List (Nat×List PV×Bool)) (R:List (Nat×Row)):Ref->Bool
 | .r i=>(R.map (·.1)).contains i
 | .b i=>(H.map (·.1)).contains i
def Fa (L:List (Nat×PV)) (H:List (Nat×List PV×Bool)) (R:List (Nat×Row)):Prop:=
 (∀x∈L,x.2.ids.all (ZG H R)=true)/\ ∀x∈H,(JN x.2.1).all (ZG H R)=true
theorem Refs.mkSt {n:Nat} {L:List (Nat×PV)} {H:List (Nat×List PV×Bool)} {R:List (Nat×Row)} (h:Fa L H R):Refs (mkSt n L H R):=by
 have m1:∀ {α β:Type} (L:List (Nat×α)) (f:α->β),(L.map λx=>(x.1,f x.2)).map (·.1)=L.map (·.1):=λL f=>by simp
 have live:∀r,ZG H R r=true->ZX (PL.mkSt n L H R).m r:=λr hr=>by
  cases r with
  |b i=>
   show Yz (H.map λx=>(x.1,some x.2.1)) (λ_=>none) i≠none;exact Yg (R:=λi v=>v≠none) (λx hx=>by obtain⟨y,hy,rfl⟩:=Jc.1 hx;simp) (by rw[m1 H (λx=>some x.1)];exact hr)
  |r i=>
   show Yz (R.map λx=>(x.1,some x.2)) (λ_=>none) i≠none;exact Yg (R:=λi v=>v≠none) (λx hx=>by obtain⟨y,hy,rfl⟩:=Jc.1 hx;simp) (by rw[m1 R some];exact hr)
 refine⟨λi r hr=> ?_,λi cs hi c hc r hr=> ?_,λi es hi=>(by cases hi),λb c hc=>(by cases hc)⟩;by_cases hi:(L.map (·.1)).contains i=true;exact Yg (R:=λi v=>∀r∈v.ids,ZX (PL.mkSt n L H R).m r) (λx hx r hr=>live r (Jg.1 (h.1 x hx) r hr)) hi r hr;have hr':r∈(Yz L (λ_=>K0) i).ids:=hr;rw[X5 (by simpa using hi)]at hr';simp[JA]at hr';by_cases hi':(H.map (·.1)).contains i=true;have hR:=Yg (R:=λi v=>∀cs,v=some cs-> ∀c∈cs,∀r∈c.ids,ZX (PL.mkSt n L H R).m r) (f:=λ_=>none) (L:=H.map λx=>(x.1,some x.2.1)) (i:=i)
  (λx hx cs hcs c hc r hr=>by obtain⟨y,hy,rfl⟩:=Jc.1 hx;cases hcs;exact live r (Jg.1 (h.2 y hy) r (JR.2 ⟨c,hc,hr⟩))) (by rw[m1 H (λx=>some x.1)];exact hi')
 exact hR cs hi c hc r hr;have hi2:Yz (H.map λx=>(x.1,some x.2.1)) (λ_=>none) i=some cs:=hi;rw[X5 (by rw[m1 H (λx=>some x.1)];simpa using hi')]at hi2;cases hi2
def Next {ι:Type} (n:Nat) (L:ι->List (Nat×PV)) (H:ι->List (Nat×List PV×Bool)) (R:ι->List (Nat×Row)) (μ:ι->Nat) (i:ι) (s':St):Prop:=∃j,μ j<μ i/\Has n (L j) (H j) (R j) s'
def G5 {ι:Type} (n:Nat) (L:ι->List (Nat×PV)) (H:ι->List (Nat×List PV×Bool)) (R:ι->List (Nat×Row)) (s':St):Prop:=∃j,Has n (L j) (H j) (R j) s'
theorem Zt {c:Code} {ι:Type} (n:Nat) (L:ι->List (Nat×PV)) (H:ι->List (Nat×List PV×Bool)) (R:ι->List (Nat×Row)) (μ:ι->Nat) (i0:ι)
  (h0:Has n (L i0) (H i0) (R i0) s) (hr:∀i,Fa (L i) (H i) (R i))
  (round:∀i,@vC P ⟨c⟩ ⟨Xj (Next n L H R μ i) Q⟩ (mkSt n (L i) (H i) (R i))):awp P (.loop c) Q s:=
 Tp (λi=>mkSt n (L i) (H i) (R i)) μ i0 h0.weak (λ_ i=>Refs.mkSt (hr i)) λi=>YR (λe s' h=>by
  cases e with
  |normal=>obtain⟨j,hj,hm⟩:=h;exact⟨j,hj,hm.weak⟩
  |_=>exact h) (Z3 _ _ _ (round i))
def D3 (l:Nat) (J:St->Prop):Nat->St->Prop:=λl' s=>l'=l/\J s
theorem YQ {l:Nat} {z:Code} (h:awp P z Q s):awp P (.seq (.label l) z) Q s:=FK (Zex h)
theorem ZdT {c:Code} {ι:Type} (n:Nat) (L:ι->List (Nat×PV)) (H:ι->List (Nat×List PV×Bool)) (R:ι->List (Nat×Row)) (μ:ι->Nat) (l:Nat) (z:Code) (hf:findLabel c l=some (.seq .skip z)) (hr:∀i,Fa (L i) (H i) (R i))
  (pass:∀i,@vC P ⟨z⟩ ⟨WE (D3 l (Next n L H R μ i)) Q⟩ (mkSt n (L i) (H i) (R i)))
  (first:(∀j s',Has n (L j) (H j) (R j) s'->awp P z (WE (D3 l (G5 n L H R)) Q) s')-> @vC P ⟨c⟩ ⟨WE (D3 l (G5 n L H R)) Q⟩ s):awp P (.scope c) Q s:=by
 have sk:∀ {Q:Exit->St->Prop} {s:St},awp P z Q s->awp P (.seq .skip z) Q s:=λh=>FK (Fe h)
 have passA:∀i,awp P (.seq .skip z) (WE (λl' s'=>∃j,l=l'/\μ j<μ i/\Weak (mkSt n (L j) (H j) (R j)) s') Q) (mkSt n (L i) (H i) (R i)):=λi=>
  sk (YR (λe s' h=>by
   cases e with
   |goto l'=>obtain⟨rfl,j,hj,hm⟩:=h;exact⟨j,rfl,hj,hm.weak⟩
   |_=>exact h) (Z3 _ _ _ (pass i)))
 refine Gj (λ_:ι=>l) (λ_=> .seq .skip z) (λi=>mkSt n (L i) (H i) (R i)) μ (λ_=>hf) (λ_ i=>Refs.mkSt (hr i)) (λi _=>passA i) λcut=> ?_
 have key:=first λj s' hs' B S M a w hsim=>by
  have hp:=Z3 _ _ _ (pass j) B S M a w (hsim.weak hs'.weak (Refs.mkSt (hr j)));refine wp_mono hp λe a' w' ⟨s1,S1,M1,h1,h2,h3⟩=>⟨s1,S1,M1,?_,h2,h3⟩
  cases e with
  |goto l'=>obtain⟨e,j,_,hm⟩:=h1;exact⟨e,j,hm⟩
  |_=>exact h1
 refine YR (λe s' h=> ?_) (Z3 _ _ _ key);cases e with
 |goto l'=>obtain⟨rfl,j,hm⟩:=h;exact⟨j,rfl,hm.weak⟩
 |_=>exact h
theorem U9 {c:Code} (h:@vC P ⟨c⟩ ⟨WE (λ_ _=>False) Q⟩ s):awp P (.scope c) Q s:=
 Gj (ι:=Empty) (λi=>i.elim) (λi=>i.elim) (λi=>i.elim) (λi=>i.elim) (λi=>i.elim) (λ_ i=>i.elim) (λi=>i.elim) λ_=>YR (λe s' h=>by
  cases e with
  |goto l=>exact h.elim
  |_=>exact h) (Z3 _ _ _ h)
@[go_sem] theorem ZnW (J:Nat->St->Prop) (s:St):@vQ ⟨WE J Q⟩ .normal s= @vQ ⟨Q⟩ .normal s:=rfl
@[go_sem] theorem ZrK (J:Nat->St->Prop) (s:St):@vQ ⟨WE J Q⟩ .ret s= @vQ ⟨Q⟩ .ret s:=rfl
@[go_sem] theorem Zqw (J:Nat->St->Prop) (id:Nat) (s:St):@vQ ⟨WE J Q⟩ (.exit id) s= @vQ ⟨Q⟩ (.exit id) s:=rfl
@[go_sem] theorem Zqx (J:Nat->St->Prop) (l:Nat) (s:St):@vQ ⟨WE J Q⟩ (.goto l) s=J l s:=rfl
@[go_sem] theorem Zsb (l:Nat) (J:St->Prop) (s:St):D3 l J l s=J s:=by simp[D3]
attribute [go_sem] mkSt
end
open Go.RowKit
section
variable {P:Program} {B:Frm} {S:Stable} {M:Maps} {s:St} {a:Act} {w:World} {Q:Exit->St->Prop}
theorem ZL {c:Code} (i id d n sz:Nat) (e:TypeId) (es:List PV) (hi:s.fr i= .sl (.row id) es) (hid:s.m.q id=some (.live n sz e)) (hd:s.m.q d=none)
  (h:awp P c Q ({ s with fr:=upd s.fr i (.sl (.row d) es) }.with ((s.m.setq id .dead).setq d (.live n sz e)))):awp P c Q s:=λB S M a w hs=>by
 have hne:id≠d:=λe=>by rw[e,hd]at hid;cases hid
 have hs1:=hs.moveRow hid hd;have hrow:=hs.fr i;rw[hi]at hrow;have key:∃r:Rep S (a.tmps.getD i undef) (.sl .no es),(es.length<=n/\(es.length=n->(M.κ id=0->a.tmps.getD i undef= .slice none 0 0)/\(∀c,M.κ id=c+1->a.tmps.getD i undef= .slice (some ⟨M.ψ id,0,none⟩) n c))):=by
  generalize a.tmps.getD i undef=v at hrow;cases hrow with
  |clean r=>cases r
  |row _ _ _ r t=>exact⟨r,t n sz e hid⟩
 obtain⟨r,t⟩:=key;refine h B S _ a w ⟨hs1.defers,hs1.hn,hs1.hB,hs1.stable,λk=> ?_,λk r hr=> ?_,hs1.blk,hs1.row,hs1.inj,hs1.injq,hs1.injx,hs1.rm,hs1.vc,⟨hs1.pn.h,hs1.pn.q⟩,hs1.hz⟩;show RepS _ _ _ _ (upd s.fr i (.sl (.row d) es) k);by_cases ek:i=k;subst ek;rw[Za];refine .row d _ es r λn' sz' e' hq=> ?_
 have hq':upd (upd s.m.q id (some .dead)) d (some (.live n sz e)) d=some (.live n' sz' e'):=hq;rw[Za]at hq';cases hq';refine⟨t.1,λel=> ?_⟩;have:=t.2 el;simpa only[Za]using this;rw[Zk _ _ ek];exact hs1.fr k;have hr':r∈(upd s.fr i (.sl (.row d) es) k).ids:=hr;by_cases ek:i=k;subst ek;rw[Za]at hr';simp only[JA,Ja]at hr';subst hr';show upd _ _ _ _≠none;simp[Za];rw[Zk _ _ ek]at hr';exact hs1.ids k r hr'
end
open Go.RowKit
section
variable {P:Program} {s:St} {Q:Exit->St->Prop}
def ZcN {ι:Type} (n:Nat) (L:ι->List (Nat×PV)) (H:ι->List (Nat×List PV×Bool)) (R:ι->List (Nat×Row)) (μ:ι->Nat) (lab:ι->Nat) (i:ι):Nat->St->Prop:=λl s'=>∃j,lab j=l/\μ j<μ i/\Has n (L j) (H j) (R j) s'
def ZqE {ι:Type} (n:Nat) (L:ι->List (Nat×PV)) (H:ι->List (Nat×List PV×Bool)) (R:ι->List (Nat×Row)) (lab:ι->Nat):Nat->St->Prop:=λl s'=>∃j,lab j=l/\Has n (L j) (H j) (R j) s'
theorem ZrT {c:Code} {ι:Type} (n:Nat) (L:ι->List (Nat×PV)) (H:ι->List (Nat×List PV×Bool)) (R:ι->List (Nat×Row)) (μ:ι->Nat) (lab:ι->Nat) (z:ι->Code)
  (hf:∀i,findLabel c (lab i)=some (.seq .skip (z i))) (hr:∀i,Fa (L i) (H i) (R i))
  (pass:∀i,(∀j s',μ j<μ i->Has n (L j) (H j) (R j) s'->awp P (z j) (WE (ZcN n L H R μ lab i) Q) s')-> @vC P ⟨z i⟩ ⟨WE (ZcN n L H R μ lab i) Q⟩ (mkSt n (L i) (H i) (R i)))
  (first:(∀j s',Has n (L j) (H j) (R j) s'->awp P (z j) (WE (ZqE n L H R lab) Q) s')-> @vC P ⟨c⟩ ⟨WE (ZqE n L H R lab) Q⟩ s):awp P (.scope c) Q s:=by
 have sk:∀ {z:Code} {Q:Exit->St->Prop} {s:St},awp P z Q s->awp P (.seq .skip z) Q s:=λh=>FK (Fe h)
 have all:∀m i,μ i=m->awp P (z i) (WE (ZcN n L H R μ lab i) Q) (mkSt n (L i) (H i) (R i)):=by
  intro m;induction m using Ki with
  |_ m ih=>
   intro i hi;refine Z3 _ _ _ (pass i λj s' hj hh=> ?_);refine Ff hh.weak (λ_=>Refs.mkSt (hr j)) (YR (λe s'' h=> ?_) (ih (μ j) (by omega) j rfl));cases e with
   |goto l=>obtain⟨k,h1,h2,h3⟩:=h;exact⟨k,h1,by omega,h3⟩
   |_=>exact h
 refine Gj lab (λi=> .seq .skip (z i)) (λi=>mkSt n (L i) (H i) (R i)) μ hf (λ_ i=>Refs.mkSt (hr i)) (λi _=> ?_) λ_=> ?_
 refine sk (YR (λe s' h=> ?_) (all _ i rfl));cases e with
 |goto l=>obtain⟨k,h1,h2,h3⟩:=h;exact⟨k,h1,h2,h3.weak⟩
 |_=>exact h
 refine YR (λe s' h=> ?_) (Z3 _ _ _ (first λj s' hh=> ?_));cases e with
 |goto l=>obtain⟨k,h1,h3⟩:=h;exact⟨k,h1,h3.weak⟩
 |_=>exact h
 refine Ff hh.weak (λ_=>Refs.mkSt (hr j)) (YR (λe s'' h=> ?_) (all _ j rfl));cases e with
 |goto l=>obtain⟨k,h1,h2,h3⟩:=h;exact⟨k,h1,h3⟩
 |_=>exact h
def DN (l0:Nat) (J0:St->Prop) (l1:Nat) (J1:St->Prop):Nat->St->Prop:=λl s=>(l=l0/\J0 s)\/(l=l1/\J1 s)
theorem ZrS {c:Code} {ι0 ι1:Type} (n:Nat) (L0:ι0->List (Nat×PV)) (H0:ι0->List (Nat×List PV×Bool)) (R0:ι0->List (Nat×Row)) (μ0:ι0->Nat)
  (L1:ι1->List (Nat×PV)) (H1:ι1->List (Nat×List PV×Bool)) (R1:ι1->List (Nat×Row)) (μ1:ι1->Nat) (B:Nat) (hB:∀j,μ1 j<B)
  (l0 l1:Nat) (z0 z1:Code) (hf0:findLabel c l0=some (.seq .skip z0)) (hf1:findLabel c l1=some (.seq .skip z1)) (hr0:∀i,Fa (L0 i) (H0 i) (R0 i)) (hr1:∀i,Fa (L1 i) (H1 i) (R1 i))
  (pass0:∀i,(∀j s',Has n (L1 j) (H1 j) (R1 j) s'->awp P z1 (WE (DN l0 (Next n L0 H0 R0 μ0 i) l1 (G5 n L1 H1 R1)) Q) s')-> @vC P ⟨z0⟩ ⟨WE (DN l0 (Next n L0 H0 R0 μ0 i) l1 (G5 n L1 H1 R1)) Q⟩ (mkSt n (L0 i) (H0 i) (R0 i)))
  (pass1:∀i,@vC P ⟨z1⟩ ⟨WE (D3 l1 (Next n L1 H1 R1 μ1 i)) Q⟩ (mkSt n (L1 i) (H1 i) (R1 i)))
  (first:(∀j s',Has n (L0 j) (H0 j) (R0 j) s'->awp P z0 (WE (DN l0 (G5 n L0 H0 R0) l1 (G5 n L1 H1 R1)) Q) s')-> @vC P ⟨c⟩ ⟨WE (DN l0 (G5 n L0 H0 R0) l1 (G5 n L1 H1 R1)) Q⟩ s):awp P (.scope c) Q s:=by
 refine ZrT (ι:=ι0 ⊕ ι1) n (Jf L0 L1) (Jf H0 H1) (Jf R0 R1) (Jf (λi=>B+μ0 i) μ1) (Jf (λ_=>l0) (λ_=>l1)) (Jf (λ_=>z0) (λ_=>z1)) ?_ ?_ ?_ ?_;rintro (i|i);exact hf0;exact hf1;rintro (i|i);exact hr0 i;exact hr1 i;rintro (i|i) cut;have hm:∀l s',DN l0 (Next n L0 H0 R0 μ0 i) l1 (G5 n L1 H1 R1) l s'->ZcN n (Jf L0 L1) (Jf H0 H1) (Jf R0 R1) (Jf (λi=>B+μ0 i) μ1) (Jf (λ_=>l0) (λ_=>l1)) (.inl i) l s':=by
  rintro l s' (⟨rfl,j,h1,h2⟩|⟨rfl,j,h2⟩);exact⟨.inl j,rfl,by simp only[JU];omega,h2⟩;exact⟨.inr j,rfl,by have:=hB j;simp only[JU,Ky];omega,h2⟩
 have hm':∀l s',ZcN n (Jf L0 L1) (Jf H0 H1) (Jf R0 R1) (Jf (λi=>B+μ0 i) μ1) (Jf (λ_=>l0) (λ_=>l1)) (.inl i) l s'->DN l0 (Next n L0 H0 R0 μ0 i) l1 (G5 n L1 H1 R1) l s':=by
  rintro l s' ⟨j|j,h0,h1,h2⟩;exact .inl ⟨h0.symm,j,by simp only[JU]at h1;omega,h2⟩;exact .inr ⟨h0.symm,j,h2⟩
 have e:(DN l0 (Next n L0 H0 R0 μ0 i) l1 (G5 n L1 H1 R1))=ZcN n (Jf L0 L1) (Jf H0 H1) (Jf R0 R1) (Jf (λi=>B+μ0 i) μ1) (Jf (λ_=>l0) (λ_=>l1)) (.inl i):=by
  funext l s';exact propext ⟨hm l s',hm' l s'⟩
 have:=pass0 i λj s' hh=>by rw[e];exact cut (.inr j) s' (by have:=hB j;simp only[JU,Ky];omega) hh
 rw[e]at this;exact this;have hp:=Z3 _ _ _ (pass1 i);have e:∀l s',D3 l1 (Next n L1 H1 R1 μ1 i) l s'->ZcN n (Jf L0 L1) (Jf H0 H1) (Jf R0 R1) (Jf (λi=>B+μ0 i) μ1) (Jf (λ_=>l0) (λ_=>l1)) (.inr i) l s':=by
  rintro l s' ⟨rfl,j,h1,h2⟩;exact⟨.inr j,rfl,h1,h2⟩
 have e':∀l s',ZcN n (Jf L0 L1) (Jf H0 H1) (Jf R0 R1) (Jf (λi=>B+μ0 i) μ1) (Jf (λ_=>l0) (λ_=>l1)) (.inr i) l s'->D3 l1 (Next n L1 H1 R1 μ1 i) l s':=by
  rintro l s' ⟨j|j,h0,h1,h2⟩;have:=hB i;simp only[JU,Ky]at h1;omega;exact⟨h0.symm,j,h1,h2⟩
 have ee:D3 l1 (Next n L1 H1 R1 μ1 i)=ZcN n (Jf L0 L1) (Jf H0 H1) (Jf R0 R1) (Jf (λi=>B+μ0 i) μ1) (Jf (λ_=>l0) (λ_=>l1)) (.inr i):=by
  funext l s';exact propext ⟨e l s',e' l s'⟩
 have:=pass1 i;rw[ee]at this;exact this;intro cut;have e:DN l0 (G5 n L0 H0 R0) l1 (G5 n L1 H1 R1)=ZqE n (Jf L0 L1) (Jf H0 H1) (Jf R0 R1) (Jf (λ_=>l0) (λ_=>l1)):=by
  funext l s';refine propext ⟨?_,?_⟩;rintro (⟨rfl,j,h2⟩|⟨rfl,j,h2⟩);exact⟨.inl j,rfl,h2⟩;exact⟨.inr j,rfl,h2⟩;rintro ⟨j|j,h0,h2⟩;exact .inl ⟨h0.symm,j,h2⟩;exact .inr ⟨h0.symm,j,h2⟩
 have:=first λj s' hh=>by rw[e];exact cut (.inl j) s' hh
 rw[e]at this;exact this
end
open Go.RowKit
section
variable {P:Program} {ops:Array Oper} {md:JF}
theorem Tb {s s1 s2:St} {oi oj:Oper} (hap:oi.apart ops oj=true)
  (core:∀vi mi vj mj,Wc P oi s.eval s.m vi mi->Wc P oj s.eval mi vj mj-> ∃ma,Wc P oj s.eval s.m vj ma/\Wc P oi s.eval ma vi mj)
  (h1:VC P ops oi s s1) (h2:VC P ops oj s1 s2):∃s1',VC P ops oj s s1'/\VC P ops oi s1' s2:=by
 obtain⟨a1,a2,a3⟩:=Oper.apart_spec hap;obtain⟨d1,h1⟩:=h1;obtain⟨d2,h2⟩:=h2;have n1:s1.n=s.n:=by rcases h1 with ⟨_,v,m',_,rfl⟩|⟨_,rfl⟩<;>simp[Zay,St.with]
 rw[n1]at d2;have ej:∀x∈oj.op.operands,s1.eval x=s.eval x:=λx hx=>by
  rcases h1 with ⟨_,v,m',_,rfl⟩|⟨_,rfl⟩;rw[Ua (W6 a1 x hx),GU];rw[Ua (W6 a1 x hx)]
 have gj:gd ops s1 oj=gd ops s oj:=by
  rcases h1 with ⟨_,v,m',_,rfl⟩|⟨_,rfl⟩;exact Tf a1;exact Tf (m:=s.m) a1
 have a2':∀d,oj.dst=some d->oi.dst≠some d:=λd hd e=>a2 d e hd
 rcases h1 with ⟨g1,vi,mi,st1,rfl⟩|⟨g1,rfl⟩;rcases h2 with ⟨g2,vj,mj,st2,rfl⟩|⟨g2,rfl⟩;rw[GF]at st2;have st2':Wc P oj s.eval mi vj mj:=XB ej st2;obtain⟨ma,sta,stb⟩:=core vi mi vj mj st1 st2';refine⟨(s.with ma).put oj.dst vj,⟨d2,.inl ⟨by rw[<-gj];exact g2,vj,ma,sta,rfl⟩⟩,by rw[Zay];exact d1,.inl ⟨by rw[Tf a3];exact g1,vi,mj,?_,?_⟩⟩;rw[GF];refine XB (λx hx=> ?_) stb;rw[Ua (W6 a3 x hx),GU];rw[Ub,Ub,V9 _ _ _ a2];rfl;refine⟨s.put oj.dst (.tup []),⟨d2,.inr ⟨by rw[<-gj];exact g2,rfl⟩⟩,by rw[Zay];exact d1,.inl ⟨by rw[show s.put oj.dst (.tup [])=(s.with s.m).put oj.dst (.tup [])from rfl,Tf a3];exact g1,vi,mi,?_,?_⟩⟩;rw[GF];exact XB (λx hx=>by rw[Ua (W6 a3 x hx)]) st1;rw[Ub,V9 _ _ _ a2];rcases h2 with ⟨g2,vj,mj,st2,rfl⟩|⟨g2,rfl⟩;rw[GF]at st2;refine⟨(s.with mj).put oj.dst vj,⟨d2,.inl ⟨by rw[<-gj];exact g2,vj,mj,XB ej st2,rfl⟩⟩,by rw[Zay];exact d1,.inr ⟨by rw[Tf a3];exact g1,?_⟩⟩;rw[Ub,V9 _ _ _ a2];refine⟨s.put oj.dst (.tup []),⟨d2,.inr ⟨by rw[<-gj];exact g2,rfl⟩⟩,by rw[Zay];exact d1,.inr ⟨by rw[show s.put oj.dst (.tup [])=(s.with s.m).put oj.dst (.tup [])from rfl,Tf a3];exact g1,?_⟩⟩;rw[V9 _ _ _ a2]
theorem Zn7 {t:TypeId} {x v:PV} {m:Hp} {r:Ref} (hi:r∉x.dids):((W0 P t x v m).m).hv r=m.hv r\/ ¬(W0 P t x v m).ok:=by
 unfold W0;cases x with
 |ptr id off=>
  cases hh:m.h id with
  |none=>right;simp only[hh];exact λh=>h
  |some cs=>
   left;simp only[hh];cases r with
   |b i=>exact Zk _ _ λe=>hi (by simp[Ku,e])
   |r i=>rfl
 |vptr id n z k off=>
  cases hh:m.v id with
  |none=>right;simp only[hh];exact λh=>h
  |some es=>
   left;simp only[hh];cases r with
   |b i=>rfl
   |r i=>exact Zk _ _ λe=>hi (by simp[Ku,e])
 |_=>exact .inr (λh=>h.elim)
theorem Zcz {o:Oper} {t:TypeId} {y w:Operand} (ho:o.op= .store t y w) {ρ:Operand->PV} {m m':Hp} {v:PV} (h:Wc P o ρ m v m'):∀r,r∉(ρ y).dids->m'.hv r=m.hv r:=by
 rcases h with ⟨h1,h2,h3⟩|⟨c,g,args,hc,_⟩;intro i hi;have hop:aop P o ρ m=if tkn P t then W0 P t (ρ y) (ρ w) m else .fail:=by unfold aop;rw[ho]
 rw[h3];rw[hop]at h1 ⊢;split at h1;rename_i hk;simp only[hk,if_true]at h1 ⊢;rcases Zn7 (P:=P) (t:=t) (x:=ρ y) (v:=ρ w) (m:=m) hi with h|h;exact h;exact absurd h1 h;exact h1.elim;rw[ho]at hc;cases hc
theorem ZfQ {o:Oper} {t:TypeId} {x:Operand} (ho:o.op= .load t x) {ρ:Operand->PV} {m m':Hp} {v:PV} (h:Wc P o ρ m v m'):
  m'=m/\ ∀m2:Hp,(∀r,r∈(ρ x).dids->m2.hv r=m.hv r)->Wc P o ρ m2 v m2:=by
 rcases h with ⟨h1,h2,h3⟩|⟨c,g,args,hc,_⟩;have hop:∀m,aop P o ρ m=if tkn P t then Un P t (ρ x) m else .fail:=λm=>by unfold aop;rw[ho]
 have key:∀m2:Hp,(∀r,r∈(ρ x).dids->m2.hv r=m.hv r)->(aop P o ρ m).m=m/\(aop P o ρ m2).ok/\(aop P o ρ m2).v=(aop P o ρ m).v/\(aop P o ρ m2).m=m2:=by
  intro m2 hm2;rw[hop]at h1 ⊢;rw[hop];split at h1;rename_i hk;simp only[hk,if_true];revert h1;unfold Un;cases hx:ρ x with
  |rptr cs=>exact λh=>⟨rfl,h,rfl,rfl⟩
  |ptr id off=>
   have:m2.h id=m.h id:=hm2 (.b id) (by rw[hx];simp[Ku]);simp only[this];cases m.h id with
   |none=>exact λh=>h.elim
   |some cs=>exact λh=>⟨rfl,h,rfl,rfl⟩
  |vptr id n z k off=>
   have:m2.v id=m.v id:=hm2 (.r id) (by rw[hx];simp[Ku]);simp only[this];cases m.v id with
   |none=>exact λh=>h.elim
   |some es=>exact λh=>⟨rfl,h,rfl,rfl⟩
  |_=>exact λh=>h.elim
  exact h1.elim
 refine⟨by rw[h3];exact(key m λ_ _=>rfl).1,λm2 hm2=> ?_⟩;obtain⟨_,g1,g2,g3⟩:=key m2 hm2;exact .inl ⟨g1,by rw[g2];exact h2,g3.symm⟩;rw[ho]at hc;cases hc
theorem Zlo {s:St} {oi oj:Oper} {t u:TypeId} {x y w:Operand} (hi:oi.op= .load t x) (hj:oj.op= .store u y w) (hd:∀r∈(s.eval x).dids,r∉(s.eval y).dids):
  ∀vi mi vj mj,Wc P oi s.eval s.m vi mi->Wc P oj s.eval mi vj mj-> ∃ma,Wc P oj s.eval s.m vj ma/\Wc P oi s.eval ma vi mj:=by
 intro vi mi vj mj st1 st2;obtain⟨e,h⟩:=ZfQ hi st1;subst e;exact⟨mj,st2,h mj λi hi=>Zcz hj st2 i (hd _ hi)⟩
theorem Zlp {s:St} {oi oj:Oper} {t u:TypeId} {x y w:Operand} (hi:oi.op= .store u y w) (hj:oj.op= .load t x) (hd:∀r∈(s.eval x).dids,r∉(s.eval y).dids):
  ∀vi mi vj mj,Wc P oi s.eval s.m vi mi->Wc P oj s.eval mi vj mj-> ∃ma,Wc P oj s.eval s.m vj ma/\Wc P oi s.eval ma vi mj:=by
 intro vi mi vj mj st1 st2;obtain⟨e,h⟩:=ZfQ hj st2;subst e;exact⟨s.m,h s.m λi hi'=>(Zcz hi st1 i (hd _ hi')).symm,st1⟩
def Zg2 (ops:Array Oper) (t:Nat):Bool:=ops.toList.any λo=>o.dst==some t
def ZxQ (ops:Array Oper) (x:Nat):Bool:= !Zg2 ops x||ops.toList.any λo=>o.dst==some x&&match o.op with| .move (.tmp y)=> !Zg2 ops y|_=>false
def ZgA (ops:Array Oper) (o:Oper):Option Nat:=match o.op with
 | .fieldAddr _ (.tmp x) _=>some x
 | .indexAddr _ (.tmp x) _=>if ZxQ ops x then some x else none
 | .move (.tmp x)=>if Zg2 ops x then none else some x
 |_=>none
def Zix (ops:Array Oper):Nat->Nat->Nat
 |0,t=>t
 |n+1,t=>match ops.toList.find? (λo=>o.dst==some t)with
  |some o=>match ZgA ops o with|some x=>Zix ops n x|none=>t
  |none=>t
def Zbh (md:JF) (ops:Array Oper) (root:Nat->Nat) (o:Oper) (x:Nat):Bool:=
 (!Zg2 ops x&&root x==x)||o.after.any λe=>JG md e&&match ops[e.on]? with
  |some o'=>o'.dst==some x&&match ZgA ops o' with|some x'=>root x'==root x|none=>false
  |none=>false
def Zoa (md:JF) (ops:Array Oper) (root:Nat->Nat):Bool:=ops.toList.all λo=>match ZgA ops o with|some x=>Zbh md ops root o x|none=>true
def Zhf:List Oper->Bool
 | []=>true
 |o::l=>(match o.dst with|some d=>l.all λo'=>o'.dst !=some d|none=>true)&&Zhf l
def Zuq (o:Oper):Bool:=match o.op with| .alloc _=>true|_=>false
def alB (md:JF) (ops:Array Oper) (o:Oper) (y:Nat):Bool:=o.after.any λe=>JG md e&&match ops[e.on]? with
  |some o'=>o'.dst==some y&&Zuq o'
  |none=>false
structure Good (ops:Array Oper) (root:Nat->Nat) (s0:St) (listed:Array Bool) (s:St):Prop where
 ext:∀t,Zg2 ops t=false->s.fr t=s0.fr t
 adr:∀k o d x,ops[k]? = some o->ZgA ops o=some x->o.dst=some d->listed.getD k false=true-> ∀r∈(s.fr d).dids,r∈(s0.fr (root x)).dids
 al:∀k o d,ops[k]? = some o->Zuq o=true->o.dst=some d->listed.getD k false=true-> ∀r∈(s.fr d).dids,r= .b d
theorem Good.alloc {root:Nat->Nat} {s0 s:St} {listed:Array Bool} (g:Good ops root s0 listed s) {k:Nat} {o:Oper} {y:Nat} (ho:ops[k]? = some o) (hr:k∈Jw md ops listed) (hs:alB md ops o y=true):∀r∈(s.fr y).dids,r= .b y:=by
 obtain⟨e,he,hb⟩:=J3.1 hs;simp only[Jh]at hb;obtain⟨hb,hm⟩:=hb;obtain⟨_,o1,ho1,hall⟩:=mem_ready.1 hr;rw[ho]at ho1;cases ho1;have hl:=hall e he hb;cases ho':ops[e.on]? with
 |none=>rw[ho']at hm;cases hm
 |some o'=>
  rw[ho']at hm;simp only[Jh,beq_iff_eq]at hm;exact g.al e.on o' y ho' hm.2 hm.1 hl
theorem ZqF {o:Oper} {d:Nat} (ha:Zuq o=true) (hd:o.dst=some d) {ρ:Operand->PV} {m m':Hp} {v:PV} (h:Wc P o ρ m v m'):∀r∈v.dids,r= .b d:=by
 unfold Zuq at ha;split at ha;rename_i t heq;rcases h with ⟨h1,h2,h3⟩|⟨c,g,args,hc,_⟩;have hop:aop P o ρ m=match o.dst,Wy P t with
  |some d,some z=>⟨m.h d=none,.ptr d 0,m.new d z⟩
  |_,_=> .fail:=by unfold aop;rw[heq];rfl
 rw[hd]at hop;cases hz:Wy P t with
 |none=>rw[hz]at hop;rw[hop]at h1;exact h1.elim
 |some z=>
  rw[hz]at hop;rw[h2,hop];intro r hr;simpa[Ku]using hr
 rw[heq]at hc;cases hc;cases ha
theorem Good.src {root:Nat->Nat} {s0 s:St} {listed:Array Bool} (g:Good ops root s0 listed s) {k:Nat} {o:Oper} {x:Nat} (ho:ops[k]? = some o) (hr:k∈Jw md ops listed) (hs:Zbh md ops root o x=true):
  ∀r∈(s.fr x).dids,r∈(s0.fr (root x)).dids:=by
 simp only[Zbh,JH,Jh,Kz,beq_iff_eq]at hs;rcases hs with ⟨h1,h2⟩|h;rw[g.ext x h1,h2];exact λr hr=>hr
 obtain⟨e,he,hb⟩:=J3.1 h;simp only[Jh]at hb;obtain⟨hb,hm⟩:=hb;obtain⟨_,o1,ho1,hall⟩:=mem_ready.1 hr;rw[ho]at ho1;cases ho1;have hl:=hall e he hb;cases ho':ops[e.on]? with
 |none=>rw[ho']at hm;cases hm
 |some o'=>
  rw[ho']at hm;simp only[Jh,beq_iff_eq]at hm;obtain⟨hd,hm⟩:=hm;cases ha:ZgA ops o' with
  |none=>rw[ha]at hm;cases hm
  |some x'=>
   rw[ha]at hm;simp only[beq_iff_eq]at hm;rw[<-hm];exact g.adr e.on o' x x' ho' ha hd hl
theorem ZoT {k:Nat} {o:Oper} {d:Nat} (ho:ops[k]? = some o) (hd:o.dst=some d):Zg2 ops d=true:=by
 unfold Zg2;rw[List.any_eq_true];obtain⟨hk,rfl⟩:=Je.1 ho;exact⟨ops[k],by simp,by simp[hd]⟩
theorem Ds:∀ {l:List Oper},Zhf l=true-> ∀(i j:Nat) (oi oj:Oper) (d:Nat),l[i]? = some oi->l[j]? = some oj->oi.dst=some d->oj.dst=some d->i=j
 | [],_,i,j,oi,oj,d,h,_,_,_=>by simp at h
 |o::l,hB,i,j,oi,oj,d,hi,hj,di,dj=>by
  simp only[Zhf,Jh]at hB;obtain⟨h1,h2⟩:=hB;cases i with
  |zero=>
   cases j with
   |zero=>rfl
   |succ j=>
    simp only[J9,J6.injEq]at hi;simp only[JK]at hj;subst hi;rw[di]at h1;have:=Jg.1 h1 oj (Kn hj);simp[dj]at this
  |succ i=>
   cases j with
   |zero=>
    simp only[J9,J6.injEq]at hj;simp only[JK]at hi;subst hj;rw[dj]at h1;have:=Jg.1 h1 oi (Kn hi);simp[di]at this
   |succ j=>
    simp only[JK]at hi hj;rw[Ds h2 i j oi oj d hi hj di dj]
theorem Zob {o:Oper} {x:Nat} (ha:ZgA ops o=some x) {ρ:Operand->PV} {m m':Hp} {v:PV} (h:Wc P o ρ m v m'):∀r∈v.dids,r∈(ρ (.tmp x)).dids:=by
 unfold ZgA at ha;split at ha;rename_i t y f heq;cases ha;rcases h with ⟨h1,h2,h3⟩|⟨c,g,args,hc,_⟩;rw[h2];have hop:aop P o ρ m=Xp P t (ρ (.tmp x)) f m:=by unfold aop;rw[heq]
 rw[hop];exact ZaZ;rw[heq]at hc;cases hc;rename_i t y i heq;split at ha;cases ha;rcases h with ⟨h1,h2,h3⟩|⟨c,g,args,hc,_⟩;rw[h2];have hop:aop P o ρ m=Xq P t (ρ (.tmp x)) (ρ i) m:=by unfold aop;rw[heq]
 rw[hop];exact Za0;rw[heq]at hc;cases hc;cases ha;rename_i y heq;split at ha;cases ha;cases ha;rcases h with ⟨h1,h2,h3⟩|⟨c,g,args,hc,_⟩;rw[h2];have hop:aop P o ρ m=⟨True,ρ (.tmp x),m⟩:=by unfold aop;rw[heq]
 rw[hop];exact λr hr=>hr
 rw[heq]at hc;cases hc;cases ha
theorem Good.next {root:Nat->Nat} {s0 s s':St} {listed:Array Bool} (g:Good ops root s0 listed s) (h1:Zoa md ops root=true) (h2:Zhf ops.toList=true) {k:Nat} {o:Oper} (ho:ops[k]? = some o)
  (hr:k∈Jw md ops listed) (hy:VC P ops o s s'):Good ops root s0 (listed.setIfInBounds k true) s':=by
 have hfr:∀t,o.dst≠some t->s'.fr t=s.fr t:=λt ht=>by
  obtain⟨_,hy⟩:=hy;rcases hy with ⟨_,v,m',_,rfl⟩|⟨_,rfl⟩;rw[Zfx ht];rfl;rw[Zfx ht]
 refine⟨λt ht=> ?_,λk2 o2 d x ho2 ha hd hl r hr'=> ?_,λk2 o2 d ho2 ha hd hl r hr'=> ?_⟩
 rotate_left 2
 by_cases hk:k=k2;subst hk;rw[ho]at ho2;cases ho2;obtain⟨_,hy⟩:=hy;rcases hy with ⟨_,v,m',st,rfl⟩|⟨_,rfl⟩;have hv:((s.with m').put o.dst v).fr d=v:=by rw[hd];simp[St.put,upd]
 rw[hv]at hr';exact ZqF ha hd st r hr';have hv:(s.put o.dst (.tup [])).fr d= .tup []:=by rw[hd];simp[St.put,upd]
 rw[hv]at hr';simp[Ku,KY]at hr';rw[getD_set_ne false hk]at hl;have hne:o.dst≠some d:=λe=>hk (Ds h2 k k2 o o2 d (by simpa using ho) (by simpa using ho2) e hd)
 rw[hfr d hne]at hr';exact g.al k2 o2 d ho2 ha hd hl r hr';rw[hfr t (λe=>by rw[ZoT ho e]at ht;cases ht),g.ext t ht];by_cases hk:k=k2;subst hk;rw[ho]at ho2;cases ho2;have hs:Zbh md ops root o x=true:=by
  have:=Jg.1 h1 o (by obtain⟨hk,rfl⟩:=Je.1 ho;simp);rw[ha]at this;exact this
 obtain⟨_,hy⟩:=hy;rcases hy with ⟨_,v,m',st,rfl⟩|⟨_,rfl⟩;have hv:((s.with m').put o.dst v).fr d=v:=by rw[hd];simp[St.put,upd]
 rw[hv]at hr';exact g.src ho hr hs r (Zob ha st r hr');have hv:(s.put o.dst (.tup [])).fr d= .tup []:=by rw[hd];simp[St.put,upd]
 rw[hv]at hr';simp[Ku,KY]at hr';rw[getD_set_ne false hk]at hl;have hne:o.dst≠some d:=λe=>hk (Ds h2 k k2 o o2 d (by simpa using ho) (by simpa using ho2) e hd)
 rw[hfr d hne]at hr';exact g.adr k2 o2 d x ho2 ha hd hl r hr'
def lsB (md:JF) (ops:Array Oper) (root:Nat->Nat) (D D2:List (Nat×Nat)) (a b:Oper):Bool:=
 match a.op,b.op with
 | .load _ (.tmp x),.store _ (.tmp y) _=>(Zbh md ops root a x&&Zbh md ops root b y&&D.contains (root x,root y))||(Zbh md ops root a x&&alB md ops b y&&D2.contains (root x,y))
 | .store _ (.tmp y) _,.load _ (.tmp x)=>(Zbh md ops root b x&&Zbh md ops root a y&&D.contains (root x,root y))||(Zbh md ops root b x&&alB md ops a y&&D2.contains (root x,y))
 |_,_=>false
theorem Zrn {root:Nat->Nat} {D D2:List (Nat×Nat)} {s0 s s1 s2:St} {listed:Array Bool} {i j:Nat} {oi oj:Oper} (hD:∀p∈D,∀r∈(s0.fr p.1).dids,r∉(s0.fr p.2).dids) (hD2:∀p∈D2,∀r∈(s0.fr p.1).dids,r≠ .b p.2) (g:Good ops root s0 listed s)
  (hoi:ops[i]? = some oi) (hoj:ops[j]? = some oj) (ri:i∈Jw md ops listed) (rj:j∈Jw md ops listed)
  (hap:oi.apart ops oj=true) (hls:lsB md ops root D D2 oi oj=true) (h1:VC P ops oi s s1) (h2:VC P ops oj s1 s2):∃s1',VC P ops oj s s1'/\VC P ops oi s1' s2:=by
 unfold lsB at hls;split at hls;rename_i t x u y w e1 e2;simp only[JH,Jh]at hls;rcases hls with ⟨⟨ha,hb⟩,hc⟩|⟨⟨ha,hb⟩,hc⟩;refine Tb hap (Zlo e1 e2 λr hr hr'=> ?_) h1 h2;exact hD _ (Jj.1 hc) r (g.src hoi ri ha r hr) (g.src hoj rj hb r hr');refine Tb hap (Zlo e1 e2 λr hr hr'=> ?_) h1 h2;exact hD2 _ (Jj.1 hc) r (g.src hoi ri ha r hr) (g.alloc hoj rj hb r hr');rename_i u y w t x e1 e2;simp only[JH,Jh]at hls;rcases hls with ⟨⟨ha,hb⟩,hc⟩|⟨⟨ha,hb⟩,hc⟩;refine Tb hap (Zlp e1 e2 λr hr hr'=> ?_) h1 h2;exact hD _ (Jj.1 hc) r (g.src hoj rj ha r hr) (g.src hoi ri hb r hr');refine Tb hap (Zlp e1 e2 λr hr hr'=> ?_) h1 h2;exact hD2 _ (Jj.1 hc) r (g.src hoj rj ha r hr) (g.alloc hoi ri hb r hr');cases hls
theorem ZbG {root:Nat->Nat} {D D2:List (Nat×Nat)} {s0:St} (hD:∀p∈D,∀r∈(s0.fr p.1).dids,r∉(s0.fr p.2).dids) (hD2:∀p∈D2,∀r∈(s0.fr p.1).dids,r≠ .b p.2) (k1:Zoa md ops root=true) (k2:Zhf ops.toList=true) {K:St->Prop} {i:Nat} {oi:Oper} (hi:ops[i]? = some oi):
  ∀(fuel:Nat) (listed:Array Bool) (s s1:St),RefsD s->Good ops root s0 listed s->
   (∀j oj,ops[j]? = some oj->j≠i->listed.getD j true=false->(∀e∈oj.after,JG md e=true->e.on≠i)->oi.apart ops oj=true/\(compat oi.op oj.op=true\/lsB md ops root D D2 oi oj=true))->
   i∈Jw md ops listed->VC P ops oi s s1->
   Zp0 P md ops K fuel (listed.setIfInBounds i true) s1->Zp0 P md ops K (fuel+1) listed s:=by
 intro fuel;induction fuel with
 |zero=>
  intro listed s s1 hR _ _ hr hy H;refine⟨λh=>(by rw[h]at hr;cases hr),λj hj=> ?_⟩;by_cases hji:j=i;subst hji;exact⟨oi,s1,hi,hy,H⟩;have:=ready_mono hj hji;rw[H.1]at this;cases this
 |succ fuel ih=>
  intro listed s s1 hR hG hfree hr hy H;refine⟨λh=>(by rw[h]at hr;cases hr),λj hj=> ?_⟩;by_cases hji:j=i;subst hji;exact⟨oi,s1,hi,hy,H⟩;obtain⟨oj,s2,hoj,hy2,h1⟩:=H.2 j (ready_mono hj hji);obtain⟨hjun,oj',hoj',hall⟩:=mem_ready.1 hj;rw[hoj]at hoj';cases hoj';have hnot:∀e∈oj.after,JG md e=true->e.on≠i:=λe he hb heq=>by
   have h1:=hall e he hb;have h0:=(mem_ready.1 hr).1;rw[heq]at h1;rcases Nat.lt_or_ge i listed.size with h'|h';simp[h']at h0 h1;rw[h0]at h1;cases h1;simp[Array.getElem?_eq_none h']at h1
  obtain⟨hap,hcp⟩:=hfree j oj hoj hji hjun hnot;obtain⟨s1',hya,hyb⟩:∃s1',VC P ops oj s s1'/\VC P ops oi s1' s2:=by
   rcases hcp with hcp|hls;exact ZcI hR.refs hap hcp hy hy2;exact Zrn hD hD2 hG hi hoj hr hj hap hls hy hy2
  have hfree':∀k ok,ops[k]? = some ok->k≠i->(listed.setIfInBounds j true).getD k true=false->
    (∀e∈ok.after,JG md e=true->e.on≠i)->oi.apart ops ok=true/\(compat oi.op ok.op=true\/lsB md ops root D D2 oi ok=true):=λk ok hk hki hun hno=>by
   refine hfree k ok hk hki ?_ hno
   by_cases hjk:j=k
   ·subst hjk;exact hjun
   ·rw[getD_set_ne true hjk]at hun;exact hun
  refine⟨oj,s1',hoj,hya,ih (listed.setIfInBounds j true) s1' s2 (Vx hR hya) (hG.next k1 k2 hoj hj hya) hfree' (ready_mono hr (KT hji)) hyb ?_⟩;rw[Array.setIfInBounds_comm _ _ hji];exact h1
def ZqN (md:JF) (ops:Array Oper) (root:Nat->Nat) (D D2:List (Nat×Nat)) (listed:Array Bool) (i:Nat):Bool:=
 match ops[i]? with
 |none=>false
 |some oi=>(Kd ops.size).all λj=>j==i||listed.getD j true||match ops[j]? with
   |some oj=>oj.after.any (λe=>JG md e&&e.on==i)||(oi.apart ops oj&&(compat oi.op oj.op||lsB md ops root D D2 oi oj))
   |none=>true
theorem Zb0 {root:Nat->Nat} {D D2:List (Nat×Nat)} {i:Nat} {oi:Oper} {listed:Array Bool} (hi:ops[i]? = some oi) (h:ZqN md ops root D D2 listed i=true) (j:Nat) (oj:Oper)
  (hj:ops[j]? = some oj) (hne:j≠i) (hun:listed.getD j true=false) (hno:∀e∈oj.after,JG md e=true->e.on≠i):
  oi.apart ops oj=true/\(compat oi.op oj.op=true\/lsB md ops root D D2 oi oj=true):=by
 simp only[ZqN,hi,Jg,Kl]at h;have h1:=h j (Je.1 hj).1;simp only[hj,JH,beq_iff_eq,hne,false_or,hun,J4]at h1;rcases h1 with h1|h1;obtain⟨e,he,hb⟩:=J3.1 h1;simp only[Jh,beq_iff_eq]at hb;exact absurd hb.2 (hno e he hb.1);simpa using h1
def Gw (md:JF) (ops:Array Oper) (root:Nat->Nat) (D D2:List (Nat×Nat)):Nat->Nat->Array Bool->Bool
 |0,_,listed=>(Jw md ops listed).isEmpty
 |fuel+1,k,listed=>(Jw md ops listed).contains k&&ZqN md ops root D D2 listed k&&Gw md ops root D D2 fuel (k+1) (listed.setIfInBounds k true)
def Zh3 (D:List (Nat×Nat)) (ops:Array Oper) (D2:List (Nat×Nat):= []):Bool:=
 Gw .any ops (Zix ops ops.size) D D2 ops.size 0 (Jl ops.size false)&&(Zoa .any ops (Zix ops ops.size)&&Zhf ops.toList)
theorem Zc0 {root:Nat->Nat} {D D2:List (Nat×Nat)} {s0:St} (hD:∀p∈D,∀r∈(s0.fr p.1).dids,r∉(s0.fr p.2).dids) (hD2:∀p∈D2,∀r∈(s0.fr p.1).dids,r≠ .b p.2) (k1:Zoa md ops root=true) (k2:Zhf ops.toList=true) {K:St->Prop}:
  ∀(l:List Oper) (k:Nat) (listed:Array Bool) (s:St),RefsD s->Good ops root s0 listed s->(∀j,l[j]? = ops[k+j]?)->
  Gw md ops root D D2 l.length k listed=true->ZoZ P ops K l s->Zp0 P md ops K l.length listed s
 | [],_,_,_,_,_,_,hB,h=>⟨by simpa[Gw]using hB,h⟩
 |o::l,k,listed,s,hR,hG,hl,hB,h=>by
  have h0:ops[k]? = some o:=by simpa using(hl 0).symm
  simp only[Ka,Gw,Jh]at hB;obtain⟨⟨hr,hf⟩,hB'⟩:=hB;obtain⟨hd,h⟩:=h;have hr':k∈Jw md ops listed:=by simpa using hr
  have hl':∀j,l[j]? = ops[(k+1)+j]? :=λj=>by have:=hl (j+1);simpa[Kv,KA 1 j]using this
  rcases h with ⟨hg,v,m',hst,hrest⟩|⟨hg,hrest⟩
  ·have hy:VC P ops o s ((s.with m').put o.dst v):=⟨hd,.inl ⟨hg,v,m',hst,rfl⟩⟩;exact ZbG hD hD2 k1 k2 h0 l.length listed s _ hR hG (Zb0 h0 hf) hr' hy (Zc0 hD hD2 k1 k2 l (k+1) _ _ (Vx hR hy) (hG.next k1 k2 h0 hr' hy) hl' hB' hrest)
  have hy:VC P ops o s (s.put o.dst (.tup [])):=⟨hd,.inr ⟨hg,rfl⟩⟩;exact ZbG hD hD2 k1 k2 h0 l.length listed s _ hR hG (Zb0 h0 hf) hr' hy (Zc0 hD hD2 k1 k2 l (k+1) _ _ (Vx hR hy) (hG.next k1 k2 h0 hr' hy) hl' hB' hrest)
def apartB (s:St) (D:List (Nat×Nat)):Bool:=D.all λp=>(s.fr p.1).dids.all λr=> !((s.fr p.2).dids.contains r)
def ZqG (s:St) (D:List (Nat×Nat)):Bool:=D.all λp=>(s.fr p.1).dids.all λr=>decide (r≠ .b p.2)
theorem Zlg {id:Nat} {Q:Exit->St->Prop} {s:St} (D D2:List (Nat×Nat)) (hm:P.follows .mixedOrders=true) (hB:Zh3 D ops D2=true) (hD:apartB s D=true) (hE:ZqG s D2=true) (h:ZoZ P ops (Q .normal) ops.toList s):awp P (.region id ops true) Q s:=λB S M a w hs=>by
 refine wp_region_any hm ?_;have he:Ext B S S w { w with drawn:=w.drawn+1 }:=⟨JC _,λ_ _=>⟨λ_=>rfl,rfl⟩,(JL B w).drew⟩;have hs':Sim B S M s a { w with drawn:=w.drawn+1 }:=hs.world rfl;simp only[Zh3,Jh]at hB;obtain⟨hB,k1,k2⟩:=hB;have hD':∀p∈D,∀r∈(s.fr p.1).dids,r∉(s.fr p.2).dids:=λp hp r hr hr'=>by
  have:=Jg.1 (Jg.1 hD p hp) r hr;simp only[Kz,List.contains_eq_mem,decide_eq_false_iff_not]at this;exact this hr'
 have hE':∀p∈D2,∀r∈(s.fr p.1).dids,r≠ .b p.2:=λp hp r hr=>by
  have:=Jg.1 (Jg.1 hE p hp) r hr;simpa using this
 have hG:Good ops (Zix ops ops.size) s (Jl ops.size false) s:=⟨λ_ _=>rfl,λk o d x hk _ _ hl=>by
  exfalso;simp only[Jb,Jy]at hl;split at hl<;>simp at hl,λk o d hk _ _ hl=>by
  exfalso;simp only[Jb,Jy]at hl;split at hl<;>simp at hl⟩
 have:=Zc0 (P:=P) (K:=Q .normal) (md:= .any) hD' hE' k1 k2 ops.toList 0 (Jl ops.size false) s hs.refsD hG (by simp) (by simpa using hB) h;have:=Gf (B:=B) (S0:=S) (w0:=w) (Qc:=λe a' w'=>∃s' S' M',Q e s'/\Sim B S' M' s' a' w'/\Ext B S S' w w') (λs' S' M' a' w' h1 h2 h3=>⟨s',S',M',h1,h2,h3⟩) _ _ s this S M a _ hs' he;simpa using this
theorem Zlh {id:Nat} {Q:Exit->St->Prop} {s:St} (D:List (Nat×Nat)) (hm:P.follows .mixedOrders=true) (hB:Zh3 D ops=true) (hD:apartB s D=true) (h:ZoZ P ops (Q .normal) ops.toList s):awp P (.region id ops true) Q s:=Zlg D [] hm hB hD rfl h
theorem Zf1 {id:Nat} {l:List Oper} {Q:Exit->St->Prop} {s:St} (D:List (Nat×Nat)) (hm:P.follows .mixedOrders=true) (hB:Zh3 D l.toArray=true) (hD:apartB s D=true) (h:@vA P false ⟨@vQ ⟨Q⟩ .normal⟩ ⟨l⟩ ⟨l⟩ s):awp P (.region id l.toArray true) Q s:=
 Zlh D hm hB hD (by rw[List.toList_toArray];exact DC l s h)
end
end Go.PL
namespace Go.PL
open Go.RowKit
section
variable {P:Program} {s:St} {Q:Exit->St->Prop}
def mkStO (n:Nat) (L:List (Nat×PV)) (H:List (Nat×List PV×Bool)) (R:List (Nat×Row)) (O:List (Nat×MapC)) (I:List (Nat×IterC)):St:=
 { fr:=Yz L λ_=> .any,m:= { h:=Yz (H.map λx=>(x.1,some x.2.1)) λ_=>none,z:=Yz (H.map λx=>(x.1,x.2.2)) λ_=>false,q:=Yz (R.map λx=>(x.1,some x.2)) λ_=>none,o:=Yz (O.map λx=>(x.1,some x.2)) λ_=>none,it:=Yz (I.map λx=>(x.1,some x.2)) λ_=>none,om:=λ_=>none,v:=λ_=>none,ph:=λ_=>none,pq:=λ_=>none,vm:=λ_=>false },n:=n }
structure HasO (n:Nat) (L:List (Nat×PV)) (H:List (Nat×List PV×Bool)) (R:List (Nat×Row)) (O:List (Nat×MapC)) (I:List (Nat×IterC)) (s:St):Prop where
 b:Has n L H R s
 o:∀x∈O,s.m.o x.1=some x.2
 it:∀x∈I,s.m.it x.1=some x.2
theorem TT {α:Type} (O:List (Nat×α)) (f:Nat->Option α) (h:∀x∈O,f x.1=some x.2) (i:Nat):Yz (O.map λx=>(x.1,some x.2)) (λ_=>none) i=none\/Yz (O.map λx=>(x.1,some x.2)) (λ_=>none) i=f i:=by
 have m1:(O.map λx=>(x.1,some x.2)).map (·.1)=O.map (·.1):=by simp
 by_cases hi:(O.map (·.1)).contains i=true;right;refine Yg (R:=λi v=>v=f i) (λx hx=> ?_) (by rw[m1];exact hi);obtain⟨y,hy,rfl⟩:=Jc.1 hx;exact(h y hy).symm;exact .inl (X5 (by rw[m1];simpa using hi))
theorem HasO.weak {n:Nat} {L:List (Nat×PV)} {H:List (Nat×List PV×Bool)} {R:List (Nat×Row)} {O:List (Nat×MapC)} {I:List (Nat×IterC)} (h:HasO n L H R O I s):Weak (mkStO n L H R O I) s:=
 ⟨h.b.weak.n,h.b.weak.fr,h.b.weak.h,h.b.weak.q,TT O s.m.o h.o,TT I s.m.it h.it,λ_=> .inl rfl,λ_=> .inl rfl,λ_=> .inl rfl,λ_=> .inl rfl⟩
theorem Refs.mkStO {n:Nat} {L:List (Nat×PV)} {H:List (Nat×List PV×Bool)} {R:List (Nat×Row)} {O:List (Nat×MapC)} {I:List (Nat×IterC)} (h:Fa L H R):Refs (mkStO n L H R O I):=by
 have k:=Refs.mkSt (n:=n) h;have lv:∀r,ZX (PL.mkSt n L H R).m r->ZX (PL.mkStO n L H R O I).m r:=λr hr=>by cases r<;>exact hr
 exact⟨λi r hr=>lv r (k.fr i r hr),λi cs hi c hc r hr=>lv r (k.h i cs hi c hc r hr),λi es hi=>(by cases hi),λb c hc=>(by cases hc)⟩
def ZqD {ι:Type} (n:Nat) (L:ι->List (Nat×PV)) (H:ι->List (Nat×List PV×Bool)) (R:ι->List (Nat×Row)) (O:ι->List (Nat×MapC)) (I:ι->List (Nat×IterC)) (μ:ι->Nat) (i:ι) (s':St):Prop:=∃j,μ j<μ i/\HasO n (L j) (H j) (R j) (O j) (I j) s'
def Zsv {ι:Type} (n:Nat) (L:ι->List (Nat×PV)) (H:ι->List (Nat×List PV×Bool)) (R:ι->List (Nat×Row)) (O:ι->List (Nat×MapC)) (I:ι->List (Nat×IterC)) (s':St):Prop:=∃j,HasO n (L j) (H j) (R j) (O j) (I j) s'
theorem Zqv {c:Code} {ι:Type} (n:Nat) (L:ι->List (Nat×PV)) (H:ι->List (Nat×List PV×Bool)) (R:ι->List (Nat×Row)) (O:ι->List (Nat×MapC)) (I:ι->List (Nat×IterC)) (μ:ι->Nat) (i0:ι)
  (h0:HasO n (L i0) (H i0) (R i0) (O i0) (I i0) s) (hr:∀i,Fa (L i) (H i) (R i))
  (round:∀i,@vC P ⟨c⟩ ⟨Xj (ZqD n L H R O I μ i) Q⟩ (mkStO n (L i) (H i) (R i) (O i) (I i))):awp P (.loop c) Q s:=
 Tp (λi=>mkStO n (L i) (H i) (R i) (O i) (I i)) μ i0 h0.weak (λ_ i=>Refs.mkStO (hr i)) λi=>YR (λe s' h=>by
  cases e with
  |normal=>obtain⟨j,hj,hm⟩:=h;exact⟨j,hj,hm.weak⟩
  |_=>exact h) (Z3 _ _ _ (round i))
theorem ZrU {c:Code} {ι:Type} (n:Nat) (L:ι->List (Nat×PV)) (H:ι->List (Nat×List PV×Bool)) (R:ι->List (Nat×Row)) (O:ι->List (Nat×MapC)) (I:ι->List (Nat×IterC)) (μ:ι->Nat) (l:Nat) (z:Code) (hf:findLabel c l=some (.seq .skip z)) (hr:∀i,Fa (L i) (H i) (R i))
  (pass:∀i,@vC P ⟨z⟩ ⟨WE (D3 l (ZqD n L H R O I μ i)) Q⟩ (mkStO n (L i) (H i) (R i) (O i) (I i)))
  (first:(∀j s',HasO n (L j) (H j) (R j) (O j) (I j) s'->awp P z (WE (D3 l (Zsv n L H R O I)) Q) s')-> @vC P ⟨c⟩ ⟨WE (D3 l (Zsv n L H R O I)) Q⟩ s):awp P (.scope c) Q s:=by
 have sk:∀ {Q:Exit->St->Prop} {s:St},awp P z Q s->awp P (.seq .skip z) Q s:=λh=>FK (Fe h)
 have passA:∀i,awp P (.seq .skip z) (WE (λl' s'=>∃j,l=l'/\μ j<μ i/\Weak (mkStO n (L j) (H j) (R j) (O j) (I j)) s') Q) (mkStO n (L i) (H i) (R i) (O i) (I i)):=λi=>
  sk (YR (λe s' h=>by
   cases e with
   |goto l'=>obtain⟨rfl,j,hj,hm⟩:=h;exact⟨j,rfl,hj,hm.weak⟩
   |_=>exact h) (Z3 _ _ _ (pass i)))
 refine Gj (λ_:ι=>l) (λ_=> .seq .skip z) (λi=>mkStO n (L i) (H i) (R i) (O i) (I i)) μ (λ_=>hf) (λ_ i=>Refs.mkStO (hr i)) (λi _=>passA i) λcut=> ?_
 have key:=first λj s' hs' B S M a w hsim=>by
  have hp:=Z3 _ _ _ (pass j) B S M a w (hsim.weak hs'.weak (Refs.mkStO (hr j)));refine wp_mono hp λe a' w' ⟨s1,S1,M1,h1,h2,h3⟩=>⟨s1,S1,M1,?_,h2,h3⟩
  cases e with
  |goto l'=>obtain⟨e,j,_,hm⟩:=h1;exact⟨e,j,hm⟩
  |_=>exact h1
 refine YR (λe s' h=> ?_) (Z3 _ _ _ key);cases e with
 |goto l'=>obtain⟨rfl,j,hm⟩:=h;exact⟨j,rfl,hm.weak⟩
 |_=>exact h
theorem Zli {c:Code} (i d:Nat) (es:List PV) (hi:s.fr i= .sl (.row d) es) (h:awp P c Q { s with fr:=upd s.fr i (.sl .no es) }):awp P c Q s:=λB S M a w hs=>by
 have hrow:=hs.fr i;rw[hi]at hrow;have key:Rep S (a.tmps.getD i undef) (.sl .no es):=hrow.sl_inv;refine h B S M a w ⟨hs.defers,hs.hn,hs.hB,hs.stable,λk=> ?_,λk r hr=> ?_,hs.blk,hs.row,hs.inj,hs.injq,hs.injx,hs.rm,hs.vc,hs.pn,hs.hz⟩;show RepS _ _ _ _ (upd s.fr i (.sl .no es) k);by_cases e:i=k;subst e;rw[Za];exact .clean key;rw[Zk _ _ e];exact hs.fr k;have hr':r∈(upd s.fr i (.sl .no es) k).ids:=hr;by_cases e:i=k;subst e;rw[Za]at hr';simp[JA]at hr';rw[Zk _ _ e]at hr';exact hs.ids k r hr'
def St.initO (args:List PV) (n b:Nat) (c:MapC):St:=⟨VN 0 args,⟨λ_=>none,λ_=>false,λ_=>none,upd (λ_=>none) b (some c),λ_=>none,λ_=>none,λ_=>none,λ_=>none,λ_=>none,λ_=>false⟩,n⟩
def Zr3 (P:Program) (rs:List ResultVar) (r:PV) (b:Nat) (c':MapC):Exit->St->Prop
 | .normal,s=>ZaY P r s [] rs/\s.m.o b=some c'
 | .ret,s=>ZaY P r s [] rs/\s.m.o b=some c'
 |_,_=>False
def Zrj (P:Program) (rs:List ResultVar) (r:PV):Exit->St->Prop
 | .normal,s=>∃r',ZaY P r' s [] rs/\r=r'.shut s.m.o
 | .ret,s=>∃r',ZaY P r' s [] rs/\r=r'.shut s.m.o
 |_,_=>False
def ZsM (t:Nat) (r:Nat->PV) (c:MapC):Exit->St->Prop
 | .ret,s=>∃b id cs,s.fr t= .ptr id 0/\s.m.h id=some cs/\JN cs= []/\s.m.o b=some c/\r b= .rptr cs
 |_,_=>False
theorem ZhO (rs:List ResultVar) (r:PV) (b:Nat) (c':MapC) (s:St):@vQ ⟨Zr3 P rs r b c'⟩ .ret s=(ZaY P r s [] rs/\s.m.o b=some c'):=rfl
theorem Zbn (rs:List ResultVar) (r:PV) (b:Nat) (c':MapC) (s:St):@vQ ⟨Zr3 P rs r b c'⟩ .normal s=(ZaY P r s [] rs/\s.m.o b=some c'):=rfl
theorem ZhL (rs:List ResultVar) (r:PV) (s:St):@vQ ⟨Zrj P rs r⟩ .ret s= ∃r',ZaY P r' s [] rs/\r=r'.shut s.m.o:=rfl
theorem Zbk (rs:List ResultVar) (r:PV) (s:St):@vQ ⟨Zrj P rs r⟩ .normal s= ∃r',ZaY P r' s [] rs/\r=r'.shut s.m.o:=rfl
theorem ZhJ (t:Nat) (r:Nat->PV) (c:MapC) (s:St):@vQ ⟨ZsM t r c⟩ .ret s= ∃b id cs,s.fr t= .ptr id 0/\s.m.h id=some cs/\JN cs= []/\s.m.o b=some c/\r b= .rptr cs:=rfl
theorem Zij {S:Stable} {vs:List Value} {args:List PV} {n:Nat} (hl:vs.length=args.length) (hr:∀i,i<args.length->Rep S (vs.getD i undef) (args.getD i .any)) (i:Nat):
  Rep S (((⟨vs⟩:Array Value)++Jl (n-vs.length) undef).getD i undef) (VN 0 args i):=by
 rw[VO args 0 i (Km _),KB];by_cases hi:i<args.length;have:=hr i hi;rw[getD_lt hi]at this ⊢;rw[getD_lt (by omega)]at this;have e:((⟨vs⟩:Array Value)++Jl (n-vs.length) undef).getD i undef=vs[i]'(by omega):=by
  rw[Jb,J5 (by simp;omega)];simp[show i<vs.length by omega]
 rw[e];exact this;rw[VJ (by omega)];have e:((⟨vs⟩:Array Value)++Jl (n-vs.length) undef).getD i undef=undef:=by
  rw[Jb,JV (by simp;omega)];simp only[Jy];split<;>rfl
 rw[e];exact .tup [] [] rfl (λi hi=>by simp at hi)
theorem Sk {B:Frm} {S:Stable} {w:World} {vs:List Value} {args:List PV} {n:Nat} {o:Nat->Option MapC} (hn:args.length<=n) (hl:vs.length=args.length) (hr:∀i,i<args.length->Rep S (vs.getD i undef) (args.getD i .any))
  (hB:∀k,B k->k<w.heap.size) (hst:Stab B S w o (λ_=>none)) (hz:∀k,¬B k->S.z k):
  Sim B S ⟨id,id,id⟩ ⟨VN 0 args,⟨λ_=>none,λ_=>false,λ_=>none,o,λ_=>none,λ_=>none,λ_=>none,λ_=>none,λ_=>none,λ_=>false⟩,n⟩ { tmps:=⟨vs⟩++Jl (n-vs.length) undef,defers:= [] } w:=by
 refine⟨rfl,?_,hB,hst,λi=> .clean (Zij hl hr i),λi id hid=>absurd hid ((Zij (n:=n) hl hr i).clean_ids id),λid cs hid=> ?_,λid r hid=> ?_,λid id' cs cs' hid=> ?_,λid id' r r' hid=> ?_,λid id' cs r hid=> ?_,λb c hid=> ?_,λi es hid=> ?_,⟨λ_ _ h=>by simp at h,λ_ _ _ _ h=>by simp at h⟩,hz⟩;simp;omega;simp at hid;simp at hid;simp at hid;simp at hid;simp at hid;simp at hid;simp at hid
theorem ZiQ {B:Frm} {S:Stable} {M:Maps} {s:St} {a:Act} {w:World} {fn:Func} {r:PV} {rs:List ResultVar} (hs:Sim B S M s a w) (hrs:fn.results=rs.toArray) (h:ZaY P r s [] rs):∃v,(results fn a.tmps).run P w= .ok v w/\Rep S v r:=by
 obtain⟨g1,g2,g3⟩:=TU (fn:=fn) rs [] h;have hl:fn.results.toList=rs:=by rw[hrs]
 have g1':Za7 (fn.results.toList.map (DU P s)):=by rw[hl];exact g1
 obtain⟨v,hv,hrv⟩:=Vr hs g1';rw[hl]at hrv;refine⟨v,hv,?_⟩;rw[g3];simp only[List.reverse_nil,List.nil_append]at g2 ⊢;exact hrv.give hs g2
theorem Wr.of_v {f:FuncId} {fn:Func} {c:Code} {args:Nat->List PV} {r:PV} {n:Nat} {rs:List ResultVar} {mc mc':MapC} (hf:P.funcs[f]? = some fn) (hname:fn.name≠ "runtime.NumGoroutine") (hb:fn.body=some c) (hn:fn.ntmps=n) (hrs:fn.results=rs.toArray) (hl:∀b,(args b).length<=n) (hi:r.dids= [])
  (h:∀b,@vC P ⟨c⟩ ⟨Zr3 P rs r b mc'⟩ (St.initO (args b) n b mc)):Wr P f args mc r mc':=by
 subst hn;refine⟨⟨fn,hf,hname,by rw[hb];rfl⟩,hi,λb w S vs hst hyo hzb hSb hmap hlen hr=> ?_⟩;refine calls_of_wp hf hb ?_;have hs:=Sk (B:=λk=>k<w.heap.size/\k≠b) (w:=w) (n:=fn.ntmps) (o:=upd (λ_=>none) b (some mc)) (hl b) hlen hr (λk hk=>hk.1)
  ⟨hst,λk d hd=>(by
   by_cases e:b=k
   ·subst e;rw[Za]at hd;cases hd;exact⟨λhh=>hh.2 rfl,hSb,hmap⟩
   ·rw[Zk _ _ e]at hd;cases hd),λk x hx=>(by cases hx)⟩
 have hsz:(⟨vs⟩:Array Value).size=vs.length:=by simp
 rw[hsz];have hs:=hs λk hk=>by
  by_cases e:k=b;rw[e];exact hzb;exact hyo k (Jv λhlt=>hk ⟨hlt,e⟩)
 refine wp_mono (Z3 _ _ _ (h b) _ S _ _ w hs) λe a' w' hq=> ?_
 obtain⟨s',S',M',h1,h2,h3⟩:=hq;have fin:ZaY P r s' [] rs/\s'.m.o b=some mc'->a'.defers= []/\ ∃v,(results fn a'.tmps).run P w'= .ok v w'/\ ∃v' S',Ending.returned v= .returned v'/\Rep S' v' r/\StabS S' w'/\SLe S S'/\(∀k,k<w.heap.size->k≠b->(∀o,S' k o=S k o)/\S'.m k=S.m k)/\S'.m b=none/\MapAt S' w' b mc'/\BelowF (λk=>k<w.heap.size/\k≠b) w w':=by
  rintro ⟨g1,g2⟩;obtain⟨v,hv,hrv⟩:=ZiQ h2 hrs g1;obtain⟨_,k2,k3⟩:=h2.stable.o b mc' g2;exact⟨h2.defers,v,hv,v,S',rfl,hrv,h2.stable.s,h3.1,λk hk hkb=>h3.2.1 k ⟨hk,hkb⟩,k2,k3,h3.2.2⟩
 cases e with
 |normal=>exact fin h1
 |ret=>exact fin h1
 |_=>exact h1.elim
theorem Pure.of_vs {f:FuncId} {fn:Func} {c:Code} {args:List PV} {r:PV} {n:Nat} {rs:List ResultVar} (hf:P.funcs[f]? = some fn) (hname:fn.name≠ "runtime.NumGoroutine") (hb:fn.body=some c) (hn:fn.ntmps=n) (hrs:fn.results=rs.toArray) (hl:args.length<=n) (hi:r.dids= [])
  (h:@vC P ⟨c⟩ ⟨Zrj P rs r⟩ (St.init args n)):Pure P f args r:=by
 subst hn;refine⟨⟨fn,hf,hname,by rw[hb];rfl⟩,hi,λw S vs hst hyo hlen hr=> ?_⟩;refine calls_of_wp hf hb ?_;have hs:=Sk (B:=λk=>k<w.heap.size) (w:=w) (n:=fn.ntmps) (o:=λ_=>none) hl hlen hr (λk hk=>hk) ⟨hst,λk d hd=>(by cases hd),λk x hx=>(by cases hx)⟩ (λk hk=>hyo k (Jv hk));have hsz:(⟨vs⟩:Array Value).size=vs.length:=by simp
 rw[hsz];refine wp_mono (Z3 _ _ _ h _ S _ _ w hs) λe a' w' hq=> ?_
 obtain⟨s',S',M',h1,h2,h3⟩:=hq;have fin:(∃r',ZaY P r' s' [] rs/\r=r'.shut s'.m.o)->a'.defers= []/\ ∃v,(results fn a'.tmps).run P w'= .ok v w'/\ ∃v' S',Ending.returned v= .returned v'/\Rep S' v' r/\StabS S' w'/\SLe S S'/\(∀b,b<w.heap.size->(∀o,S' b o=S b o)/\S'.m b=S.m b)/\Below w.heap.size w w':=by
  rintro ⟨r',g1,rfl⟩;obtain⟨v,hv,hrv⟩:=ZiQ h2 hrs g1;refine⟨h2.defers,v,hv,v,D8 S' w' s'.m.o,rfl,hrv.shut h2.stable,Zcr h2.stable,h3.1.trans (ZiA h2.stable),λk hk=>⟨(h3.2.1 k hk).1,?_⟩,h3.2.2.to⟩;rw[<-(h3.2.1 k hk).2];cases ho:s'.m.o k with
  |none=>simp[D8,ho]
  |some d=>exact absurd hk (h2.stable.o k d ho).1
 cases e with
 |normal=>exact fin h1
 |ret=>exact fin h1
 |_=>exact h1.elim
theorem Mk.of_v {f:FuncId} {fn:Func} {c:Code} {args:List PV} {r:Nat->PV} {n t:Nat} {mc:MapC} (hf:P.funcs[f]? = some fn) (hname:fn.name≠ "runtime.NumGoroutine") (hb:fn.body=some c) (hn:fn.ntmps=n) (hrs:fn.results= #[.tmp t]) (hl:args.length<=n) (hi:∀b,(r b).dids= [])
  (h:@vC P ⟨c⟩ ⟨ZsM t r mc⟩ (St.init args n)):Mk P f args r mc:=by
 subst hn;refine⟨⟨fn,hf,hname,by rw[hb];rfl⟩,hi,λw S vs hst hyo hlen hr=> ?_⟩;refine calls_of_wp hf hb ?_;have hs:=Sk (B:=λk=>k<w.heap.size) (w:=w) (n:=fn.ntmps) (o:=λ_=>none) hl hlen hr (λk hk=>hk) ⟨hst,λk d hd=>(by cases hd),λk x hx=>(by cases hx)⟩ (λk hk=>hyo k (Jv hk));have hsz:(⟨vs⟩:Array Value).size=vs.length:=by simp
 rw[hsz];refine wp_mono (Z3 _ _ _ h _ S _ _ w hs) λe a' w' hq=> ?_
 obtain⟨s',S',M',h1,h2,h3⟩:=hq;cases e with
 |ret=>
  obtain⟨b,id,cs,g1,g2,g3,g4,g5⟩:=h1;obtain⟨S2,k1,k2⟩:=h2.freeze g2 g3;have hgiv:(PV.ptr id 0).givable (s'.m.freeze id):=⟨Za _ _ _,by show s'.m.h id≠none;rw[g2];simp⟩;have hfr:=k1.fr t;have hfr':RepS S2 M' (s'.with (s'.m.freeze id)).m.q (a'.tmps.getD t undef) (.ptr id 0):=by
   have:(s'.with (s'.m.freeze id)).fr t= .ptr id 0:=g1;rw[this]at hfr;exact hfr
  have hrep:=hfr'.give k1 hgiv;have hgive:(PV.ptr id 0).give (s'.m.freeze id)= .rptr cs:=by
   have e1:(s'.m.freeze id).z id=true:=Za _ _ _;have e2:(s'.m.freeze id).h id=some cs:=g2;simp[PV.give,e1,e2]
  have hrep':Rep S2 (a'.tmps.getD t undef) (r b):=by rw[g5,<-hgive];exact hrep
  obtain⟨q1,q2,q3⟩:=k1.stable.o b mc g4;refine⟨h2.defers,a'.tmps.getD t undef,?_,a'.tmps.getD t undef,S2,b,rfl,Nat.not_lt.1 q1,hrep',k1.stable.s,h3.1.trans k2.1,λk hk=>⟨λo=>((k2.2.1 k hk).1 o).trans ((h3.2.1 k hk).1 o),(k2.2.1 k hk).2.trans (h3.2.1 k hk).2⟩,q2,q3,h3.2.2.to⟩;simp[results,hrs]
 |_=>exact h1.elim
def Zs5 (t u:Nat) (es:List PV) (c:PV) (sz:Nat) (e:TypeId):Exit->St->Prop
 | .ret,s=>∃k,s.fr t= .sl (.row k) es/\s.m.q k=some (.live es.length sz e)/\s.fr u=c
 |_,_=>False
theorem Zf3 (t u:Nat) (es:List PV) (c:PV) (sz:Nat) (e:TypeId) (s:St):@vQ ⟨Zs5 t u es c sz e⟩ .ret s= ∃k,s.fr t= .sl (.row k) es/\s.m.q k=some (.live es.length sz e)/\s.fr u=c:=rfl
end
attribute [go_sem] Zf3
attribute [go_sem] ZhO Zbn ZhL Zbk ZhJ mkStO St.initO
open Go.RowKit
def Plain (p q:PV):Prop:=q=p\/ ∃d es,p= .sl (.row d) es/\q= .sl .no es
theorem Plain.same {p q:PV} (h:p=q):Plain p q:= .inl h.symm
theorem Plain.row (d:Nat) (es:List PV):Plain (.sl (.row d) es) (.sl .no es):= .inr ⟨d,es,rfl,rfl⟩
structure WeakP (s' s:St):Prop where
 n:s'.n=s.n
 fr:∀i,s'.fr i= .any\/Plain (s.fr i) (s'.fr i)
 h:∀i,s'.m.h i=none\/(s'.m.h i=s.m.h i/\s'.m.z i=s.m.z i)
 q:∀i,s'.m.q i=none\/s'.m.q i=s.m.q i
 o:∀i,s'.m.o i=none\/s'.m.o i=s.m.o i
 it:∀i,s'.m.it i=none\/s'.m.it i=s.m.it i
 om:∀i,s'.m.om i=none\/s'.m.om i=s.m.om i
 v:∀i,s'.m.v i=none\/(s'.m.v i=s.m.v i/\s'.m.q i=s.m.q i)
 ph:∀i,s'.m.ph i=none\/(s'.m.ph i=s.m.ph i/\s'.m.h i=s.m.h i)
 pq:∀i,s'.m.pq i=none\/(s'.m.pq i=s.m.pq i/\s'.m.q i=s.m.q i)
section
variable {P:Program} {B:Frm} {S:Stable} {M:Maps} {s s':St} {a:Act} {w:World} {Q Q':Exit->St->Prop}
theorem Sim.weakP (hs:Sim B S M s a w) (hw:WeakP s' s) (hr:Refs s'):Sim B S M s' a w:=by
 classical
 let s1:St:= { s with fr:=λi=>if s'.fr i= .any then s.fr i else s'.fr i };have e1:∀i,s1.fr i=if s'.fr i= .any then s.fr i else s'.fr i:=λ_=>rfl
 have hs1:Sim B S M s1 a w:=by
  refine⟨hs.defers,hs.hn,hs.hB,hs.stable,λi=> ?_,λi r h=> ?_,hs.blk,hs.row,hs.inj,hs.injq,hs.injx,hs.rm,hs.vc,hs.pn,hs.hz⟩;rw[e1];split;exact hs.fr i;rcases hw.fr i with h|h|⟨d,es,h1,h2⟩;contradiction;rw[h];exact hs.fr i;rw[h2];have:=hs.fr i;rw[h1]at this;exact .clean this.sl_inv;rw[e1]at h;split at h;exact hs.ids i r h;rcases hw.fr i with h0|h0|⟨d,es,h1,h2⟩;contradiction;rw[h0]at h;exact hs.ids i r h;rw[h2]at h;simp[JA]at h
 refine hs1.weak ⟨hw.n,λi=> ?_,hw.h,hw.q,hw.o,hw.it,hw.om,hw.v,hw.ph,hw.pq⟩ hr;rw[e1];split;rename_i h;exact .inl h;exact .inr rfl
theorem Zc4 {c:Code} {ι:Type} (I:ι->St) (μ:ι->Nat) (i0:ι) (h0:WeakP (I i0) s) (hr:∀i,Refs (I i))
  (round:∀i,awp P c (Xj (λs'=>∃j,μ j<μ i/\WeakP (I j) s') Q) (I i)):awp P (.loop c) Q s:=λB S M a w hs=>by
 have key:∀(k:Nat) (i:ι),μ i<k-> ∀S1 M1 a1 w1,Sim B S1 M1 (I i) a1 w1->Ext B S S1 w w1->
   Code.rounds P c (λe a' w'=>∃s' S' M',Q e s'/\Sim B S' M' s' a' w'/\Ext B S S' w w') k a1 w1:=by
  intro k
  induction k with
  |zero=>intro i hi;omega
  |succ k ih=>
   intro i hi S1 M1 a1 w1 hs1 he1;rw[rounds_succ];refine wp_mono (round i B S1 M1 a1 w1 hs1) λe a' w' hq=> ?_
   obtain⟨s',S',M',h1,h2,h3⟩:=hq;cases e with
   |normal=>
    obtain⟨j,hj,hwk⟩:=h1;exact ih j (by omega) S' M' a' w' (h2.weakP hwk (hr j)) (he1.trans h3)
   |_=>exact⟨s',S',M',h1,h2,he1.trans h3⟩
 exact wp_loop_rounds (μ i0+1) (key _ i0 (Kb _) S M a w (hs.weakP h0 (hr i0)) (Jt _ _ _))
structure HasP (n:Nat) (L:List (Nat×PV)) (H:List (Nat×List PV×Bool)) (R:List (Nat×Row)) (s:St):Prop where
 n:s.n=n
 fr:∀x∈L,Plain (s.fr x.1) x.2
 h:∀x∈H,s.m.h x.1=some x.2.1/\s.m.z x.1=x.2.2
 q:∀x∈R,s.m.q x.1=some x.2
theorem HasP.weak {n:Nat} {L:List (Nat×PV)} {H:List (Nat×List PV×Bool)} {R:List (Nat×Row)} (h:HasP n L H R s):WeakP (mkSt n L H R) s:=by
 have hk:Has n [] H R s:=⟨h.n,λx hx=>(by cases hx),h.h,h.q⟩;refine⟨h.n.symm,λi=> ?_,hk.weak.h,hk.weak.q,λ_=> .inl rfl,λ_=> .inl rfl,λ_=> .inl rfl,λ_=> .inl rfl,λ_=> .inl rfl,λ_=> .inl rfl⟩;by_cases hi:(L.map (·.1)).contains i=true;exact .inr (Yg (R:=λi v=>Plain (s.fr i) v) (λx hx=>h.fr x hx) hi);exact .inl (X5 (by simpa using hi))
def Zu3 {ι:Type} (n:Nat) (L:ι->List (Nat×PV)) (H:ι->List (Nat×List PV×Bool)) (R:ι->List (Nat×Row)) (μ:ι->Nat) (i:ι) (s':St):Prop:=∃j,μ j<μ i/\HasP n (L j) (H j) (R j) s'
theorem Znu {c:Code} {ι:Type} (n:Nat) (L:ι->List (Nat×PV)) (H:ι->List (Nat×List PV×Bool)) (R:ι->List (Nat×Row)) (μ:ι->Nat) (i0:ι)
  (h0:HasP n (L i0) (H i0) (R i0) s) (hr:∀i,Fa (L i) (H i) (R i))
  (round:∀i,@vC P ⟨c⟩ ⟨Xj (Zu3 n L H R μ i) Q⟩ (mkSt n (L i) (H i) (R i))):awp P (.loop c) Q s:=
 Zc4 (λi=>mkSt n (L i) (H i) (R i)) μ i0 h0.weak (λi=>Refs.mkSt (hr i)) λi=>YR (λe s' h=>by
  cases e with
  |normal=>obtain⟨j,hj,hm⟩:=h;exact⟨j,hj,hm.weak⟩
  |_=>exact h) (Z3 _ _ _ (round i))
end
def WC (n:Int):Nat:=FloatKind.f64.nearest n
theorem Zow (way:Ieee.Toward) (neg:Bool) (n:Nat):way.cut neg n 0=n:=by
 unfold Ieee.Toward.cut;simp only[Nat.zero_min,JI,Nat.div_one,Nat.mod_one];cases way<;>simp
theorem Zfa (neg:Bool) (m:Nat) (h0:m≠0) (h:m.log2<=52):Ieee.double.nearest neg m 0=Ieee.double.word neg ((m.log2+1022)*2 ^ 52+m <<< (52-m.log2)):=by
 unfold Ieee.Format.nearest;rw[if_neg h0];have e1:Ieee.double.leastPlace= -1074:=by decide
 have e2:(Ieee.double.fractionBits:Int)=52:=rfl;have e3:Ieee.double.binade=2 ^ 52:=rfl;have e4:Ieee.double.infRung=2047*2 ^ 52:=by decide
 have e5:max (0+(m.log2:Int)-(Ieee.double.fractionBits:Int)) Ieee.double.leastPlace=(m.log2:Int)-52:=by rw[e1,e2];omega
 rw[e1]at e5;simp only[e1,e3,e4,e5];have t1:(0-((m.log2:Int)-52)).toNat=52-m.log2:=by omega
 have t2:((m.log2:Int)-52-0).toNat=0:=by omega
 have t3:((m.log2:Int)-52 - -1074).toNat=m.log2+1022:=by omega
 rw[t1,t2,t3,Zow];have hlt:m<2 ^ (m.log2+1):=KG;have hs:m <<< (52-m.log2)<2 ^ 53:=by
  rw[Jo]
  calc m*2 ^ (52-m.log2)<2 ^ (m.log2+1)*2 ^ (52-m.log2):=JW hlt (JT _)
   _=2 ^ 53:=by rw[<-KL];congr 1;omega
 congr 1;rw[KN];omega
theorem ZmF (neg:Bool) (rung:Nat) (h1:2 ^ 52<=rung) (h2:rung<2047*2 ^ 52):Ieee.double.read (Ieee.double.word neg rung)= .number neg (2 ^ 52+rung % 2 ^ 52) (-1074+(rung / 2 ^ 52-1:Nat)):=by
 have e1:Ieee.double.leastPlace= -1074:=by decide
 have e3:Ieee.double.binade=2 ^ 52:=rfl;have e4:Ieee.double.infRung=2047*2 ^ 52:=by decide
 have e5:Ieee.double.signWeight=2 ^ 63:=rfl;unfold Ieee.Format.read Ieee.Format.word;cases neg;simp only[J4,if_false,e1,e3,e4,e5];have d1:rung / 2 ^ 63=0:=by omega
 have d2:rung % 2 ^ 63=rung:=by omega
 rw[d1,d2,if_neg (by omega),if_pos h2];rfl;simp only[if_true,e1,e3,e4,e5];have d1:(2 ^ 63+rung) / 2 ^ 63=1:=by omega
 have d2:(2 ^ 63+rung) % 2 ^ 63=rung:=by omega
 rw[d1,d2,if_neg (by omega),if_pos h2];rfl
theorem Zdz (n:Int) (h:n.natAbs<2 ^ 53):∃p:Int,p<=0/\FloatKind.f64.decode (WC n)= .number (decide (n<0)) (n.natAbs <<< (-p).toNat) p:=by
 show ∃p:Int,p<=0/\Ieee.double.read (Ieee.double.nearest (decide (n<0)) n.natAbs 0)=_;by_cases h0:n=0;subst h0;exact⟨-1074,by omega,by decide+kernel⟩;have hm:n.natAbs≠0:=by omega
 have hl:n.natAbs.log2<=52:=by
  have:n.natAbs.log2<53:=(Nat.log2_lt hm).2 h;omega
 rw[Zfa _ _ hm hl];generalize n.natAbs=m at *;have hlt:m<2 ^ (m.log2+1):=KG;have hge:2 ^ m.log2<=m:=Nat.log2_self_le hm;have hs:m <<< (52-m.log2)<2 ^ 53:=by
  rw[Jo]
  calc m*2 ^ (52-m.log2)<2 ^ (m.log2+1)*2 ^ (52-m.log2):=JW hlt (JT _)
   _=2 ^ 53:=by rw[<-KL];congr 1;omega
 have hs2:2 ^ 52<=m <<< (52-m.log2):=by
  rw[Jo]
  calc 2 ^ 52=2 ^ m.log2*2 ^ (52-m.log2):=by rw[<-KL];congr 1;omega
   _<=m*2 ^ (52-m.log2):=Jm _ hge
 generalize hsg:m <<< (52-m.log2)=sg at *;rw[ZmF _ _ (by omega) (by omega)];refine⟨(m.log2:Int)-52,by omega,?_⟩;have t1:(-((m.log2:Int)-52)).toNat=52-m.log2:=by omega
 have t2:2 ^ 52+((m.log2+1022)*2 ^ 52+sg) % 2 ^ 52=sg:=by omega
 have t3:(-1074:Int)+(((m.log2+1022)*2 ^ 52+sg) / 2 ^ 52-1:Nat)=(m.log2:Int)-52:=by omega
 rw[t1,hsg,t2,t3]
theorem ZaJ (n:Int) (k:Nat):Ieee.signed (decide (n<0)) (n.natAbs <<< k) 0=n*2 ^ k:=by
 unfold Ieee.signed;rw[JI,Jo];by_cases h:n<0;simp only[h,decide_true,if_true];have:(n.natAbs:Int)= -n:=by omega
 push_cast
 rw[this,Int.neg_mul,Int.neg_neg];simp only[h,decide_false,J4,if_false];have:(n.natAbs:Int)=n:=by omega
 push_cast
 rw[this]
theorem ZfH (neg:Bool) (m k:Nat):Ieee.signed neg m k=Ieee.signed neg (m <<< k) 0:=rfl
theorem Zc6 (a b:Int) (k:Nat):compare (a*2 ^ k) (b*2 ^ k)=compare a b:=by
 have hp:(0:Int)<2 ^ k:=Int.pow_pos (by omega);rcases Int.lt_trichotomy a b with h|h|h;rw[KC.2 h,KC.2 (JX h hp)];subst h;simp;rw[KD.2 h,KD.2 (JX h hp)]
theorem Sh (a b:Int) (ha:a.natAbs<2 ^ 53) (hb:b.natAbs<2 ^ 53):FloatKind.f64.format.order (WC a) (WC b)=some (compare a b):=by
 obtain⟨p,p0,hp⟩:=Zdz a ha;obtain⟨q,q0,hq⟩:=Zdz b hb;unfold FloatKind.decode at hp hq;unfold Ieee.Format.order;rw[hp,hq];simp only[Ieee.Datum.order];congr 1;rw[ZfH _ _ (p-min p q).toNat,ZfH _ _ (q-min p q).toNat,<-KE,<-KE];have e1:(-p).toNat+(p-min p q).toNat=(-(min p q)).toNat:=by omega
 have e2:(-q).toNat+(q-min p q).toNat=(-(min p q)).toNat:=by omega
 rw[e1,e2,ZaJ,ZaJ,Zc6]
theorem Zlq (neg:Bool) (m k:Nat):Ieee.Toward.zero.cut neg (m <<< k) k=m:=by
 unfold Ieee.Toward.cut;by_cases hm:m=0;subst hm;simp;have h:k<=(m <<< k).log2:=by
  have hne:m <<< k≠0:=by rw[Jo];exact Nat.mul_ne_zero hm (by have:=JT k;omega)
  rw[Nat.le_log2 hne,Jo];exact Nat.le_mul_of_pos_left _ (by omega)
 rw[KN (by omega),Jo m,Jo 1,Ko];simp only[Nat.mul_div_cancel _ (JT k)];simp
theorem Zab (n:Int) (h:n.natAbs<2 ^ 53):(FloatKind.f64.decode (WC n)).integral .zero= .number (decide (n<0)) n.natAbs 0:=by
 obtain⟨p,p0,hp⟩:=Zdz n h;rw[hp];simp only[Ieee.Datum.integral];have e:p.toNat=0:=by omega
 rw[e,JI,Zlq]
theorem ZiI (n:Int) (h:n.natAbs<2 ^ 53):(FloatKind.f64.decode (WC n)).toInt .zero=some n:=by
 unfold Ieee.Datum.toInt;rw[Zab n h];simp only;have:=ZaJ n 0;rw[JI]at this;rw[this];simp
theorem ZpK (n:Int) (h:n.natAbs<2 ^ 53):FloatKind.f64.encode ((FloatKind.f64.decode (WC n)).integral .zero)=WC n:=by
 rw[Zab n h];rfl
theorem Zmn (n:Int) (h:n.natAbs<2 ^ 53):∃s m p,FloatKind.f64.decode (WC n)= .number s m p:=by
 obtain⟨p,_,hp⟩:=Zdz n h;exact⟨_,_,_,hp⟩
open Go.RowKit
def ZoB:Nat->Code->Code
 |0,c=>c
 |k+1,.seq _ b=>ZoB k b
 |_+1,c=>c
def Zqt (P:Program) (Q1:St->Prop):Nat->Code->St->Prop
 |0,_,s=>Q1 s
 |k+1,.seq a b,s=>awp P a (Xj (Zqt P Q1 k b) λ_ _=>False) s
 |_+1,_,_=>False
theorem Vs {P:Program} {Q1:St->Prop} {k:Nat} {a b:Code} {s:St} (h:@vC P ⟨a⟩ ⟨Xj (Zqt P Q1 k b) λ_ _=>False⟩ s):Zqt P Q1 (k+1) (.seq a b) s:=Z3 _ _ _ h
theorem ZpD {P:Program} {Q1:St->Prop} {c:Code} {s:St} (h:Q1 s):Zqt P Q1 0 c s:=h
theorem Dy {P:Program} {Q1:St->Prop} {Φ:Exit->Act->World->Prop} {B:Frm} {S0:Stable} {w0:World}:∀(k:Nat) (c:Code) (s:St) (S:Stable) (M:Maps) (a:Act) (w:World),Zqt P Q1 k c s->Sim B S M s a w->Ext B S0 S w0 w->
  (∀s' S' M' a' w',Q1 s'->Sim B S' M' s' a' w'->Ext B S0 S' w0 w'->(ZoB k c).wp P Φ a' w')->c.wp P Φ a w
 |0,c,s,S,M,a,w,h,hs,hx,hk=>hk s S M a w h hs hx
 |k+1,.seq x y,s,S,M,a,w,h,hs,hx,hk=>by
  refine wp_seq (wp_mono (h B S M a w hs) λe a' w' hq=> ?_);obtain⟨s',S',M',h1,h2,h3⟩:=hq;cases e with
  |normal=>exact Dy k y s' S' M' a' w' h1 h2 (hx.trans h3) hk
  |_=>exact absurd h1 id
 |k+1,.skip,s,S,M,a,w,h,_,_,_=>absurd h id
 |k+1,.label _,s,S,M,a,w,h,_,_,_=>absurd h id
 |k+1,.ret,s,S,M,a,w,h,_,_,_=>absurd h id
 |k+1,.exit _,s,S,M,a,w,h,_,_,_=>absurd h id
 |k+1,.goto _,s,S,M,a,w,h,_,_,_=>absurd h id
 |k+1,.block _ _,s,S,M,a,w,h,_,_,_=>absurd h id
 |k+1,.loop _,s,S,M,a,w,h,_,_,_=>absurd h id
 |k+1,.scope _,s,S,M,a,w,h,_,_,_=>absurd h id
 |k+1,.cond _ _ _,s,S,M,a,w,h,_,_,_=>absurd h id
 |k+1,.region _ _ _,s,S,M,a,w,h,_,_,_=>absurd h id
structure Flat (α:Type) [Inhabited α] where
 p:α->PV
 v:α->List Value
 sz:Nat
 pos:0<sz
 hp:∀x,(p x).cells.length=sz
 hv:∀x,(v x).length=sz
 to:∀(S:Stable) x j u,j<sz->Rep S u ((p x).cells.getD j .any)->u=(v x).getD j undef
 of:∀(S:Stable) x j,j<sz->Rep S ((v x).getD j undef) ((p x).cells.getD j .any)
def DI {α:Type} [Inhabited α] (F:Flat α) (w:World) (lo:Nat) (xs:List α) (v:Value):Prop:=
 (xs.length=0/\v= .slice none 0 0)\/ ∃b c e vs,lo<=b/\v= .slice (some ⟨b,0,none⟩) xs.length c/\xs.length<=c/\w.heap[b]? = some (.cells ⟨vs⟩ e (0,0))/\xs.length*F.sz<=vs.length/\
  ∀i j,i<xs.length->j<F.sz->vs.getD (i*F.sz+j) undef=(F.v (xs.getD i default)).getD j undef
section
variable {P:Program} {B:Frm} {S:Stable} {M:Maps} {s:St} {a:Act} {w:World} {α:Type} [Inhabited α]
theorem Zri (F:Flat α) {i d n:Nat} {e:TypeId} {xs:List α} {lo:Nat} (hs:Sim B S M s a w) (hlo:∀k,k<lo->B k) (hi:s.fr i= .sl (.row d) (xs.map F.p)) (hq:s.m.q d=some (.live n F.sz e)) (hn:xs.length=n):DI F w lo xs (a.tmps.getD i undef):=by
 have hf:=hs.fr i;rw[hi]at hf;have ho:=hs.row d _ hq;obtain⟨o1,o2⟩:=ho;generalize a.tmps.getD i undef=v at hf;cases hf with
 |clean r=>cases r
 |row _ _ _ r t=>
  obtain⟨_,t2⟩:=t n F.sz e hq;obtain⟨t3,t4⟩:=t2 (by rw[Kh];exact hn);cases hk:M.κ d with
  |zero=>exact .inl ⟨by rw[hn];exact o1 hk,t3 hk⟩
  |succ c=>
   obtain⟨p1,p2,p3,⟨vs,p4,p5⟩,p6⟩:=o2 c hk;have hv:=t4 c hk;refine .inr ⟨M.ψ d,c,e,vs,?_,by rw[hn];exact hv,by omega,p4,?_,λi j hi hj=> ?_⟩
   ·exact Jv λh=>p3 (hlo _ h)
   ·rw[p5,hn];exact Jm _ p1
   ·rw[hv]at r;generalize hes:xs.map F.p=es at r;cases r with
    |sl0=>
     have:xs.length=0:=by
      have:=congrArg List.length hes;simpa using this
     omega
    |sl b o cap sz es vals hsz hcap hS hR=>
     have hlen:es.length=xs.length:=by rw[<-hes];simp
     have hi':i<es.length:=by omega
     have hcell:es.getD i .any=F.p (xs.getD i default):=by
      rw[<-hes,getD_lt (l:=xs.map F.p) (by simpa using hi),getD_lt hi];simp
     have hsz':sz=F.sz:=by have:=hsz i hi';rw[hcell,F.hp]at this;exact this.symm
     subst hsz';have hst:=hs.stable.s.c _ _ _ (hS i j hi' hj);have hr:=hR i j hi' hj;rw[hcell]at hr;have hval:=F.to S _ j _ hj hr;rw[<-hval];have hidx:i*F.sz+j<vs.length:=by
      have q1:(i+1)*F.sz<=c*F.sz:=Jm _ (by omega);rw[Kx]at q1;omega
     rw[XH p4]at hst;rw[KF]at hst;rw[Jz hidx]at hst;rw[getD_lt hidx];exact J6.inj hst
theorem Pure.tail (F:Flat α) {f:FuncId} {fn:Func} {c:Code} {args:List PV} {r:PV} (k i d N:Nat) {Q1:St->Prop} (G:List α->Prop) (g:List α->List α) (hf:P.funcs[f]? = some fn) (hname:fn.name≠ "runtime.NumGoroutine") (hb:fn.body=some c) (hl:args.length<=fn.ntmps) (hi:r.dids= [])
  (h1:Zqt P Q1 k c (St.init args fn.ntmps))
  (hQ:∀s,Q1 s-> ∃xs e,G xs/\s.n=N/\s.fr i= .sl (.row d) (xs.map F.p)/\s.m.q d=some (.live xs.length F.sz e))
  (h2:∀xs lo (a:Act) (w:World),G xs->a.defers= []->a.tmps.size=N->DI F w lo xs (a.tmps.getD i undef)->lo<=w.heap.size->
   (ZoB k c).wp P (λex a' w'=>(ex= .normal\/ex= .ret)/\a'.defers= []/\ ∃v',(results fn a'.tmps).run P w'= .ok v' w'/\DI F w' lo (g xs) v'/\BelowF (λk=>k<lo) w w') a w)
  (hr:∀xs,G xs->r= .sl .no ((g xs).map F.p)):Pure P f args r:=by
 refine⟨⟨fn,hf,hname,by rw[hb];rfl⟩,hi,λw S vs hst hyo hlen hrep=> ?_⟩;refine calls_of_wp hf hb ?_;have hs:=Sk (B:=λk=>k<w.heap.size) (w:=w) (n:=fn.ntmps) (o:=λ_=>none) hl hlen hrep (λk hk=>hk) ⟨hst,λb c hc=>by simp at hc,λb x hx=>by simp at hx⟩ (λk hk=>hyo k (Jv hk));have hsz:(⟨vs⟩:Array Value).size=vs.length:=by simp
 rw[hsz];refine Dy (B:=λk=>k<w.heap.size) (S0:=S) (w0:=w) k c _ S _ _ w h1 hs (Jt _ _ _) λs' S' M' a' w' hq hs' hx=> ?_
 obtain⟨xs,e,hg,hsn,hfr,hrow⟩:=hQ s' hq;have hsize:w.heap.size<=w'.heap.size:=hx.2.2.size;have hraw:=Zri F (lo:=w.heap.size) hs' (λk hk=>hk) hfr hrow rfl;have hn:a'.tmps.size=N:=by rw[hs'.hn,hsn]
 refine wp_mono (h2 xs w.heap.size a' w' hg hs'.defers hn hraw hsize) λex a2 w2 ⟨hex,hdf,v',hv',hrr,hbl⟩=> ?_
 have hr':=hr xs hg;have hbel:BelowF (λk=>k<w.heap.size) w w2:=hx.2.2.trans hbl;have fin:∃v S',Ending.returned v'= .returned v/\Rep S' v r/\StabS S' w2/\SLe S S'/\(∀b,b<w.heap.size->(∀o,S' b o=S b o)/\S'.m b=S.m b)/\Below w.heap.size w w2:=by
  rw[hr'];have hold:StabS S w2:=⟨λb o u h=>by
   have h1:=hst.c b o u h;have hbl:=De h1;rw[Kq (w:=w) (hbel.block b hbl)];exact h1,λb es h=>by
   have h1:=hst.m b es h;have hbl:=(Je.1 h1).1;rw[hbel.block b hbl];exact h1,λb h=>by
   obtain⟨vs1,t1,h1⟩:=hst.y b h;exact⟨vs1,t1,by rw[hbel.block b (Je.1 h1).1];exact h1⟩⟩
  rcases hrr with ⟨h0,hv0⟩|⟨b,c',e',us,hb1,hb2,hb3,hb4,hb5,hb6⟩;refine⟨v',S,rfl,?_,hold,JC S,λb _=>⟨λ_=>rfl,rfl⟩,hbel.to⟩;have:g xs= []:=List.length_eq_zero_iff.1 h0;rw[this,hv0];exact .sl0 none 0;let S2:Stable:=⟨λb' o=>if b'=b/\o<(g xs).length*F.sz then some (us.getD o undef)else S b' o,S.m,S.z,S.y⟩;have fresh:∀o,S b o=none:=λo=>by
   cases hc:S b o with
   |none=>rfl
   |some u=>have:=De (hst.c b o u hc);omega
  refine⟨v',S2,rfl,?_,⟨λb' o u h=> ?_,λb' es h=>hold.m b' es h,hold.y⟩,⟨λb' o u h=> ?_,λb' es h=>h,rfl,λ_ h=>h⟩,λb' hb'=>⟨λo=> ?_,rfl⟩,hbel.to⟩;rw[hb2];have hmap:((g xs).map F.p).length=(g xs).length:=by simp
  rw[<-hmap];refine .sl b 0 c' F.sz _ (λi j=>us.getD (i*F.sz+j) undef) (λi hi=> ?_) (by rw[hmap];exact hb3) (λi j hi hj=> ?_) (λi j hi hj=> ?_);rw[hmap]at hi;rw[getD_lt (l:=(g xs).map F.p) (by simpa using hi),KI,F.hp];rw[hmap]at hi;show(if b=b/\0+i*F.sz+j<(g xs).length*F.sz then some (us.getD (0+i*F.sz+j) undef)else S b (0+i*F.sz+j))=_;have q1:(i+1)*F.sz<=(g xs).length*F.sz:=Jm _ (by omega);rw[Kx]at q1;rw[if_pos ⟨rfl,by omega⟩,KF];rw[hmap]at hi;have e1:((g xs).map F.p).getD i .any=F.p ((g xs).getD i default):=by
   rw[getD_lt (l:=(g xs).map F.p) (by simpa using hi),getD_lt hi];simp
  rw[e1];show Rep _ (us.getD (i*F.sz+j) undef) _;rw[hb6 i j hi hj];exact F.of _ _ _ hj;have h9:(if b'=b/\o<(g xs).length*F.sz then some (us.getD o undef)else S b' o)=some u:=h;clear h;by_cases hc:b'=b/\o<(g xs).length*F.sz;rw[if_pos hc]at h9;rw[hc.1,XH hb4,Jz (by omega),<-h9,getD_lt (by omega)];rw[if_neg hc]at h9;exact hold.c b' o u h9;show(if b'=b/\o<(g xs).length*F.sz then some (us.getD o undef)else S b' o)=some u;have:b'≠b:=λe=>by subst e;rw[fresh o]at h;cases h
  rw[if_neg (λhc=>this hc.1)];exact h;show(if b'=b/\o<(g xs).length*F.sz then some (us.getD o undef)else S b' o)=S b' o;rw[if_neg (λhc=>by have:=hc.1;omega)]
 rcases hex with rfl|rfl;exact⟨hdf,v',hv',fin⟩;exact⟨hdf,v',hv',fin⟩
end
open Go.RowKit
section
variable {P:Program} {a:Act} {w:World} {Q:Exit->Act->World->Prop}
theorem GV {o:Oper} {ops:Array Oper} {i:Nat} {rest:List Nat} (ho:ops[i]? = some o) (hg:o.guard=none) (h:o.wp P a w (wpOps P ops Q rest) Q):wpOps P ops Q (i::rest) a w:=by
 unfold wpOps;rw[ho];have hw:KZ o (yielded ops a.tmps)=true:=by simp[KZ,hg]
 simp only[hw,if_true];exact .inl h
theorem ZnN {dst:Option Tmp} {x:Operand} {ty:TypeId} {pos:String} {after:Array Edge} {next:Act->World->Prop} (h:next (a.put dst (a.eval x)) w):(Oper.mk dst (.move x) ty pos after none).wp P a w next Q:=by
 have hr:(execOp a.eval (Oper.mk dst (.move x) ty pos after none)).run P w= .ok (.value (a.eval x)) w:=by simp[execOp,K1]
 unfold Oper.wp;rw[hr];exact h
theorem ZnM {dst:Option Tmp} {x:Operand} {ty:TypeId} {pos:String} {after:Array Edge} {next:Act->World->Prop} (h:next (a.put dst (a.eval x)) w):(Oper.mk dst (.assign x) ty pos after none).wp P a w next Q:=by
 have hr:(execOp a.eval (Oper.mk dst (.assign x) ty pos after none)).run P w= .ok (.value (a.eval x)) w:=by simp[execOp,K1]
 unfold Oper.wp;rw[hr];exact h
theorem ZiV {f:FuncId} {fn:Func} {dst:Option Tmp} {xs:List Operand} {ts:Array TypeId} {ty:TypeId} {pos:String} {after:Array Edge} {next:Act->World->Prop} (hf:P.funcs[f]? = some fn) (hn:fn.name≠ "runtime.NumGoroutine") (hb:fn.body≠none)
  (h:Calls P f ⟨xs.map a.eval⟩ w λe w'=>∃v,e= .returned v/\next (a.put dst v) w'):(Oper.mk dst (.call ⟨.value (.func f),⟨xs⟩,ts⟩) ty pos after none).wp P a w next Q:=by
 have hr:(execOp a.eval (Oper.mk dst (.call ⟨.value (.func f),⟨xs⟩,ts⟩) ty pos after none)).run P w= .ok (.enter f ⟨xs.map a.eval⟩) w:=by
  simp[execOp,resolve,Deferred.ofValue,Act.eval,invoke,callFunc,program,K1,hf,hb,hn]
 unfold Oper.wp;rw[hr];show Calls P f ⟨xs.map a.eval⟩ w _;refine h.mono λe w' h=> ?_
 obtain⟨v,rfl,h2⟩:=h;exact h2
end
open Go.RowKit
section
variable {P:Program} {a:Act} {w:World} {Q:Exit->Act->World->Prop}
theorem Zf9 {i1 i2:Nat} {s t1 t2 t3 t4 r N sf cf:Nat} {fn fn':Func} {y1 y2 y3 y4 y5:TypeId} {ts ts':Array TypeId} {p1 p2 p3 p4 p5:String} {q1 q2 q3 q4 q5:Array Edge} {Φ:Exit->Act->World->Prop}
  (hN:a.tmps.size=N) (b1:t1<N) (b2:t2<N) (b3:t3<N) (b4:t4<N) (b5:r<N) (n1:t1≠s) (n2:t2≠s) (hf:P.funcs[sf]? = some fn) (hn:fn.name≠ "runtime.NumGoroutine") (hb:fn.body≠none) (hf':P.funcs[cf]? = some fn') (hn':fn'.name≠ "runtime.NumGoroutine") (hb':fn'.body≠none)
  (h:Calls P sf #[a.tmps.getD s undef] w λe w'=>∃v,e= .returned v/\Calls P cf #[a.tmps.getD s undef] w' λe w''=>∃u,e= .returned u/\ ∀a',a'.defers=a.defers->a'.tmps.getD r undef=u->Φ .ret a' w''):
  (Code.seq (.region i1 #[Oper.mk (some t1) (.move (.tmp s)) y1 p1 q1 none,Oper.mk (some t2) (.call ⟨.value (.func sf),#[.tmp t1],ts⟩) y2 p2 q2 none] false)
   (.seq (.region i2 #[Oper.mk (some t3) (.move (.tmp s)) y3 p3 q3 none,Oper.mk (some t4) (.call ⟨.value (.func cf),#[.tmp t3],ts'⟩) y4 p4 q4 none,Oper.mk (some r) (.assign (.tmp t4)) y5 p5 q5 none] false) .ret)).wp P Φ a w:=by
 refine wp_seq (wp_region ?_);refine GV rfl rfl (ZnN ?_);refine GV rfl rfl (ZiV (xs:= [.tmp t1]) hf hn hb ?_);have e1:(a.put (some t1) (a.eval (.tmp s))).eval (.tmp t1)=a.tmps.getD s undef:=by
  simp[Act.put,Act.eval,hN,b1]
 have e2:(⟨K8 (a.put (some t1) (a.eval (.tmp s))).eval [.tmp t1]⟩:Array Value)= #[a.tmps.getD s undef]:=by
  simp only[J7,JY,e1]
 rw[e2];refine h.mono λe w' ⟨v,he,hk⟩=>⟨v,he,?_⟩
 show(Exit.then _ Φ) .normal _ _;refine wp_seq (wp_region ?_);refine GV rfl rfl (ZnN ?_);refine GV rfl rfl (ZiV (xs:= [.tmp t3]) hf' hn' hb' ?_);have e3:(⟨K8 (((((a.put (some t1) (a.eval (.tmp s))).put (some t2) v).put (some t3) (((a.put (some t1) (a.eval (.tmp s))).put (some t2) v).eval (.tmp s))))).eval [.tmp t3]⟩:Array Value)= #[a.tmps.getD s undef]:=by
  simp[Act.put,Act.eval,hN,b1,b2,b3,Jb,JD,n1,n2]
 rw[e3];refine hk.mono λe w'' ⟨u,he,hk⟩=>⟨u,he,?_⟩
 refine GV rfl rfl (ZnM ?_);show(Exit.then _ Φ) .normal _ _;refine wp_ret (hk _ rfl ?_);simp[Act.put,Act.eval,hN,b1,b2,b3,b4,b5,Jb,JD]
end
open Go.RowKit
inductive Pub (K:Ref->Prop) (m:Hp):PV->PV->Prop
 |keep (p:PV) (h:∀i∈p.ids,K i):Pub K m p p
 |row (id:Nat) (es:List PV):Pub K m (.sl (.row id) es) (.sl .no es)
 |rowf (id n sz:Nat) (e:TypeId) (es:List PV) (hq:m.q id=some (.live n sz e)) (hn:es.length=n):Pub K m (.sl (.row id) es) (.sl .fr es)
 |vecf (id n sz:Nat) (es es':List PV) (hv:m.v id=some es) (hn:es.length=n) (h:Pub K m (.vsl id n sz) (.sl .no es')):Pub K m (.vsl id n sz) (.sl .fr es')
 |vec (id n sz:Nat) (es es':List PV) (hk:¬K (.r id)) (hv:m.v id=some es) (hn:es.length=n) (hl:es'.length=es.length) (hc:∀p∈es',p.ids= []) (h:∀i,i<es.length->Pub K m (es.getD i .any) (es'.getD i .any)):Pub K m (.vsl id n sz) (.sl .no es')
 |blk (id off:Nat) (cs cs':List PV) (hk:¬K (.b id)) (hh:m.h id=some cs) (hz:m.z id=false) (hl:cs'.length=cs.length) (hc:∀p∈cs',p.ids= []) (h:∀i,i<cs.length->Pub K m (cs.getD i .any) (cs'.getD i .any)):Pub K m (.ptr id off) (.rptr (cs'.drop off))
 |frozen (id off:Nat) (cs:List PV) (hh:m.h id=some cs) (hz:m.z id=true):Pub K m (.ptr id off) (.rptr (cs.drop off))
 |agg (cs cs':List PV) (hl:cs'.length=cs.length) (h:∀i,i<cs.length->Pub K m (cs.getD i .any) (cs'.getD i .any)):Pub K m (.agg cs) (.agg cs')
 |tup (cs cs':List PV) (hl:cs'.length=cs.length) (h:∀i,i<cs.length->Pub K m (cs.getD i .any) (cs'.getD i .any)):Pub K m (.tup cs) (.tup cs')
 |fn (f:FuncId) (cs cs':List PV) (hl:cs'.length=cs.length) (h:∀i,i<cs.length->Pub K m (cs.getD i .any) (cs'.getD i .any)):Pub K m (.fn f cs) (.fn f cs')
theorem Pub.clean {K:Ref->Prop} {m:Hp} {p:PV} (h:p.ids= []):Pub K m p p:= .keep p (by rw[h];simp)
theorem Pub.vec0 {K:Ref->Prop} {m:Hp} {id n sz:Nat} {es:List PV} (hk:¬K (.r id)) (hv:m.v id=some es) (hn:es.length=n) (hc:∀p∈es,p.ids= []):Pub K m (.vsl id n sz) (.sl .no es):=
 .vec id n sz es es hk hv hn rfl hc λi hi=> .clean (hc _ (Ze hi))
theorem Pub.agg_of {K:Ref->Prop} {m:Hp} {cs:List PV} {p:PV} (h:Pub K m (.agg cs) p):∃cs',p= .agg cs'/\cs'.length=cs.length:=by
 cases h with
 |keep _ h=>exact⟨cs,rfl,rfl⟩
 |agg _ cs' hl h=>exact⟨cs',rfl,hl⟩
theorem Pub.not_agg {K:Ref->Prop} {m:Hp} {p p':PV} (h:Pub K m p p') (hp:∀cs,p≠ .agg cs):p.cells= [p]/\p'.cells= [p']:=by
 cases h with
 |keep _ h=>cases p<;>first|exact⟨rfl,rfl⟩|exact absurd rfl (hp _)
 |agg cs=>exact absurd rfl (hp _)
 |_=>exact⟨rfl,rfl⟩
section
variable {P:Program} {B:Frm} {S:Stable} {M:Maps} {s:St} {a:Act} {w:World}
def Zph (K:Ref->Prop) (M:Maps) (m:Hp) (b:Nat):Prop:=
 (∃id es,m.v id=some es/\ ¬K (.r id)/\0<M.κ id/\M.ψ id=b)\/ ∃id cs,m.h id=some cs/\m.z id=false/\ ¬K (.b id)/\M.φ id=b
open Classical in
noncomputable def pubS (K:Ref->Prop) (S:Stable) (M:Maps) (m:Hp) (w:World):Stable:=⟨λb o=>if Zph K M m b then w.cell? ⟨b,o,none⟩else S b o,S.m,S.z,λb=>S.y b\/ ∃id r,m.q id=some r/\r.own=true/\0<M.κ id/\M.ψ id=b⟩
theorem Zhl {K:Ref->Prop} {m:Hp} {b o:Nat} (h:Zph K M m b):(pubS K S M m w).c b o=w.cell? ⟨b,o,none⟩:=by simp[pubS,h]
theorem Si {K:Ref->Prop} {m:Hp} {b o:Nat} (h:¬Zph K M m b):(pubS K S M m w).c b o=S b o:=by simp[pubS,h]
theorem Zfu {K:Ref->Prop} (hs:Sim B S M s a w) {b:Nat} (h:Zph K M s.m b):¬B b/\(∀o,S b o=none):=by
 rcases h with ⟨id,es,h1,_,h3,rfl⟩|⟨id,cs,h1,h2,_,rfl⟩;obtain⟨sz,e,q⟩:=hs.vec_q h1;obtain⟨_,g⟩:=hs.row id _ q;obtain⟨_,_,g3,_,g5⟩:=g (M.κ id-1) (by omega);exact⟨g3,g5⟩;obtain⟨g1,g2,_⟩:=hs.own h1 h2;exact⟨g1,g2⟩
theorem Dt {K:Ref->Prop} (hs:Sim B S M s a w):SLe S (pubS K S M s.m w):= .cells rfl (λb o v hv=>by
 rw[Si];exact hv;intro h;rw[(Zfu hs h).2 o]at hv;cases hv) rfl λb h=> .inl h
theorem Zfv {K:Ref->Prop} (hs:Sim B S M s a w):StabS (pubS K S M s.m w) w:=⟨λb o v hv=>by
 by_cases h:Zph K M s.m b;rw[Zhl h]at hv;exact hv;rw[Si h]at hv;exact hs.stable b o v hv,hs.stable.s.m,λb hb=>by
 rcases hb with hb|⟨id,r,h1,h2,h3,rfl⟩;exact hs.stable.s.y b hb;have h4:=hs.row id r h1;cases r with
 |dead=>cases h2
 |live n sz e=>obtain⟨_,_,_,⟨vs,h5,_⟩,_⟩:=h4.2 (M.κ id-1) (by omega);exact⟨_,_,h5⟩
 |vec n sz e=>obtain⟨_,_,_,⟨vs,h5,_⟩,_⟩:=h4.2 (M.κ id-1) (by omega);exact⟨_,_,h5⟩⟩
theorem Zqk {K:Ref->Prop} (hs:Sim B S M s a w) {b:Nat} (h:B b):(∀o,(pubS K S M s.m w).c b o=S b o)/\(pubS K S M s.m w).m b=S.m b:=
 ⟨λo=>Si λhp=>(Zfu hs hp).1 h,rfl⟩
theorem Pub.rep {K:Ref->Prop} (hs:Sim B S M s a w) {p p':PV} (hp:Pub K s.m p p'):∀v,RepS S M s.m.q v p->RepS (pubS K S M s.m w) M s.m.q v p':=by
 have mono:∀ {v p},RepS S M s.m.q v p->RepS (pubS K S M s.m w) M s.m.q v p:=λr=>r.heap (Dt hs) (λ_ _=>rfl) (λ_ _=> .refl _ _ _)
 -- a row of cells,element by element
 have cells:∀ {e e':PV} {us:List Value},Pub K s.m e e'->(∀v,RepS S M s.m.q v e->RepS (pubS K S M s.m w) M s.m.q v e')->us.length=e.cells.length->(∀j,j<e.cells.length->RepS S M s.m.q (us.getD j undef) (e.cells.getD j .any))->
   e'.cells.length=e.cells.length/\ ∀j,j<e.cells.length->RepS (pubS K S M s.m w) M s.m.q (us.getD j undef) (e'.cells.getD j .any):=by
  intro e e' us hp ih hl hr
  by_cases he:∃cs,e= .agg cs
  ·obtain⟨cs,rfl⟩:=he;obtain⟨cs',rfl,hl'⟩:=hp.agg_of;obtain⟨us',e1,e2,e3⟩:=(ih (.agg ⟨us⟩) (.agg us cs hl hr)).agg_inv;simp only[Value.agg.injEq,K9.injEq]at e1;subst e1;exact⟨hl',λj hj=>e3 j (by simp only[K4]at hj;omega)⟩
  ·obtain⟨c1,c2⟩:=hp.not_agg (λcs e=>he ⟨cs,e⟩);rw[c1]at hl hr ⊢;rw[c2];refine⟨rfl,λj hj=> ?_⟩;have hj0:j=0:=by simpa using hj
   subst hj0;exact ih _ (hr 0 hj)
 induction hp with
 |keep p h=>exact λv r=>mono r
 |row id es=>exact λv r=> .clean ((r.sl_inv).mono (Dt hs))
 |rowf id n sz e es hq hn=>
  intro v r;refine .clean (.slf v es ((r.sl_inv).mono (Dt hs)) λb o n' c hv hpos=> ?_);obtain⟨o1,o2⟩:=hs.row id _ hq;obtain⟨t1,t2⟩:=r.row_tok n sz e hq;obtain⟨t3,t4⟩:=t2 hn;cases hκ:M.κ id with
  |zero=>rw[t3 hκ]at hv;cases hv
  |succ c0=>
   rw[t4 c0 hκ]at hv;cases hv;exact⟨hs.hz _ (o2 _ hκ).2.2.1,.inr ⟨id,_,hq,rfl,by omega,rfl⟩⟩
 |vecf id n sz es es' hv hn h ih=>
  intro v r;have r1:=ih v r;refine .clean (.slf v es' r1.sl_inv λb o n' c hvv hpos=> ?_);subst hn;obtain⟨sz',e,q1,_⟩:=hs.vc id es hv;obtain⟨_,t⟩:=r.vsl_inv;obtain⟨_,t2⟩:=t _ _ _ q1;obtain⟨rfl,t3,t4⟩:=t2 rfl;obtain⟨o1,o2⟩:=hs.row id _ q1;cases hκ:M.κ id with
  |zero=>rw[t3 hκ]at hvv;cases hvv
  |succ c0=>
   rw[t4 c0 hκ]at hvv;cases hvv;exact⟨hs.hz _ (o2 _ hκ).2.2.1,.inr ⟨id,_,q1,rfl,by omega,rfl⟩⟩
 |vec id n sz es es' hk hv hn hl hc h ih=>
  intro v r;subst hn;obtain⟨sz',e,q1,r1,r2,r4⟩:=hs.vc id es hv;obtain⟨_,t⟩:=r.vsl_inv;obtain⟨_,t2⟩:=t _ _ _ q1;obtain⟨rfl,t3,t4⟩:=t2 rfl;obtain⟨o1,o2⟩:=hs.row id _ q1;cases hκ:M.κ id with
  |zero=>
   have h0:=o1 hκ;rw[t3 hκ,List.eq_nil_of_length_eq_zero (hl.trans h0)];exact .clean (.sl0 none 0)
  |succ c=>
   obtain⟨k1,k2,k3,⟨vs,k5,k6⟩,k4⟩:=o2 c hκ;have k7:=r4 c hκ vs e (0,0) k5;have hb:Zph K M s.m (M.ψ id):= .inl ⟨id,es,hv,hk,by omega,rfl⟩;have ix:∀ {i j},i<es.length->j<sz'->i*sz'+j<vs.length:=λ{i j} hi hj=>by
    rw[k6]
    calc i*sz'+j<i*sz'+sz':=by omega
     _=(i+1)*sz':=by rw[KM,Ko]
     _<=c*sz':=Jm _ (by omega)
   have el:∀i,i<es.length->(es'.getD i .any).cells.length=sz'/\ ∀j,j<sz'->RepS (pubS K S M s.m w) M s.m.q (vs.getD (i*sz'+j) undef) ((es'.getD i .any).cells.getD j .any):=λi hi=>by
    have hlen:=(r1 _ (Ze (d:= .any) hi)).1;have:=cells (us:=(vs.drop (i*sz')).take sz') (h i hi) (ih i hi) (by
     rw[hlen,JB,Jp];have:i*sz'+sz'<=vs.length:=by
      rw[k6]
      calc i*sz'+sz'=(i+1)*sz':=by rw[KM,Ko]
       _<=c*sz':=Jm _ (by omega)
     omega) (λj hj=>by
     rw[Xx (by omega),XM];exact k7 i j hi (by omega))
    obtain⟨a1,a2⟩:=this;refine⟨a1.trans hlen,λj hj=> ?_⟩;have:=a2 j (by omega);rw[Xx hj,XM]at this;exact this
   rw[t4 c hκ];have hsl:Rep (pubS K S M s.m w) (.slice (some ⟨M.ψ id,0,none⟩) es'.length c) (.sl .no es'):=
    .sl (M.ψ id) 0 c sz' es' (λi j=>vs.getD (i*sz'+j) undef) (λi hi=>(el i (by omega)).1) (by omega) (λi j hi hj=>by
     rw[Zhl hb,XH k5,KF,Jz (ix (by omega) hj),getD_lt (ix (by omega) hj)]) (λi j hi hj=>by
     refine((el i (by omega)).2 j hj).alone ?_;have hid:=hc _ (Ze (d:= .any) hi);cases hids:((es'.getD i .any).cells.getD j .any).ids with
     |nil=>rfl
     |cons x xs=>
      have:=YB (p:=es'.getD i .any) (Ze (d:= .any) (by rw[(el i (by omega)).1];exact hj)) (k:=x) (by rw[hids];simp);rw[hid]at this;cases this)
   rw[hl]at hsl;exact .clean hsl
 |blk id off cs cs' hk hh hz hl hc h ih=>
  intro v r;rw[r.ptr_inv];obtain⟨g1,g2,⟨vs,t,g3,g4,g5⟩,g6⟩:=hs.own hh hz;have hb:Zph K M s.m (M.φ id):= .inr ⟨id,cs,hh,hz,hk,rfl⟩;refine .clean (.rptr (M.φ id) off _ (λj=>vs.getD (off+j) undef) (λj hj=> ?_) (λj hj=> ?_));simp only[Jp]at hj;rw[Zhl hb,XH g3,Jz (by omega),getD_lt (by omega)];simp only[Jp]at hj;rw[XM];exact(ih (off+j) (by omega) _ (g5 (off+j) (by omega))).alone (hc _ (Ze (by omega)))
 |frozen id off cs hh hz=>
  intro v r;have:=(r.give hs ⟨hz,by rw[hh];simp⟩);simp only[PV.give,hz,hh]at this;exact .clean (this.mono (Dt hs))
 |agg cs cs' hl h ih=>
  intro v r;obtain⟨vs,rfl,hl',hr⟩:=r.agg_inv;exact .agg vs cs' (by omega) λi hi=>ih i (by omega) _ (hr i (by omega))
 |tup cs cs' hl h ih=>
  intro v r;obtain⟨vs,rfl,hl',hr⟩:=r.tup_inv;exact .tup vs cs' (by omega) λi hi=>ih i (by omega) _ (hr i (by omega))
 |fn f cs cs' hl h ih=>
  intro v r;obtain⟨vs,rfl,hl',hr⟩:=r.fn_inv;exact .fn f vs cs' (by omega) λi hi=>ih i (by omega) _ (hr i (by omega))
theorem Pub.cells_shape {K:Ref->Prop} {m:Hp} {p p':PV} (h:Pub K m p p'):p'.cells.length=p.cells.length/\(p.cells.all KU=true->p'.cells.all KU=true):=by
 have at1:∀ {x y:PV},Pub K m x y->x.atom=true->y.atom=true:=λh hx=>by
  cases h<;>first|exact hx|rfl|(simp[KU]at hx)
 by_cases he:∃cs,p= .agg cs;obtain⟨cs,rfl⟩:=he;cases h with
 |keep _ h=>exact⟨rfl,λh=>h⟩
 |agg _ cs' hl h=>
  refine⟨hl,λhall=> ?_⟩;simp only[K4,Jg]at hall ⊢;intro y hy;obtain⟨i,hi,rfl⟩:=Ju hy;have:=h i (by omega);rw[getD_lt (by omega),getD_lt hi]at this;exact at1 this (hall _ (Kc _))
 obtain⟨c1,c2⟩:=h.not_agg (λcs e=>he ⟨cs,e⟩);rw[c1,c2];exact⟨rfl,λhx=>by simpa using at1 h (by simpa using hx)⟩
theorem Pub.cells_rep {K:Ref->Prop} (hs:Sim B S M s a w) {e e':PV} {us:List Value} (hp:Pub K s.m e e') (hl:us.length=e.cells.length) (hr:∀j,j<e.cells.length->RepS S M s.m.q (us.getD j undef) (e.cells.getD j .any)):
  ∀j,j<e.cells.length->RepS (pubS K S M s.m w) M s.m.q (us.getD j undef) (e'.cells.getD j .any):=by
 by_cases he:∃cs,e= .agg cs;obtain⟨cs,rfl⟩:=he;obtain⟨cs',rfl,hl'⟩:=hp.agg_of;obtain⟨us',e1,e2,e3⟩:=(hp.rep hs (.agg ⟨us⟩) (.agg us cs hl hr)).agg_inv;simp only[Value.agg.injEq,K9.injEq]at e1;subst e1;exact λj hj=>e3 j (by simp only[K4]at hj;omega)
 obtain⟨c1,c2⟩:=hp.not_agg (λcs e=>he ⟨cs,e⟩);rw[c1]at hl hr ⊢;rw[c2];intro j hj;have hj0:j=0:=by simpa using hj
 subst hj0;exact hp.rep hs _ (hr 0 hj)
def SY (P:Program) (r:PV) (s:St):List PV->List ResultVar->Prop
 |acc,[]=>r=ZnU acc.reverse
 |acc,.tmp t::rs=>SY P r s (s.fr t::acc) rs
 |acc,.cell t ty::rs=>tkn P ty=true/\(Un P ty (s.fr t) s.m).ok/\SY P r s ((Un P ty (s.fr t) s.m).v::acc) rs
theorem DB {r:PV} {s:St}:∀(rs:List ResultVar) (acc:List PV),SY P r s acc rs->
  Za7 (rs.map (DU P s))/\r=ZnU (acc.reverse++rs.map λx=>(DU P s x).v)
 | [],acc,h=>by simpa[SY,Za7]using h
 | .tmp t::rs,acc,h=>by
  obtain⟨h1,h2⟩:=DB rs _ h;exact⟨⟨trivial,h1⟩,by simpa[DU]using h2⟩
 | .cell t ty::rs,acc,h=>by
  obtain⟨h0,h0',h⟩:=h;obtain⟨h1,h2⟩:=DB rs _ h;refine⟨⟨?_,h1⟩,?_⟩;simpa[DU,h0]using h0';simpa[DU,h0]using h2
theorem Zf6 {fn:Func} {r:PV} {rs:List ResultVar} (hs:Sim B S M s a w) (hrs:fn.results=rs.toArray) (h:SY P r s [] rs):∃v,(results fn a.tmps).run P w= .ok v w/\RepS S M s.m.q v r:=by
 obtain⟨g1,g2⟩:=DB rs [] h;have hl:fn.results.toList=rs:=by rw[hrs]
 have g1':Za7 (fn.results.toList.map (DU P s)):=by rw[hl];exact g1
 obtain⟨v,hv,hrv⟩:=Vr hs g1';rw[hl]at hrv;refine⟨v,hv,?_⟩;rw[g2];simpa using hrv
def Zq9 (P:Program) (rs:List ResultVar) (r:PV):Exit->St->Prop
 | .normal,s=>∃r0,SY P r0 s [] rs/\Pub (λ_=>False) s.m r0 r
 | .ret,s=>∃r0,SY P r0 s [] rs/\Pub (λ_=>False) s.m r0 r
 |_,_=>False
theorem ZhK (rs:List ResultVar) (r:PV) (s:St):@vQ ⟨Zq9 P rs r⟩ .ret s= ∃r0,SY P r0 s [] rs/\Pub (λ_=>False) s.m r0 r:=rfl
theorem Zbj (rs:List ResultVar) (r:PV) (s:St):@vQ ⟨Zq9 P rs r⟩ .normal s= ∃r0,SY P r0 s [] rs/\Pub (λ_=>False) s.m r0 r:=rfl
def St.vms (s:St) (l:List Nat):St:=s.with { s.m with vm:=Yz (l.map λi=>(i,true)) λ_=>false }
theorem Zp2 {c:Code} {Q:Exit->St->Prop} (f:Nat->Bool) (h:awp P c Q (s.with { s.m with vm:=f })):awp P c Q s:=λB S M a w hs=>by
 have live:∀i,ZX s.m i->ZX { s.m with vm:=f } i:=λi h=>by cases i<;>exact h
 refine h B S M a w ⟨hs.defers,hs.hn,hs.hB,hs.stable,hs.fr,λi k hk=>live k (hs.ids i k hk),λi b hb=> ?_,hs.row,hs.inj,hs.injq,hs.injx,λb c hc=> ?_,λi es he=> ?_,⟨hs.pn.h,hs.pn.q⟩,hs.hz⟩;have hb':=hs.blk i b hb;show GX _ _ _ _ _ _ _ (s.m.z i);cases hz:s.m.z i with
 |false=>
  rw[hz]at hb';obtain⟨h1,h2,⟨us,t',h3,h4,h5⟩,h6⟩:=hb';exact⟨h1,h2,⟨us,t',h3,h4,h5⟩,λc hc k hk=>live k (h6 c hc k hk)⟩
 |true=>rw[hz]at hb';exact hb'
 obtain⟨g1,g2,g3,g4⟩:=hs.rm b c hc;exact⟨g1,g2,g3,g4.move (JC _) rfl (λv p r _=>r) live⟩;exact(hs.vc i es he).move (λ_ _ _ h=>h) rfl rfl (λ_=>rfl) (λv p r _=>r) live
theorem Pure.of_p (vm:List Nat) {f:FuncId} {fn:Func} {c:Code} {args:List PV} {r:PV} {n:Nat} {rs:List ResultVar} (hf:P.funcs[f]? = some fn) (hname:fn.name≠ "runtime.NumGoroutine") (hb:fn.body=some c) (hn:fn.ntmps=n) (hrs:fn.results=rs.toArray) (hl:args.length<=n) (hi:r.dids= [])
  (h:@vC P ⟨c⟩ ⟨Zq9 P rs r⟩ ((St.init args n).vms vm)):Pure P f args r:=by
 subst hn;refine⟨⟨fn,hf,hname,by rw[hb];rfl⟩,hi,λw S vs hst hyo hlen hr=> ?_⟩;refine calls_of_wp hf hb ?_;have hs:=Sk (B:=λk=>k<w.heap.size) (w:=w) (n:=fn.ntmps) (o:=λ_=>none) hl hlen hr (λk hk=>hk) ⟨hst,λk d hd=>(by cases hd),λk x hx=>(by cases hx)⟩ (λk hk=>hyo k (Jv hk));have hsz:(⟨vs⟩:Array Value).size=vs.length:=by simp
 rw[hsz];refine wp_mono (Zp2 _ (Z3 _ _ _ h) _ S _ _ w hs) λe a' w' hq=> ?_
 obtain⟨s',S',M',h1,h2,h3⟩:=hq;have fin:(∃r0,SY P r0 s' [] rs/\Pub (λ_=>False) s'.m r0 r)->a'.defers= []/\ ∃v,(results fn a'.tmps).run P w'= .ok v w'/\ ∃v' S',Ending.returned v= .returned v'/\Rep S' v' r/\StabS S' w'/\SLe S S'/\(∀b,b<w.heap.size->(∀o,S' b o=S b o)/\S'.m b=S.m b)/\Below w.heap.size w w':=by
  rintro ⟨r0,g1,g2⟩;obtain⟨v,hv,hrv⟩:=Zf6 h2 hrs g1;have hp:=(g2.rep h2 v hrv).alone (Jq.2 λk hk=>by have:=UZ _ hk;rw[hi]at this;cases this);refine⟨h2.defers,v,hv,v,_,rfl,hp,Zfv h2,h3.1.trans (Dt h2),λb hb=> ?_,h3.2.2.to⟩;obtain⟨q1,q2⟩:=Zqk (K:=λ_=>False) h2 (b:=b) hb;obtain⟨q3,q4⟩:=h3.2.1 b hb;exact⟨λo=>(q1 o).trans (q3 o),q2.trans q4⟩
 cases e with
 |normal=>exact fin h1
 |ret=>exact fin h1
 |_=>exact h1.elim
def MemL.hpP (m:MemL) (p:Nat->Nat) (q:Nat->Option (Nat×Nat×Nat)):Hp:= { m.hp with ph:=Yz (m.H.map λx=>(x.1,some (p x.1))) λ_=>none,pq:=Yz (m.R.map λx=>(x.1,q x.1)) λ_=>none }
theorem Znm {α β:Type} {L:List (Nat×α)} {F:Nat->Option β} {i:Nat} {y:β} (h:Yz (L.map λx=>(x.1,F x.1)) (λ_=>none) i=some y):F i=some y/\ ∃x∈L,x.1=i:=by
 induction L with
 |nil=>cases h
 |cons x L ih=>
  have h':upd (Yz (L.map λx=>(x.1,F x.1)) λ_=>none) x.1 (F x.1) i=some y:=h;by_cases e:x.1=i;rw[e,Za]at h';exact⟨h',x,by simp,e⟩;rw[Zk _ _ e]at h';obtain⟨h1,z,hz,hzi⟩:=ih h';exact⟨h1,z,by simp[hz],hzi⟩
structure ERet (P:Program) (rs:List ResultVar) (r:PV) (m0 m1:MemL) (ph:Nat->Nat) (pq:Nat->Option (Nat×Nat×Nat)) (s:St):Prop where
 r:∃r0,SY P r0 s [] rs/\Pub m1.has s.m r0 r
 h:∀x∈m1.H,∃cs,s.m.h x.1=some cs/\s.m.z x.1=false/\x.2.length=cs.length/\ ∀i,i<cs.length->Pub m1.has s.m (cs.getD i .any) (x.2.getD i .any)
 q:∀x∈m1.R,s.m.q x.1=some x.2
 v:∀x∈m1.V,∃es,s.m.v x.1=some es/\x.2.length=es.length/\ ∀i,i<es.length->Pub m1.has s.m (es.getD i .any) (x.2.getD i .any)
 ph:∀x∈m0.H,s.m.ph x.1=some (ph x.1)
 pq:∀x∈m0.R,s.m.pq x.1=pq x.1
def D1 (P:Program) (rs:List ResultVar) (r:PV) (m0 m1:MemL) (ph:Nat->Nat) (pq:Nat->Option (Nat×Nat×Nat)):Exit->St->Prop
 | .normal,s=>ERet P rs r m0 m1 ph pq s
 | .ret,s=>ERet P rs r m0 m1 ph pq s
 |_,_=>False
theorem ZhI (rs:List ResultVar) (r:PV) (m0 m1:MemL) (ph:Nat->Nat) (pq:Nat->Option (Nat×Nat×Nat)) (s:St):@vQ ⟨D1 P rs r m0 m1 ph pq⟩ .ret s=ERet P rs r m0 m1 ph pq s:=rfl
theorem Zbi (rs:List ResultVar) (r:PV) (m0 m1:MemL) (ph:Nat->Nat) (pq:Nat->Option (Nat×Nat×Nat)) (s:St):@vQ ⟨D1 P rs r m0 m1 ph pq⟩ .normal s=ERet P rs r m0 m1 ph pq s:=rfl
def Row.compat:Row->Row->Prop
 | .live _ sz e,.live _ sz' e'=>sz=sz'/\e=e'
 | .vec _ sz e,.vec _ sz' e'=>sz=sz'/\e=e'
 |_,.dead=>True
 |_,_=>False
theorem ZlT {q:Rows} {vs:List Value} {args:List PV} {n:Nat} (hl:vs.length=args.length) (hr:∀i,i<args.length->RepS S M q (vs.getD i undef) (args.getD i .any)) (i:Nat):
  RepS S M q (((⟨vs⟩:Array Value)++Jl (n-vs.length) undef).getD i undef) (VN 0 args i):=by
 rw[VO args 0 i (Km _),KB];by_cases hi:i<args.length;have:=hr i hi;rw[getD_lt hi]at this ⊢;rw[getD_lt (by omega)]at this;have e:((⟨vs⟩:Array Value)++Jl (n-vs.length) undef).getD i undef=vs[i]'(by omega):=by
  rw[Jb,J5 (by simp;omega)];simp[show i<vs.length by omega]
 rw[e];exact this;rw[VJ (by omega)];have e:((⟨vs⟩:Array Value)++Jl (n-vs.length) undef).getD i undef=undef:=by
  rw[Jb,JV (by simp;omega)];simp only[Jy];split<;>rfl
 rw[e];exact .clean (.tup [] [] rfl (λi hi=>by simp at hi))
theorem ZlS {args:List PV} {m:MemL} (ca:∀p∈args,∀i∈p.ids,m.has i) (i:Nat) (k:Ref) (hk:k∈(VN 0 args i).ids):m.has k:=by
 rw[VO args 0 i (Km _),KB]at hk;by_cases hi:i<args.length;rw[getD_lt hi]at hk;exact ca _ (Kc hi) k hk;rw[VJ (by omega)]at hk;simp[JA,JN]at hk
open Classical in
theorem Eff.of_v (vm:List Nat) {f:FuncId} {fn:Func} {c:Code} {args:List PV} {m0 m1:MemL} {r:PV} {n:Nat} {rs:List ResultVar} (hf:P.funcs[f]? = some fn) (hname:fn.name≠ "runtime.NumGoroutine") (hb:fn.body=some c) (hn:fn.ntmps=n) (hrs:fn.results=rs.toArray) (hl:args.length<=n)
  (ok0:m0.Ok) (ok1:m1.Ok) (ca:∀p∈args,∀i∈p.ids,m0.has i) (cr:∀i∈r.ids,m1.has i) (kh:∀x∈m0.H,∃y∈m1.H,y.1=x.1) (kr:∀x∈m0.R,∃y∈m1.R,y.1=x.1/\Row.compat x.2 y.2)
  (h:∀ph pq,@vC P ⟨c⟩ ⟨D1 P rs r m0 m1 ph pq⟩ (St.vms ⟨VN 0 args,m0.hpP ph pq,n⟩ vm)):Eff P f args m0 r m1:=by
 subst hn;refine⟨⟨fn,hf,hname,by rw[hb];rfl⟩,ok0,ok1,ca,cr,λi hi=> ?_,λB S M w vs hs0 hlen hr=> ?_⟩;cases i with
 |b i=>obtain⟨y,hy,rfl⟩:=hi;exact kh y hy
 |r i=>obtain⟨y,hy,rfl⟩:=hi;obtain⟨z,hz,e,_⟩:=kr y hy;exact⟨z,hz,e⟩
 refine calls_of_wp hf hb ?_;let ph:Nat->Nat:=M.φ;let pq:Nat->Option (Nat×Nat×Nat):=λi=>match m0.hp.q i with|some r=>(match r.len with|some n=>some (n,M.κ i,M.ψ i)|none=>none)|none=>none
 have hs:Sim B S M ⟨VN 0 args,m0.hpP ph pq,fn.ntmps⟩ { tmps:=⟨vs⟩++Jl (fn.ntmps-vs.length) undef,defers:= [] } w:=by
  refine⟨rfl,by simp;omega,hs0.hB,hs0.stable,λi=>ZlT hlen hr i,λi k hk=> ?_,hs0.blk,hs0.row,hs0.inj,hs0.injq,hs0.injx,hs0.rm,hs0.vc,⟨λi b hb=> ?_,λi n k b hb=> ?_⟩,hs0.hz⟩;have:=ok0.live (ZlS ca i k hk);cases k<;>exact this
  have hb:Yz (m0.H.map λx=>(x.1,some (ph x.1))) (λ_=>none) i=some b:=hb;obtain⟨h1,x,hx,rfl⟩:=Znm (F:=λi=>some (ph i)) hb;cases h1;exact⟨ok0.live (i:= .b x.1) ⟨x,hx,rfl⟩,rfl⟩;have hb:Yz (m0.R.map λx=>(x.1,pq x.1)) (λ_=>none) i=some (n,k,b):=hb;have hb:=(Znm (F:=pq) hb).1;simp only[pq]at hb;cases hq0:m0.hp.q i with
  |none=>rw[hq0]at hb;cases hb
  |some r0=>
   rw[hq0]at hb;cases hl0:r0.len with
   |none=>simp only[hl0]at hb;cases hb
   |some n0=>
    simp only[hl0,J6.injEq,Prod.mk.injEq]at hb;obtain⟨rfl,rfl,rfl⟩:=hb;refine⟨λe=>(by have e:m0.hp.q i=none:=e;rw[hq0]at e;cases e),λr1 n1 h1 h2=> ?_⟩;have h1:m0.hp.q i=some r1:=h1;rw[hq0]at h1;cases h1;rw[hl0]at h2;cases h2;exact⟨JE _,λ_=>⟨rfl,rfl⟩⟩
 have hsz:(⟨vs⟩:Array Value).size=vs.length:=by simp
 rw[hsz];refine wp_mono (Zp2 _ (Z3 _ _ _ (h ph pq)) _ S _ _ w hs) λe a' w' hq=> ?_
 obtain⟨s',S',M',h1,h2,h3⟩:=hq;have fin:ERet P rs r m0 m1 ph pq s'->a'.defers= []/\ ∃v,(results fn a'.tmps).run P w'= .ok v w'/\ ∃v' S1 M1,Ending.returned v= .returned v'/\RepS S1 M1 m1.hp.q v' r/\Sim B S1 M1 (Zsf m1.hp) Zn9 w'/\Ext B S S1 w w'/\(∀x∈m0.H,M1.φ x.1=M.φ x.1)/\ ∀x∈m0.R,RowLe M M1 x.1 (m0.hp.q x.1) (m1.hp.q x.1):=by
  rintro ⟨⟨r0,g1,g2⟩,gh,gq,gv,gph,gpq⟩;obtain⟨v,hv,hrv⟩:=Zf6 h2 hrs g1
  -- what is kept,told by the smaller memory
  have down:∀ {v p},RepS (pubS m1.has S' M' s'.m w') M' s'.m.q v p->(∀i∈p.ids,m1.has i)->RepS (pubS m1.has S' M' s'.m w') M' m1.hp.q v p:=λrr hids=>
   rr.heap (JC _) (λ_ _=>rfl) λi hi=>by
    obtain⟨y,hy,rfl⟩:=hids _ hi;rw[ok1.q_at hy,gq y hy];exact .refl _ _ _
  have hP:∀ {i},m1.has (.b i)-> ∀ {cs},s'.m.h i=some cs->s'.m.z i=false-> ¬Zph m1.has M' s'.m (M'.φ i):=λ{i} hi {cs} hc hz hp=>by
   rcases hp with ⟨id,es,e1,e2,e3,e4⟩|⟨id,cs',e1,e2,e3,e4⟩;obtain⟨sz,e,q⟩:=h2.vec_q e1;exact h2.injx i id _ _ hc hz q rfl e3 e4.symm;exact h2.inj id i _ _ e1 hc e2 hz (λe=>e3 (e▸hi)) e4
  have hPr:∀ {i},m1.has (.r i)-> ∀ {r0},s'.m.q i=some r0->r0.own=true->0<M'.κ i-> ¬Zph m1.has M' s'.m (M'.ψ i):=λ{i} hi {r0} hq ho hk hp=>by
   rcases hp with ⟨id,es,e1,e2,e3,e4⟩|⟨id,cs',e1,e2,e3,e4⟩;obtain⟨sz,e,q⟩:=h2.vec_q e1;exact h2.injq id i _ _ q hq rfl ho e3 hk (λe=>e2 (e▸hi)) e4;exact h2.injx id i _ _ e1 e2 hq ho hk e4
  refine⟨h2.defers,v,hv,v,pubS m1.has S' M' s'.m w',M',rfl,down (g2.rep h2 v hrv) cr,⟨rfl,rfl,h2.hB,⟨Zfv h2,λb c hc=>(by cases hc),λb x hx=>(by cases hx)⟩,λi=> .clean (.any _),λi id h=>(by simp[Zsf,JA]at h),λid cs hc=> ?_,λid r1 hc=> ?_,λid id' cs cs' hc hc' _ _ hne=> ?_,λid id' r1 r2 hc hc' o o' k k' hne=> ?_,λid id' cs r1 hc _ hc' o k=> ?_,λb c hc=>(by cases hc),λid es hc=> ?_,⟨λ_ _ h=>(by cases h),λ_ _ _ _ h=>(by cases h)⟩,h2.hz⟩,
   ⟨h3.1.trans (Dt h2),λb hb=> ?_,h3.2.2⟩,λx hx=> ?_,λx hx=> ?_⟩
  have hx:=MemL.h_mem hc;obtain⟨cs0,e1,e2,e3,e4⟩:=gh _ hx;obtain⟨k1,k2,⟨us,t,k3,k4,k5⟩,k6⟩:=h2.own e1 e2;have hcl:∀c∈cs,∀i∈c.ids,m1.has i:=ok1.ch _ hx;have e3:cs.length=cs0.length:=e3;refine⟨k1,λo=>by rw[Si (hP ⟨_,hx,rfl⟩ e1 e2)];exact k2 o,⟨us,t,k3,by omega,λj hj=> ?_⟩,λc hc' i hi=>ok1.live (hcl c hc' i hi)⟩;exact down ((e4 j (by omega)).rep h2 _ (k5 j (by omega))) (hcl _ (Ze hj));have hx:=MemL.q_mem hc;have hq:=gq _ hx;have hrow:=h2.row _ _ hq;cases r1 with
  |dead=>trivial
  |live n sz e=>
   obtain⟨o1,o2⟩:=hrow;refine⟨o1,λc hc'=> ?_⟩;obtain⟨k1,k2,k3,k4,k5⟩:=o2 c hc';exact⟨k1,k2,k3,k4,λo ho=>by rw[Si (hPr ⟨_,hx,rfl⟩ hq rfl (by simp only at hc' ⊢;omega))];exact k5 o ho⟩
  |vec n sz e=>
   obtain⟨o1,o2⟩:=hrow;refine⟨o1,λc hc'=> ?_⟩;obtain⟨k1,k2,k3,k4,k5⟩:=o2 c hc';exact⟨k1,k2,k3,k4,λo=>by rw[Si (hPr ⟨_,hx,rfl⟩ hq rfl (by simp only at hc' ⊢;omega))];exact k5 o⟩
  obtain⟨_,e1,e2,_⟩:=gh _ (MemL.h_mem hc);obtain⟨_,e3,e4,_⟩:=gh _ (MemL.h_mem hc');exact h2.inj _ _ _ _ e1 e3 e2 e4 hne;exact h2.injq _ _ _ _ (gq _ (MemL.q_mem hc)) (gq _ (MemL.q_mem hc')) o o' k k' hne;obtain⟨_,e1,e2,_⟩:=gh _ (MemL.h_mem hc);exact h2.injx _ _ _ _ e1 e2 (gq _ (MemL.q_mem hc')) o k;have hx:=MemL.v_mem hc;obtain⟨es0,e1,e3,e4⟩:=gv _ hx;obtain⟨sz,e,q1,r1,r2,r4⟩:=h2.vc _ _ e1;have e3:es.length=es0.length:=e3;obtain⟨y,hy,hyx⟩:=ok1.vr _ hx;have hyx:y.1=id:=hyx;have hq:=gq y hy;rw[hyx]at hq;have hcl:∀c∈es,∀i∈c.ids,m1.has i:=ok1.cv _ hx;have hq2:m1.hp.q id=some (.vec es.length sz e):=by
   have h1:=ok1.q_at hy;rw[hyx]at h1;rw[h1,<-hq,q1,e3]
  -- element by element
  have shape:∀i,i<es0.length->(es.getD i .any).cells.length=(es0.getD i .any).cells.length/\((es0.getD i .any).cells.all KU=true->(es.getD i .any).cells.all KU=true):=λi hi=>by
   have hp:=e4 i hi;have hp:Pub m1.has s'.m (es0.getD i .any) (es.getD i .any):=hp;generalize es0.getD i .any=x at hp;generalize es.getD i .any=y at hp;exact hp.cells_shape
  refine⟨sz,e,hq2,λp hp=> ?_,λp hp i hi=>ok1.live (hcl p hp i hi),λc hc' us t fz hus i j hi hj=> ?_⟩;obtain⟨i,hi,rfl⟩:=Ju hp;obtain⟨a1,a2⟩:=shape i (by omega);have hx0:=r1 _ (Ze (d:= .any) (by omega:i<es0.length));rw[getD_lt hi]at a1 a2;exact⟨a1.trans hx0.1,a2 hx0.2⟩;have hi:i<es.length:=hi;have hx0:=r1 _ (Ze (d:= .any) (by omega:i<es0.length));have hp:Pub m1.has s'.m (es0.getD i .any) (es.getD i .any):=e4 i (by omega);have:=hp.cells_rep h2 (us:=(us.drop (i*sz)).take sz) (by
   obtain⟨o1,o2⟩:=h2.row _ _ q1;obtain⟨k1,k2,k3,⟨us',k4,k5⟩,_⟩:=o2 c hc';have hus:w'.heap[M'.ψ id]? = some (.cells ⟨us⟩ t fz):=hus;rw[k4]at hus;cases hus;rw[hx0.1,JB,Jp];have:i*sz+sz<=us.length:=by
    rw[k5]
    calc i*sz+sz=(i+1)*sz:=by rw[KM,Ko]
     _<=c*sz:=Jm _ (by omega)
   omega) (λl hl=>by
   rw[Xx (by omega),XM];exact r4 c hc' us t fz hus i l (by omega) (by omega)) j (by omega)
  rw[Xx hj,XM]at this;have hl2:=(shape i (by omega)).1;exact down this λk hk=>hcl (es.getD i .any) (Ze hi) k (YB (Ze (by omega)) hk)
  obtain⟨q1,q2⟩:=Zqk (K:=m1.has) h2 (b:=b) hb;obtain⟨q3,q4⟩:=h3.2.1 b hb;exact⟨λo=>(q1 o).trans (q3 o),q2.trans q4⟩;exact(h2.pn.h x.1 _ (gph x hx)).2;obtain⟨y,hy,hyx,hk⟩:=kr x hx;have hq0:=ok0.q_at hx;have hq1:=ok1.q_at hy;have hs1:=gq y hy;rw[hyx]at hq1 hs1;rw[hq0,hq1];have pin:∀n0 n1,x.2.len=some n0->y.2.len=some n1->n0<=n1/\(n0=n1->M'.κ x.1=M.κ x.1/\M'.ψ x.1=M.ψ x.1):=λn0 n1 l0 l1=>by
   have hb:pq x.1=some (n0,M.κ x.1,M.ψ x.1):=by simp only[pq,hq0,l0]
   exact(h2.pn.q x.1 _ _ _ ((gpq x hx).trans hb)).2 y.2 n1 hs1 l1
  obtain⟨xi,xr⟩:=x;obtain⟨yi,yr⟩:=y;simp only at hk pin ⊢;refine⟨λn sz e h=> ?_,λn sz e h=> ?_⟩;cases h;cases xr with
  |live n0 sz0 e0=>
   obtain⟨rfl,rfl⟩:=hk;obtain⟨p1,p2⟩:=pin n0 n rfl rfl;by_cases e:n0=n;subst e;exact .inl ⟨rfl,p2 rfl⟩;exact .inr ⟨n0,_,_,rfl,by omega⟩
  |vec=>exact hk.elim
  |dead=>exact hk.elim
  cases h;cases xr with
  |vec n0 sz0 e0=>
   obtain⟨rfl,rfl⟩:=hk;obtain⟨p1,p2⟩:=pin n0 n rfl rfl;by_cases e:n0=n;subst e;exact .inl ⟨_,rfl,p2 rfl⟩;exact .inr ⟨n0,_,_,rfl,by omega⟩
  |live=>exact hk.elim
  |dead=>exact hk.elim
 cases e with
 |normal=>exact fin h1
 |ret=>exact fin h1
 |_=>exact h1.elim
def mkStX (n:Nat) (L:List (Nat×PV)) (H:List (Nat×List PV×Bool)) (R:List (Nat×Row)) (O:List (Nat×MapC)) (I:List (Nat×IterC)) (V:List (Nat×List PV)) (OM:List (Nat×MapC)) (p:List (Nat×Nat)) (q:List (Nat×Option (Nat×Nat×Nat))) (vm:List Nat):St:=
 { fr:=Yz L λ_=> .any,m:= { h:=Yz (H.map λx=>(x.1,some x.2.1)) λ_=>none,z:=Yz (H.map λx=>(x.1,x.2.2)) λ_=>false,q:=Yz (R.map λx=>(x.1,some x.2)) λ_=>none,o:=Yz (O.map λx=>(x.1,some x.2)) λ_=>none,it:=Yz (I.map λx=>(x.1,some x.2)) λ_=>none,om:=Yz (OM.map λx=>(x.1,some x.2)) λ_=>none,v:=Yz (V.map λx=>(x.1,some x.2)) λ_=>none,ph:=Yz (p.map λx=>(x.1,some x.2)) λ_=>none,pq:=Yz q λ_=>none,vm:=Yz (vm.map λi=>(i,true)) λ_=>false },n:=n }
structure HasX (n:Nat) (L:List (Nat×PV)) (H:List (Nat×List PV×Bool)) (R:List (Nat×Row)) (O:List (Nat×MapC)) (I:List (Nat×IterC)) (V:List (Nat×List PV)) (OM:List (Nat×MapC)) (p:List (Nat×Nat)) (q:List (Nat×Option (Nat×Nat×Nat))) (s:St):Prop where
 b:Has n L H R s
 o:∀x∈O,s.m.o x.1=some x.2
 it:∀x∈I,s.m.it x.1=some x.2
 v:∀x∈V,s.m.v x.1=some x.2
 om:∀x∈OM,s.m.om x.1=some x.2
 ph:∀x∈p,s.m.ph x.1=some x.2
 pq:∀x∈q,s.m.pq x.1=x.2
structure WholeX (L:List (Nat×PV)) (H:List (Nat×List PV×Bool)) (R:List (Nat×Row)) (V:List (Nat×List PV)) (OM:List (Nat×MapC)) (p:List (Nat×Nat)) (q:List (Nat×Option (Nat×Nat×Nat))):Prop where
 t:Fa L H R
 v:∀x∈V,(JN x.2).all (ZG H R)=true
 om:∀x∈OM,(JN x.2.vs).all (ZG H R)=true
 vr:∀x∈V,(R.map (·.1)).contains x.1=true
 pr:∀x∈p,(H.map (·.1)).contains x.1=true
 qr:∀x∈q,(R.map (·.1)).contains x.1=true
theorem DA {α:Type} (O:List (Nat×Option α)) (f:Nat->Option α) (h:∀x∈O,f x.1=x.2) (i:Nat):Yz O (λ_=>none) i=none\/(Yz O (λ_=>none) i=f i/\ ∃x∈O,x.1=i):=by
 by_cases hi:(O.map (·.1)).contains i=true;right;refine⟨Yg (R:=λi v=>v=f i) (λx hx=>(h x hx).symm) hi,?_⟩;simp only[Jj,Jc]at hi;exact hi;exact .inl (X5 (by simpa using hi))
theorem HasX.weak {n:Nat} {L:List (Nat×PV)} {H:List (Nat×List PV×Bool)} {R:List (Nat×Row)} {O:List (Nat×MapC)} {I:List (Nat×IterC)} {V:List (Nat×List PV)} {OM:List (Nat×MapC)} {p:List (Nat×Nat)} {q:List (Nat×Option (Nat×Nat×Nat))} {vm:List Nat} (hw:WholeX L H R V OM p q) (h:HasX n L H R O I V OM p q s):Weak (mkStX n L H R O I V OM p q vm) s:=by
 have hin:∀ {i:Nat},(R.map (·.1)).contains i=true->(mkStX n L H R O I V OM p q vm).m.q i=s.m.q i:=λ{i} hi=>by
  refine Yg (R:=λi v=>v=s.m.q i) (λx hx=> ?_) (by rw[ZnT R some];exact hi);obtain⟨y,hy,rfl⟩:=Jc.1 hx;exact(h.b.q y hy).symm
 have hih:∀ {i:Nat},(H.map (·.1)).contains i=true->(mkStX n L H R O I V OM p q vm).m.h i=s.m.h i:=λ{i} hi=>by
  refine Yg (R:=λi v=>v=s.m.h i) (λx hx=> ?_) (by rw[ZnT H (λx=>some x.1)];exact hi);obtain⟨y,hy,rfl⟩:=Jc.1 hx;exact(h.b.h y hy).1.symm
 refine⟨h.b.weak.n,h.b.weak.fr,h.b.weak.h,h.b.weak.q,TT O s.m.o h.o,TT I s.m.it h.it,TT OM s.m.om h.om,λi=> ?_,λi=> ?_,λi=> ?_⟩;rcases DA (V.map λx=>(x.1,some x.2)) s.m.v (λx hx=>by obtain⟨y,hy,rfl⟩:=Jc.1 hx;exact h.v y hy) i with h1|⟨h1,x,hx,rfl⟩;exact .inl h1;obtain⟨y,hy,rfl⟩:=Jc.1 hx;exact .inr ⟨h1,hin (hw.vr y hy)⟩;rcases DA (p.map λx=>(x.1,some x.2)) s.m.ph (λx hx=>by obtain⟨y,hy,rfl⟩:=Jc.1 hx;exact h.ph y hy) i with h1|⟨h1,x,hx,rfl⟩;exact .inl h1;obtain⟨y,hy,rfl⟩:=Jc.1 hx;exact .inr ⟨h1,hih (hw.pr y hy)⟩;rcases DA q s.m.pq h.pq i with h1|⟨h1,x,hx,rfl⟩;exact .inl h1;exact .inr ⟨h1,hin (hw.qr x hx)⟩
theorem Refs.mkStX {n:Nat} {L:List (Nat×PV)} {H:List (Nat×List PV×Bool)} {R:List (Nat×Row)} {O:List (Nat×MapC)} {I:List (Nat×IterC)} {V:List (Nat×List PV)} {OM:List (Nat×MapC)} {p:List (Nat×Nat)} {q:List (Nat×Option (Nat×Nat×Nat))} {vm:List Nat} (hw:WholeX L H R V OM p q):Refs (mkStX n L H R O I V OM p q vm):=by
 have k:=Refs.mkSt (n:=n) hw.t;have lv:∀r,ZX (PL.mkSt n L H R).m r->ZX (PL.mkStX n L H R O I V OM p q vm).m r:=λr hr=>by cases r<;>exact hr
 have live:∀r,ZG H R r=true->ZX (PL.mkStX n L H R O I V OM p q vm).m r:=λr hr=>by
  cases r with
  |b i=>
   show Yz (H.map λx=>(x.1,some x.2.1)) (λ_=>none) i≠none;exact Yg (R:=λi v=>v≠none) (λx hx=>by obtain⟨y,hy,rfl⟩:=Jc.1 hx;simp) (by rw[ZnT H (λx=>some x.1)];exact hr)
  |r i=>
   show Yz (R.map λx=>(x.1,some x.2)) (λ_=>none) i≠none;exact Yg (R:=λi v=>v≠none) (λx hx=>by obtain⟨y,hy,rfl⟩:=Jc.1 hx;simp) (by rw[ZnT R some];exact hr)
 refine⟨λi r hr=>lv r (k.fr i r hr),λi cs hi c hc r hr=>lv r (k.h i cs hi c hc r hr),λi es hi pv hp r hr=> ?_,λb c hc pv hp r hr=> ?_⟩;have hm:=(VW hi).resolve_right (by simp);exact live r (Jg.1 (hw.v _ hm) r (JR.2 ⟨pv,hp,hr⟩));have hm:=(VW hc).resolve_right (by simp);exact live r (Jg.1 (hw.om _ hm) r (JR.2 ⟨pv,hp,hr⟩))
def Zu5 {ι:Type} (n:Nat) (L:ι->List (Nat×PV)) (H:ι->List (Nat×List PV×Bool)) (R:ι->List (Nat×Row)) (O:ι->List (Nat×MapC)) (I:ι->List (Nat×IterC)) (V:ι->List (Nat×List PV)) (OM:ι->List (Nat×MapC)) (p:List (Nat×Nat)) (q:List (Nat×Option (Nat×Nat×Nat))) (μ:ι->Nat) (i:ι) (s':St):Prop:=
 ∃j,μ j<μ i/\HasX n (L j) (H j) (R j) (O j) (I j) (V j) (OM j) p q s'
theorem Xa {c:Code} {Q:Exit->St->Prop} {ι:Type} (n:Nat) (L:ι->List (Nat×PV)) (H:ι->List (Nat×List PV×Bool)) (R:ι->List (Nat×Row)) (O:ι->List (Nat×MapC)) (I:ι->List (Nat×IterC)) (V:ι->List (Nat×List PV)) (OM:ι->List (Nat×MapC)) (p:List (Nat×Nat)) (q:List (Nat×Option (Nat×Nat×Nat))) (vm:List Nat) (μ:ι->Nat) (i0:ι)
  (h0:HasX n (L i0) (H i0) (R i0) (O i0) (I i0) (V i0) (OM i0) p q s) (hr:∀i,WholeX (L i) (H i) (R i) (V i) (OM i) p q)
  (round:∀i,@vC P ⟨c⟩ ⟨Xj (Zu5 n L H R O I V OM p q μ i) Q⟩ (mkStX n (L i) (H i) (R i) (O i) (I i) (V i) (OM i) p q vm)):awp P (.loop c) Q s:=
 Tp (λi=>mkStX n (L i) (H i) (R i) (O i) (I i) (V i) (OM i) p q vm) μ i0 (h0.weak (hr i0)) (λ_ i=>Refs.mkStX (hr i)) λi=>YR (λe s' h=>by
  cases e with
  |normal=>obtain⟨j,hj,hm⟩:=h;exact⟨j,hj,hm.weak (hr j)⟩
  |_=>exact h) (Z3 _ _ _ (round i))
theorem ZbH {c:Code} {Q:Exit->St->Prop} (i d sz:Nat) (e:TypeId) (hi:s.fr i= .sl .nil []) (hd:s.m.q d=none) (h:awp P c Q ({ s with fr:=upd s.fr i (.vsl d 0 sz) }.with { s.m.setq d (.vec 0 sz e)with v:=upd s.m.v d (some []) })):awp P c Q s:=λB S M a w hs=>by
 have hs1:=hs.nilVec (sz:=sz) (e:=e) hd;have hv:a.tmps.getD i undef= .slice none 0 0:=by
  have:=hs.fr i;rw[hi]at this;exact this.slnil_inv
 refine h B S _ a w ⟨hs1.defers,hs1.hn,hs1.hB,hs1.stable,λk=> ?_,λk r hr=> ?_,hs1.blk,hs1.row,hs1.inj,hs1.injq,hs1.injx,hs1.rm,hs1.vc,hs1.pn,hs1.hz⟩;show RepS _ _ _ _ (upd s.fr i (.vsl d 0 sz) k);by_cases e:i=k;subst e;rw[Za,hv];refine .vsl d 0 sz _ ⟨none,0,rfl,JE _,λh=>absurd h (Nat.lt_irrefl _)⟩ λn' sz' e' hq=> ?_
 simp only[St.with,Hp.setq,Za]at hq;cases hq;exact⟨JE _,λ_=>⟨rfl,λ_=>rfl,λc hc=>by simp[Za]at hc⟩⟩;rw[Zk _ _ e];exact hs1.fr k;have hr':r∈(upd s.fr i (.vsl d 0 sz) k).ids:=hr;by_cases e:i=k;subst e;rw[Za]at hr';simp only[JA,Ja]at hr';subst hr';simp[ZX,St.with,Hp.setq,Za];rw[Zk _ _ e]at hr';exact hs1.ids k r hr'
theorem ZgF {c:Code} {Q:Exit->St->Prop} (i id sz:Nat) (e:TypeId) (es:List PV) (hi:s.fr i= .vsl id es.length sz) (hid:s.m.q id=some (.vec es.length sz e)) (hv:s.m.v id=some es) (hc:∀p∈es,p.ids= [])
  (h:awp P c Q ({ s with fr:=upd s.fr i (.sl .no es) }.with ({ s.m with v:=upd s.m.v id none }.setq id .dead))):awp P c Q s:=λB S M a w hs=>by
 obtain⟨S',hs1,hext,hrep⟩:=hs.publish hv hid hc;have hfi:=hs.fr i;rw[hi]at hfi;refine wp_mono (h B S' M a w ⟨hs1.defers,hs1.hn,hs1.hB,hs1.stable,λk=> ?_,λk r hr=> ?_,hs1.blk,hs1.row,hs1.inj,hs1.injq,hs1.injx,hs1.rm,hs1.vc,hs1.pn,hs1.hz⟩) λe a' w' ⟨s',S2,M',h1,h2,h3⟩=>⟨s',S2,M',h1,h2,hext.trans h3⟩
 show RepS _ _ _ _ (upd s.fr i (.sl .no es) k);by_cases ek:i=k;subst ek;rw[Za];exact .clean (hrep _ hfi);rw[Zk _ _ ek];exact hs1.fr k;have hr':r∈(upd s.fr i (.sl .no es) k).ids:=hr;by_cases ek:i=k;subst ek;rw[Za]at hr';simp[JA]at hr';rw[Zk _ _ ek]at hr';exact hs1.ids k r hr'
end
attribute [go_sem] mkStX St.vms MemL.hpP MemL.hp
attribute [go_sem] ZhK Zbj ZhI Zbi SY
end Go.PL
namespace Go.PL
open Go.RowKit
section
variable {P:Program}
theorem Zaj {f g:Nat->Nat} {es:List PV} (h:∀p∈es,p.ids= []):es.map (PV.ren f g)=es:=by
 rw[<-PV.renL_map];exact UB es (Jq.2 λi hi=>by obtain⟨c,hc,hic⟩:=JR.1 hi;rw[h c hc]at hic;cases hic)
theorem Zt5 {α:Type} {f:Nat->α} {d:Nat} {v:α} (h:f d=v):upd f d v=f:=by rw[<-h,XZ]
abbrev VY (n sz:Nat) (e:TypeId) (es:List PV):MemL:=⟨[],[(1000,.vec n sz e)],[(1000,es)]⟩
abbrev noV:MemL:=⟨[],[],[]⟩
theorem Zmt {n sz:Nat} {e:TypeId} {es:List PV} (h:∀p∈es,p.ids= []):(VY n sz e es).Ok:=
 ⟨by simp,by simp,by simp,by simp,by simp,λx hx c hc i hi=>by simp only[Ja]at hx;subst hx;rw[h c hc]at hi;cases hi⟩
theorem Zqg:noV.Ok:=⟨by simp,by simp,by simp,by simp,by simp,by simp⟩
theorem ZsV {n sz:Nat} {e:TypeId} {es:List PV}:(VY n sz e es).hp.v 1000=some es:=by simp[MemL.hp,TS,GR,upd]
theorem ZoV {n sz:Nat} {e:TypeId} {es':List PV} {m:Hp} {d:Nat} (hc:∀p∈es',p.ids= []):ZkG (VY n sz e es') (λ_=>d) id m= { m.setq d (.vec n sz e)with v:=upd m.v d (some es') }:=by
 unfold ZkG;simp only[JY,GR,J7,TS,ZsV,KO,Zaj hc];rfl
theorem YY {M:KH} {g:FuncId} {args args0:List PV} {K:KR} {n sz:Nat} {e:TypeId} {es es':List PV} {r:PV} (d:Nat) (h1:Eff P g args0 (VY n sz e es) r (VY n sz e es')) (hr:r.ids= []) (hes:∀p∈es,p.ids= []) (hes':∀p∈es',p.ids= [])
  (hq:M.m.q d=some (.vec n sz e)) (hv:M.m.v d=some es) (he:K5 M.m args=args0.map (PV.ren (λ_=>d) id)) (h2:K.k r { M.m with v:=upd M.m.v d (some es') }):@UJ P true M (some (g,args)) K:=by
 refine ZaW (λ_=>d) id h1 ⟨by simp,λx hx=> ?_,λx hx=> ?_,by simp,λx hx=> ?_,by simp,λx hx y hy _=> ?_⟩ he ?_;simp only[Ja]at hx;subst hx;exact hq;simp only[Ja]at hx;subst hx;simp only[Zaj hes];exact hv;exact .inl ⟨x,hx,rfl⟩;simp only[Ja]at hx hy;subst hx hy;rfl;rw[GH _ hr,ZoV hes'];have:({ M.m.setq d (.vec n sz e)with v:=upd M.m.v d (some es') }:Hp)= { M.m with v:=upd M.m.v d (some es') }:=by simp only[Hp.setq,Zt5 hq]
 rw[this];exact h2
theorem Eff.vw (vm:List Nat) {f:FuncId} {fn:Func} {c:Code} {args:List PV} {r:PV} {n k sz:Nat} {e:TypeId} {es es':List PV} {rs:List ResultVar} (hf:P.funcs[f]? = some fn) (hname:fn.name≠ "runtime.NumGoroutine") (hb:fn.body=some c) (hn:fn.ntmps=n) (hrs:fn.results=rs.toArray) (hl:args.length<=n)
  (hes:∀p∈es,p.ids= []) (hes':∀p∈es',p.ids= []) (ha:∀p∈args,∀i∈p.ids,i= .r 1000) (hr:r.ids= [])
  (h:∀q,@vC P ⟨c⟩ ⟨D1 P rs r (VY k sz e es) (VY k sz e es') (λ_=>0) (λ_=>q)⟩ (St.vms ⟨VN 0 args,(VY k sz e es).hpP (λ_=>0) (λ_=>q),n⟩ vm)):Eff P f args (VY k sz e es) r (VY k sz e es'):=
 Eff.of_v vm hf hname hb hn hrs hl (Zmt hes) (Zmt hes') (λp hp i hi=>by rw[ha p hp i hi];exact⟨_,Ja.2 rfl,rfl⟩) (by rw[hr];simp) (by simp) (λx hx=>⟨x,hx,rfl,by simp only[Ja]at hx;subst hx;exact⟨rfl,rfl⟩⟩) λph pq=>by
  have h1:(VY k sz e es).hpP ph pq=(VY k sz e es).hpP (λ_=>0) (λ_=>pq 1000):=rfl;have h2:∀s,ERet P rs r (VY k sz e es) (VY k sz e es') (λ_=>0) (λ_=>pq 1000) s->ERet P rs r (VY k sz e es) (VY k sz e es') ph pq s:=λs h=>⟨h.r,h.h,h.q,h.v,by simp,λx hx=>by simp only[Ja]at hx;subst hx;exact h.pq _ (Ja.2 rfl)⟩
  have h3:D1 P rs r (VY k sz e es) (VY k sz e es') ph pq=D1 P rs r (VY k sz e es) (VY k sz e es') (λ_=>0) (λ_=>pq 1000):=by
   have h4:∀s,ERet P rs r (VY k sz e es) (VY k sz e es') ph pq s=ERet P rs r (VY k sz e es) (VY k sz e es') (λ_=>0) (λ_=>pq 1000) s:=λs=>propext ⟨λh=>⟨h.r,h.h,h.q,h.v,by simp,λx hx=>by simp only[Ja]at hx;subst hx;exact h.pq _ (Ja.2 rfl)⟩,h2 s⟩
   funext e s;cases e<;>first|exact h4 s|rfl
  rw[h1,h3];exact h _
theorem UV {s:St} {rs:List ResultVar} {r r0:PV} {k sz:Nat} {e:TypeId} {es es':List PV} {q:Option (Nat×Nat×Nat)} (hc:∀p∈es',p.ids= []) (hr:SY P r0 s [] rs) (hp:Pub (VY k sz e es').has s.m r0 r) (hq:s.m.q 1000=some (.vec k sz e)) (hv:s.m.v 1000=some es') (hpq:s.m.pq 1000=q):
  ERet P rs r (VY k sz e es) (VY k sz e es') (λ_=>0) (λ_=>q) s:=
 ⟨⟨r0,hr,hp⟩,by simp,λx hx=>by simp only[Ja]at hx;subst hx;exact hq,λx hx=>by
  simp only[Ja]at hx;subst hx;exact⟨es',hv,rfl,λi hi=> .clean (hc _ (Ze hi))⟩,by simp,λx hx=>by simp only[Ja]at hx;subst hx;exact hpq⟩
theorem Yd {α:Type} [Inhabited α] {pv:α->PV} {l:List α} {k:Nat} (h:k<l.length):(l.map pv).getD k .any=pv (l.getD k default):=by
 rw[getD_lt (by simpa using h),getD_lt h,KI]
theorem Ud {α:Type} {pv:α->PV} {l:List α} {k:Nat} {x:α}:(l.map pv).set k (pv x)=(l.set k x).map pv:=by rw[List.map_set]
theorem YM {α:Type} {pv:α->PV} (h:∀a,(pv a).ids= []) (l:List α):∀p∈l.map pv,p.ids= []:=λp hp=>by
 obtain⟨a,_,rfl⟩:=Jc.1 hp;exact h a
theorem Yk {α:Type} {pv:α->PV} (h:∀a,(pv a).ids= []) (l:List α):JN (l.map pv)= []:=
 Jq.2 λi hi=>by obtain⟨c,hc,hic⟩:=JR.1 hi;rw[YM h l c hc]at hic;cases hic
theorem XG {L:List (Nat×PV)} {n sz:Nat} {e:TypeId} {es:List PV} {q:Option (Nat×Nat×Nat)} (hL:∀x∈L,x.2.ids.all (ZG [] [(1000,.vec n sz e)])=true) (he:JN es= []):WholeX L [] [(1000,.vec n sz e)] [(1000,es)] [] [] [(1000,q)]:=
 ⟨⟨hL,by simp⟩,by simp[he],by simp,by simp,by simp,by simp⟩
theorem YC {s:St} {n k sz:Nat} {e:TypeId} {L:List (Nat×PV)} {es:List PV} {q:Option (Nat×Nat×Nat)} (h0:s.n=n) (hL:∀x∈L,s.fr x.1=x.2) (hq:s.m.q 1000=some (.vec k sz e)) (hv:s.m.v 1000=some es) (hpq:s.m.pq 1000=q):
  HasX n L [] [(1000,.vec k sz e)] [] [] [(1000,es)] [] [] [(1000,q)] s:=
 ⟨⟨h0,hL,by simp,by simp[hq]⟩,by simp,by simp,by simp[hv],by simp,by simp,by simp[hpq]⟩
end
end Go.PL
namespace Go.PL.Srt
variable {α:Type}
structure Good (lt:α->α->Bool):Prop where
 asym:∀a b,lt a b=true->lt b a=false
 trans:∀a b c,lt a b=true->lt b c=true->lt a c=true
def Inc (lt:α->α->Bool) (l:List α):Prop:=l.Pairwise λa b=>lt a b=true
def Unl (lt:α->α->Bool) (l:List α):Prop:=l.Pairwise λa b=>lt a b=true\/lt b a=true
def ins (lt:α->α->Bool) (x:α):List α->List α
 | []=> [x]
 |y::l=>if lt x y then x::y::l else y::ins lt x l
def srt (lt:α->α->Bool):List α->List α
 | []=> []
 |x::l=>ins lt x (srt lt l)
variable {lt:α->α->Bool}
theorem Zdh (x:α):∀l:List α,(ins lt x l).Perm (x::l)
 | []=> .refl _
 |y::l=>by
  unfold ins;split;exact .refl _;exact((Zdh x l).cons y).trans (.swap x y l)
theorem YU:∀l:List α,(srt lt l).Perm l
 | []=> .refl _
 |x::l=>(Zdh x _).trans ((YU l).cons x)
theorem ZQ (l:List α):(srt lt l).length=l.length:=(YU l).length_eq
theorem ZdG {l:List α} {x:α}:x∈srt lt l↔x∈l:=(YU l).mem_iff
theorem Unl.perm {l l':List α} (h:Unl lt l) (p:l.Perm l'):Unl lt l':=(p.pairwise_iff (λh=>h.symm)).1 h
theorem ZlU (g:Good lt) (x:α):∀ {l:List α},Inc lt l->(∀y∈l,lt x y=true\/lt y x=true)->Inc lt (ins lt x l)
 | [],_,_=>List.pairwise_singleton _ _
 |y::l,h,hx=>by
  unfold ins;have hp:=Jr.1 h;split;rename_i hxy;refine Jr.2 ⟨λz hz=> ?_,h⟩;rcases Js.1 hz with rfl|hz;exact hxy;exact g.trans _ _ _ hxy (hp.1 z hz);rename_i hxy;refine Jr.2 ⟨λz hz=> ?_,ZlU g x hp.2 (λz hz=>hx z (by simp[hz]))⟩;rcases Js.1 ((Zdh x l).mem_iff.1 hz)with rfl|hz;exact(hx y (by simp)).resolve_left hxy;exact hp.1 z hz
theorem VV (g:Good lt):∀ {l:List α},Unl lt l->Inc lt (srt lt l)
 | [],_=>Kw.nil
 |x::l,h=>by
  have hp:=Jr.1 h;exact ZlU g x (VV g hp.2) λy hy=>hp.1 y (ZdG.1 hy)
theorem Inc.uniq (g:Good lt):∀ {l l':List α},Inc lt l->Inc lt l'->l.Perm l'->l=l'
 | [],l',_,_,p=>(K7.nil_eq p)
 |x::l,[],_,_,p=>by have:=p.length_eq;simp at this
 |x::l,y::l',h,h',p=>by
  have h1:=Jr.1 h;have h2:=Jr.1 h';have e:x=y:=by
   have hx:x∈y::l':=p.mem_iff.1 (by simp);have hy:y∈x::l:=p.mem_iff.2 (by simp);rcases Js.1 hx with e|hx;exact e;rcases Js.1 hy with e|hy;exact e.symm;have a:=h1.1 y hy;have b:=h2.1 x hx;rw[g.asym _ _ a]at b;cases b
  subst e;rw[Inc.uniq g h1.2 h2.2 p.cons_inv]
theorem ZiF (g:Good lt) {l r:List α} (h:Inc lt r) (p:r.Perm l):srt lt l=r:=
 (VV g (l:=l) (Unl.perm (h.imp λh=> .inl h) p)).uniq g h ((YU l).trans p.symm)
theorem Wa (g:Good lt) {l:List α} (h:Inc lt l):srt lt l=l:=ZiF g h (.refl _)
theorem ZfP (g:Good lt) {l l':List α} (h:Unl lt l) (p:l.Perm l'):srt lt l=srt lt l':=ZiF g (VV g (h.perm p)) ((YU l').trans p.symm)
theorem Unl.append {l l':List α}:Unl lt (l++l')↔Unl lt l/\Unl lt l'/\ ∀a∈l,∀b∈l',lt a b=true\/lt b a=true:=Kr
theorem Inc.append {l l':List α}:Inc lt (l++l')↔Inc lt l/\Inc lt l'/\ ∀a∈l,∀b∈l',lt a b=true:=Kr
theorem Inc.take {l:List α} (h:Inc lt l) (k:Nat):Inc lt (l.take k):=Kw.sublist (List.take_sublist _ _) h
theorem Inc.drop {l:List α} (h:Inc lt l) (k:Nat):Inc lt (l.drop k):=Kw.sublist (List.drop_sublist _ _) h
theorem Zkk (g:Good lt) {l l':List α} (h:Unl lt (l++l')) (hlt:∀a∈l,∀b∈l',lt a b=true):srt lt (l++l')=srt lt l++srt lt l':=by
 obtain⟨h1,h2,_⟩:=Unl.append.1 h;exact ZiF g (Inc.append.2 ⟨VV g h1,VV g h2,λa ha b hb=>hlt a (ZdG.1 ha) b (ZdG.1 hb)⟩) ((YU l).append (YU l'))
theorem Inc.lt_get (g:Good lt) {l:List α} (h:Inc lt l) {i j:Nat} (hi:i<j) (hj:j<l.length):lt (l[i]'(by omega)) l[j]=true:=List.pairwise_iff_getElem.1 h i j (by omega) hj hi
theorem Zpy (g:Good lt) {A B:List α} (hA:Inc lt A) (hB:Inc lt B) (hU:Unl lt (A++B)) (u v:Nat) (hu:u<=A.length) (hv:v<=B.length)
  (h1:∀(h0:0<u) (h1:v<B.length),lt (A[u-1]'(by omega)) B[v]=true) (h2:∀(h0:0<v) (h1:u<A.length),lt (B[v-1]'(by omega)) A[u]=true):
  srt lt (A++B)=srt lt (A.take u++B.take v)++srt lt (A.drop u++B.drop v):=by
 have p:(A++B).Perm ((A.take u++B.take v)++(A.drop u++B.drop v)):=by
  have e:A++B=A.take u++(A.drop u++(B.take v++B.drop v)):=by simp[<-JO]
  rw[e,JO];refine K7.append_left _ ?_;rw[<-JO,<-JO];exact(List.perm_append_comm).append_right _
 rw[ZfP g hU p];refine Zkk g (hU.perm p) λa ha b hb=> ?_
 rcases KP.1 ha with ha|ha<;>rcases KP.1 hb with hb|hb<;>obtain⟨i,hi,rfl⟩:=Ju ha<;>obtain⟨j,hj,rfl⟩:=Ju hb
 simp only[JB,Jp]at hi hj;simp only[JP,JQ];exact hA.lt_get g (by omega) (by omega);simp only[JB,Jp]at hi hj;simp only[JP,JQ];have e1:=h1 (by omega) (by omega);have e2:lt A[i] B[v]=true:=by
  by_cases h:i=u-1;subst h;exact e1;exact g.trans _ _ _ (hA.lt_get g (by omega) (by omega)) e1
 by_cases h:j=0;subst h;exact e2;exact g.trans _ _ _ e2 (hB.lt_get g (by omega) (by omega));simp only[JB,Jp]at hi hj;simp only[JP,JQ];have e1:=h2 (by omega) (by omega);have e2:lt B[i] A[u]=true:=by
  by_cases h:i=v-1;subst h;exact e1;exact g.trans _ _ _ (hB.lt_get g (by omega) (by omega)) e1
 by_cases h:j=0;subst h;exact e2;exact g.trans _ _ _ e2 (hA.lt_get g (by omega) (by omega));simp only[JB,Jp]at hi hj;simp only[JP,JQ];exact hB.lt_get g (by omega) (by omega)
theorem ZdH (g:Good lt) {P Q:List α} {x:α} (h:Inc lt (P++Q)) (h1:∀p∈P,lt p x=true) (h2:∀q∈Q,lt x q=true) {L:List α} (hp:(P++x::Q).Perm L):srt lt L=P++x::Q:=by
 obtain⟨i1,i2,i3⟩:=Inc.append.1 h;refine ZiF g (Inc.append.2 ⟨i1,Jr.2 ⟨h2,i2⟩,λa ha b hb=> ?_⟩) hp;rcases Js.1 hb with rfl|hb;exact h1 a ha;exact i3 a ha b hb
theorem TA {l:List α} {i j:Nat} {x d:α} (h:i≠j):(l.set i x).getD j d=l.getD j d:=by
 simp[Ji,List.getElem?_set_ne h]
theorem ZlL {l:List α} {i:Nat} {x d:α} (h:i<l.length):(l.set i x).getD i d=x:=by
 simp[Ji,List.getElem?_set_self h]
def swap [Inhabited α] (l:List α) (i j:Nat):List α:=(l.set i (l.getD j default)).set j (l.getD i default)
theorem Y1 [Inhabited α] (X Y:List α) (a:α) {k:Nat} (h:k=X.length):(X++a::Y).getD k default=a:=by subst h;simp
theorem Zqs (X Y:List α) (a b:α) {k:Nat} (h:k=X.length):(X++a::Y).set k b=X++b::Y:=by subst h;simp
theorem ZdJ [Inhabited α] (X M Y:List α) (a b:α) {i j:Nat} (hi:i=X.length) (hj:j=X.length+1+M.length):swap (X++a::(M++b::Y)) i j=X++b::(M++a::Y):=by
 unfold swap
 rw[Y1 X _ a hi];have e:X++a::(M++b::Y)=(X++a::M)++b::Y:=by simp
 have e1:(X++a::(M++b::Y)).getD j default=b:=by rw[e];exact Y1 _ _ _ (by simp;omega)
 rw[e1,Zqs X _ a b hi];have e2:X++b::(M++b::Y)=(X++b::M)++b::Y:=by simp
 rw[e2,Zqs _ _ b a (by simp;omega)];simp
theorem ZfS [Inhabited α] (l:List α) (i j:Nat) (hi:i<l.length) (hj:j<l.length):swap l i j=swap l j i:=by
 unfold swap
 by_cases h:i=j;subst h;rfl;rw[List.set_comm _ _ h]
end Go.PL.Srt
namespace Go.PL
open Go.RowKit
section
variable {P:Program} {B:Frm} {S:Stable} {M:Maps} {s s' s'':St} {a:Act} {w:World} {Q:Exit->St->Prop}
def Gh (s s'':St):Prop:=∀B S M a w,Sim B S M s a w-> ∃S' M',Sim B S' M' s'' a w/\Ext B S S' w w
theorem Gh.refl (s:St):Gh s s:=λB S M a w hs=>⟨S,M,hs,Jt _ _ _⟩
theorem Gh.trans (h:Gh s s') (h':Gh s' s''):Gh s s'':=λB S M a w hs=>by
 obtain⟨S1,M1,h1,h2⟩:=h B S M a w hs;obtain⟨S2,M2,h3,h4⟩:=h' B S1 M1 a w h1;exact⟨S2,M2,h3,h2.trans h4⟩
theorem Gh.weak (hw:Weak s' s) (hr:Refs s'):Gh s s':=λB S M a w hs=>⟨S,M,hs.weak hw hr,Jt _ _ _⟩
theorem Zp1 {c:Code} (g:Gh s s'') (h:awp P c Q s''):awp P c Q s:=λB S M a w hs=>by
 obtain⟨S',M',h1,h2⟩:=g B S M a w hs;exact wp_mono (h B S' M' a w h1) λe a' w' ⟨s',S2,M2,k1,k2,k3⟩=>⟨s',S2,M2,k1,k2,h2.trans k3⟩
theorem FJ {c:Code} {ι:Type} (I:ι->St) (μ:ι->Nat) (i0:ι) (h0:Gh s (I i0))
  (round:∀i,awp P c (Xj (λs'=>∃j,μ j<μ i/\Gh s' (I j)) Q) (I i)):awp P (.loop c) Q s:=Zp1 h0 λB S M a w hs=>by
 have key:∀(k:Nat) (i:ι),μ i<k-> ∀S1 M1 a1 w1,Sim B S1 M1 (I i) a1 w1->Ext B S S1 w w1->
   Code.rounds P c (λe a' w'=>∃s' S' M',Q e s'/\Sim B S' M' s' a' w'/\Ext B S S' w w') k a1 w1:=by
  intro k
  induction k with
  |zero=>intro i hi;omega
  |succ k ih=>
   intro i hi S1 M1 a1 w1 hs1 he1;rw[rounds_succ];refine wp_mono (round i B S1 M1 a1 w1 hs1) λe a' w' hq=> ?_
   obtain⟨s',S',M',h1,h2,h3⟩:=hq;cases e with
   |normal=>
    obtain⟨j,hj,hg⟩:=h1;obtain⟨S2,M2,k1,k2⟩:=hg B S' M' a' w' h2;exact ih j (by omega) S2 M2 a' w' k1 ((he1.trans h3).trans k2)
   |_=>exact⟨s',S',M',h1,h2,he1.trans h3⟩
 exact wp_loop_rounds (μ i0+1) (key _ i0 (Kb _) S M a w hs (Jt _ _ _))
def ZqC {ι:Type} (I:ι->St) (μ:ι->Nat) (i:ι) (s':St):Prop:=∃j,μ j<μ i/\Gh s' (I j)
theorem Zud {c:Code} {ι:Type} (I:ι->St) (μ:ι->Nat) (i0:ι) (h0:Gh s (I i0)) (round:∀i,@vC P ⟨c⟩ ⟨Xj (ZqC I μ i) Q⟩ (I i)):awp P (.loop c) Q s:=
 FJ I μ i0 h0 λi=>Z3 _ _ _ (round i)
theorem Gh.oToOm {b:Nat} {c:MapC} (hb:s.m.o b=some c):Gh s (s.with { s.m with o:=upd s.m.o b none,om:=upd s.m.om b (some c) }):=λB S M a w hs=>⟨S,M,hs.oToOm hb,Jt _ _ _⟩
theorem Gh.omToO {b:Nat} {c:MapC} (hb:s.m.om b=some c) (hc:∀p∈c.vs,p.clean=true):Gh s (s.with { s.m with o:=upd s.m.o b (some ⟨c.ks,c.vs.map PV.share⟩),om:=upd s.m.om b none }):=λB S M a w hs=>⟨S,M,hs.omToO hb hc,Jt _ _ _⟩
theorem Gh.moveRow {b j k d n sz:Nat} {e:TypeId} {c:MapC} {es:List PV} (hb:s.m.om b=some c) (hk:s.m.q k=some (.live n sz e)) (hd:s.m.q d=none) (hj:j<c.vs.length) (hv:c.vs.getD j .any= .sl (.row k) es):
  Gh s (s.with { (s.m.setq k .dead).setq d (.live n sz e)with om:=upd s.m.om b (some ⟨c.ks,c.vs.set j (.sl (.row d) es)⟩) }):=λB S M a w hs=>by
 have h1:=hs.moveRow hk hd;obtain⟨o1,o2,o3,⟨es',e1,e2,e3,e4,e5,e6⟩,lv⟩:=hs.rm b c hb;have h6:=e6 j (by omega);rw[hv]at h6;obtain⟨p1,p2,p3,⟨es2,f1,f2,f3,f4,f5,f6⟩,lv2⟩:=h1.rm b c hb;have hes:es2=es':=by rw[e1]at f1;cases f1;rfl
 subst hes;have hlive:∀i,ZX s.m i->ZX ((s.m.setq k .dead).setq d (.live n sz e)) i:=λi h=>by
  cases i with
  |b i=>exact h
  |r i=>
   show upd (upd s.m.q k _) d _ i≠none;by_cases e1:d=i;subst e1;rw[Za];simp;rw[Zk _ _ e1];by_cases e2:k=i;subst e2;rw[Za];simp;rw[Zk _ _ e2];exact h
 have h2:=h1.reOm (om':=upd s.m.om b (some ⟨c.ks,c.vs.set j (.sl (.row d) es)⟩)) (λb2 c2 hc2=>by
  by_cases eb:b=b2;subst eb;rw[Za]at hc2;cases hc2;refine⟨o1,o2,o3,⟨es2,e1,e2,by simpa using e3,e4,e5,λi hi=> ?_⟩,λp hp i hi=> ?_⟩;have hi:i<c.ks.length:=hi;by_cases ej:j=i;subst ej;rw[getD_lt (l:=c.vs.set j (Qa (.row d) es)) (by rw[Kj];omega),List.getElem_set_self];have hx:∀v:Value,RepS S M s.m.q v (.sl (.row k) es)->RepS S { M with ψ:=upd M.ψ d (M.ψ k),κ:=upd M.κ d (M.κ k) } ((s.m.setq k .dead).setq d (.live n sz e)).q v (.sl (.row d) es):=λv hr=>by
   have hc:Rep S v (.sl .no es):=hr.share (by simp[PV.clean]);refine .row d v es hc λn' sz' e' hq=> ?_
   have hq':upd (upd s.m.q k (some .dead)) d (some (.live n sz e)) d=some (.live n' sz' e'):=hq;rw[Za]at hq';cases hq';simp only[Za];cases hr with
   |clean r=>cases r
   |row _ _ _ _ t=>exact t n sz e hk
  exact hx _ h6;have:=f6 i hi;rw[getD_lt (l:=c.vs.set j (Qa (.row d) es)) (by rw[Kj];omega),List.getElem_set_ne ej];rwa[getD_lt (l:=c.vs) (by omega)]at this;rcases List.mem_or_eq_of_mem_set hp with hp|rfl;exact hlive i (lv p hp i hi);simp only[JA,Ja]at hi;subst hi;show upd (upd s.m.q k _) d _ d≠none;rw[Za];simp;rw[Zk _ _ eb]at hc2;exact h1.rm b2 c2 hc2)
 exact⟨S,_,h2,Jt _ _ _⟩
end
attribute [go_sem] ZqC
open Go.RowKit
section
variable {P:Program}
abbrev Zgb (i n sz:Nat) (e:TypeId) (es:List PV):MemL:=⟨[],[(i,.vec n sz e)],[(i,es)]⟩
theorem ZrZ {i n sz:Nat} {e:TypeId} {es:List PV} (h:∀p∈es,p.ids= []):(Zgb i n sz e es).Ok:=
 ⟨by simp,by simp,by simp,by simp,by simp,λx hx c hc i hi=>by simp only[Ja]at hx;subst hx;rw[h c hc]at hi;cases hi⟩
theorem Zum {i n sz:Nat} {e:TypeId} {es:List PV}:(Zgb i n sz e es).hp.v i=some es:=by simp[MemL.hp,TS,GR,upd]
theorem ZoX {i n sz:Nat} {e:TypeId} {es':List PV} {m:Hp} {d:Nat} (hc:∀p∈es',p.ids= []):ZkG (Zgb i n sz e es') (λ_=>d) id m= { m.setq d (.vec n sz e)with v:=upd m.v d (some es') }:=by
 unfold ZkG;simp only[JY,GR,J7,TS,Zum,KO,Zaj hc];rfl
theorem GS {M:KH} {g:FuncId} {args args0:List PV} {K:KR} {i n sz:Nat} {e:TypeId} {es:List PV} {r:PV} (d:Nat) (h1:Eff P g args0 noV r (Zgb i n sz e es)) (hes:∀p∈es,p.ids= []) (ha:∀p∈args0,p.ids= [])
  (hd:M.m.q d=none) (he:K5 M.m args=args0) (h2:K.k (r.ren (λ_=>d) id) { M.m.setq d (.vec n sz e)with v:=upd M.m.v d (some es) }):@UJ P true M (some (g,args)) K:=by
 refine ZaW (λ_=>d) id h1 ⟨by simp,by simp,by simp,by simp,λx hx=> ?_,by simp,λx hx y hy _=> ?_⟩ (by rw[Zaj ha];exact he) ?_;simp only[Ja]at hx;subst hx;exact .inr hd;simp only[Ja]at hx hy;subst hx hy;rfl;rw[ZoX hes];exact h2
theorem Eff.vn (vm:List Nat) {f:FuncId} {fn:Func} {c:Code} {args:List PV} {r:PV} {i n k sz:Nat} {e:TypeId} {es':List PV} {rs:List ResultVar} (hf:P.funcs[f]? = some fn) (hname:fn.name≠ "runtime.NumGoroutine") (hb:fn.body=some c) (hn:fn.ntmps=n) (hrs:fn.results=rs.toArray) (hl:args.length<=n)
  (hes':∀p∈es',p.ids= []) (ha:∀p∈args,p.ids= []) (hr:∀j∈r.ids,j= .r i)
  (h:@vC P ⟨c⟩ ⟨D1 P rs r noV (Zgb i k sz e es') (λ_=>0) (λ_=>none)⟩ ((St.init args n).vms vm)):Eff P f args noV r (Zgb i k sz e es'):=
 Eff.of_v vm hf hname hb hn hrs hl Zqg (ZrZ hes') (λp hp i hi=>by rw[ha p hp]at hi;cases hi) (λj hj=>by rw[hr j hj];exact⟨_,Ja.2 rfl,rfl⟩) (by simp) (by simp) λph pq=>by
  have h3:D1 P rs r noV (Zgb i k sz e es') ph pq=D1 P rs r noV (Zgb i k sz e es') (λ_=>0) (λ_=>none):=by
   have h4:∀s,ERet P rs r noV (Zgb i k sz e es') ph pq s=ERet P rs r noV (Zgb i k sz e es') (λ_=>0) (λ_=>none) s:=λs=>propext ⟨λh=>⟨h.r,h.h,h.q,h.v,by simp,by simp⟩,λh=>⟨h.r,h.h,h.q,h.v,by simp,by simp⟩⟩
   funext e s;cases e<;>first|exact h4 s|rfl
  rw[h3];exact h
theorem Zda {s:St} {rs:List ResultVar} {r r0:PV} {i k sz:Nat} {e:TypeId} {es':List PV} (hc:∀p∈es',p.ids= []) (hr:SY P r0 s [] rs) (hp:Pub (Zgb i k sz e es').has s.m r0 r) (hq:s.m.q i=some (.vec k sz e)) (hv:s.m.v i=some es'):
  ERet P rs r noV (Zgb i k sz e es') (λ_=>0) (λ_=>none) s:=
 ⟨⟨r0,hr,hp⟩,by simp,λx hx=>by simp only[Ja]at hx;subst hx;exact hq,λx hx=>by
  simp only[Ja]at hx;subst hx;exact⟨es',hv,rfl,λi hi=> .clean (hc _ (Ze hi))⟩,by simp,by simp⟩
theorem Zb3 {s:St} {n r b:Nat} {L:List (Nat×PV)} {row:Row} {c:MapC} (h0:s.n=n) (hL:∀x∈L,s.fr x.1=x.2) (hq:s.m.q r=some row) (ho:s.m.o b=some c):HasX n L [] [(r,row)] [(b,c)] [] [] [] [] [] s:=
 ⟨⟨h0,hL,by simp,by simp[hq]⟩,by simp[ho],by simp,by simp,by simp,by simp,by simp⟩
theorem ZiT {L:List (Nat×PV)} {r:Nat} {row:Row} (hL:∀x∈L,x.2.ids.all (ZG [] [(r,row)])=true):WholeX L [] [(r,row)] [] [] [] []:=
 ⟨⟨hL,by simp⟩,by simp,by simp,by simp,by simp,by simp⟩
theorem Zdf {s:St} {n d r b k sz:Nat} {e:TypeId} {L:List (Nat×PV)} {row:Row} {es:List PV} {c:MapC} (h0:s.n=n) (hL:∀x∈L,s.fr x.1=x.2) (hq:s.m.q d=some (.vec k sz e)) (hr:s.m.q r=some row) (hv:s.m.v d=some es) (ho:s.m.o b=some c):HasX n L [] [(d,.vec k sz e),(r,row)] [(b,c)] [] [(d,es)] [] [] [] s:=
 ⟨⟨h0,hL,by simp,by simp[hq,hr]⟩,by simp[ho],by simp,by simp[hv],by simp,by simp,by simp⟩
theorem ZnK {L:List (Nat×PV)} {d r n sz:Nat} {e:TypeId} {row:Row} {es:List PV} (hL:∀x∈L,x.2.ids.all (ZG [] [(d,.vec n sz e),(r,row)])=true) (he:JN es= []):WholeX L [] [(d,.vec n sz e),(r,row)] [(d,es)] [] [] []:=
 ⟨⟨hL,by simp⟩,by simp[he],by simp,by simp,by simp,by simp⟩
theorem Dm {s:St} {n d k sz:Nat} {e:TypeId} {L:List (Nat×PV)} {es:List PV} (h0:s.n=n) (hL:∀x∈L,s.fr x.1=x.2) (hq:s.m.q d=some (.vec k sz e)) (hv:s.m.v d=some es):HasX n L [] [(d,.vec k sz e)] [] [] [(d,es)] [] [] [] s:=
 ⟨⟨h0,hL,by simp,by simp[hq]⟩,by simp,by simp,by simp[hv],by simp,by simp,by simp⟩
theorem Za3 {L:List (Nat×PV)} {d n sz:Nat} {e:TypeId} {es:List PV} (hL:∀x∈L,x.2.ids.all (ZG [] [(d,.vec n sz e)])=true) (he:JN es= []):WholeX L [] [(d,.vec n sz e)] [(d,es)] [] [] []:=
 ⟨⟨hL,by simp⟩,by simp[he],by simp,by simp,by simp,by simp⟩
end
open Go.RowKit
section
variable {P:Program}
abbrev ZkI (i n sz:Nat) (e:TypeId):MemL:=⟨[],[(i,.live n sz e)],[]⟩
theorem Zrh {i n sz:Nat} {e:TypeId}:(ZkI i n sz e).Ok:=
 ⟨by simp,by simp,by simp,by simp,by simp,λx hx=>by simp at hx⟩
theorem ZoW {i n sz:Nat} {e:TypeId} {m:Hp} {d:Nat}:ZkG (ZkI i n sz e) (λ_=>d) id m= { m.setq d (.live n sz e)with v:=upd m.v d none }:=by
 unfold ZkG;simp only[JY,GR,J7,TS];rfl
theorem ZpS {M:KH} {g:FuncId} {args args0:List PV} {K:KR} {i n sz:Nat} {e:TypeId} {r:PV} (d:Nat) (h1:Eff P g args0 noV r (ZkI i n sz e)) (ha:∀p∈args0,p.ids= [])
  (hd:M.m.q d=none) (he:K5 M.m args=args0) (h2:K.k (r.ren (λ_=>d) id) { M.m.setq d (.live n sz e)with v:=upd M.m.v d none }):@UJ P true M (some (g,args)) K:=by
 refine ZaW (λ_=>d) id h1 ⟨by simp,by simp,by simp,by simp,λx hx=> ?_,by simp,λx hx y hy _=> ?_⟩ (by rw[Zaj ha];exact he) ?_;simp only[Ja]at hx;subst hx;exact .inr hd;simp only[Ja]at hx hy;subst hx hy;rfl;rw[ZoW];exact h2
theorem Eff.rn (vm:List Nat) {f:FuncId} {fn:Func} {c:Code} {args:List PV} {r:PV} {i n k sz:Nat} {e:TypeId} {rs:List ResultVar} (hf:P.funcs[f]? = some fn) (hname:fn.name≠ "runtime.NumGoroutine") (hb:fn.body=some c) (hn:fn.ntmps=n) (hrs:fn.results=rs.toArray) (hl:args.length<=n)
  (ha:∀p∈args,p.ids= []) (hr:∀j∈r.ids,j= .r i)
  (h:@vC P ⟨c⟩ ⟨D1 P rs r noV (ZkI i k sz e) (λ_=>0) (λ_=>none)⟩ ((St.init args n).vms vm)):Eff P f args noV r (ZkI i k sz e):=
 Eff.of_v vm hf hname hb hn hrs hl Zqg Zrh (λp hp i hi=>by rw[ha p hp]at hi;cases hi) (λj hj=>by rw[hr j hj];exact⟨_,Ja.2 rfl,rfl⟩) (by simp) (by simp) λph pq=>by
  have h3:D1 P rs r noV (ZkI i k sz e) ph pq=D1 P rs r noV (ZkI i k sz e) (λ_=>0) (λ_=>none):=by
   have h4:∀s,ERet P rs r noV (ZkI i k sz e) ph pq s=ERet P rs r noV (ZkI i k sz e) (λ_=>0) (λ_=>none) s:=λs=>propext ⟨λh=>⟨h.r,h.h,h.q,h.v,by simp,by simp⟩,λh=>⟨h.r,h.h,h.q,h.v,by simp,by simp⟩⟩
   funext e s;cases e<;>first|exact h4 s|rfl
  rw[h3];exact h
theorem ZqI {s:St} {rs:List ResultVar} {r r0:PV} {i k sz:Nat} {e:TypeId} (hr:SY P r0 s [] rs) (hp:Pub (ZkI i k sz e).has s.m r0 r) (hq:s.m.q i=some (.live k sz e)):
  ERet P rs r noV (ZkI i k sz e) (λ_=>0) (λ_=>none) s:=
 ⟨⟨r0,hr,hp⟩,by simp,λx hx=>by simp only[Ja]at hx;subst hx;exact hq,by simp,by simp,by simp⟩
end
open Go.RowKit
section
variable {P:Program} {B:Frm} {S:Stable} {M:Maps} {s s' s'':St} {a:Act} {w:World} {Q:Exit->St->Prop}
theorem Sim.tellBlk (hs:Sim B S M s a w) {i:Nat} {cs cs':List PV} (hi:s.m.h i=some cs) (hz:s.m.z i=false) (hl:cs'.length=cs.length)
  (hr:∀j v,j<cs.length->RepS S M s.m.q v (cs.getD j .any)->RepS S M s.m.q v (cs'.getD j .any)) (hc:∀c∈cs',∀k∈c.ids,ZX s.m k):Sim B S M (s.with { s.m with h:=upd s.m.h i (some cs') }) a w:=by
 have hne:∀k,(upd s.m.h i (some cs') k=none)↔s.m.h k=none:=λk=>by
  by_cases e:i=k;subst e;rw[Za,hi];simp;rw[Zk _ _ e]
 have live:∀k,ZX s.m k->ZX { s.m with h:=upd s.m.h i (some cs') } k:=λk h=>by
  cases k with
  |b k=>exact λe=>h ((hne k).1 e)
  |r k=>exact h
 have old:∀k cs2,upd s.m.h i (some cs') k=some cs2-> ∃cs3,s.m.h k=some cs3:=λk cs2 h=>by
  cases e:s.m.h k with
  |none=>rw[(hne k).2 e]at h;cases h
  |some x=>exact⟨x,rfl⟩
 refine⟨hs.defers,hs.hn,hs.hB,hs.stable,hs.fr,λj k hk=>live k (hs.ids j k hk),λid cs2 hb=> ?_,hs.row,λid id' c1 c2 h1 h2=> ?_,hs.injq,λid id' c1 r h1=> ?_,λb c hc=> ?_,λid es he=> ?_,⟨λid b hb=> ?_,hs.pn.q⟩,hs.hz⟩;have hb:upd s.m.h i (some cs') id=some cs2:=hb;show GX _ _ _ _ _ _ _ (s.m.z id);by_cases e:i=id;subst e;rw[Za]at hb;cases hb;have hb':=hs.blk i cs hi;rw[hz]at hb' ⊢;obtain⟨g1,g2,⟨us,t,g3,g4,g5⟩,g6⟩:=hb';exact⟨g1,g2,⟨us,t,g3,by rw[g4,hl],λj hj=>hr j _ (by omega) (g5 j (by omega))⟩,λc hc' k hk=>live k (hc c hc' k hk)⟩;rw[Zk _ _ e]at hb;have hb':=hs.blk id cs2 hb;cases hz':s.m.z id with
 |false=>
  rw[hz']at hb';obtain⟨g1,g2,g3,g6⟩:=hb';exact⟨g1,g2,g3,λc hc k hk=>live k (g6 c hc k hk)⟩
 |true=>rw[hz']at hb';exact hb'
 obtain⟨c3,e3⟩:=old _ _ h1;obtain⟨c4,e4⟩:=old _ _ h2;exact hs.inj _ _ _ _ e3 e4;obtain⟨c3,e3⟩:=old _ _ h1;exact hs.injx _ _ _ _ e3;obtain⟨g1,g2,g3,g4⟩:=hs.rm b c hc;exact⟨g1,g2,g3,g4.move (JC _) rfl (λv p r _=>r) live⟩;exact(hs.vc id es he).move (λ_ _ _ h=>h) rfl rfl (λ_=>rfl) (λv p r _=>r) live;obtain⟨g1,g2⟩:=hs.pn.h id b hb;exact⟨λe=>g1 ((hne id).1 e),g2⟩
theorem Gh.pubMap {b i:Nat} {c:MapC} (hb:s.m.o b=some c) (hi:s.m.h i=some [.mref b]) (hz:s.m.z i=false):Gh s (s.with { s.m with o:=upd s.m.o b none,h:=upd s.m.h i (some [.rmap c.ks c.vs]) }):=λB S M a w hs=>by
 obtain⟨o1,o2,es,e1,e2,e3,e4,e5,e6⟩:=hs.stable.o b c hb;have hnc:∀vs t f,w.heap[b]? ≠ some (.cells vs t f):=λvs t f h=>by rw[e1]at h;cases h
 let S':Stable:=⟨S.c,upd S.m b (some es),S.z,S.y⟩;have hle:SLe S S':=⟨λ_ _ _ h=>h,λk es' h=>by
  show upd S.m b (some es) k=some es';by_cases e:b=k;subst e;rw[o2]at h;cases h;rw[Zk _ _ e];exact h,rfl,λ_ h=>h⟩
 have hst:StabS S' w:=⟨hs.stable.s.c,λk es' h=>by
  have h:upd S.m b (some es) k=some es':=h;by_cases e:b=k;subst e;rw[Za]at h;cases h;exact e1;rw[Zk _ _ e]at h;exact hs.stable.s.m k es' h,hs.stable.s.y⟩
 have h1:=hs.growX (b:=b) hnc (S':=S') (w':=w) hle (λ_ _ _ _=>rfl) (λ_ _ _=>rfl) (JE _) (o':=upd s.m.o b none) (it':=s.m.it) ⟨hst,λk d hk=>by
  by_cases e:b=k;subst e;rw[Za]at hk;cases hk;rw[Zk _ _ e]at hk;obtain⟨q1,q2,q3⟩:=hs.stable.o k d hk;exact⟨q1,by show upd S.m b (some es) k=none;rw[Zk _ _ e];exact q2,q3.move hle rfl⟩,λk x hx=>by
  obtain⟨q1,q2,q3⟩:=hs.stable.i k x hx;exact⟨q1,q2,q3.mono hle⟩⟩ (λk d hk=>by
  obtain⟨q1,q2,q3,q4⟩:=hs.rm k d hk;have hne:b≠k:=λe=>by subst e;rw[hb]at q3;cases q3
  exact⟨KT hne,by rw[Zk _ _ hne];exact q3,by show upd S.m b (some es) k=none;rw[Zk _ _ hne];exact q2⟩)
 have h2:=h1.tellBlk (i:=i) (cs:= [.mref b]) (cs':= [.rmap c.ks c.vs]) hi hz rfl (λj v hj hr=>by
  have:j=0:=by simp at hj;exact hj
  subst this;simp only[List.getD_cons_zero]at hr ⊢;have hv:v= .map (some b):=by cases hr with|clean r=>cases r;rfl
  subst hv;exact .clean (.rmap b es c.ks c.vs (by show upd S.m b (some es) b=_;rw[Za]) e2 e3 e4 (λi hi=>(e5 i hi).mono hle) (λi hi=>(e6 i hi).mono hle))) (by simp[JA])
 exact⟨S',M,h2,hle,λk hk=>⟨λ_=>rfl,by show upd S.m b (some es) k=S.m k;rw[Zk _ _ (λe=>by subst e;exact o1 hk)]⟩,JL _ _⟩
def vst (n:Nat) (L:List (Nat×PV)) (H:List (Nat×List PV)) (q:Rows) (om:Nat->Option MapC):St:=
 { fr:=Yz L λ_=> .any,m:= { h:=Yz (H.map λx=>(x.1,some x.2)) λ_=>none,z:=λ_=>false,q:=q,o:=λ_=>none,it:=λ_=>none,om:=om,v:=λ_=>none,ph:=λ_=>none,pq:=λ_=>none,vm:=λ_=>false },n:=n }
theorem Znn {α:Type} (L:List (Nat×α)) (f g:Nat->α) (h:∀x∈L,g x.1=x.2) (i:Nat):Yz L f i=f i\/Yz L f i=g i:=by
 by_cases hi:(L.map (·.1)).contains i=true;exact .inr (Yg (R:=λi v=>v=g i) (λx hx=>(h x hx).symm) hi);exact .inl (X5 (by simpa using hi))
theorem ZpY {n:Nat} {L:List (Nat×PV)} {H:List (Nat×List PV)} {q:Rows} {om:Nat->Option MapC} (h0:s.n=n) (hL:∀x∈L,s.fr x.1=x.2) (hH:∀x∈H,s.m.h x.1=some x.2/\s.m.z x.1=false) (hq:∀i,q i=none\/q i=s.m.q i) (hom:∀i,om i=none\/om i=s.m.om i):Weak (vst n L H q om) s:=by
 refine⟨h0.symm,λi=>Znn L _ s.fr hL i,λi=> ?_,hq,λ_=> .inl rfl,λ_=> .inl rfl,hom,λ_=> .inl rfl,λ_=> .inl rfl,λ_=> .inl rfl⟩;by_cases hi:(H.map (·.1)).contains i=true;right;have hk:((H.map λx=>(x.1,some x.2)).map (·.1)).contains i=true:=by simpa using hi
 refine⟨Yg (R:=λi v=>v=s.m.h i) (λx hx=> ?_) hk,?_⟩;obtain⟨y,hy,rfl⟩:=Jc.1 hx;exact(hH y hy).1.symm;simp only[Jj,Jc]at hi;obtain⟨y,hy,rfl⟩:=hi;exact(hH y hy).2.symm;left;exact X5 (by simpa using hi)
def Zii (H:List (Nat×List PV)) (q:Rows):Ref->Prop
 | .b i=>∃x∈H,x.1=i
 | .r i=>q i≠none
theorem Zpn {n:Nat} {L:List (Nat×PV)} {H:List (Nat×List PV)} {q:Rows} {om:Nat->Option MapC} (hL:∀x∈L,∀r∈x.2.ids,Zii H q r) (hH:∀x∈H,∀c∈x.2,∀r∈c.ids,Zii H q r) (hom:∀b c,om b=some c-> ∀p∈c.vs,∀r∈p.ids,Zii H q r):Refs (vst n L H q om):=by
 have live:∀r,Zii H q r->ZX (vst n L H q om).m r:=λr hr=>by
  cases r with
  |b i=>
   obtain⟨x,hx,rfl⟩:=hr;show Yz (H.map λx=>(x.1,some x.2)) (λ_=>none) x.1≠none;refine Yg (R:=λi v=>v≠none) (λy hy=> ?_) ?_;obtain⟨z,hz,rfl⟩:=Jc.1 hy;simp;simp only[K2,Jj,Jc];exact⟨x,hx,rfl⟩
  |r i=>exact hr
 refine⟨λi r hr=> ?_,λi cs hi c hc r hr=> ?_,λi es he=>(by cases he),λb c hb p hp r hr=>live r (hom b c hb p hp r hr)⟩;have hr:r∈(Yz L (λ_=>K0) i).ids:=hr;by_cases hi:(L.map (·.1)).contains i=true;exact live r (Yg (R:=λi v=>∀r∈v.ids,Zii H q r) (λx hx=>hL x hx) hi r hr);rw[X5 (by simpa using hi)]at hr;simp[JA]at hr;have hm:=(VW (L:=H) hi).resolve_right (by simp);exact live r (hH _ hm c hc r hr)
theorem Zic {n:Nat} {L:List (Nat×PV)} {H:List (Nat×List PV)} {q:Rows} {om:Nat->Option MapC} (h0:s.n=n) (hL:∀x∈L,s.fr x.1=x.2) (hH:∀x∈H,s.m.h x.1=some x.2/\s.m.z x.1=false) (hq:∀i,q i=none\/q i=s.m.q i) (hom:∀i,om i=none\/om i=s.m.om i)
  (rL:∀x∈L,∀r∈x.2.ids,Zii H q r) (rH:∀x∈H,∀c∈x.2,∀r∈c.ids,Zii H q r) (rom:∀b c,om b=some c-> ∀p∈c.vs,∀r∈p.ids,Zii H q r):Gh s (vst n L H q om):=
 .weak (ZpY h0 hL hH hq hom) (Zpn rL rH rom)
def Tl (b:Nat) (c:MapC):Nat->Option MapC:=upd (λ_=>none) b (some c)
theorem Zdt {b b':Nat} {c d:MapC} (h:Tl b c b'=some d):b=b'/\d=c:=by
 unfold Tl at h;by_cases e:b=b';subst e;rw[Za]at h;cases h;exact⟨rfl,rfl⟩;rw[Zk _ _ e]at h;cases h
theorem Ze3 {n b j kk d sz k:Nat} {e:TypeId} {c:MapC} {es:List PV} {L:List (Nat×PV)} {H:List (Nat×List PV)} {q:Rows} (h0:s.n=n) (hL:∀x∈L,s.fr x.1=x.2) (hH:∀x∈H,s.m.h x.1=some x.2/\s.m.z x.1=false)
  (hb:s.m.om b=some c) (hj:j<c.vs.length) (hv:c.vs.getD j .any= .sl (.row kk) es) (hk:s.m.q kk=some (.live k sz e)) (hkd:kk≠d) (hqd:q d=some (.live k sz e)) (hqk:q kk=none) (hq:∀i,i≠d->i≠kk->q i=none\/q i=s.m.q i)
  (rL:∀x∈L,∀r∈x.2.ids,Zii H q r/\r≠ .r d) (rH:∀x∈H,∀c∈x.2,∀r∈c.ids,Zii H q r/\r≠ .r d) (rom:∀i,i<c.vs.length->i≠j-> ∀r∈(c.vs.getD i .any).ids,Zii H q r/\r≠ .r d):
  Gh s (vst n L H q (Tl b ⟨c.ks,c.vs.set j (.sl (.row d) es)⟩)):=by
 let q1:Rows:=λi=>if i=d then none else if i=kk then some (.live k sz e)else q i
 have in1:∀r,Zii H q r->r≠ .r d->Zii H q1 r:=λr hr hne=>by
  cases r with
  |b i=>exact hr
  |r i=>
   show q1 i≠none;have hid:i≠d:=λe=>hne (by rw[e])
   simp only[q1,if_neg hid];split;simp;exact hr
 have g1:Gh s (vst n L H q1 (Tl b c)):=Zic h0 hL hH (λi=>by
  by_cases e1:i=d;left;simp[q1,e1];by_cases e2:i=kk;right;subst e2;simp only[q1,if_neg e1,if_true];exact hk.symm;simp only[q1,if_neg e1,if_neg e2];exact hq i e1 e2) (λi=>by
  unfold Tl;by_cases e:b=i;right;subst e;rw[Za];exact hb.symm;left;exact Zk _ _ e) (λx hx r hr=>in1 r (rL x hx r hr).1 (rL x hx r hr).2) (λx hx c hc r hr=>in1 r (rH x hx c hc r hr).1 (rH x hx c hc r hr).2) (λb' c' hbc p hp r hr=>by
  obtain⟨rfl,rfl⟩:=Zdt hbc;obtain⟨i,hi,rfl⟩:=Ju hp;by_cases e:i=j;subst e;rw[getD_lt hi]at hv;rw[hv]at hr;simp only[JA,Ja]at hr;subst hr;show q1 kk≠none;simp[q1,hkd];have:=rom i hi e r (by rw[getD_lt hi];exact hr);exact in1 r this.1 this.2)
 have g2:=Gh.moveRow (s:=vst n L H q1 (Tl b c)) (b:=b) (j:=j) (k:=kk) (d:=d) (n:=k) (sz:=sz) (e:=e) (c:=c) (es:=es) (by show Tl b c b=_;unfold Tl;rw[Za]) (by show q1 kk=_;simp[q1,hkd]) (by show q1 d=_;simp[q1]) hj hv;refine(g1.trans g2).trans (Zic rfl (λx hx=> ?_) (λx hx=> ?_) (λi=> ?_) (λi=> ?_) (λx hx r hr=>(rL x hx r hr).1) (λx hx c hc r hr=>(rH x hx c hc r hr).1) (λb' c' hbc p hp r hr=> ?_));have hc:(L.map (·.1)).contains x.1=true:=by simp only[Jj,Jc];exact⟨x,hx,rfl⟩
 have:=Yg (f:=λ_=>K0) (R:=λi v=>v=s.fr i) (λy hy=>(hL y hy).symm) hc;show Yz L (λ_=>K0) x.1=x.2;rw[this,hL x hx];refine⟨?_,rfl⟩;have hc:((H.map λx=>(x.1,some x.2)).map (·.1)).contains x.1=true:=by simp only[K2,Jj,Jc];exact⟨x,hx,rfl⟩
 have:=Yg (f:=λ_=>none) (R:=λi v=>v=s.m.h i) (λy hy=>by obtain⟨z,hz,rfl⟩:=Jc.1 hy;exact(hH z hz).1.symm) hc;show Yz (H.map λx=>(x.1,some x.2)) (λ_=>none) x.1=some x.2;rw[this,(hH x hx).1];by_cases e2:kk=i;left;rw[<-e2];exact hqk;right;show q i=upd (upd q1 kk (some .dead)) d (some (.live k sz e)) i;by_cases e1:d=i;subst e1;rw[Za];exact hqd;rw[Zk _ _ e1,Zk _ _ e2];simp only[q1,if_neg (KT e1),if_neg (KT e2)];right;show Tl b _ i=upd (Tl b c) b _ i;unfold Tl;by_cases e:b=i;subst e;rw[Za,Za];rw[Zk _ _ e,Zk _ _ e,Zk _ _ e];obtain⟨rfl,rfl⟩:=Zdt hbc;obtain⟨i,hi,rfl⟩:=Ju hp;simp only[Kj]at hi;simp only[List.getElem_set]at hr;by_cases e:j=i;rw[if_pos e]at hr;simp only[JA,Ja]at hr;subst hr;show q d≠none;rw[hqd];simp;rw[if_neg e]at hr;exact(rom i hi (KT e) r (by rw[getD_lt hi];exact hr)).1
theorem ZrJ {c:Code} {ι:Type} (I:ι->St) (μ:ι->Nat) (i0:ι) (h0:Gh s (I i0)) (round:∀i,∃s2,Gh (I i) s2/\ @vC P ⟨c⟩ ⟨Xj (ZqC I μ i) Q⟩ s2):awp P (.loop c) Q s:=
 FJ I μ i0 h0 λi=>by
  obtain⟨s2,g,h⟩:=round i;exact Zp1 g (Z3 _ _ _ h)
theorem Sg (b:Nat) (c:MapC):Tl b c b=some c:=Za _ _ _
end
open Go.RowKit
open Go.RowKit
section
variable {P:Program} {l n:Nat}
theorem Zmu {o:Oper} {a:Act} {w:World} {next:Act->World->Prop} {Q:Exit->Act->World->Prop} (hd:∀c,o.op≠ .defer c) (h:o.wp P a w next Q):o.wpIn (Fence.wide.inRound l) n P a w next Q:=by
 refine⟨λf _=>trivial,?_⟩;rw[show(Fence.wide.inRound l).round=some l from rfl,Oper.semAt_some l _ _ hd];unfold Oper.wp at h;generalize (execOp a.eval o).run P w=r at h ⊢;cases r with
 |ok x w'=>
  cases x with
  |enter f args=>exact⟨λhh=>absurd (show false=true from hh) (by decide),CallsIn.inRound l (callsIn_wide.2 h)⟩
  |row row args=>
   refine⟨λhh=>absurd (show false=true from hh) (by decide),λc cs _=> ?_⟩;obtain⟨v,w'',r,s⟩:=h c cs;exact⟨v,w'',r,stepsIn_wide.2 s⟩
  |_=>first|exact h|exact False.elim h
 |halt x w'=>cases x<;>exact h
def DJ (l n:Nat) (P:Program) (c:Code) (Q:Exit->St->Prop) (s:St):Prop:=
 ∀B S M a w,Sim B S M s a w->c.wpIn (Fence.wide.inRound l) n P (λe a' w'=>∃s' S' M',Q e s'/\Sim B S' M' s' a' w'/\Ext B S S' w w') a w
theorem U0 {B:Frm} {ops:Array Oper} {K:St->Prop} {Qc:Exit->Act->World->Prop} {S0:Stable} {w0:World} (hQ:∀s' S' M' a' w',K s'->Sim B S' M' s' a' w'->Ext B S0 S' w0 w'->Qc .normal a' w') (hdf:∀(i:Nat) (o:Oper),ops[i]? = some o-> ∀c,o.op≠ .defer c):
  ∀(li:List Oper) (k:Nat) (s:St),(∀j,li[j]? = ops[k+j]?)->ZkH P ops K li s-> ∀S M a w,Sim B S M s a w->Ext B S0 S w0 w->wpOpsIn (Fence.wide.inRound l) n P ops Qc (K6 k li.length) a w
 | [],k,s,_,h,S,M,a,w,hs,he=>hQ s S M a w h hs he
 |o::rest,k,s,hl,h,S,M,a,w,hs,he=>by
  have h0:ops[k]? = some o:=by simpa using(hl 0).symm
  have hl':∀j,rest[j]? = ops[(k+1)+j]? :=λj=>by have:=hl (j+1);simpa[Kv,KA 1 j]using this
  obtain⟨hd,h⟩:=h;simp only[Ka,KJ,wpOpsIn,h0];rcases h with ⟨hg,⟨v,m',hst,hrest⟩|hsp⟩|⟨hg,hrest⟩;rw[F5 hs hg,if_pos rfl];exact Zmu (hdf _ _ h0) (Sn hs (X6 hd) hst _ _ λu w' S' M' hs' he'=>U0 hQ hdf rest (k+1) _ hl' hrest S' M' _ w' hs' (he.trans he'));rw[F5 hs hg,if_pos rfl];exact Zmu (hdf _ _ h0) (Dx hs (X6 hd) hsp _ _ λs' u w' S' M' hk hs' he'=>U0 hQ hdf rest (k+1) s' hl' hk S' M' _ w' hs' (he.trans he'));rw[F5 hs hg,if_neg (by simp)];exact⟨λ_ _=>trivial,U0 hQ hdf rest (k+1) _ hl' hrest S M _ w (Fn hs hd) he⟩
def Dp (ops:Array Oper):Bool:=ops.toList.all λo=>match o.op with| .defer _=>false|_=>true
theorem Zfb {ops:Array Oper} (h:Dp ops=true):∀(i:Nat) (o:Oper),ops[i]? = some o-> ∀c,o.op≠ .defer c:=λi o hi c e=>by
 unfold Dp at h;rw[Jg]at h;have:=h o (Array.mem_toList_iff.2 (Array.mem_of_getElem? hi));rw[e]at this;cases this
variable {s:St} {Q Q':Exit->St->Prop}
theorem Zew {c:Code} (h:∀e s,Q e s->Q' e s) (hh:DJ l n P c Q s):DJ l n P c Q' s:=λB S M a w hs=>
 wpIn_mono (hh B S M a w hs) λe a' w' ⟨s',S',M',h1,h2,h3⟩=>⟨s',S',M',h _ _ h1,h2,h3⟩
theorem ZgE {id:Nat} {ops:Array Oper} (hd:Dp ops=true) (h:ZkH P ops (Q .normal) ops.toList s):DJ l n P (.region id ops false) Q s:=λB S M a w hs=>by
 refine wpIn_region ?_;have:=U0 (l:=l) (n:=n) (B:=B) (S0:=S) (w0:=w) (Qc:=λe a' w'=>∃s' S' M',Q e s'/\Sim B S' M' s' a' w'/\Ext B S S' w w') (λs' S' M' a' w' h1 h2 h3=>⟨s',S',M',h1,h2,h3⟩) (Zfb hd) ops.toList 0 s (by simp) h S M a w hs (Jt _ _ _);rw[<-Ks]at this;simpa using this
theorem Zle (h:Q .normal s):DJ l n P .skip Q s:=λB S M a w hs=>wpIn_skip ⟨s,S,M,h,hs,Jt _ _ _⟩
theorem Zlc {id:Nat} (h:Q (.exit id) s):DJ l n P (.exit id) Q s:=λB S M a w hs=>wpIn_exit ⟨s,S,M,h,hs,Jt _ _ _⟩
theorem Zld {t:Nat} (h:Q (.goto t) s):DJ l n P (.goto t) Q s:=λB S M a w hs=>wpIn_goto ⟨s,S,M,h,hs,Jt _ _ _⟩
theorem Zon (h:Q .ret s):DJ l n P .ret Q s:=λB S M a w hs=>wpIn_ret ⟨s,S,M,h,hs,Jt _ _ _⟩
theorem Zoo {x y:Code} (h:DJ l n P x (Xj (DJ l n P y Q) Q) s):DJ l n P (.seq x y) Q s:=λB S M a w hs=>by
 refine wpIn_seq (wpIn_mono (h B S M a w hs) λe a' w' hq=> ?_);obtain⟨s',S',M',h1,h2,h3⟩:=hq;cases e with
 |normal=>
  refine wpIn_mono (h1 B S' M' a' w' h2) λe a'' w'' hq'=> ?_
  obtain⟨s'',S'',M'',g1,g2,g3⟩:=hq';exact⟨s'',S'',M'',g1,g2,h3.trans g3⟩
 |_=>exact⟨s',S',M',h1,h2,h3⟩
theorem Zlb {c:Operand} {x y:Code} {b:Bool} (hc:s.eval c= .bool b) (h:DJ l n P (if b then x else y) Q s):DJ l n P (.cond c x y) Q s:=λB S M a w hs=>by
 have he:=hs.eval c;rw[hc]at he;exact wpIn_cond he.bool_inv (h B S M a w hs)
theorem Zjv {id:Nat} {c:Code} (h:DJ l n P c (Td id Q) s):DJ l n P (.block id c) Q s:=λB S M a w hs=>by
 refine wpIn_block (wpIn_mono (h B S M a w hs) λe a' w' hq=> ?_);obtain⟨s',S',M',h1,h2,h3⟩:=hq;cases e with
 |exit j=>
  simp only[Exit.inBlock,Td]at h1 ⊢;split at h1
  ·rename_i hj;simp only[hj,if_true];exact⟨s',S',M',h1,h2,h3⟩
  ·rename_i hj;simp only[hj,if_false];exact⟨s',S',M',h1,h2,h3⟩
 |_=>exact⟨s',S',M',h1,h2,h3⟩
def vcR (l n:Nat) (P:Program):Code->(Exit->St->Prop)->St->Prop
 | .skip,Q,s=>Q .normal s
 | .ret,Q,s=>Q .ret s
 | .exit id,Q,s=>Q (.exit id) s
 | .goto t,Q,s=>Q (.goto t) s
 | .seq x y,Q,s=>vcR l n P x (Xj (vcR l n P y Q) Q) s
 | .cond c x y,Q,s=>GT (s.eval c) (vcR l n P x Q s) (vcR l n P y Q s)
 | .block id c,Q,s=>vcR l n P c (Td id Q) s
 | .region _ ops false,Q,s=>Dp ops=true/\vcA P true ops (Q .normal) ops.toList s
 |c,Q,s=>DJ l n P c Q s
theorem UK:∀(c:Code) (Q:Exit->St->Prop) (s:St),vcR l n P c Q s->DJ l n P c Q s
 | .skip,Q,s,h=>Zle h
 | .label _,Q,s,h=>h
 | .ret,Q,s,h=>Zon h
 | .exit id,Q,s,h=>Zlc h
 | .goto l,Q,s,h=>Zld h
 | .seq x y,Q,s,h=>Zoo (Zew (λe s' h'=>by
   cases e with
   |normal=>exact UK y Q s' h'
   |_=>exact h') (UK x _ s h))
 | .cond c x y,Q,s,h=>by
  unfold vcR GT at h;split at h;rename_i b hb;refine Zlb hb ?_;cases b;exact UK y Q s (h.2 rfl);exact UK x Q s (h.1 rfl);exact h.elim
 | .block id c,Q,s,h=>Zjv (UK c _ s h)
 | .region _ ops false,Q,s,h=>ZgE h.1 (Ue _ _ h.2)
 | .region _ ops true,Q,s,h=>h
 | .loop c,Q,s,h=>h
 | .rangeFunc ..,Q,s,h=>h
 | .scope c,Q,s,h=>h
 | .refuse _,Q,s,h=>h
end
def vR (l n:Nat) (P:Program) [C:COD] [Q:QS] (s:St):Prop:=vcR l n P C.c Q.q s
section
variable {P:Program} {l n:Nat}
theorem FI {c:Code} {Q:Exit->St->Prop} {s:St} (h:@vR l n P ⟨c⟩ ⟨Q⟩ s):DJ l n P c Q s:=UK c Q s h
theorem ZrQ (Q:QS) (s:St):@vR l n P ⟨.skip⟩ Q s= @vQ Q .normal s:=rfl
theorem Zuf (Q:QS) (s:St):@vR l n P ⟨.ret⟩ Q s= @vQ Q .ret s:=rfl
theorem ZrN (id:Nat) (Q:QS) (s:St):@vR l n P ⟨.exit id⟩ Q s= @vQ Q (.exit id) s:=rfl
theorem ZrO (t:Nat) (Q:QS) (s:St):@vR l n P ⟨.goto t⟩ Q s= @vQ Q (.goto t) s:=rfl
theorem Zug (x y:Code) (Q:QS) (s:St):@vR l n P ⟨.seq x y⟩ Q s= @vR l n P ⟨x⟩ ⟨Xj (@vR l n P ⟨y⟩ Q) Q.q⟩ s:=rfl
theorem ZrL (c:Operand) (x y:Code) (Q:QS) (s:St):@vR l n P ⟨.cond c x y⟩ Q s= @Zf0 (s.eval c) ⟨@vR l n P ⟨x⟩ Q s⟩ ⟨@vR l n P ⟨y⟩ Q s⟩:=rfl
theorem ZpV (id:Nat) (c:Code) (Q:QS) (s:St):@vR l n P ⟨.block id c⟩ Q s= @vR l n P ⟨c⟩ ⟨Td id Q.q⟩ s:=rfl
theorem Znv (id:Nat) (li:List Oper) (Q:QS) (s:St):@vR l n P ⟨.region id li.toArray false⟩ Q s=(Dp li.toArray=true/\ @vA P true ⟨@vQ Q .normal⟩ ⟨li⟩ ⟨li⟩ s):=rfl
theorem ZrM (id:Nat) (li:Array Oper) (Q:QS) (s:St):@vR l n P ⟨.region id li true⟩ Q s=DJ l n P (.region id li true) Q.q s:=rfl
end
attribute [go_sem] ZrQ Zuf ZrN ZrO Zug ZrL ZpV Znv ZrM Dp
open Go.RowKit
section
variable {P:Program} {B:Frm} {S:Stable} {M:Maps} {s:St} {a:Act} {w:World}
theorem Zou {l k:Nat} {o:Obj} (hl:w.heap[l]? = some o) (hc:o.isCells=false):w.cell? ⟨l,k,none⟩=none:=by
 unfold K3;cases o<;>simp_all[Obj.isCells]
theorem Sim.turn (hs:Sim B S M s a w) {l:Nat} {o o':Obj} (hl:w.heap[l]? = some o) (hc:o.isCells=false) (h1:S.m l=none) (h2:s.m.o l=none) (h3:s.m.it l=none) (h4:s.m.om l=none):Sim B S M s a (w.putObj l o'):=by
 have ne:∀k,k≠l->(w.putObj l o').heap[k]? = w.heap[k]? :=λk hk=>Jn hk
 have hst:Stab B S (w.putObj l o') s.m.o s.m.it:=hs.stable.move (JC S) (λb c hb=>(hs.stable.o b c hb).2.1) ⟨λb k v hv=>by
  have h:=hs.stable b k v hv;have hb:b≠l:=λe=>by subst e;rw[Zou hl hc]at h;cases h
  rw[<-h];exact Kq (ne b hb),λb es hb=>by
  rw[ne b (λe=>by subst e;rw[h1]at hb;cases hb)];exact hs.stable.s.m b es hb,λb hb=>by
  obtain⟨vs,t,e⟩:=hs.stable.s.y b hb;exact⟨vs,t,by rw[ne b (λe'=>by subst e';rw[hl]at e;cases e;cases hc)];exact e⟩⟩ (λb c hb=>ne b (λe=>by subst e;rw[h2]at hb;cases hb)) (λb x hb=>ne b (λe=>by subst e;rw[h3]at hb;cases hb))
 exact hs.growX (b:=l) (λvs t f e=>by rw[hl]at e;cases e;cases hc) (JC S) (λk hk hkl o=>rfl) (λk hk hkl=>ne k hkl) (by simp) hst (λk d hk=>⟨(λe=>by subst e;rw[h4]at hk;cases hk),(hs.rm k d hk).2.2.1,(hs.rm k d hk).2.1⟩)
theorem Sim.lay (hs:Sim B S M s a w) (o:Obj):Sim B S M s a (w.alloc o):=
 hs.grow (JC S) (λ_ _=>⟨λ_=>rfl,rfl⟩) (hs.stable.s.old λk hk=>ZZ w o hk) (λk hk=>ZZ w o hk) (by simp)
end
open Go.RowKit
def Zu2 {β:Type} (J:β->World->Prop):Prop:=∀s W,J s W->(∀o,J s (W.alloc o))/\J s { W with drawn:=W.drawn+1 }
def ZxE {α:Type} (n:Nat) (P:Program) (g:Nat) (lb:Array Value) (encs:α->Array Value) (Kp:World->World->Prop) (S Sp:List α->Prop) (N:Nat) (w:World):Prop:=
 ∀(l:Nat) (J Jx:List α->World->Prop) (W:World),Below w.heap.size w W->Zu2 J->Zu2 Jx->
  (∀pre x W1,J pre W1->pre.length<N->YieldAt Fence.wide (n-1) P l (encs x) W1 λe W'=>
   (e= .returned (.bool true)/\J (pre++ [x]) W'/\Kp W1 W')\/(e= .returned (.bool false)/\Jx (pre++ [x]) W'))->
  J [] W->
  CallsIn Fence.wide n P g (#[.func (.yield l) #[] #[]]++lb) W λe W'=>(∃v,e= .returned v)/\((∃xs,S xs/\J xs W')\/(∃pre,Sp pre/\Jx pre W'))
section
variable {P:Program}
def ZkK (P:Program) (gf:FuncId) (caps:List PV) {A:Type} (xs:List A) (enc:A->List PV) (wd:Nat):Prop:=
 VZ P gf/\ ∀(m:Nat) (S:Stable) (w:World) (lb:Array Value),StabS S w->lb.size=caps.length->(∀i,i<caps.length->Rep S (lb.getD i undef) (caps.getD i .any))->
  ∃encs:Fin xs.length->Array Value,(∀k,(encs k).size=wd/\(enc xs[k]).length=wd/\ ∀i,i<wd->Rep S ((encs k).getD i undef) ((enc xs[k]).getD i .any))/\
   ZxE (m+1) P gf lb encs (λW W'=>StabS S W->StabS S W') (λks=>ks=J8 xs.length) (λpre=>pre <+:J8 xs.length) xs.length w
def Book (w:World) (k:Nat):Prop:=(∃r,w.heap[k]? = some (.loop r))\/ ∃d,w.heap[k]? = some (.deferred d)
theorem Book.obj {w:World} {k:Nat} (h:Book w k):∃o,w.heap[k]? = some o/\o.isCells=false/\(∀es n,o≠ .map es n)/\ ∀b n s m,o≠ .mapIter b n s m:=by
 rcases h with ⟨r,h⟩|⟨d,h⟩;exact⟨_,h,rfl,(λ_ _ e=>by cases e),(λ_ _ _ _ e=>by cases e)⟩;exact⟨_,h,rfl,(λ_ _ e=>by cases e),(λ_ _ _ _ e=>by cases e)⟩
theorem Book.no_cells {w:World} {k:Nat} (h:Book w k) {vs:Array Value} {t:TypeId} {f:Nat×Nat}:w.heap[k]? ≠ some (.cells vs t f):=λe=>by
 obtain⟨o,h1,h2,_⟩:=h.obj;rw[h1]at e;cases e;cases h2
theorem Book.no_map {w:World} {k:Nat} (h:Book w k) {es:Array MapEntry} {n:Nat}:w.heap[k]? ≠ some (.map es n):=λe=>by
 obtain⟨o,h1,_,h2,_⟩:=h.obj;rw[h1]at e;cases e;exact h2 _ _ rfl
theorem Book.lt {w:World} {k:Nat} (h:Book w k):k<w.heap.size:=by
 obtain⟨o,h1,_⟩:=h.obj;exact(Je.1 h1).1
variable {B:Frm} {S:Stable} {M:Maps} {s s':St} {a:Act} {w:World}
theorem Sim.widen (hs:Sim B S M s a w) {B':Frm} (h1:∀k,B' k->B k\/Book w k) (hzz:∀k,¬B' k->S.z k):Sim B' S M s a w:=by
 have no:∀ {k},¬B k-> ¬Book w k-> ¬B' k:=λh h' hb=>(h1 _ hb).elim h h'
 refine⟨hs.defers,hs.hn,λk hk=>(h1 k hk).elim (hs.hB k) Book.lt,⟨hs.stable.s,λb c hc=> ?_,λb x hx=> ?_⟩,hs.fr,hs.ids,λid cs hc=> ?_,λid r hr=> ?_,hs.inj,hs.injq,hs.injx,λb c hc=> ?_,hs.vc,hs.pn,hzz⟩;obtain⟨g1,g2,g3⟩:=hs.stable.o b c hc;refine⟨no g1 λhb=> ?_,g2,g3⟩;obtain⟨es,h,_⟩:=g3;exact hb.no_map h;obtain⟨g1,g2,g3⟩:=hs.stable.i b x hx;refine⟨no g1 λhb=> ?_,g2,g3⟩;obtain⟨o,e1,_,_,e2⟩:=hb.obj;unfold IterAt at g2;rw[e1]at g2;cases g2;exact e2 _ _ _ _ rfl;have h:=hs.blk id cs hc;cases hz:s.m.z id with
 |true=>rw[hz]at h;exact h
 |false=>
  rw[hz]at h;obtain⟨g1,g2,⟨vs,t,g3,g4⟩,g5⟩:=h;exact⟨no g1 λhb=>hb.no_cells g3,g2,⟨vs,t,g3,g4⟩,g5⟩
 have h:=hs.row id r hr;cases r with
 |dead=>trivial
 |live n sz e=>
  obtain⟨g1,g2⟩:=h;refine⟨g1,λc hc=> ?_⟩;obtain⟨p1,p2,p3,⟨vs,p4,p5⟩,p6⟩:=g2 c hc;exact⟨p1,p2,no p3 λhb=>hb.no_cells p4,⟨vs,p4,p5⟩,p6⟩
 |vec n sz e=>
  obtain⟨g1,g2⟩:=h;refine⟨g1,λc hc=> ?_⟩;obtain⟨p1,p2,p3,⟨vs,p4,p5⟩,p6⟩:=g2 c hc;exact⟨p1,p2,no p3 λhb=>hb.no_cells p4,⟨vs,p4,p5⟩,p6⟩
 obtain⟨g1,g2,g3,g4⟩:=hs.rm b c hc;refine⟨no g1 λhb=> ?_,g2,g3,g4⟩;obtain⟨⟨es,h,_⟩,_⟩:=g4;exact hb.no_map h
theorem Sim.book (hs:Sim B S M s a w) {l:Nat} (hl:Book w l) (o':Obj):Sim B S M s a (w.putObj l o'):=by
 obtain⟨o,h1,h2,h3,h4⟩:=hl.obj;refine hs.turn h1 h2 ?_ ?_ ?_ ?_;cases e:S.m l with
 |none=>rfl
 |some es=>exact absurd (hs.stable.s.m l es e) hl.no_map
 cases e:s.m.o l with
 |none=>rfl
 |some c=>obtain⟨_,_,es,h,_⟩:=hs.stable.o l c e;exact absurd h hl.no_map
 cases e:s.m.it l with
 |none=>rfl
 |some x=>
  obtain⟨_,h,_⟩:=hs.stable.i l x e;unfold IterAt at h;rw[h1]at h;cases h;exact absurd rfl (h4 _ _ _ _)
 cases e:s.m.om l with
 |none=>rfl
 |some c=>obtain⟨_,_,_,⟨es,h,_⟩,_⟩:=hs.rm l c e;exact absurd h hl.no_map
theorem StabS.below {S S':Stable} {w:World} (h:StabS S' w) (hle:SLe S S'):StabS S w:=⟨λb o v hv=>h.c b o v (hle _ _ _ hv),λb es he=>h.m b es (hle.m _ _ he),λb hb=>h.y b (hle.y b hb)⟩
theorem Sim.reslot (hs:Sim B S M s a w) {a':Act} {f:Nat->PV} {n:Nat} (hd:a'.defers= []) (hn:a'.tmps.size=n) (fr:∀i,RepS S M s.m.q (a'.tmps.getD i undef) (f i)) (ids:∀i r,r∈(f i).ids->ZX s.m r):Sim B S M ⟨f,s.m,n⟩ a' w:=
 ⟨hd,hn,hs.hB,hs.stable,fr,ids,hs.blk,hs.row,hs.inj,hs.injq,hs.injx,hs.rm,hs.vc,hs.pn,hs.hz⟩
def putL (s:St):List (Nat×PV)->St
 | []=>s
 |x::l=>putL (s.put (some x.1) x.2) l
theorem Sim.putL:∀(l:List (Nat×PV)) (vs:List Value) {s:St} {a:Act},Sim B S M s a w->vs.length=l.length->(∀x∈l,x.1<s.n)->(∀x∈l,x.2.ids= [])->(∀i,i<l.length->Rep S (vs.getD i undef) (l.getD i (0,.any)).2)->
  Sim B S M (putL s l) { tmps:=((l.map (·.1)).zip vs).foldl (λt x=>t.setIfInBounds x.1 x.2) a.tmps,defers:= [] } w
 | [],vs,s,a,hs,_,_,_,_=>by
  have:a= { tmps:=a.tmps,defers:= [] }:=by rw[<-hs.defers]
  simp only[PL.putL,JY,List.zip_nil_left,List.foldl_nil];rw[<-this];exact hs
 |x::l,[],s,a,hs,h,_,_,_=>by simp at h
 |x::l,v::vs,s,a,hs,hl,hn,hi,hr=>by
  have h1:=hs.put (d:=some x.1) (v:=v) (p:=x.2) (λy e=>by cases e;exact hn x (by simp)) (.clean (hr 0 (by simp))) (λr hr'=>by rw[hi x (by simp)]at hr';cases hr');have h2:=Sim.putL l vs h1 (by simpa using hl) (λy hy=>hn y (by simp[hy])) (λy hy=>hi y (by simp[hy])) (λi hi=>hr (i+1) (by simpa using hi));exact h2
structure MemT where
 H:List (Nat×List PV×Bool)
 R:List (Nat×Row)
 V:List (Nat×List PV)
abbrev mkT (n:Nat) (L:List (Nat×PV)) (m:MemT) (p:List (Nat×Nat)):St:=mkStX n L m.H m.R [] [] m.V [] p [] []
abbrev HasT (n:Nat) (L:List (Nat×PV)) (m:MemT) (p:List (Nat×Nat)) (s:St):Prop:=HasX n L m.H m.R [] [] m.V [] p [] s
abbrev WholeT (L:List (Nat×PV)) (m:MemT) (p:List (Nat×Nat)):Prop:=WholeX L m.H m.R m.V [] p []
def Zqo (n:Nat) (m mx:MemT) (Y X:Prop) (p:List (Nat×Nat)):Exit->St->Prop
 | .normal,s=>Y/\HasT n [] m p s
 | .ret,s=>X/\HasT n [] mx p s
 |_,_=>False
def TH (pin:List Nat) (φ:Nat->Nat):List (Nat×Nat):=pin.map λi=>(i,φ i)
theorem Ext.mono {B B':Frm} {S S':Stable} {w w':World} (h:Ext B' S S' w w') (hb:∀k,B k->B' k):Ext B S S' w w':=⟨h.1,λb hb'=>h.2.1 b (hb b hb'),h.2.2.mono hb⟩
theorem Zdg {cs:List PV} (h:JN cs= []) {i:Nat} (hi:i<cs.length):(cs.getD i .any).ids= []:=by
 refine Jq.2 λr hr=> ?_
 have:r∈JN cs:=JR.2 ⟨_,Ze hi,hr⟩;rw[h]at this;cases this
theorem RepS.rep0 {S:Stable} {M:Maps} {q:Rows} {v:Value} {p:PV} (r:RepS S M q v p) (h:p.ids= []):Rep S v p:=by
 induction r with
 |clean r=>exact r
 |ptr id off=>simp[JA]at h
 |osl id off len cap sz hc=>simp[JA]at h
 |row id v es r t=>simp[JA]at h
 |vsl id len sz v hv t=>simp[JA]at h
 |vptr id n sz i off v hv hi t=>simp[JA]at h
 |agg vs cs hl _ ih=>exact .agg vs cs hl λi hi=>ih i hi (Zdg (by simpa[JA]using h) hi)
 |tup vs cs hl _ ih=>exact .tup vs cs hl λi hi=>ih i hi (Zdg (by simpa[JA]using h) hi)
 |fn f vs cs hl _ ih=>exact .fn f vs cs hl λi hi=>ih i hi (Zdg (by simpa[JA]using h) hi)
theorem ZnO {ps:Array Nat} {vs:Array Value} (t:Array Value):(ps.zip vs).foldl (λt (p,v)=>t.setIfInBounds p v) t=(ps.toList.zip vs.toList).foldl (λt x=>t.setIfInBounds x.1 x.2) t:=by
 rw[<-Array.foldl_toList,Array.toList_zip]
theorem Zit {pin:List Nat} {φ:Nat->Nat} {i:Nat} (h:i∈pin) (f:Nat->Option Nat):Yz ((TH pin φ).map λx=>(x.1,some x.2)) f i=some (φ i):=by
 induction pin with
 |nil=>cases h
 |cons j pin ih=>
  show upd (Yz ((TH pin φ).map λx=>(x.1,some x.2)) f) j (some (φ j)) i=some (φ i);by_cases e:j=i;subst e;rw[Za];rw[Zk _ _ e];exact ih ((Js.1 h).resolve_left λe'=>e e'.symm)
theorem Sim.pin (hs:Sim B S M s a w) {pin:List Nat} (hp:∀i∈pin,s.m.h i≠none):Sim B S M { s with m:= { s.m with ph:=Yz ((TH pin M.φ).map λx=>(x.1,some x.2)) λ_=>none } } a w:=by
 refine⟨hs.defers,hs.hn,hs.hB,hs.stable,hs.fr,(λi r hr=>by have:=hs.ids i r hr;cases r<;>exact this),(λid cs hc=> ?_),hs.row,hs.inj,hs.injq,hs.injx,(λb c hc=> ?_),(λid es he=> ?_),⟨(λid b hb=> ?_),hs.pn.q⟩,hs.hz⟩;have:=hs.blk id cs hc;cases hz:s.m.z id with
 |true=>rw[hz]at this;exact this
 |false=>
  rw[hz]at this;obtain⟨g1,g2,g3,g4⟩:=this;exact⟨g1,g2,g3,λc hc i hi=>by have:=g4 c hc i hi;cases i<;>exact this⟩
 obtain⟨g1,g2,g3,g4,g5⟩:=hs.rm b c hc;exact⟨g1,g2,g3,g4,λp hp i hi=>by have:=g5 p hp i hi;cases i<;>exact this⟩;obtain⟨sz,e,q1,q2,q3,q4⟩:=hs.vc id es he;exact⟨sz,e,q1,q2,(λp hp i hi=>by have:=q3 p hp i hi;cases i<;>exact this),q4⟩;rcases VW hb with h|h;obtain⟨i,hi,e⟩:=Jc.1 h;cases e;exact⟨hp _ hi,rfl⟩;cases h
theorem HasT.pin {n:Nat} {L:List (Nat×PV)} {m:MemT} {pin:List Nat} {φ:Nat->Nat} (h:HasT n L m [] s):HasT n L m (TH pin φ) { s with m:= { s.m with ph:=Yz ((TH pin φ).map λx=>(x.1,some x.2)) λ_=>none } }:=
 ⟨⟨h.b.n,h.b.fr,h.b.h,h.b.q⟩,h.o,h.it,h.v,h.om,(λx hx=>by
  obtain⟨i,hi,rfl⟩:=Jc.1 hx;exact Zit hi _),h.pq⟩
theorem Sim.back {S2:Stable} {M2:Maps} {s2:St} {a2:Act} {w2:World} {n:Nat} {L:List (Nat×PV)} {m m2:MemT} {pin:List Nat} {φ:Nat->Nat} (hs:Sim B S M (mkT n L m (TH pin φ)) a w) (hle:SLe S S2) (hs2:Sim B S2 M2 s2 a2 w2) (h2:HasT n [] m2 (TH pin φ) s2)
  (hL:∀x∈L,∀r∈x.2.ids,∃i∈pin,r= .b i) (hw0:WholeT [] m2 (TH pin φ)):Sim B S2 M2 (mkT n L m2 (TH pin φ)) a w2:=by
 have h3:Sim B S2 M2 (mkT n [] m2 (TH pin φ)) a2 w2:=hs2.weak (h2.weak hw0) (Refs.mkStX hw0);have hin:∀i,∀r∈((mkT n L m (TH pin φ)).fr i).ids,∃j∈pin,r= .b j:=λi r hr=>by
  have h0:∀(L:List (Nat×PV)),(∀x∈L,∀r∈x.2.ids,∃i∈pin,r= .b i)-> ∀r∈(Yz L (λ_=>K0) i).ids,∃j∈pin,r= .b j:=λL=>by
   induction L with
   |nil=>intro _ r hr;cases hr
   |cons x L ih=>
    intro hL r hr;have hr:r∈(upd (Yz L λ_=> .any) x.1 x.2 i).ids:=hr;by_cases e:x.1=i;rw[e,Za]at hr;exact hL x (by simp) r hr;rw[Zk _ _ e]at hr;exact ih (λy hy=>hL y (by simp[hy])) r hr
  exact h0 L hL r hr
 have p1:∀i∈pin,M.φ i=φ i:=λi hi=>(hs.pn.h i (φ i) (Zit hi _)).2
 have p2:∀i∈pin,M2.φ i=φ i/\(mkT n [] m2 (TH pin φ)).m.h i≠none:=λi hi=>⟨(h3.pn.h i (φ i) (Zit hi _)).2,(h3.pn.h i (φ i) (Zit hi _)).1⟩
 refine h3.reslot (n:=n) (f:=(mkT n L m (TH pin φ)).fr) hs.defers hs.hn (λi=>(hs.fr i).heap hle (λid hid=> ?_) (λid hid=> ?_)) (λi r hr=> ?_);obtain⟨j,hj,e⟩:=hin i _ hid;cases e;rw[(p2 _ hj).1,p1 _ hj];obtain⟨j,hj,e⟩:=hin i _ hid;cases e;obtain⟨j,hj,rfl⟩:=hin i r hr;exact(p2 j hj).2
theorem WholeT.noL {L:List (Nat×PV)} {m:MemT} {p:List (Nat×Nat)} (h:WholeT L m p):WholeT [] m p:=⟨⟨fnl,h.t.2⟩,h.v,h.om,h.vr,h.pr,h.qr⟩
theorem BelowF.putB {B:Frm} {w w':World} {l:Nat} {o:Obj} (h:BelowF B w w') (hb:¬B l):BelowF B w (w'.putObj l o):=
 ⟨h.os,h.tape,h.output,by have:=h.size;simp;omega,λk hk=>(Jn (λe=>by subst e;exact hb hk)).trans (h.block k hk)⟩
theorem ZkD {A:Type} {gf:Nat} {caps:List PV} {xs:List A} {enc:A->List PV} {N n:Nat} {g:Operand} {ps:Array Tmp} {assign body:Code} {Q:Exit->Act->World->Prop} {L:List (Nat×PV)} {pin:List Nat} {mt mx:List A->MemT} {Y X:List A->Prop}
  (hs:Sim B S M s a w) (hg:s.eval g= .fn gf caps) (hcaps:∀p∈caps,p.ids= []) (hseq:ZkK P gf caps xs enc ps.size) (henc:∀x∈xs,∀p∈enc x,p.ids= []) (hps:∀t∈ps,t<n)
  (h0:HasT n L (mt []) [] s) (hL:∀x∈L,∀r∈x.2.ids,∃i∈pin,r= .b i) (hp:∀i∈pin,s.m.h i≠none) (hY:Y [])
  (hw:∀pre φ,WholeT L (mt pre) (TH pin φ)) (hwx:∀pre φ,WholeT L (mx pre) (TH pin φ))
  (round:∀(l:Nat) (φ:Nat->Nat) (pre:List A) (x:A),x∈xs->pre.length<xs.length->Y pre->
   DJ l N P assign (Xj (DJ l N P body (Zqo n (mt (pre++ [x])) (mx (pre++ [x])) (Y (pre++ [x])) (X (pre++ [x])) (TH pin φ))) (λ_ _=>False)) (putL (mkT n L (mt pre) (TH pin φ)) (ps.toList.zip (enc x))))
  (done:∀D φ S' M' W,Y xs->Sim B S' M' (mkT n L (mt xs) (TH pin φ)) a W->Ext B S S' w W->W.heap[D]? = some (.deferred (some []))->w.heap.size<=D->Q .normal { a with defers:= { target:= .collected D,args:= #[] }::a.defers } W)
  (stop:∀D φ pre S' M' W,pre <+:xs->X pre->Sim B S' M' (mkT n L (mx pre) (TH pin φ)) a W->Ext B S S' w W->W.heap[D]? = some (.deferred (some []))->w.heap.size<=D->Q .ret { a with defers:= { target:= .collected D,args:= #[] }::a.defers } W):
  (Code.rangeFunc g ps assign body).wpIn Fence.wide (N+2) P Q a w:=by
 refine wpIn_rangeFunc ?_;intro fn hfn;have hro:Fence.wide.round=none:=rfl;rw[hro];obtain⟨rec,hrec⟩:∃rec:LoopState->Option Code->Loop,rec=λst pe=> { state:=st,pending:=pe,fn,tmps:=a.tmps,params:=ps,assign,body,defers:=w.heap.size }:=⟨_,rfl⟩
 obtain⟨W1,hW1⟩:∃W1,(w.alloc (.deferred (some []))).alloc (.loop (rec .ready none))=W1:=⟨_,rfl⟩;have hL1:W1.heap[w.heap.size+1]? = some (.loop (rec .ready none)):=by
  rw[<-hW1];have:=Kt (w.alloc (.deferred (some []))) (.loop (rec .ready none));rwa[World.size_alloc]at this
 have hK1:W1.heap[w.heap.size]? = some (.deferred (some [])):=by
  rw[<-hW1];exact(Below.heap_alloc _ _ _ (by simp)).trans (Kt w _)
 have eg:=hs.eval g;rw[hg]at eg;obtain⟨lb,hlb,hll,hlr⟩:=eg.fn_inv;obtain⟨hcal,hgive⟩:=hseq;obtain⟨gfn,c1,c2,c3⟩:=hcal;have hlbr:∀i,i<caps.length->Rep S (lb.getD i undef) (caps.getD i .any):=λi hi=>by
  exact(hlr i hi).rep0 (hcaps _ (Ze hi))
 have hst1:StabS S W1:=by
  have:=((hs.lay (.deferred (some []))).lay (.loop (rec .ready none))).stable.s;rw[hW1]at this;exact this
 obtain⟨encs,henc1,hseq⟩:=hgive N S W1 ⟨lb⟩ hst1 (by simpa using hll) (λi hi=>by simpa[Jb,Ji]using hlbr i hi);have hWb:Below w.heap.size w W1:=by
  rw[<-hW1];exact(((Below.refl _ w).alloc (JE _) _).alloc (by simp) _)
 have hWs:W1.heap.size=w.heap.size+2:=by rw[<-hW1];simp
 -- the frame of the rounds:the book is left alone too
 obtain⟨B',hB'⟩:∃B':Frm,B'=λk=>B k\/k=w.heap.size\/k=w.heap.size+1:=⟨_,rfl⟩
 have hBB:∀k,B k->B' k:=λk hk=>by rw[hB'];exact .inl hk
 have hBD:B' w.heap.size:=by rw[hB'];exact .inr (.inl rfl)
 have hBl:B' (w.heap.size+1):=by rw[hB'];exact .inr (.inr rfl)
 let φ:Nat->Nat:=M.φ;let J:List (Fin xs.length)->World->Prop:=λpre W=>∃S' M',Y (pre.map λk=>xs[k])/\Sim B' S' M' (mkT n L (mt (pre.map λk=>xs[k])) (TH pin φ)) a W/\Ext B S S' w W/\
  W.heap[w.heap.size+1]? = some (.loop (rec .ready none))/\W.heap[w.heap.size]? = some (.deferred (some []))
 let Jx:List (Fin xs.length)->World->Prop:=λpre W=>∃S' M',X (pre.map λk=>xs[k])/\Sim B' S' M' (mkT n L (mx (pre.map λk=>xs[k])) (TH pin φ)) a W/\Ext B S S' w W/\
  W.heap[w.heap.size+1]? = some (.loop (rec .done (some .ret)))/\W.heap[w.heap.size]? = some (.deferred (some []))
 have calm:∀(Z:List (Fin xs.length)->Prop) (st:List (Fin xs.length)->St) (o:Obj),Zu2 λpre W=>∃S' M',Z pre/\Sim B' S' M' (st pre) a W/\Ext B S S' w W/\W.heap[w.heap.size+1]? = some o/\W.heap[w.heap.size]? = some (.deferred (some [])):=by
  rintro Z st o pre W ⟨S',M',g0,g1,g2,g3,g4⟩;have l1:=(Je.1 g3).1;have l2:=(Je.1 g4).1;refine⟨λo=>⟨S',M',g0,g1.lay o,g2.trans ⟨JC _,λ_ _=>⟨λ_=>rfl,rfl⟩,(JL B W).alloc (λk hk=>g1.hB k (hBB k hk)) o⟩,(Below.heap_alloc W o _ l1).trans g3,(Below.heap_alloc W o _ l2).trans g4⟩,⟨S',M',g0,g1.world rfl,g2.trans ⟨JC _,λ_ _=>⟨λ_=>rfl,rfl⟩,(JL B W).drew⟩,g3,g4⟩⟩
 have hc2:gfn.body≠none:=by intro h;simp[h]at c3
 refine⟨w.heap.size+1,[{ target:= .collected w.heap.size,args:= #[] }],W1,{ target:= .fn (.func gf) ⟨lb⟩,args:= #[.func (.yield (w.heap.size+1)) #[] #[]] },W1,gf,
  #[.func (.yield (w.heap.size+1)) #[] #[]]++⟨lb⟩,W1,?_,?_,?_,?_,(λh=>by cases h),?_⟩
 rw[<-hW1,hrec];exact run_enterLoop_outer _ _ _ _ _;simp only[resolve,hlb];simp[go_sem];intro f' hf';trivial;have hb:¬gfn.body=none:=hc2;simp[invoke,callFunc,program,K1,c1,hb,c2];have hJ0:J [] W1:=by
  have h1:Sim B S M s a W1:=by rw[<-hW1];exact(hs.lay _).lay _
  have h2:Sim B' S M s a W1:=h1.widen (hzz:=λk hk=>hs.hz k λh=>hk (hBB k h)) λk hk=>by
   rw[hB']at hk;rcases hk with hk|rfl|rfl;exact .inl hk;exact .inr (.inr ⟨_,hK1⟩);exact .inr (.inl ⟨_,hL1⟩)
  exact⟨S,M,hY,(h2.pin hp).weak (h0.pin.weak (hw [] φ)) (Refs.mkStX (hw [] φ)),⟨JC _,(λ_ _=>⟨λ_=>rfl,rfl⟩),(BelowF.of hWb).mono hs.hB⟩,hL1,hK1⟩
 have hw0:∀pre φ,WholeT [] (mt pre) (TH pin φ):=λpre φ=>(hw pre φ).noL
 have hwx0:∀pre φ,WholeT [] (mx pre) (TH pin φ):=λpre φ=>(hwx pre φ).noL
 refine(hseq (w.heap.size+1) J Jx W1 (Below.refl _ _) (calm _ _ _) (calm _ _ _) ?_ hJ0).mono ?_
 · -- one round
  rintro pre k W ⟨S',M',g0,g1,g2,g3,g4⟩ hlen;obtain⟨e1,e2,e3⟩:=henc1 k;have hy:=run_yield (P:=P) (args:=encs k) g3 (by rw[hrec];exact e1);rw[hrec]at hy;simp only[ZnO]at hy;refine⟨fn,_,assign,body,hy,roundIn_of_wpIn hfn ?_⟩;have hlt:w.heap.size+1<W.heap.size:=(Je.1 g3).1;have hx:xs[k]∈xs:=Kc _;have hpl:(pre.map λk=>xs[k]).length<xs.length:=by rw[Kh];exact hlen
  have hzl:ps.toList.length=(enc xs[k]).length:=by rw[e2];simp
  have st:=Sim.putL (ps.toList.zip (enc xs[k])) (encs k).toList g1 (by simp only[List.length_zip,Array.length_toList];omega) (λx hx=>hps _ (by have:=(KQ hx).1;simpa using this)) (λx hx'=>henc _ hx _ (KQ hx').2) (λi hi=>by
   have hi':i<ps.size:=by simp at hi;omega
   have h1:=(e3 i hi').mono g2.1;have h2:i<(enc xs[k]).length:=by omega
   rw[getD_lt hi,List.getElem_zip];rw[getD_lt h2]at h1;have e:(encs k).toList.getD i undef=(encs k).getD i undef:=by simp[Jb,Ji]
   rw[e];exact h1)
  rw[List.map_fst_zip (by omega)]at st;have hround:=round (w.heap.size+1) φ (pre.map λk=>xs[k]) xs[k] hx hpl g0;have hcat:(pre++ [k]).map (λk=>xs[k])=(pre.map λk=>xs[k])++ [xs[k]]:=by simp
  refine wpIn_mono (hround B' S' M' _ W st) ?_;rintro e a1 w1 ⟨s1,S1,M1,q1,q2,q3⟩;cases e with
  |normal=>
   have hl1:w1.heap[w.heap.size+1]? = some (.loop (rec .ready none)):=(q3.2.2.block _ hBl).trans g3;have hk1:w1.heap[w.heap.size]? = some (.deferred (some [])):=(q3.2.2.block _ hBD).trans g4;refine⟨_,run_beginRound hl1 (by rw[hrec]),?_⟩;have hl2:(w1.putObj (w.heap.size+1) (.loop { rec .ready none with state:= .busy })).heap[w.heap.size+1]? = some (.loop { rec .ready none with state:= .busy }):=Kg (Je.1 hl1).1;have hk2:(w1.putObj (w.heap.size+1) (.loop { rec .ready none with state:= .busy })).heap[w.heap.size]? = some (.deferred (some [])):=(Jn (by omega)).trans hk1;have q2':=q2.book (.inl ⟨_,hl1⟩) (.loop { rec .ready none with state:= .busy });have x2:Ext B S' S1 W (w1.putObj (w.heap.size+1) (.loop { rec .ready none with state:= .busy })):=⟨q3.1,λb hb=>q3.2.1 b (hBB b hb),(q3.2.2.mono hBB).putB (λhb=>by have:=hs.hB _ hb;omega)⟩;refine wpIn_mono (q1 B' S1 M1 a1 _ q2') ?_;rintro e2 a2 w2 ⟨s2,S2,M2,r1,r2,r3⟩;have hl3:w2.heap[w.heap.size+1]? = some (.loop { rec .ready none with state:= .busy }):=(r3.2.2.block _ hBl).trans hl2;have hk3:w2.heap[w.heap.size]? = some (.deferred (some [])):=(r3.2.2.block _ hBD).trans hk2;have hle:SLe S' S2:=q3.1.trans r3.1;have fin:∀(jump:Option Code) (m2:MemT),HasT n [] m2 (TH pin φ) s2->WholeT [] m2 (TH pin φ)->
     (Instr.endRound (w.heap.size+1) jump).run P w2= .ok (.bool jump.isNone) (w2.putObj (w.heap.size+1) (.loop (rec (if jump.isNone then .ready else .done) jump)))/\
     Sim B' S2 M2 (mkT n L m2 (TH pin φ)) a (w2.putObj (w.heap.size+1) (.loop (rec (if jump.isNone then .ready else .done) jump)))/\
     Ext B S S2 w (w2.putObj (w.heap.size+1) (.loop (rec (if jump.isNone then .ready else .done) jump)))/\
     (w2.putObj (w.heap.size+1) (.loop (rec (if jump.isNone then .ready else .done) jump))).heap[w.heap.size+1]? = some (.loop (rec (if jump.isNone then .ready else .done) jump))/\
     (w2.putObj (w.heap.size+1) (.loop (rec (if jump.isNone then .ready else .done) jump))).heap[w.heap.size]? = some (.deferred (some [])):=λjump m2 hh hwh=>by
    have:=run_endRound (P:=P) jump hl3;rw[hrec]at this ⊢;refine⟨this,(g1.back hle r2 hh hL hwh).book (.inl ⟨_,hl3⟩) _,(g2.trans x2).trans ⟨r3.1,λb hb=>r3.2.1 b (hBB b hb),(r3.2.2.mono hBB).putB (λhb=>by have:=hs.hB _ hb;omega)⟩,Kg (Je.1 hl3).1,(Jn (by omega)).trans hk3⟩
   cases e2 with
   |normal=>
    obtain⟨f1,f2,f3,f4,f5⟩:=fin none _ r1.2 (hw0 _ φ);exact⟨_,_,f1,.inl ⟨rfl,⟨S2,M2,by rw[hcat];exact r1.1,by rw[hcat];exact f2,f3,f4,f5⟩,λ_=>f2.stable.s.below (g2.1.trans hle)⟩⟩
   |ret=>
    obtain⟨f1,f2,f3,f4,f5⟩:=fin (some .ret) _ r1.2 (hwx0 _ φ);exact⟨_,_,f1,.inr ⟨rfl,S2,M2,by rw[hcat];exact r1.1,by rw[hcat];exact f2,f3,f4,f5⟩⟩
   |exit id=>exact r1.elim
   |goto t=>exact r1.elim
   |panic c=>exact r1.elim
   |outgrown=>exact r1.elim
  |ret=>exact q1.elim
  |exit id=>exact q1.elim
  |goto t=>exact q1.elim
  |panic c=>exact q1.elim
  |outgrown=>exact q1.elim
 -- behind the iterator
 rintro e W2 ⟨⟨v,rfl⟩,(⟨ys,rfl,S',M',g0,g1,g2,g3,g4⟩|⟨pre,hpre,S',M',g0,g1,g2,g3,g4⟩)⟩
 ·subst hrec;have hr:=run_endLoop (P:=P) g3 (by simp);refine⟨none,_,hr,?_⟩;have he:(J8 xs.length).map (λk=>xs[k])=xs:=by
   apply KK;simp;intro i h1 h2;simp
  have g1':=λo=>(g1.widen (B':=B) (hzz:=hs.zle g2.1) λk hk=> .inl (hBB k hk)).book (.inl ⟨_,g3⟩) o
  rw[he]at g1' g0;exact done w.heap.size φ S' M' _ g0 (g1' _) (g2.trans ⟨JC _,(λ_ _=>⟨λ_=>rfl,rfl⟩),(JL _ _).putB (λhb=>by have:=hs.hB _ hb;omega)⟩) ((Jn (by omega)).trans g4) (JE _)
 subst hrec;have hr:=run_endLoop (P:=P) g3 (by simp);refine⟨some .ret,_,hr,?_⟩;have hpx:(pre.map λk=>xs[k]) <+:xs:=by
  have he:(J8 xs.length).map (λk=>xs[k])=xs:=by
   apply KK;simp;intro i h1 h2;simp
  have:=hpre.map (λk=>xs[k]);rwa[he]at this
 have g1':=λo=>(g1.widen (B':=B) (hzz:=hs.zle g2.1) λk hk=> .inl (hBB k hk)).book (.inl ⟨_,g3⟩) o
 exact wpIn_ret (stop w.heap.size φ _ S' M' _ hpx g0 (g1' _) (g2.trans ⟨JC _,(λ_ _=>⟨λ_=>rfl,rfl⟩),(JL _ _).putB (λhb=>by have:=hs.hB _ hb;omega)⟩) ((Jn (by omega)).trans g4) (JE _))
end
open Go.RowKit
end Go.PL
namespace Go.PL
open Go.RowKit
section
variable {P:Program} {l n:Nat} {s s':St} {Q Q':Exit->St->Prop}
theorem Zc3 {c:Code} {ι:Type} (I:ι->St) (μ:ι->Nat) (i0:ι) (h0:Weak (I i0) s) (hr:Refs s-> ∀i,Refs (I i))
  (round:∀i,DJ l n P c (Xj (λs'=>∃j,μ j<μ i/\Weak (I j) s') Q) (I i)):DJ l n P (.loop c) Q s:=λB S M a w hs=>by
 have hrefs:=hr hs.refs;have key:∀(k:Nat) (i:ι),μ i<k-> ∀S1 M1 a1 w1,Sim B S1 M1 (I i) a1 w1->Ext B S S1 w w1->
   Code.roundsIn (Fence.wide.inRound l) n P c (λe a' w'=>∃s' S' M',Q e s'/\Sim B S' M' s' a' w'/\Ext B S S' w w') k a1 w1:=by
  intro k
  induction k with
  |zero=>intro i hi;omega
  |succ k ih=>
   intro i hi S1 M1 a1 w1 hs1 he1;rw[roundsIn_succ];refine wpIn_mono (round i B S1 M1 a1 w1 hs1) λe a' w' hq=> ?_
   obtain⟨s',S',M',h1,h2,h3⟩:=hq;cases e with
   |normal=>
    obtain⟨j,hj,hwk⟩:=h1;exact ih j (by omega) S' M' a' w' (h2.weak hwk (hrefs j)) (he1.trans h3)
   |_=>exact⟨s',S',M',h1,h2,he1.trans h3⟩
 exact wpIn_loop_rounds (μ i0+1) (key _ i0 (Kb _) S M a w (hs.weak h0 (hrefs i0)) (Jt _ _ _))
def Zu4 {ι:Type} (n:Nat) (L:ι->List (Nat×PV)) (m:ι->MemT) (p:List (Nat×Nat)) (μ:ι->Nat) (i:ι) (s':St):Prop:=∃j,μ j<μ i/\HasT n (L j) (m j) p s'
theorem Zue {c:Code} {ι:Type} {n1:Nat} (L:ι->List (Nat×PV)) (m:ι->MemT) (p:List (Nat×Nat)) (μ:ι->Nat) (i0:ι)
  (h0:HasT n1 (L i0) (m i0) p s) (hr:∀i,WholeT (L i) (m i) p)
  (round:∀i,@vR l n P ⟨c⟩ ⟨Xj (Zu4 n1 L m p μ i) Q⟩ (mkT n1 (L i) (m i) p)):DJ l n P (.loop c) Q s:=
 Zc3 (λi=>mkT n1 (L i) (m i) p) μ i0 (h0.weak (hr i0)) (λ_ i=>Refs.mkStX (hr i)) λi=>Zew (λe s' h=>by
  cases e with
  |normal=>obtain⟨j,hj,hm⟩:=h;exact⟨j,hj,hm.weak (hr j)⟩
  |_=>exact h) (FI (round i))
theorem ZrP (c:Code) (Q:QS) (s:St):@vR l n P ⟨.loop c⟩ Q s=DJ l n P (.loop c) Q.q s:=rfl
end
attribute [go_sem] ZrP
open Go.RowKit
def md (a:Act) (D:List Deferred):Act:= { tmps:=a.tmps,defers:=a.defers++D }
theorem Zq1 (a:Act) (D:List Deferred):(md a D).eval=a.eval:=rfl
theorem Zcc (a:Act) (D:List Deferred) (d:Option Tmp) (v:Value):(md a D).put d v=md (a.put d v) D:=by cases d<;>rfl
section
variable {P:Program} {n:Nat} {D:List Deferred}
theorem Zmv {o:Oper} {a:Act} {w:World} {next:Act->World->Prop} {Q:Exit->Act->World->Prop} (h:o.wp P a w (λa w=>next (md a D) w) (λe a w=>Q e (md a D) w)):o.wpIn Fence.wide n P (md a D) w next Q:=by
 refine⟨λf _=>trivial,?_⟩;rw[show Fence.wide.round=none from rfl,Oper.semAt_none,Zq1];unfold Oper.wp at h;generalize (execOp a.eval o).run P w=r at h ⊢;cases r with
 |ok x w'=>
  cases x with
  |value v=>rw[Oper.uponIn_value,Zcc];exact h
  |skip=>rw[Oper.uponIn_skip,Zcc];exact h
  |defer d=>
   rw[Oper.uponIn_defer];have e:({ md a D with defers:=d::(md a D).defers }:Act)=md { a with defers:=d::a.defers } D:=rfl;rw[e,Zcc];exact h
  |enter f args=>
   refine⟨λhh=>absurd (show false=true from hh) (by decide),((callsIn_wide (n:=n-1)).2 h).mono ?_⟩;intro e w'' he;cases e with
   |returned v=>show next ((md a D).put o.dst v) w'';rw[Zcc];exact he
   |panicked c=>exact he
   |outgrown=>obtain⟨a1,w1,h1⟩:LetsOut (λe a w=>Q e (md a D) w):=he;exact⟨_,w1,h1⟩
  |row row args=>
   refine⟨λhh=>absurd (show false=true from hh) (by decide),λc cs _=> ?_⟩;obtain⟨v,w'',r,s⟩:=h c cs;exact⟨v,w'',by show next ((md a D).put o.dst v) w'';rw[Zcc];exact r,stepsIn_wide.2 s⟩
  |_=>first|exact h|exact False.elim h
 |halt x w'=>cases x<;>exact h
def Zk8 (D:List Deferred) (n:Nat) (P:Program) (c:Code) (Q:Exit->St->Prop) (s:St):Prop:=
 ∀B S M a w,Sim B S M s a w->c.wpIn Fence.wide n P (λe a' w'=>∃s' S' M' a0,Q e s'/\a'=md a0 D/\Sim B S' M' s' a0 w'/\Ext B S S' w w') (md a D) w
theorem Sb {B:Frm} {ops:Array Oper} {K:St->Prop} {Qc:Exit->Act->World->Prop} {S0:Stable} {w0:World} (hQ:∀s' S' M' a' w',K s'->Sim B S' M' s' a' w'->Ext B S0 S' w0 w'->Qc .normal (md a' D) w'):
  ∀(li:List Oper) (k:Nat) (s:St),(∀j,li[j]? = ops[k+j]?)->ZkH P ops K li s-> ∀S M a w,Sim B S M s a w->Ext B S0 S w0 w->wpOpsIn Fence.wide n P ops Qc (K6 k li.length) (md a D) w
 | [],k,s,_,h,S,M,a,w,hs,he=>hQ s S M a w h hs he
 |o::rest,k,s,hl,h,S,M,a,w,hs,he=>by
  have h0:ops[k]? = some o:=by simpa using(hl 0).symm
  have hl':∀j,rest[j]? = ops[(k+1)+j]? :=λj=>by have:=hl (j+1);simpa[Kv,KA 1 j]using this
  obtain⟨hd,h⟩:=h;simp only[Ka,KJ,wpOpsIn,h0];rcases h with ⟨hg,⟨v,m',hst,hrest⟩|hsp⟩|⟨hg,hrest⟩;rw[show yielded ops (md a D).tmps=yielded ops a.tmps from rfl,F5 hs hg,if_pos rfl];exact Zmv (Sn hs (X6 hd) hst _ _ λu w' S' M' hs' he'=>Sb hQ rest (k+1) _ hl' hrest S' M' _ w' hs' (he.trans he'));rw[show yielded ops (md a D).tmps=yielded ops a.tmps from rfl,F5 hs hg,if_pos rfl];exact Zmv (Dx hs (X6 hd) hsp _ _ λs' u w' S' M' hk hs' he'=>Sb hQ rest (k+1) s' hl' hk S' M' _ w' hs' (he.trans he'));rw[show yielded ops (md a D).tmps=yielded ops a.tmps from rfl,F5 hs hg,if_neg (by simp)];rw[Zcc];exact⟨λ_ _=>trivial,Sb hQ rest (k+1) _ hl' hrest S M _ w (Fn hs hd) he⟩
variable {s:St} {Q Q':Exit->St->Prop}
theorem Zev {c:Code} (h:∀e s,Q e s->Q' e s) (hh:Zk8 D n P c Q s):Zk8 D n P c Q' s:=λB S M a w hs=>
 wpIn_mono (hh B S M a w hs) λe a' w' ⟨s',S',M',a0,h1,h2,h3,h4⟩=>⟨s',S',M',a0,h _ _ h1,h2,h3,h4⟩
theorem ZgD {id:Nat} {ops:Array Oper} (h:ZkH P ops (Q .normal) ops.toList s):Zk8 D n P (.region id ops false) Q s:=λB S M a w hs=>by
 refine wpIn_region ?_;have:=Sb (n:=n) (D:=D) (B:=B) (S0:=S) (w0:=w) (Qc:=λe a' w'=>∃s' S' M' a0,Q e s'/\a'=md a0 D/\Sim B S' M' s' a0 w'/\Ext B S S' w w') (λs' S' M' a' w' h1 h2 h3=>⟨s',S',M',a',h1,rfl,h2,h3⟩) ops.toList 0 s (by simp) h S M a w hs (Jt _ _ _);rw[<-Ks]at this;simpa using this
theorem Zla (h:Q .normal s):Zk8 D n P .skip Q s:=λB S M a w hs=>wpIn_skip ⟨s,S,M,a,h,rfl,hs,Jt _ _ _⟩
theorem Zol (h:Q .ret s):Zk8 D n P .ret Q s:=λB S M a w hs=>wpIn_ret ⟨s,S,M,a,h,rfl,hs,Jt _ _ _⟩
theorem Zom {x y:Code} (h:Zk8 D n P x (Xj (Zk8 D n P y Q) Q) s):Zk8 D n P (.seq x y) Q s:=λB S M a w hs=>by
 refine wpIn_seq (wpIn_mono (h B S M a w hs) λe a' w' hq=> ?_);obtain⟨s',S',M',a0,h1,rfl,h2,h3⟩:=hq;cases e with
 |normal=>
  refine wpIn_mono (h1 B S' M' a0 w' h2) λe a'' w'' hq'=> ?_
  obtain⟨s'',S'',M'',a1,g1,g2,g3,g4⟩:=hq';exact⟨s'',S'',M'',a1,g1,g2,g3,h3.trans g4⟩
 |_=>exact⟨s',S',M',a0,h1,rfl,h2,h3⟩
theorem Zk9 {c:Operand} {x y:Code} {b:Bool} (hc:s.eval c= .bool b) (h:Zk8 D n P (if b then x else y) Q s):Zk8 D n P (.cond c x y) Q s:=λB S M a w hs=>by
 have he:=hs.eval c;rw[hc]at he;exact wpIn_cond (a:=md a D) he.bool_inv (h B S M a w hs)
def vcD (P:Program):Code->(Exit->St->Prop)->St->Prop
 | .skip,Q,s=>Q .normal s
 | .ret,Q,s=>Q .ret s
 | .seq x y,Q,s=>vcD P x (Xj (vcD P y Q) Q) s
 | .cond c x y,Q,s=>GT (s.eval c) (vcD P x Q s) (vcD P y Q s)
 | .region _ ops false,Q,s=>vcA P true ops (Q .normal) ops.toList s
 |_,_,_=>False
theorem TV:∀(c:Code) (Q:Exit->St->Prop) (s:St),vcD P c Q s->Zk8 D n P c Q s
 | .skip,Q,s,h=>Zla h
 | .ret,Q,s,h=>Zol h
 | .seq x y,Q,s,h=>Zom (Zev (λe s' h'=>by
   cases e with
   |normal=>exact TV y Q s' h'
   |_=>exact h') (TV x _ s h))
 | .cond c x y,Q,s,h=>by
  unfold vcD GT at h;split at h;rename_i b hb;refine Zk9 hb ?_;cases b;exact TV y Q s (h.2 rfl);exact TV x Q s (h.1 rfl);exact h.elim
 | .region _ ops false,Q,s,h=>ZgD (Ue _ _ h)
 | .region _ ops true,Q,s,h=>False.elim h
 | .label _,Q,s,h=>False.elim h
 | .exit _,Q,s,h=>False.elim h
 | .goto _,Q,s,h=>False.elim h
 | .block _ _,Q,s,h=>False.elim h
 | .loop _,Q,s,h=>False.elim h
 | .rangeFunc ..,Q,s,h=>False.elim h
 | .scope _,Q,s,h=>False.elim h
 | .refuse _,Q,s,h=>False.elim h
end
def vD (P:Program) [C:COD] [Q:QS] (s:St):Prop:=vcD P C.c Q.q s
section
variable {P:Program}
theorem ZpX {c:Code} {Q:Exit->St->Prop} {s:St} (h:@vD P ⟨c⟩ ⟨Q⟩ s):vcD P c Q s:=h
theorem ZrI (Q:QS) (s:St):@vD P ⟨.skip⟩ Q s= @vQ Q .normal s:=rfl
theorem Zua (Q:QS) (s:St):@vD P ⟨.ret⟩ Q s= @vQ Q .ret s:=rfl
theorem Zub (x y:Code) (Q:QS) (s:St):@vD P ⟨.seq x y⟩ Q s= @vD P ⟨x⟩ ⟨Xj (@vD P ⟨y⟩ Q) Q.q⟩ s:=rfl
theorem ZrH (c:Operand) (x y:Code) (Q:QS) (s:St):@vD P ⟨.cond c x y⟩ Q s= @Zf0 (s.eval c) ⟨@vD P ⟨x⟩ Q s⟩ ⟨@vD P ⟨y⟩ Q s⟩:=rfl
theorem Znp (id:Nat) (li:List Oper) (Q:QS) (s:St):@vD P ⟨.region id li.toArray false⟩ Q s= @vA P true ⟨@vQ Q .normal⟩ ⟨li⟩ ⟨li⟩ s:=rfl
end
attribute [go_sem] ZrI Zua Zub ZrH Znp
section
variable {P:Program}
theorem Pure.range {A:Type} {n:Nat} {rs:List ResultVar} {f:FuncId} {fn:Func} {c:Code} {args:List PV} {r:PV} (k:Nat) {Q1:St->Prop}
  {gf:Nat} {caps:List PV} {xs:List A} {enc:A->List PV} {g:Operand} {ps:Array Tmp} {e1 assign body tail:Code} {id:Nat} {L:List (Nat×PV)} {pin:List Nat} {mt mx:List A->MemT} {Y X:List A->Prop}
  (hf:P.funcs[f]? = some fn) (hname:fn.name≠ "runtime.NumGoroutine") (hb:fn.body=some c) (hn:fn.ntmps=n) (hrs:fn.results=rs.toArray) (hl:args.length<=n) (hi:r.dids= [])
  (h1:Zqt P (awp P e1 (Xj Q1 λ_ _=>False)) k c (St.init args n)) (hd:ZoB k c= .seq (.seq e1 (.block id (.rangeFunc g ps assign body))) tail)
  (hQ:∀s,Q1 s->s.eval g= .fn gf caps/\HasT n L (mt []) [] s/\ ∀i∈pin,s.m.h i≠none)
  (hcaps:∀p∈caps,p.ids= []) (hseq:ZkK P gf caps xs enc ps.size) (henc:∀x∈xs,∀p∈enc x,p.ids= []) (hps:∀t∈ps,t<n)
  (hL:∀x∈L,∀r∈x.2.ids,∃i∈pin,r= .b i) (hY:Y [])
  (hw:∀pre φ,WholeT L (mt pre) (TH pin φ)) (hwx:∀pre φ,WholeT L (mx pre) (TH pin φ))
  (round:∀(l:Nat) (φ:Nat->Nat) (pre:List A) (x:A),x∈xs->pre.length<xs.length->Y pre->
   DJ l 0 P assign (Xj (DJ l 0 P body (Zqo n (mt (pre++ [x])) (mx (pre++ [x])) (Y (pre++ [x])) (X (pre++ [x])) (TH pin φ))) (λ_ _=>False)) (putL (mkT n L (mt pre) (TH pin φ)) (ps.toList.zip (enc x))))
  (done:Y xs-> ∀φ,vcD P tail (Zf7 P rs r) (mkT n L (mt xs) (TH pin φ)))
  (stop:∀pre,pre <+:xs->X pre-> ∀φ,Zf7 P rs r .ret (mkT n L (mx pre) (TH pin φ))):Pure P f args r:=by
 subst hn;have key:∀s,ZaY P r s [] rs->Zqp P fn r s:=λs hv=>by
  unfold Zqp;rw[hrs];simpa using TU (fn:=fn) rs [] hv
 have keyQ:∀e s,Zf7 P rs r e s->Zwx P fn r e s:=λe s hv=>by
  cases e with
  |normal=>exact key s hv
  |ret=>exact key s hv
  |_=>exact hv
 refine⟨⟨fn,hf,hname,by rw[hb];rfl⟩,hi,λw S vs hst hyo hlen hrep=> ?_⟩;refine(callsIn_wide (n:=2)).1 (callsIn_of_wp_marks hf hb trivial ?_);have hs:=Sk (B:=λk=>k<w.heap.size) (w:=w) (n:=fn.ntmps) (o:=λ_=>none) hl hlen hrep (λk hk=>hk) ⟨hst,λb c hc=>by simp at hc,λb x hx=>by simp at hx⟩ (λk hk=>hyo k (Jv hk));have hsz:(⟨vs⟩:Array Value).size=vs.length:=by simp
 rw[hsz];refine wpIn_wide.2 (Dy (B:=λk=>k<w.heap.size) (S0:=S) (w0:=w) k c _ S _ _ w h1 hs (Jt _ _ _) λs0 S0 M0 a0 w0 hq0 hs0 hx0=>(wpIn_wide (n:=2)).1 ?_);rw[hd];refine wpIn_seq (wpIn_seq (wpIn_mono (wpIn_wide.2 (hq0 _ S0 M0 a0 w0 hs0)) ?_));rintro e a' w' ⟨s',S',M',hq,hs',hx1⟩;have hx:=hx0.trans hx1;obtain⟨rfl,hq⟩:e= .normal/\Q1 s':=by cases e<;>first|exact⟨rfl,hq⟩|exact hq.elim
 obtain⟨q1,q2,q3⟩:=hQ s' hq;have fin:∀(Dd:Nat) (s2:St) (S2:Stable) (M2:Maps) (a2:Act) (w2:World),Sim (λk=>k<w.heap.size) S2 M2 s2 a2 w2->Ext (λk=>k<w.heap.size) S S2 w w2->w2.heap[Dd]? = some (.deferred (some []))->w.heap.size<=Dd->Zqp P fn r s2->
   LeavesInM Fence.wide 2 P fn a2.tmps (λen w''=>∃v S3,en= .returned v/\Rep S3 v r/\StabS S3 w''/\SLe S S3/\(∀b,b<w.heap.size->(∀o,S3 b o=S b o)/\S3.m b=S.m b)/\Below w.heap.size w w'') [{ target:= .collected Dd,args:= #[] }] .returning w2:=by
  rintro Dd s2 S2 M2 a2 w2 g1 g2 g3 g4 ⟨p1,p2,p3⟩
  have g5:=g1.book (.inr ⟨_,g3⟩) (.deferred none);have g6:Ext (λk=>k<w.heap.size) S S2 w (w2.putObj Dd (.deferred none)):=⟨g2.1,g2.2.1,g2.2.2.putB (by omega)⟩;obtain⟨v,hv,hrv⟩:=Vr g5 p1;refine⟨by simp,.inl ⟨Dd,_,rfl,run_takeDeferred g3,v,hv,v,S2,rfl,?_,g5.stable.s,g6.1,g6.2.1,g6.2.2.to⟩⟩;rw[p3];exact hrv.give g5 p2
 have hsize:w.heap.size<=w'.heap.size:=hx.2.2.size;have hmd:∀Dd,({ a' with defers:= { target:= .collected Dd,args:= #[] }::a'.defers }:Act)=md a' [{ target:= .collected Dd,args:= #[] }]:=λDd=>by
  unfold md;rw[hs'.defers];rfl
 refine wpIn_block (ZkD hs' q1 hcaps hseq henc hps q2 hL q3 hY hw hwx round ?_ ?_)
 ·intro Dd φ S2 M2 W hYx g1 g2 g3 g4;rw[hmd];have hB2:∀k,(k<w.heap.size\/k=Dd)->k<w.heap.size\/Book W k:=λk hk=>hk.imp (λh=>h) λe=>by subst e;exact .inr ⟨_,g3⟩
  have g1':=g1.widen (B':=λk=>k<w.heap.size\/k=Dd) hB2 (λk hk=>hs'.zle g2.1 k λh=>hk (.inl h));refine wpIn_mono (Zev keyQ (TV (D:= [{ target:= .collected Dd,args:= #[] }]) (n:=2) tail _ _ (done hYx φ)) _ S2 M2 a' W g1') ?_;rintro e a3 w3 ⟨s3,S3,M3,a0,k1,rfl,k3,k4⟩;have k5:Ext (λk=>k<w.heap.size) S S3 w w3:=(hx.trans g2).trans (k4.mono λk hk=> .inl hk);have k6:Sim (λk=>k<w.heap.size) S3 M3 s3 a0 w3:=k3.widen (hzz:=hs'.zle (g2.1.trans k4.1)) λk hk=> .inl (.inl hk)
  have k7:w3.heap[Dd]? = some (.deferred (some [])):=(k4.2.2.block Dd (.inr rfl)).trans g3;have hdd:(md a0 [{ target:= .collected Dd,args:= #[] }]).defers= [{ target:= .collected Dd,args:= #[] }]:=by
   unfold md;rw[k6.defers];rfl
  cases e with
  |normal=>
   show LeavesInM Fence.wide 2 P fn a0.tmps _ (md a0 _).defers .returning w3;rw[hdd];exact fin Dd s3 S3 M3 a0 w3 k6 k5 k7 (by omega) k1
  |ret=>
   show LeavesInM Fence.wide 2 P fn a0.tmps _ (md a0 _).defers .returning w3;rw[hdd];exact fin Dd s3 S3 M3 a0 w3 k6 k5 k7 (by omega) k1
  |_=>exact k1.elim
 intro Dd φ pre S2 M2 W hpre hX g1 g2 g3 g4;rw[hmd];have hdd:(md a' [{ target:= .collected Dd,args:= #[] }]).defers= [{ target:= .collected Dd,args:= #[] }]:=by
  unfold md;rw[hs'.defers];rfl
 show LeavesInM Fence.wide 2 P fn a'.tmps _ (md a' _).defers .returning W;rw[hdd];exact fin Dd _ S2 M2 a' W g1 (hx.trans g2) g3 (by omega) (key _ (stop pre hpre hX φ))
end
open Go.RowKit
def ZtU:List PV->Tok
 | []=> .no
 |_::_=> .fr
def PV.frl (es:List PV):PV:= .sl (ZtU es) es
section
variable {es:List PV}
theorem ZqO:(PV.frl es).ids= []:=by cases es<;>rfl
theorem ZoK:(PV.frl es).dids=KY es:=by cases es<;>rfl
theorem Zrt:(ZtU es).sh=ZtU es:=by cases es<;>rfl
theorem ZpI:(Qa (ZtU es) es).ids= []:=ZqO
theorem Znf:(Qa (ZtU es) es).dids=KY es:=ZoK
attribute [go_sem] PV.frl
attribute [go_sem ↓ high] Zrt ZpI Znf
theorem Pub.frl {K:Ref->Prop} {m:Hp} {id n sz:Nat} {e:TypeId} (hq:m.q id=some (.live n sz e)) (hn:es.length=n):Pub K m (.sl (.row id) es) (PV.frl es):=by
 cases es with
 |nil=>exact .row id []
 |cons x l=>exact .rowf id n sz e _ hq hn
end
open Go.RowKit
section
variable {P:Program} {ops:Array Oper} {Q:Exit->Act->World->Prop} {md:JF} {S:World->Prop}
def ZsH (P:Program) (ops:Array Oper) (S:World->Prop) (K:Act->Prop):List Oper->Act->Prop
 | [],a=>K a
 |o::rest,a=>∃v,YieldsIf P ops S o v a/\ZsH P ops S K rest (a.put o.dst v)
end
open Go.RowKit
structure RS (N:Nat) (a:Act) (f:Nat->Value):Prop where
 d:a.defers= []
 n:a.tmps.size=N
 f:∀i,a.tmps.getD i undef=f i
theorem RS.put {N d:Nat} {a:Act} {f:Nat->Value} (h:RS N a f) (hd:d<N) (v:Value):RS N (a.put (some d) v) (upd f d v):=
 ⟨h.d,by simp[Act.put,h.n],λi=>by
  have:=h.f i;have hn:=h.n;simp only[Act.put,upd,Jb,JD]at this ⊢;by_cases e:d=i;subst e;simp[hn,hd];simp[e];exact this⟩
theorem RS.skip {N:Nat} {a:Act} {f:Nat->Value} (h:RS N a f) (v:Value):RS N (a.put none v) f:=h
def LikeV (v v':Value):Prop:=v'=v\/(∃m n,v= .int .i64 m/\v'= .int .i64 n)\/ ∃m n,v= .string m/\v'= .string n
theorem LikeV.refl (v:Value):LikeV v v:= .inl rfl
theorem LikeV.trans {u v x:Value} (h1:LikeV u v) (h2:LikeV v x):LikeV u x:=by
 rcases h1 with rfl|⟨m,n,rfl,rfl⟩|⟨m,n,rfl,rfl⟩;exact h2;rcases h2 with rfl|⟨m',n',e,rfl⟩|⟨m',n',e,rfl⟩;exact .inr (.inl ⟨_,_,rfl,rfl⟩);exact .inr (.inl ⟨_,_,rfl,rfl⟩);cases e;rcases h2 with rfl|⟨m',n',e,rfl⟩|⟨m',n',e,rfl⟩;exact .inr (.inr ⟨_,_,rfl,rfl⟩);cases e;exact .inr (.inr ⟨_,_,rfl,rfl⟩)
theorem LikeV.int {k:Int} {v:Value} (h:LikeV (.int .i64 k) v):∃n,v= .int .i64 n:=by
 rcases h with h|⟨m,n,e,h⟩|⟨m,n,e,_⟩;exact⟨_,h⟩;exact⟨_,h⟩;cases e
theorem LikeV.str {k:ByteArray} {v:Value} (h:LikeV (.string k) v):∃n,v= .string n:=by
 rcases h with h|⟨m,n,e,_⟩|⟨m,n,e,h⟩;exact⟨_,h⟩;cases e;exact⟨_,h⟩
structure KeepW (lo:Nat) (w w':World):Prop where
 b:BelowF (λk=>k<lo) w w'
 k:∀(b:Nat) (vs:List Value) (t:TypeId),w.heap[b]? = some (Obj.cells ⟨vs⟩ t (0,0))-> ∃vs':List Value,w'.heap[b]? = some (Obj.cells ⟨vs'⟩ t (0,0))/\vs'.length=vs.length/\ ∀o,LikeV (vs.getD o undef) (vs'.getD o undef)
theorem KeepW.refl (lo:Nat) (w:World):KeepW lo w w:=⟨JL _ w,λb vs t h=>⟨vs,h,rfl,λ_=> .refl _⟩⟩
theorem KeepW.trans {lo:Nat} {a b c:World} (h1:KeepW lo a b) (h2:KeepW lo b c):KeepW lo a c:=
 ⟨h1.b.trans h2.b,λk vs t h=>by
  obtain⟨vs',e1,e2,e3⟩:=h1.k k vs t h;obtain⟨vs2,e4,e5,e6⟩:=h2.k k vs' t e1;exact⟨vs2,e4,e5.trans e2,λo=>(e3 o).trans (e6 o)⟩⟩
open Go.RowKit
end Go.PL
