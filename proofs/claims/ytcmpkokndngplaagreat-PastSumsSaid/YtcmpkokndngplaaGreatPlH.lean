/- Lemmas. -/
import Derived.Test.YtcmpkokndngplaaGreatPlD
import GoSem.ClaimChange
import Derived.ProofKit
import Derived.OpenShut
import Derived.Carry
import Derived.OrdersIn
import Derived.RangeFuncCalls
import Derived.RangeFuncKeeps
import Derived.LoopNIn
import Derived.RangeFuncLeaves
import Derived.OrdersHeld
import Derived.Laws.AppendOwn
set_option maxHeartbeats 64000000
set_option maxRecDepth 20000
set_option linter.unusedVariables false
set_option linter.unusedSimpArgs false
set_option linter.defProp false
open Option renaming some→Hs,none→Hn
open Bool renaming true→Ht,false→Hf
open Go Go.PL
open _root_.Array renaming getElem?_eq_some_iff→Jb,replicate→Je,getD_eq_getD_getElem?→Jf,any_eq_true'→Jp,getElem?_setIfInBounds→Jy,getElem?_eq_none→JK,setIfInBounds_comm→JM,getElem?_replicate→JN,getElem?_append_right→Kh,getElem?_append_left→Km,all_eq_true'→KU,mk→Qw
open BelowF renaming refl→JS,of→Qu
open Bool renaming and_eq_true→Ja,or_eq_true→Jt,false_eq_true→JV,not_eq_true'→J4,and_eq_false_imp→KL,not_true→Qk,false_or→Ql
open DataW renaming TrodAll→Jv,trod→KA
open Ext renaming refl→JJ
open Int renaming mul_lt_mul_of_pos_right→Kj,compare_eq_lt→K0,compare_eq_gt→K1
open List renaming mem_singleton→Jc,all_eq_true→Jg,getD_eq_getElem?_getD→Ji,mem_map→Jj,contains_iff_mem→Jm,range→Jo,range'→Jr,mem_range→Js,mem_cons→JC,eq_nil_iff_forall_not_mem→JE,pairwise_cons→JF,getElem?_eq_getElem→JG,map_cons→JO,length_cons→JP,getElem_of_mem→JT,getElem?_take_of_lt→JU,getElem?_cons_succ→JY,length_drop→J5,range_eq_range'→Ka,append_nil→Kc,length_set→Ke,map_nil→Kk,getElem?_append_right→Kl,mem_or_eq_of_mem_set→Kn,finRange→Kr,any_eq_true→Kt,getElem?_cons_zero→Ku,length_take→Kv,getElem_mem→Kw,range'_succ→Kx,ext_getElem→Ky,drop_eq_nil_of_le→Kz,length_map→KG,take_append_drop→KK,mem_of_getElem?→KM,pairwise_append→KN,map_congr_left→KQ,length_range'→KT,length_range→KX,map_map→K4,size_toArray→K5,foldl_append→K6,getElem_map→K8,of_mem_zip→Qb,mem_range'→Qd,replicate→Qe,mapM_cons→Qf,drop_drop→Qg,Pairwise→Qj,cons→Qm,map→Qv
open Nat renaming mul_le_mul_right→Jn,le_refl→Ju,le_of_not_lt→Jz,shiftLeft_eq→JD,lt_of_lt_of_le→JQ,shiftLeft_zero→JW,one_mul→JZ,add_mul→J9,two_pow_pos→Kd,mul_lt_mul_of_pos_right→Ki,zero_le→Ko,add_assoc→Kq,add_right_cancel_iff→Ks,lt_or_ge→KB,add_comm→KC,zero_add→KD,strongRecOn→KI,min_eq_left→KJ,succ_mul→KW,sub_zero→KZ,shiftLeft_add→K2,lt_log2_self→K7,lt_succ_self→K9,pow_add→Qa,lt_irrefl→Qi,ne_of_lt→Qp
open Ne renaming symm→J6
open Op renaming operands→KP
open Option renaming map_some→Jw,getD_some→JB,some→JH,bind_eq_some_iff→JX,map_eq_some_iff→J2
open PV renaming ids→JL,didsL→JR,idsL→J3,mem_idsL→J7,dids→Kg,atom→KE,giveL→K3,any→Qn,mem_didsL→Qq,cells→Qs,sl→Qx
open Prod renaming mk→Qt
open Region renaming ready→Jh,binds→Jk,Mode→Jq,wanted→Qh
open SLe renaming refl→JI
open Sem renaming run→Qo
open Sum renaming elim→Jl,elim_inl→Kf,elim_inr→KY
open World renaming putObj_heap_other→JA,cell?_of_block→J8,putObj_heap_same→KF,alloc_heap_new→KO,cell?→Qr
namespace Go.PL
open Go.RowKit
def Zqy (c:Bool) (b:List PV):PV:=if c then .agg b else b.getD 0 .any
def Zop {b:Bool} (h:(!b)=Hf):b=true:=by cases b<;>simp_all
def Ze6 (P:Program) (t:TypeId):Bool:=
 match P.underlying t with
 |some (.slice e)=> !(decide (0<P.cellsOf e)&&(Yp P e||P.cellsOf e==1))
 |some (.pointer e)=> !decide (0<P.cellsOf e)
 |_=>Hf
mutual
inductive PT (P:Program):TypeId->List PV->Prop
 |bool {t:TypeId} (h:P.underlying t=Hs .bool) (b:Bool):PT P t [.bool b]
 |int {t:TypeId} {k:IntKind} (h:P.underlying t=Hs (.int k)) (n:Int) (h1:k.min<=n) (h2:n<=k.max):PT P t [.int k n]
 |flt {t:TypeId} {k:FloatKind} (h:P.underlying t=Hs (.float k)) (b:Nat) (hw:(Lit.float k b).wf=Ht):PT P t [.flt k b]
 |str {t:TypeId} (h:P.underlying t=Hs .string) (l:List UInt8) (hl:l.length<=maxLen):PT P t [.str l]
 |nilp {t e:TypeId} (h:P.underlying t=Hs (.pointer e)):PT P t [.nilp]
 |ptr {t e:TypeId} (h:P.underlying t=Hs (.pointer e)) (cs:List PV) (hp:PT P e cs):PT P t [.rptr cs]
 |sl {t e:TypeId} (h:P.underlying t=Hs (.slice e)) (n:Nat) (hn:n<=maxLen) (f:Nat->List PV) (hp:∀i,i<n->PT P e (f i)):PT P t [.sl .no ((Jo n).map λi=>Zqy (Yp P e) (f i))]
 |str' {t:TypeId} {fs:Array Field} (h:P.underlying t=Hs (.struct fs)) (cs:List PV) (hp:PTs P (fs.toList.map (·.type)) cs):PT P t cs
 |arr {t e:TypeId} {n:Nat} (h:P.underlying t=Hs (.array n e)) (cs:List PV) (hp:PTs P (Qe n e) cs):PT P t cs
 |odd {t:TypeId} (h:Ze6 P t=Ht):PT P t [.any]
 |any {t:TypeId} (h:∀d,P.underlying t=Hs d->(match d with| .interface _| .map _ _| .func .. | .chan .. | .unsafePointer=>True|_=>False)):PT P t [.any]
inductive PTs (P:Program):List TypeId->List PV->Prop
 |nil:PTs P [] []
 |cons {t:TypeId} {ts:List TypeId} {a b:List PV} (h:PT P t a) (hs:PTs P ts b):PTs P (t::ts) (a++b)
end
def Zgy (P:Program):Nat->List Field->Option Nat
 |o,[]=>Hs o
 |o,f::fs=>if f.offset=o then Zgy P (o+P.cellsOf f.type) fs else Hn
def Zu5 (P:Program) (t:TypeId):Bool:=
 match P.underlying t with
 |some (.struct fs)=>Zgy P 0 fs.toList==Hs (P.cellsOf t)&&fs.toList.all λf=>decide (f.type<P.types.size)
 |some (.array n e)=>P.cellsOf t==n*P.cellsOf e&&decide (e<P.types.size)
 |some (.slice e)=>decide (e<P.types.size)
 |some (.pointer e)=>decide (e<P.types.size)
 |_=>Ht
def Zdf (P:Program):Bool:=(Jo P.types.size).all (Zu5 P)
def RepC (S:Stable) (vs:List Value) (ps:List PV):Prop:=vs.length=ps.length/\ ∀i,i<ps.length->Rep S (vs.getD i undef) (ps.getD i .any)
section
variable {P:Program} {S:Stable}
def RepC.nil:RepC S [] []:=⟨rfl,λi b=>by simp at b⟩
def RepC.one {v:Value} {p:PV} (h:Rep S v p):RepC S [v] [p]:=⟨rfl,λi b=>by
 have:i=0:=by simpa using b
 subst this;exact h⟩
def RepC.append {vs c:List Value} {ps d:List PV} (h:RepC S vs ps) (g:RepC S c d):RepC S (vs++c) (ps++d):=by
 refine⟨by simp[h.1,g.1],λi q=> ?_⟩;by_cases e:i<ps.length;rw[Zf (by rw[h.1];exact e),Zf e];exact h.2 i e;have b:ps.length<=i:=by omega
 have k:=g.2 (i-ps.length) (by simp at q;omega);have p:(vs++c).getD i undef=c.getD (i-ps.length) undef:=by
  simp only[Ji];rw[Kl (by rw[h.1];exact b),h.1]
 have r:(ps++d).getD i .any=d.getD (i-ps.length) .any:=by
  simp only[Ji];rw[Kl b]
 rw[p,r];exact k
def cellsOf (w:World):Stable:=⟨λb o=>w.cell? ⟨b,o,Hn⟩,λ_=>Hn,λ_=>True,λ_=>False⟩
def ZvE {t:TypeId} (b:Zdf P=Ht) (h:t<P.types.size):Zu5 P t=true:=
 Jg.1 b t (Js.2 h)
theorem Dj {α β:Type} {f:α->Option β}:∀ {l:List α} {xs:List β},l.mapM f=Hs xs-> ∀a∈l,∃x,f a=Hs x
 | [],_,_,a,c=>by cases c
 |b::l,xs,h,a,c=>by
  rw[Qf]at h;cases d:f b with
  |none=>rw[d]at h;cases h
  |some y=>
   rw[d]at h;cases e:l.mapM f with
   |none=>rw[e]at h;cases h
   |some ys=>
    rcases JC.1 c with rfl|c
    ·exact⟨y,d⟩
    ·exact Dj e a c
theorem Vy {w:World} {base:Nat} {a:Addr} {n:Nat} {cs:List Value} (h:w.cells? base a n=Hs cs):cs.length=n/\ ∀i,i<n->w.cell? (a.add i)=Hs (cs.getD i undef):=by
 unfold World.cells? at h;split at h;have p:∀(l:List Nat) (cs:List Value),(l.mapM λi=>w.cell? (a.add i))=Hs cs->cs.length=l.length/\ ∀i,i<l.length->w.cell? (a.add (l.getD i 0))=Hs (cs.getD i undef):=by
  intro l;induction l with
  |nil=>intro cs h;simp at h;subst h;simp
  |cons b l ih=>
   intro cs h;rw[Qf]at h;cases g:w.cell? (a.add b)with
   |none=>rw[g]at h;cases h
   |some y=>
    rw[g]at h;cases k:(l.mapM λi=>w.cell? (a.add i))with
    |none=>rw[k]at h;cases h
    |some ys=>
     rw[k]at h;simp at h;subst h;obtain⟨e,d⟩:=ih ys k;refine⟨by simp[e],λi c=> ?_⟩;cases i with
     |zero=>simpa using g
     |succ i=>simpa using d i (by simpa using c)
 obtain⟨e,d⟩:=p _ _ h;refine⟨by simpa using e,λi c=> ?_⟩;have:=d i (by simpa using c);simpa[Ji,c]using this;cases h
theorem ZdM {g:TypeId->List Value->Prop} (e:∀t cs,t<P.types.size->g t cs-> ∃ps,RepC S cs ps/\PT P t ps):∀(fs:List Field) (o n:Nat) (cs:List Value),Zgy P o fs=Hs n->cs.length=n->
  (∀f∈fs,f.type<P.types.size)->(∀f∈fs,g f.type ((cs.drop f.offset).take (P.cellsOf f.type)))-> ∃ps,RepC S (cs.drop o) ps/\PTs P (fs.map (·.type)) ps
 | [],o,n,cs,ho,hn,_,_=>by
  simp only[Zgy,JH.injEq]at ho;subst ho;rw[Kz (by omega)];exact⟨[],.nil,.nil⟩
 |f::fs,o,n,cs,ho,hn,hlt,h=>by
  simp only[Zgy]at ho;split at ho;rename_i c;obtain⟨ps,k,i⟩:=ZdM e fs _ n cs ho hn (λf b=>hlt f (by simp[b])) (λf b=>h f (by simp[b]));obtain⟨p,d,q⟩:=e _ _ (hlt f (by simp)) (h f (by simp));rw[c]at d;refine⟨p++ps,?_,.cons q i⟩;have:=d.append k;rwa[show cs.drop (o+P.cellsOf f.type)=(cs.drop o).drop (P.cellsOf f.type)by rw[Qg],KK]at this;cases ho
theorem Zfv {g:TypeId->List Value->Prop} (b:∀t cs,t<P.types.size->g t cs-> ∃ps,RepC S cs ps/\PT P t ps) {e:TypeId} (c:e<P.types.size):∀(n k:Nat) (cs:List Value),cs.length=(k+n)*P.cellsOf e->
  (∀i,i<k+n->g e ((cs.drop (i*P.cellsOf e)).take (P.cellsOf e)))-> ∃ps,RepC S (cs.drop (k*P.cellsOf e)) ps/\PTs P (Qe n e) ps
 |0,k,cs,hn,_=>by
  rw[Kz (by rw[hn,Nat.add_zero];exact Ju _)];exact⟨[],.nil,.nil⟩
 |n+1,k,cs,hn,h=>by
  obtain⟨ps,p,d⟩:=Zfv b c n (k+1) cs (by rw[hn];congr 1;omega) (λi y=>h i (by omega));obtain⟨r,q,u⟩:=b _ _ c (h k (by omega));refine⟨r++ps,?_,.cons u d⟩;have:=q.append p;rwa[show cs.drop ((k+1)*P.cellsOf e)=(cs.drop (k*P.cellsOf e)).drop (P.cellsOf e)by rw[Qg,KW],KK]at this
theorem PT.noAgg {t:TypeId} {ps:List PV} (h:PT P t ps) (b:Yp P t=Hf) (c:ps.length=1):(ps.getD 0 .any).cells=ps:=by
 cases h with
 |str' h=>unfold Yp at b;rw[h]at b;cases b
 |arr h=>unfold Yp at b;rw[h]at b;cases b
 |_=>rfl
theorem Zk0 {t:TypeId} {ps:List PV} (h:PT P t ps) (c:Yp P t=Ht\/ps.length=1):(Zqy (Yp P t) ps).cells=ps:=by
 unfold Zqy;cases b:Yp P t with
 |true=>rfl
 |false=>exact h.noAgg b (by simpa[b]using c)
def Zg4 {w:World} {a:Addr} {v:Value} (h:w.cell? a=Hs v):a=⟨a.block,a.off,Hn⟩:=by
 obtain⟨b,o,s⟩:=a;unfold Qr at h;split at h;split at h;cases h;cases s<;>simp_all
 cases h
def add_zero (a:Addr):a.add 0=a:=by unfold Addr.add;simp
theorem Zun {H:Type} {enc:TypeId×Value->H} {w:World} {base:Nat} {spare:Nat->Bool} {Zvy:Bool} (hl:Zdf P=Ht):
  ∀(fuel:Nat) (t:TypeId) (cs:List Value) (x:DataW H×List MemPlace),t<P.types.size->KA enc P w base spare Zvy fuel t cs=Hs x-> ∃ps,RepC (cellsOf w) cs ps/\PT P t ps:=by
 intro fuel;induction fuel with
 |zero=>intro t cs x _ h;cases h
 |succ fuel ih=>
  intro t cs x G h;have lay:=ZvE hl G;have any:∀ {v:Value},(∀d,P.underlying t=Hs d->(match d with| .interface _| .map _ _| .func .. | .chan .. | .unsafePointer=>True|_=>False))-> ∃ps,RepC (cellsOf w) [v] ps/\PT P t ps:=λh=>⟨_,.one (.any _),.any h⟩
  have anyd:∀ {v:Value} {d:TypeDesc},P.underlying t=Hs d->(match d with| .interface _| .map _ _| .func .. | .chan .. | .unsafePointer=>True|_=>False)-> ∃ps,RepC (cellsOf w) [v] ps/\PT P t ps:=λq r=>any λd hd=>by rw[q]at hd;cases hd;exact r
  unfold KA at h;split at h;rename_i c;exact⟨_,.one (.bool _),.bool c _⟩;rename_i c;split at h;rename_i L;obtain⟨rfl,E⟩:=L;simp only[Lit.wf,Ja,decide_eq_true_eq]at E;exact⟨_,.one (.int _ _),.int c _ E.1 E.2⟩;cases h;rename_i c;split at h;rename_i L;obtain⟨rfl,E⟩:=L;exact⟨_,.one (.flt _ _),.flt c _ E⟩;cases h;rename_i s c;split at h;rename_i L;obtain⟨⟨l⟩⟩:=s;exact⟨_,.one (.str l),.str c l L⟩;cases h;rename_i c;exact⟨_,.one .nilp,.nilp c⟩;rename_i e a c;by_cases u:Ze6 P t=Ht;exact⟨_,.one (.any _),.odd u⟩;have k:decide (0<P.cellsOf e)=true:=by
   have:Ze6 P t=false:=by simpa using u
   unfold Ze6 at this;rw[c]at this;exact Zop this
  simp only[Zu5,c,decide_eq_true_eq]at lay k;obtain⟨x',p,_⟩:=J2.1 h;obtain⟨C,O,p⟩:=JX.1 p;obtain⟨ps,q,r⟩:=ih _ _ _ lay p;obtain⟨U,W⟩:=Vy O;have J:a=⟨a.block,a.off,Hn⟩:=Zg4 (add_zero a▸W 0 k);refine⟨[.rptr ps],.one ?_,.ptr c ps r⟩;rw[J];refine .rptr _ _ ps (λj=>C.getD j undef) (λj A=> ?_) (λj A=>q.2 j A);have:=W j (by rw[<-U,q.1];exact A);rw[J,Z7]at this;exact this;rename_i c;exact⟨_,.one (.sl0 Hn 0),.sl c 0 (Ko _) (λ_=> []) (λi b=>by omega)⟩;rename_i e a len cap c;by_cases u:Ze6 P t=Ht;exact⟨_,.one (.any _),.odd u⟩;have k:(decide (0<P.cellsOf e)&&(Yp P e||P.cellsOf e==1))=true:=by
   have:Ze6 P t=false:=by simpa using u
   unfold Ze6 at this;rw[c]at this;exact Zop this
  simp only[Zu5,c,decide_eq_true_eq]at lay;simp only[Ja,decide_eq_true_eq,Jt,beq_iff_eq]at k;obtain⟨l1,l2⟩:=k;have l3:=lay;simp only at h;split at h;rename_i X;obtain⟨elems,Z,h⟩:=JX.1 h;have T:∀i,i<len-> ∃C ps,w.cells? base (a.add (i*P.cellsOf e)) (P.cellsOf e)=Hs C/\RepC (cellsOf w) C ps/\PT P e ps:=λi b=>by
   obtain⟨y,hy⟩:=Dj Z i (Js.2 b);obtain⟨C,O,p⟩:=JX.1 hy;obtain⟨ps,q,r⟩:=ih _ _ _ l3 p;exact⟨C,ps,O,q,r⟩
  obtain⟨F,z⟩:∃F:Nat->List Value×List PV,∀i,i<len->w.cells? base (a.add (i*P.cellsOf e)) (P.cellsOf e)=Hs (F i).1/\RepC (cellsOf w) (F i).1 (F i).2/\PT P e (F i).2:=by
   classical
   refine⟨λi=>if h:i<len then((T i h).choose,(T i h).choose_spec.choose)else([],[]),λi b=> ?_⟩;simp only[b,dif_pos];exact(T i b).choose_spec.choose_spec
  refine⟨_,.one ?_,.sl c len (by omega) (λi=>(F i).2) λi b=>(z i b).2.2⟩;have N:∀i,i<len->((Jo len).map λi=>Zqy (Yp P e) (F i).2).getD i .any=Zqy (Yp P e) (F i).2:=λi b=>by simp[Ji,b]
  have I:∀i,i<len->(Zqy (Yp P e) (F i).2).cells=(F i).2:=λi b=>by
   obtain⟨q,r,U⟩:=z i b;refine Zk0 U (l2.imp id λh=> ?_);rw[<-r.1,(Vy q).1,h]
  by_cases h0:len=0;subst h0;exact .sl0 _ _;have R:0<len:=by omega
  have J:a=⟨a.block,a.off,Hn⟩:=by
   have:=(Vy (z 0 R).1).2 0 l1;rw[Nat.zero_mul,add_zero,add_zero]at this;exact Zg4 this
  have key:=Rep.sl (S:=cellsOf w) a.block a.off cap (P.cellsOf e) ((Jo len).map λi=>Zqy (Yp P e) (F i).2) (λi j=>(F i).1.getD j undef)
   (λi b=>by
    have b:i<len:=by simpa using b
    rw[N i b,I i b,<-(z i b).2.1.1,(Vy (z i b).1).1])
   (by simp;exact X.2.1)
   (λi j b A=>by
    have b:i<len:=by simpa using b
    have:=(Vy (z i b).1).2 j A;rw[J,Z7,Z7]at this;exact this)
   (λi j b A=>by
    have b:i<len:=by simpa using b
    rw[N i b,I i b];exact(z i b).2.1.2 j (by rw[<-(z i b).2.1.1,(Vy (z i b).1).1];exact A))
  rw[KG,KX,<-J]at key;exact key;cases h;rename_i fs c;simp only[Zu5,c,Ja,beq_iff_eq,Jg,decide_eq_true_eq]at lay;split at h;rename_i V;obtain⟨xs,p,_⟩:=J2.1 h;obtain⟨ps,q,r⟩:=ZdM (S:=cellsOf w) (g:=λt cs=>∃x,KA enc P w base spare Zvy fuel t cs=Hs x) (λt cs G ⟨x,p⟩=>ih t cs x G p) fs.toList 0 _ _ lay.1 V lay.2 (λf Y=>Dj p f Y);exact⟨ps,by simpa using q,.str' c ps r⟩;cases h;rename_i n e c;simp only[Zu5,c,Ja,beq_iff_eq,decide_eq_true_eq]at lay;split at h;rename_i V;obtain⟨xs,p,_⟩:=J2.1 h;obtain⟨ps,q,r⟩:=Zfv (S:=cellsOf w) (g:=λt cs=>∃x,KA enc P w base spare Zvy fuel t cs=Hs x) (λt cs G ⟨x,p⟩=>ih t cs x G p) lay.2 n 0 _ (by rw[V,lay.1];simp) (λi b=>Dj p i (by simpa using b));exact⟨ps,by simpa using q,.arr c ps r⟩;cases h
  all_goals first|(cases h;done)|(rename_i c;exact anyd c trivial)|(rename_i c _;exact anyd c trivial)|skip
end
open Go.ChangeShapes Go.WideShapes Go.ChangeAt Go.RowKit
def PA (P:Program) (t:TypeId) (p:PV):Prop:=∃cs,PT P t cs/\p=Zqy (Yp P t) cs
inductive PAs (P:Program):List TypeId->List PV->Prop
 |nil:PAs P [] []
 |cons {t:TypeId} {ts:List TypeId} {p:PV} {ps:List PV} (h:PA P t p) (hs:PAs P ts ps):PAs P (t::ts) (p::ps)
section
variable {P:Program} {H:Type} {enc:TypeId×Value->H}
theorem Ziv {W:World} {base:Nat} {t:TypeId} {v:Value} (b:Yp P t=Hf) (hd:∃d,P.underlying t=Hs d) (h:Value.okWide P W .any base t v):v.cells.toList= [v]:=by
 obtain⟨d,hd⟩:=hd;cases v with
 |agg cs=>
  exfalso;unfold Value.okWide at h;unfold Yp at b;rw[hd]at b h;cases d<;>simp[Cell.okWide,Cell.ok,hd]at h b
 |_=>rfl
theorem ZrQ {W:World} {base:Nat} {t:TypeId} {v:Value} {d:DataW H} {ps:List MemPlace} (u:Zdf P=Ht) (r:t<P.types.size) (b:Value.okWide P W .any base t v)
  (h:DataW.Trod enc P W 0 (λ_=>Ht) Ht t v d ps):∃p,Rep (cellsOf W) v p/\PA P t p:=by
 obtain⟨n,g⟩:=h;obtain⟨cs,e,q⟩:=Zun u n t _ _ r g;have hd:∃d,P.underlying t=Hs d:=by
  cases n with
  |zero=>cases g
  |succ n=>
   cases y:P.underlying t with
   |none=>unfold KA at g;rw[y]at g;simp at g
   |some d=>exact⟨d,rfl⟩
 refine⟨_,?_,cs,q,rfl⟩;unfold Zqy;cases i:Yp P t with
 |true=>
  obtain⟨d,hd⟩:=hd;have:∃c,v= .agg c:=by
   unfold Yp at i;unfold Value.okWide at b;rw[hd]at i b;cases d<;>simp at i
   ·obtain⟨c,k,_⟩:=b;exact⟨c,k⟩
   ·obtain⟨c,k,_⟩:=b;exact⟨c,k⟩
  obtain⟨⟨c⟩,rfl⟩:=this;exact .agg c cs e.1 e.2
 |false=>
  rw[Ziv i hd b]at e;have:=e.2 0 (by rw[<-e.1];simp);simpa using this
theorem ZgL {W:World} {base:Nat} (k:Zdf P=Ht):∀(b:List TypeId) (vs:List Value) (e:List (DataW H)) (ps:List MemPlace),(∀t∈b,t<P.types.size)->
  (∀(j:Nat) t v,b[j]? = Hs t->vs[j]? = Hs v->Value.okWide P W .any base t v)->Jv enc P W 0 (λ_=>Ht) Ht b vs e ps->
  ∃c,RepC (cellsOf W) vs c/\PAs P b c/\e.length=b.length
 | [],[],[],ps,_,_,h=>⟨[],.nil,.nil,rfl⟩
 |t::b,v::vs,d::e,ps,hlt,hok,h=>by
  obtain⟨p,q,i,g,rfl⟩:=h;obtain⟨x,z,hp⟩:=ZrQ k (hlt t (by simp)) (hok 0 t v rfl rfl) i;obtain⟨c,r,A,u⟩:=ZgL k b vs e q (λt y=>hlt t (by simp[y])) (λj t v i g=>hok (j+1) t v (by simpa using i) (by simpa using g)) g;exact⟨x::c,(RepC.one z).append r,.cons hp A,by simp[u]⟩
 | [],_::_,_,_,_,_,h=>by simp[Jv]at h
 | [],[],_::_,_,_,_,h=>by simp[Jv]at h
 |_::_,[],_,_,_,_,h=>by simp[Jv]at h
 |_::_,_::_,[],_,_,_,h=>by simp[Jv]at h
theorem ZdI {W k:World} {g:Nat->Bool} (r:laidOutB P=Ht) (i:Below W.heap.size W k):∀(c:List TypeId) (vs:List Value) (e:List (DataW H)) (ps:List MemPlace),(∀t∈c,t<P.types.size/\P.readableRec t=Ht)->
  (∀x∈ps,x.block<W.heap.size)->(∀x∈ps,g x.block=Ht)->Jv enc P W 0 (λ_=>Ht) Ht c vs e ps->Jv enc P k 0 g Ht c vs e ps
 | [],[],[],ps,_,_,_,h=>h
 |t::c,v::vs,d::e,ps,ht,hlt,hsp,h=>by
  obtain⟨p,q,y,u,rfl⟩:=h;exact⟨p,q,WideElems.Trod_stays r (ht t (by simp)).2 (ht t (by simp)).1 y (λx b=>i.same (hlt x (by simp[b]))) (λx b=>hsp x (by simp[b])),
   ZdI r i c vs e q (λt h=>ht t (by simp[h])) (λx b=>hlt x (by simp[b])) (λx b=>hsp x (by simp[b])) u,rfl⟩
 | [],_::_,_,_,_,_,_,h=>by simp[Jv]at h
 | [],[],_::_,_,_,_,_,h=>by simp[Jv]at h
 |_::_,[],_,_,_,_,_,h=>by simp[Jv]at h
 |_::_,_::_,[],_,_,_,_,h=>by simp[Jv]at h
def FP {f:FuncId} {fn:Func} {s:ChangeSpec} {tb:TypeId} {fresh d again:Bool} (hl:Zdf P=Ht) (u:laidOutB P=Ht) (c:s.vars= [])
  (U:∀t∈fn.params.toList,t<P.types.size/\P.readableRec t=Ht) (k:fn.resultTypes= #[tb]) (T:P.underlying tb=Hs .bool)
  (N:∀r:List (DataW H),r.length=fn.params.toList.length->s.fn H r= { results:= [.lit (.bool Ht)],args:=r })
  (hp:∀ps,PAs P fn.params.toList ps->PL.Pure P f ps (.bool Ht))
  (W:World) (base:Nat) (args:Array Value) (r gs:List (DataW H)) (before:List MemPlace)
  (A:∀(j:Nat) t v,fn.params[j]? = Hs t->args[j]? = Hs v->Value.okWide P W .any base t v)
  (R:DataW.Whole enc P fn.params.toList s.vars Hf W args.toList r gs before):
  Calls P f args W λe W'=>∃v,e= .returned v/\s.post enc P fn Hf fresh d again W args v W':=by
 have F:=R;obtain⟨p,q,X,Y,G,O,xa⟩:=R;rw[c]at Y;obtain⟨rfl,rfl⟩:=trodVars_none Y;obtain⟨qs,Z,h2,h3⟩:=ZgL hl _ _ _ _ (λt h=>(U t h).1) (λj t v a b=>A j t v (by simpa using a) (by simpa using b)) X;obtain⟨_,_,i⟩:=hp qs h2;have:=i W (cellsOf W) args.toList ⟨λb o v h=>h,λb es h=>(by cases h),λb h=>h.elim⟩ (λ_ _=>trivial) Z.1 Z.2;have ea:(⟨args.toList⟩:Array Value)=args:=rfl;rw[ea]at this;refine this.mono λe W' ⟨v,S',he,hr,_,_,_,hB⟩=> ?_
 subst he;have hv:v= .bool true:=by cases hr;rfl
 subst hv;have y:=F.lt;have C:before=p++ []:=G;rw[Kc]at C;subst C;have I:=N r h3;have E:(Value.bool Ht).resultList 1= [.bool Ht]:=rfl;have V:∀(g:Nat->Bool),(∀x∈before,g x.block=Ht)->Jv enc P W' 0 g Ht fn.params.toList args.toList r before:=λg L=>ZdI u hB _ _ _ _ U y L X
 have hR:∀(b:Nat) (g:Nat->Bool) (hd:Bool),Jv enc P W' b g hd fn.resultTypes.toList ((Value.bool Ht).resultList fn.resultTypes.size) [.lit (.bool Ht)] []:=λb g hd=>by
  rw[k];exact trodAll_cons_mk (shut_bool T Ht) trodAll_mk0
 have z:∀g:Nat->Bool,DataW.TrodVars enc P W' g s.vars ([]:List (DataW H)) []:=λg=>by rw[c];exact rfl
 refine⟨_,rfl,r,[],before,[],before,[],F,?_,?_,?_,World.keptBut_mono (λp hp=>⟨hp,.inr (.inl hp)⟩) (hB.frame _),λ_=>⟨ok_one k E (okWide_bool_mk T Ht),?_⟩⟩;rw[Kc,I];exact hR _ _ _;rw[Kc,I];exact V _ (λx J=>by simpa using y x J);rw[Kc,I];exact z _;refine⟨_,_,([]++before)++ [],⟨[]++before,[],trodAll_append (V _ λ_ _=>rfl) (hR _ _ _),z _,rfl,?_,λh=>by cases h⟩,?_⟩;intro b off hp;have hp:MemPlace.cell b off∈before:=by simpa using hp
 rw[hB.frozen (y _ hp)];exact O b off (by simpa using hp);intro x J _;simpa using J
end
section
variable {P:Program}
theorem PT.struct_inv {t:TypeId} {fs:Array Field} {cs:List PV} (b:P.underlying t=Hs (.struct fs)) (h:PT P t cs):PTs P (fs.toList.map (·.type)) cs:=by
 cases h with
 |str' h' _ hp=>rw[b]at h';cases h';exact hp
 |any h'=>exact(h' _ b).elim
 |odd h'=>simp[Ze6,b]at h'
 |bool h' _=>rw[b]at h';cases h'
 |int h'=>rw[b]at h';cases h'
 |flt h' _=>rw[b]at h';cases h'
 |str h' _=>rw[b]at h';cases h'
 |nilp h'=>rw[b]at h';cases h'
 |ptr h' _=>rw[b]at h';cases h'
 |sl h' _=>rw[b]at h';cases h'
 |arr h' _=>rw[b]at h';cases h'
theorem PT.int_inv {t:TypeId} {k:IntKind} {cs:List PV} (b:P.underlying t=Hs (.int k)) (h:PT P t cs):∃n,cs= [.int k n]/\k.min<=n/\n<=k.max:=by
 cases h with
 |int h' n h1 h2=>rw[b]at h';cases h';exact⟨n,rfl,h1,h2⟩
 |any h'=>exact(h' _ b).elim
 |odd h'=>simp[Ze6,b]at h'
 |bool h' _=>rw[b]at h';cases h'
 |flt h' _=>rw[b]at h';cases h'
 |str h' _=>rw[b]at h';cases h'
 |nilp h'=>rw[b]at h';cases h'
 |ptr h' _=>rw[b]at h';cases h'
 |sl h' _=>rw[b]at h';cases h'
 |str' h' _=>rw[b]at h';cases h'
 |arr h' _=>rw[b]at h';cases h'
theorem PT.bool_inv {t:TypeId} {cs:List PV} (c:P.underlying t=Hs .bool) (h:PT P t cs):∃b,cs= [.bool b]:=by
 cases h with
 |bool h' b=>exact⟨b,rfl⟩
 |any h'=>exact(h' _ c).elim
 |odd h'=>simp[Ze6,c]at h'
 |int h'=>rw[c]at h';cases h'
 |flt h' _=>rw[c]at h';cases h'
 |str h' _=>rw[c]at h';cases h'
 |nilp h'=>rw[c]at h';cases h'
 |ptr h' _=>rw[c]at h';cases h'
 |sl h' _=>rw[c]at h';cases h'
 |str' h' _=>rw[c]at h';cases h'
 |arr h' _=>rw[c]at h';cases h'
theorem PT.string_inv {t:TypeId} {cs:List PV} (b:P.underlying t=Hs .string) (h:PT P t cs):∃l,cs= [.str l]/\l.length<=maxLen:=by
 cases h with
 |str h' l hl=>exact⟨l,rfl,hl⟩
 |any h'=>exact(h' _ b).elim
 |odd h'=>simp[Ze6,b]at h'
 |bool h' _=>rw[b]at h';cases h'
 |int h'=>rw[b]at h';cases h'
 |flt h' _=>rw[b]at h';cases h'
 |nilp h'=>rw[b]at h';cases h'
 |ptr h' _=>rw[b]at h';cases h'
 |sl h' _=>rw[b]at h';cases h'
 |str' h' _=>rw[b]at h';cases h'
 |arr h' _=>rw[b]at h';cases h'
theorem PT.slice_inv {t e:TypeId} {cs:List PV} (g:Ze6 P t=Hf) (b:P.underlying t=Hs (.slice e)) (h:PT P t cs):∃l,cs= [.sl .no l]/\l.length<=maxLen/\ ∀p∈l,PA P e p:=by
 cases h with
 |sl h' n hn f hp=>
  rw[b]at h';cases h';refine⟨_,rfl,by simpa using hn,λp c=> ?_⟩;obtain⟨i,d,rfl⟩:=Jj.1 c;exact⟨f i,hp i (by simpa using d),rfl⟩
 |any h'=>exact(h' _ b).elim
 |odd h'=>rw[g]at h';cases h'
 |bool h' _=>rw[b]at h';cases h'
 |int h'=>rw[b]at h';cases h'
 |flt h' _=>rw[b]at h';cases h'
 |str h' _=>rw[b]at h';cases h'
 |nilp h'=>rw[b]at h';cases h'
 |ptr h' _=>rw[b]at h';cases h'
 |str' h' _=>rw[b]at h';cases h'
 |arr h' _=>rw[b]at h';cases h'
theorem PTs.cons_inv {t:TypeId} {c:List TypeId} {cs:List PV} (h:PTs P (t::c) cs):∃a b,cs=a++b/\PT P t a/\PTs P c b:=by
 cases h with
 |cons h hs=>exact⟨_,_,rfl,h,hs⟩
def PTs.nil_inv {cs:List PV} (h:PTs P [] cs):cs= []:=by cases h;rfl
theorem PAs.cons_inv {t:TypeId} {c:List TypeId} {cs:List PV} (h:PAs P (t::c) cs):∃a b,cs=a::b/\PA P t a/\PAs P c b:=by
 cases h with
 |cons h hs=>exact⟨_,_,rfl,h,hs⟩
def PAs.nil_inv {cs:List PV} (h:PAs P [] cs):cs= []:=by cases h;rfl
def PA.agg {t:TypeId} {p:PV} (c:Yp P t=Ht) (h:PA P t p):∃cs,p= .agg cs/\PT P t cs:=by
 obtain⟨cs,d,b⟩:=h;rw[c]at b;exact⟨cs,b,d⟩
def PA.one {t:TypeId} {p:PV} (c:Yp P t=Hf) (h:PA P t p):∃cs,p=cs.getD 0 .any/\PT P t cs:=by
 obtain⟨cs,d,b⟩:=h;rw[c]at b;exact⟨cs,b,d⟩
def PA.int {t:TypeId} {k:IntKind} {p:PV} (b:P.underlying t=Hs (.int k)) (h:PA P t p):∃n,p= .int k n/\k.min<=n/\n<=k.max:=by
 obtain⟨cs,d,c⟩:=PA.one (by simp[Yp,b]) h;obtain⟨n,rfl,e⟩:=PT.int_inv b c;exact⟨n,d,e⟩
def PA.string {t:TypeId} {p:PV} (b:P.underlying t=Hs .string) (h:PA P t p):∃l,p= .str l/\l.length<=maxLen:=by
 obtain⟨cs,d,c⟩:=PA.one (by simp[Yp,b]) h;obtain⟨n,rfl,e⟩:=PT.string_inv b c;exact⟨n,d,e⟩
def PA.bool {t:TypeId} {p:PV} (c:P.underlying t=Hs .bool) (h:PA P t p):∃b,p= .bool b:=by
 obtain⟨cs,e,d⟩:=PA.one (by simp[Yp,c]) h;obtain⟨n,rfl⟩:=PT.bool_inv c d;exact⟨n,e⟩
def PA.slice {t e:TypeId} {p:PV} (c:Ze6 P t=Hf) (b:P.underlying t=Hs (.slice e)) (h:PA P t p):∃l,p= .sl .no l/\l.length<=maxLen/\ ∀p∈l,PA P e p:=by
 obtain⟨cs,g,d⟩:=PA.one (by simp[Yp,b]) h;obtain⟨n,rfl,i⟩:=PT.slice_inv c b d;exact⟨n,g,i⟩
theorem Sq {α:Type} {enc:α->PV} {Q:α->Prop}:∀ {l:List PV},(∀p∈l,∃x,p=enc x/\Q x)-> ∃xs:List α,l=xs.map enc/\ ∀x∈xs,Q x
 | [],_=>⟨[],rfl,λx g=>by cases g⟩
 |p::l,h=>by
  obtain⟨x,rfl,d⟩:=h p (by simp);obtain⟨xs,rfl,b⟩:=Sq (l:=l) (λp hp=>h p (by simp[hp]));exact⟨x::xs,rfl,λy c=>by
   rcases JC.1 c with e|e;rw[e];exact d;exact b y e⟩
end
section
variable {P:Program} {s:St} {Q:Exit->St->Prop}
@[go_sem] theorem DB {α:Type} (f:Nat->α):Yq [] f=f:=rfl
@[go_sem] theorem Sf {α:Type} (i:Nat) (v:α) (L:List (Nat×α)) (f:Nat->α):Yq ((i,v)::L) f=upd (Yq L f) i v:=rfl
@[go_sem] theorem ZvD (f:Nat->PV):Zgg [] f=f:=by funext i;simp[Zgg]
@[go_sem] theorem Zu4 (w:Nat) (b:List Nat) (f:Nat->PV):Zgg (w::b) f=upd (Zgg b f) w .any:=by
 funext i;simp only[Zgg,upd,List.contains_cons];by_cases h:w=i;subst h;simp;have:(i==w)=false:=by simp;exact λe=>h e.symm
 simp[this,h]
attribute [go_sem] St.inv
def Zxa {id:Nat} {l:List Oper} (b:P.follows .mixedOrders=Ht) (c:Znv l.toArray=Ht) (h:@vA P Hf ⟨@vQ ⟨Q⟩ .normal⟩ ⟨l⟩ ⟨l⟩ s):awp P (.region id l.toArray Ht) Q s:=
 Zzo b c h
def HRest (X:List Nat) (c:Nat->Option (List PV)) (b:Nat->Bool) (h:Nat->Option (List PV)) (z:Nat->Bool):Prop:=∀i,X.contains i=Hf->h i=Hn\/(h i=c i/\z i=b i)
def HRest.refl (X:List Nat) (h:Nat->Option (List PV)) (z:Nat->Bool):HRest X h z h z:=λ_ _=> .inr ⟨rfl,rfl⟩
def QRest (X:List Nat) (b q:Rows):Prop:=∀i,X.contains i=Hf->q i=Hn\/q i=b i
def QRest.refl (X:List Nat) (q:Rows):QRest X q q:=λ_ _=> .inr rfl
def QRest.upd {X:List Nat} {c q:Rows} {d:Nat} {v:Option Row} (hd:X.contains d=Ht\/q d=Hn) (g:QRest X c q):QRest X (PL.upd c d v) q:=λi b=>by
 by_cases e:d=i;subst e;rcases hd with hd|hd;rw[hd]at b;cases b;exact .inl hd;rw[Zb _ _ e];exact g i b
def ZA8 (H:List (Nat×List PV)) (R:List (Nat×Row)):Ref->Bool
 | .r i=>(R.map (·.1)).contains i
 | .b i=>(H.map (·.1)).contains i
def fnl {α:Type} {p:α->Prop}:∀x∈([]:List α),p x:=λx b=>by cases b
def fcs {α:Type} {p:α->Prop} {a:α} {l:List α} (h:p a) (c:∀x∈l,p x):∀x∈a::l,p x:=λx b=>by
 rcases JC.1 b with e|e;rw[e];exact h;exact c x e
def Fc2 {α:Type} {p:α->Prop} {e d:α} (c:p e) (b:p d):∀x∈[e,d],p x:=fcs c (fcs b fnl)
def Fc3 {α:Type} {p:α->Prop} {g h e:α} (b:p g) (c:p h) (d:p e):∀x∈[g,h,e],p x:=fcs b (fcs c (fcs d fnl))
def Fc4 {α:Type} {p:α->Prop} {h i g k:α} (b:p h) (d:p i) (e:p g) (c:p k):∀x∈[h,i,g,k],p x:=fcs b (fcs d (fcs e (fcs c fnl)))
def Fc5 {α:Type} {p:α->Prop} {k q i r h:α} (b:p k) (d:p q) (e:p i) (c:p r) (g:p h):∀x∈[k,q,i,r,h],p x:=fcs b (fcs d (fcs e (fcs c (fcs g fnl))))
def Fc6 {α:Type} {p:α->Prop} {q r k t i u:α} (b:p q) (d:p r) (e:p k) (c:p t) (g:p i) (h:p u):∀x∈[q,r,k,t,i,u],p x:=fcs b (fcs d (fcs e (fcs c (fcs g (fcs h fnl)))))
def Fc7 {α:Type} {p:α->Prop} {t u r y k z q:α} (b:p t) (e:p u) (g:p r) (d:p y) (h:p k) (i:p z) (c:p q):∀x∈[t,u,r,y,k,z,q],p x:=fcs b (fcs e (fcs g (fcs d (fcs h (fcs i (fcs c fnl))))))
def Fc8 {α:Type} {p:α->Prop} {z u y A q C r t:α} (c:p z) (e:p u) (h:p y) (d:p A) (k:p q) (i:p C) (b:p r) (g:p t):∀x∈[z,u,y,A,q,C,r,t],p x:=fcs c (fcs e (fcs h (fcs d (fcs k (fcs i (fcs b (fcs g fnl)))))))
def Fc9 {α:Type} {p:α->Prop} {C z A E r F t u y:α} (c:p C) (g:p z) (i:p A) (d:p E) (q:p r) (k:p F) (b:p t) (h:p u) (e:p y):∀x∈[C,z,A,E,r,F,t,u,y],p x:=fcs c (fcs g (fcs i (fcs d (fcs q (fcs k (fcs b (fcs h (fcs e fnl))))))))
def Fc10 {α:Type} {p:α->Prop} {G z F I y C A t u E:α} (q:p G) (r:p z) (d:p F) (h:p I) (g:p y) (e:p C) (b:p A) (c:p t) (i:p u) (k:p E):∀x∈[G,z,F,I,y,C,A,t,u,E],p x:=fcs q (fcs r (fcs d (fcs h (fcs g (fcs e (fcs b (fcs c (fcs i (fcs k fnl)))))))))
def WF (J:Nat->St->Prop) (Q:Exit->St->Prop):Exit->St->Prop
 | .goto l,s=>J l s
 |e,s=>Q e s
theorem GW {c:Code} {ι:Type} (t:ι->Nat) (code:ι->Code) (I:ι->St) (μ:ι->Nat) (hf:∀i,findLabel c (t i)=Hs (code i)) (hr:Refs s-> ∀i,Refs (I i))
  (pass:∀i,(∀j s',μ j<μ i->Weak (I j) s'->awp P (code j) (WF (λl s'=>∃j,t j=l/\μ j<μ i/\Weak (I j) s') Q) s')->
   awp P (code i) (WF (λl s'=>∃j,t j=l/\μ j<μ i/\Weak (I j) s') Q) (I i))
  (first:(∀j s',Weak (I j) s'->awp P (code j) (WF (λl s'=>∃j,t j=l/\Weak (I j) s') Q) s')->awp P c (WF (λl s'=>∃j,t j=l/\Weak (I j) s') Q) s):
  awp P (.scope c) Q s:=λB S M a w hs=>by
 have p:=hr hs.refs;have R:∀n i,μ i=n->awp P (code i) (WF (λl s'=>∃j,t j=l/\μ j<μ i/\Weak (I j) s') Q) (I i):=by
  intro n;induction n using KI with
  |_ n ih=>
   intro i hi;refine pass i λj s' hj F=>F7 F (λ_=>p j) (YY (λe s'' h=> ?_) (ih (μ j) (by omega) j rfl))
   cases e with
   |goto l=>obtain⟨k,V,h2,W⟩:=h;exact⟨k,V,by omega,W⟩
   |_=>exact h
 have E:=first λj s' F=>F7 F (λ_=>p j) (YY (λe s'' h=>by
  cases e with
  |goto l=>obtain⟨k,V,h2,W⟩:=h;exact⟨k,V,W⟩
  |_=>exact h) (R _ j rfl))
 intro b k cs;have hg:∀i,gotoIn (t i) (.inScope c::k)=Hs (.code (code i):: .inScope c::k):=λi=>by simp[gotoIn,hf i]
 have key:∀n i S1 M1 C A,μ i=n->Sim B S1 M1 (I i) C A->Ext B S S1 w A-> ∃e a' w',(∃s' S' M',Q e s'/\Sim B S' M' s' a' w'/\Ext B S S' w w')/\Arrives P (lone (b.at C (.code (code i):: .inScope c::k)) cs A) b k cs e a' w':=by
  intro n;induction n using KI with
  |_ n ih=>
   intro i S1 M1 C A hi q g;obtain⟨e,L,J,⟨O,S2,M2,z,u,y⟩,d⟩:=R _ i rfl B S1 M1 C A q b (.inScope c::k) cs;cases e with
   |normal=>exact⟨.normal,L,J,⟨O,S2,M2,z,u,g.trans y⟩,Steps.trans d (.one step_inScope)⟩
   |exit id=>exact⟨.exit id,L,J,⟨O,S2,M2,z,u,g.trans y⟩,λY U=>d Y (by simp[exitTo,U])⟩
   |goto l'=>
    obtain⟨j,rfl,xa,F⟩:=z;obtain⟨X,Z,T,G,r⟩:=ih (μ j) (by omega) j S2 M2 L J rfl (u.weak F (p j)) (g.trans y);exact⟨X,Z,T,G,.of_steps (d _ (hg j)) r⟩
   |ret=>exact⟨_,L,J,⟨O,S2,M2,z,u,g.trans y⟩,d⟩
   |panic ch=>exact⟨_,L,J,⟨O,S2,M2,z,u,g.trans y⟩,d⟩
   |outgrown=>exact⟨_,L,J,⟨O,S2,M2,z,u,g.trans y⟩,d⟩
 obtain⟨e,C,A,⟨N,S1,M1,z,q,g⟩,d⟩:=E B S M a w hs b (.inScope c::k) cs;cases e with
 |normal=>exact⟨.normal,C,A,⟨N,S1,M1,z,q,g⟩,.head step_scope (Steps.trans d (.one step_inScope))⟩
 |exit id=>exact⟨.exit id,C,A,⟨N,S1,M1,z,q,g⟩,λY U=> .head step_scope (d Y (by simp[exitTo,U]))⟩
 |goto l'=>
  obtain⟨j,rfl,F⟩:=z;obtain⟨X,Z,T,G,r⟩:=key _ j S1 M1 C A rfl (q.weak F (p j)) g;exact⟨X,Z,T,G,.of_steps (.head step_scope (d _ (hg j))) r⟩
 |ret=>exact⟨_,C,A,⟨N,S1,M1,z,q,g⟩,.of_steps (.one step_scope) d⟩
 |panic ch=>exact⟨_,C,A,⟨N,S1,M1,z,q,g⟩,.of_steps (.one step_scope) d⟩
 |outgrown=>exact⟨_,C,A,⟨N,S1,M1,z,q,g⟩,.of_steps (.one step_scope) d⟩
def mkSt (n:Nat) (L:List (Nat×PV)) (H:List (Nat×List PV×Bool)) (R:List (Nat×Row)):St:=
 { fr:=Yq L λ_=> .any,m:= { h:=Yq (H.map λx=>(x.1,Hs x.2.1)) λ_=>Hn,z:=Yq (H.map λx=>(x.1,x.2.2)) λ_=>Hf,q:=Yq (R.map λx=>(x.1,Hs x.2)) λ_=>Hn,o:=λ_=>Hn,it:=λ_=>Hn,om:=λ_=>Hn,v:=λ_=>Hn,ph:=λ_=>Hn,pq:=λ_=>Hn,vm:=λ_=>Hf },n:=n }
structure Has (n:Nat) (L:List (Nat×PV)) (H:List (Nat×List PV×Bool)) (R:List (Nat×Row)) (s:St):Prop where
 n:s.n=n
 fr:∀x∈L,s.fr x.1=x.2
 h:∀x∈H,s.m.h x.1=Hs x.2.1/\s.m.z x.1=x.2.2
 q:∀x∈R,s.m.q x.1=Hs x.2
def Has.weak {n:Nat} {L:List (Nat×PV)} {H:List (Nat×List PV×Bool)} {R:List (Nat×Row)} (h:Has n L H R s):Weak (mkSt n L H R) s:=by
 have m1:∀ {α β:Type} (L:List (Nat×α)) (f:α->β),(L.map λx=>(x.1,f x.2)).map (·.1)=L.map (·.1):=λL f=>by simp
 refine⟨h.n.symm,λi=> ?_,λi=> ?_,λi=> ?_,λ_=> .inl rfl,λ_=> .inl rfl,λ_=> .inl rfl,λ_=> .inl rfl,λ_=> .inl rfl,λ_=> .inl rfl⟩;by_cases b:(L.map (·.1)).contains i=Ht;exact .inr (Yh (R:=λi v=>v=s.fr i) (λx c=>(h.fr x c).symm) b);exact .inl (WC (by simpa using b));show Yq (H.map λx=>(x.1,Hs x.2.1)) (λ_=>Hn) i=Hn\/(Yq (H.map λx=>(x.1,Hs x.2.1)) (λ_=>Hn) i=_/\Yq (H.map λx=>(x.1,x.2.2)) (λ_=>Hf) i=_);by_cases b:(H.map (·.1)).contains i=Ht;right;refine⟨Yh (R:=λi v=>v=s.m.h i) (λx c=> ?_) (by rw[m1 H (λx=>Hs x.1)];exact b),Yh (R:=λi v=>v=s.m.z i) (λx c=> ?_) (by rw[m1 H (λx=>x.2)];exact b)⟩;obtain⟨y,d,rfl⟩:=Jj.1 c;exact(h.h y d).1.symm;obtain⟨y,d,rfl⟩:=Jj.1 c;exact(h.h y d).2.symm;exact .inl (WC (by rw[m1 H (λx=>Hs x.1)];simpa using b));show Yq (R.map λx=>(x.1,Hs x.2)) (λ_=>Hn) i=Hn\/Yq (R.map λx=>(x.1,Hs x.2)) (λ_=>Hn) i=_;by_cases b:(R.map (·.1)).contains i=Ht;right;refine Yh (R:=λi v=>v=s.m.q i) (λx c=> ?_) (by rw[m1 R Hs];exact b);obtain⟨y,d,rfl⟩:=Jj.1 c;exact(h.q y d).symm;exact .inl (WC (by rw[m1 R Hs];simpa using b))
def ZR (H:List (Nat×List PV×Bool)) (R:List (Nat×Row)):Ref->Bool
 | .r i=>(R.map (·.1)).contains i
 | .b i=>(H.map (·.1)).contains i
def Zcq (L:List (Nat×PV)) (H:List (Nat×List PV×Bool)) (R:List (Nat×Row)):Prop:=
 (∀x∈L,x.2.ids.all (ZR H R)=Ht)/\ ∀x∈H,(J3 x.2.1).all (ZR H R)=Ht
theorem Refs.mkSt {n:Nat} {L:List (Nat×PV)} {H:List (Nat×List PV×Bool)} {R:List (Nat×Row)} (h:Zcq L H R):Refs (mkSt n L H R):=by
 have m1:∀ {α β:Type} (L:List (Nat×α)) (f:α->β),(L.map λx=>(x.1,f x.2)).map (·.1)=L.map (·.1):=λL f=>by simp
 have live:∀r,ZR H R r=Ht->ZI (PL.mkSt n L H R).m r:=λr d=>by
  cases r with
  |b i=>
   show Yq (H.map λx=>(x.1,Hs x.2.1)) (λ_=>Hn) i≠Hn;exact Yh (R:=λi v=>v≠Hn) (λx e=>by obtain⟨y,u,rfl⟩:=Jj.1 e;simp) (by rw[m1 H (λx=>Hs x.1)];exact d)
  |r i=>
   show Yq (R.map λx=>(x.1,Hs x.2)) (λ_=>Hn) i≠Hn;exact Yh (R:=λi v=>v≠Hn) (λx e=>by obtain⟨y,u,rfl⟩:=Jj.1 e;simp) (by rw[m1 R Hs];exact d)
 refine⟨λi r d=> ?_,λi cs g c k r d=> ?_,λi es g=>(by cases g),λb c k=>(by cases k)⟩;by_cases g:(L.map (·.1)).contains i=Ht;exact Yh (R:=λi v=>∀r∈v.ids,ZI (PL.mkSt n L H R).m r) (λx e r d=>live r (Jg.1 (h.1 x e) r d)) g r d;have q:r∈(Yq L (λ_=>Qn) i).ids:=d;rw[WC (by simpa using g)]at q;simp[JL]at q;by_cases t:(H.map (·.1)).contains i=Ht;have A:=Yh (R:=λi v=>∀cs,v=Hs cs-> ∀c∈cs,∀r∈c.ids,ZI (PL.mkSt n L H R).m r) (f:=λ_=>Hn) (L:=H.map λx=>(x.1,Hs x.2.1)) (i:=i)
  (λx e cs z c k r d=>by obtain⟨y,u,rfl⟩:=Jj.1 e;cases z;exact live r (Jg.1 (h.2 y u) r (J7.2 ⟨c,k,d⟩))) (by rw[m1 H (λx=>Hs x.1)];exact t)
 exact A cs g c k r d;have p:Yq (H.map λx=>(x.1,Hs x.2.1)) (λ_=>Hn) i=Hs cs:=g;rw[WC (by rw[m1 H (λx=>Hs x.1)];simpa using t)]at p;cases p
def Next {ι:Type} (n:Nat) (L:ι->List (Nat×PV)) (H:ι->List (Nat×List PV×Bool)) (R:ι->List (Nat×Row)) (μ:ι->Nat) (i:ι) (s':St):Prop:=∃j,μ j<μ i/\Has n (L j) (H j) (R j) s'
def DN {ι:Type} (n:Nat) (L:ι->List (Nat×PV)) (H:ι->List (Nat×List PV×Bool)) (R:ι->List (Nat×Row)) (s':St):Prop:=∃j,Has n (L j) (H j) (R j) s'
theorem ZA {c:Code} {ι:Type} (n:Nat) (L:ι->List (Nat×PV)) (H:ι->List (Nat×List PV×Bool)) (R:ι->List (Nat×Row)) (μ:ι->Nat) (b:ι)
  (g:Has n (L b) (H b) (R b) s) (p:∀i,Zcq (L i) (H i) (R i))
  (round:∀i,@vC P ⟨c⟩ ⟨Xq (Next n L H R μ i) Q⟩ (mkSt n (L i) (H i) (R i))):awp P (.loop c) Q s:=
 TG (λi=>mkSt n (L i) (H i) (R i)) μ b g.weak (λ_ i=>Refs.mkSt (p i)) λi=>YY (λe s' h=>by
  cases e with
  |normal=>obtain⟨j,d,k⟩:=h;exact⟨j,d,k.weak⟩
  |_=>exact h) (Z4 _ _ _ (round i))
def FT (l:Nat) (J:St->Prop):Nat->St->Prop:=λb s=>b=l/\J s
def YS {l:Nat} {z:Code} (h:awp P z Q s):awp P (.seq (.label l) z) Q s:=ZaH (Zfz h)
theorem Ze0 {c:Code} {ι:Type} (n:Nat) (L:ι->List (Nat×PV)) (H:ι->List (Nat×List PV×Bool)) (R:ι->List (Nat×Row)) (μ:ι->Nat) (l:Nat) (z:Code) (q:findLabel c l=Hs (.seq .skip z)) (p:∀i,Zcq (L i) (H i) (R i))
  (pass:∀i,@vC P ⟨z⟩ ⟨WF (FT l (Next n L H R μ i)) Q⟩ (mkSt n (L i) (H i) (R i)))
  (first:(∀j s',Has n (L j) (H j) (R j) s'->awp P z (WF (FT l (DN n L H R)) Q) s')-> @vC P ⟨c⟩ ⟨WF (FT l (DN n L H R)) Q⟩ s):awp P (.scope c) Q s:=by
 have t:∀ {Q:Exit->St->Prop} {s:St},awp P z Q s->awp P (.seq .skip z) Q s:=λh=>ZaH (F6 h)
 have passA:∀i,awp P (.seq .skip z) (WF (λg s'=>∃j,l=g/\μ j<μ i/\Weak (mkSt n (L j) (H j) (R j)) s') Q) (mkSt n (L i) (H i) (R i)):=λi=>
  t (YY (λe s' h=>by
   cases e with
   |goto g=>obtain⟨rfl,j,r,d⟩:=h;exact⟨j,rfl,r,d.weak⟩
   |_=>exact h) (Z4 _ _ _ (pass i)))
 refine GW (λ_:ι=>l) (λ_=> .seq .skip z) (λi=>mkSt n (L i) (H i) (R i)) μ (λ_=>q) (λ_ i=>Refs.mkSt (p i)) (λi _=>passA i) λcut=> ?_
 have key:=first λj s' k B S M a w b=>by
  have hp:=Z4 _ _ _ (pass j) B S M a w (b.weak k.weak (Refs.mkSt (p j)));refine wp_mono hp λe u w' ⟨s1,S1,M1,h1,h2,h3⟩=>⟨s1,S1,M1,?_,h2,h3⟩
  cases e with
  |goto g=>obtain⟨e,j,_,d⟩:=h1;exact⟨e,j,d⟩
  |_=>exact h1
 refine YY (λe s' h=> ?_) (Z4 _ _ _ key);cases e with
 |goto g=>obtain⟨rfl,j,d⟩:=h;exact⟨j,rfl,d.weak⟩
 |_=>exact h
theorem Tt {c:Code} (h:@vC P ⟨c⟩ ⟨WF (λ_ _=>False) Q⟩ s):awp P (.scope c) Q s:=
 GW (ι:=Empty) (λi=>i.elim) (λi=>i.elim) (λi=>i.elim) (λi=>i.elim) (λi=>i.elim) (λ_ i=>i.elim) (λi=>i.elim) λ_=>YY (λe s' h=>by
  cases e with
  |goto l=>exact h.elim
  |_=>exact h) (Z4 _ _ _ h)
@[go_sem] theorem Zp4 (J:Nat->St->Prop) (s:St):@vQ ⟨WF J Q⟩ .normal s= @vQ ⟨Q⟩ .normal s:=rfl
@[go_sem] theorem ZuA (J:Nat->St->Prop) (s:St):@vQ ⟨WF J Q⟩ .ret s= @vQ ⟨Q⟩ .ret s:=rfl
@[go_sem] theorem Zte (J:Nat->St->Prop) (id:Nat) (s:St):@vQ ⟨WF J Q⟩ (.exit id) s= @vQ ⟨Q⟩ (.exit id) s:=rfl
@[go_sem] theorem Ztf (J:Nat->St->Prop) (l:Nat) (s:St):@vQ ⟨WF J Q⟩ (.goto l) s=J l s:=rfl
@[go_sem] theorem Zu3 (l:Nat) (J:St->Prop) (s:St):FT l J l s=J s:=by simp[FT]
attribute [go_sem] mkSt
end
open Go.RowKit
section
variable {P:Program} {B:Frm} {S:Stable} {M:Maps} {s:St} {a:Act} {w:World} {Q:Exit->St->Prop}
theorem YL {c:Code} (i id d n sz:Nat) (e:TypeId) (es:List PV) (I:s.fr i= .sl (.row id) es) (q:s.m.q id=Hs (.live n sz e)) (hd:s.m.q d=Hn)
  (h:awp P c Q ({ s with fr:=upd s.fr i (.sl (.row d) es) }.with ((s.m.setq id .dead).setq d (.live n sz e)))):awp P c Q s:=λB S M a w A=>by
 have C:id≠d:=λe=>by rw[e,hd]at q;cases q
 have b:=A.moveRow q hd;have g:=A.fr i;rw[I]at g;have key:∃r:Rep S (a.tmps.getD i undef) (.sl .no es),(es.length<=n/\(es.length=n->(M.κ id=0->a.tmps.getD i undef= .slice Hn 0 0)/\(∀c,M.κ id=c+1->a.tmps.getD i undef= .slice (Hs ⟨M.ψ id,0,Hn⟩) n c))):=by
  generalize a.tmps.getD i undef=v at g;cases g with
  |clean r=>cases r
  |row _ _ _ r t=>exact⟨r,t n sz e q⟩
 obtain⟨r,t⟩:=key;refine h B S _ a w ⟨b.defers,b.hn,b.hB,b.stable,λk=> ?_,λk r J=> ?_,b.blk,b.row,b.inj,b.injq,b.injx,b.rm,b.vc,⟨b.pn.h,b.pn.q⟩,b.hz⟩;show RepS _ _ _ _ (upd s.fr i (.sl (.row d) es) k);by_cases u:i=k;subst u;rw[Za];refine .row d _ es r λn' z F G=> ?_
 have y:upd (upd s.m.q id (Hs .dead)) d (Hs (.live n sz e)) d=Hs (.live n' z F):=G;rw[Za]at y;cases y;refine⟨t.1,λE=> ?_⟩;have:=t.2 E;simpa only[Za]using this;rw[Zb _ _ u];exact b.fr k;have p:r∈(upd s.fr i (.sl (.row d) es) k).ids:=J;by_cases u:i=k;subst u;rw[Za]at p;simp only[JL,Jc]at p;subst p;show upd _ _ _ _≠Hn;simp[Za];rw[Zb _ _ u]at p;exact b.ids k r p
end
open Go.RowKit
section
variable {P:Program} {s:St} {Q:Exit->St->Prop}
def ZdZ {ι:Type} (n:Nat) (L:ι->List (Nat×PV)) (H:ι->List (Nat×List PV×Bool)) (R:ι->List (Nat×Row)) (μ:ι->Nat) (b:ι->Nat) (i:ι):Nat->St->Prop:=λl s'=>∃j,b j=l/\μ j<μ i/\Has n (L j) (H j) (R j) s'
def Zts {ι:Type} (n:Nat) (L:ι->List (Nat×PV)) (H:ι->List (Nat×List PV×Bool)) (R:ι->List (Nat×Row)) (b:ι->Nat):Nat->St->Prop:=λl s'=>∃j,b j=l/\Has n (L j) (H j) (R j) s'
theorem ZuJ {c:Code} {ι:Type} (n:Nat) (L:ι->List (Nat×PV)) (H:ι->List (Nat×List PV×Bool)) (R:ι->List (Nat×Row)) (μ:ι->Nat) (b:ι->Nat) (z:ι->Code)
  (u:∀i,findLabel c (b i)=Hs (.seq .skip (z i))) (t:∀i,Zcq (L i) (H i) (R i))
  (pass:∀i,(∀j s',μ j<μ i->Has n (L j) (H j) (R j) s'->awp P (z j) (WF (ZdZ n L H R μ b i) Q) s')-> @vC P ⟨z i⟩ ⟨WF (ZdZ n L H R μ b i) Q⟩ (mkSt n (L i) (H i) (R i)))
  (first:(∀j s',Has n (L j) (H j) (R j) s'->awp P (z j) (WF (Zts n L H R b) Q) s')-> @vC P ⟨c⟩ ⟨WF (Zts n L H R b) Q⟩ s):awp P (.scope c) Q s:=by
 have y:∀ {z:Code} {Q:Exit->St->Prop} {s:St},awp P z Q s->awp P (.seq .skip z) Q s:=λh=>ZaH (F6 h)
 have p:∀m i,μ i=m->awp P (z i) (WF (ZdZ n L H R μ b i) Q) (mkSt n (L i) (H i) (R i)):=by
  intro m;induction m using KI with
  |_ m ih=>
   intro i A;refine Z4 _ _ _ (pass i λj s' C r=> ?_);refine F7 r.weak (λ_=>Refs.mkSt (t j)) (YY (λe s'' h=> ?_) (ih (μ j) (by omega) j rfl));cases e with
   |goto l=>obtain⟨k,d,q,g⟩:=h;exact⟨k,d,by omega,g⟩
   |_=>exact h
 refine GW b (λi=> .seq .skip (z i)) (λi=>mkSt n (L i) (H i) (R i)) μ u (λ_ i=>Refs.mkSt (t i)) (λi _=> ?_) λ_=> ?_
 refine y (YY (λe s' h=> ?_) (p _ i rfl));cases e with
 |goto l=>obtain⟨k,d,q,g⟩:=h;exact⟨k,d,q,g.weak⟩
 |_=>exact h
 refine YY (λe s' h=> ?_) (Z4 _ _ _ (first λj s' r=> ?_));cases e with
 |goto l=>obtain⟨k,d,g⟩:=h;exact⟨k,d,g.weak⟩
 |_=>exact h
 refine F7 r.weak (λ_=>Refs.mkSt (t j)) (YY (λe s'' h=> ?_) (p _ j rfl));cases e with
 |goto l=>obtain⟨k,d,q,g⟩:=h;exact⟨k,d,g⟩
 |_=>exact h
def Fy (b:Nat) (J0:St->Prop) (c:Nat) (J1:St->Prop):Nat->St->Prop:=λl s=>(l=b/\J0 s)\/(l=c/\J1 s)
def ZuI {c:Code} {ι0 ι1:Type} (n:Nat) (L0:ι0->List (Nat×PV)) (H0:ι0->List (Nat×List PV×Bool)) (R0:ι0->List (Nat×Row)) (μ0:ι0->Nat)
  (L1:ι1->List (Nat×PV)) (H1:ι1->List (Nat×List PV×Bool)) (R1:ι1->List (Nat×Row)) (μ1:ι1->Nat) (B:Nat) (C:∀j,μ1 j<B)
  (g b:Nat) (p q:Code) (z:findLabel c g=Hs (.seq .skip p)) (y:findLabel c b=Hs (.seq .skip q)) (t:∀i,Zcq (L0 i) (H0 i) (R0 i)) (r:∀i,Zcq (L1 i) (H1 i) (R1 i))
  (pass0:∀i,(∀j s',Has n (L1 j) (H1 j) (R1 j) s'->awp P q (WF (Fy g (Next n L0 H0 R0 μ0 i) b (DN n L1 H1 R1)) Q) s')-> @vC P ⟨p⟩ ⟨WF (Fy g (Next n L0 H0 R0 μ0 i) b (DN n L1 H1 R1)) Q⟩ (mkSt n (L0 i) (H0 i) (R0 i)))
  (pass1:∀i,@vC P ⟨q⟩ ⟨WF (FT b (Next n L1 H1 R1 μ1 i)) Q⟩ (mkSt n (L1 i) (H1 i) (R1 i)))
  (first:(∀j s',Has n (L0 j) (H0 j) (R0 j) s'->awp P p (WF (Fy g (DN n L0 H0 R0) b (DN n L1 H1 R1)) Q) s')-> @vC P ⟨c⟩ ⟨WF (Fy g (DN n L0 H0 R0) b (DN n L1 H1 R1)) Q⟩ s):awp P (.scope c) Q s:=by
 refine ZuJ (ι:=ι0 ⊕ ι1) n (Jl L0 L1) (Jl H0 H1) (Jl R0 R1) (Jl (λi=>B+μ0 i) μ1) (Jl (λ_=>g) (λ_=>b)) (Jl (λ_=>p) (λ_=>q)) ?_ ?_ ?_ ?_;rintro (i|i);exact z;exact y;rintro (i|i);exact t i;exact r i;rintro (i|i) cut;have G:∀l s',Fy g (Next n L0 H0 R0 μ0 i) b (DN n L1 H1 R1) l s'->ZdZ n (Jl L0 L1) (Jl H0 H1) (Jl R0 R1) (Jl (λi=>B+μ0 i) μ1) (Jl (λ_=>g) (λ_=>b)) (.inl i) l s':=by
  rintro l s' (⟨rfl,j,h,d⟩|⟨rfl,j,d⟩);exact⟨.inl j,rfl,by simp only[Kf];omega,d⟩;exact⟨.inr j,rfl,by have:=C j;simp only[Kf,KY];omega,d⟩
 have u:∀l s',ZdZ n (Jl L0 L1) (Jl H0 H1) (Jl R0 R1) (Jl (λi=>B+μ0 i) μ1) (Jl (λ_=>g) (λ_=>b)) (.inl i) l s'->Fy g (Next n L0 H0 R0 μ0 i) b (DN n L1 H1 R1) l s':=by
  rintro l s' ⟨j|j,k,h,d⟩;exact .inl ⟨k.symm,j,by simp only[Kf]at h;omega,d⟩;exact .inr ⟨k.symm,j,d⟩
 have e:(Fy g (Next n L0 H0 R0 μ0 i) b (DN n L1 H1 R1))=ZdZ n (Jl L0 L1) (Jl H0 H1) (Jl R0 R1) (Jl (λi=>B+μ0 i) μ1) (Jl (λ_=>g) (λ_=>b)) (.inl i):=by
  funext l s';exact propext ⟨G l s',u l s'⟩
 have:=pass0 i λj s' A=>by rw[e];exact cut (.inr j) s' (by have:=C j;simp only[Kf,KY];omega) A
 rw[e]at this;exact this;have hp:=Z4 _ _ _ (pass1 i);have e:∀l s',FT b (Next n L1 H1 R1 μ1 i) l s'->ZdZ n (Jl L0 L1) (Jl H0 H1) (Jl R0 R1) (Jl (λi=>B+μ0 i) μ1) (Jl (λ_=>g) (λ_=>b)) (.inr i) l s':=by
  rintro l s' ⟨rfl,j,h,d⟩;exact⟨.inr j,rfl,h,d⟩
 have E:∀l s',ZdZ n (Jl L0 L1) (Jl H0 H1) (Jl R0 R1) (Jl (λi=>B+μ0 i) μ1) (Jl (λ_=>g) (λ_=>b)) (.inr i) l s'->FT b (Next n L1 H1 R1 μ1 i) l s':=by
  rintro l s' ⟨j|j,k,h,d⟩;have:=C i;simp only[Kf,KY]at h;omega;exact⟨k.symm,j,h,d⟩
 have F:FT b (Next n L1 H1 R1 μ1 i)=ZdZ n (Jl L0 L1) (Jl H0 H1) (Jl R0 R1) (Jl (λi=>B+μ0 i) μ1) (Jl (λ_=>g) (λ_=>b)) (.inr i):=by
  funext l s';exact propext ⟨e l s',E l s'⟩
 have:=pass1 i;rw[F]at this;exact this;intro cut;have e:Fy g (DN n L0 H0 R0) b (DN n L1 H1 R1)=Zts n (Jl L0 L1) (Jl H0 H1) (Jl R0 R1) (Jl (λ_=>g) (λ_=>b)):=by
  funext l s';refine propext ⟨?_,?_⟩;rintro (⟨rfl,j,d⟩|⟨rfl,j,d⟩);exact⟨.inl j,rfl,d⟩;exact⟨.inr j,rfl,d⟩;rintro ⟨j|j,k,d⟩;exact .inl ⟨k.symm,j,d⟩;exact .inr ⟨k.symm,j,d⟩
 have:=first λj s' A=>by rw[e];exact cut (.inl j) s' A
 rw[e]at this;exact this
end
open Go.RowKit
section
variable {P:Program} {ops:Array Oper} {md:Jq}
def Tw {s t s2:St} {i oj:Oper} (N:i.apart ops oj=Ht)
  (core:∀q h c mj,XY P i s.eval s.m q h->XY P oj s.eval h c mj-> ∃C,XY P oj s.eval s.m c C/\XY P i s.eval C q mj)
  (k:Xa P ops i s t) (F:Xa P ops oj t s2):∃A,Xa P ops oj s A/\Xa P ops i A s2:=by
 obtain⟨G,E,r⟩:=Oper.apart_spec N;obtain⟨J,k⟩:=k;obtain⟨d2,F⟩:=F;have T:t.n=s.n:=by rcases k with ⟨_,v,m',_,rfl⟩|⟨_,rfl⟩<;>simp[Dp,St.with]
 rw[T]at d2;have R:∀x∈oj.op.operands,t.eval x=s.eval x:=λx p=>by
  rcases k with ⟨_,v,m',_,rfl⟩|⟨_,rfl⟩;rw[WX (XO G x p),U3];rw[WX (XO G x p)]
 have I:gd ops t oj=gd ops s oj:=by
  rcases k with ⟨_,v,m',_,rfl⟩|⟨_,rfl⟩;exact UP G;exact UP (m:=s.m) G
 have U:∀d,oj.dst=Hs d->i.dst≠Hs d:=λd hd e=>E d e hd
 rcases k with ⟨z,q,h,y,rfl⟩|⟨z,rfl⟩;rcases F with ⟨g,c,mj,b,rfl⟩|⟨g,rfl⟩;rw[UQ]at b;have u:XY P oj s.eval h c mj:=Xx R b;obtain⟨C,L,O⟩:=core q h c mj y u;refine⟨(s.with C).put oj.dst c,⟨d2,.inl ⟨by rw[<-I];exact g,c,C,L,rfl⟩⟩,by rw[Dp];exact J,.inl ⟨by rw[UP r];exact z,q,mj,?_,?_⟩⟩;rw[UQ];refine Xx (λx p=> ?_) O;rw[WX (XO r x p),U3];rw[WY,WY,Vq _ _ _ E];rfl;refine⟨s.put oj.dst (.tup []),⟨d2,.inr ⟨by rw[<-I];exact g,rfl⟩⟩,by rw[Dp];exact J,.inl ⟨by rw[show s.put oj.dst (.tup [])=(s.with s.m).put oj.dst (.tup [])from rfl,UP r];exact z,q,h,?_,?_⟩⟩;rw[UQ];exact Xx (λx p=>by rw[WX (XO r x p)]) y;rw[WY,Vq _ _ _ E];rcases F with ⟨g,c,mj,b,rfl⟩|⟨g,rfl⟩;rw[UQ]at b;refine⟨(s.with mj).put oj.dst c,⟨d2,.inl ⟨by rw[<-I];exact g,c,mj,Xx R b,rfl⟩⟩,by rw[Dp];exact J,.inr ⟨by rw[UP r];exact z,?_⟩⟩;rw[WY,Vq _ _ _ E];refine⟨s.put oj.dst (.tup []),⟨d2,.inr ⟨by rw[<-I];exact g,rfl⟩⟩,by rw[Dp];exact J,.inr ⟨by rw[show s.put oj.dst (.tup [])=(s.with s.m).put oj.dst (.tup [])from rfl,UP r];exact z,?_⟩⟩;rw[Vq _ _ _ E]
theorem Zqn {t:TypeId} {x v:PV} {m:Hp} {r:Ref} (d:r∉x.dids):((W0 P t x v m).m).hv r=m.hv r\/ ¬(W0 P t x v m).ok:=by
 unfold W0;cases x with
 |ptr id off=>
  cases c:m.h id with
  |none=>right;simp only[c];exact λh=>h
  |some cs=>
   left;simp only[c];cases r with
   |b i=>exact Zb _ _ λe=>d (by simp[Kg,e])
   |r i=>rfl
 |vptr id n z k off=>
  cases c:m.v id with
  |none=>right;simp only[c];exact λh=>h
  |some es=>
   left;simp only[c];cases r with
   |b i=>rfl
   |r i=>exact Zb _ _ λe=>d (by simp[Kg,e])
 |_=>exact .inr (λh=>h.elim)
def ZdK {o:Oper} {t:TypeId} {y w:Operand} (e:o.op= .store t y w) {ρ:Operand->PV} {m m':Hp} {v:PV} (h:XY P o ρ m v m'):∀r,r∉(ρ y).dids->m'.hv r=m.hv r:=by
 rcases h with ⟨b,z,p⟩|⟨c,g,args,k,_⟩;intro i q;have d:aop P o ρ m=if tkn P t then W0 P t (ρ y) (ρ w) m else .fail:=by unfold aop;rw[e]
 rw[p];rw[d]at b ⊢;split at b;rename_i u;simp only[u,if_true]at b ⊢;rcases Zqn (P:=P) (t:=t) (x:=ρ y) (v:=ρ w) (m:=m) q with h|h;exact h;exact absurd b h;exact b.elim;rw[e]at k;cases k
theorem Zg5 {o:Oper} {t:TypeId} {x:Operand} (i:o.op= .load t x) {ρ:Operand->PV} {m m':Hp} {v:PV} (h:XY P o ρ m v m'):
  m'=m/\ ∀m2:Hp,(∀r,r∈(ρ x).dids->m2.hv r=m.hv r)->XY P o ρ m2 v m2:=by
 rcases h with ⟨e,u,y⟩|⟨c,g,args,p,_⟩;have d:∀m,aop P o ρ m=if tkn P t then VO P t (ρ x) m else .fail:=λm=>by unfold aop;rw[i]
 have key:∀m2:Hp,(∀r,r∈(ρ x).dids->m2.hv r=m.hv r)->(aop P o ρ m).m=m/\(aop P o ρ m2).ok/\(aop P o ρ m2).v=(aop P o ρ m).v/\(aop P o ρ m2).m=m2:=by
  intro m2 b;rw[d]at e ⊢;rw[d];split at e;rename_i C;simp only[C,if_true];revert e;unfold VO;cases q:ρ x with
  |rptr cs=>exact λh=>⟨rfl,h,rfl,rfl⟩
  |ptr id off=>
   have:m2.h id=m.h id:=b (.b id) (by rw[q];simp[Kg]);simp only[this];cases m.h id with
   |none=>exact λh=>h.elim
   |some cs=>exact λh=>⟨rfl,h,rfl,rfl⟩
  |vptr id n z k off=>
   have:m2.v id=m.v id:=b (.r id) (by rw[q];simp[Kg]);simp only[this];cases m.v id with
   |none=>exact λh=>h.elim
   |some es=>exact λh=>⟨rfl,h,rfl,rfl⟩
  |_=>exact λh=>h.elim
  exact e.elim
 refine⟨by rw[y];exact(key m λ_ _=>rfl).1,λm2 b=> ?_⟩;obtain⟨_,A,F,E⟩:=key m2 b;exact .inl ⟨A,by rw[F];exact u,E.symm⟩;rw[i]at p;cases p
def Znh {s:St} {g d:Oper} {t u:TypeId} {x y w:Operand} (k:g.op= .load t x) (C:d.op= .store u y w) (hd:∀r∈(s.eval x).dids,r∉(s.eval y).dids):
  ∀z c p mj,XY P g s.eval s.m z c->XY P d s.eval c p mj-> ∃A,XY P d s.eval s.m p A/\XY P g s.eval A z mj:=by
 intro z c p mj q b;obtain⟨e,h⟩:=Zg5 k q;subst e;exact⟨mj,b,h mj λi k=>ZdK C b i (hd _ k)⟩
def Zni {s:St} {g d:Oper} {t u:TypeId} {x y w:Operand} (C:g.op= .store u y w) (E:d.op= .load t x) (hd:∀r∈(s.eval x).dids,r∉(s.eval y).dids):
  ∀z c k mj,XY P g s.eval s.m z c->XY P d s.eval c k mj-> ∃A,XY P d s.eval s.m k A/\XY P g s.eval A z mj:=by
 intro z c k mj b p;obtain⟨e,h⟩:=Zg5 E p;subst e;exact⟨s.m,h s.m λi q=>(ZdK C b i (hd _ q)).symm,b⟩
def Zij (ops:Array Oper) (t:Nat):Bool:=ops.toList.any λo=>o.dst==Hs t
def ZA6 (ops:Array Oper) (x:Nat):Bool:= !Zij ops x||ops.toList.any λo=>o.dst==Hs x&&match o.op with| .move (.tmp y)=> !Zij ops y|_=>Hf
def ZhN (ops:Array Oper) (o:Oper):Option Nat:=match o.op with
 | .fieldAddr _ (.tmp x) _=>Hs x
 | .indexAddr _ (.tmp x) _=>if ZA6 ops x then Hs x else Hn
 | .move (.tmp x)=>if Zij ops x then Hn else Hs x
 |_=>Hn
def Zka (ops:Array Oper):Nat->Nat->Nat
 |0,t=>t
 |n+1,t=>match ops.toList.find? (λo=>o.dst==Hs t)with
  |some o=>match ZhN ops o with|some x=>Zka ops n x|none=>t
  |none=>t
def Zcp (md:Jq) (ops:Array Oper) (root:Nat->Nat) (o:Oper) (x:Nat):Bool:=
 (!Zij ops x&&root x==x)||o.after.any λe=>Jk md e&&match ops[e.on]? with
  |some o'=>o'.dst==Hs x&&match ZhN ops o' with|some x'=>root x'==root x|none=>Hf
  |none=>Hf
def Zqp (md:Jq) (ops:Array Oper) (root:Nat->Nat):Bool:=ops.toList.all λo=>match ZhN ops o with|some x=>Zcp md ops root o x|none=>Ht
def Ziy:List Oper->Bool
 | []=>Ht
 |o::l=>(match o.dst with|some d=>l.all λo'=>o'.dst !=Hs d|none=>Ht)&&Ziy l
def Zxt (o:Oper):Bool:=match o.op with| .alloc _=>Ht|_=>Hf
def alB (md:Jq) (ops:Array Oper) (o:Oper) (y:Nat):Bool:=o.after.any λe=>Jk md e&&match ops[e.on]? with
  |some o'=>o'.dst==Hs y&&Zxt o'
  |none=>Hf
structure Good (ops:Array Oper) (root:Nat->Nat) (s0:St) (listed:Array Bool) (s:St):Prop where
 ext:∀t,Zij ops t=Hf->s.fr t=s0.fr t
 adr:∀k o d x,ops[k]? = Hs o->ZhN ops o=Hs x->o.dst=Hs d->listed.getD k Hf=Ht-> ∀r∈(s.fr d).dids,r∈(s0.fr (root x)).dids
 al:∀k o d,ops[k]? = Hs o->Zxt o=Ht->o.dst=Hs d->listed.getD k Hf=Ht-> ∀r∈(s.fr d).dids,r= .b d
theorem Good.alloc {root:Nat->Nat} {A s:St} {b:Array Bool} (g:Good ops root A b s) {k:Nat} {o:Oper} {y:Nat} (q:ops[k]? = Hs o) (C:k∈Jh md ops b) (t:alB md ops o y=Ht):∀r∈(s.fr y).dids,r= .b y:=by
 obtain⟨e,z,p⟩:=Jp.1 t;simp only[Ja]at p;obtain⟨p,d⟩:=p;obtain⟨_,E,i,h⟩:=mem_ready.1 C;rw[q]at i;cases i;have u:=h e z p;cases c:ops[e.on]? with
 |none=>rw[c]at d;cases d
 |some o'=>
  rw[c]at d;simp only[Ja,beq_iff_eq]at d;exact g.al e.on o' y c d.2 d.1 u
theorem Ztt {o:Oper} {d:Nat} (i:Zxt o=Ht) (hd:o.dst=Hs d) {ρ:Operand->PV} {m m':Hp} {v:PV} (h:XY P o ρ m v m'):∀r∈v.dids,r= .b d:=by
 unfold Zxt at i;split at i;rename_i t e;rcases h with ⟨q,u,A⟩|⟨c,g,args,p,_⟩;have b:aop P o ρ m=match o.dst,XT P t with
  |some d,Hs z=>⟨m.h d=Hn,.ptr d 0,m.new d z⟩
  |_,_=> .fail:=by unfold aop;rw[e];rfl
 rw[hd]at b;cases k:XT P t with
 |none=>rw[k]at b;rw[b]at q;exact q.elim
 |some z=>
  rw[k]at b;rw[u,b];intro r y;simpa[Kg]using y
 rw[e]at p;cases p;cases i
theorem Good.src {root:Nat->Nat} {z s:St} {b:Array Bool} (g:Good ops root z b s) {k:Nat} {o:Oper} {x:Nat} (A:ops[k]? = Hs o) (u:k∈Jh md ops b) (y:Zcp md ops root o x=Ht):
  ∀r∈(s.fr x).dids,r∈(z.fr (root x)).dids:=by
 simp only[Zcp,Jt,Ja,J4,beq_iff_eq]at y;rcases y with ⟨E,C⟩|h;rw[g.ext x E,C];exact λr u=>u
 obtain⟨e,G,q⟩:=Jp.1 h;simp only[Ja]at q;obtain⟨q,c⟩:=q;obtain⟨_,I,p,i⟩:=mem_ready.1 u;rw[A]at p;cases p;have F:=i e G q;cases d:ops[e.on]? with
 |none=>rw[d]at c;cases c
 |some o'=>
  rw[d]at c;simp only[Ja,beq_iff_eq]at c;obtain⟨hd,c⟩:=c;cases t:ZhN ops o' with
  |none=>rw[t]at c;cases c
  |some x'=>
   rw[t]at c;simp only[beq_iff_eq]at c;rw[<-c];exact g.adr e.on o' x x' d t hd F
def Zrk {k:Nat} {o:Oper} {d:Nat} (b:ops[k]? = Hs o) (hd:o.dst=Hs d):Zij ops d=true:=by
 unfold Zij;rw[Kt];obtain⟨c,rfl⟩:=Jb.1 b;exact⟨ops[k],by simp,by simp[hd]⟩
theorem Fe:∀ {l:List Oper},Ziy l=Ht-> ∀(i j:Nat) (c b:Oper) (d:Nat),l[i]? = Hs c->l[j]? = Hs b->c.dst=Hs d->b.dst=Hs d->i=j
 | [],_,i,j,c,b,d,h,_,_,_=>by simp at h
 |o::l,hB,i,j,c,b,d,hi,hj,di,dj=>by
  simp only[Ziy,Ja]at hB;obtain⟨e,g⟩:=hB;cases i with
  |zero=>
   cases j with
   |zero=>rfl
   |succ j=>
    simp only[Ku,JH.injEq]at hi;simp only[JY]at hj;subst hi;rw[di]at e;have:=Jg.1 e b (KM hj);simp[dj]at this
  |succ i=>
   cases j with
   |zero=>
    simp only[Ku,JH.injEq]at hj;simp only[JY]at hi;subst hj;rw[dj]at e;have:=Jg.1 e c (KM hi);simp[di]at this
   |succ j=>
    simp only[JY]at hi hj;rw[Fe g i j c b d hi hj di dj]
def Zqq {o:Oper} {x:Nat} (e:ZhN ops o=Hs x) {ρ:Operand->PV} {m m':Hp} {v:PV} (h:XY P o ρ m v m'):∀r∈v.dids,r∈(ρ (.tmp x)).dids:=by
 unfold ZhN at e;split at e;rename_i t y f b;cases e;rcases h with ⟨q,p,u⟩|⟨c,g,args,k,_⟩;rw[p];have d:aop P o ρ m=YH P t (ρ (.tmp x)) f m:=by unfold aop;rw[b]
 rw[d];exact Zb0;rw[b]at k;cases k;rename_i t y i b;split at e;cases e;rcases h with ⟨q,p,u⟩|⟨c,g,args,k,_⟩;rw[p];have d:aop P o ρ m=YI P t (ρ (.tmp x)) (ρ i) m:=by unfold aop;rw[b]
 rw[d];exact Zb1;rw[b]at k;cases k;cases e;rename_i y b;split at e;cases e;cases e;rcases h with ⟨q,p,u⟩|⟨c,g,args,k,_⟩;rw[p];have d:aop P o ρ m=⟨True,ρ (.tmp x),m⟩:=by unfold aop;rw[b]
 rw[d];exact λr z=>z
 rw[b]at k;cases k;cases e
def Good.next {root:Nat->Nat} {J s s':St} {h:Array Bool} (g:Good ops root J h s) (O:Zqp md ops root=Ht) (I:Ziy ops.toList=Ht) {k:Nat} {o:Oper} (u:ops[k]? = Hs o)
  (N:k∈Jh md ops h) (i:Xa P ops o s s'):Good ops root J (h.setIfInBounds k Ht) s':=by
 have z:∀t,o.dst≠Hs t->s'.fr t=s.fr t:=λt A=>by
  obtain⟨_,i⟩:=i;rcases i with ⟨_,v,m',_,rfl⟩|⟨_,rfl⟩;rw[FG A];rfl;rw[FG A]
 refine⟨λt A=> ?_,λq F d x c C hd E r b=> ?_,λq F d c C hd E r b=> ?_⟩
 rotate_left 2
 by_cases p:k=q;subst p;rw[u]at c;cases c;obtain⟨_,i⟩:=i;rcases i with ⟨_,v,m',G,rfl⟩|⟨_,rfl⟩;have hv:((s.with m').put o.dst v).fr d=v:=by rw[hd];simp[St.put,upd]
 rw[hv]at b;exact Ztt C hd G r b;have hv:(s.put o.dst (.tup [])).fr d= .tup []:=by rw[hd];simp[St.put,upd]
 rw[hv]at b;simp[Kg,JR]at b;rw[getD_set_ne Hf p]at E;have y:o.dst≠Hs d:=λe=>p (Fe I k q o F d (by simpa using u) (by simpa using c) e hd)
 rw[z d y]at b;exact g.al q F d c C hd E r b;rw[z t (λe=>by rw[Zrk u e]at A;cases A),g.ext t A];by_cases p:k=q;subst p;rw[u]at c;cases c;have L:Zcp md ops root o x=true:=by
  have:=Jg.1 O o (by obtain⟨p,rfl⟩:=Jb.1 u;simp);rw[C]at this;exact this
 obtain⟨_,i⟩:=i;rcases i with ⟨_,v,m',G,rfl⟩|⟨_,rfl⟩;have hv:((s.with m').put o.dst v).fr d=v:=by rw[hd];simp[St.put,upd]
 rw[hv]at b;exact g.src u N L r (Zqq C G r b);have hv:(s.put o.dst (.tup [])).fr d= .tup []:=by rw[hd];simp[St.put,upd]
 rw[hv]at b;simp[Kg,JR]at b;rw[getD_set_ne Hf p]at E;have y:o.dst≠Hs d:=λe=>p (Fe I k q o F d (by simpa using u) (by simpa using c) e hd)
 rw[z d y]at b;exact g.adr q F d x c C hd E r b
def lsB (md:Jq) (ops:Array Oper) (root:Nat->Nat) (D D2:List (Nat×Nat)) (a b:Oper):Bool:=
 match a.op,b.op with
 | .load _ (.tmp x),.store _ (.tmp y) _=>(Zcp md ops root a x&&Zcp md ops root b y&&D.contains (root x,root y))||(Zcp md ops root a x&&alB md ops b y&&D2.contains (root x,y))
 | .store _ (.tmp y) _,.load _ (.tmp x)=>(Zcp md ops root b x&&Zcp md ops root a y&&D.contains (root x,root y))||(Zcp md ops root b x&&alB md ops a y&&D2.contains (root x,y))
 |_,_=>Hf
def Zuf {root:Nat->Nat} {D D2:List (Nat×Nat)} {T s V s2:St} {b:Array Bool} {i j:Nat} {G F:Oper} (W:∀p∈D,∀r∈(T.fr p.1).dids,r∉(T.fr p.2).dids) (E:∀p∈D2,∀r∈(T.fr p.1).dids,r≠ .b p.2) (g:Good ops root T b s)
  (e:ops[i]? = Hs G) (k:ops[j]? = Hs F) (O:i∈Jh md ops b) (U:j∈Jh md ops b)
  (h:G.apart ops F=Ht) (c:lsB md ops root D D2 G F=Ht) (R:Xa P ops G s V) (N:Xa P ops F V s2):∃J,Xa P ops F s J/\Xa P ops G J s2:=by
 unfold lsB at c;split at c;rename_i t x u y w L I;simp only[Jt,Ja]at c;rcases c with ⟨⟨A,z⟩,q⟩|⟨⟨A,z⟩,q⟩;refine Tw h (Znh L I λr C d=> ?_) R N;exact W _ (Jm.1 q) r (g.src e O A r C) (g.src k U z r d);refine Tw h (Znh L I λr C d=> ?_) R N;exact E _ (Jm.1 q) r (g.src e O A r C) (g.alloc k U z r d);rename_i u y w t x L I;simp only[Jt,Ja]at c;rcases c with ⟨⟨A,z⟩,q⟩|⟨⟨A,z⟩,q⟩;refine Tw h (Zni L I λr C d=> ?_) R N;exact W _ (Jm.1 q) r (g.src k U A r C) (g.src e O z r d);refine Tw h (Zni L I λr C d=> ?_) R N;exact E _ (Jm.1 q) r (g.src k U A r C) (g.alloc e O z r d);cases c
theorem ZcQ {root:Nat->Nat} {D D2:List (Nat×Nat)} {W:St} (hD:∀p∈D,∀r∈(W.fr p.1).dids,r∉(W.fr p.2).dids) (X:∀p∈D2,∀r∈(W.fr p.1).dids,r≠ .b p.2) (k1:Zqp md ops root=Ht) (k2:Ziy ops.toList=Ht) {K:St->Prop} {i:Nat} {d:Oper} (hi:ops[i]? = Hs d):
  ∀(fuel:Nat) (b:Array Bool) (s I:St),RefsD s->Good ops root W b s->
   (∀j u,ops[j]? = Hs u->j≠i->b.getD j Ht=Hf->(∀e∈u.after,Jk md e=Ht->e.on≠i)->d.apart ops u=Ht/\(compat d.op u.op=Ht\/lsB md ops root D D2 d u=Ht))->
   i∈Jh md ops b->Xa P ops d s I->
   ZsG P md ops K fuel (b.setIfInBounds i Ht) I->ZsG P md ops K (fuel+1) b s:=by
 intro fuel;induction fuel with
 |zero=>
  intro b s I hR _ _ A U H;refine⟨λh=>(by rw[h]at A;cases A),λj J=> ?_⟩;by_cases c:j=i;subst c;exact⟨d,I,hi,U,H⟩;have:=ready_mono J c;rw[H.1]at this;cases this
 |succ fuel ih=>
  intro b s I hR hG t A U H;refine⟨λh=>(by rw[h]at A;cases A),λj J=> ?_⟩;by_cases c:j=i;subst c;exact⟨d,I,hi,U,H⟩;obtain⟨u,s2,q,O,G⟩:=H.2 j (ready_mono J c);obtain⟨z,xd,C,T⟩:=mem_ready.1 J;rw[q]at C;cases C;have L:∀e∈u.after,Jk md e=Ht->e.on≠i:=λe he hb xc=>by
   have G:=T e he hb;have h0:=(mem_ready.1 A).1;rw[xc]at G;rcases KB i b.size with h'|h';simp[h']at h0 G;rw[h0]at G;cases G;simp[JK h']at G
  obtain⟨R,F⟩:=t j u q c z L;obtain⟨g,E,xb⟩:∃g,Xa P ops u s g/\Xa P ops d g s2:=by
   rcases F with F|xa;exact SV hR.refs R F U O;exact Zuf hD X hG hi q A J R xa U O
  have y:∀k ok,ops[k]? = Hs ok->k≠i->(b.setIfInBounds j Ht).getD k Ht=Hf->
    (∀e∈ok.after,Jk md e=Ht->e.on≠i)->d.apart ops ok=Ht/\(compat d.op ok.op=Ht\/lsB md ops root D D2 d ok=Ht):=λk ok hk Z V Y=>by
   refine t k ok hk Z ?_ Y
   by_cases N:j=k
   ·subst N;exact z
   ·rw[getD_set_ne Ht N]at V;exact V
  refine⟨u,g,q,E,ih (b.setIfInBounds j Ht) g s2 (Z9 hR E) (hG.next k1 k2 q J E) y (ready_mono A (J6 c)) xb ?_⟩;rw[JM _ _ c];exact G
def ZtG (md:Jq) (ops:Array Oper) (root:Nat->Nat) (D D2:List (Nat×Nat)) (b:Array Bool) (i:Nat):Bool:=
 match ops[i]? with
 |none=>Hf
 |some oi=>(Jo ops.size).all λj=>j==i||b.getD j Ht||match ops[j]? with
   |some oj=>oj.after.any (λe=>Jk md e&&e.on==i)||(oi.apart ops oj&&(compat oi.op oj.op||lsB md ops root D D2 oi oj))
   |none=>Ht
def Zc8 {root:Nat->Nat} {D D2:List (Nat×Nat)} {i:Nat} {g:Oper} {b:Array Bool} (y:ops[i]? = Hs g) (h:ZtG md ops root D D2 b i=Ht) (j:Nat) (d:Oper)
  (t:ops[j]? = Hs d) (k:j≠i) (p:b.getD j Ht=Hf) (r:∀e∈d.after,Jk md e=Ht->e.on≠i):
  g.apart ops d=Ht/\(compat g.op d.op=Ht\/lsB md ops root D D2 g d=Ht):=by
 simp only[ZtG,y,Jg,Js]at h;have c:=h j (Jb.1 t).1;simp only[t,Jt,beq_iff_eq,k,false_or,p,JV]at c;rcases c with c|c;obtain⟨e,u,q⟩:=Jp.1 c;simp only[Ja,beq_iff_eq]at q;exact absurd q.2 (r e u q.1);simpa using c
def De (md:Jq) (ops:Array Oper) (root:Nat->Nat) (D D2:List (Nat×Nat)):Nat->Nat->Array Bool->Bool
 |0,_,listed=>(Jh md ops listed).isEmpty
 |fuel+1,k,listed=>(Jh md ops listed).contains k&&ZtG md ops root D D2 listed k&&De md ops root D D2 fuel (k+1) (listed.setIfInBounds k Ht)
def Zju (D:List (Nat×Nat)) (ops:Array Oper) (D2:List (Nat×Nat):= []):Bool:=
 De .any ops (Zka ops ops.size) D D2 ops.size 0 (Je ops.size Hf)&&(Zqp .any ops (Zka ops ops.size)&&Ziy ops.toList)
theorem Zd8 {root:Nat->Nat} {D D2:List (Nat×Nat)} {z:St} (y:∀p∈D,∀r∈(z.fr p.1).dids,r∉(z.fr p.2).dids) (c:∀p∈D2,∀r∈(z.fr p.1).dids,r≠ .b p.2) (i:Zqp md ops root=Ht) (g:Ziy ops.toList=Ht) {K:St->Prop}:
  ∀(l:List Oper) (k:Nat) (listed:Array Bool) (s:St),RefsD s->Good ops root z listed s->(∀j,l[j]? = ops[k+j]?)->
  De md ops root D D2 l.length k listed=Ht->Ze4 P ops K l s->ZsG P md ops K l.length listed s
 | [],_,_,_,_,_,_,hB,h=>⟨by simpa[De]using hB,h⟩
 |o::l,k,listed,s,hR,hG,hl,hB,h=>by
  have q:ops[k]? = Hs o:=by simpa using(hl 0).symm
  simp only[JP,De,Ja]at hB;obtain⟨⟨F,E⟩,t⟩:=hB;obtain⟨hd,h⟩:=h;have d:k∈Jh md ops listed:=by simpa using F
  have u:∀j,l[j]? = ops[(k+1)+j]? :=λj=>by have:=hl (j+1);simpa[Kq,KC 1 j]using this
  rcases h with ⟨A,v,m',C,b⟩|⟨A,b⟩
  ·have e:Xa P ops o s ((s.with m').put o.dst v):=⟨hd,.inl ⟨A,v,m',C,rfl⟩⟩;exact ZcQ y c i g q l.length listed s _ hR hG (Zc8 q E) d e (Zd8 y c i g l (k+1) _ _ (Z9 hR e) (hG.next i g q d e) u t b)
  have e:Xa P ops o s (s.put o.dst (.tup [])):=⟨hd,.inr ⟨A,rfl⟩⟩;exact ZcQ y c i g q l.length listed s _ hR hG (Zc8 q E) d e (Zd8 y c i g l (k+1) _ _ (Z9 hR e) (hG.next i g q d e) u t b)
def apartB (s:St) (D:List (Nat×Nat)):Bool:=D.all λp=>(s.fr p.1).dids.all λr=> !((s.fr p.2).dids.contains r)
def Ztv (s:St) (D:List (Nat×Nat)):Bool:=D.all λp=>(s.fr p.1).dids.all λr=>decide (r≠ .b p.2)
def Zm7 {id:Nat} {Q:Exit->St->Prop} {s:St} (D D2:List (Nat×Nat)) (T:P.follows .mixedOrders=Ht) (c:Zju D ops D2=Ht) (L:apartB s D=Ht) (R:Ztv s D2=Ht) (h:Ze4 P ops (Q .normal) ops.toList s):awp P (.region id ops Ht) Q s:=λB S M a w z=>by
 refine wp_region_any T ?_;have I:Ext B S S w { w with drawn:=w.drawn+1 }:=⟨JI _,λ_ _=>⟨λ_=>rfl,rfl⟩,(JS B w).drew⟩;have i:Sim B S M s a { w with drawn:=w.drawn+1 }:=z.world rfl;simp only[Zju,Ja]at c;obtain⟨c,F,C⟩:=c;have y:∀p∈D,∀r∈(s.fr p.1).dids,r∉(s.fr p.2).dids:=λp hp r q g=>by
  have:=Jg.1 (Jg.1 L p hp) r q;simp only[J4,List.contains_eq_mem,decide_eq_false_iff_not]at this;exact this g
 have u:∀p∈D2,∀r∈(s.fr p.1).dids,r≠ .b p.2:=λp hp r q=>by
  have:=Jg.1 (Jg.1 R p hp) r q;simpa using this
 have G:Good ops (Zka ops ops.size) s (Je ops.size Hf) s:=⟨λ_ _=>rfl,λk o d x J _ _ b=>by
  exfalso;simp only[Jf,JN]at b;split at b<;>simp at b,λk o d J _ _ b=>by
  exfalso;simp only[Jf,JN]at b;split at b<;>simp at b⟩
 have:=Zd8 (P:=P) (K:=Q .normal) (md:= .any) y u F C ops.toList 0 (Je ops.size Hf) s z.refsD G (by simp) (by simpa using c) h;have:=GV (B:=B) (S0:=S) (w0:=w) (Qc:=λe A w'=>∃s' S' t,Q e s'/\Sim B S' t s' A w'/\Ext B S S' w w') (λs' S' t A w' N E O=>⟨s',S',t,N,E,O⟩) _ _ s this S M a _ i I;simpa using this
def Zm8 {id:Nat} {Q:Exit->St->Prop} {s:St} (D:List (Nat×Nat)) (b:P.follows .mixedOrders=Ht) (d:Zju D ops=Ht) (c:apartB s D=Ht) (h:Ze4 P ops (Q .normal) ops.toList s):awp P (.region id ops Ht) Q s:=Zm7 D [] b d c rfl h
def Zks {id:Nat} {l:List Oper} {Q:Exit->St->Prop} {s:St} (D:List (Nat×Nat)) (b:P.follows .mixedOrders=Ht) (d:Zju D l.toArray=Ht) (c:apartB s D=Ht) (h:@vA P Hf ⟨@vQ ⟨Q⟩ .normal⟩ ⟨l⟩ ⟨l⟩ s):awp P (.region id l.toArray Ht) Q s:=
 Zm8 D b d c (by rw[List.toList_toArray];exact Uy l s h)
end
end Go.PL
namespace Go.PL
open Go.RowKit
section
variable {P:Program} {s:St} {Q:Exit->St->Prop}
def mkStO (n:Nat) (L:List (Nat×PV)) (H:List (Nat×List PV×Bool)) (R:List (Nat×Row)) (O:List (Nat×MapC)) (I:List (Nat×IterC)):St:=
 { fr:=Yq L λ_=> .any,m:= { h:=Yq (H.map λx=>(x.1,Hs x.2.1)) λ_=>Hn,z:=Yq (H.map λx=>(x.1,x.2.2)) λ_=>Hf,q:=Yq (R.map λx=>(x.1,Hs x.2)) λ_=>Hn,o:=Yq (O.map λx=>(x.1,Hs x.2)) λ_=>Hn,it:=Yq (I.map λx=>(x.1,Hs x.2)) λ_=>Hn,om:=λ_=>Hn,v:=λ_=>Hn,ph:=λ_=>Hn,pq:=λ_=>Hn,vm:=λ_=>Hf },n:=n }
structure HasO (n:Nat) (L:List (Nat×PV)) (H:List (Nat×List PV×Bool)) (R:List (Nat×Row)) (O:List (Nat×MapC)) (I:List (Nat×IterC)) (s:St):Prop where
 b:Has n L H R s
 o:∀x∈O,s.m.o x.1=Hs x.2
 it:∀x∈I,s.m.it x.1=Hs x.2
def Sg {α:Type} (O:List (Nat×α)) (f:Nat->Option α) (h:∀x∈O,f x.1=Hs x.2) (i:Nat):Yq (O.map λx=>(x.1,Hs x.2)) (λ_=>Hn) i=Hn\/Yq (O.map λx=>(x.1,Hs x.2)) (λ_=>Hn) i=f i:=by
 have m1:(O.map λx=>(x.1,Hs x.2)).map (·.1)=O.map (·.1):=by simp
 by_cases b:(O.map (·.1)).contains i=Ht;right;refine Yh (R:=λi v=>v=f i) (λx d=> ?_) (by rw[m1];exact b);obtain⟨y,c,rfl⟩:=Jj.1 d;exact(h y c).symm;exact .inl (WC (by rw[m1];simpa using b))
def HasO.weak {n:Nat} {L:List (Nat×PV)} {H:List (Nat×List PV×Bool)} {R:List (Nat×Row)} {O:List (Nat×MapC)} {I:List (Nat×IterC)} (h:HasO n L H R O I s):Weak (mkStO n L H R O I) s:=
 ⟨h.b.weak.n,h.b.weak.fr,h.b.weak.h,h.b.weak.q,Sg O s.m.o h.o,Sg I s.m.it h.it,λ_=> .inl rfl,λ_=> .inl rfl,λ_=> .inl rfl,λ_=> .inl rfl⟩
def Refs.mkStO {n:Nat} {L:List (Nat×PV)} {H:List (Nat×List PV×Bool)} {R:List (Nat×Row)} {O:List (Nat×MapC)} {I:List (Nat×IterC)} (h:Zcq L H R):Refs (mkStO n L H R O I):=by
 have k:=Refs.mkSt (n:=n) h;have p:∀r,ZI (PL.mkSt n L H R).m r->ZI (PL.mkStO n L H R O I).m r:=λr d=>by cases r<;>exact d
 exact⟨λi r d=>p r (k.fr i r d),λi cs e c g r d=>p r (k.h i cs e c g r d),λi es e=>(by cases e),λb c g=>(by cases g)⟩
def Ztr {ι:Type} (n:Nat) (L:ι->List (Nat×PV)) (H:ι->List (Nat×List PV×Bool)) (R:ι->List (Nat×Row)) (O:ι->List (Nat×MapC)) (I:ι->List (Nat×IterC)) (μ:ι->Nat) (i:ι) (s':St):Prop:=∃j,μ j<μ i/\HasO n (L j) (H j) (R j) (O j) (I j) s'
def Zvk {ι:Type} (n:Nat) (L:ι->List (Nat×PV)) (H:ι->List (Nat×List PV×Bool)) (R:ι->List (Nat×Row)) (O:ι->List (Nat×MapC)) (I:ι->List (Nat×IterC)) (s':St):Prop:=∃j,HasO n (L j) (H j) (R j) (O j) (I j) s'
theorem Ztd {c:Code} {ι:Type} (n:Nat) (L:ι->List (Nat×PV)) (H:ι->List (Nat×List PV×Bool)) (R:ι->List (Nat×Row)) (O:ι->List (Nat×MapC)) (I:ι->List (Nat×IterC)) (μ:ι->Nat) (b:ι)
  (g:HasO n (L b) (H b) (R b) (O b) (I b) s) (p:∀i,Zcq (L i) (H i) (R i))
  (round:∀i,@vC P ⟨c⟩ ⟨Xq (Ztr n L H R O I μ i) Q⟩ (mkStO n (L i) (H i) (R i) (O i) (I i))):awp P (.loop c) Q s:=
 TG (λi=>mkStO n (L i) (H i) (R i) (O i) (I i)) μ b g.weak (λ_ i=>Refs.mkStO (p i)) λi=>YY (λe s' h=>by
  cases e with
  |normal=>obtain⟨j,d,k⟩:=h;exact⟨j,d,k.weak⟩
  |_=>exact h) (Z4 _ _ _ (round i))
theorem ZuK {c:Code} {ι:Type} (n:Nat) (L:ι->List (Nat×PV)) (H:ι->List (Nat×List PV×Bool)) (R:ι->List (Nat×Row)) (O:ι->List (Nat×MapC)) (I:ι->List (Nat×IterC)) (μ:ι->Nat) (l:Nat) (z:Code) (q:findLabel c l=Hs (.seq .skip z)) (p:∀i,Zcq (L i) (H i) (R i))
  (pass:∀i,@vC P ⟨z⟩ ⟨WF (FT l (Ztr n L H R O I μ i)) Q⟩ (mkStO n (L i) (H i) (R i) (O i) (I i)))
  (first:(∀j s',HasO n (L j) (H j) (R j) (O j) (I j) s'->awp P z (WF (FT l (Zvk n L H R O I)) Q) s')-> @vC P ⟨c⟩ ⟨WF (FT l (Zvk n L H R O I)) Q⟩ s):awp P (.scope c) Q s:=by
 have t:∀ {Q:Exit->St->Prop} {s:St},awp P z Q s->awp P (.seq .skip z) Q s:=λh=>ZaH (F6 h)
 have passA:∀i,awp P (.seq .skip z) (WF (λg s'=>∃j,l=g/\μ j<μ i/\Weak (mkStO n (L j) (H j) (R j) (O j) (I j)) s') Q) (mkStO n (L i) (H i) (R i) (O i) (I i)):=λi=>
  t (YY (λe s' h=>by
   cases e with
   |goto g=>obtain⟨rfl,j,r,d⟩:=h;exact⟨j,rfl,r,d.weak⟩
   |_=>exact h) (Z4 _ _ _ (pass i)))
 refine GW (λ_:ι=>l) (λ_=> .seq .skip z) (λi=>mkStO n (L i) (H i) (R i) (O i) (I i)) μ (λ_=>q) (λ_ i=>Refs.mkStO (p i)) (λi _=>passA i) λcut=> ?_
 have key:=first λj s' k B S M a w b=>by
  have hp:=Z4 _ _ _ (pass j) B S M a w (b.weak k.weak (Refs.mkStO (p j)));refine wp_mono hp λe u w' ⟨s1,S1,M1,h1,h2,h3⟩=>⟨s1,S1,M1,?_,h2,h3⟩
  cases e with
  |goto g=>obtain⟨e,j,_,d⟩:=h1;exact⟨e,j,d⟩
  |_=>exact h1
 refine YY (λe s' h=> ?_) (Z4 _ _ _ key);cases e with
 |goto g=>obtain⟨rfl,j,d⟩:=h;exact⟨j,rfl,d.weak⟩
 |_=>exact h
def Zna {c:Code} (i d:Nat) (es:List PV) (q:s.fr i= .sl (.row d) es) (h:awp P c Q { s with fr:=upd s.fr i (.sl .no es) }):awp P c Q s:=λB S M a w b=>by
 have p:=b.fr i;rw[q]at p;have key:Rep S (a.tmps.getD i undef) (.sl .no es):=p.sl_inv;refine h B S M a w ⟨b.defers,b.hn,b.hB,b.stable,λk=> ?_,λk r t=> ?_,b.blk,b.row,b.inj,b.injq,b.injx,b.rm,b.vc,b.pn,b.hz⟩;show RepS _ _ _ _ (upd s.fr i (.sl .no es) k);by_cases e:i=k;subst e;rw[Za];exact .clean key;rw[Zb _ _ e];exact b.fr k;have g:r∈(upd s.fr i (.sl .no es) k).ids:=t;by_cases e:i=k;subst e;rw[Za]at g;simp[JL]at g;rw[Zb _ _ e]at g;exact b.ids k r g
def St.initO (args:List PV) (n b:Nat) (c:MapC):St:=⟨VY 0 args,⟨λ_=>Hn,λ_=>Hf,λ_=>Hn,upd (λ_=>Hn) b (Hs c),λ_=>Hn,λ_=>Hn,λ_=>Hn,λ_=>Hn,λ_=>Hn,λ_=>Hf⟩,n⟩
def ZuT (P:Program) (rs:List ResultVar) (r:PV) (b:Nat) (c':MapC):Exit->St->Prop
 | .normal,s=>ZbY P r s [] rs/\s.m.o b=Hs c'
 | .ret,s=>ZbY P r s [] rs/\s.m.o b=Hs c'
 |_,_=>False
def Zt8 (P:Program) (rs:List ResultVar) (r:PV):Exit->St->Prop
 | .normal,s=>∃b,ZbY P b s [] rs/\r=b.shut s.m.o
 | .ret,s=>∃b,ZbY P b s [] rs/\r=b.shut s.m.o
 |_,_=>False
def ZvF (t:Nat) (r:Nat->PV) (c:MapC):Exit->St->Prop
 | .ret,s=>∃b id cs,s.fr t= .ptr id 0/\s.m.h id=Hs cs/\J3 cs= []/\s.m.o b=Hs c/\r b= .rptr cs
 |_,_=>False
theorem Zjc (rs:List ResultVar) (r:PV) (b:Nat) (c':MapC) (s:St):@vQ ⟨ZuT P rs r b c'⟩ .ret s=(ZbY P r s [] rs/\s.m.o b=Hs c'):=rfl
theorem Zcw (rs:List ResultVar) (r:PV) (b:Nat) (c':MapC) (s:St):@vQ ⟨ZuT P rs r b c'⟩ .normal s=(ZbY P r s [] rs/\s.m.o b=Hs c'):=rfl
theorem Zi9 (rs:List ResultVar) (r:PV) (s:St):@vQ ⟨Zt8 P rs r⟩ .ret s= ∃b,ZbY P b s [] rs/\r=b.shut s.m.o:=rfl
theorem Zct (rs:List ResultVar) (r:PV) (s:St):@vQ ⟨Zt8 P rs r⟩ .normal s= ∃b,ZbY P b s [] rs/\r=b.shut s.m.o:=rfl
theorem Zi7 (t:Nat) (r:Nat->PV) (c:MapC) (s:St):@vQ ⟨ZvF t r c⟩ .ret s= ∃b id cs,s.fr t= .ptr id 0/\s.m.h id=Hs cs/\J3 cs= []/\s.m.o b=Hs c/\r b= .rptr cs:=rfl
def ZjN {S:Stable} {vs:List Value} {args:List PV} {n:Nat} (d:vs.length=args.length) (c:∀i,i<args.length->Rep S (vs.getD i undef) (args.getD i .any)) (i:Nat):
  Rep S (((⟨vs⟩:Array Value)++Je (n-vs.length) undef).getD i undef) (VY 0 args i):=by
 rw[VZ args 0 i (Ko _),KZ];by_cases b:i<args.length;have:=c i b;rw[getD_lt b]at this ⊢;rw[getD_lt (by omega)]at this;have e:((⟨vs⟩:Array Value)++Je (n-vs.length) undef).getD i undef=vs[i]'(by omega):=by
  rw[Jf,Km (by simp;omega)];simp[show i<vs.length by omega]
 rw[e];exact this;rw[Vi (by omega)];have e:((⟨vs⟩:Array Value)++Je (n-vs.length) undef).getD i undef=undef:=by
  rw[Jf,Kh (by simp;omega)];simp only[JN];split<;>rfl
 rw[e];exact .tup [] [] rfl (λi b=>by simp at b)
def SS {B:Frm} {S:Stable} {w:World} {vs:List Value} {args:List PV} {n:Nat} {o:Nat->Option MapC} (z:args.length<=n) (p:vs.length=args.length) (q:∀i,i<args.length->Rep S (vs.getD i undef) (args.getD i .any))
  (u:∀k,B k->k<w.heap.size) (g:Stab B S w o (λ_=>Hn)) (t:∀k,¬B k->S.z k):
  Sim B S ⟨id,id,id⟩ ⟨VY 0 args,⟨λ_=>Hn,λ_=>Hf,λ_=>Hn,o,λ_=>Hn,λ_=>Hn,λ_=>Hn,λ_=>Hn,λ_=>Hn,λ_=>Hf⟩,n⟩ { tmps:=⟨vs⟩++Je (n-vs.length) undef,defers:= [] } w:=by
 refine⟨rfl,?_,u,g,λi=> .clean (ZjN p q i),λi id d=>absurd d ((ZjN (n:=n) p q i).clean_ids id),λid cs d=> ?_,λid r d=> ?_,λid e cs cs' d=> ?_,λid e r y d=> ?_,λid e cs r d=> ?_,λb c d=> ?_,λi es d=> ?_,⟨λ_ _ h=>by simp at h,λ_ _ _ _ h=>by simp at h⟩,t⟩;simp;omega;simp at d;simp at d;simp at d;simp at d;simp at d;simp at d;simp at d
def Zkt {B:Frm} {S:Stable} {M:Maps} {s:St} {a:Act} {w:World} {fn:Func} {r:PV} {rs:List ResultVar} (e:Sim B S M s a w) (c:fn.results=rs.toArray) (h:ZbY P r s [] rs):∃v,(results fn a.tmps).run P w= .ok v w/\Rep S v r:=by
 obtain⟨k,i,p⟩:=Sh (fn:=fn) rs [] h;have g:fn.results.toList=rs:=by rw[c]
 have d:Zcb (fn.results.toList.map (FH P s)):=by rw[g];exact k
 obtain⟨v,hv,b⟩:=Vs e d;rw[g]at b;refine⟨v,hv,?_⟩;rw[p];simp only[List.reverse_nil,List.nil_append]at i ⊢;exact b.give e i
theorem Wr.of_v {f:FuncId} {fn:Func} {c:Code} {args:Nat->List PV} {r:PV} {n:Nat} {rs:List ResultVar} {mc mc':MapC} (T:P.funcs[f]? = Hs fn) (g:fn.name≠ "runtime.NumGoroutine") (R:fn.body=Hs c) (hn:fn.ntmps=n) (G:fn.results=rs.toArray) (hl:∀b,(args b).length<=n) (hi:r.dids= [])
  (h:∀b,@vC P ⟨c⟩ ⟨ZuT P rs r b mc'⟩ (St.initO (args b) n b mc)):Wr P f args mc r mc':=by
 subst hn;refine⟨⟨fn,T,g,by rw[R];rfl⟩,hi,λb w S vs A N y E i q Z=> ?_⟩;refine calls_of_wp T R ?_;have z:=SS (B:=λk=>k<w.heap.size/\k≠b) (w:=w) (n:=fn.ntmps) (o:=upd (λ_=>Hn) b (Hs mc)) (hl b) q Z (λk p=>p.1)
  ⟨A,λk d hd=>(by
   by_cases e:b=k
   ·subst e;rw[Za]at hd;cases hd;exact⟨λhh=>hh.2 rfl,E,i⟩
   ·rw[Zb _ _ e]at hd;cases hd),λk x hx=>(by cases hx)⟩
 have F:(⟨vs⟩:Array Value).size=vs.length:=by simp
 rw[F];have z:=z λk p=>by
  by_cases e:k=b;rw[e];exact y;exact N k (Jz λL=>p ⟨L,e⟩)
 refine wp_mono (Z4 _ _ _ (h b) _ S _ _ w z) λe U w' X=> ?_
 obtain⟨s',S',M',I,u,J⟩:=X;have t:ZbY P r s' [] rs/\s'.m.o b=Hs mc'->U.defers= []/\ ∃v,(results fn U.tmps).run P w'= .ok v w'/\ ∃v' S',Ending.returned v= .returned v'/\Rep S' v' r/\StabS S' w'/\SLe S S'/\(∀k,k<w.heap.size->k≠b->(∀o,S' k o=S k o)/\S'.m k=S.m k)/\S'.m b=Hn/\MapAt S' w' b mc'/\BelowF (λk=>k<w.heap.size/\k≠b) w w':=by
  rintro ⟨Y,g2⟩;obtain⟨v,hv,C⟩:=Zkt u G Y;obtain⟨_,V,W⟩:=u.stable.o b mc' g2;exact⟨u.defers,v,hv,v,S',rfl,C,u.stable.s,J.1,λk p O=>J.2.1 k ⟨p,O⟩,V,W,J.2.2⟩
 cases e with
 |normal=>exact t I
 |ret=>exact t I
 |_=>exact I.elim
theorem Pure.of_vs {f:FuncId} {fn:Func} {c:Code} {args:List PV} {r:PV} {n:Nat} {rs:List ResultVar} (J:P.funcs[f]? = Hs fn) (i:fn.name≠ "runtime.NumGoroutine") (I:fn.body=Hs c) (W:fn.ntmps=n) (C:fn.results=rs.toArray) (X:args.length<=n) (Y:r.dids= [])
  (h:@vC P ⟨c⟩ ⟨Zt8 P rs r⟩ (St.init args n)):Pure P f args r:=by
 subst W;refine⟨⟨fn,J,i,by rw[I];rfl⟩,Y,λw S vs y F q U=> ?_⟩;refine calls_of_wp J I ?_;have O:=SS (B:=λk=>k<w.heap.size) (w:=w) (n:=fn.ntmps) (o:=λ_=>Hn) X q U (λk g=>g) ⟨y,λk d hd=>(by cases hd),λk x V=>(by cases V)⟩ (λk g=>F k (Jz g));have A:(⟨vs⟩:Array Value).size=vs.length:=by simp
 rw[A];refine wp_mono (Z4 _ _ _ h _ S _ _ w O) λe N w' R=> ?_
 obtain⟨s',S',Z,E,p,u⟩:=R;have t:(∃G,ZbY P G s' [] rs/\r=G.shut s'.m.o)->N.defers= []/\ ∃v,(results fn N.tmps).run P w'= .ok v w'/\ ∃v' S',Ending.returned v= .returned v'/\Rep S' v' r/\StabS S' w'/\SLe S S'/\(∀b,b<w.heap.size->(∀o,S' b o=S b o)/\S'.m b=S.m b)/\Below w.heap.size w w':=by
  rintro ⟨G,T,rfl⟩;obtain⟨v,hv,z⟩:=Zkt p C T;refine⟨p.defers,v,hv,v,FZ S' w' s'.m.o,rfl,z.shut p.stable,ZdB p.stable,u.1.trans (Zkd p.stable),λk g=>⟨(u.2.1 k g).1,?_⟩,u.2.2.to⟩;rw[<-(u.2.1 k g).2];cases L:s'.m.o k with
  |none=>simp[FZ,L]
  |some d=>exact absurd g (p.stable.o k d L).1
 cases e with
 |normal=>exact t E
 |ret=>exact t E
 |_=>exact E.elim
theorem Mk.of_v {f:FuncId} {fn:Func} {c:Code} {args:List PV} {r:Nat->PV} {n t:Nat} {mc:MapC} (V:P.funcs[f]? = Hs fn) (i:fn.name≠ "runtime.NumGoroutine") (U:fn.body=Hs c) (hn:fn.ntmps=n) (N:fn.results= #[.tmp t]) (hl:args.length<=n) (hi:∀b,(r b).dids= [])
  (h:@vC P ⟨c⟩ ⟨ZvF t r mc⟩ (St.init args n)):Mk P f args r mc:=by
 subst hn;refine⟨⟨fn,V,i,by rw[U];rfl⟩,hi,λw S vs J O C hr=> ?_⟩;refine calls_of_wp V U ?_;have X:=SS (B:=λk=>k<w.heap.size) (w:=w) (n:=fn.ntmps) (o:=λ_=>Hn) hl C hr (λk g=>g) ⟨J,λk d hd=>(by cases hd),λk x hx=>(by cases hx)⟩ (λk g=>O k (Jz g));have L:(⟨vs⟩:Array Value).size=vs.length:=by simp
 rw[L];refine wp_mono (Z4 _ _ _ h _ S _ _ w X) λe G w' Z=> ?_
 obtain⟨s',S',M',W,T,F⟩:=Z;cases e with
 |ret=>
  obtain⟨b,id,cs,g1,R,g3,g4,g5⟩:=W;obtain⟨S2,E,I⟩:=T.freeze R g3;have u:(PV.ptr id 0).givable (s'.m.freeze id):=⟨Za _ _ _,by show s'.m.h id≠Hn;rw[R];simp⟩;have z:=E.fr t;have A:RepS S2 M' (s'.with (s'.m.freeze id)).m.q (G.tmps.getD t undef) (.ptr id 0):=by
   have:(s'.with (s'.m.freeze id)).fr t= .ptr id 0:=g1;rw[this]at z;exact z
  have y:=A.give E u;have p:(PV.ptr id 0).give (s'.m.freeze id)= .rptr cs:=by
   have e1:(s'.m.freeze id).z id=true:=Za _ _ _;have e2:(s'.m.freeze id).h id=Hs cs:=R;simp[PV.give,e1,e2]
  have q:Rep S2 (G.tmps.getD t undef) (r b):=by rw[g5,<-p];exact y
  obtain⟨q1,Y,q3⟩:=E.stable.o b mc g4;refine⟨T.defers,G.tmps.getD t undef,?_,G.tmps.getD t undef,S2,b,rfl,Nat.not_lt.1 q1,q,E.stable.s,F.1.trans I.1,λk g=>⟨λo=>((I.2.1 k g).1 o).trans ((F.2.1 k g).1 o),(I.2.1 k g).2.trans (F.2.1 k g).2⟩,Y,q3,F.2.2.to⟩;simp[results,N]
 |_=>exact W.elim
def Zv2 (t u:Nat) (es:List PV) (c:PV) (sz:Nat) (e:TypeId):Exit->St->Prop
 | .ret,s=>∃k,s.fr t= .sl (.row k) es/\s.m.q k=Hs (.live es.length sz e)/\s.fr u=c
 |_,_=>False
theorem Zhm (t u:Nat) (es:List PV) (c:PV) (sz:Nat) (e:TypeId) (s:St):@vQ ⟨Zv2 t u es c sz e⟩ .ret s= ∃k,s.fr t= .sl (.row k) es/\s.m.q k=Hs (.live es.length sz e)/\s.fr u=c:=rfl
end
attribute [go_sem] Zhm
attribute [go_sem] Zjc Zcw Zi9 Zct Zi7 mkStO St.initO
open Go.RowKit
def Plain (p q:PV):Prop:=q=p\/ ∃d es,p= .sl (.row d) es/\q= .sl .no es
def Plain.row (d:Nat) (es:List PV):Plain (.sl (.row d) es) (.sl .no es):= .inr ⟨d,es,rfl,rfl⟩
structure WeakP (s' s:St):Prop where
 n:s'.n=s.n
 fr:∀i,s'.fr i= .any\/Plain (s.fr i) (s'.fr i)
 h:∀i,s'.m.h i=Hn\/(s'.m.h i=s.m.h i/\s'.m.z i=s.m.z i)
 q:∀i,s'.m.q i=Hn\/s'.m.q i=s.m.q i
 o:∀i,s'.m.o i=Hn\/s'.m.o i=s.m.o i
 it:∀i,s'.m.it i=Hn\/s'.m.it i=s.m.it i
 om:∀i,s'.m.om i=Hn\/s'.m.om i=s.m.om i
 v:∀i,s'.m.v i=Hn\/(s'.m.v i=s.m.v i/\s'.m.q i=s.m.q i)
 ph:∀i,s'.m.ph i=Hn\/(s'.m.ph i=s.m.ph i/\s'.m.h i=s.m.h i)
 pq:∀i,s'.m.pq i=Hn\/(s'.m.pq i=s.m.pq i/\s'.m.q i=s.m.q i)
section
variable {P:Program} {B:Frm} {S:Stable} {M:Maps} {s s':St} {a:Act} {w:World} {Q Q':Exit->St->Prop}
structure HasP (n:Nat) (L:List (Nat×PV)) (H:List (Nat×List PV×Bool)) (R:List (Nat×Row)) (s:St):Prop where
 n:s.n=n
 fr:∀x∈L,Plain (s.fr x.1) x.2
 h:∀x∈H,s.m.h x.1=Hs x.2.1/\s.m.z x.1=x.2.2
 q:∀x∈R,s.m.q x.1=Hs x.2
end
def WD (n:Int):Nat:=FloatKind.f64.nearest n
def ZqP (b:Ieee.Toward) (c:Bool) (n:Nat):b.cut c n 0=n:=by
 unfold Ieee.Toward.cut;simp only[Nat.zero_min,JW,Nat.div_one,Nat.mod_one];cases b<;>simp
def Zgo (b:Bool) (m:Nat) (k:m≠0) (h:m.log2<=52):Ieee.double.nearest b m 0=Ieee.double.word b ((m.log2+1022)*2 ^ 52+m <<< (52-m.log2)):=by
 unfold Ieee.Format.nearest;rw[if_neg k];have c:Ieee.double.leastPlace= -1074:=by decide
 have p:(Ieee.double.fractionBits:Int)=52:=rfl;have g:Ieee.double.binade=2 ^ 52:=rfl;have r:Ieee.double.infRung=2047*2 ^ 52:=by decide
 have e:max (0+(m.log2:Int)-(Ieee.double.fractionBits:Int)) Ieee.double.leastPlace=(m.log2:Int)-52:=by rw[c,p];omega
 rw[c]at e;simp only[c,g,r,e];have i:(0-((m.log2:Int)-52)).toNat=52-m.log2:=by omega
 have q:((m.log2:Int)-52-0).toNat=0:=by omega
 have t:((m.log2:Int)-52 - -1074).toNat=m.log2+1022:=by omega
 rw[i,q,t,ZqP];have d:m<2 ^ (m.log2+1):=K7;have u:m <<< (52-m.log2)<2 ^ 53:=by
  rw[JD]
  calc m*2 ^ (52-m.log2)<2 ^ (m.log2+1)*2 ^ (52-m.log2):=Ki d (Kd _)
   _=2 ^ 53:=by rw[<-Qa];congr 1;omega
 congr 1;rw[KJ];omega
def ZoU (b:Bool) (rung:Nat) (k:2 ^ 52<=rung) (d:rung<2047*2 ^ 52):Ieee.double.read (Ieee.double.word b rung)= .number b (2 ^ 52+rung % 2 ^ 52) (-1074+(rung / 2 ^ 52-1:Nat)):=by
 have g:Ieee.double.leastPlace= -1074:=by decide
 have e:Ieee.double.binade=2 ^ 52:=rfl;have i:Ieee.double.infRung=2047*2 ^ 52:=by decide
 have h:Ieee.double.signWeight=2 ^ 63:=rfl;unfold Ieee.Format.read Ieee.Format.word;cases b;simp only[JV,if_false,g,e,i,h];have c:rung / 2 ^ 63=0:=by omega
 have d2:rung % 2 ^ 63=rung:=by omega
 rw[c,d2,if_neg (by omega),if_pos d];rfl;simp only[if_true,g,e,i,h];have c:(2 ^ 63+rung) / 2 ^ 63=1:=by omega
 have d2:(2 ^ 63+rung) % 2 ^ 63=rung:=by omega
 rw[c,d2,if_neg (by omega),if_pos d];rfl
def ZeI (n:Int) (h:n.natAbs<2 ^ 53):∃p:Int,p<=0/\FloatKind.f64.decode (WD n)= .number (decide (n<0)) (n.natAbs <<< (-p).toNat) p:=by
 show ∃p:Int,p<=0/\Ieee.double.read (Ieee.double.nearest (decide (n<0)) n.natAbs 0)=_;by_cases q:n=0;subst q;exact⟨-1074,by omega,by decide+kernel⟩;have e:n.natAbs≠0:=by omega
 have k:n.natAbs.log2<=52:=by
  have:n.natAbs.log2<53:=(Nat.log2_lt e).2 h;omega
 rw[Zgo _ _ e k];generalize n.natAbs=m at *;have d:m<2 ^ (m.log2+1):=K7;have b:2 ^ m.log2<=m:=Nat.log2_self_le e;have u:m <<< (52-m.log2)<2 ^ 53:=by
  rw[JD]
  calc m*2 ^ (52-m.log2)<2 ^ (m.log2+1)*2 ^ (52-m.log2):=Ki d (Kd _)
   _=2 ^ 53:=by rw[<-Qa];congr 1;omega
 have g:2 ^ 52<=m <<< (52-m.log2):=by
  rw[JD]
  calc 2 ^ 52=2 ^ m.log2*2 ^ (52-m.log2):=by rw[<-Qa];congr 1;omega
   _<=m*2 ^ (52-m.log2):=Jn _ b
 generalize c:m <<< (52-m.log2)=sg at *;rw[ZoU _ _ (by omega) (by omega)];refine⟨(m.log2:Int)-52,by omega,?_⟩;have i:(-((m.log2:Int)-52)).toNat=52-m.log2:=by omega
 have r:2 ^ 52+((m.log2+1022)*2 ^ 52+sg) % 2 ^ 52=sg:=by omega
 have t:(-1074:Int)+(((m.log2+1022)*2 ^ 52+sg) / 2 ^ 52-1:Nat)=(m.log2:Int)-52:=by omega
 rw[i,c,r,t]
def ZbL (n:Int) (k:Nat):Ieee.signed (decide (n<0)) (n.natAbs <<< k) 0=n*2 ^ k:=by
 unfold Ieee.signed;rw[JW,JD];by_cases h:n<0;simp only[h,decide_true,if_true];have:(n.natAbs:Int)= -n:=by omega
 push_cast
 rw[this,Int.neg_mul,Int.neg_neg];simp only[h,decide_false,JV,if_false];have:(n.natAbs:Int)=n:=by omega
 push_cast
 rw[this]
theorem ZgW (b:Bool) (m k:Nat):Ieee.signed b m k=Ieee.signed b (m <<< k) 0:=rfl
def Zeg (a b:Int) (k:Nat):compare (a*2 ^ k) (b*2 ^ k)=compare a b:=by
 have hp:(0:Int)<2 ^ k:=Int.pow_pos (by omega);rcases Int.lt_trichotomy a b with h|h|h;rw[K0.2 h,K0.2 (Kj h hp)];subst h;simp;rw[K1.2 h,K1.2 (Kj h hp)]
def SO (a b:Int) (d:a.natAbs<2 ^ 53) (g:b.natAbs<2 ^ 53):FloatKind.f64.format.order (WD a) (WD b)=Hs (compare a b):=by
 obtain⟨p,k,hp⟩:=ZeI a d;obtain⟨q,i,c⟩:=ZeI b g;unfold FloatKind.decode at hp c;unfold Ieee.Format.order;rw[hp,c];simp only[Ieee.Datum.order];congr 1;rw[ZgW _ _ (p-min p q).toNat,ZgW _ _ (q-min p q).toNat,<-K2,<-K2];have e:(-p).toNat+(p-min p q).toNat=(-(min p q)).toNat:=by omega
 have h:(-q).toNat+(q-min p q).toNat=(-(min p q)).toNat:=by omega
 rw[e,h,ZbL,ZbL,Zeg]
def Znj (b:Bool) (m k:Nat):Ieee.Toward.zero.cut b (m <<< k) k=m:=by
 unfold Ieee.Toward.cut;by_cases d:m=0;subst d;simp;have h:k<=(m <<< k).log2:=by
  have c:m <<< k≠0:=by rw[JD];exact Nat.mul_ne_zero d (by have:=Kd k;omega)
  rw[Nat.le_log2 c,JD];exact Nat.le_mul_of_pos_left _ (by omega)
 rw[KJ (by omega),JD m,JD 1,JZ];simp only[Nat.mul_div_cancel _ (Kd k)];simp
def Zbe (n:Int) (h:n.natAbs<2 ^ 53):(FloatKind.f64.decode (WD n)).integral .zero= .number (decide (n<0)) n.natAbs 0:=by
 obtain⟨p,b,hp⟩:=ZeI n h;rw[hp];simp only[Ieee.Datum.integral];have e:p.toNat=0:=by omega
 rw[e,JW,Znj]
def Zkl (n:Int) (h:n.natAbs<2 ^ 53):(FloatKind.f64.decode (WD n)).toInt .zero=Hs n:=by
 unfold Ieee.Datum.toInt;rw[Zbe n h];simp only;have:=ZbL n 0;rw[JW]at this;rw[this];simp
def Zsm (n:Int) (h:n.natAbs<2 ^ 53):FloatKind.f64.encode ((FloatKind.f64.decode (WD n)).integral .zero)=WD n:=by
 rw[Zbe n h];rfl
def ZoC (n:Int) (h:n.natAbs<2 ^ 53):∃s m p,FloatKind.f64.decode (WD n)= .number s m p:=by
 obtain⟨p,_,hp⟩:=ZeI n h;exact⟨_,_,_,hp⟩
open Go.RowKit
def ZqX:Nat->Code->Code
 |0,c=>c
 |k+1,.seq _ b=>ZqX k b
 |_+1,c=>c
def Zs9 (P:Program) (Q1:St->Prop):Nat->Code->St->Prop
 |0,_,s=>Q1 s
 |k+1,.seq a b,s=>awp P a (Xq (Zs9 P Q1 k b) λ_ _=>False) s
 |_+1,_,_=>False
def Vu {P:Program} {Q1:St->Prop} {k:Nat} {a b:Code} {s:St} (h:@vC P ⟨a⟩ ⟨Xq (Zs9 P Q1 k b) λ_ _=>False⟩ s):Zs9 P Q1 (k+1) (.seq a b) s:=Z4 _ _ _ h
def Zsf {P:Program} {Q1:St->Prop} {c:Code} {s:St} (h:Q1 s):Zs9 P Q1 0 c s:=h
theorem Fm {P:Program} {Q1:St->Prop} {Φ:Exit->Act->World->Prop} {B:Frm} {S0:Stable} {w0:World}:∀(k:Nat) (c:Code) (s:St) (S:Stable) (M:Maps) (a:Act) (w:World),Zs9 P Q1 k c s->Sim B S M s a w->Ext B S0 S w0 w->
  (∀s' S' d b w',Q1 s'->Sim B S' d s' b w'->Ext B S0 S' w0 w'->(ZqX k c).wp P Φ b w')->c.wp P Φ a w
 |0,c,s,S,M,a,w,h,hs,hx,hk=>hk s S M a w h hs hx
 |k+1,.seq x y,s,S,M,a,w,h,hs,hx,hk=>by
  refine wp_seq (wp_mono (h B S M a w hs) λe b w' q=> ?_);obtain⟨s',S',d,g,i,p⟩:=q;cases e with
  |normal=>exact Fm k y s' S' d b w' g i (hx.trans p) hk
  |_=>exact absurd g id
 |k+1,.skip,s,S,M,a,w,h,_,_,_=>absurd h id
 |k+1,.label _,s,S,M,a,w,h,_,_,_=>absurd h id
 |k+1,.ret,s,S,M,a,w,h,_,_,_=>absurd h id
 |k+1,.exit _,s,S,M,a,w,h,_,_,_=>absurd h id
 |k+1,.goto _,s,S,M,a,w,h,_,_,_=>absurd h id
 |k+1,.block _ _,s,S,M,a,w,h,_,_,_=>absurd h id
 |k+1,.loop _,s,S,M,a,w,h,_,_,_=>absurd h id
 |k+1,.scope _,s,S,M,a,w,h,_,_,_=>absurd h id
 |k+1,.cond _ _ _,s,S,M,a,w,h,_,_,_=>absurd h id
 |k+1,.region _ _ _,s,S,M,a,w,h,_,_,_=>absurd h id
structure Flat (α:Type) [Inhabited α] where
 p:α->PV
 v:α->List Value
 sz:Nat
 pos:0<sz
 hp:∀x,(p x).cells.length=sz
 hv:∀x,(v x).length=sz
 to:∀(S:Stable) x j u,j<sz->Rep S u ((p x).cells.getD j .any)->u=(v x).getD j undef
 of:∀(S:Stable) x j,j<sz->Rep S ((v x).getD j undef) ((p x).cells.getD j .any)
def Ft {α:Type} [Inhabited α] (F:Flat α) (w:World) (lo:Nat) (xs:List α) (v:Value):Prop:=
 (xs.length=0/\v= .slice Hn 0 0)\/ ∃b c e vs,lo<=b/\v= .slice (Hs ⟨b,0,Hn⟩) xs.length c/\xs.length<=c/\w.heap[b]? = Hs (.cells ⟨vs⟩ e (0,0))/\xs.length*F.sz<=vs.length/\
  ∀i j,i<xs.length->j<F.sz->vs.getD (i*F.sz+j) undef=(F.v (xs.getD i default)).getD j undef
section
variable {P:Program} {B:Frm} {S:Stable} {M:Maps} {s:St} {a:Act} {w:World} {α:Type} [Inhabited α]
theorem Zt7 (F:Flat α) {i d n:Nat} {e:TypeId} {xs:List α} {lo:Nat} (I:Sim B S M s a w) (J:∀k,k<lo->B k) (G:s.fr i= .sl (.row d) (xs.map F.p)) (O:s.m.q d=Hs (.live n F.sz e)) (E:xs.length=n):Ft F w lo xs (a.tmps.getD i undef):=by
 have N:=I.fr i;rw[G]at N;have Z:=I.row d _ O;obtain⟨o1,o2⟩:=Z;generalize a.tmps.getD i undef=v at N;cases N with
 |clean r=>cases r
 |row _ _ _ r t=>
  obtain⟨_,W⟩:=t n F.sz e O;obtain⟨t3,t4⟩:=W (by rw[KG];exact E);cases C:M.κ d with
  |zero=>exact .inl ⟨by rw[E];exact o1 C,t3 C⟩
  |succ c=>
   obtain⟨V,p2,X,⟨vs,U,Y⟩,p6⟩:=o2 c C;have hv:=t4 c C;refine .inr ⟨M.ψ d,c,e,vs,?_,by rw[E];exact hv,by omega,U,?_,λi j G L=> ?_⟩
   ·exact Jz λh=>X (J _ h)
   ·rw[Y,E];exact Jn _ V
   ·rw[hv]at r;generalize y:xs.map F.p=es at r;cases r with
    |sl0=>
     have:xs.length=0:=by
      have:=congrArg List.length y;simpa using this
     omega
    |sl b o cap sz es vals hsz hcap hS hR=>
     have T:es.length=xs.length:=by rw[<-y];simp
     have u:i<es.length:=by omega
     have g:es.getD i .any=F.p (xs.getD i default):=by
      rw[<-y,getD_lt (l:=xs.map F.p) (by simpa using G),getD_lt G];simp
     have z:sz=F.sz:=by have:=hsz i u;rw[g,F.hp]at this;exact this.symm
     subst z;have p:=I.stable.s.c _ _ _ (hS i j u L);have R:=hR i j u L;rw[g]at R;have A:=F.to S _ j _ L R;rw[<-A];have q:i*F.sz+j<vs.length:=by
      have q1:(i+1)*F.sz<=c*F.sz:=Jn _ (by omega);rw[KW]at q1;omega
     rw[Yu U]at p;rw[KD]at p;rw[JG q]at p;rw[getD_lt q];exact JH.inj p
theorem Pure.tail (F:Flat α) {f:FuncId} {fn:Func} {c:Code} {args:List PV} {r:PV} (k i d N:Nat) {Q1:St->Prop} (G:List α->Prop) (g:List α->List α) (hf:P.funcs[f]? = Hs fn) (L:fn.name≠ "runtime.NumGoroutine") (hb:fn.body=Hs c) (hl:args.length<=fn.ntmps) (E:r.dids= [])
  (I:Zs9 P Q1 k c (St.init args fn.ntmps))
  (hQ:∀s,Q1 s-> ∃xs e,G xs/\s.n=N/\s.fr i= .sl (.row d) (xs.map F.p)/\s.m.q d=Hs (.live xs.length F.sz e))
  (h2:∀xs lo (a:Act) (w:World),G xs->a.defers= []->a.tmps.size=N->Ft F w lo xs (a.tmps.getD i undef)->lo<=w.heap.size->
   (ZqX k c).wp P (λex Y w'=>(ex= .normal\/ex= .ret)/\Y.defers= []/\ ∃v',(results fn Y.tmps).run P w'= .ok v' w'/\Ft F w' lo (g xs) v'/\BelowF (λk=>k<lo) w w') a w)
  (hr:∀xs,G xs->r= .sl .no ((g xs).map F.p)):Pure P f args r:=by
 refine⟨⟨fn,hf,L,by rw[hb];rfl⟩,E,λw S vs A xh V R=> ?_⟩;refine calls_of_wp hf hb ?_;have hs:=SS (B:=λk=>k<w.heap.size) (w:=w) (n:=fn.ntmps) (o:=λ_=>Hn) hl V R (λk T=>T) ⟨A,λb c z=>by simp at z,λb x Z=>by simp at Z⟩ (λk T=>xh k (Jz T));have xc:(⟨vs⟩:Array Value).size=vs.length:=by simp
 rw[xc];refine Fm (B:=λk=>k<w.heap.size) (S0:=S) (w0:=w) k c _ S _ _ w I hs (JJ _ _ _) λs' S' M' Y w' hq J Z=> ?_
 obtain⟨xs,e,hg,xg,xf,U⟩:=hQ s' hq;have O:w.heap.size<=w'.heap.size:=Z.2.2.size;have X:=Zt7 F (lo:=w.heap.size) J (λk T=>T) xf U rfl;have hn:Y.tmps.size=N:=by rw[J.hn,xg]
 refine wp_mono (h2 xs w.heap.size Y w' hg J.defers hn X O) λex a2 w2 ⟨hex,hdf,v',hv',hrr,C⟩=> ?_
 have xd:=hr xs hg;have t:BelowF (λk=>k<w.heap.size) w w2:=Z.2.2.trans C;have W:∃v S',Ending.returned v'= .returned v/\Rep S' v r/\StabS S' w2/\SLe S S'/\(∀b,b<w.heap.size->(∀o,S' b o=S b o)/\S'.m b=S.m b)/\Below w.heap.size w w2:=by
  rw[xd];have y:StabS S w2:=⟨λb o u h=>by
   have I:=A.c b o u h;have C:=Uo I;rw[J8 (w:=w) (t.block b C)];exact I,λb es h=>by
   have I:=A.m b es h;have C:=(Jb.1 I).1;rw[t.block b C];exact I,λb h=>by
   obtain⟨xa,t1,I⟩:=A.y b h;exact⟨xa,t1,by rw[t.block b (Jb.1 I).1];exact I⟩⟩
  rcases hrr with ⟨h0,xi⟩|⟨b,c',e',us,xm,xe,xk,xb,xn,xj⟩;refine⟨v',S,rfl,?_,y,JI S,λb _=>⟨λ_=>rfl,rfl⟩,t.to⟩;have:g xs= []:=List.length_eq_zero_iff.1 h0;rw[this,xi];exact .sl0 Hn 0;let S2:Stable:=⟨λp o=>if p=b/\o<(g xs).length*F.sz then Hs (us.getD o undef)else S p o,S.m,S.z,S.y⟩;have fresh:∀o,S b o=none:=λo=>by
   cases z:S b o with
   |none=>rfl
   |some u=>have:=Uo (A.c b o u z);omega
  refine⟨v',S2,rfl,?_,⟨λp o u h=> ?_,λp es h=>y.m p es h,y.y⟩,⟨λp o u h=> ?_,λp es h=>h,rfl,λ_ h=>h⟩,λp xl=>⟨λo=> ?_,rfl⟩,t.to⟩;rw[xe];have q:((g xs).map F.p).length=(g xs).length:=by simp
  rw[<-q];refine .sl b 0 c' F.sz _ (λi j=>us.getD (i*F.sz+j) undef) (λi E=> ?_) (by rw[q];exact xk) (λi j E hj=> ?_) (λi j E hj=> ?_);rw[q]at E;rw[getD_lt (l:=(g xs).map F.p) (by simpa using E),K8,F.hp];rw[q]at E;show(if b=b/\0+i*F.sz+j<(g xs).length*F.sz then Hs (us.getD (0+i*F.sz+j) undef)else S b (0+i*F.sz+j))=_;have q1:(i+1)*F.sz<=(g xs).length*F.sz:=Jn _ (by omega);rw[KW]at q1;rw[if_pos ⟨rfl,by omega⟩,KD];rw[q]at E;have e1:((g xs).map F.p).getD i .any=F.p ((g xs).getD i default):=by
   rw[getD_lt (l:=(g xs).map F.p) (by simpa using E),getD_lt E];simp
  rw[e1];show Rep _ (us.getD (i*F.sz+j) undef) _;rw[xj i j E hj];exact F.of _ _ _ hj;have h9:(if p=b/\o<(g xs).length*F.sz then Hs (us.getD o undef)else S p o)=Hs u:=h;clear h;by_cases z:p=b/\o<(g xs).length*F.sz;rw[if_pos z]at h9;rw[z.1,Yu xb,JG (by omega),<-h9,getD_lt (by omega)];rw[if_neg z]at h9;exact y.c p o u h9;show(if p=b/\o<(g xs).length*F.sz then Hs (us.getD o undef)else S p o)=Hs u;have:p≠b:=λe=>by subst e;rw[fresh o]at h;cases h
  rw[if_neg (λz=>this z.1)];exact h;show(if p=b/\o<(g xs).length*F.sz then Hs (us.getD o undef)else S p o)=S p o;rw[if_neg (λz=>by have:=z.1;omega)]
 rcases hex with rfl|rfl;exact⟨hdf,v',hv',W⟩;exact⟨hdf,v',hv',W⟩
end
open Go.RowKit
section
variable {P:Program} {a:Act} {w:World} {Q:Exit->Act->World->Prop}
def DI {o:Oper} {ops:Array Oper} {i:Nat} {rest:List Nat} (b:ops[i]? = Hs o) (d:o.guard=Hn) (h:o.wp P a w (wpOps P ops Q rest) Q):wpOps P ops Q (i::rest) a w:=by
 unfold wpOps;rw[b];have c:Qh o (yielded ops a.tmps)=true:=by simp[Qh,d]
 simp only[c,if_true];exact .inl h
def ZpR {dst:Option Tmp} {x:Operand} {ty:TypeId} {pos:String} {after:Array Edge} {next:Act->World->Prop} (h:next (a.put dst (a.eval x)) w):(Oper.mk dst (.move x) ty pos after Hn).wp P a w next Q:=by
 have b:(execOp a.eval (Oper.mk dst (.move x) ty pos after Hn)).run P w= .ok (.value (a.eval x)) w:=by simp[execOp,Qo]
 unfold Oper.wp;rw[b];exact h
def ZpQ {dst:Option Tmp} {x:Operand} {ty:TypeId} {pos:String} {after:Array Edge} {next:Act->World->Prop} (h:next (a.put dst (a.eval x)) w):(Oper.mk dst (.assign x) ty pos after Hn).wp P a w next Q:=by
 have b:(execOp a.eval (Oper.mk dst (.assign x) ty pos after Hn)).run P w= .ok (.value (a.eval x)) w:=by simp[execOp,Qo]
 unfold Oper.wp;rw[b];exact h
def Zky {f:FuncId} {fn:Func} {dst:Option Tmp} {xs:List Operand} {b:Array TypeId} {ty:TypeId} {pos:String} {after:Array Edge} {next:Act->World->Prop} (c:P.funcs[f]? = Hs fn) (i:fn.name≠ "runtime.NumGoroutine") (g:fn.body≠Hn)
  (h:Calls P f ⟨xs.map a.eval⟩ w λe w'=>∃v,e= .returned v/\next (a.put dst v) w'):(Oper.mk dst (.call ⟨.value (.func f),⟨xs⟩,b⟩) ty pos after Hn).wp P a w next Q:=by
 have k:(execOp a.eval (Oper.mk dst (.call ⟨.value (.func f),⟨xs⟩,b⟩) ty pos after Hn)).run P w= .ok (.enter f ⟨xs.map a.eval⟩) w:=by
  simp[execOp,resolve,Deferred.ofValue,Act.eval,invoke,callFunc,program,Qo,c,g,i]
 unfold Oper.wp;rw[k];show Calls P f ⟨xs.map a.eval⟩ w _;refine h.mono λe w' h=> ?_
 obtain⟨v,rfl,d⟩:=h;exact d
end
open Go.RowKit
section
variable {P:Program} {a:Act} {w:World} {Q:Exit->Act->World->Prop}
def Zhu {i1 i2:Nat} {s b g d t r N k E:Nat} {fn c:Func} {X y2 y3 y4 y5:TypeId} {ts z:Array TypeId} {J p2 R p4 T:String} {q1 V q3 q4 L:Array Edge} {Φ:Exit->Act->World->Prop}
  (F:a.tmps.size=N) (A:b<N) (I:g<N) (G:d<N) (b4:t<N) (b5:r<N) (n1:b≠s) (n2:g≠s) (U:P.funcs[k]? = Hs fn) (hn:fn.name≠ "runtime.NumGoroutine") (O:fn.body≠Hn) (p:P.funcs[E]? = Hs c) (y:c.name≠ "runtime.NumGoroutine") (q:c.body≠Hn)
  (h:Calls P k #[a.tmps.getD s undef] w λe w'=>∃v,e= .returned v/\Calls P E #[a.tmps.getD s undef] w' λe i=>∃u,e= .returned u/\ ∀C,C.defers=a.defers->C.tmps.getD r undef=u->Φ .ret C i):
  (Code.seq (.region i1 #[Oper.mk (Hs b) (.move (.tmp s)) X J q1 Hn,Oper.mk (Hs g) (.call ⟨.value (.func k),#[.tmp b],ts⟩) y2 p2 V Hn] Hf)
   (.seq (.region i2 #[Oper.mk (Hs d) (.move (.tmp s)) y3 R q3 Hn,Oper.mk (Hs t) (.call ⟨.value (.func E),#[.tmp d],z⟩) y4 p4 q4 Hn,Oper.mk (Hs r) (.assign (.tmp t)) y5 T L Hn] Hf) .ret)).wp P Φ a w:=by
 refine wp_seq (wp_region ?_);refine DI rfl rfl (ZpR ?_);refine DI rfl rfl (Zky (xs:= [.tmp b]) U hn O ?_);have Y:(a.put (Hs b) (a.eval (.tmp s))).eval (.tmp b)=a.tmps.getD s undef:=by
  simp[Act.put,Act.eval,F,A]
 have W:(⟨Qv (a.put (Hs b) (a.eval (.tmp s))).eval [.tmp b]⟩:Array Value)= #[a.tmps.getD s undef]:=by
  simp only[JO,Kk,Y]
 rw[W];refine h.mono λe w' ⟨v,he,hk⟩=>⟨v,he,?_⟩
 show(Exit.then _ Φ) .normal _ _;refine wp_seq (wp_region ?_);refine DI rfl rfl (ZpR ?_);refine DI rfl rfl (Zky (xs:= [.tmp d]) p y q ?_);have Z:(⟨Qv (((((a.put (Hs b) (a.eval (.tmp s))).put (Hs g) v).put (Hs d) (((a.put (Hs b) (a.eval (.tmp s))).put (Hs g) v).eval (.tmp s))))).eval [.tmp d]⟩:Array Value)= #[a.tmps.getD s undef]:=by
  simp[Act.put,Act.eval,F,A,I,G,Jf,Jy,n1,n2]
 rw[Z];refine hk.mono λe i ⟨u,he,hk⟩=>⟨u,he,?_⟩
 refine DI rfl rfl (ZpQ ?_);show(Exit.then _ Φ) .normal _ _;refine wp_ret (hk _ rfl ?_);simp[Act.put,Act.eval,F,A,I,G,b4,b5,Jf,Jy]
end
open Go.RowKit
inductive Pub (K:Ref->Prop) (m:Hp):PV->PV->Prop
 |keep (p:PV) (h:∀i∈p.ids,K i):Pub K m p p
 |row (id:Nat) (es:List PV):Pub K m (.sl (.row id) es) (.sl .no es)
 |rowf (id n sz:Nat) (e:TypeId) (es:List PV) (hq:m.q id=Hs (.live n sz e)) (hn:es.length=n):Pub K m (.sl (.row id) es) (.sl .fr es)
 |vecf (id n sz:Nat) (es es':List PV) (hv:m.v id=Hs es) (hn:es.length=n) (h:Pub K m (.vsl id n sz) (.sl .no es')):Pub K m (.vsl id n sz) (.sl .fr es')
 |vec (id n sz:Nat) (es es':List PV) (hk:¬K (.r id)) (hv:m.v id=Hs es) (hn:es.length=n) (hl:es'.length=es.length) (hc:∀p∈es',p.ids= []) (h:∀i,i<es.length->Pub K m (es.getD i .any) (es'.getD i .any)):Pub K m (.vsl id n sz) (.sl .no es')
 |blk (id off:Nat) (cs cs':List PV) (hk:¬K (.b id)) (hh:m.h id=Hs cs) (hz:m.z id=Hf) (hl:cs'.length=cs.length) (hc:∀p∈cs',p.ids= []) (h:∀i,i<cs.length->Pub K m (cs.getD i .any) (cs'.getD i .any)):Pub K m (.ptr id off) (.rptr (cs'.drop off))
 |frozen (id off:Nat) (cs:List PV) (hh:m.h id=Hs cs) (hz:m.z id=Ht):Pub K m (.ptr id off) (.rptr (cs.drop off))
 |agg (cs cs':List PV) (hl:cs'.length=cs.length) (h:∀i,i<cs.length->Pub K m (cs.getD i .any) (cs'.getD i .any)):Pub K m (.agg cs) (.agg cs')
 |tup (cs cs':List PV) (hl:cs'.length=cs.length) (h:∀i,i<cs.length->Pub K m (cs.getD i .any) (cs'.getD i .any)):Pub K m (.tup cs) (.tup cs')
 |fn (f:FuncId) (cs cs':List PV) (hl:cs'.length=cs.length) (h:∀i,i<cs.length->Pub K m (cs.getD i .any) (cs'.getD i .any)):Pub K m (.fn f cs) (.fn f cs')
def Pub.clean {K:Ref->Prop} {m:Hp} {p:PV} (h:p.ids= []):Pub K m p p:= .keep p (by rw[h];simp)
def Pub.vec0 {K:Ref->Prop} {m:Hp} {id n sz:Nat} {es:List PV} (d:¬K (.r id)) (hv:m.v id=Hs es) (e:es.length=n) (b:∀p∈es,p.ids= []):Pub K m (.vsl id n sz) (.sl .no es):=
 .vec id n sz es es d hv e rfl b λi c=> .clean (b _ (Zc c))
theorem Pub.agg_of {K:Ref->Prop} {m:Hp} {cs:List PV} {p:PV} (h:Pub K m (.agg cs) p):∃cs',p= .agg cs'/\cs'.length=cs.length:=by
 cases h with
 |keep _ h=>exact⟨cs,rfl,rfl⟩
 |agg _ cs' hl h=>exact⟨cs',rfl,hl⟩
theorem Pub.not_agg {K:Ref->Prop} {m:Hp} {p b:PV} (h:Pub K m p b) (hp:∀cs,p≠ .agg cs):p.cells= [p]/\b.cells= [b]:=by
 cases h with
 |keep _ h=>cases p<;>first|exact⟨rfl,rfl⟩|exact absurd rfl (hp _)
 |agg cs=>exact absurd rfl (hp _)
 |_=>exact⟨rfl,rfl⟩
section
variable {P:Program} {B:Frm} {S:Stable} {M:Maps} {s:St} {a:Act} {w:World}
def ZrN (K:Ref->Prop) (M:Maps) (m:Hp) (b:Nat):Prop:=
 (∃id es,m.v id=Hs es/\ ¬K (.r id)/\0<M.κ id/\M.ψ id=b)\/ ∃id cs,m.h id=Hs cs/\m.z id=Hf/\ ¬K (.b id)/\M.φ id=b
open Classical in
noncomputable def pubS (K:Ref->Prop) (S:Stable) (M:Maps) (m:Hp) (w:World):Stable:=⟨λb o=>if ZrN K M m b then w.cell? ⟨b,o,Hn⟩else S b o,S.m,S.z,λb=>S.y b\/ ∃id r,m.q id=Hs r/\r.own=Ht/\0<M.κ id/\M.ψ id=b⟩
def ZiF {K:Ref->Prop} {m:Hp} {b o:Nat} (h:ZrN K M m b):(pubS K S M m w).c b o=w.cell? ⟨b,o,Hn⟩:=by simp[pubS,h]
def SQ {K:Ref->Prop} {m:Hp} {b o:Nat} (h:¬ZrN K M m b):(pubS K S M m w).c b o=S b o:=by simp[pubS,h]
def ZgI {K:Ref->Prop} (d:Sim B S M s a w) {b:Nat} (h:ZrN K M s.m b):¬B b/\(∀o,S b o=Hn):=by
 rcases h with ⟨id,es,c,_,u,rfl⟩|⟨id,cs,c,i,_,rfl⟩;obtain⟨sz,e,q⟩:=d.vec_q c;obtain⟨_,g⟩:=d.row id _ q;obtain⟨_,_,r,_,k⟩:=g (M.κ id-1) (by omega);exact⟨r,k⟩;obtain⟨p,t,_⟩:=d.own c i;exact⟨p,t⟩
def GD {K:Ref->Prop} (c:Sim B S M s a w):SLe S (pubS K S M s.m w):= .cells rfl (λb o v hv=>by
 rw[SQ];exact hv;intro h;rw[(ZgI c h).2 o]at hv;cases hv) rfl λb h=> .inl h
theorem Zbz {K:Ref->Prop} (c:Sim B S M s a w):StabS (pubS K S M s.m w) w:=⟨λb o v hv=>by
 by_cases h:ZrN K M s.m b;rw[ZiF h]at hv;exact hv;rw[SQ h]at hv;exact c.stable b o v hv,c.stable.s.m,λb g=>by
 rcases g with g|⟨id,r,p,k,q,rfl⟩;exact c.stable.s.y b g;have i:=c.row id r p;cases r with
 |dead=>cases k
 |live n sz e=>obtain⟨_,_,_,⟨vs,d,_⟩,_⟩:=i.2 (M.κ id-1) (by omega);exact⟨_,_,d⟩
 |vec n sz e=>obtain⟨_,_,_,⟨vs,d,_⟩,_⟩:=i.2 (M.κ id-1) (by omega);exact⟨_,_,d⟩⟩
def Zs1 {K:Ref->Prop} (c:Sim B S M s a w) {b:Nat} (h:B b):(∀o,(pubS K S M s.m w).c b o=S b o)/\(pubS K S M s.m w).m b=S.m b:=
 ⟨λo=>SQ λhp=>(ZgI c hp).1 h,rfl⟩
theorem Pub.rep {K:Ref->Prop} (u:Sim B S M s a w) {p p':PV} (hp:Pub K s.m p p'):∀v,RepS S M s.m.q v p->RepS (pubS K S M s.m w) M s.m.q v p':=by
 have mono:∀ {v p},RepS S M s.m.q v p->RepS (pubS K S M s.m w) M s.m.q v p:=λr=>r.heap (GD u) (λ_ _=>rfl) (λ_ _=> .refl _ _ _)
 -- a row of cells,element by element
 have cells:∀ {e O:PV} {us:List Value},Pub K s.m e O->(∀v,RepS S M s.m.q v e->RepS (pubS K S M s.m w) M s.m.q v O)->us.length=e.cells.length->(∀j,j<e.cells.length->RepS S M s.m.q (us.getD j undef) (e.cells.getD j .any))->
   O.cells.length=e.cells.length/\ ∀j,j<e.cells.length->RepS (pubS K S M s.m w) M s.m.q (us.getD j undef) (O.cells.getD j .any):=by
  intro e O us hp q F A
  by_cases he:∃cs,e= .agg cs
  ·obtain⟨cs,rfl⟩:=he;obtain⟨cs',rfl,C⟩:=hp.agg_of;obtain⟨xc,e1,e2,e3⟩:=(q (.agg ⟨us⟩) (.agg us cs F A)).agg_inv;simp only[Value.agg.injEq,Qw.injEq]at e1;subst e1;exact⟨C,λj g=>e3 j (by simp only[Qs]at g;omega)⟩
  ·obtain⟨c1,c2⟩:=hp.not_agg (λcs e=>he ⟨cs,e⟩);rw[c1]at F A ⊢;rw[c2];refine⟨rfl,λj g=> ?_⟩;have xa:j=0:=by simpa using g
   subst xa;exact q _ (A 0 g)
 induction hp with
 |keep p h=>exact λv r=>mono r
 |row id es=>exact λv r=> .clean ((r.sl_inv).mono (GD u))
 |rowf id n sz e es hq hn=>
  intro v r;refine .clean (.slf v es ((r.sl_inv).mono (GD u)) λb o n' c hv J=> ?_);obtain⟨Y,V⟩:=u.row id _ hq;obtain⟨t1,N⟩:=r.row_tok n sz e hq;obtain⟨T,R⟩:=N hn;cases y:M.κ id with
  |zero=>rw[T y]at hv;cases hv
  |succ c0=>
   rw[R c0 y]at hv;cases hv;exact⟨u.hz _ (V _ y).2.2.1,.inr ⟨id,_,hq,rfl,by omega,rfl⟩⟩
 |vecf id n sz es es' hv hn h q=>
  intro v r;have Z:=q v r;refine .clean (.slf v es' Z.sl_inv λb o n' c E J=> ?_);subst hn;obtain⟨sz',e,I,_⟩:=u.vc id es hv;obtain⟨_,t⟩:=r.vsl_inv;obtain⟨_,N⟩:=t _ _ _ I;obtain⟨rfl,T,R⟩:=N rfl;obtain⟨Y,V⟩:=u.row id _ I;cases y:M.κ id with
  |zero=>rw[T y]at E;cases E
  |succ c0=>
   rw[R c0 y]at E;cases E;exact⟨u.hz _ (V _ y).2.2.1,.inr ⟨id,_,I,rfl,by omega,rfl⟩⟩
 |vec id n sz es es' hk hv hn F hc h q=>
  intro v r;subst hn;obtain⟨sz',e,I,Z,r2,r4⟩:=u.vc id es hv;obtain⟨_,t⟩:=r.vsl_inv;obtain⟨_,N⟩:=t _ _ _ I;obtain⟨rfl,T,R⟩:=N rfl;obtain⟨Y,V⟩:=u.row id _ I;cases y:M.κ id with
  |zero=>
   have h0:=Y y;rw[T y,List.eq_nil_of_length_eq_zero (F.trans h0)];exact .clean (.sl0 Hn 0)
  |succ c=>
   obtain⟨k1,k2,k3,⟨vs,k5,k6⟩,k4⟩:=V c y;have k7:=r4 c y vs e (0,0) k5;have W:ZrN K M s.m (M.ψ id):= .inl ⟨id,es,hv,hk,by omega,rfl⟩;have ix:∀ {i j},i<es.length->j<sz'->i*sz'+j<vs.length:=λ{i j} z g=>by
    rw[k6]
    calc i*sz'+j<i*sz'+sz':=by omega
     _=(i+1)*sz':=by rw[J9,JZ]
     _<=c*sz':=Jn _ (by omega)
   have X:∀i,i<es.length->(es'.getD i .any).cells.length=sz'/\ ∀j,j<sz'->RepS (pubS K S M s.m w) M s.m.q (vs.getD (i*sz'+j) undef) ((es'.getD i .any).cells.getD j .any):=λi z=>by
    have G:=(Z _ (Zc (d:= .any) z)).1;have:=cells (us:=(vs.drop (i*sz')).take sz') (h i z) (q i z) (by
     rw[G,Kv,J5];have:i*sz'+sz'<=vs.length:=by
      rw[k6]
      calc i*sz'+sz'=(i+1)*sz':=by rw[J9,JZ]
       _<=c*sz':=Jn _ (by omega)
     omega) (λj g=>by
     rw[Xu (by omega),XJ];exact k7 i j z (by omega))
    obtain⟨a1,a2⟩:=this;refine⟨a1.trans G,λj g=> ?_⟩;have:=a2 j (by omega);rw[Xu g,XJ]at this;exact this
   rw[R c y];have L:Rep (pubS K S M s.m w) (.slice (Hs ⟨M.ψ id,0,Hn⟩) es'.length c) (.sl .no es'):=
    .sl (M.ψ id) 0 c sz' es' (λi j=>vs.getD (i*sz'+j) undef) (λi z=>(X i (by omega)).1) (by omega) (λi j z g=>by
     rw[ZiF W,Yu k5,KD,JG (ix (by omega) g),getD_lt (ix (by omega) g)]) (λi j z g=>by
     refine((X i (by omega)).2 j g).alone ?_;have xb:=hc _ (Zc (d:= .any) z);cases U:((es'.getD i .any).cells.getD j .any).ids with
     |nil=>rfl
     |cons x xs=>
      have:=Yv (p:=es'.getD i .any) (Zc (d:= .any) (by rw[(X i (by omega)).1];exact g)) (k:=x) (by rw[U];simp);rw[xb]at this;cases this)
   rw[F]at L;exact .clean L
 |blk id off cs cs' hk hh hz F hc h q=>
  intro v r;rw[r.ptr_inv];obtain⟨g1,g2,⟨vs,t,g3,g4,g5⟩,g6⟩:=u.own hh hz;have W:ZrN K M s.m (M.φ id):= .inr ⟨id,cs,hh,hz,hk,rfl⟩;refine .clean (.rptr (M.φ id) off _ (λj=>vs.getD (off+j) undef) (λj g=> ?_) (λj g=> ?_));simp only[J5]at g;rw[ZiF W,Yu g3,JG (by omega),getD_lt (by omega)];simp only[J5]at g;rw[XJ];exact(q (off+j) (by omega) _ (g5 (off+j) (by omega))).alone (hc _ (Zc (by omega)))
 |frozen id off cs hh hz=>
  intro v r;have:=(r.give u ⟨hz,by rw[hh];simp⟩);simp only[PV.give,hz,hh]at this;exact .clean (this.mono (GD u))
 |agg cs cs' F h q=>
  intro v r;obtain⟨vs,rfl,C,A⟩:=r.agg_inv;exact .agg vs cs' (by omega) λi z=>q i (by omega) _ (A i (by omega))
 |tup cs cs' F h q=>
  intro v r;obtain⟨vs,rfl,C,A⟩:=r.tup_inv;exact .tup vs cs' (by omega) λi z=>q i (by omega) _ (A i (by omega))
 |fn f cs cs' F h q=>
  intro v r;obtain⟨vs,rfl,C,A⟩:=r.fn_inv;exact .fn f vs cs' (by omega) λi z=>q i (by omega) _ (A i (by omega))
theorem Pub.cells_shape {K:Ref->Prop} {m:Hp} {p g:PV} (h:Pub K m p g):g.cells.length=p.cells.length/\(p.cells.all KE=Ht->g.cells.all KE=Ht):=by
 have c:∀ {x y:PV},Pub K m x y->x.atom=Ht->y.atom=true:=λh d=>by
  cases h<;>first|exact d|rfl|(simp[KE]at d)
 by_cases k:∃cs,p= .agg cs;obtain⟨cs,rfl⟩:=k;cases h with
 |keep _ h=>exact⟨rfl,λh=>h⟩
 |agg _ cs' hl h=>
  refine⟨hl,λb=> ?_⟩;simp only[Qs,Jg]at b ⊢;intro y q;obtain⟨i,r,rfl⟩:=JT q;have:=h i (by omega);rw[getD_lt (by omega),getD_lt r]at this;exact c this (b _ (Kw _))
 obtain⟨c1,t⟩:=h.not_agg (λcs e=>k ⟨cs,e⟩);rw[c1,t];exact⟨rfl,λd=>by simpa using c h (by simpa using d)⟩
def Pub.cells_rep {K:Ref->Prop} (g:Sim B S M s a w) {e i:PV} {us:List Value} (hp:Pub K s.m e i) (k:us.length=e.cells.length) (d:∀j,j<e.cells.length->RepS S M s.m.q (us.getD j undef) (e.cells.getD j .any)):
  ∀j,j<e.cells.length->RepS (pubS K S M s.m w) M s.m.q (us.getD j undef) (i.cells.getD j .any):=by
 by_cases p:∃cs,e= .agg cs;obtain⟨cs,rfl⟩:=p;obtain⟨cs',rfl,r⟩:=hp.agg_of;obtain⟨u,h,y,q⟩:=(hp.rep g (.agg ⟨us⟩) (.agg us cs k d)).agg_inv;simp only[Value.agg.injEq,Qw.injEq]at h;subst h;exact λj b=>q j (by simp only[Qs]at b;omega)
 obtain⟨c1,t⟩:=hp.not_agg (λcs e=>p ⟨cs,e⟩);rw[c1]at k d ⊢;rw[t];intro j b;have c:j=0:=by simpa using b
 subst c;exact hp.rep g _ (d 0 b)
def Uc (P:Program) (r:PV) (s:St):List PV->List ResultVar->Prop
 |acc,[]=>r=Zp2 acc.reverse
 |acc,.tmp t::rs=>Uc P r s (s.fr t::acc) rs
 |acc,.cell t ty::rs=>tkn P ty=Ht/\(VO P ty (s.fr t) s.m).ok/\Uc P r s ((VO P ty (s.fr t) s.m).v::acc) rs
theorem Fr {r:PV} {s:St}:∀(rs:List ResultVar) (b:List PV),Uc P r s b rs->
  Zcb (rs.map (FH P s))/\r=Zp2 (b.reverse++rs.map λx=>(FH P s x).v)
 | [],b,h=>by simpa[Uc,Zcb]using h
 | .tmp t::rs,b,h=>by
  obtain⟨d,c⟩:=Fr rs _ h;exact⟨⟨trivial,d⟩,by simpa[FH]using c⟩
 | .cell t ty::rs,b,h=>by
  obtain⟨g,e,h⟩:=h;obtain⟨d,c⟩:=Fr rs _ h;refine⟨⟨?_,d⟩,?_⟩;simpa[FH,g]using e;simpa[FH,g]using c
def Zhp {fn:Func} {r:PV} {rs:List ResultVar} (g:Sim B S M s a w) (c:fn.results=rs.toArray) (h:Uc P r s [] rs):∃v,(results fn a.tmps).run P w= .ok v w/\RepS S M s.m.q v r:=by
 obtain⟨i,k⟩:=Fr rs [] h;have e:fn.results.toList=rs:=by rw[c]
 have d:Zcb (fn.results.toList.map (FH P s)):=by rw[e];exact i
 obtain⟨v,hv,b⟩:=Vs g d;rw[e]at b;refine⟨v,hv,?_⟩;rw[k];simpa using b
def ZtY (P:Program) (rs:List ResultVar) (r:PV):Exit->St->Prop
 | .normal,s=>∃r0,Uc P r0 s [] rs/\Pub (λ_=>False) s.m r0 r
 | .ret,s=>∃r0,Uc P r0 s [] rs/\Pub (λ_=>False) s.m r0 r
 |_,_=>False
theorem Zi8 (rs:List ResultVar) (r:PV) (s:St):@vQ ⟨ZtY P rs r⟩ .ret s= ∃r0,Uc P r0 s [] rs/\Pub (λ_=>False) s.m r0 r:=rfl
theorem Zcs (rs:List ResultVar) (r:PV) (s:St):@vQ ⟨ZtY P rs r⟩ .normal s= ∃r0,Uc P r0 s [] rs/\Pub (λ_=>False) s.m r0 r:=rfl
def St.vms (s:St) (l:List Nat):St:=s.with { s.m with vm:=Yq (l.map λi=>(i,Ht)) λ_=>Hf }
theorem ZsH {c:Code} {Q:Exit->St->Prop} (f:Nat->Bool) (h:awp P c Q (s.with { s.m with vm:=f })):awp P c Q s:=λB S M a w d=>by
 have live:∀i,ZI s.m i->ZI { s.m with vm:=f } i:=λi h=>by cases i<;>exact h
 refine h B S M a w ⟨d.defers,d.hn,d.hB,d.stable,d.fr,λi k q=>live k (d.ids i k q),λi b C=> ?_,d.row,d.inj,d.injq,d.injx,λb c g=> ?_,λi es I=> ?_,⟨d.pn.h,d.pn.q⟩,d.hz⟩;have e:=d.blk i b C;show DJ _ _ _ _ _ _ _ (s.m.z i);cases t:s.m.z i with
 |false=>
  rw[t]at e;obtain⟨y,u,⟨us,E,z,G,A⟩,O⟩:=e;exact⟨y,u,⟨us,E,z,G,A⟩,λc g k q=>live k (O c g k q)⟩
 |true=>rw[t]at e;exact e
 obtain⟨J,F,N,L⟩:=d.rm b c g;exact⟨J,F,N,L.move (JI _) rfl (λv p r _=>r) live⟩;exact(d.vc i es I).move (λ_ _ _ h=>h) rfl rfl (λ_=>rfl) (λv p r _=>r) live
theorem Pure.of_p (vm:List Nat) {f:FuncId} {fn:Func} {c:Code} {args:List PV} {r:PV} {n:Nat} {rs:List ResultVar} (I:P.funcs[f]? = Hs fn) (g:fn.name≠ "runtime.NumGoroutine") (p:fn.body=Hs c) (W:fn.ntmps=n) (C:fn.results=rs.toArray) (Z:args.length<=n) (J:r.dids= [])
  (h:@vC P ⟨c⟩ ⟨ZtY P rs r⟩ ((St.init args n).vms vm)):Pure P f args r:=by
 subst W;refine⟨⟨fn,I,g,by rw[p];rfl⟩,J,λw S vs y G t U=> ?_⟩;refine calls_of_wp I p ?_;have N:=SS (B:=λk=>k<w.heap.size) (w:=w) (n:=fn.ntmps) (o:=λ_=>Hn) Z t U (λk q=>q) ⟨y,λk d hd=>(by cases hd),λk x V=>(by cases V)⟩ (λk q=>G k (Jz q));have A:(⟨vs⟩:Array Value).size=vs.length:=by simp
 rw[A];refine wp_mono (ZsH _ (Z4 _ _ _ h) _ S _ _ w N) λe L w' R=> ?_
 obtain⟨s',S',M',E,i,F⟩:=R;have u:(∃r0,Uc P r0 s' [] rs/\Pub (λ_=>False) s'.m r0 r)->L.defers= []/\ ∃v,(results fn L.tmps).run P w'= .ok v w'/\ ∃v' S',Ending.returned v= .returned v'/\Rep S' v' r/\StabS S' w'/\SLe S S'/\(∀b,b<w.heap.size->(∀o,S' b o=S b o)/\S'.m b=S.m b)/\Below w.heap.size w w':=by
  rintro ⟨r0,T,Y⟩;obtain⟨v,hv,z⟩:=Zhp i C T;have hp:=(Y.rep i v z).alone (JE.2 λk q=>by have:=Wk _ q;rw[J]at this;cases this);refine⟨i.defers,v,hv,v,_,rfl,hp,Zbz i,F.1.trans (GD i),λb p=> ?_,F.2.2.to⟩;obtain⟨q1,O⟩:=Zs1 (K:=λ_=>False) i (b:=b) p;obtain⟨q3,X⟩:=F.2.1 b p;exact⟨λo=>(q1 o).trans (q3 o),O.trans X⟩
 cases e with
 |normal=>exact u E
 |ret=>exact u E
 |_=>exact E.elim
def MemL.hpP (m:MemL) (p:Nat->Nat) (q:Nat->Option (Nat×Nat×Nat)):Hp:= { m.hp with ph:=Yq (m.H.map λx=>(x.1,Hs (p x.1))) λ_=>Hn,pq:=Yq (m.R.map λx=>(x.1,q x.1)) λ_=>Hn }
theorem Zpt {α β:Type} {L:List (Nat×α)} {F:Nat->Option β} {i:Nat} {y:β} (h:Yq (L.map λx=>(x.1,F x.1)) (λ_=>Hn) i=Hs y):F i=Hs y/\ ∃x∈L,x.1=i:=by
 induction L with
 |nil=>cases h
 |cons x L ih=>
  have b:upd (Yq (L.map λx=>(x.1,F x.1)) λ_=>Hn) x.1 (F x.1) i=Hs y:=h;by_cases e:x.1=i;rw[e,Za]at b;exact⟨b,x,by simp,e⟩;rw[Zb _ _ e]at b;obtain⟨g,z,d,c⟩:=ih b;exact⟨g,z,by simp[d],c⟩
structure ERet (P:Program) (rs:List ResultVar) (r:PV) (m0 m1:MemL) (ph:Nat->Nat) (pq:Nat->Option (Nat×Nat×Nat)) (s:St):Prop where
 r:∃r0,Uc P r0 s [] rs/\Pub m1.has s.m r0 r
 h:∀x∈m1.H,∃cs,s.m.h x.1=Hs cs/\s.m.z x.1=Hf/\x.2.length=cs.length/\ ∀i,i<cs.length->Pub m1.has s.m (cs.getD i .any) (x.2.getD i .any)
 q:∀x∈m1.R,s.m.q x.1=Hs x.2
 v:∀x∈m1.V,∃es,s.m.v x.1=Hs es/\x.2.length=es.length/\ ∀i,i<es.length->Pub m1.has s.m (es.getD i .any) (x.2.getD i .any)
 ph:∀x∈m0.H,s.m.ph x.1=Hs (ph x.1)
 pq:∀x∈m0.R,s.m.pq x.1=pq x.1
def FQ (P:Program) (rs:List ResultVar) (r:PV) (b m1:MemL) (ph:Nat->Nat) (pq:Nat->Option (Nat×Nat×Nat)):Exit->St->Prop
 | .normal,s=>ERet P rs r b m1 ph pq s
 | .ret,s=>ERet P rs r b m1 ph pq s
 |_,_=>False
theorem Zi6 (rs:List ResultVar) (r:PV) (b m1:MemL) (ph:Nat->Nat) (pq:Nat->Option (Nat×Nat×Nat)) (s:St):@vQ ⟨FQ P rs r b m1 ph pq⟩ .ret s=ERet P rs r b m1 ph pq s:=rfl
theorem Zcr (rs:List ResultVar) (r:PV) (b m1:MemL) (ph:Nat->Nat) (pq:Nat->Option (Nat×Nat×Nat)) (s:St):@vQ ⟨FQ P rs r b m1 ph pq⟩ .normal s=ERet P rs r b m1 ph pq s:=rfl
def Row.compat:Row->Row->Prop
 | .live _ sz e,.live _ sz' e'=>sz=sz'/\e=e'
 | .vec _ sz e,.vec _ sz' e'=>sz=sz'/\e=e'
 |_,.dead=>True
 |_,_=>False
def ZnZ {q:Rows} {vs:List Value} {args:List PV} {n:Nat} (d:vs.length=args.length) (c:∀i,i<args.length->RepS S M q (vs.getD i undef) (args.getD i .any)) (i:Nat):
  RepS S M q (((⟨vs⟩:Array Value)++Je (n-vs.length) undef).getD i undef) (VY 0 args i):=by
 rw[VZ args 0 i (Ko _),KZ];by_cases b:i<args.length;have:=c i b;rw[getD_lt b]at this ⊢;rw[getD_lt (by omega)]at this;have e:((⟨vs⟩:Array Value)++Je (n-vs.length) undef).getD i undef=vs[i]'(by omega):=by
  rw[Jf,Km (by simp;omega)];simp[show i<vs.length by omega]
 rw[e];exact this;rw[Vi (by omega)];have e:((⟨vs⟩:Array Value)++Je (n-vs.length) undef).getD i undef=undef:=by
  rw[Jf,Kh (by simp;omega)];simp only[JN];split<;>rfl
 rw[e];exact .clean (.tup [] [] rfl (λi b=>by simp at b))
def ZnY {args:List PV} {m:MemL} (d:∀p∈args,∀i∈p.ids,m.has i) (i:Nat) (k:Ref) (b:k∈(VY 0 args i).ids):m.has k:=by
 rw[VZ args 0 i (Ko _),KZ]at b;by_cases c:i<args.length;rw[getD_lt c]at b;exact d _ (Kw c) k b;rw[Vi (by omega)]at b;simp[JL,J3]at b
open Classical in
theorem Eff.of_v (vm:List Nat) {f:FuncId} {fn:Func} {c:Code} {args:List PV} {L m1:MemL} {r:PV} {n:Nat} {rs:List ResultVar} (hf:P.funcs[f]? = Hs fn) (xf:fn.name≠ "runtime.NumGoroutine") (A:fn.body=Hs c) (hn:fn.ntmps=n) (xw:fn.results=rs.toArray) (hl:args.length<=n)
  (xc:L.Ok) (I:m1.Ok) (ca:∀p∈args,∀i∈p.ids,L.has i) (cr:∀i∈r.ids,m1.has i) (kh:∀x∈L.H,∃y∈m1.H,y.1=x.1) (kr:∀x∈L.R,∃y∈m1.R,y.1=x.1/\Row.compat x.2 y.2)
  (h:∀ph pq,@vC P ⟨c⟩ ⟨FQ P rs r L m1 ph pq⟩ (St.vms ⟨VY 0 args,L.hpP ph pq,n⟩ vm)):Eff P f args L r m1:=by
 subst hn;refine⟨⟨fn,hf,xf,by rw[A];rfl⟩,xc,I,ca,cr,λi G=> ?_,λB S M w vs C xj hr=> ?_⟩;cases i with
 |b i=>obtain⟨y,hy,rfl⟩:=G;exact kh y hy
 |r i=>obtain⟨y,hy,rfl⟩:=G;obtain⟨z,hz,e,_⟩:=kr y hy;exact⟨z,hz,e⟩
 refine calls_of_wp hf A ?_;let ph:Nat->Nat:=M.φ;let pq:Nat->Option (Nat×Nat×Nat):=λi=>match L.hp.q i with|some r=>(match r.len with|some n=>Hs (n,M.κ i,M.ψ i)|none=>Hn)|none=>Hn
 have hs:Sim B S M ⟨VY 0 args,L.hpP ph pq,fn.ntmps⟩ { tmps:=⟨vs⟩++Je (fn.ntmps-vs.length) undef,defers:= [] } w:=by
  refine⟨rfl,by simp;omega,C.hB,C.stable,λi=>ZnZ xj hr i,λi k V=> ?_,C.blk,C.row,C.inj,C.injq,C.injx,C.rm,C.vc,⟨λi b A=> ?_,λi n k b A=> ?_⟩,C.hz⟩;have:=xc.live (ZnY ca i k V);cases k<;>exact this
  have A:Yq (L.H.map λx=>(x.1,Hs (ph x.1))) (λ_=>Hn) i=Hs b:=A;obtain⟨Y,x,E,rfl⟩:=Zpt (F:=λi=>Hs (ph i)) A;cases Y;exact⟨xc.live (i:= .b x.1) ⟨x,E,rfl⟩,rfl⟩;have A:Yq (L.R.map λx=>(x.1,pq x.1)) (λ_=>Hn) i=Hs (n,k,b):=A;have A:=(Zpt (F:=pq) A).1;simp only[pq]at A;cases R:L.hp.q i with
  |none=>rw[R]at A;cases A
  |some r0=>
   rw[R]at A;cases xh:r0.len with
   |none=>simp only[xh]at A;cases A
   |some U=>
    simp only[xh,JH.injEq,Qt.injEq]at A;obtain⟨rfl,rfl,rfl⟩:=A;refine⟨λe=>(by have e:L.hp.q i=none:=e;rw[R]at e;cases e),λr1 n1 Y u=> ?_⟩;have Y:L.hp.q i=Hs r1:=Y;rw[R]at Y;cases Y;rw[xh]at u;cases u;exact⟨Ju _,λ_=>⟨rfl,rfl⟩⟩
 have xu:(⟨vs⟩:Array Value).size=vs.length:=by simp
 rw[xu];refine wp_mono (ZsH _ (Z4 _ _ _ (h ph pq)) _ S _ _ w hs) λe a' w' hq=> ?_
 obtain⟨s',S',X,Y,u,h3⟩:=hq;have xl:ERet P rs r L m1 ph pq s'->a'.defers= []/\ ∃v,(results fn a'.tmps).run P w'= .ok v w'/\ ∃v' S1 M1,Ending.returned v= .returned v'/\RepS S1 M1 m1.hp.q v' r/\Sim B S1 M1 (Zsb m1.hp) ZkX w'/\Ext B S S1 w w'/\(∀x∈L.H,M1.φ x.1=M.φ x.1)/\ ∀x∈L.R,RowLe M M1 x.1 (L.hp.q x.1) (m1.hp.q x.1):=by
  rintro ⟨⟨r0,g1,g2⟩,gh,gq,gv,xv,xs⟩;obtain⟨v,hv,xq⟩:=Zhp u xw g1
  -- what is kept,told by the smaller memory
  have down:∀ {v p},RepS (pubS m1.has S' X s'.m w') X s'.m.q v p->(∀i∈p.ids,m1.has i)->RepS (pubS m1.has S' X s'.m w') X m1.hp.q v p:=λrr xk=>
   rr.heap (JI _) (λ_ _=>rfl) λi G=>by
    obtain⟨y,hy,rfl⟩:=xk _ G;rw[I.q_at hy,gq y hy];exact .refl _ _ _
  have hP:∀ {i},m1.has (.b i)-> ∀ {cs},s'.m.h i=Hs cs->s'.m.z i=Hf-> ¬ZrN m1.has X s'.m (X.φ i):=λ{i} G {cs} N hz hp=>by
   rcases hp with ⟨id,es,O,e2,T,W⟩|⟨id,cs',O,e2,T,W⟩;obtain⟨sz,e,q⟩:=u.vec_q O;exact u.injx i id _ _ N hz q rfl T W.symm;exact u.inj id i _ _ O N e2 hz (λe=>T (e▸G)) W
  have xn:∀ {i},m1.has (.r i)-> ∀ {r0},s'.m.q i=Hs r0->r0.own=Ht->0<X.κ i-> ¬ZrN m1.has X s'.m (X.ψ i):=λ{i} G {r0} hq ho V hp=>by
   rcases hp with ⟨id,es,O,e2,T,W⟩|⟨id,cs',O,e2,T,W⟩;obtain⟨sz,e,q⟩:=u.vec_q O;exact u.injq id i _ _ q hq rfl ho T V (λe=>e2 (e▸G)) W;exact u.injx id i _ _ O e2 hq ho V W
  refine⟨u.defers,v,hv,v,pubS m1.has S' X s'.m w',X,rfl,down (g2.rep u v xq) cr,⟨rfl,rfl,u.hB,⟨Zbz u,λb c N=>(by cases N),λb x E=>(by cases E)⟩,λi=> .clean (.any _),λi id h=>(by simp[Zsb,JL]at h),λid cs N=> ?_,λid r1 N=> ?_,λid xm cs cs' N g _ _ xg=> ?_,λid xm r1 r2 N g o o' k k' xg=> ?_,λid xm cs r1 N _ g o k=> ?_,λb c N=>(by cases N),λid es N=> ?_,⟨λ_ _ h=>(by cases h),λ_ _ _ _ h=>(by cases h)⟩,u.hz⟩,
   ⟨h3.1.trans (GD u),λb A=> ?_,h3.2.2⟩,λx E=> ?_,λx E=> ?_⟩
  have E:=MemL.h_mem N;obtain⟨xt,O,e2,T,W⟩:=gh _ E;obtain⟨k1,k2,⟨us,t,k3,k4,k5⟩,k6⟩:=u.own O e2;have xb:∀c∈cs,∀i∈c.ids,m1.has i:=I.ch _ E;have T:cs.length=xt.length:=T;refine⟨k1,λo=>by rw[SQ (hP ⟨_,E,rfl⟩ O e2)];exact k2 o,⟨us,t,k3,by omega,λj hj=> ?_⟩,λc g i G=>I.live (xb c g i G)⟩;exact down ((W j (by omega)).rep u _ (k5 j (by omega))) (xb _ (Zc hj));have E:=MemL.q_mem N;have hq:=gq _ E;have xe:=u.row _ _ hq;cases r1 with
  |dead=>trivial
  |live n sz e=>
   obtain⟨o1,o2⟩:=xe;refine⟨o1,λc g=> ?_⟩;obtain⟨k1,k2,k3,k4,k5⟩:=o2 c g;exact⟨k1,k2,k3,k4,λo ho=>by rw[SQ (xn ⟨_,E,rfl⟩ hq rfl (by simp only at g ⊢;omega))];exact k5 o ho⟩
  |vec n sz e=>
   obtain⟨o1,o2⟩:=xe;refine⟨o1,λc g=> ?_⟩;obtain⟨k1,k2,k3,k4,k5⟩:=o2 c g;exact⟨k1,k2,k3,k4,λo=>by rw[SQ (xn ⟨_,E,rfl⟩ hq rfl (by simp only at g ⊢;omega))];exact k5 o⟩
  obtain⟨_,O,e2,_⟩:=gh _ (MemL.h_mem N);obtain⟨_,T,W,_⟩:=gh _ (MemL.h_mem g);exact u.inj _ _ _ _ O T e2 W xg;exact u.injq _ _ _ _ (gq _ (MemL.q_mem N)) (gq _ (MemL.q_mem g)) o o' k k' xg;obtain⟨_,O,e2,_⟩:=gh _ (MemL.h_mem N);exact u.injx _ _ _ _ O e2 (gq _ (MemL.q_mem g)) o k;have E:=MemL.v_mem N;obtain⟨J,O,T,W⟩:=gv _ E;obtain⟨sz,e,q1,r1,r2,r4⟩:=u.vc _ _ O;have T:es.length=J.length:=T;obtain⟨y,hy,Z⟩:=I.vr _ E;have Z:y.1=id:=Z;have hq:=gq y hy;rw[Z]at hq;have xb:∀c∈es,∀i∈c.ids,m1.has i:=I.cv _ E;have xx:m1.hp.q id=Hs (.vec es.length sz e):=by
   have Y:=I.q_at hy;rw[Z]at Y;rw[Y,<-hq,q1,T]
  -- element by element
  have shape:∀i,i<J.length->(es.getD i .any).cells.length=(J.getD i .any).cells.length/\((J.getD i .any).cells.all KE=Ht->(es.getD i .any).cells.all KE=Ht):=λi G=>by
   have hp:=W i G;have hp:Pub m1.has s'.m (J.getD i .any) (es.getD i .any):=hp;generalize J.getD i .any=x at hp;generalize es.getD i .any=y at hp;exact hp.cells_shape
  refine⟨sz,e,xx,λp hp=> ?_,λp hp i G=>I.live (xb p hp i G),λc g us t fz xa i j G hj=> ?_⟩;obtain⟨i,G,rfl⟩:=JT hp;obtain⟨a1,a2⟩:=shape i (by omega);have xd:=r1 _ (Zc (d:= .any) (by omega:i<J.length));rw[getD_lt G]at a1 a2;exact⟨a1.trans xd.1,a2 xd.2⟩;have G:i<es.length:=G;have xd:=r1 _ (Zc (d:= .any) (by omega:i<J.length));have hp:Pub m1.has s'.m (J.getD i .any) (es.getD i .any):=W i (by omega);have:=hp.cells_rep u (us:=(us.drop (i*sz)).take sz) (by
   obtain⟨o1,o2⟩:=u.row _ _ q1;obtain⟨k1,k2,k3,⟨xz,k4,k5⟩,_⟩:=o2 c g;have xa:w'.heap[X.ψ id]? = Hs (.cells ⟨us⟩ t fz):=xa;rw[k4]at xa;cases xa;rw[xd.1,Kv,J5];have:i*sz+sz<=us.length:=by
    rw[k5]
    calc i*sz+sz=(i+1)*sz:=by rw[J9,JZ]
     _<=c*sz:=Jn _ (by omega)
   omega) (λl hl=>by
   rw[Xu (by omega),XJ];exact r4 c g us t fz xa i l (by omega) (by omega)) j (by omega)
  rw[Xu hj,XJ]at this;have xy:=(shape i (by omega)).1;exact down this λk V=>xb (es.getD i .any) (Zc G) k (Yv (Zc (by omega)) V)
  obtain⟨q1,q2⟩:=Zs1 (K:=m1.has) u (b:=b) A;obtain⟨q3,q4⟩:=h3.2.1 b A;exact⟨λo=>(q1 o).trans (q3 o),q2.trans q4⟩;exact(u.pn.h x.1 _ (xv x E)).2;obtain⟨y,hy,Z,V⟩:=kr x E;have R:=xc.q_at E;have xo:=I.q_at hy;have xp:=gq y hy;rw[Z]at xo xp;rw[R,xo];have pin:∀U n1,x.2.len=Hs U->y.2.len=Hs n1->U<=n1/\(U=n1->X.κ x.1=M.κ x.1/\X.ψ x.1=M.ψ x.1):=λU n1 l0 l1=>by
   have A:pq x.1=Hs (U,M.κ x.1,M.ψ x.1):=by simp only[pq,R,l0]
   exact(u.pn.q x.1 _ _ _ ((xs x E).trans A)).2 y.2 n1 xp l1
  obtain⟨xi,xr⟩:=x;obtain⟨yi,yr⟩:=y;simp only at V pin ⊢;refine⟨λn sz e h=> ?_,λn sz e h=> ?_⟩;cases h;cases xr with
  |live U sz0 e0=>
   obtain⟨rfl,rfl⟩:=V;obtain⟨p1,p2⟩:=pin U n rfl rfl;by_cases e:U=n;subst e;exact .inl ⟨rfl,p2 rfl⟩;exact .inr ⟨U,_,_,rfl,by omega⟩
  |vec=>exact V.elim
  |dead=>exact V.elim
  cases h;cases xr with
  |vec U sz0 e0=>
   obtain⟨rfl,rfl⟩:=V;obtain⟨p1,p2⟩:=pin U n rfl rfl;by_cases e:U=n;subst e;exact .inl ⟨_,rfl,p2 rfl⟩;exact .inr ⟨U,_,_,rfl,by omega⟩
  |live=>exact V.elim
  |dead=>exact V.elim
 cases e with
 |normal=>exact xl Y
 |ret=>exact xl Y
 |_=>exact Y.elim
def mkStX (n:Nat) (L:List (Nat×PV)) (H:List (Nat×List PV×Bool)) (R:List (Nat×Row)) (O:List (Nat×MapC)) (I:List (Nat×IterC)) (V:List (Nat×List PV)) (OM:List (Nat×MapC)) (p:List (Nat×Nat)) (q:List (Nat×Option (Nat×Nat×Nat))) (vm:List Nat):St:=
 { fr:=Yq L λ_=> .any,m:= { h:=Yq (H.map λx=>(x.1,Hs x.2.1)) λ_=>Hn,z:=Yq (H.map λx=>(x.1,x.2.2)) λ_=>Hf,q:=Yq (R.map λx=>(x.1,Hs x.2)) λ_=>Hn,o:=Yq (O.map λx=>(x.1,Hs x.2)) λ_=>Hn,it:=Yq (I.map λx=>(x.1,Hs x.2)) λ_=>Hn,om:=Yq (OM.map λx=>(x.1,Hs x.2)) λ_=>Hn,v:=Yq (V.map λx=>(x.1,Hs x.2)) λ_=>Hn,ph:=Yq (p.map λx=>(x.1,Hs x.2)) λ_=>Hn,pq:=Yq q λ_=>Hn,vm:=Yq (vm.map λi=>(i,Ht)) λ_=>Hf },n:=n }
structure HasX (n:Nat) (L:List (Nat×PV)) (H:List (Nat×List PV×Bool)) (R:List (Nat×Row)) (O:List (Nat×MapC)) (I:List (Nat×IterC)) (V:List (Nat×List PV)) (OM:List (Nat×MapC)) (p:List (Nat×Nat)) (q:List (Nat×Option (Nat×Nat×Nat))) (s:St):Prop where
 b:Has n L H R s
 o:∀x∈O,s.m.o x.1=Hs x.2
 it:∀x∈I,s.m.it x.1=Hs x.2
 v:∀x∈V,s.m.v x.1=Hs x.2
 om:∀x∈OM,s.m.om x.1=Hs x.2
 ph:∀x∈p,s.m.ph x.1=Hs x.2
 pq:∀x∈q,s.m.pq x.1=x.2
structure WholeX (L:List (Nat×PV)) (H:List (Nat×List PV×Bool)) (R:List (Nat×Row)) (V:List (Nat×List PV)) (OM:List (Nat×MapC)) (p:List (Nat×Nat)) (q:List (Nat×Option (Nat×Nat×Nat))):Prop where
 t:Zcq L H R
 v:∀x∈V,(J3 x.2).all (ZR H R)=Ht
 om:∀x∈OM,(J3 x.2.vs).all (ZR H R)=Ht
 vr:∀x∈V,(R.map (·.1)).contains x.1=Ht
 pr:∀x∈p,(H.map (·.1)).contains x.1=Ht
 qr:∀x∈q,(R.map (·.1)).contains x.1=Ht
def Fo {α:Type} (O:List (Nat×Option α)) (f:Nat->Option α) (h:∀x∈O,f x.1=x.2) (i:Nat):Yq O (λ_=>Hn) i=Hn\/(Yq O (λ_=>Hn) i=f i/\ ∃x∈O,x.1=i):=by
 by_cases b:(O.map (·.1)).contains i=Ht;right;refine⟨Yh (R:=λi v=>v=f i) (λx c=>(h x c).symm) b,?_⟩;simp only[Jm,Jj]at b;exact b;exact .inl (WC (by simpa using b))
def HasX.weak {n:Nat} {L:List (Nat×PV)} {H:List (Nat×List PV×Bool)} {R:List (Nat×Row)} {O:List (Nat×MapC)} {I:List (Nat×IterC)} {V:List (Nat×List PV)} {OM:List (Nat×MapC)} {p:List (Nat×Nat)} {q:List (Nat×Option (Nat×Nat×Nat))} {vm:List Nat} (k:WholeX L H R V OM p q) (h:HasX n L H R O I V OM p q s):Weak (mkStX n L H R O I V OM p q vm) s:=by
 have e:∀ {i:Nat},(R.map (·.1)).contains i=Ht->(mkStX n L H R O I V OM p q vm).m.q i=s.m.q i:=λ{i} hi=>by
  refine Yh (R:=λi v=>v=s.m.q i) (λx b=> ?_) (by rw[Zp1 R Hs];exact hi);obtain⟨y,d,rfl⟩:=Jj.1 b;exact(h.b.q y d).symm
 have g:∀ {i:Nat},(H.map (·.1)).contains i=Ht->(mkStX n L H R O I V OM p q vm).m.h i=s.m.h i:=λ{i} hi=>by
  refine Yh (R:=λi v=>v=s.m.h i) (λx b=> ?_) (by rw[Zp1 H (λx=>Hs x.1)];exact hi);obtain⟨y,d,rfl⟩:=Jj.1 b;exact(h.b.h y d).1.symm
 refine⟨h.b.weak.n,h.b.weak.fr,h.b.weak.h,h.b.weak.q,Sg O s.m.o h.o,Sg I s.m.it h.it,Sg OM s.m.om h.om,λi=> ?_,λi=> ?_,λi=> ?_⟩;rcases Fo (V.map λx=>(x.1,Hs x.2)) s.m.v (λx b=>by obtain⟨y,d,rfl⟩:=Jj.1 b;exact h.v y d) i with c|⟨c,x,b,rfl⟩;exact .inl c;obtain⟨y,d,rfl⟩:=Jj.1 b;exact .inr ⟨c,e (k.vr y d)⟩;rcases Fo (p.map λx=>(x.1,Hs x.2)) s.m.ph (λx b=>by obtain⟨y,d,rfl⟩:=Jj.1 b;exact h.ph y d) i with c|⟨c,x,b,rfl⟩;exact .inl c;obtain⟨y,d,rfl⟩:=Jj.1 b;exact .inr ⟨c,g (k.pr y d)⟩;rcases Fo q s.m.pq h.pq i with c|⟨c,x,b,rfl⟩;exact .inl c;exact .inr ⟨c,e (k.qr x b)⟩
theorem Refs.mkStX {n:Nat} {L:List (Nat×PV)} {H:List (Nat×List PV×Bool)} {R:List (Nat×Row)} {O:List (Nat×MapC)} {I:List (Nat×IterC)} {V:List (Nat×List PV)} {OM:List (Nat×MapC)} {p:List (Nat×Nat)} {q:List (Nat×Option (Nat×Nat×Nat))} {vm:List Nat} (e:WholeX L H R V OM p q):Refs (mkStX n L H R O I V OM p q vm):=by
 have k:=Refs.mkSt (n:=n) e.t;have z:∀r,ZI (PL.mkSt n L H R).m r->ZI (PL.mkStX n L H R O I V OM p q vm).m r:=λr d=>by cases r<;>exact d
 have live:∀r,ZR H R r=Ht->ZI (PL.mkStX n L H R O I V OM p q vm).m r:=λr d=>by
  cases r with
  |b i=>
   show Yq (H.map λx=>(x.1,Hs x.2.1)) (λ_=>Hn) i≠Hn;exact Yh (R:=λi v=>v≠Hn) (λx h=>by obtain⟨y,A,rfl⟩:=Jj.1 h;simp) (by rw[Zp1 H (λx=>Hs x.1)];exact d)
  |r i=>
   show Yq (R.map λx=>(x.1,Hs x.2)) (λ_=>Hn) i≠Hn;exact Yh (R:=λi v=>v≠Hn) (λx h=>by obtain⟨y,A,rfl⟩:=Jj.1 h;simp) (by rw[Zp1 R Hs];exact d)
 refine⟨λi r d=>z r (k.fr i r d),λi cs t c g r d=>z r (k.h i cs t c g r d),λi es t pv hp r d=> ?_,λb c g pv hp r d=> ?_⟩;have u:=(V7 t).resolve_right (by simp);exact live r (Jg.1 (e.v _ u) r (J7.2 ⟨pv,hp,d⟩));have u:=(V7 g).resolve_right (by simp);exact live r (Jg.1 (e.om _ u) r (J7.2 ⟨pv,hp,d⟩))
def Zya {ι:Type} (n:Nat) (L:ι->List (Nat×PV)) (H:ι->List (Nat×List PV×Bool)) (R:ι->List (Nat×Row)) (O:ι->List (Nat×MapC)) (I:ι->List (Nat×IterC)) (V:ι->List (Nat×List PV)) (OM:ι->List (Nat×MapC)) (p:List (Nat×Nat)) (q:List (Nat×Option (Nat×Nat×Nat))) (μ:ι->Nat) (i:ι) (s':St):Prop:=
 ∃j,μ j<μ i/\HasX n (L j) (H j) (R j) (O j) (I j) (V j) (OM j) p q s'
theorem Ul {c:Code} {Q:Exit->St->Prop} {ι:Type} (n:Nat) (L:ι->List (Nat×PV)) (H:ι->List (Nat×List PV×Bool)) (R:ι->List (Nat×Row)) (O:ι->List (Nat×MapC)) (I:ι->List (Nat×IterC)) (V:ι->List (Nat×List PV)) (OM:ι->List (Nat×MapC)) (p:List (Nat×Nat)) (q:List (Nat×Option (Nat×Nat×Nat))) (vm:List Nat) (μ:ι->Nat) (b:ι)
  (k:HasX n (L b) (H b) (R b) (O b) (I b) (V b) (OM b) p q s) (d:∀i,WholeX (L i) (H i) (R i) (V i) (OM i) p q)
  (round:∀i,@vC P ⟨c⟩ ⟨Xq (Zya n L H R O I V OM p q μ i) Q⟩ (mkStX n (L i) (H i) (R i) (O i) (I i) (V i) (OM i) p q vm)):awp P (.loop c) Q s:=
 TG (λi=>mkStX n (L i) (H i) (R i) (O i) (I i) (V i) (OM i) p q vm) μ b (k.weak (d b)) (λ_ i=>Refs.mkStX (d i)) λi=>YY (λe s' h=>by
  cases e with
  |normal=>obtain⟨j,g,r⟩:=h;exact⟨j,g,r.weak (d j)⟩
  |_=>exact h) (Z4 _ _ _ (round i))
def ZcS {c:Code} {Q:Exit->St->Prop} (i d sz:Nat) (e:TypeId) (y:s.fr i= .sl .nil []) (hd:s.m.q d=Hn) (h:awp P c Q ({ s with fr:=upd s.fr i (.vsl d 0 sz) }.with { s.m.setq d (.vec 0 sz e)with v:=upd s.m.v d (Hs []) })):awp P c Q s:=λB S M a w p=>by
 have b:=p.nilVec (sz:=sz) (e:=e) hd;have hv:a.tmps.getD i undef= .slice Hn 0 0:=by
  have:=p.fr i;rw[y]at this;exact this.slnil_inv
 refine h B S _ a w ⟨b.defers,b.hn,b.hB,b.stable,λk=> ?_,λk r z=> ?_,b.blk,b.row,b.inj,b.injq,b.injx,b.rm,b.vc,b.pn,b.hz⟩;show RepS _ _ _ _ (upd s.fr i (.vsl d 0 sz) k);by_cases e:i=k;subst e;rw[Za,hv];refine .vsl d 0 sz _ ⟨Hn,0,rfl,Ju _,λh=>absurd h (Qi _)⟩ λn' u A q=> ?_
 simp only[St.with,Hp.setq,Za]at q;cases q;exact⟨Ju _,λ_=>⟨rfl,λ_=>rfl,λc t=>by simp[Za]at t⟩⟩;rw[Zb _ _ e];exact b.fr k;have g:r∈(upd s.fr i (.vsl d 0 sz) k).ids:=z;by_cases e:i=k;subst e;rw[Za]at g;simp only[JL,Jc]at g;subst g;simp[ZI,St.with,Hp.setq,Za];rw[Zb _ _ e]at g;exact b.ids k r g
def ZhT {c:Code} {Q:Exit->St->Prop} (i id sz:Nat) (e:TypeId) (es:List PV) (C:s.fr i= .vsl id es.length sz) (y:s.m.q id=Hs (.vec es.length sz e)) (hv:s.m.v id=Hs es) (A:∀p∈es,p.ids= [])
  (h:awp P c Q ({ s with fr:=upd s.fr i (.sl .no es) }.with ({ s.m with v:=upd s.m.v id Hn }.setq id .dead))):awp P c Q s:=λB S M a w z=>by
 obtain⟨S',b,u,q⟩:=z.publish hv y A;have t:=z.fr i;rw[C]at t;refine wp_mono (h B S' M a w ⟨b.defers,b.hn,b.hB,b.stable,λk=> ?_,λk r E=> ?_,b.blk,b.row,b.inj,b.injq,b.injx,b.rm,b.vc,b.pn,b.hz⟩) λe F w' ⟨s',S2,M',h1,h2,h3⟩=>⟨s',S2,M',h1,h2,u.trans h3⟩
 show RepS _ _ _ _ (upd s.fr i (.sl .no es) k);by_cases g:i=k;subst g;rw[Za];exact .clean (q _ t);rw[Zb _ _ g];exact b.fr k;have d:r∈(upd s.fr i (.sl .no es) k).ids:=E;by_cases g:i=k;subst g;rw[Za]at d;simp[JL]at d;rw[Zb _ _ g]at d;exact b.ids k r d
end
attribute [go_sem] mkStX St.vms MemL.hpP MemL.hp
attribute [go_sem] Zi8 Zcs Zi6 Zcr Uc
end Go.PL
namespace Go.PL
open Go.RowKit
section
variable {P:Program}
def Gw {f g:Nat->Nat} {es:List PV} (h:∀p∈es,p.ids= []):es.map (PV.ren f g)=es:=by
 rw[<-PV.renL_map];exact UU es (JE.2 λi d=>by obtain⟨c,e,b⟩:=J7.1 d;rw[h c e]at b;cases b)
def Zw4 {α:Type} {f:Nat->α} {d:Nat} {v:α} (h:f d=v):upd f d v=f:=by rw[<-h,XX]
abbrev T4 (n sz:Nat) (e:TypeId) (es:List PV):MemL:=⟨[],[(1000,.vec n sz e)],[(1000,es)]⟩
abbrev noV:MemL:=⟨[],[],[]⟩
def ZoJ {n sz:Nat} {e:TypeId} {es:List PV} (h:∀p∈es,p.ids= []):(T4 n sz e es).Ok:=
 ⟨by simp,by simp,by simp,by simp,by simp,λx d c g i b=>by simp only[Jc]at d;subst d;rw[h c g]at b;cases b⟩
def Zov:noV.Ok:=⟨by simp,by simp,by simp,by simp,by simp,by simp⟩
def ZvS {n sz:Nat} {e:TypeId} {es:List PV}:(T4 n sz e es).hp.v 1000=Hs es:=by simp[MemL.hp,Sf,DB,upd]
def Zrn {n sz:Nat} {e:TypeId} {es':List PV} {m:Hp} {d:Nat} (b:∀p∈es',p.ids= []):Zbg (T4 n sz e es') (λ_=>d) id m= { m.setq d (.vec n sz e)with v:=upd m.v d (Hs es') }:=by
 unfold Zbg;simp only[Kk,DB,JO,Sf,ZvS,Jw,Gw b];rfl
def DD {M:KH} {g:FuncId} {args args0:List PV} {K:KR} {n sz:Nat} {e:TypeId} {es es':List PV} {r:PV} (d:Nat) (t:Eff P g args0 (T4 n sz e es) r (T4 n sz e es')) (z:r.ids= []) (h:∀p∈es,p.ids= []) (c:∀p∈es',p.ids= [])
  (k:M.m.q d=Hs (.vec n sz e)) (hv:M.m.v d=Hs es) (u:K3 M.m args=args0.map (PV.ren (λ_=>d) id)) (q:K.k r { M.m with v:=upd M.m.v d (Hs es') }):@V8 P Ht M (Hs (g,args)) K:=by
 refine ZbW (λ_=>d) id t ⟨by simp,λx b=> ?_,λx b=> ?_,by simp,λx b=> ?_,by simp,λx b y i _=> ?_⟩ u ?_;simp only[Jc]at b;subst b;exact k;simp only[Jc]at b;subst b;simp only[Gw h];exact hv;exact .inl ⟨x,b,rfl⟩;simp only[Jc]at b i;subst b i;rfl;rw[Wp _ z,Zrn c];have:({ M.m.setq d (.vec n sz e)with v:=upd M.m.v d (Hs es') }:Hp)= { M.m with v:=upd M.m.v d (Hs es') }:=by simp only[Hp.setq,Zw4 k]
 rw[this];exact q
def Eff.vw (vm:List Nat) {f:FuncId} {fn:Func} {c:Code} {args:List PV} {r:PV} {n k sz:Nat} {e:TypeId} {es es':List PV} {rs:List ResultVar} (y:P.funcs[f]? = Hs fn) (d:fn.name≠ "runtime.NumGoroutine") (F:fn.body=Hs c) (L:fn.ntmps=n) (t:fn.results=rs.toArray) (I:args.length<=n)
  (u:∀p∈es,p.ids= []) (g:∀p∈es',p.ids= []) (A:∀p∈args,∀i∈p.ids,i= .r 1000) (N:r.ids= [])
  (h:∀q,@vC P ⟨c⟩ ⟨FQ P rs r (T4 k sz e es) (T4 k sz e es') (λ_=>0) (λ_=>q)⟩ (St.vms ⟨VY 0 args,(T4 k sz e es).hpP (λ_=>0) (λ_=>q),n⟩ vm)):Eff P f args (T4 k sz e es) r (T4 k sz e es'):=
 Eff.of_v vm y d F L t I (ZoJ u) (ZoJ g) (λp hp i J=>by rw[A p hp i J];exact⟨_,Jc.2 rfl,rfl⟩) (by rw[N];simp) (by simp) (λx b=>⟨x,b,rfl,by simp only[Jc]at b;subst b;exact⟨rfl,rfl⟩⟩) λph pq=>by
  have C:(T4 k sz e es).hpP ph pq=(T4 k sz e es).hpP (λ_=>0) (λ_=>pq 1000):=rfl;have z:∀s,ERet P rs r (T4 k sz e es) (T4 k sz e es') (λ_=>0) (λ_=>pq 1000) s->ERet P rs r (T4 k sz e es) (T4 k sz e es') ph pq s:=λs h=>⟨h.r,h.h,h.q,h.v,by simp,λx b=>by simp only[Jc]at b;subst b;exact h.pq _ (Jc.2 rfl)⟩
  have E:FQ P rs r (T4 k sz e es) (T4 k sz e es') ph pq=FQ P rs r (T4 k sz e es) (T4 k sz e es') (λ_=>0) (λ_=>pq 1000):=by
   have G:∀s,ERet P rs r (T4 k sz e es) (T4 k sz e es') ph pq s=ERet P rs r (T4 k sz e es) (T4 k sz e es') (λ_=>0) (λ_=>pq 1000) s:=λs=>propext ⟨λh=>⟨h.r,h.h,h.q,h.v,by simp,λx b=>by simp only[Jc]at b;subst b;exact h.pq _ (Jc.2 rfl)⟩,z s⟩
   funext e s;cases e<;>first|exact G s|rfl
  rw[C,E];exact h _
def Zh9 {s:St} {rs:List ResultVar} {r r0:PV} {k sz:Nat} {e:TypeId} {es es':List PV} {q:Option (Nat×Nat×Nat)} (d:∀p∈es',p.ids= []) (t:Uc P r0 s [] rs) (hp:Pub (T4 k sz e es').has s.m r0 r) (g:s.m.q 1000=Hs (.vec k sz e)) (hv:s.m.v 1000=Hs es') (c:s.m.pq 1000=q):
  ERet P rs r (T4 k sz e es) (T4 k sz e es') (λ_=>0) (λ_=>q) s:=
 ⟨⟨r0,t,hp⟩,by simp,λx b=>by simp only[Jc]at b;subst b;exact g,λx b=>by
  simp only[Jc]at b;subst b;exact⟨es',hv,rfl,λi h=> .clean (d _ (Zc h))⟩,by simp,λx b=>by simp only[Jc]at b;subst b;exact c⟩
def G4 {α:Type} [Inhabited α] {pv:α->PV} {l:List α} {k:Nat} (h:k<l.length):(l.map pv).getD k .any=pv (l.getD k default):=by
 rw[getD_lt (by simpa using h),getD_lt h,K8]
def To {α:Type} {pv:α->PV} {l:List α} {k:Nat} {x:α}:(l.map pv).set k (pv x)=(l.set k x).map pv:=by rw[List.map_set]
def Yt {α:Type} {pv:α->PV} (h:∀a,(pv a).ids= []) (l:List α):∀p∈l.map pv,p.ids= []:=λp hp=>by
 obtain⟨a,_,rfl⟩:=Jj.1 hp;exact h a
def Xd {α:Type} {pv:α->PV} (h:∀a,(pv a).ids= []) (l:List α):J3 (l.map pv)= []:=
 JE.2 λi d=>by obtain⟨c,e,b⟩:=J7.1 d;rw[Yt h l c e]at b;cases b
def Zar {L:List (Nat×PV)} {n sz:Nat} {e:TypeId} {es:List PV} {q:Option (Nat×Nat×Nat)} (c:∀x∈L,x.2.ids.all (ZR [] [(1000,.vec n sz e)])=Ht) (b:J3 es= []):WholeX L [] [(1000,.vec n sz e)] [(1000,es)] [] [] [(1000,q)]:=
 ⟨⟨c,by simp⟩,by simp[b],by simp,by simp,by simp,by simp⟩
def Fz {s:St} {n k sz:Nat} {e:TypeId} {L:List (Nat×PV)} {es:List PV} {q:Option (Nat×Nat×Nat)} (c:s.n=n) (g:∀x∈L,s.fr x.1=x.2) (d:s.m.q 1000=Hs (.vec k sz e)) (hv:s.m.v 1000=Hs es) (b:s.m.pq 1000=q):
  HasX n L [] [(1000,.vec k sz e)] [] [] [(1000,es)] [] [] [(1000,q)] s:=
 ⟨⟨c,g,by simp,by simp[d]⟩,by simp,by simp,by simp[hv],by simp,by simp,by simp[b]⟩
end
end Go.PL
namespace Go.PL.Srt
variable {α:Type}
structure Good (lt:α->α->Bool):Prop where
 asym:∀a b,lt a b=Ht->lt b a=Hf
 trans:∀a b c,lt a b=Ht->lt b c=Ht->lt a c=Ht
def Inc (lt:α->α->Bool) (l:List α):Prop:=l.Pairwise λa b=>lt a b=Ht
def Unl (lt:α->α->Bool) (l:List α):Prop:=l.Pairwise λa b=>lt a b=Ht\/lt b a=Ht
def ins (lt:α->α->Bool) (x:α):List α->List α
 | []=> [x]
 |y::l=>if lt x y then x::y::l else y::ins lt x l
def srt (lt:α->α->Bool):List α->List α
 | []=> []
 |x::l=>ins lt x (srt lt l)
variable {lt:α->α->Bool}
theorem Zev (x:α):∀l:List α,(ins lt x l).Perm (x::l)
 | []=> .refl _
 |y::l=>by
  unfold ins;split;exact .refl _;exact((Zev x l).cons y).trans (.swap x y l)
theorem Wx:∀l:List α,(srt lt l).Perm l
 | []=> .refl _
 |x::l=>(Zev x _).trans ((Wx l).cons x)
def VK (l:List α):(srt lt l).length=l.length:=(Wx l).length_eq
def Zpf {l:List α} {x:α}:x∈srt lt l↔x∈l:=(Wx l).mem_iff
def Unl.perm {l l':List α} (h:Unl lt l) (p:l.Perm l'):Unl lt l':=(p.pairwise_iff (λh=>h.symm)).1 h
theorem Zn3 (g:Good lt) (x:α):∀ {l:List α},Inc lt l->(∀y∈l,lt x y=Ht\/lt y x=Ht)->Inc lt (ins lt x l)
 | [],_,_=>List.pairwise_singleton _ _
 |y::l,h,hx=>by
  unfold ins;have hp:=JF.1 h;split;rename_i c;refine JF.2 ⟨λz b=> ?_,h⟩;rcases JC.1 b with rfl|b;exact c;exact g.trans _ _ _ c (hp.1 z b);rename_i c;refine JF.2 ⟨λz b=> ?_,Zn3 g x hp.2 (λz b=>hx z (by simp[b]))⟩;rcases JC.1 ((Zev x l).mem_iff.1 b)with rfl|b;exact(hx y (by simp)).resolve_left c;exact hp.1 z b
theorem ZbQ (g:Good lt):∀ {l:List α},Unl lt l->Inc lt (srt lt l)
 | [],_=>Qj.nil
 |x::l,h=>by
  have hp:=JF.1 h;exact Zn3 g x (ZbQ g hp.2) λy b=>hp.1 y (Zpf.1 b)
theorem Inc.uniq (g:Good lt):∀ {l l':List α},Inc lt l->Inc lt l'->l.Perm l'->l=l'
 | [],l',_,_,p=>(List.Perm.nil_eq p)
 |x::l,[],_,_,p=>by have:=p.length_eq;simp at this
 |x::l,y::l',h,h',p=>by
  have k:=JF.1 h;have i:=JF.1 h';have e:x=y:=by
   have c:x∈y::l':=p.mem_iff.1 (by simp);have d:y∈x::l:=p.mem_iff.2 (by simp);rcases JC.1 c with e|c;exact e;rcases JC.1 d with e|d;exact e.symm;have a:=k.1 y d;have b:=i.1 x c;rw[g.asym _ _ a]at b;cases b
  subst e;rw[Inc.uniq g k.2 i.2 p.cons_inv]
def Zpe (g:Good lt) {l r:List α} (h:Inc lt r) (p:r.Perm l):srt lt l=r:=
 (ZbQ g (l:=l) (Unl.perm (h.imp λh=> .inl h) p)).uniq g h ((Wx l).trans p.symm)
def Unl.append {l c:List α}:Unl lt (l++c)↔Unl lt l/\Unl lt c/\ ∀a∈l,∀b∈c,lt a b=Ht\/lt b a=true:=KN
def Inc.append {l c:List α}:Inc lt (l++c)↔Inc lt l/\Inc lt c/\ ∀a∈l,∀b∈c,lt a b=true:=KN
def Inc.take {l:List α} (h:Inc lt l) (k:Nat):Inc lt (l.take k):=Qj.sublist (List.take_sublist _ _) h
def Zuc (g:Good lt) {P Q:List α} {x:α} (h:Inc lt (P++Q)) (i:∀p∈P,lt p x=Ht) (e:∀q∈Q,lt x q=Ht) {L:List α} (hp:(P++x::Q).Perm L):srt lt L=P++x::Q:=by
 obtain⟨r,t,k⟩:=Inc.append.1 h;refine Zpe g (Inc.append.2 ⟨r,JF.2 ⟨e,t⟩,λa d b c=> ?_⟩) hp;rcases JC.1 c with rfl|c;exact i a d;exact k a d b c
def Zf7 {l:List α} {i j:Nat} {x d:α} (h:i≠j):(l.set i x).getD j d=l.getD j d:=by
 simp[Ji,List.getElem?_set_ne h]
def ZnO {l:List α} {i:Nat} {x d:α} (h:i<l.length):(l.set i x).getD i d=x:=by
 simp[Ji,List.getElem?_set_self h]
def swap [Inhabited α] (l:List α) (i j:Nat):List α:=(l.set i (l.getD j default)).set j (l.getD i default)
def D7 [Inhabited α] (X Y:List α) (a:α) {k:Nat} (h:k=X.length):(X++a::Y).getD k default=a:=by subst h;simp
def Zs6 (X Y:List α) (a b:α) {k:Nat} (h:k=X.length):(X++a::Y).set k b=X++b::Y:=by subst h;simp
def Zue [Inhabited α] (X M Y:List α) (a b:α) {i j:Nat} (c:i=X.length) (h:j=X.length+1+M.length):swap (X++a::(M++b::Y)) i j=X++b::(M++a::Y):=by
 unfold swap
 rw[D7 X _ a c];have e:X++a::(M++b::Y)=(X++a::M)++b::Y:=by simp
 have g:(X++a::(M++b::Y)).getD j default=b:=by rw[e];exact D7 _ _ _ (by simp;omega)
 rw[g,Zs6 X _ a b c];have d:X++b::(M++b::Y)=(X++b::M)++b::Y:=by simp
 rw[d,Zs6 _ _ b a (by simp;omega)];simp
def Zpj [Inhabited α] (l:List α) (i j:Nat) (b:i<l.length) (c:j<l.length):swap l i j=swap l j i:=by
 unfold swap
 by_cases h:i=j;subst h;rfl;rw[List.set_comm _ _ h]
end Go.PL.Srt
namespace Go.PL
open Go.RowKit
section
variable {P:Program} {B:Frm} {S:Stable} {M:Maps} {s s' s'':St} {a:Act} {w:World} {Q:Exit->St->Prop}
def Gh (s s'':St):Prop:=∀B S M a w,Sim B S M s a w-> ∃S' b,Sim B S' b s'' a w/\Ext B S S' w w
def Gh.refl (s:St):Gh s s:=λB S M a w b=>⟨S,M,b,JJ _ _ _⟩
def Gh.trans (h:Gh s s') (i:Gh s' s''):Gh s s'':=λB S M a w d=>by
 obtain⟨S1,M1,c,b⟩:=h B S M a w d;obtain⟨S2,M2,e,g⟩:=i B S1 M1 a w c;exact⟨S2,M2,e,b.trans g⟩
def Gh.weak (b:Weak s' s) (c:Refs s'):Gh s s':=λB S M a w d=>⟨S,M,d.weak b c,JJ _ _ _⟩
def Zm9 {c:Code} (g:Gh s s'') (h:awp P c Q s''):awp P c Q s:=λB S M a w i=>by
 obtain⟨S',k,d,b⟩:=g B S M a w i;exact wp_mono (h B S' k a w d) λe p w' ⟨s',S2,M2,k1,k2,k3⟩=>⟨s',S2,M2,k1,k2,b.trans k3⟩
theorem ZhS {c:Code} {ι:Type} (I:ι->St) (μ:ι->Nat) (q:ι) (G:Gh s (I q))
  (round:∀i,awp P c (Xq (λs'=>∃j,μ j<μ i/\Gh s' (I j)) Q) (I i)):awp P (.loop c) Q s:=Zm9 G λB S M a w z=>by
 have key:∀(k:Nat) (i:ι),μ i<k-> ∀S1 M1 h w1,Sim B S1 M1 (I i) h w1->Ext B S S1 w w1->
   Code.rounds P c (λe g w'=>∃s' S' d,Q e s'/\Sim B S' d s' g w'/\Ext B S S' w w') k h w1:=by
  intro k
  induction k with
  |zero=>intro i F;omega
  |succ k ih=>
   intro i F S1 M1 h w1 p b;rw[rounds_succ];refine wp_mono (round i B S1 M1 h w1 p) λe g w' A=> ?_
   obtain⟨s',S',d,t,r,u⟩:=A;cases e with
   |normal=>
    obtain⟨j,J,C⟩:=t;obtain⟨S2,M2,E,y⟩:=C B S' d g w' r;exact ih j (by omega) S2 M2 g w' E ((b.trans u).trans y)
   |_=>exact⟨s',S',d,t,r,b.trans u⟩
 exact wp_loop_rounds (μ q+1) (key _ q (K9 _) S M a w z (JJ _ _ _))
def Zvj {ι:Type} (I:ι->St) (μ:ι->Nat) (i:ι) (s':St):Prop:=∃j,μ j<μ i/\Gh s' (I j)
def Gh.oToOm {b:Nat} {c:MapC} (d:s.m.o b=Hs c):Gh s (s.with { s.m with o:=upd s.m.o b Hn,om:=upd s.m.om b (Hs c) }):=λB S M a w e=>⟨S,M,e.oToOm d,JJ _ _ _⟩
def Gh.omToO {b:Nat} {c:MapC} (d:s.m.om b=Hs c) (e:∀p∈c.vs,p.clean=Ht):Gh s (s.with { s.m with o:=upd s.m.o b (Hs ⟨c.ks,c.vs.map PV.share⟩),om:=upd s.m.om b Hn }):=λB S M a w g=>⟨S,M,g.omToO d e,JJ _ _ _⟩
theorem Gh.moveRow {b j k d n sz:Nat} {e:TypeId} {c:MapC} {es:List PV} (J:s.m.om b=Hs c) (N:s.m.q k=Hs (.live n sz e)) (hd:s.m.q d=Hn) (hj:j<c.vs.length) (hv:c.vs.getD j .any= .sl (.row k) es):
  Gh s (s.with { (s.m.setq k .dead).setq d (.live n sz e)with om:=upd s.m.om b (Hs ⟨c.ks,c.vs.set j (.sl (.row d) es)⟩) }):=λB S M a w I=>by
 have F:=I.moveRow N hd;obtain⟨o1,o2,Z,⟨es',z,C,e3,e4,e5,e6⟩,lv⟩:=I.rm b c J;have V:=e6 j (by omega);rw[hv]at V;obtain⟨p1,p2,p3,⟨A,O,f2,f3,f4,f5,Y⟩,xa⟩:=F.rm b c J;have G:A=es':=by rw[z]at O;cases O;rfl
 subst G;have q:∀i,ZI s.m i->ZI ((s.m.setq k .dead).setq d (.live n sz e)) i:=λi h=>by
  cases i with
  |b i=>exact h
  |r i=>
   show upd (upd s.m.q k _) d _ i≠Hn;by_cases z:d=i;subst z;rw[Za];simp;rw[Zb _ _ z];by_cases C:k=i;subst C;rw[Za];simp;rw[Zb _ _ C];exact h
 have W:=F.reOm (om':=upd s.m.om b (Hs ⟨c.ks,c.vs.set j (.sl (.row d) es)⟩)) (λU c2 g=>by
  by_cases L:b=U;subst L;rw[Za]at g;cases g;refine⟨o1,o2,Z,⟨A,z,C,by simpa using e3,e4,e5,λi u=> ?_⟩,λp hp i u=> ?_⟩;have u:i<c.ks.length:=u;by_cases T:j=i;subst T;rw[getD_lt (l:=c.vs.set j (Qx (.row d) es)) (by rw[Ke];omega),List.getElem_set_self];have hx:∀v:Value,RepS S M s.m.q v (.sl (.row k) es)->RepS S { M with ψ:=upd M.ψ d (M.ψ k),κ:=upd M.κ d (M.κ k) } ((s.m.setq k .dead).setq d (.live n sz e)).q v (.sl (.row d) es):=λv R=>by
   have X:Rep S v (.sl .no es):=R.share (by simp[PV.clean]);refine .row d v es X λn' E e' hq=> ?_
   have y:upd (upd s.m.q k (Hs .dead)) d (Hs (.live n sz e)) d=Hs (.live n' E e'):=hq;rw[Za]at y;cases y;simp only[Za];cases R with
   |clean r=>cases r
   |row _ _ _ _ t=>exact t n sz e N
  exact hx _ V;have:=Y i u;rw[getD_lt (l:=c.vs.set j (Qx (.row d) es)) (by rw[Ke];omega),List.getElem_set_ne T];rwa[getD_lt (l:=c.vs) (by omega)]at this;rcases Kn hp with hp|rfl;exact q i (lv p hp i u);simp only[JL,Jc]at u;subst u;show upd (upd s.m.q k _) d _ d≠Hn;rw[Za];simp;rw[Zb _ _ L]at g;exact F.rm U c2 g)
 exact⟨S,_,W,JJ _ _ _⟩
end
attribute [go_sem] Zvj
open Go.RowKit
section
variable {P:Program}
abbrev Zcx (i n sz:Nat) (e:TypeId) (es:List PV):MemL:=⟨[],[(i,.vec n sz e)],[(i,es)]⟩
def ZuP {i n sz:Nat} {e:TypeId} {es:List PV} (h:∀p∈es,p.ids= []):(Zcx i n sz e es).Ok:=
 ⟨by simp,by simp,by simp,by simp,by simp,λx d c g i b=>by simp only[Jc]at d;subst d;rw[h c g]at b;cases b⟩
def Zxl {i n sz:Nat} {e:TypeId} {es:List PV}:(Zcx i n sz e es).hp.v i=Hs es:=by simp[MemL.hp,Sf,DB,upd]
def ZjQ {i n sz:Nat} {e:TypeId} {es':List PV} {m:Hp} {d:Nat} (b:∀p∈es',p.ids= []):Zbg (Zcx i n sz e es') (λ_=>d) id m= { m.setq d (.vec n sz e)with v:=upd m.v d (Hs es') }:=by
 unfold Zbg;simp only[Kk,DB,JO,Sf,Zxl,Jw,Gw b];rfl
def SU {M:KH} {g:FuncId} {args args0:List PV} {K:KR} {i n sz:Nat} {e:TypeId} {es:List PV} {r:PV} (d:Nat) (t:Eff P g args0 noV r (Zcx i n sz e es)) (c:∀p∈es,p.ids= []) (q:∀p∈args0,p.ids= [])
  (hd:M.m.q d=Hn) (u:K3 M.m args=args0) (k:K.k (r.ren (λ_=>d) id) { M.m.setq d (.vec n sz e)with v:=upd M.m.v d (Hs es) }):@V8 P Ht M (Hs (g,args)) K:=by
 refine ZbW (λ_=>d) id t ⟨by simp,by simp,by simp,by simp,λx b=> ?_,by simp,λx b y h _=> ?_⟩ (by rw[Gw q];exact u) ?_;simp only[Jc]at b;subst b;exact .inr hd;simp only[Jc]at b h;subst b h;rfl;rw[ZjQ c];exact k
def Eff.vn (vm:List Nat) {f:FuncId} {fn:Func} {c:Code} {args:List PV} {r:PV} {i n k sz:Nat} {e:TypeId} {es':List PV} {rs:List ResultVar} (t:P.funcs[f]? = Hs fn) (b:fn.name≠ "runtime.NumGoroutine") (z:fn.body=Hs c) (F:fn.ntmps=n) (g:fn.results=rs.toArray) (C:args.length<=n)
  (d:∀p∈es',p.ids= []) (u:∀p∈args,p.ids= []) (G:∀j∈r.ids,j= .r i)
  (h:@vC P ⟨c⟩ ⟨FQ P rs r noV (Zcx i k sz e es') (λ_=>0) (λ_=>Hn)⟩ ((St.init args n).vms vm)):Eff P f args noV r (Zcx i k sz e es'):=
 Eff.of_v vm t b z F g C Zov (ZuP d) (λp hp i q=>by rw[u p hp]at q;cases q) (λj E=>by rw[G j E];exact⟨_,Jc.2 rfl,rfl⟩) (by simp) (by simp) λph pq=>by
  have y:FQ P rs r noV (Zcx i k sz e es') ph pq=FQ P rs r noV (Zcx i k sz e es') (λ_=>0) (λ_=>Hn):=by
   have A:∀s,ERet P rs r noV (Zcx i k sz e es') ph pq s=ERet P rs r noV (Zcx i k sz e es') (λ_=>0) (λ_=>Hn) s:=λs=>propext ⟨λh=>⟨h.r,h.h,h.q,h.v,by simp,by simp⟩,λh=>⟨h.r,h.h,h.q,h.v,by simp,by simp⟩⟩
   funext e s;cases e<;>first|exact A s|rfl
  rw[y];exact h
def ZaW {s:St} {rs:List ResultVar} {r r0:PV} {i k sz:Nat} {e:TypeId} {es':List PV} (c:∀p∈es',p.ids= []) (h:Uc P r0 s [] rs) (hp:Pub (Zcx i k sz e es').has s.m r0 r) (d:s.m.q i=Hs (.vec k sz e)) (hv:s.m.v i=Hs es'):
  ERet P rs r noV (Zcx i k sz e es') (λ_=>0) (λ_=>Hn) s:=
 ⟨⟨r0,h,hp⟩,by simp,λx b=>by simp only[Jc]at b;subst b;exact d,λx b=>by
  simp only[Jc]at b;subst b;exact⟨es',hv,rfl,λi g=> .clean (c _ (Zc g))⟩,by simp,by simp⟩
def Zdb {s:St} {n r b:Nat} {L:List (Nat×PV)} {row:Row} {c:MapC} (e:s.n=n) (h:∀x∈L,s.fr x.1=x.2) (g:s.m.q r=Hs row) (d:s.m.o b=Hs c):HasX n L [] [(r,row)] [(b,c)] [] [] [] [] [] s:=
 ⟨⟨e,h,by simp,by simp[g]⟩,by simp[d],by simp,by simp,by simp,by simp,by simp⟩
def Zkw {L:List (Nat×PV)} {r:Nat} {row:Row} (b:∀x∈L,x.2.ids.all (ZR [] [(r,row)])=Ht):WholeX L [] [(r,row)] [] [] [] []:=
 ⟨⟨b,by simp⟩,by simp,by simp,by simp,by simp,by simp⟩
def Zer {s:St} {n d r b k sz:Nat} {e:TypeId} {L:List (Nat×PV)} {row:Row} {es:List PV} {c:MapC} (i:s.n=n) (p:∀x∈L,s.fr x.1=x.2) (h:s.m.q d=Hs (.vec k sz e)) (q:s.m.q r=Hs row) (hv:s.m.v d=Hs es) (g:s.m.o b=Hs c):HasX n L [] [(d,.vec k sz e),(r,row)] [(b,c)] [] [(d,es)] [] [] [] s:=
 ⟨⟨i,p,by simp,by simp[h,q]⟩,by simp[g],by simp,by simp[hv],by simp,by simp,by simp⟩
def ZpP {L:List (Nat×PV)} {d r n sz:Nat} {e:TypeId} {row:Row} {es:List PV} (c:∀x∈L,x.2.ids.all (ZR [] [(d,.vec n sz e),(r,row)])=Ht) (b:J3 es= []):WholeX L [] [(d,.vec n sz e),(r,row)] [(d,es)] [] [] []:=
 ⟨⟨c,by simp⟩,by simp[b],by simp,by simp,by simp,by simp⟩
def TV {s:St} {n d k sz:Nat} {e:TypeId} {L:List (Nat×PV)} {es:List PV} (b:s.n=n) (g:∀x∈L,s.fr x.1=x.2) (c:s.m.q d=Hs (.vec k sz e)) (hv:s.m.v d=Hs es):HasX n L [] [(d,.vec k sz e)] [] [] [(d,es)] [] [] [] s:=
 ⟨⟨b,g,by simp,by simp[c]⟩,by simp,by simp,by simp[hv],by simp,by simp,by simp⟩
def DG {L:List (Nat×PV)} {d n sz:Nat} {e:TypeId} {es:List PV} (c:∀x∈L,x.2.ids.all (ZR [] [(d,.vec n sz e)])=Ht) (b:J3 es= []):WholeX L [] [(d,.vec n sz e)] [(d,es)] [] [] []:=
 ⟨⟨c,by simp⟩,by simp[b],by simp,by simp,by simp,by simp⟩
end
open Go.RowKit
section
variable {P:Program}
abbrev Zmz (i n sz:Nat) (e:TypeId):MemL:=⟨[],[(i,.live n sz e)],[]⟩
def Zt6 {i n sz:Nat} {e:TypeId}:(Zmz i n sz e).Ok:=
 ⟨by simp,by simp,by simp,by simp,by simp,λx b=>by simp at b⟩
def Zro {i n sz:Nat} {e:TypeId} {m:Hp} {d:Nat}:Zbg (Zmz i n sz e) (λ_=>d) id m= { m.setq d (.live n sz e)with v:=upd m.v d Hn }:=by
 unfold Zbg;simp only[Kk,DB,JO,Sf];rfl
def Zsv {M:KH} {g:FuncId} {args args0:List PV} {K:KR} {i n sz:Nat} {e:TypeId} {r:PV} (d:Nat) (q:Eff P g args0 noV r (Zmz i n sz e)) (k:∀p∈args0,p.ids= [])
  (hd:M.m.q d=Hn) (t:K3 M.m args=args0) (h:K.k (r.ren (λ_=>d) id) { M.m.setq d (.live n sz e)with v:=upd M.m.v d Hn }):@V8 P Ht M (Hs (g,args)) K:=by
 refine ZbW (λ_=>d) id q ⟨by simp,by simp,by simp,by simp,λx b=> ?_,by simp,λx b y c _=> ?_⟩ (by rw[Gw k];exact t) ?_;simp only[Jc]at b;subst b;exact .inr hd;simp only[Jc]at b c;subst b c;rfl;rw[Zro];exact h
def Eff.rn (vm:List Nat) {f:FuncId} {fn:Func} {c:Code} {args:List PV} {r:PV} {i n k sz:Nat} {e:TypeId} {rs:List ResultVar} (q:P.funcs[f]? = Hs fn) (b:fn.name≠ "runtime.NumGoroutine") (y:fn.body=Hs c) (E:fn.ntmps=n) (d:fn.results=rs.toArray) (A:args.length<=n)
  (t:∀p∈args,p.ids= []) (F:∀j∈r.ids,j= .r i)
  (h:@vC P ⟨c⟩ ⟨FQ P rs r noV (Zmz i k sz e) (λ_=>0) (λ_=>Hn)⟩ ((St.init args n).vms vm)):Eff P f args noV r (Zmz i k sz e):=
 Eff.of_v vm q b y E d A Zov Zt6 (λp hp i g=>by rw[t p hp]at g;cases g) (λj C=>by rw[F j C];exact⟨_,Jc.2 rfl,rfl⟩) (by simp) (by simp) λph pq=>by
  have u:FQ P rs r noV (Zmz i k sz e) ph pq=FQ P rs r noV (Zmz i k sz e) (λ_=>0) (λ_=>Hn):=by
   have z:∀s,ERet P rs r noV (Zmz i k sz e) ph pq s=ERet P rs r noV (Zmz i k sz e) (λ_=>0) (λ_=>Hn) s:=λs=>propext ⟨λh=>⟨h.r,h.h,h.q,h.v,by simp,by simp⟩,λh=>⟨h.r,h.h,h.q,h.v,by simp,by simp⟩⟩
   funext e s;cases e<;>first|exact z s|rfl
  rw[u];exact h
def ZtB {s:St} {rs:List ResultVar} {r r0:PV} {i k sz:Nat} {e:TypeId} (d:Uc P r0 s [] rs) (hp:Pub (Zmz i k sz e).has s.m r0 r) (c:s.m.q i=Hs (.live k sz e)):
  ERet P rs r noV (Zmz i k sz e) (λ_=>0) (λ_=>Hn) s:=
 ⟨⟨r0,d,hp⟩,by simp,λx b=>by simp only[Jc]at b;subst b;exact c,by simp,by simp,by simp⟩
end
open Go.RowKit
open Go.RowKit
open Go.RowKit
section
variable {P:Program} {B:Frm} {S:Stable} {M:Maps} {s s' s'':St} {a:Act} {w:World} {Q:Exit->St->Prop}
theorem Sim.tellBlkU (d:Sim B S M s a w) {i:Nat} {cs cs':List PV} (R:s.m.h i=Hs cs) (U:s.m.z i=Hf) (Z:cs'.length=cs.length)
  (X:∀us t,w.heap[M.φ i]? = Hs (.cells ⟨us⟩ t (0,0))-> ∀j,j<cs.length->RepS S M s.m.q (us.getD j undef) (cs'.getD j .any)) (C:∀c∈cs',∀k∈c.ids,ZI s.m k):Sim B S M (s.with { s.m with h:=upd s.m.h i (Hs cs') }) a w:=by
 have y:∀k,(upd s.m.h i (Hs cs') k=Hn)↔s.m.h k=none:=λk=>by
  by_cases e:i=k;subst e;rw[Za,R];simp;rw[Zb _ _ e]
 have live:∀k,ZI s.m k->ZI { s.m with h:=upd s.m.h i (Hs cs') } k:=λk h=>by
  cases k with
  |b k=>exact λe=>h ((y k).1 e)
  |r k=>exact h
 have old:∀k cs2,upd s.m.h i (Hs cs') k=Hs cs2-> ∃cs3,s.m.h k=Hs cs3:=λk cs2 h=>by
  cases e:s.m.h k with
  |none=>rw[(y k).2 e]at h;cases h
  |some x=>exact⟨x,rfl⟩
 refine⟨d.defers,d.hn,d.hB,d.stable,d.fr,λj k F=>live k (d.ids j k F),λid cs2 q=> ?_,d.row,λid G c1 c2 I T=> ?_,d.injq,λid G c1 r I=> ?_,λb c C=> ?_,λid es W=> ?_,⟨λid b q=> ?_,d.pn.q⟩,d.hz⟩;have q:upd s.m.h i (Hs cs') id=Hs cs2:=q;show DJ _ _ _ _ _ _ _ (s.m.z id);by_cases e:i=id;subst e;rw[Za]at q;cases q;have g:=d.blk i cs R;rw[U]at g ⊢;obtain⟨u,z,⟨us,t,A,N,g5⟩,O⟩:=g;exact⟨u,z,⟨us,t,A,by rw[N,Z],λj hj=>X us t A j (by omega)⟩,λc L k F=>live k (C c L k F)⟩;rw[Zb _ _ e]at q;have g:=d.blk id cs2 q;cases E:s.m.z id with
 |false=>
  rw[E]at g;obtain⟨u,z,A,O⟩:=g;exact⟨u,z,A,λc C k F=>live k (O c C k F)⟩
 |true=>rw[E]at g;exact g
 obtain⟨Y,J⟩:=old _ _ I;obtain⟨c4,V⟩:=old _ _ T;exact d.inj _ _ _ _ J V;obtain⟨Y,J⟩:=old _ _ I;exact d.injx _ _ _ _ J;obtain⟨u,z,A,N⟩:=d.rm b c C;exact⟨u,z,A,N.move (JI _) rfl (λv p r _=>r) live⟩;exact(d.vc id es W).move (λ_ _ _ h=>h) rfl rfl (λ_=>rfl) (λv p r _=>r) live;obtain⟨u,z⟩:=d.pn.h id b q;exact⟨λe=>u ((y id).1 e),z⟩
def Sim.tellBlk (d:Sim B S M s a w) {i:Nat} {cs cs':List PV} (e:s.m.h i=Hs cs) (b:s.m.z i=Hf) (u:cs'.length=cs.length)
  (y:∀j v,j<cs.length->RepS S M s.m.q v (cs.getD j .any)->RepS S M s.m.q v (cs'.getD j .any)) (r:∀c∈cs',∀k∈c.ids,ZI s.m k):Sim B S M (s.with { s.m with h:=upd s.m.h i (Hs cs') }) a w:=
 d.tellBlkU e b u (λus t g j p=>by
  obtain⟨_,_,⟨z,C,q,_,A⟩,_⟩:=d.own e b;rw[g]at q;cases q;exact y j _ p (A j p)) r
def Gh.pubMap {b i:Nat} {c:MapC} (G:s.m.o b=Hs c) (A:s.m.h i=Hs [.mref b]) (O:s.m.z i=Hf):Gh s (s.with { s.m with o:=upd s.m.o b Hn,h:=upd s.m.h i (Hs [.rmap c.ks c.vs]) }):=λB S M a w p=>by
 obtain⟨Y,o2,es,L,T,V,R,Z,W⟩:=p.stable.o b c G;have F:∀vs t f,w.heap[b]? ≠ Hs (.cells vs t f):=λvs t f h=>by rw[L]at h;cases h
 let S':Stable:=⟨S.c,upd S.m b (Hs es),S.z,S.y⟩;have g:SLe S S':=⟨λ_ _ _ h=>h,λk es' h=>by
  show upd S.m b (Hs es) k=Hs es';by_cases e:b=k;subst e;rw[o2]at h;cases h;rw[Zb _ _ e];exact h,rfl,λ_ h=>h⟩
 have E:StabS S' w:=⟨p.stable.s.c,λk es' h=>by
  have h:upd S.m b (Hs es) k=Hs es':=h;by_cases e:b=k;subst e;rw[Za]at h;cases h;exact L;rw[Zb _ _ e]at h;exact p.stable.s.m k es' h,p.stable.s.y⟩
 have U:=p.growX (b:=b) F (S':=S') (w':=w) g (λ_ _ _ _=>rfl) (λ_ _ _=>rfl) (Ju _) (o':=upd s.m.o b Hn) (it':=s.m.it) ⟨E,λk d q=>by
  by_cases e:b=k;subst e;rw[Za]at q;cases q;rw[Zb _ _ e]at q;obtain⟨C,z,y⟩:=p.stable.o k d q;exact⟨C,by show upd S.m b (Hs es) k=Hn;rw[Zb _ _ e];exact z,y.move g rfl⟩,λk x X=>by
  obtain⟨C,z,y⟩:=p.stable.i k x X;exact⟨C,z,y.mono g⟩⟩ (λk d q=>by
  obtain⟨C,z,y,q4⟩:=p.rm k d q;have u:b≠k:=λe=>by subst e;rw[G]at y;cases y
  exact⟨J6 u,by rw[Zb _ _ u];exact y,by show upd S.m b (Hs es) k=Hn;rw[Zb _ _ u];exact z⟩)
 have N:=U.tellBlk (i:=i) (cs:= [.mref b]) (cs':= [.rmap c.ks c.vs]) A O rfl (λj v I J=>by
  have:j=0:=by simp at I;exact I
  subst this;simp only[List.getD_cons_zero]at J ⊢;have hv:v= .map (Hs b):=by cases J with|clean r=>cases r;rfl
  subst hv;exact .clean (.rmap b es c.ks c.vs (by show upd S.m b (Hs es) b=_;rw[Za]) T V R (λi A=>(Z i A).mono g) (λi A=>(W i A).mono g))) (by simp[JL])
 exact⟨S',M,N,g,λk q=>⟨λ_=>rfl,by show upd S.m b (Hs es) k=S.m k;rw[Zb _ _ (λe=>by subst e;exact Y q)]⟩,JS _ _⟩
def vst (n:Nat) (L:List (Nat×PV)) (H:List (Nat×List PV)) (q:Rows) (om:Nat->Option MapC):St:=
 { fr:=Yq L λ_=> .any,m:= { h:=Yq (H.map λx=>(x.1,Hs x.2)) λ_=>Hn,z:=λ_=>Hf,q:=q,o:=λ_=>Hn,it:=λ_=>Hn,om:=om,v:=λ_=>Hn,ph:=λ_=>Hn,pq:=λ_=>Hn,vm:=λ_=>Hf },n:=n }
def Zpu {α:Type} (L:List (Nat×α)) (f g:Nat->α) (h:∀x∈L,g x.1=x.2) (i:Nat):Yq L f i=f i\/Yq L f i=g i:=by
 by_cases b:(L.map (·.1)).contains i=Ht;exact .inr (Yh (R:=λi v=>v=g i) (λx c=>(h x c).symm) b);exact .inl (WC (by simpa using b))
def ZsE {n:Nat} {L:List (Nat×PV)} {H:List (Nat×List PV)} {q:Rows} {om:Nat->Option MapC} (k:s.n=n) (r:∀x∈L,s.fr x.1=x.2) (e:∀x∈H,s.m.h x.1=Hs x.2/\s.m.z x.1=Hf) (g:∀i,q i=Hn\/q i=s.m.q i) (d:∀i,om i=Hn\/om i=s.m.om i):Weak (vst n L H q om) s:=by
 refine⟨k.symm,λi=>Zpu L _ s.fr r i,λi=> ?_,g,λ_=> .inl rfl,λ_=> .inl rfl,d,λ_=> .inl rfl,λ_=> .inl rfl,λ_=> .inl rfl⟩;by_cases b:(H.map (·.1)).contains i=Ht;right;have p:((H.map λx=>(x.1,Hs x.2)).map (·.1)).contains i=true:=by simpa using b
 refine⟨Yh (R:=λi v=>v=s.m.h i) (λx h=> ?_) p,?_⟩;obtain⟨y,c,rfl⟩:=Jj.1 h;exact(e y c).1.symm;simp only[Jm,Jj]at b;obtain⟨y,c,rfl⟩:=b;exact(e y c).2.symm;left;exact WC (by simpa using b)
def ZjM (H:List (Nat×List PV)) (q:Rows):Ref->Prop
 | .b i=>∃x∈H,x.1=i
 | .r i=>q i≠Hn
theorem ZrT {n:Nat} {L:List (Nat×PV)} {H:List (Nat×List PV)} {q:Rows} {om:Nat->Option MapC} (F:∀x∈L,∀r∈x.2.ids,ZjM H q r) (C:∀x∈H,∀c∈x.2,∀r∈c.ids,ZjM H q r) (h:∀b c,om b=Hs c-> ∀p∈c.vs,∀r∈p.ids,ZjM H q r):Refs (vst n L H q om):=by
 have live:∀r,ZjM H q r->ZI (vst n L H q om).m r:=λr d=>by
  cases r with
  |b i=>
   obtain⟨x,g,rfl⟩:=d;show Yq (H.map λx=>(x.1,Hs x.2)) (λ_=>Hn) x.1≠Hn;refine Yh (R:=λi v=>v≠Hn) (λy t=> ?_) ?_;obtain⟨z,G,rfl⟩:=Jj.1 t;simp;simp only[K4,Jm,Jj];exact⟨x,g,rfl⟩
  |r i=>exact d
 refine⟨λi r d=> ?_,λi cs e c k r d=> ?_,λi es A=>(by cases A),λb c u p hp r d=>live r (h b c u p hp r d)⟩;have d:r∈(Yq L (λ_=>Qn) i).ids:=d;by_cases e:(L.map (·.1)).contains i=Ht;exact live r (Yh (R:=λi v=>∀r∈v.ids,ZjM H q r) (λx g=>F x g) e r d);rw[WC (by simpa using e)]at d;simp[JL]at d;have E:=(V7 (L:=H) e).resolve_right (by simp);exact live r (C _ E c k r d)
def ZjI {n:Nat} {L:List (Nat×PV)} {H:List (Nat×List PV)} {q:Rows} {om:Nat->Option MapC} (u:s.n=n) (y:∀x∈L,s.fr x.1=x.2) (k:∀x∈H,s.m.h x.1=Hs x.2/\s.m.z x.1=Hf) (g:∀i,q i=Hn\/q i=s.m.q i) (e:∀i,om i=Hn\/om i=s.m.om i)
  (t:∀x∈L,∀r∈x.2.ids,ZjM H q r) (h:∀x∈H,∀c∈x.2,∀r∈c.ids,ZjM H q r) (d:∀b c,om b=Hs c-> ∀p∈c.vs,∀r∈p.ids,ZjM H q r):Gh s (vst n L H q om):=
 .weak (ZsE u y k g e) (ZrT t h d)
def TD (b:Nat) (c:MapC):Nat->Option MapC:=upd (λ_=>Hn) b (Hs c)
def ZeF {b g:Nat} {c d:MapC} (h:TD b c g=Hs d):b=g/\d=c:=by
 unfold TD at h;by_cases e:b=g;subst e;rw[Za]at h;cases h;exact⟨rfl,rfl⟩;rw[Zb _ _ e]at h;cases h
theorem Zf8 {n b j kk d sz k:Nat} {e:TypeId} {c:MapC} {es:List PV} {L:List (Nat×PV)} {H:List (Nat×List PV)} {q:Rows} (h0:s.n=n) (Y:∀x∈L,s.fr x.1=x.2) (X:∀x∈H,s.m.h x.1=Hs x.2/\s.m.z x.1=Hf)
  (hb:s.m.om b=Hs c) (hj:j<c.vs.length) (hv:c.vs.getD j .any= .sl (.row kk) es) (hk:s.m.q kk=Hs (.live k sz e)) (N:kk≠d) (I:q d=Hs (.live k sz e)) (O:q kk=Hn) (hq:∀i,i≠d->i≠kk->q i=Hn\/q i=s.m.q i)
  (T:∀x∈L,∀r∈x.2.ids,ZjM H q r/\r≠ .r d) (W:∀x∈H,∀c∈x.2,∀r∈c.ids,ZjM H q r/\r≠ .r d) (J:∀i,i<c.vs.length->i≠j-> ∀r∈(c.vs.getD i .any).ids,ZjM H q r/\r≠ .r d):
  Gh s (vst n L H q (TD b ⟨c.ks,c.vs.set j (.sl (.row d) es)⟩)):=by
 let h:Rows:=λi=>if i=d then Hn else if i=kk then Hs (.live k sz e)else q i
 have F:∀r,ZjM H q r->r≠ .r d->ZjM H h r:=λr g U=>by
  cases r with
  |b i=>exact g
  |r i=>
   show h i≠Hn;have Z:i≠d:=λe=>U (by rw[e])
   simp only[h,if_neg Z];split;simp;exact g
 have g1:Gh s (vst n L H h (TD b c)):=ZjI h0 Y X (λi=>by
  by_cases A:i=d;left;simp[h,A];by_cases C:i=kk;right;subst C;simp only[h,if_neg A,if_true];exact hk.symm;simp only[h,if_neg A,if_neg C];exact hq i A C) (λi=>by
  unfold TD;by_cases e:b=i;right;subst e;rw[Za];exact hb.symm;left;exact Zb _ _ e) (λx t r g=>F r (T x t r g).1 (T x t r g).2) (λx t c u r g=>F r (W x t c u r g).1 (W x t c u r g).2) (λb' c' E p hp r g=>by
  obtain⟨rfl,rfl⟩:=ZeF E;obtain⟨i,G,rfl⟩:=JT hp;by_cases e:i=j;subst e;rw[getD_lt G]at hv;rw[hv]at g;simp only[JL,Jc]at g;subst g;show h kk≠Hn;simp[h,N];have:=J i G e r (by rw[getD_lt G];exact g);exact F r this.1 this.2)
 have g2:=Gh.moveRow (s:=vst n L H h (TD b c)) (b:=b) (j:=j) (k:=kk) (d:=d) (n:=k) (sz:=sz) (e:=e) (c:=c) (es:=es) (by show TD b c b=_;unfold TD;rw[Za]) (by show h kk=_;simp[h,N]) (by show h d=_;simp[h]) hj hv;refine(g1.trans g2).trans (ZjI rfl (λx t=> ?_) (λx t=> ?_) (λi=> ?_) (λi=> ?_) (λx t r g=>(T x t r g).1) (λx t c u r g=>(W x t c u r g).1) (λb' c' E p hp r g=> ?_));have u:(L.map (·.1)).contains x.1=true:=by simp only[Jm,Jj];exact⟨x,t,rfl⟩
 have:=Yh (f:=λ_=>Qn) (R:=λi v=>v=s.fr i) (λy V=>(Y y V).symm) u;show Yq L (λ_=>Qn) x.1=x.2;rw[this,Y x t];refine⟨?_,rfl⟩;have u:((H.map λx=>(x.1,Hs x.2)).map (·.1)).contains x.1=true:=by simp only[K4,Jm,Jj];exact⟨x,t,rfl⟩
 have:=Yh (f:=λ_=>Hn) (R:=λi v=>v=s.m.h i) (λy V=>by obtain⟨z,hz,rfl⟩:=Jj.1 V;exact(X z hz).1.symm) u;show Yq (H.map λx=>(x.1,Hs x.2)) (λ_=>Hn) x.1=Hs x.2;rw[this,(X x t).1];by_cases C:kk=i;left;rw[<-C];exact O;right;show q i=upd (upd h kk (Hs .dead)) d (Hs (.live k sz e)) i;by_cases A:d=i;subst A;rw[Za];exact I;rw[Zb _ _ A,Zb _ _ C];simp only[h,if_neg (J6 A),if_neg (J6 C)];right;show TD b _ i=upd (TD b c) b _ i;unfold TD;by_cases e:b=i;subst e;rw[Za,Za];rw[Zb _ _ e,Zb _ _ e,Zb _ _ e];obtain⟨rfl,rfl⟩:=ZeF E;obtain⟨i,G,rfl⟩:=JT hp;simp only[Ke]at G;simp only[List.getElem_set]at g;by_cases e:j=i;rw[if_pos e]at g;simp only[JL,Jc]at g;subst g;show q d≠Hn;rw[I];simp;rw[if_neg e]at g;exact(J i G (J6 e) r (by rw[getD_lt G];exact g)).1
def Zuz {c:Code} {ι:Type} (I:ι->St) (μ:ι->Nat) (d:ι) (e:Gh s (I d)) (round:∀i,∃b,Gh (I i) b/\ @vC P ⟨c⟩ ⟨Xq (Zvj I μ i) Q⟩ b):awp P (.loop c) Q s:=
 ZhS I μ d e λi=>by
  obtain⟨b,g,h⟩:=round i;exact Zm9 g (Z4 _ _ _ h)
def SN (b:Nat) (c:MapC):TD b c b=Hs c:=Za _ _ _
end
open Go.RowKit Srt
open Srt
open Go.RowKit
open Go.RowKit
open Go.RowKit
open Go.RowKit
open Go.RowKit
open Go.RowKit
section
variable {P:Program} {ops:Array Oper}
def Zht (P:Program) (ops:Array Oper) (K:St->Prop) (fuel:Nat) (b:Array Bool) (s:St):Prop:=
 ∀(B:Frm) (Qc:Exit->Act->World->Prop) (S0:Stable) (w0:World),(∀s' S' d c w',K s'->Sim B S' d s' c w'->Ext B S0 S' w0 w'->Qc .normal c w')-> ∀S M a w,Sim B S M s a w->Ext B S0 S w0 w->wpAny P .any ops Qc fuel b a w
theorem ZsD {K:St->Prop} {b:Array Bool} {s:St}:∀ {fuel:Nat},Jh .any ops b= []->K s->Zht P ops K fuel b s
 |0,hr,h=>λB Qc S0 w0 e S M a w c d=>⟨hr,e s S M a w h c d⟩
 |fuel+1,hr,h=>λB Qc S0 w0 e S M a w c d=>⟨λ_=>e s S M a w h c d,λi g=>by rw[hr]at g;cases g⟩
def ZpL {K K':St->Prop} {fuel:Nat} {b:Array Bool} {s:St} (is:List Nat) (E:Jh .any ops b=is) (p:is≠ [])
  (h:∀i∈is,∃o l K',ops[i]? = Hs o/\Ze5 P ops K' (o::l) s/\ ∀s',Ze5 P ops K' l s'->Zht P ops K fuel (b.setIfInBounds i Ht) s'):Zht P ops K (fuel+1) b s:=
 λB Qc S0 w0 A S M a w g y=>⟨λI=>absurd (E.symm.trans I) p,λi C=>by
  rw[E]at C;obtain⟨o,l,K',F,⟨hd,h⟩,q⟩:=h i C;unfold wpOp;simp only[F];rcases h with ⟨k,⟨v,m',z,c⟩|t⟩|⟨k,c⟩;rw[Te g k,if_pos rfl];exact .inl (X8 g (YD hd) z _ _ λu w' S' r e d=>q _ c B Qc S0 w0 A S' r _ w' e (y.trans d));rw[Te g k,if_pos rfl];exact .inl (U0 g (YD hd) t _ _ λs' u w' S' r G e d=>q _ G B Qc S0 w0 A S' r _ w' e (y.trans d));rw[Te g k,if_neg (by simp)];exact q _ c B Qc S0 w0 A S M _ w (Tp g hd) y⟩
def ZjF (ops:Array Oper):List Nat->Array Bool->Bool
 | [],_=>Ht
 |i::L,listed=>(Jh .any ops listed== [i])&&ZjF ops L (listed.setIfInBounds i Ht)
def XC (b:Array Bool) (L:List Nat):Array Bool:=L.foldl (λa i=>a.setIfInBounds i Ht) b
theorem Zkv {K:St->Prop} {fuel:Nat}:∀(L:List Nat) (l:List Oper) (b:Array Bool) (s:St),ZjF ops L b=Ht->L.map (λi=>ops[i]?)=l.map Hs->Ze5 P ops (Zht P ops K fuel (XC b L)) l s->Zht P ops K (fuel+L.length) b s
 | [],[],b,s,_,_,h=>h
 | [],_::_,_,_,_,h,_=>by simp at h
 |_::_,[],_,_,_,h,_=>by simp at h
 |i::L,o::l,b,s,hf,hm,h=>by
  simp only[ZjF,Ja,beq_iff_eq]at hf;simp only[JO,Qm.injEq]at hm;refine ZpL (K':=K) [i] hf.1 (by simp) λj c=> ?_
  rw[Jc.1 c];exact⟨o,l,_,hm.1,h,λs' d=>Zkv L l _ s' hf.2 hm.2 d⟩
def Zm5 {id:Nat} {Q:Exit->St->Prop} {s:St} (r:P.follows .mixedOrders=Ht) (h:Zht P ops (Q .normal) ops.size (Je ops.size Hf) s):awp P (.region id ops Ht) Q s:=λB S M a w p=>by
 refine wp_region_any r ?_;have q:Ext B S S w { w with drawn:=w.drawn+1 }:=⟨JI _,λ_ _=>⟨λ_=>rfl,rfl⟩,(JS B w).drew⟩;have c:Sim B S M s a { w with drawn:=w.drawn+1 }:=p.world rfl;have:=h B (λe d w'=>∃s' S' b,Q e s'/\Sim B S' b s' d w'/\Ext B S S' w w') S w (λs' S' b d w' i g k=>⟨s',S',b,i,g,k⟩) S M a _ c q;simpa using this
def Zsp (P:Program) (D:List Nat) [K:KS] [G:LST] (s:St):Prop:=Zht P G.l.toArray K.k (G.l.length-D.length) (XC (Je G.l.length Hf) D) s
end
end Go.PL
namespace Go.PL
open Go.RowKit
open Go.RowKit
section
variable {P:Program} {l n:Nat}
theorem ZoK {o:Oper} {a:Act} {w:World} {next:Act->World->Prop} {Q:Exit->Act->World->Prop} (hd:∀c,o.op≠ .defer c) (h:o.wp P a w next Q):o.wpIn (Fence.wide.inRound l) n P a w next Q:=by
 refine⟨λf _=>trivial,?_⟩;rw[show(Fence.wide.inRound l).round=Hs l from rfl,Oper.semAt_some l _ _ hd];unfold Oper.wp at h;generalize (execOp a.eval o).run P w=r at h ⊢;cases r with
 |ok x w'=>
  cases x with
  |enter f args=>exact⟨λd=>absurd (show Hf=Ht from d) (by decide),CallsIn.inRound l (callsIn_wide.2 h)⟩
  |row row args=>
   refine⟨λd=>absurd (show Hf=Ht from d) (by decide),λc cs _=> ?_⟩;obtain⟨v,b,r,s⟩:=h c cs;exact⟨v,b,r,stepsIn_wide.2 s⟩
  |_=>first|exact h|exact False.elim h
 |halt x w'=>cases x<;>exact h
def Fu (l n:Nat) (P:Program) (c:Code) (Q:Exit->St->Prop) (s:St):Prop:=
 ∀B S M a w,Sim B S M s a w->c.wpIn (Fence.wide.inRound l) n P (λe d w'=>∃s' S' b,Q e s'/\Sim B S' b s' d w'/\Ext B S S' w w') a w
theorem Th {B:Frm} {ops:Array Oper} {K:St->Prop} {Qc:Exit->Act->World->Prop} {S0:Stable} {w0:World} (t:∀s' S' q E w',K s'->Sim B S' q s' E w'->Ext B S0 S' w0 w'->Qc .normal E w') (d:∀(i:Nat) (o:Oper),ops[i]? = Hs o-> ∀c,o.op≠ .defer c):
  ∀(y:List Oper) (k:Nat) (s:St),(∀j,y[j]? = ops[k+j]?)->Ze5 P ops K y s-> ∀S M a w,Sim B S M s a w->Ext B S0 S w0 w->wpOpsIn (Fence.wide.inRound l) n P ops Qc (Jr k y.length) a w
 | [],k,s,_,h,S,M,a,w,hs,he=>t s S M a w h hs he
 |o::rest,k,s,hl,h,S,M,a,w,hs,he=>by
  have A:ops[k]? = Hs o:=by simpa using(hl 0).symm
  have e:∀j,rest[j]? = ops[(k+1)+j]? :=λj=>by have:=hl (j+1);simpa[Kq,KC 1 j]using this
  obtain⟨hd,h⟩:=h;simp only[JP,Kx,wpOpsIn,A];rcases h with ⟨r,⟨v,m',C,b⟩|z⟩|⟨r,b⟩;rw[Te hs r,if_pos rfl];exact ZoK (d _ _ A) (X8 hs (YD hd) C _ _ λu w' S' q p g=>Th t d rest (k+1) _ e b S' q _ w' p (he.trans g));rw[Te hs r,if_pos rfl];exact ZoK (d _ _ A) (U0 hs (YD hd) z _ _ λs' u w' S' q F p g=>Th t d rest (k+1) s' e F S' q _ w' p (he.trans g));rw[Te hs r,if_neg (by simp)];exact⟨λ_ _=>trivial,Th t d rest (k+1) _ e b S M _ w (Tp hs hd) he⟩
def Fb (ops:Array Oper):Bool:=ops.toList.all λo=>match o.op with| .defer _=>Hf|_=>Ht
def Zgp {ops:Array Oper} (h:Fb ops=Ht):∀(i:Nat) (o:Oper),ops[i]? = Hs o-> ∀c,o.op≠ .defer c:=λi o b c e=>by
 unfold Fb at h;rw[Jg]at h;have:=h o (Array.mem_toList_iff.2 (Array.mem_of_getElem? b));rw[e]at this;cases this
variable {s:St} {Q Q':Exit->St->Prop}
def Zfy {c:Code} (h:∀e s,Q e s->Q' e s) (b:Fu l n P c Q s):Fu l n P c Q' s:=λB S M a w d=>
 wpIn_mono (b B S M a w d) λe g w' ⟨s',S',M',h1,h2,h3⟩=>⟨s',S',M',h _ _ h1,h2,h3⟩
def ZhR {id:Nat} {ops:Array Oper} (hd:Fb ops=Ht) (h:Ze5 P ops (Q .normal) ops.toList s):Fu l n P (.region id ops Hf) Q s:=λB S M a w k=>by
 refine wpIn_region ?_;have:=Th (l:=l) (n:=n) (B:=B) (S0:=S) (w0:=w) (Qc:=λe c w'=>∃s' S' b,Q e s'/\Sim B S' b s' c w'/\Ext B S S' w w') (λs' S' b c w' g d i=>⟨s',S',b,g,d,i⟩) (Zgp hd) ops.toList 0 s (by simp) h S M a w k (JJ _ _ _);rw[<-Ka]at this;simpa using this
def Zm4 (h:Q .normal s):Fu l n P .skip Q s:=λB S M a w b=>wpIn_skip ⟨s,S,M,h,b,JJ _ _ _⟩
def Zm2 {id:Nat} (h:Q (.exit id) s):Fu l n P (.exit id) Q s:=λB S M a w b=>wpIn_exit ⟨s,S,M,h,b,JJ _ _ _⟩
def Zm3 {t:Nat} (h:Q (.goto t) s):Fu l n P (.goto t) Q s:=λB S M a w b=>wpIn_goto ⟨s,S,M,h,b,JJ _ _ _⟩
def ZqF (h:Q .ret s):Fu l n P .ret Q s:=λB S M a w b=>wpIn_ret ⟨s,S,M,h,b,JJ _ _ _⟩
theorem ZqG {x y:Code} (h:Fu l n P x (Xq (Fu l n P y Q) Q) s):Fu l n P (.seq x y) Q s:=λB S M a w q=>by
 refine wpIn_seq (wpIn_mono (h B S M a w q) λe A w' u=> ?_);obtain⟨s',S',p,i,g,k⟩:=u;cases e with
 |normal=>
  refine wpIn_mono (i B S' p A w' g) λe t r d=> ?_
  obtain⟨s'',c,b,z,E,C⟩:=d;exact⟨s'',c,b,z,E,k.trans C⟩
 |_=>exact⟨s',S',p,i,g,k⟩
def Zm1 {c:Operand} {x y:Code} {b:Bool} (g:s.eval c= .bool b) (h:Fu l n P (if b then x else y) Q s):Fu l n P (.cond c x y) Q s:=λB S M a w e=>by
 have d:=e.eval c;rw[g]at d;exact wpIn_cond d.bool_inv (h B S M a w e)
theorem Zk2 {id:Nat} {c:Code} (h:Fu l n P c (Ty id Q) s):Fu l n P (.block id c) Q s:=λB S M a w p=>by
 refine wpIn_block (wpIn_mono (h B S M a w p) λe r w' q=> ?_);obtain⟨s',S',i,b,d,g⟩:=q;cases e with
 |exit j=>
  simp only[Exit.inBlock,Ty]at b ⊢;split at b
  ·rename_i k;simp only[k,if_true];exact⟨s',S',i,b,d,g⟩
  ·rename_i k;simp only[k,if_false];exact⟨s',S',i,b,d,g⟩
 |_=>exact⟨s',S',i,b,d,g⟩
def vcR (l n:Nat) (P:Program):Code->(Exit->St->Prop)->St->Prop
 | .skip,Q,s=>Q .normal s
 | .ret,Q,s=>Q .ret s
 | .exit id,Q,s=>Q (.exit id) s
 | .goto t,Q,s=>Q (.goto t) s
 | .seq x y,Q,s=>vcR l n P x (Xq (vcR l n P y Q) Q) s
 | .cond c x y,Q,s=>DF (s.eval c) (vcR l n P x Q s) (vcR l n P y Q s)
 | .block id c,Q,s=>vcR l n P c (Ty id Q) s
 | .region _ ops Hf,Q,s=>Fb ops=Ht/\vcA P Ht ops (Q .normal) ops.toList s
 |c,Q,s=>Fu l n P c Q s
theorem U2:∀(c:Code) (Q:Exit->St->Prop) (s:St),vcR l n P c Q s->Fu l n P c Q s
 | .skip,Q,s,h=>Zm4 h
 | .label _,Q,s,h=>h
 | .ret,Q,s,h=>ZqF h
 | .exit id,Q,s,h=>Zm2 h
 | .goto l,Q,s,h=>Zm3 h
 | .seq x y,Q,s,h=>ZqG (Zfy (λe s' d=>by
   cases e with
   |normal=>exact U2 y Q s' d
   |_=>exact d) (U2 x _ s h))
 | .cond c x y,Q,s,h=>by
  unfold vcR DF at h;split at h;rename_i b g;refine Zm1 g ?_;cases b;exact U2 y Q s (h.2 rfl);exact U2 x Q s (h.1 rfl);exact h.elim
 | .block id c,Q,s,h=>Zk2 (U2 c _ s h)
 | .region _ ops Hf,Q,s,h=>ZhR h.1 (Vv _ _ h.2)
 | .region _ ops Ht,Q,s,h=>h
 | .loop c,Q,s,h=>h
 | .rangeFunc ..,Q,s,h=>h
 | .scope c,Q,s,h=>h
 | .refuse _,Q,s,h=>h
end
def vR (l n:Nat) (P:Program) [C:COD] [Q:QS] (s:St):Prop:=vcR l n P C.c Q.q s
section
variable {P:Program} {l n:Nat}
def ZaG {c:Code} {Q:Exit->St->Prop} {s:St} (h:@vR l n P ⟨c⟩ ⟨Q⟩ s):Fu l n P c Q s:=U2 c Q s h
theorem ZuG (Q:QS) (s:St):@vR l n P ⟨.skip⟩ Q s= @vQ Q .normal s:=rfl
theorem Zxc (Q:QS) (s:St):@vR l n P ⟨.ret⟩ Q s= @vQ Q .ret s:=rfl
theorem ZuD (id:Nat) (Q:QS) (s:St):@vR l n P ⟨.exit id⟩ Q s= @vQ Q (.exit id) s:=rfl
theorem ZuE (t:Nat) (Q:QS) (s:St):@vR l n P ⟨.goto t⟩ Q s= @vQ Q (.goto t) s:=rfl
theorem Zxd (x y:Code) (Q:QS) (s:St):@vR l n P ⟨.seq x y⟩ Q s= @vR l n P ⟨x⟩ ⟨Xq (@vR l n P ⟨y⟩ Q) Q.q⟩ s:=rfl
theorem ZuB (c:Operand) (x y:Code) (Q:QS) (s:St):@vR l n P ⟨.cond c x y⟩ Q s= @Zhk (s.eval c) ⟨@vR l n P ⟨x⟩ Q s⟩ ⟨@vR l n P ⟨y⟩ Q s⟩:=rfl
theorem Zsy (id:Nat) (c:Code) (Q:QS) (s:St):@vR l n P ⟨.block id c⟩ Q s= @vR l n P ⟨c⟩ ⟨Ty id Q.q⟩ s:=rfl
theorem ZpC (id:Nat) (b:List Oper) (Q:QS) (s:St):@vR l n P ⟨.region id b.toArray Hf⟩ Q s=(Fb b.toArray=Ht/\ @vA P Ht ⟨@vQ Q .normal⟩ ⟨b⟩ ⟨b⟩ s):=rfl
theorem ZuC (id:Nat) (b:Array Oper) (Q:QS) (s:St):@vR l n P ⟨.region id b Ht⟩ Q s=Fu l n P (.region id b Ht) Q.q s:=rfl
end
attribute [go_sem] ZuG Zxc ZuD ZuE Zxd ZuB Zsy ZpC ZuC Fb
open Go.RowKit
section
variable {P:Program} {B:Frm} {S:Stable} {M:Maps} {s:St} {a:Act} {w:World}
def ZqN {l k:Nat} {o:Obj} (c:w.heap[l]? = Hs o) (b:o.isCells=Hf):w.cell? ⟨l,k,Hn⟩=none:=by
 unfold Qr;cases o<;>simp_all[Obj.isCells]
def Sim.turn (i:Sim B S M s a w) {l:Nat} {o o':Obj} (y:w.heap[l]? = Hs o) (u:o.isCells=Hf) (C:S.m l=Hn) (A:s.m.o l=Hn) (E:s.m.it l=Hn) (G:s.m.om l=Hn):Sim B S M s a (w.putObj l o'):=by
 have q:∀k,k≠l->(w.putObj l o').heap[k]? = w.heap[k]? :=λk p=>JA p
 have z:Stab B S (w.putObj l o') s.m.o s.m.it:=i.stable.move (JI S) (λb c g=>(i.stable.o b c g).2.1) ⟨λb k v hv=>by
  have h:=i.stable b k v hv;have g:b≠l:=λe=>by subst e;rw[ZqN y u]at h;cases h
  rw[<-h];exact J8 (q b g),λb es g=>by
  rw[q b (λe=>by subst e;rw[C]at g;cases g)];exact i.stable.s.m b es g,λb g=>by
  obtain⟨vs,t,e⟩:=i.stable.s.y b g;exact⟨vs,t,by rw[q b (λF=>by subst F;rw[y]at e;cases e;cases u)];exact e⟩⟩ (λb c g=>q b (λe=>by subst e;rw[A]at g;cases g)) (λb x g=>q b (λe=>by subst e;rw[E]at g;cases g))
 exact i.growX (b:=l) (λvs t f e=>by rw[y]at e;cases e;cases u) (JI S) (λk p r o=>rfl) (λk p r=>q k r) (by simp) z (λk d p=>⟨(λe=>by subst e;rw[G]at p;cases p),(i.rm k d p).2.2.1,(i.rm k d p).2.1⟩)
def Sim.lay (c:Sim B S M s a w) (o:Obj):Sim B S M s a (w.alloc o):=
 c.grow (JI S) (λ_ _=>⟨λ_=>rfl,rfl⟩) (c.stable.s.old λk b=>ZU w o b) (λk b=>ZU w o b) (by simp)
end
open Go.RowKit
def Zx8 {β:Type} (J:β->World->Prop):Prop:=∀s W,J s W->(∀o,J s (W.alloc o))/\J s { W with drawn:=W.drawn+1 }
def ZAU {α:Type} (n:Nat) (P:Program) (g:Nat) (c:Array Value) (encs:α->Array Value) (Kp:World->World->Prop) (S Sp:List α->Prop) (N:Nat) (w:World):Prop:=
 ∀(l:Nat) (J Jx:List α->World->Prop) (W:World),Below w.heap.size w W->Zx8 J->Zx8 Jx->
  (∀pre x W1,J pre W1->pre.length<N->YieldAt Fence.wide (n-1) P l (encs x) W1 λe b=>
   (e= .returned (.bool Ht)/\J (pre++ [x]) b/\Kp W1 b)\/(e= .returned (.bool Hf)/\Jx (pre++ [x]) b))->
  J [] W->
  CallsIn Fence.wide n P g (#[.func (.yield l) #[] #[]]++c) W λe b=>(∃v,e= .returned v)/\((∃xs,S xs/\J xs b)\/(∃pre,Sp pre/\Jx pre b))
section
variable {P:Program}
def ZmC (P:Program) (d:FuncId) (caps:List PV) {A:Type} (xs:List A) (enc:A->List PV) (b:Nat):Prop:=
 WS P d/\ ∀(m:Nat) (S:Stable) (w:World) (c:Array Value),StabS S w->c.size=caps.length->(∀i,i<caps.length->Rep S (c.getD i undef) (caps.getD i .any))->
  ∃encs:Fin xs.length->Array Value,(∀k,(encs k).size=b/\(enc xs[k]).length=b/\ ∀i,i<b->Rep S ((encs k).getD i undef) ((enc xs[k]).getD i .any))/\
   ZAU (m+1) P d c encs (λW e=>StabS S W->StabS S e) (λks=>ks=Kr xs.length) (λpre=>pre <+:Kr xs.length) xs.length w
def Book (w:World) (k:Nat):Prop:=(∃r,w.heap[k]? = Hs (.loop r))\/ ∃d,w.heap[k]? = Hs (.deferred d)
def Book.obj {w:World} {k:Nat} (h:Book w k):∃o,w.heap[k]? = Hs o/\o.isCells=Hf/\(∀es n,o≠ .map es n)/\ ∀b n s m,o≠ .mapIter b n s m:=by
 rcases h with ⟨r,h⟩|⟨d,h⟩;exact⟨_,h,rfl,(λ_ _ e=>by cases e),(λ_ _ _ _ e=>by cases e)⟩;exact⟨_,h,rfl,(λ_ _ e=>by cases e),(λ_ _ _ _ e=>by cases e)⟩
def Book.no_cells {w:World} {k:Nat} (h:Book w k) {vs:Array Value} {t:TypeId} {f:Nat×Nat}:w.heap[k]? ≠ Hs (.cells vs t f):=λe=>by
 obtain⟨o,c,b,_⟩:=h.obj;rw[c]at e;cases e;cases b
def Book.no_map {w:World} {k:Nat} (h:Book w k) {es:Array MapEntry} {n:Nat}:w.heap[k]? ≠ Hs (.map es n):=λe=>by
 obtain⟨o,c,_,b,_⟩:=h.obj;rw[c]at e;cases e;exact b _ _ rfl
def Book.lt {w:World} {k:Nat} (h:Book w k):k<w.heap.size:=by
 obtain⟨o,b,_⟩:=h.obj;exact(Jb.1 b).1
variable {B:Frm} {S:Stable} {M:Maps} {s s':St} {a:Act} {w:World}
theorem Sim.widen (d:Sim B S M s a w) {B':Frm} (L:∀k,B' k->B k\/Book w k) (hzz:∀k,¬B' k->S.z k):Sim B' S M s a w:=by
 have y:∀ {k},¬B k-> ¬Book w k-> ¬B' k:=λh W i=>(L _ i).elim h W
 refine⟨d.defers,d.hn,λk N=>(L k N).elim (d.hB k) Book.lt,⟨d.stable.s,λb c q=> ?_,λb x U=> ?_⟩,d.fr,d.ids,λid cs q=> ?_,λid r R=> ?_,d.inj,d.injq,d.injx,λb c q=> ?_,d.vc,d.pn,hzz⟩;obtain⟨p,g,u⟩:=d.stable.o b c q;refine⟨y p λi=> ?_,g,u⟩;obtain⟨es,h,_⟩:=u;exact i.no_map h;obtain⟨p,g,u⟩:=d.stable.i b x U;refine⟨y p λi=> ?_,g,u⟩;obtain⟨o,T,_,_,O⟩:=i.obj;unfold IterAt at g;rw[T]at g;cases g;exact O _ _ _ _ rfl;have h:=d.blk id cs q;cases J:s.m.z id with
 |true=>rw[J]at h;exact h
 |false=>
  rw[J]at h;obtain⟨p,g,⟨vs,t,u,A⟩,V⟩:=h;exact⟨y p λi=>i.no_cells u,g,⟨vs,t,u,A⟩,V⟩
 have h:=d.row id r R;cases r with
 |dead=>trivial
 |live n sz e=>
  obtain⟨p,g⟩:=h;refine⟨p,λc q=> ?_⟩;obtain⟨C,I,E,⟨vs,z,F⟩,G⟩:=g c q;exact⟨C,I,y E λi=>i.no_cells z,⟨vs,z,F⟩,G⟩
 |vec n sz e=>
  obtain⟨p,g⟩:=h;refine⟨p,λc q=> ?_⟩;obtain⟨C,I,E,⟨vs,z,F⟩,G⟩:=g c q;exact⟨C,I,y E λi=>i.no_cells z,⟨vs,z,F⟩,G⟩
 obtain⟨p,g,u,A⟩:=d.rm b c q;refine⟨y p λi=> ?_,g,u,A⟩;obtain⟨⟨es,h,_⟩,_⟩:=A;exact i.no_map h
theorem Sim.book (b:Sim B S M s a w) {l:Nat} (d:Book w l) (o':Obj):Sim B S M s a (w.putObj l o'):=by
 obtain⟨o,g,i,p,k⟩:=d.obj;refine b.turn g i ?_ ?_ ?_ ?_;cases e:S.m l with
 |none=>rfl
 |some es=>exact absurd (b.stable.s.m l es e) d.no_map
 cases e:s.m.o l with
 |none=>rfl
 |some c=>obtain⟨_,_,es,h,_⟩:=b.stable.o l c e;exact absurd h d.no_map
 cases e:s.m.it l with
 |none=>rfl
 |some x=>
  obtain⟨_,h,_⟩:=b.stable.i l x e;unfold IterAt at h;rw[g]at h;cases h;exact absurd rfl (k _ _ _ _)
 cases e:s.m.om l with
 |none=>rfl
 |some c=>obtain⟨_,_,_,⟨es,h,_⟩,_⟩:=b.rm l c e;exact absurd h d.no_map
def StabS.below {S S':Stable} {w:World} (h:StabS S' w) (c:SLe S S'):StabS S w:=⟨λb o v hv=>h.c b o v (c _ _ _ hv),λb es d=>h.m b es (c.m _ _ d),λb e=>h.y b (c.y b e)⟩
def Sim.reslot (b:Sim B S M s a w) {c:Act} {f:Nat->PV} {n:Nat} (hd:c.defers= []) (d:c.tmps.size=n) (fr:∀i,RepS S M s.m.q (c.tmps.getD i undef) (f i)) (ids:∀i r,r∈(f i).ids->ZI s.m r):Sim B S M ⟨f,s.m,n⟩ c w:=
 ⟨hd,d,b.hB,b.stable,fr,ids,b.blk,b.row,b.inj,b.injq,b.injx,b.rm,b.vc,b.pn,b.hz⟩
def putL (s:St):List (Nat×PV)->St
 | []=>s
 |x::l=>putL (s.put (Hs x.1) x.2) l
theorem Sim.putL:∀(l:List (Nat×PV)) (vs:List Value) {s:St} {a:Act},Sim B S M s a w->vs.length=l.length->(∀x∈l,x.1<s.n)->(∀x∈l,x.2.ids= [])->(∀i,i<l.length->Rep S (vs.getD i undef) (l.getD i (0,.any)).2)->
  Sim B S M (putL s l) { tmps:=((l.map (·.1)).zip vs).foldl (λt x=>t.setIfInBounds x.1 x.2) a.tmps,defers:= [] } w
 | [],vs,s,a,hs,_,_,_,_=>by
  have:a= { tmps:=a.tmps,defers:= [] }:=by rw[<-hs.defers]
  simp only[PL.putL,Kk,List.zip_nil_left,List.foldl_nil];rw[<-this];exact hs
 |x::l,[],s,a,hs,h,_,_,_=>by simp at h
 |x::l,v::vs,s,a,hs,hl,hn,c,hr=>by
  have q:=hs.put (d:=Hs x.1) (v:=v) (p:=x.2) (λy e=>by cases e;exact hn x (by simp)) (.clean (hr 0 (by simp))) (λr b=>by rw[c x (by simp)]at b;cases b);have k:=Sim.putL l vs q (by simpa using hl) (λy g=>hn y (by simp[g])) (λy g=>c y (by simp[g])) (λi c=>hr (i+1) (by simpa using c));exact k
structure MemT where
 H:List (Nat×List PV×Bool)
 R:List (Nat×Row)
 V:List (Nat×List PV)
abbrev mkT (n:Nat) (L:List (Nat×PV)) (m:MemT) (p:List (Nat×Nat)):St:=mkStX n L m.H m.R [] [] m.V [] p [] []
abbrev HasT (n:Nat) (L:List (Nat×PV)) (m:MemT) (p:List (Nat×Nat)) (s:St):Prop:=HasX n L m.H m.R [] [] m.V [] p [] s
abbrev WholeT (L:List (Nat×PV)) (m:MemT) (p:List (Nat×Nat)):Prop:=WholeX L m.H m.R m.V [] p []
def Zs3 (n:Nat) (m mx:MemT) (Y X:Prop) (p:List (Nat×Nat)):Exit->St->Prop
 | .normal,s=>Y/\HasT n [] m p s
 | .ret,s=>X/\HasT n [] mx p s
 |_,_=>False
def T6 (pin:List Nat) (φ:Nat->Nat):List (Nat×Nat):=pin.map λi=>(i,φ i)
def Ext.mono {B B':Frm} {S S':Stable} {w w':World} (h:Ext B' S S' w w') (d:∀k,B k->B' k):Ext B S S' w w':=⟨h.1,λb c=>h.2.1 b (d b c),h.2.2.mono d⟩
def Zes {cs:List PV} (h:J3 cs= []) {i:Nat} (b:i<cs.length):(cs.getD i .any).ids= []:=by
 refine JE.2 λr c=> ?_
 have:r∈J3 cs:=J7.2 ⟨_,Zc b,c⟩;rw[h]at this;cases this
theorem RepS.rep0 {S:Stable} {M:Maps} {q:Rows} {v:Value} {p:PV} (r:RepS S M q v p) (h:p.ids= []):Rep S v p:=by
 induction r with
 |clean r=>exact r
 |ptr id off=>simp[JL]at h
 |osl id off len cap sz hc=>simp[JL]at h
 |row id v es r t=>simp[JL]at h
 |vsl id len sz v hv t=>simp[JL]at h
 |vptr id n sz i off v hv b t=>simp[JL]at h
 |agg vs cs hl _ ih=>exact .agg vs cs hl λi b=>ih i b (Zes (by simpa[JL]using h) b)
 |tup vs cs hl _ ih=>exact .tup vs cs hl λi b=>ih i b (Zes (by simpa[JL]using h) b)
 |fn f vs cs hl _ ih=>exact .fn f vs cs hl λi b=>ih i b (Zes (by simpa[JL]using h) b)
def ZpV {ps:Array Nat} {vs:Array Value} (t:Array Value):(ps.zip vs).foldl (λt (p,v)=>t.setIfInBounds p v) t=(ps.toList.zip vs.toList).foldl (λt x=>t.setIfInBounds x.1 x.2) t:=by
 rw[<-Array.foldl_toList,Array.toList_zip]
theorem Zj5 {pin:List Nat} {φ:Nat->Nat} {i:Nat} (h:i∈pin) (f:Nat->Option Nat):Yq ((T6 pin φ).map λx=>(x.1,Hs x.2)) f i=Hs (φ i):=by
 induction pin with
 |nil=>cases h
 |cons j pin ih=>
  show upd (Yq ((T6 pin φ).map λx=>(x.1,Hs x.2)) f) j (Hs (φ j)) i=Hs (φ i);by_cases e:j=i;subst e;rw[Za];rw[Zb _ _ e];exact ih ((JC.1 h).resolve_left λb=>e b.symm)
theorem Sim.pin (d:Sim B S M s a w) {pin:List Nat} (hp:∀i∈pin,s.m.h i≠Hn):Sim B S M { s with m:= { s.m with ph:=Yq ((T6 pin M.φ).map λx=>(x.1,Hs x.2)) λ_=>Hn } } a w:=by
 refine⟨d.defers,d.hn,d.hB,d.stable,d.fr,(λi r L=>by have:=d.ids i r L;cases r<;>exact this),(λid cs k=> ?_),d.row,d.inj,d.injq,d.injx,(λb c k=> ?_),(λid es F=> ?_),⟨(λid b C=> ?_),d.pn.q⟩,d.hz⟩;have:=d.blk id cs k;cases z:s.m.z id with
 |true=>rw[z]at this;exact this
 |false=>
  rw[z]at this;obtain⟨t,q,y,u⟩:=this;exact⟨t,q,y,λc k i g=>by have:=u c k i g;cases i<;>exact this⟩
 obtain⟨t,q,y,u,E⟩:=d.rm b c k;exact⟨t,q,y,u,λp hp i g=>by have:=E p hp i g;cases i<;>exact this⟩;obtain⟨sz,e,I,A,G,J⟩:=d.vc id es F;exact⟨sz,e,I,A,(λp hp i g=>by have:=G p hp i g;cases i<;>exact this),J⟩;rcases V7 C with h|h;obtain⟨i,g,e⟩:=Jj.1 h;cases e;exact⟨hp _ g,rfl⟩;cases h
def HasT.pin {n:Nat} {L:List (Nat×PV)} {m:MemT} {pin:List Nat} {φ:Nat->Nat} (h:HasT n L m [] s):HasT n L m (T6 pin φ) { s with m:= { s.m with ph:=Yq ((T6 pin φ).map λx=>(x.1,Hs x.2)) λ_=>Hn } }:=
 ⟨⟨h.b.n,h.b.fr,h.b.h,h.b.q⟩,h.o,h.it,h.v,h.om,(λx c=>by
  obtain⟨i,b,rfl⟩:=Jj.1 c;exact Zj5 b _),h.pq⟩
theorem Sim.back {S2:Stable} {M2:Maps} {C:St} {E:Act} {w2:World} {n:Nat} {L:List (Nat×PV)} {m m2:MemT} {pin:List Nat} {φ:Nat->Nat} (k:Sim B S M (mkT n L m (T6 pin φ)) a w) (z:SLe S S2) (t:Sim B S2 M2 C E w2) (F:HasT n [] m2 (T6 pin φ) C)
  (q:∀x∈L,∀r∈x.2.ids,∃i∈pin,r= .b i) (h:WholeT [] m2 (T6 pin φ)):Sim B S2 M2 (mkT n L m2 (T6 pin φ)) a w2:=by
 have u:Sim B S2 M2 (mkT n [] m2 (T6 pin φ)) E w2:=t.weak (F.weak h) (Refs.mkStX h);have d:∀i,∀r∈((mkT n L m (T6 pin φ)).fr i).ids,∃j∈pin,r= .b j:=λi r b=>by
  have J:∀(L:List (Nat×PV)),(∀x∈L,∀r∈x.2.ids,∃i∈pin,r= .b i)-> ∀r∈(Yq L (λ_=>Qn) i).ids,∃j∈pin,r= .b j:=λL=>by
   induction L with
   |nil=>intro _ r b;cases b
   |cons x L ih=>
    intro q r b;have b:r∈(upd (Yq L λ_=> .any) x.1 x.2 i).ids:=b;by_cases e:x.1=i;rw[e,Za]at b;exact q x (by simp) r b;rw[Zb _ _ e]at b;exact ih (λy I=>q y (by simp[I])) r b
  exact J L q r b
 have G:∀i∈pin,M.φ i=φ i:=λi p=>(k.pn.h i (φ i) (Zj5 p _)).2
 have A:∀i∈pin,M2.φ i=φ i/\(mkT n [] m2 (T6 pin φ)).m.h i≠none:=λi p=>⟨(u.pn.h i (φ i) (Zj5 p _)).2,(u.pn.h i (φ i) (Zj5 p _)).1⟩
 refine u.reslot (n:=n) (f:=(mkT n L m (T6 pin φ)).fr) k.defers k.hn (λi=>(k.fr i).heap z (λid c=> ?_) (λid c=> ?_)) (λi r b=> ?_);obtain⟨j,g,e⟩:=d i _ c;cases e;rw[(A _ g).1,G _ g];obtain⟨j,g,e⟩:=d i _ c;cases e;obtain⟨j,g,rfl⟩:=d i r b;exact(A j g).2
def WholeT.noL {L:List (Nat×PV)} {m:MemT} {p:List (Nat×Nat)} (h:WholeT L m p):WholeT [] m p:=⟨⟨fnl,h.t.2⟩,h.v,h.om,h.vr,h.pr,h.qr⟩
def BelowF.putB {B:Frm} {w w':World} {l:Nat} {o:Obj} (h:BelowF B w w') (c:¬B l):BelowF B w (w'.putObj l o):=
 ⟨h.os,h.tape,h.output,by have:=h.size;simp;omega,λk b=>(JA (λe=>by subst e;exact c b)).trans (h.block k b)⟩
theorem Zmu {A:Type} {gf:Nat} {caps:List PV} {xs:List A} {enc:A->List PV} {N n:Nat} {g:Operand} {ps:Array Tmp} {assign body:Code} {Q:Exit->Act->World->Prop} {L:List (Nat×PV)} {pin:List Nat} {mt mx:List A->MemT} {Y X:List A->Prop}
  (R:Sim B S M s a w) (hg:s.eval g= .fn gf caps) (xc:∀p∈caps,p.ids= []) (O:ZmC P gf caps xs enc ps.size) (xp:∀x∈xs,∀p∈enc x,p.ids= []) (yg:∀t∈ps,t<n)
  (h0:HasT n L (mt []) [] s) (hL:∀x∈L,∀r∈x.2.ids,∃i∈pin,r= .b i) (hp:∀i∈pin,s.m.h i≠Hn) (hY:Y [])
  (hw:∀pre φ,WholeT L (mt pre) (T6 pin φ)) (yl:∀pre φ,WholeT L (mx pre) (T6 pin φ))
  (round:∀(l:Nat) (φ:Nat->Nat) (pre:List A) (x:A),x∈xs->pre.length<xs.length->Y pre->
   Fu l N P assign (Xq (Fu l N P body (Zs3 n (mt (pre++ [x])) (mx (pre++ [x])) (Y (pre++ [x])) (X (pre++ [x])) (T6 pin φ))) (λ_ _=>False)) (putL (mkT n L (mt pre) (T6 pin φ)) (ps.toList.zip (enc x))))
  (done:∀D φ S' u W,Y xs->Sim B S' u (mkT n L (mt xs) (T6 pin φ)) a W->Ext B S S' w W->W.heap[D]? = Hs (.deferred (Hs []))->w.heap.size<=D->Q .normal { a with defers:= { target:= .collected D,args:= #[] }::a.defers } W)
  (stop:∀D φ pre S' u W,pre <+:xs->X pre->Sim B S' u (mkT n L (mx pre) (T6 pin φ)) a W->Ext B S S' w W->W.heap[D]? = Hs (.deferred (Hs []))->w.heap.size<=D->Q .ret { a with defers:= { target:= .collected D,args:= #[] }::a.defers } W):
  (Code.rangeFunc g ps assign body).wpIn Fence.wide (N+2) P Q a w:=by
 refine wpIn_rangeFunc ?_;intro fn yh;have ya:Fence.wide.round=none:=rfl;rw[ya];obtain⟨d,q⟩:∃d:LoopState->Option Code->Loop,d=λst pe=> { state:=st,pending:=pe,fn,tmps:=a.tmps,params:=ps,assign,body,defers:=w.heap.size }:=⟨_,rfl⟩
 obtain⟨W1,z⟩:∃W1,(w.alloc (.deferred (Hs []))).alloc (.loop (d .ready Hn))=W1:=⟨_,rfl⟩;have xt:W1.heap[w.heap.size+1]? = Hs (.loop (d .ready Hn)):=by
  rw[<-z];have:=KO (w.alloc (.deferred (Hs []))) (.loop (d .ready Hn));rwa[World.size_alloc]at this
 have xi:W1.heap[w.heap.size]? = Hs (.deferred (Hs [])):=by
  rw[<-z];exact(Below.heap_alloc _ _ _ (by simp)).trans (KO w _)
 have eg:=R.eval g;rw[hg]at eg;obtain⟨lb,yn,yo,yb⟩:=eg.fn_inv;obtain⟨xl,xg⟩:=O;obtain⟨xr,c1,c2,c3⟩:=xl;have xh:∀i,i<caps.length->Rep S (lb.getD i undef) (caps.getD i .any):=λi hi=>by
  exact(yb i hi).rep0 (xc _ (Zc hi))
 have xn:StabS S W1:=by
  have:=((R.lay (.deferred (Hs []))).lay (.loop (d .ready Hn))).stable.s;rw[z]at this;exact this
 obtain⟨encs,xf,O⟩:=xg N S W1 ⟨lb⟩ xn (by simpa using yo) (λi hi=>by simpa[Jf,Ji]using xh i hi);have xy:Below w.heap.size w W1:=by
  rw[<-z];exact(((Below.refl _ w).alloc (Ju _) _).alloc (by simp) _)
 have yt:W1.heap.size=w.heap.size+2:=by rw[<-z];simp
 -- the frame of the rounds:the book is left alone too
 obtain⟨B',xb⟩:∃B':Frm,B'=λk=>B k\/k=w.heap.size\/k=w.heap.size+1:=⟨_,rfl⟩
 have y:∀k,B k->B' k:=λk C=>by rw[xb];exact .inl C
 have xo:B' w.heap.size:=by rw[xb];exact .inr (.inl rfl)
 have xm:B' (w.heap.size+1):=by rw[xb];exact .inr (.inr rfl)
 let φ:Nat->Nat:=M.φ;let J:List (Fin xs.length)->World->Prop:=λpre W=>∃S' u,Y (pre.map λk=>xs[k])/\Sim B' S' u (mkT n L (mt (pre.map λk=>xs[k])) (T6 pin φ)) a W/\Ext B S S' w W/\
  W.heap[w.heap.size+1]? = Hs (.loop (d .ready Hn))/\W.heap[w.heap.size]? = Hs (.deferred (Hs []))
 let Jx:List (Fin xs.length)->World->Prop:=λpre W=>∃S' u,X (pre.map λk=>xs[k])/\Sim B' S' u (mkT n L (mx (pre.map λk=>xs[k])) (T6 pin φ)) a W/\Ext B S S' w W/\
  W.heap[w.heap.size+1]? = Hs (.loop (d .done (Hs .ret)))/\W.heap[w.heap.size]? = Hs (.deferred (Hs []))
 have calm:∀(Z:List (Fin xs.length)->Prop) (st:List (Fin xs.length)->St) (o:Obj),Zx8 λpre W=>∃S' u,Z pre/\Sim B' S' u (st pre) a W/\Ext B S S' w W/\W.heap[w.heap.size+1]? = Hs o/\W.heap[w.heap.size]? = Hs (.deferred (Hs [])):=by
  rintro Z st o pre W ⟨S',u,V,T,I,F,g4⟩;have l1:=(Jb.1 F).1;have l2:=(Jb.1 g4).1;refine⟨λo=>⟨S',u,V,T.lay o,I.trans ⟨JI _,λ_ _=>⟨λ_=>rfl,rfl⟩,(JS B W).alloc (λk C=>T.hB k (y k C)) o⟩,(Below.heap_alloc W o _ l1).trans F,(Below.heap_alloc W o _ l2).trans g4⟩,⟨S',u,V,T.world rfl,I.trans ⟨JI _,λ_ _=>⟨λ_=>rfl,rfl⟩,(JS B W).drew⟩,F,g4⟩⟩
 have ye:xr.body≠none:=by intro h;simp[h]at c3
 refine⟨w.heap.size+1,[{ target:= .collected w.heap.size,args:= #[] }],W1,{ target:= .fn (.func gf) ⟨lb⟩,args:= #[.func (.yield (w.heap.size+1)) #[] #[]] },W1,gf,
  #[.func (.yield (w.heap.size+1)) #[] #[]]++⟨lb⟩,W1,?_,?_,?_,?_,(λh=>by cases h),?_⟩
 rw[<-z,q];exact run_enterLoop_outer _ _ _ _ _;simp only[resolve,yn];simp[go_sem];intro f' yr;trivial;have G:¬xr.body=none:=ye;simp[invoke,callFunc,program,Qo,c1,G,c2];have yf:J [] W1:=by
  have h1:Sim B S M s a W1:=by rw[<-z];exact(R.lay _).lay _
  have h2:Sim B' S M s a W1:=h1.widen (hzz:=λk C=>R.hz k λh=>C (y k h)) λk C=>by
   rw[xb]at C;rcases C with C|rfl|rfl;exact .inl C;exact .inr (.inr ⟨_,xi⟩);exact .inr (.inl ⟨_,xt⟩)
  exact⟨S,M,hY,(h2.pin hp).weak (h0.pin.weak (hw [] φ)) (Refs.mkStX (hw [] φ)),⟨JI _,(λ_ _=>⟨λ_=>rfl,rfl⟩),(Qu xy).mono R.hB⟩,xt,xi⟩
 have xv:∀pre φ,WholeT [] (mt pre) (T6 pin φ):=λpre φ=>(hw pre φ).noL
 have xu:∀pre φ,WholeT [] (mx pre) (T6 pin φ):=λpre φ=>(yl pre φ).noL
 refine(O (w.heap.size+1) J Jx W1 (Below.refl _ _) (calm _ _ _) (calm _ _ _) ?_ yf).mono ?_
 · -- one round
  rintro pre k W ⟨S',u,V,T,I,F,g4⟩ xj;obtain⟨e1,e2,e3⟩:=xf k;have hy:=run_yield (P:=P) (args:=encs k) F (by rw[q];exact e1);rw[q]at hy;simp only[ZpV]at hy;refine⟨fn,_,assign,body,hy,roundIn_of_wpIn yh ?_⟩;have yu:w.heap.size+1<W.heap.size:=(Jb.1 F).1;have hx:xs[k]∈xs:=Kw _;have yc:(pre.map λk=>xs[k]).length<xs.length:=by rw[KG];exact xj
  have yq:ps.toList.length=(enc xs[k]).length:=by rw[e2];simp
  have st:=Sim.putL (ps.toList.zip (enc xs[k])) (encs k).toList T (by simp only[List.length_zip,Array.length_toList];omega) (λx hx=>yg _ (by have:=(Qb hx).1;simpa using this)) (λx xz=>xp _ hx _ (Qb xz).2) (λi hi=>by
   have xx:i<ps.size:=by simp at hi;omega
   have h1:=(e3 i xx).mono I.1;have h2:i<(enc xs[k]).length:=by omega
   rw[getD_lt hi,List.getElem_zip];rw[getD_lt h2]at h1;have e:(encs k).toList.getD i undef=(encs k).getD i undef:=by simp[Jf,Ji]
   rw[e];exact h1)
  rw[List.map_fst_zip (by omega)]at st;have xa:=round (w.heap.size+1) φ (pre.map λk=>xs[k]) xs[k] hx yc V;have E:(pre++ [k]).map (λk=>xs[k])=(pre.map λk=>xs[k])++ [xs[k]]:=by simp
  refine wpIn_mono (xa B' S' u _ W st) ?_;rintro e a1 w1 ⟨s1,S1,M1,q1,q2,q3⟩;cases e with
  |normal=>
   have xd:w1.heap[w.heap.size+1]? = Hs (.loop (d .ready Hn)):=(q3.2.2.block _ xm).trans F;have ym:w1.heap[w.heap.size]? = Hs (.deferred (Hs [])):=(q3.2.2.block _ xo).trans g4;refine⟨_,run_beginRound xd (by rw[q]),?_⟩;have xw:(w1.putObj (w.heap.size+1) (.loop { d .ready Hn with state:= .busy })).heap[w.heap.size+1]? = Hs (.loop { d .ready Hn with state:= .busy }):=KF (Jb.1 xd).1;have yj:(w1.putObj (w.heap.size+1) (.loop { d .ready Hn with state:= .busy })).heap[w.heap.size]? = Hs (.deferred (Hs [])):=(JA (by omega)).trans ym;have yp:=q2.book (.inl ⟨_,xd⟩) (.loop { d .ready Hn with state:= .busy });have x2:Ext B S' S1 W (w1.putObj (w.heap.size+1) (.loop { d .ready Hn with state:= .busy })):=⟨q3.1,λb G=>q3.2.1 b (y b G),(q3.2.2.mono y).putB (λG=>by have:=R.hB _ G;omega)⟩;refine wpIn_mono (q1 B' S1 M1 a1 _ yp) ?_;rintro e2 a2 w2 ⟨s2,S2,M2,r1,r2,r3⟩;have xe:w2.heap[w.heap.size+1]? = Hs (.loop { d .ready Hn with state:= .busy }):=(r3.2.2.block _ xm).trans xw;have yd:w2.heap[w.heap.size]? = Hs (.deferred (Hs [])):=(r3.2.2.block _ xo).trans yj;have xq:SLe S' S2:=q3.1.trans r3.1;have xk:∀(jump:Option Code) (m2:MemT),HasT n [] m2 (T6 pin φ) s2->WholeT [] m2 (T6 pin φ)->
     (Instr.endRound (w.heap.size+1) jump).run P w2= .ok (.bool jump.isNone) (w2.putObj (w.heap.size+1) (.loop (d (if jump.isNone then .ready else .done) jump)))/\
     Sim B' S2 M2 (mkT n L m2 (T6 pin φ)) a (w2.putObj (w.heap.size+1) (.loop (d (if jump.isNone then .ready else .done) jump)))/\
     Ext B S S2 w (w2.putObj (w.heap.size+1) (.loop (d (if jump.isNone then .ready else .done) jump)))/\
     (w2.putObj (w.heap.size+1) (.loop (d (if jump.isNone then .ready else .done) jump))).heap[w.heap.size+1]? = Hs (.loop (d (if jump.isNone then .ready else .done) jump))/\
     (w2.putObj (w.heap.size+1) (.loop (d (if jump.isNone then .ready else .done) jump))).heap[w.heap.size]? = Hs (.deferred (Hs [])):=λjump m2 hh yi=>by
    have:=run_endRound (P:=P) jump xe;rw[q]at this ⊢;refine⟨this,(T.back xq r2 hh hL yi).book (.inl ⟨_,xe⟩) _,(I.trans x2).trans ⟨r3.1,λb G=>r3.2.1 b (y b G),(r3.2.2.mono y).putB (λG=>by have:=R.hB _ G;omega)⟩,KF (Jb.1 xe).1,(JA (by omega)).trans yd⟩
   cases e2 with
   |normal=>
    obtain⟨f1,f2,f3,f4,f5⟩:=xk Hn _ r1.2 (xv _ φ);exact⟨_,_,f1,.inl ⟨rfl,⟨S2,M2,by rw[E];exact r1.1,by rw[E];exact f2,f3,f4,f5⟩,λ_=>f2.stable.s.below (I.1.trans xq)⟩⟩
   |ret=>
    obtain⟨f1,f2,f3,f4,f5⟩:=xk (Hs .ret) _ r1.2 (xu _ φ);exact⟨_,_,f1,.inr ⟨rfl,S2,M2,by rw[E];exact r1.1,by rw[E];exact f2,f3,f4,f5⟩⟩
   |exit id=>exact r1.elim
   |goto t=>exact r1.elim
   |panic c=>exact r1.elim
   |outgrown=>exact r1.elim
  |ret=>exact q1.elim
  |exit id=>exact q1.elim
  |goto t=>exact q1.elim
  |panic c=>exact q1.elim
  |outgrown=>exact q1.elim
 -- behind the iterator
 rintro e W2 ⟨⟨v,rfl⟩,(⟨ys,rfl,S',u,V,T,I,F,g4⟩|⟨pre,hpre,S',u,V,T,I,F,g4⟩)⟩
 ·subst q;have hr:=run_endLoop (P:=P) F (by simp);refine⟨Hn,_,hr,?_⟩;have he:(Kr xs.length).map (λk=>xs[k])=xs:=by
   apply Ky;simp;intro i h1 h2;simp
  have U:=λo=>(T.widen (B':=B) (hzz:=R.zle I.1) λk C=> .inl (y k C)).book (.inl ⟨_,F⟩) o
  rw[he]at U V;exact done w.heap.size φ S' u _ V (U _) (I.trans ⟨JI _,(λ_ _=>⟨λ_=>rfl,rfl⟩),(JS _ _).putB (λG=>by have:=R.hB _ G;omega)⟩) ((JA (by omega)).trans g4) (Ju _)
 subst q;have hr:=run_endLoop (P:=P) F (by simp);refine⟨Hs .ret,_,hr,?_⟩;have yk:(pre.map λk=>xs[k]) <+:xs:=by
  have he:(Kr xs.length).map (λk=>xs[k])=xs:=by
   apply Ky;simp;intro i h1 h2;simp
  have:=hpre.map (λk=>xs[k]);rwa[he]at this
 have U:=λo=>(T.widen (B':=B) (hzz:=R.zle I.1) λk C=> .inl (y k C)).book (.inl ⟨_,F⟩) o
 exact wpIn_ret (stop w.heap.size φ _ S' u _ yk V (U _) (I.trans ⟨JI _,(λ_ _=>⟨λ_=>rfl,rfl⟩),(JS _ _).putB (λG=>by have:=R.hB _ G;omega)⟩) ((JA (by omega)).trans g4) (Ju _))
end
open Go.RowKit
open Go.RowKit
section
variable {P:Program} {l n:Nat} {s s':St} {Q Q':Exit->St->Prop}
theorem Zeb {c:Code} {ι:Type} (I:ι->St) (μ:ι->Nat) (g:ι) (F:Weak (I g) s) (G:Refs s-> ∀i,Refs (I i))
  (round:∀i,Fu l n P c (Xq (λs'=>∃j,μ j<μ i/\Weak (I j) s') Q) (I i)):Fu l n P (.loop c) Q s:=λB S M a w z=>by
 have b:=G z.refs;have key:∀(k:Nat) (i:ι),μ i<k-> ∀S1 M1 p w1,Sim B S1 M1 (I i) p w1->Ext B S S1 w w1->
   Code.roundsIn (Fence.wide.inRound l) n P c (λe t w'=>∃s' S' h,Q e s'/\Sim B S' h s' t w'/\Ext B S S' w w') k p w1:=by
  intro k
  induction k with
  |zero=>intro i E;omega
  |succ k ih=>
   intro i E S1 M1 p w1 q d;rw[roundsIn_succ];refine wpIn_mono (round i B S1 M1 p w1 q) λe t w' C=> ?_
   obtain⟨s',S',h,y,u,A⟩:=C;cases e with
   |normal=>
    obtain⟨j,J,r⟩:=y;exact ih j (by omega) S' h t w' (u.weak r (b j)) (d.trans A)
   |_=>exact⟨s',S',h,y,u,d.trans A⟩
 exact wpIn_loop_rounds (μ g+1) (key _ g (K9 _) S M a w (z.weak F (b g)) (JJ _ _ _))
def Zx9 {ι:Type} (n:Nat) (L:ι->List (Nat×PV)) (m:ι->MemT) (p:List (Nat×Nat)) (μ:ι->Nat) (i:ι) (s':St):Prop:=∃j,μ j<μ i/\HasT n (L j) (m j) p s'
theorem Zxb {c:Code} {ι:Type} {d:Nat} (L:ι->List (Nat×PV)) (m:ι->MemT) (p:List (Nat×Nat)) (μ:ι->Nat) (b:ι)
  (q:HasT d (L b) (m b) p s) (g:∀i,WholeT (L i) (m i) p)
  (round:∀i,@vR l n P ⟨c⟩ ⟨Xq (Zx9 d L m p μ i) Q⟩ (mkT d (L i) (m i) p)):Fu l n P (.loop c) Q s:=
 Zeb (λi=>mkT d (L i) (m i) p) μ b (q.weak (g b)) (λ_ i=>Refs.mkStX (g i)) λi=>Zfy (λe s' h=>by
  cases e with
  |normal=>obtain⟨j,k,r⟩:=h;exact⟨j,k,r.weak (g j)⟩
  |_=>exact h) (ZaG (round i))
theorem ZuF (c:Code) (Q:QS) (s:St):@vR l n P ⟨.loop c⟩ Q s=Fu l n P (.loop c) Q.q s:=rfl
end
attribute [go_sem] ZuF
open Go.RowKit
def md (a:Act) (D:List Deferred):Act:= { tmps:=a.tmps,defers:=a.defers++D }
theorem ZtP (a:Act) (D:List Deferred):(md a D).eval=a.eval:=rfl
def Zdk (a:Act) (D:List Deferred) (d:Option Tmp) (v:Value):(md a D).put d v=md (a.put d v) D:=by cases d<;>rfl
section
variable {P:Program} {n:Nat} {D:List Deferred}
theorem ZoL {o:Oper} {a:Act} {w:World} {next:Act->World->Prop} {Q:Exit->Act->World->Prop} (h:o.wp P a w (λa w=>next (md a D) w) (λe a w=>Q e (md a D) w)):o.wpIn Fence.wide n P (md a D) w next Q:=by
 refine⟨λf _=>trivial,?_⟩;rw[show Fence.wide.round=Hn from rfl,Oper.semAt_none,ZtP];unfold Oper.wp at h;generalize (execOp a.eval o).run P w=r at h ⊢;cases r with
 |ok x w'=>
  cases x with
  |value v=>rw[Oper.uponIn_value,Zdk];exact h
  |skip=>rw[Oper.uponIn_skip,Zdk];exact h
  |defer d=>
   rw[Oper.uponIn_defer];have e:({ md a D with defers:=d::(md a D).defers }:Act)=md { a with defers:=d::a.defers } D:=rfl;rw[e,Zdk];exact h
  |enter f args=>
   refine⟨λi=>absurd (show Hf=Ht from i) (by decide),((callsIn_wide (n:=n-1)).2 h).mono ?_⟩;intro e b g;cases e with
   |returned v=>show next ((md a D).put o.dst v) b;rw[Zdk];exact g
   |panicked c=>exact g
   |outgrown=>obtain⟨q,k,p⟩:LetsOut (λe a w=>Q e (md a D) w):=g;exact⟨_,k,p⟩
  |row row args=>
   refine⟨λi=>absurd (show Hf=Ht from i) (by decide),λc cs _=> ?_⟩;obtain⟨v,b,r,s⟩:=h c cs;exact⟨v,b,by show next ((md a D).put o.dst v) b;rw[Zdk];exact r,stepsIn_wide.2 s⟩
  |_=>first|exact h|exact False.elim h
 |halt x w'=>cases x<;>exact h
def ZmY (D:List Deferred) (n:Nat) (P:Program) (c:Code) (Q:Exit->St->Prop) (s:St):Prop:=
 ∀B S M a w,Sim B S M s a w->c.wpIn Fence.wide n P (λe g w'=>∃s' S' d b,Q e s'/\g=md b D/\Sim B S' d s' b w'/\Ext B S S' w w') (md a D) w
theorem SG {B:Frm} {ops:Array Oper} {K:St->Prop} {Qc:Exit->Act->World->Prop} {S0:Stable} {w0:World} (p:∀s' S' g y w',K s'->Sim B S' g s' y w'->Ext B S0 S' w0 w'->Qc .normal (md y D) w'):
  ∀(q:List Oper) (k:Nat) (s:St),(∀j,q[j]? = ops[k+j]?)->Ze5 P ops K q s-> ∀S M a w,Sim B S M s a w->Ext B S0 S w0 w->wpOpsIn Fence.wide n P ops Qc (Jr k q.length) (md a D) w
 | [],k,s,_,h,S,M,a,w,hs,he=>p s S M a w h hs he
 |o::rest,k,s,hl,h,S,M,a,w,hs,he=>by
  have z:ops[k]? = Hs o:=by simpa using(hl 0).symm
  have c:∀j,rest[j]? = ops[(k+1)+j]? :=λj=>by have:=hl (j+1);simpa[Kq,KC 1 j]using this
  obtain⟨hd,h⟩:=h;simp only[JP,Kx,wpOpsIn,z];rcases h with ⟨i,⟨v,m',t,b⟩|r⟩|⟨i,b⟩;rw[show yielded ops (md a D).tmps=yielded ops a.tmps from rfl,Te hs i,if_pos rfl];exact ZoL (X8 hs (YD hd) t _ _ λu w' S' g e d=>SG p rest (k+1) _ c b S' g _ w' e (he.trans d));rw[show yielded ops (md a D).tmps=yielded ops a.tmps from rfl,Te hs i,if_pos rfl];exact ZoL (U0 hs (YD hd) r _ _ λs' u w' S' g A e d=>SG p rest (k+1) s' c A S' g _ w' e (he.trans d));rw[show yielded ops (md a D).tmps=yielded ops a.tmps from rfl,Te hs i,if_neg (by simp)];rw[Zdk];exact⟨λ_ _=>trivial,SG p rest (k+1) _ c b S M _ w (Tp hs hd) he⟩
variable {s:St} {Q Q':Exit->St->Prop}
def Zfx {c:Code} (h:∀e s,Q e s->Q' e s) (b:ZmY D n P c Q s):ZmY D n P c Q' s:=λB S M a w d=>
 wpIn_mono (b B S M a w d) λe g w' ⟨s',S',M',a0,h1,h2,h3,h4⟩=>⟨s',S',M',a0,h _ _ h1,h2,h3,h4⟩
def ZhQ {id:Nat} {ops:Array Oper} (h:Ze5 P ops (Q .normal) ops.toList s):ZmY D n P (.region id ops Hf) Q s:=λB S M a w p=>by
 refine wpIn_region ?_;have:=SG (n:=n) (D:=D) (B:=B) (S0:=S) (w0:=w) (Qc:=λe c w'=>∃s' S' b d,Q e s'/\c=md d D/\Sim B S' b s' d w'/\Ext B S S' w w') (λs' S' b c w' i g k=>⟨s',S',b,c,i,rfl,g,k⟩) ops.toList 0 s (by simp) h S M a w p (JJ _ _ _);rw[<-Ka]at this;simpa using this
def Zm0 (h:Q .normal s):ZmY D n P .skip Q s:=λB S M a w b=>wpIn_skip ⟨s,S,M,a,h,rfl,b,JJ _ _ _⟩
def ZqD (h:Q .ret s):ZmY D n P .ret Q s:=λB S M a w b=>wpIn_ret ⟨s,S,M,a,h,rfl,b,JJ _ _ _⟩
theorem ZqE {x y:Code} (h:ZmY D n P x (Xq (ZmY D n P y Q) Q) s):ZmY D n P (.seq x y) Q s:=λB S M a w r=>by
 refine wpIn_seq (wpIn_mono (h B S M a w r) λe I w' z=> ?_);obtain⟨s',S',p,q,i,rfl,g,k⟩:=z;cases e with
 |normal=>
  refine wpIn_mono (i B S' p q w' g) λe u t d=> ?_
  obtain⟨s'',c,b,A,C,G,F,E⟩:=d;exact⟨s'',c,b,A,C,G,F,k.trans E⟩
 |_=>exact⟨s',S',p,q,i,rfl,g,k⟩
def ZmZ {c:Operand} {x y:Code} {b:Bool} (g:s.eval c= .bool b) (h:ZmY D n P (if b then x else y) Q s):ZmY D n P (.cond c x y) Q s:=λB S M a w e=>by
 have d:=e.eval c;rw[g]at d;exact wpIn_cond (a:=md a D) d.bool_inv (h B S M a w e)
def vcD (P:Program):Code->(Exit->St->Prop)->St->Prop
 | .skip,Q,s=>Q .normal s
 | .ret,Q,s=>Q .ret s
 | .seq x y,Q,s=>vcD P x (Xq (vcD P y Q) Q) s
 | .cond c x y,Q,s=>DF (s.eval c) (vcD P x Q s) (vcD P y Q s)
 | .region _ ops Hf,Q,s=>vcA P Ht ops (Q .normal) ops.toList s
 |_,_,_=>False
theorem Si:∀(c:Code) (Q:Exit->St->Prop) (s:St),vcD P c Q s->ZmY D n P c Q s
 | .skip,Q,s,h=>Zm0 h
 | .ret,Q,s,h=>ZqD h
 | .seq x y,Q,s,h=>ZqE (Zfx (λe s' d=>by
   cases e with
   |normal=>exact Si y Q s' d
   |_=>exact d) (Si x _ s h))
 | .cond c x y,Q,s,h=>by
  unfold vcD DF at h;split at h;rename_i b g;refine ZmZ g ?_;cases b;exact Si y Q s (h.2 rfl);exact Si x Q s (h.1 rfl);exact h.elim
 | .region _ ops Hf,Q,s,h=>ZhQ (Vv _ _ h)
 | .region _ ops Ht,Q,s,h=>False.elim h
 | .label _,Q,s,h=>False.elim h
 | .exit _,Q,s,h=>False.elim h
 | .goto _,Q,s,h=>False.elim h
 | .block _ _,Q,s,h=>False.elim h
 | .loop _,Q,s,h=>False.elim h
 | .rangeFunc ..,Q,s,h=>False.elim h
 | .scope _,Q,s,h=>False.elim h
 | .refuse _,Q,s,h=>False.elim h
end
def vD (P:Program) [C:COD] [Q:QS] (s:St):Prop:=vcD P C.c Q.q s
section
variable {P:Program}
def ZsB {c:Code} {Q:Exit->St->Prop} {s:St} (h:@vD P ⟨c⟩ ⟨Q⟩ s):vcD P c Q s:=h
theorem Zuy (Q:QS) (s:St):@vD P ⟨.skip⟩ Q s= @vQ Q .normal s:=rfl
theorem Zw8 (Q:QS) (s:St):@vD P ⟨.ret⟩ Q s= @vQ Q .ret s:=rfl
theorem Zw9 (x y:Code) (Q:QS) (s:St):@vD P ⟨.seq x y⟩ Q s= @vD P ⟨x⟩ ⟨Xq (@vD P ⟨y⟩ Q) Q.q⟩ s:=rfl
theorem Zux (c:Operand) (x y:Code) (Q:QS) (s:St):@vD P ⟨.cond c x y⟩ Q s= @Zhk (s.eval c) ⟨@vD P ⟨x⟩ Q s⟩ ⟨@vD P ⟨y⟩ Q s⟩:=rfl
theorem Zpx (id:Nat) (b:List Oper) (Q:QS) (s:St):@vD P ⟨.region id b.toArray Hf⟩ Q s= @vA P Ht ⟨@vQ Q .normal⟩ ⟨b⟩ ⟨b⟩ s:=rfl
end
attribute [go_sem] Zuy Zw8 Zw9 Zux Zpx
section
variable {P:Program}
theorem Pure.range {A:Type} {n:Nat} {rs:List ResultVar} {f:FuncId} {fn:Func} {c:Code} {args:List PV} {r:PV} (k:Nat) {Q1:St->Prop}
  {gf:Nat} {caps:List PV} {xs:List A} {enc:A->List PV} {g:Operand} {ps:Array Tmp} {e1 assign body tail:Code} {id:Nat} {L:List (Nat×PV)} {pin:List Nat} {mt mx:List A->MemT} {Y X:List A->Prop}
  (hf:P.funcs[f]? = Hs fn) (E:fn.name≠ "runtime.NumGoroutine") (hb:fn.body=Hs c) (hn:fn.ntmps=n) (xh:fn.results=rs.toArray) (hl:args.length<=n) (hi:r.dids= [])
  (h1:Zs9 P (awp P e1 (Xq Q1 λ_ _=>False)) k c (St.init args n)) (hd:ZqX k c= .seq (.seq e1 (.block id (.rangeFunc g ps assign body))) tail)
  (hQ:∀s,Q1 s->s.eval g= .fn gf caps/\HasT n L (mt []) [] s/\ ∀i∈pin,s.m.h i≠Hn)
  (F:∀p∈caps,p.ids= []) (O:ZmC P gf caps xs enc ps.size) (xa:∀x∈xs,∀p∈enc x,p.ids= []) (xk:∀t∈ps,t<n)
  (hL:∀x∈L,∀r∈x.2.ids,∃i∈pin,r= .b i) (hY:Y [])
  (hw:∀pre φ,WholeT L (mt pre) (T6 pin φ)) (xe:∀pre φ,WholeT L (mx pre) (T6 pin φ))
  (round:∀(l:Nat) (φ:Nat->Nat) (pre:List A) (x:A),x∈xs->pre.length<xs.length->Y pre->
   Fu l 0 P assign (Xq (Fu l 0 P body (Zs3 n (mt (pre++ [x])) (mx (pre++ [x])) (Y (pre++ [x])) (X (pre++ [x])) (T6 pin φ))) (λ_ _=>False)) (putL (mkT n L (mt pre) (T6 pin φ)) (ps.toList.zip (enc x))))
  (done:Y xs-> ∀φ,vcD P tail (Zhq P rs r) (mkT n L (mt xs) (T6 pin φ)))
  (stop:∀pre,pre <+:xs->X pre-> ∀φ,Zhq P rs r .ret (mkT n L (mx pre) (T6 pin φ))):Pure P f args r:=by
 subst hn;have key:∀s,ZbY P r s [] rs->Zs4 P fn r s:=λs hv=>by
  unfold Zs4;rw[xh];simpa using Sh (fn:=fn) rs [] hv
 have keyQ:∀e s,Zhq P rs r e s->ZzF P fn r e s:=λe s hv=>by
  cases e with
  |normal=>exact key s hv
  |ret=>exact key s hv
  |_=>exact hv
 refine⟨⟨fn,hf,E,by rw[hb];rfl⟩,hi,λw S vs xc xj U J=> ?_⟩;refine(callsIn_wide (n:=2)).1 (callsIn_of_wp_marks hf hb trivial ?_);have hs:=SS (B:=λk=>k<w.heap.size) (w:=w) (n:=fn.ntmps) (o:=λ_=>Hn) hl U J (λk d=>d) ⟨xc,λb c hc=>by simp at hc,λb x T=>by simp at T⟩ (λk d=>xj k (Jz d));have xf:(⟨vs⟩:Array Value).size=vs.length:=by simp
 rw[xf];refine wpIn_wide.2 (Fm (B:=λk=>k<w.heap.size) (S0:=S) (w0:=w) k c _ S _ _ w h1 hs (JJ _ _ _) λs0 S0 M0 u w0 xb xg xl=>(wpIn_wide (n:=2)).1 ?_);rw[hd];refine wpIn_seq (wpIn_seq (wpIn_mono (wpIn_wide.2 (xb _ S0 M0 u w0 xg)) ?_));rintro e C w' ⟨s',S',M',hq,q,xo⟩;have T:=xl.trans xo;obtain⟨rfl,hq⟩:e= .normal/\Q1 s':=by cases e<;>first|exact⟨rfl,hq⟩|exact hq.elim
 obtain⟨q1,q2,q3⟩:=hQ s' hq;have I:∀(Dd:Nat) (s2:St) (S2:Stable) (M2:Maps) (a2:Act) (w2:World),Sim (λk=>k<w.heap.size) S2 M2 s2 a2 w2->Ext (λk=>k<w.heap.size) S S2 w w2->w2.heap[Dd]? = Hs (.deferred (Hs []))->w.heap.size<=Dd->Zs4 P fn r s2->
   LeavesInM Fence.wide 2 P fn a2.tmps (λen R=>∃v S3,en= .returned v/\Rep S3 v r/\StabS S3 R/\SLe S S3/\(∀b,b<w.heap.size->(∀o,S3 b o=S b o)/\S3.m b=S.m b)/\Below w.heap.size w R) [{ target:= .collected Dd,args:= #[] }] .returning w2:=by
  rintro Dd s2 S2 M2 a2 w2 N z G g4 ⟨p1,p2,p3⟩
  have g5:=N.book (.inr ⟨_,G⟩) (.deferred Hn);have g6:Ext (λk=>k<w.heap.size) S S2 w (w2.putObj Dd (.deferred Hn)):=⟨z.1,z.2.1,z.2.2.putB (by omega)⟩;obtain⟨v,hv,xd⟩:=Vs g5 p1;refine⟨by simp,.inl ⟨Dd,_,rfl,run_takeDeferred G,v,hv,v,S2,rfl,?_,g5.stable.s,g6.1,g6.2.1,g6.2.2.to⟩⟩;rw[p3];exact xd.give g5 p2
 have xm:w.heap.size<=w'.heap.size:=T.2.2.size;have V:∀Dd,({ C with defers:= { target:= .collected Dd,args:= #[] }::C.defers }:Act)=md C [{ target:= .collected Dd,args:= #[] }]:=λDd=>by
  unfold md;rw[q.defers];rfl
 refine wpIn_block (Zmu q q1 F O xa xk q2 hL q3 hY hw xe round ?_ ?_)
 ·intro Dd φ S2 M2 W xi N z G g4;rw[V];have xn:∀k,(k<w.heap.size\/k=Dd)->k<w.heap.size\/Book W k:=λk d=>d.imp (λh=>h) λe=>by subst e;exact .inr ⟨_,G⟩
  have xp:=N.widen (B':=λk=>k<w.heap.size\/k=Dd) xn (λk d=>q.zle z.1 k λh=>d (.inl h));refine wpIn_mono (Zfx keyQ (Si (D:= [{ target:= .collected Dd,args:= #[] }]) (n:=2) tail _ _ (done xi φ)) _ S2 M2 C W xp) ?_;rintro e a3 w3 ⟨s3,S3,M3,u,k1,rfl,k3,k4⟩;have k5:Ext (λk=>k<w.heap.size) S S3 w w3:=(T.trans z).trans (k4.mono λk d=> .inl d);have k6:Sim (λk=>k<w.heap.size) S3 M3 s3 u w3:=k3.widen (hzz:=q.zle (z.1.trans k4.1)) λk d=> .inl (.inl d)
  have k7:w3.heap[Dd]? = Hs (.deferred (Hs [])):=(k4.2.2.block Dd (.inr rfl)).trans G;have y:(md u [{ target:= .collected Dd,args:= #[] }]).defers= [{ target:= .collected Dd,args:= #[] }]:=by
   unfold md;rw[k6.defers];rfl
  cases e with
  |normal=>
   show LeavesInM Fence.wide 2 P fn u.tmps _ (md u _).defers .returning w3;rw[y];exact I Dd s3 S3 M3 u w3 k6 k5 k7 (by omega) k1
  |ret=>
   show LeavesInM Fence.wide 2 P fn u.tmps _ (md u _).defers .returning w3;rw[y];exact I Dd s3 S3 M3 u w3 k6 k5 k7 (by omega) k1
  |_=>exact k1.elim
 intro Dd φ pre S2 M2 W Z hX N z G g4;rw[V];have y:(md C [{ target:= .collected Dd,args:= #[] }]).defers= [{ target:= .collected Dd,args:= #[] }]:=by
  unfold md;rw[q.defers];rfl
 show LeavesInM Fence.wide 2 P fn C.tmps _ (md C _).defers .returning W;rw[y];exact I Dd _ S2 M2 C W N (T.trans z) G (by omega) (key _ (stop pre Z hX φ))
end
open Go.RowKit
def ZwY:List PV->Tok
 | []=> .no
 |_::_=> .fr
def PV.frl (es:List PV):PV:= .sl (ZwY es) es
section
variable {es:List PV}
def ZnK:(PV.frl es).ids= []:=by cases es<;>rfl
def ZjG:(PV.frl es).dids=JR es:=by cases es<;>rfl
def Zul:(ZwY es).sh=ZwY es:=by cases es<;>rfl
def Zsk:(Qx (ZwY es) es).ids= []:=ZnK
def Zpn:(Qx (ZwY es) es).dids=JR es:=ZjG
attribute [go_sem] PV.frl
attribute [go_sem ↓ high] Zul Zsk Zpn
theorem Pub.frl {K:Ref->Prop} {m:Hp} {id n sz:Nat} {e:TypeId} (c:m.q id=Hs (.live n sz e)) (b:es.length=n):Pub K m (.sl (.row id) es) (PV.frl es):=by
 cases es with
 |nil=>exact .row id []
 |cons x l=>exact .rowf id n sz e _ c b
theorem Pub.tup2 {K:Ref->Prop} {m:Hp} {a d b c:PV} (g:Pub K m a d) (e:Pub K m b c):Pub K m (.tup [a,b]) (.tup [d,c]):= .tup [a,b] [d,c] rfl λi h=>by
 match i,h with
 |0,_=>exact g
 |1,_=>exact e
end
mutual
def PV.nofr:PV->Bool
 | .sl t es=>(t != .fr)&&PV.nofrL es
 | .rptr cs=>PV.nofrL cs
 | .rmap ks vs=>PV.nofrL ks&&PV.nofrL vs
 | .agg cs=>PV.nofrL cs
 | .tup cs=>PV.nofrL cs
 | .fn _ cs=>PV.nofrL cs
 |_=>Ht
def PV.nofrL:List PV->Bool
 | []=>Ht
 |c::cs=>PV.nofr c&&PV.nofrL cs
end
theorem XD:∀ {cs:List PV} (h:PV.nofrL cs=Ht) (i:Nat),(cs.getD i .any).nofr=Ht
 | [],_,i=>by simp[PV.nofr]
 |c::cs,h,0=>by simp[PV.nofrL]at h;simpa using h.1
 |c::cs,h,i+1=>by simp[PV.nofrL]at h;simpa using XD h.2 i
theorem Zaf:∀ {cs:List PV} (h:∀c∈cs,c.nofr=Ht),PV.nofrL cs=Ht
 | [],_=>rfl
 |c::cs,h=>by simp only[PV.nofrL,Ja];exact⟨h c (by simp),Zaf λx b=>h x (by simp[b])⟩
theorem ZlE {p:PV} (h:p.nofr=Ht) (j:Nat):(p.cells.getD j .any).nofr=true:=by
 have one:∀q:PV,q.nofr=Ht->(([q]:List PV).getD j .any).nofr=true:=λq b=>by
  cases j with
  |zero=>exact b
  |succ j=>rfl
 cases p with
 |agg cs=>exact XD (cs:=cs) h j
 |_=>exact one _ h
theorem Rep.rez {S S':Stable} (e:S'.c=S.c) (g:S'.m=S.m) {v:Value} {p:PV} (r:Rep S v p) (h:p.nofr=Ht):Rep S' v p:=by
 induction r with
 |any v=>exact .any v
 |int k n=>exact .int k n
 |bool b=>exact .bool b
 |str l=>exact .str l
 |flt k b=>exact .flt k b
 |cpx k a b=>exact .cpx k a b
 |agg vs cs hl _ ih=>exact .agg vs cs hl (λi c=>ih i c (XD h i))
 |tup vs cs hl _ ih=>exact .tup vs cs hl (λi c=>ih i c (XD h i))
 |sl0 a cap=>exact .sl0 a cap
 |slnil=>exact .slnil
 |sl b o cap sz es vals hsz hcap hS _ ih=>
  simp only[PV.nofr,Ja]at h;exact .sl b o cap sz es vals hsz hcap (λi j c d=>by rw[e];exact hS i j c d) (λi j c d=>ih i j c d (ZlE (XD h.2 i) j))
 |slf v es _ hz ih=>simp[PV.nofr]at h
 |rptr b o cs vals hS _ ih=>exact .rptr b o cs vals (λj d=>by rw[e];exact hS j d) (λj d=>ih j d (XD h j))
 |nilp=>exact .nilp
 |nilfn=>exact .nilfn
 |nilmap=>exact .nilmap
 |mref b=>exact .mref b
 |iptr b=>exact .iptr b
 |rmap b es ks vs hS hk hv hb _ _ ihK ihV=>
  simp only[PV.nofr,Ja]at h;exact .rmap b es ks vs (by rw[g];exact hS) hk hv hb (λi c=>ihK i c (XD h.1 i)) (λi c=>ihV i c (XD h.2 i))
 |fn f vs cs hl _ ih=>exact .fn f vs cs hl (λi c=>ih i c (XD h i))
open Go.RowKit
section
variable {P:Program} {ops:Array Oper} {Q:Exit->Act->World->Prop} {md:Jq} {S:World->Prop}
def Closed (md:Jq) (ops:Array Oper) (b:Array Bool):Prop:=
 ∀x c,ops[x]? = Hs c->b.getD x Ht=Ht-> ∀e∈c.after,Jk md e=Ht->b.getD e.on Hf=Ht
def Closed.step {b:Array Bool} {j:Nat} (h:Closed md ops b) (t:j∈Jh md ops b):Closed md ops (b.setIfInBounds j Ht):=by
 intro x r d k e p i;refine getD_set_true ?_;by_cases g:j=x;subst g;obtain⟨_,o,q,c⟩:=mem_ready.1 t;rw[q]at d;cases d;exact c e p i;rw[getD_set_ne Ht g]at k;exact h x r d k e p i
def Zef (md:Jq) (ops:Array Oper) (last:Nat):Bool:=
 (Jo last).all λi=>(Jo (last+1)).any λj=>decide (i<j)&&((ops[j]?).map λo=>o.after.any λe=>Jk md e&&e.on==i).getD Hf
theorem Zlw {b:Array Bool} {last:Nat} (y:Zef md ops last=Ht) (r:Closed md ops b) (I:last∈Jh md ops b) (G:b.size=ops.size):
  ∀(n i:Nat),i<last->last-i<=n->b.getD i Ht=true:=by
 have key:∀(n i:Nat),i<last->last-i<=n->b.getD i Hf=true:=by
  intro n;induction n with
  |zero=>intro i p u;omega
  |succ n ih=>
   intro i p u;simp only[Zef,Jg,Js,Kt,Ja,decide_eq_true_eq]at y;obtain⟨j,J,F,hd⟩:=y i p;cases d:ops[j]? with
   |none=>rw[d]at hd;cases hd
   |some o=>
    rw[d]at hd;simp only[Jw,JB]at hd;obtain⟨e,A,k⟩:=Jp.1 hd;simp only[Ja,beq_iff_eq]at k;rw[<-k.2]
    by_cases q:j=last
    ·subst q;obtain⟨_,o',g,h⟩:=mem_ready.1 I;rw[d]at g;cases g;exact h e A k.1
    ·have E:j<ops.size:=(Jb.1 d).1;have c:=ih j (by omega) (by omega);have C:b.getD j Ht=true:=by
      have t:j<b.size:=by omega
      simp[t]at c ⊢;exact c
     exact r j o d C e A k.1
 intro n i p u;have c:=key n i p u;by_cases z:i<b.size;simp[z]at c ⊢;exact c;simp[JK (Jz z)]at c
def Zvy (P:Program) (ops:Array Oper) (S:World->Prop) (K:Act->Prop):List Oper->Act->Prop
 | [],a=>K a
 |o::rest,a=>∃v,YieldsIf P ops S o v a/\Zvy P ops S K rest (a.put o.dst v)
end
open Go.RowKit
structure RS (N:Nat) (a:Act) (f:Nat->Value):Prop where
 d:a.defers= []
 n:a.tmps.size=N
 f:∀i,a.tmps.getD i undef=f i
def RS.put {N d:Nat} {a:Act} {f:Nat->Value} (h:RS N a f) (hd:d<N) (v:Value):RS N (a.put (Hs d) v) (upd f d v):=
 ⟨h.d,by simp[Act.put,h.n],λi=>by
  have:=h.f i;have b:=h.n;simp only[Act.put,upd,Jf,Jy]at this ⊢;by_cases e:d=i;subst e;simp[b,hd];simp[e];exact this⟩
def RS.skip {N:Nat} {a:Act} {f:Nat->Value} (h:RS N a f) (v:Value):RS N (a.put Hn v) f:=h
def LikeV (v v':Value):Prop:=v'=v\/(∃m n,v= .int .i64 m/\v'= .int .i64 n)\/ ∃m n,v= .string m/\v'= .string n
def LikeV.refl (v:Value):LikeV v v:= .inl rfl
def LikeV.trans {u v x:Value} (c:LikeV u v) (b:LikeV v x):LikeV u x:=by
 rcases c with rfl|⟨m,n,rfl,rfl⟩|⟨m,n,rfl,rfl⟩;exact b;rcases b with rfl|⟨m',n',e,rfl⟩|⟨m',n',e,rfl⟩;exact .inr (.inl ⟨_,_,rfl,rfl⟩);exact .inr (.inl ⟨_,_,rfl,rfl⟩);cases e;rcases b with rfl|⟨m',n',e,rfl⟩|⟨m',n',e,rfl⟩;exact .inr (.inr ⟨_,_,rfl,rfl⟩);cases e;exact .inr (.inr ⟨_,_,rfl,rfl⟩)
def LikeV.slice {A:Option Addr} {n c:Nat} {v:Value} (h:LikeV (.slice A n c) v):v= .slice A n c:=by
 rcases h with h|⟨m,n,e,_⟩|⟨m,n,e,_⟩;exact h;cases e;cases e
def LikeV.int {k:Int} {v:Value} (h:LikeV (.int .i64 k) v):∃n,v= .int .i64 n:=by
 rcases h with h|⟨m,n,e,h⟩|⟨m,n,e,_⟩;exact⟨_,h⟩;exact⟨_,h⟩;cases e
def LikeV.str {k:ByteArray} {v:Value} (h:LikeV (.string k) v):∃n,v= .string n:=by
 rcases h with h|⟨m,n,e,_⟩|⟨m,n,e,h⟩;exact⟨_,h⟩;cases e;exact⟨_,h⟩
structure KeepW (lo:Nat) (w w':World):Prop where
 b:BelowF (λk=>k<lo) w w'
 k:∀(b:Nat) (vs:List Value) (t:TypeId),w.heap[b]? = Hs (Obj.cells ⟨vs⟩ t (0,0))-> ∃vs':List Value,w'.heap[b]? = Hs (Obj.cells ⟨vs'⟩ t (0,0))/\vs'.length=vs.length/\ ∀o,LikeV (vs.getD o undef) (vs'.getD o undef)
def KeepW.refl (lo:Nat) (w:World):KeepW lo w w:=⟨JS _ w,λb vs t h=>⟨vs,h,rfl,λ_=> .refl _⟩⟩
def KeepW.trans {lo:Nat} {a b c:World} (g:KeepW lo a b) (e:KeepW lo b c):KeepW lo a c:=
 ⟨g.b.trans e.b,λk vs t h=>by
  obtain⟨vs',i,u,p⟩:=g.k k vs t h;obtain⟨d,y,r,q⟩:=e.k k vs' t i;exact⟨d,y,r.trans u,λo=>(p o).trans (q o)⟩⟩
end Go.PL
namespace Go.PL
open Go.RowKit
open Srt
section
variable {s:St}
theorem Gh.nilVecB {b j d sz:Nat} {e:TypeId} {cs:List PV} (E:s.m.h b=Hs cs) (z:s.m.z b=Hf) (I:j<cs.length) (t:cs.getD j .any= .sl .nil []) (hd:s.m.q d=Hn):
  Gh s (s.with { s.m.setq d (.vec 0 sz e)with h:=upd s.m.h b (Hs (cs.set j (.vsl d 0 sz))),v:=upd s.m.v d (Hs []) }):=λB S M a w C=>by
 have A:=C.blk b cs E;rw[z]at A;obtain⟨_,_,_,J⟩:=A;have q:=C.nilVec (sz:=sz) (e:=e) hd;refine⟨S,{ M with κ:=upd M.κ d 0 },q.tellBlk (i:=b) E z Ke (λk v N y=> ?_) (λc p i u=> ?_),JJ _ _ _⟩;by_cases g:j=k;subst g;rw[ZnO I];rw[t]at y;have hv:v= .slice Hn 0 0:=y.slnil_inv;subst hv;refine .vsl d 0 sz _ ⟨Hn,0,rfl,Ju _,λh=>absurd h (Qi _)⟩ λn' G L F=> ?_
 simp only[St.with,Hp.setq,Za]at F;cases F;exact⟨Ju _,λ_=>⟨rfl,λ_=>rfl,λc p=>by simp[Za]at p⟩⟩;rw[Zf7 g];exact y;rcases Kn p with p|rfl;have:=J c p i u;cases i with
 |b k=>exact this
 |r k=>
  show ZI _ _;simp only[ZI,St.with,Hp.setq]at this ⊢
  by_cases g:d=k
  ·subst g;simp[Za]
  ·rw[Zb _ _ g];exact this
 simp only[JL,Jc]at u;subst u;simp[ZI,St.with,Hp.setq,Za]
end
open Go.RowKit
section
variable {P:Program} {B:Frm} {S:Stable} {M:Maps} {s:St} {a:Act} {w:World}
theorem Zt9 (R:List (Nat×Row)) {d n sz:Nat} {e:TypeId} {es:List PV} {v:Value} {xs:List Value} (ok:(⟨[],(d,.vec n sz e)::R,[(d,es)]⟩:MemL).Ok) (hR:∀x∈R,x.2= .dead) (hB:∀k,B k->k<w.heap.size) (xa:StabS S w) (hz:∀b,¬B b->S.z b)
  (N:w.ownsRow 0 e sz v n xs) (hk:∀k,v.ownBlock=Hs k-> ¬B k/\ ∀o,S k o=Hn) (hn:es.length=n) (F:∀p∈es,p.ids= []) (J:∀p∈es,p.cells.length=sz/\p.cells.all KE=Ht)
  (T:∀i j,i<n->j<sz->Rep S (xs.getD (i*sz+j) undef) ((es.getD i .any).cells.getD j .any)):
  ∃M,Sim B S M (Zsb (⟨[],(d,.vec n sz e)::R,[(d,es)]⟩:MemL).hp) ZkX w/\RepS S M (⟨[],(d,.vec n sz e)::R,[(d,es)]⟩:MemL).hp.q v (.vsl d n sz):=by
 have qd:(⟨[],(d,.vec n sz e)::R,[(d,es)]⟩:MemL).hp.q d=Hs (.vec n sz e):=ok.q_at (x:=(d,.vec n sz e)) (by simp);have qo:∀ {i r},(⟨[],(d,.vec n sz e)::R,[(d,es)]⟩:MemL).hp.q i=Hs r->r.own=Ht->i=d/\r= .vec n sz e:=λ{i r} h Y=>by
  have E:=MemL.q_mem h;rcases JC.1 E with E|E;simp only[Qt.injEq]at E;exact E;have:=hR _ E;simp only at this;subst this;cases Y
 obtain⟨M,L⟩:∃M:Maps,(M.κ d=0/\v= .slice Hn 0 0/\n=0/\ ∀i,M.κ i=0)\/ ∃g c u,M=⟨id,λ_=>g,λ_=>c+1⟩/\v= .slice (Hs ⟨g,0,Hn⟩) n c/\w.heap[g]? = Hs (.cells u e (0,0))/\n<=c/\c<=maxLen/\u.size=c*sz/\u.toList.take (n*sz)=xs:=by
  rcases N.2 with ⟨h1,h2⟩|⟨g,c,u,h1,_,h3,h4,h5,h6,h7⟩;exact⟨⟨id,id,λ_=>0⟩,.inl ⟨rfl,h1,h2,λ_=>rfl⟩⟩;exact⟨⟨id,λ_=>g,λ_=>c+1⟩,.inr ⟨g,c,u,rfl,h1,h3,h4,h5,h6,h7⟩⟩
 have U:∀i j,i<n->j<sz-> ∀M' q,RepS S M' q (xs.getD (i*sz+j) undef) ((es.getD i .any).cells.getD j .any):=λi j G hj M' q=> .clean (T i j G hj)
 refine⟨M,⟨rfl,rfl,hB,⟨xa,λb c F=>(by cases F),λb x hx=>(by cases hx)⟩,λi=> .clean (.any _),λi id h=>(by simp[Zsb,JL]at h),λid cs h=>(by cases h),λid r h=> ?_,λid O cs cs' h=>(by cases h),λid O r r' h h' o o' k k' xb=>absurd ((qo h o).1.trans (qo h' o').1.symm) xb,λid O cs r h=>(by cases h),λb c F=>(by cases F),λid Z h=> ?_,⟨λ_ _ h=>(by cases h),λ_ _ _ _ h=>(by cases h)⟩,hz⟩,?_⟩;by_cases Y:r.own=Ht;obtain⟨rfl,rfl⟩:=qo h Y;rcases L with ⟨m1,m2,z,C⟩|⟨g,c,u,rfl,m2,z,C,V,W,X⟩;exact⟨λ_=>z,λc F=>by rw[m1]at F;cases F⟩;refine⟨λh=>(by cases h),λc' y=> ?_⟩;have:c'=c:=by simp only[Ks]at y;exact y.symm
 subst this;obtain⟨k1,k2⟩:=hk g (by rw[m2];rfl);exact⟨C,V,k1,⟨u.toList,z,W⟩,k2⟩;cases r with
 |dead=>trivial
 |_=>exact absurd rfl Y
 have E:=MemL.v_mem h;simp only[Jc,Qt.injEq]at E;obtain⟨rfl,rfl⟩:=E;refine⟨sz,e,by rw[hn];exact qd,J,λp hp i G=>(by rw[F p hp]at G;cases G),λc y vs t f xd i j G hj=> ?_⟩;rcases L with ⟨m1,m2,z,C⟩|⟨g,c1,u,rfl,m2,z,C,V,W,X⟩;rw[m1]at y;cases y;have A:w.heap[g]? = Hs (.cells ⟨vs⟩ t f):=xd;rw[z]at A;simp only[JH.injEq,Obj.cells.injEq]at A;obtain⟨rfl,_,_⟩:=A;rw[hn]at G;have xc:i*sz+j<n*sz:=by
  calc i*sz+j<i*sz+sz:=by omega
   _=(i+1)*sz:=by rw[J9,JZ]
   _<=n*sz:=Jn _ G
 have:=U i j G hj ⟨_root_.id,λ_=>g,λ_=>c1+1⟩ (⟨[],(id,.vec n sz e)::R,[(id,Z)]⟩:MemL).hp.q;rw[<-X,Ji,JU xc,<-Ji]at this;exact this;refine .vsl d n sz v ?_ λn' xe e' I=> ?_
 rcases L with ⟨m1,m2,z,C⟩|⟨g,c,u,rfl,m2,z,C,V,W,X⟩;exact⟨Hn,0,by rw[m2,z],by omega,λh=>by omega⟩;exact⟨_,c,m2,C,λ_=>⟨g,0,rfl⟩⟩;rw[qd]at I;simp only[JH.injEq,Row.vec.injEq]at I;obtain⟨rfl,rfl,rfl⟩:=I;refine⟨Ju _,λ_=>⟨rfl,λh=> ?_,λc' y=> ?_⟩⟩;rcases L with ⟨m1,m2,z,C⟩|⟨g,c,u,rfl,m2,z,C,V,W,X⟩;exact m2;cases h;rcases L with ⟨m1,m2,z,C⟩|⟨g,c,u,rfl,m2,z,C,V,W,X⟩;rw[m1]at y;cases y;have:c'=c:=by simp only[Ks]at y;exact y.symm
 subst this;exact m2
def BelowF.of_grown {B:Frm} {w w':World} {row:Option Nat} (h:w.grownBy w' row) (d:∀k,B k->k<w.heap.size) (c:∀k,row=Hs k-> ¬B k):BelowF B w w':=
 ⟨h.os,h.tape,h.output,h.size,λk b=>h.block k (d k b) λe=>c k e.symm b⟩
def StabS.grown {S:Stable} {w w':World} {row:Option Nat} (d:StabS S w) (h:w.grownBy w' row) (t:∀k,row=Hs k->(∀o,S k o=Hn)/\ ∃vs e,w'.heap[k]? = Hs (.cells vs e (0,0))/\ ∃vs' g,w.heap[k]? = Hs (.cells vs' g (0,0))):StabS S w':=
 ⟨λb o u r=>by
  have c:=d.c b o u r;have i:Hs b≠row:=λe=>by rw[(t b e.symm).1 o]at r;cases r
  rw[J8 (w:=w) (h.block b (Uo c) i)];exact c,λb es z=>by
  have c:=d.m b es z;have i:Hs b≠row:=λe=>by
   obtain⟨_,_,_,_,vs',g,p⟩:=t b e.symm;rw[p]at c;cases c
  rw[h.block b (Jb.1 c).1 i];exact c,λb i=>by
  obtain⟨q,y,c⟩:=d.y b i;by_cases e:row=Hs b;obtain⟨_,vs,g,p,_⟩:=t b e;exact⟨vs,g,p⟩;exact⟨q,y,by rw[h.block b (Jb.1 c).1 (λg=>e g.symm)];exact c⟩⟩
end
open Go.RowKit
section
variable {P:Program} {ops:Array Oper}
def Zqt (P:Program) (md:Jq) (ops:Array Oper) (E:Array Bool->St->Prop):Nat->Array Bool->St->Prop
 |0,listed,s=>E listed s
 |fuel+1,listed,s=>Jh md ops listed≠ []/\ ∀i∈Jh md ops listed,∃o s',ops[i]? = Hs o/\Xa P ops o s s'/\Zqt P md ops E fuel (listed.setIfInBounds i Ht) s'
def Gg (md:Jq) (ops:Array Oper) (k:Nat):Bool:=
 Zef md ops k&&(Jo ops.size).all λj=>decide (j<=k)||((ops[j]?).map λo=>o.after.any λe=>Jk md e&&e.on==k).getD Hf
theorem Zhb {md:Jq} {k:Nat} {b:Array Bool} (N:Gg md ops k=Ht) (g:Closed md ops b) (I:b.size=ops.size) {i:Nat} (d:i<k) (u:b.getD i Ht=Hf):∀j∈Jh md ops b,j<k:=by
 intro j R;simp only[Gg,Ja,Jg,Js,Jt,decide_eq_true_eq]at N;obtain⟨J,z⟩:=N;refine Nat.lt_of_not_le λX=> ?_
 have q:∀ {l:Nat},(∀i,i<l->b.getD i Ht=Ht)->l=k->False:=λh e=>by
  subst e;rw[h i d]at u;cases u
 by_cases A:j=k;subst A;exact q (λi d=>Zlw J g R I (j-i) i d (Ju _)) rfl;obtain⟨_,Y,r,p⟩:=mem_ready.1 R;have C:=(Jb.1 r).1;have L:=(z j C).resolve_left (by omega);rw[r]at L;simp only[Jw,JB]at L;obtain⟨e,G,c⟩:=Jp.1 L;simp only[Ja,beq_iff_eq]at c;have T:b.getD k Hf=true:=by rw[<-c.2];exact p e G c.1
 have key:∀(n i:Nat),i<=k->k-i<=n->b.getD i Hf=true:=by
  intro n;induction n with
  |zero=>
   intro i d V;have e:i=k:=by omega
   rw[e];exact T
  |succ n ih=>
   intro i d V;by_cases E:i=k;subst E;exact T;simp only[Zef,Jg,Js,Kt,Ja,decide_eq_true_eq]at J;obtain⟨x,Z,U,hd⟩:=J i (by omega);cases y:ops[x]? with
   |none=>rw[y]at hd;cases hd
   |some o=>
    rw[y]at hd;simp only[Jw,JB]at hd;obtain⟨e,G,c⟩:=Jp.1 hd;simp only[Ja,beq_iff_eq]at c;rw[<-c.2];have t:=ih x (by omega) (by omega);have W:x<ops.size:=(Jb.1 y).1;have z:b.getD x Ht=true:=by
     have F:x<b.size:=by omega
     simp[F]at t ⊢;exact t
    exact g x o y z e G c.1
 refine q (λi d=> ?_) rfl;have:=key (k-i) i (by omega) (Ju _);by_cases O:i<b.size;simp[O]at this ⊢;exact this;simp[JK (Jz O)]at this
theorem UB {md:Jq} {k:Nat} {E:Array Bool->St->Prop} (hE:∀b s,E b s-> ∀i,i<k->b.getD i Ht=Ht) (hc:Gg md ops k=Ht) {i:Nat} {z:Oper} (hi:ops[i]? = Hs z) (R:i<k):
  ∀(fuel:Nat) (b:Array Bool) (s J:St),RefsD s->Closed md ops b->b.size=ops.size->
   (∀j y,ops[j]? = Hs y->j<k->j≠i->b.getD j Ht=Hf->(∀e∈y.after,Jk md e=Ht->e.on≠i)->z.apart ops y=Ht/\compat z.op y.op=Ht)->
   i∈Jh md ops b->Xa P ops z s J->
   Zqt P md ops E fuel (b.setIfInBounds i Ht) J->Zqt P md ops E (fuel+1) b s:=by
 intro fuel;induction fuel with
 |zero=>
  intro b s J hR r t _ u V H;refine⟨λh=>(by rw[h]at u;cases u),λj F=> ?_⟩;by_cases c:j=i;subst c;exact⟨z,J,hi,V,H⟩;exfalso;have d:=Zhb hc r t R (mem_ready.1 u).1 j F;have p:=hE _ _ H j d;rw[getD_set_ne Ht (J6 c),(mem_ready.1 F).1]at p;cases p
 |succ fuel ih=>
  intro b s J hR r t g u V H;refine⟨λh=>(by rw[h]at u;cases u),λj F=> ?_⟩;by_cases c:j=i;subst c;exact⟨z,J,hi,V,H⟩;have d:=Zhb hc r t R (mem_ready.1 u).1 j F;obtain⟨y,s2,I,X,p⟩:=H.2 j (ready_mono F c);obtain⟨A,xe,C,O⟩:=mem_ready.1 F;rw[I]at C;cases C;have L:∀e∈y.after,Jk md e=Ht->e.on≠i:=λe he hb xd=>by
   have p:=O e he hb;have h0:=(mem_ready.1 u).1;rw[xd]at p;rcases KB i b.size with h'|h';simp[h']at h0 p;rw[h0]at p;cases p;simp[JK h']at p
  obtain⟨Z,xa⟩:=g j y I d c A L;obtain⟨T,N,xc⟩:=SV hR.refs Z xa V X;have q:∀G ok,ops[G]? = Hs ok->G<k->G≠i->(b.setIfInBounds j Ht).getD G Ht=Hf->
    (∀e∈ok.after,Jk md e=Ht->e.on≠i)->z.apart ops ok=Ht/\compat z.op ok.op=true:=λG ok hk W xb U Y=>by
   refine g G ok hk W xb ?_ Y
   by_cases d:j=G
   ·subst d;exact A
   ·rw[getD_set_ne Ht d]at U;exact U
  refine⟨y,T,I,N,ih (b.setIfInBounds j Ht) T s2 (Z9 hR N) (r.step F) (by simpa using t) q (ready_mono u (J6 c)) xc ?_⟩;rw[JM _ _ c];exact p
def Zrb (md:Jq) (ops:Array Oper) (k:Nat) (b:Array Bool) (i:Nat):Bool:=
 match ops[i]? with
 |none=>Hf
 |some oi=>(Jo k).all λj=>j==i||b.getD j Ht||match ops[j]? with
   |some oj=>oj.after.any (λe=>Jk md e&&e.on==i)||(oi.apart ops oj&&compat oi.op oj.op)
   |none=>Ht
def SB {md:Jq} {k i:Nat} {t:Oper} {b:Array Bool} (z:ops[i]? = Hs t) (h:Zrb md ops k b i=Ht) (j:Nat) (d:Oper)
  (A:ops[j]? = Hs d) (p:j<k) (g:j≠i) (r:b.getD j Ht=Hf) (u:∀e∈d.after,Jk md e=Ht->e.on≠i):
  t.apart ops d=Ht/\compat t.op d.op=true:=by
 simp only[Zrb,z,Jg,Js]at h;have c:=h j p;simp only[A,Jt,beq_iff_eq,g,false_or,r,JV]at c;rcases c with c|c;obtain⟨e,y,q⟩:=Jp.1 c;simp only[Ja,beq_iff_eq]at q;exact absurd q.2 (u e y q.1);simpa using c
def Zad (md:Jq) (ops:Array Oper) (n:Nat):Nat->Nat->Array Bool->Bool
 |0,_,_=>Ht
 |fuel+1,k,listed=>(Jh md ops listed).contains k&&Zrb md ops n listed k&&Zad md ops n fuel (k+1) (listed.setIfInBounds k Ht)
def Zs7 (k:Nat) (ops:Array Oper):Bool:=decide (k<=ops.size)&&Gg .any ops k&&Zad .any ops k k 0 (Je ops.size Hf)
theorem Zd6 {md:Jq} {n:Nat} {E:Array Bool->St->Prop} (q:∀listed s,E listed s-> ∀i,i<n->listed.getD i Ht=Ht) (p:Gg md ops n=Ht):∀(l:List Oper) (k:Nat) (listed:Array Bool) (s:St),RefsD s->Closed md ops listed->listed.size=ops.size->k+l.length=n->(∀j,j<l.length->l[j]? = ops[k+j]?)->
  Zad md ops n l.length k listed=Ht->Ze4 P ops (E ((Jr k l.length).foldl (λa i=>a.setIfInBounds i Ht) listed)) l s->Zqt P md ops E l.length listed s
 | [],_,_,_,_,_,_,_,_,_,h=>h
 |o::l,k,listed,s,hR,hcl,hsz,hk,hl,hB,h=>by
  have r:ops[k]? = Hs o:=by simpa using(hl 0 (by simp)).symm
  simp only[JP]at hk;simp only[JP,Zad,Ja]at hB;obtain⟨⟨A,y⟩,d⟩:=hB;have c:k∈Jh md ops listed:=by simpa using A
  obtain⟨hd,h⟩:=h;have e:∀j,j<l.length->l[j]? = ops[(k+1)+j]? :=λj z=>by have:=hl (j+1) (by simpa using z);simpa[Kq,KC 1 j]using this
  simp only[JP,Kx,List.foldl_cons]at h;rcases h with ⟨t,v,m',u,b⟩|⟨t,b⟩;have g:Xa P ops o s ((s.with m').put o.dst v):=⟨hd,.inl ⟨t,v,m',u,rfl⟩⟩;exact UB q p r (by omega) l.length listed s _ hR hcl hsz (SB r y) c g (Zd6 q p l (k+1) _ _ (Z9 hR g) (hcl.step c) (by simpa using hsz) (by omega) e d b);have g:Xa P ops o s (s.put o.dst (.tup [])):=⟨hd,.inr ⟨t,rfl⟩⟩;exact UB q p r (by omega) l.length listed s _ hR hcl hsz (SB r y) c g (Zd6 q p l (k+1) _ _ (Z9 hR g) (hcl.step c) (by simpa using hsz) (by omega) e d b)
theorem Ss {K:St->Prop} {E:Array Bool->St->Prop} {m:Nat} (g:∀b s,E b s->Zht P ops K m b s):∀(fuel:Nat) (b:Array Bool) (s:St),Zqt P .any ops E fuel b s->Zht P ops K (m+fuel) b s
 |0,b,s,h=>g _ _ h
 |fuel+1,b,s,h=>λB Qc S0 w0 y S M a w c t=>⟨λF=>absurd F h.1,λi C=>by
   obtain⟨o,s',z,d,r⟩:=h.2 i C;unfold wpOp;simp only[z];obtain⟨hd,d⟩:=d;rcases d with ⟨e,v,m',p,rfl⟩|⟨e,rfl⟩;rw[Te c e,if_pos rfl];exact .inl (X8 c (YD hd) p _ _ λu w' S' A q k=>Ss g fuel _ _ r B Qc S0 w0 y S' A _ w' q (t.trans k));rw[Te c e,if_neg (by simp)];exact Ss g fuel _ _ r B Qc S0 w0 y S M _ w (Tp c hd) t⟩
theorem SJ {n i:Nat}:∀(L:List Nat) (b:Array Bool),(b.getD i Ht=Ht\/i∈L)->(XC b L).getD i Ht=Ht
 | [],b,h=>h.resolve_right (by simp)
 |j::L,b,h=>SJ (n:=n) L _ (by
  by_cases e:j=i;subst e;left;simp only[Jf,Jy];split;split<;>simp
  rename_i h;exact absurd trivial h;rcases h with h|h;left;rw[getD_set_ne Ht e];exact h;right;rcases JC.1 h with rfl|h;exact absurd rfl e;exact h)
theorem Da {K K':St->Prop} (c:∀s,K s->K' s):∀(l:List Oper) (s:St),Ze4 P ops K l s->Ze4 P ops K' l s
 | [],s,h=>c s h
 |o::rest,s,⟨hd,h⟩=>⟨hd,by
  rcases h with ⟨d,v,m',e,b⟩|⟨d,b⟩;exact .inl ⟨d,v,m',e,Da c rest _ b⟩;exact .inr ⟨d,Da c rest _ b⟩⟩
def Zxe {id:Nat} {l:List Oper} {Q:Exit->St->Prop} {s:St} (k:Nat) (L:P.follows .mixedOrders=Ht) (q:Zs7 k l.toArray=Ht)
  (h:∀u,u=l.take k-> @vA P Hf ⟨@Zsp P (Jo k) ⟨@vQ ⟨Q⟩ .normal⟩ ⟨l⟩⟩ ⟨l⟩ ⟨u⟩ s):awp P (.region id l.toArray Ht) Q s:=λB S M a w z=>by
 have h:=h _ rfl;simp only[Zs7,Ja,decide_eq_true_eq,K5]at q;obtain⟨⟨V,y⟩,q⟩:=q;have c:(l.take k).length=k:=by simp;omega
 refine Zm5 (P:=P) (ops:=l.toArray) (Q:=Q) L ?_ B S M a w z;intro B' Qc S0 w0 C S' G R w' g r;have T:Jr 0 (l.take k).length=Jo k:=by rw[c,Ka]
 have A:=Uy _ s h;let E:Array Bool->St->Prop:=λb s=>b=XC (Je l.length Hf) (Jo k)/\ @Zsp P (Jo k) ⟨@vQ ⟨Q⟩ .normal⟩ ⟨l⟩ s
 have I:∀b s,E b s-> ∀i,i<k->b.getD i Ht=true:=λb s h i O=>by
  rw[h.1];exact SJ (n:=0) _ _ (.inr (Js.2 O))
 have F:=Zd6 (P:=P) (md:= .any) (n:=k) (E:=E) I y (l.take k) 0 (Je l.length Hf) s g.refsD (λx U J N=>by
  have p:=(Jb.1 J).1;simp at p;simp[p]at N) (by simp) (by rw[c];omega) (λj t=>by
   rw[c]at t;simp[t]) (by rw[c];exact q) (by
   rw[T];exact Da (λs h=>⟨rfl,h⟩) _ _ A)
 have d:=Ss (P:=P) (K:=@vQ ⟨Q⟩ .normal) (E:=E) (m:=l.length-k) (λb s h=>by
  obtain⟨rfl,h⟩:=h;have h:Zht P l.toArray _ (l.length-(Jo k).length) _ s:=h;simpa using h) _ _ s F
 rw[c]at d;have e:l.length-k+k=l.toArray.size:=by simp;omega
 rw[e]at d;have d:=d B' Qc S0 w0 C S' G R w' g r;simpa using d
theorem Df {K K':St->Prop} (c:∀s,K s->K' s):∀(l:List Oper) (s:St),Ze5 P ops K l s->Ze5 P ops K' l s
 | [],s,h=>c s h
 |o::rest,s,⟨hd,h⟩=>⟨hd,by
  rcases h with ⟨d,⟨v,m',g,b⟩|e⟩|⟨d,b⟩;exact .inl ⟨d,.inl ⟨v,m',g,Df c rest _ b⟩⟩;exact .inl ⟨d,.inr (Zg3 (λs h=>Df c rest s h) e)⟩;exact .inr ⟨d,Df c rest _ b⟩⟩
def Zuj (k:Nat) (l:List Oper):Bool:=decide (k<=l.length)&&ZjF l.toArray (Jr k (l.length-k)) (XC (Je l.length Hf) (Jo k))&&(Jh .any l.toArray (XC (XC (Je l.length Hf) (Jo k)) (Jr k (l.length-k)))).isEmpty
def Zxf {l:List Oper} {K:KS} {s:St} (k:Nat) (b:Zuj k l=Ht) (h:∀d,d=l.drop k-> @vA P Ht K ⟨l⟩ ⟨d⟩ s):@Zsp P (Jo k) K ⟨l⟩ s:=by
 have h:=h _ rfl;simp only[Zuj,Ja,List.isEmpty_iff,decide_eq_true_eq]at b;obtain⟨⟨t,c⟩,p⟩:=b;have r:=Vv _ s h;have q:Ze5 P l.toArray (Zht P l.toArray K.k 0 (XC (XC (Je l.length Hf) (Jo k)) (Jr k (l.length-k)))) (l.drop k) s:=Df (λs h=>ZsD p h) _ _ r;have e:=Zkv (Jr k (l.length-k)) (l.drop k) _ s c (by
  refine Ky (by simp) λi g c=> ?_
  simp at g ⊢) q
 unfold Zsp;simp only[KT]at e;simpa using e
end
open Go.RowKit
section
variable {P:Program} {ops:Array Oper}
def FW:Op->Bool
 | .move _| .fieldAddr .. | .load .. | .nilCheck _| .indexAddr .. =>Ht
 |_=>Hf
def FD:Op->Bool
 | .alloc _=>Ht
 |o=>FW o
def ZuX (P:Program) (ops:Array Oper) (L:List Nat) (F:Array Bool->St->Prop):Nat->Array Bool->St->Prop
 |0,listed,s=>F listed s
 |fuel+1,listed,s=>(∃i∈Jh .any ops listed,i∈L)/\ ∀i∈Jh .any ops listed,i∈L-> ∃o s',ops[i]? = Hs o/\Xa P ops o s s'/\ZuX P ops L F fuel (listed.setIfInBounds i Ht) s'
def Zth (o:Oper) (i:Nat):Bool:=o.after.any λe=>Jk .any e&&e.on==i
def ZgE (ops:Array Oper) (L:List Nat) (n:Nat):Bool:=L.all λi=>(Jo n).all λj=>j==i||match ops[i]?,ops[j]? with
 |some oi,Hs oj=>Zth oj i||Zth oi j||(oi.apart ops oj&&compat oi.op oj.op)
 |_,_=>Hf
def Fh {L:List Nat} {n i j:Nat} {g d:Oper} (h:ZgE ops L n=Ht) (r:i∈L) (t:j<n) (k:j≠i) (ei:ops[i]? = Hs g) (u:ops[j]? = Hs d) (q:∀e∈d.after,Jk .any e=Ht->e.on≠i) (y:∀e∈g.after,Jk .any e=Ht->e.on≠j):
  g.apart ops d=Ht/\compat g.op d.op=true:=by
 simp only[ZgE,Jg,Js]at h;have b:=h i r j t;simp only[ei,u,Jt,beq_iff_eq,k,false_or]at b;rcases b with (b|b)|b;obtain⟨e,p,c⟩:=Jp.1 b;simp only[Ja,beq_iff_eq]at c;exact absurd c.2 (q e p c.1);obtain⟨e,p,c⟩:=Jp.1 b;simp only[Ja,beq_iff_eq]at c;exact absurd c.2 (y e p c.1);simpa using b
def UT {b:Array Bool} {i j:Nat} {p:Oper} (z:i∈Jh .any ops b) (y:ops[i]? = Hs p) (q:b.getD j Ht=Hf):∀e∈p.after,Jk .any e=Ht->e.on≠j:=λe u r h=>by
 obtain⟨_,t,g,d⟩:=mem_ready.1 z;rw[y]at g;cases g;have c:=d e u r;rw[h]at c;rcases KB j b.size with k|k;simp[k]at q c;rw[q]at c;cases c;simp[JK k]at c
theorem DQ {L:List Nat} {n:Nat} {F:Array Bool->St->Prop} (R:∀b s,F b s-> ∀i∈L,b.getD i Ht=Ht) (hp:ZgE ops L n=Ht) (G:∀i∈L,i<n) {i:Nat} {t:Oper} (z:ops[i]? = Hs t) (e:i∈L):
  ∀(fuel:Nat) (b:Array Bool) (s h:St),RefsD s->i∈Jh .any ops b->Xa P ops t s h->
   ZuX P ops L F fuel (b.setIfInBounds i Ht) h->ZuX P ops L F (fuel+1) b s:=by
 intro fuel;induction fuel with
 |zero=>
  intro b s h J k y H;refine⟨⟨i,k,e⟩,λj p d=> ?_⟩;by_cases c:j=i;subst c;exact⟨t,h,z,y,H⟩;exfalso;have u:=R _ _ H j d;rw[getD_set_ne Ht (J6 c),(mem_ready.1 p).1]at u;cases u
 |succ fuel ih=>
  intro b s h J k y H;refine⟨⟨i,k,e⟩,λj p d=> ?_⟩;by_cases c:j=i;subst c;exact⟨t,h,z,y,H⟩;obtain⟨O,N,g,A,u⟩:=H.2 j (ready_mono p c) d;obtain⟨C,E⟩:=Fh hp e (G j d) c z g (UT p g (mem_ready.1 k).1) (UT k z (mem_ready.1 p).1);obtain⟨r,q,I⟩:=SV J.refs C E y A;refine⟨O,r,g,q,ih (b.setIfInBounds j Ht) r N (Z9 J q) (ready_mono k (J6 c)) I ?_⟩;rw[JM _ _ c];exact u
def Zxv (ops:Array Oper):List Nat->Array Bool->Bool
 | [],_=>Ht
 |i::is,listed=>(Jh .any ops listed).contains i&&Zxv ops is (listed.setIfInBounds i Ht)
theorem Zd7 {L:List Nat} {n:Nat} {F:Array Bool->St->Prop} (q:∀listed s,F listed s-> ∀i∈L,listed.getD i Ht=Ht) (hp:ZgE ops L n=Ht) (c:∀i∈L,i<n):∀(is:List Nat) (l:List Oper) (listed:Array Bool) (s:St),RefsD s->(∀i∈is,i∈L)->is.map (λi=>ops[i]?)=l.map Hs->
  Zxv ops is listed=Ht->Ze4 P ops (F (XC listed is)) l s->ZuX P ops L F is.length listed s
 | [],[],_,_,_,_,_,_,h=>h
 | [],_::_,_,_,_,_,h,_,_=>by simp at h
 |_::_,[],_,_,_,_,h,_,_=>by simp at h
 |i::is,o::l,listed,s,hR,hi,hl,hB,h=>by
  simp only[JO,Qm.injEq]at hl;obtain⟨y,e⟩:=hl;simp only[Zxv,Ja]at hB;obtain⟨z,d⟩:=hB;have p:i∈Jh .any ops listed:=by simpa using z
  have k:=hi i (by simp);obtain⟨hd,h⟩:=h;rcases h with ⟨r,v,m',u,b⟩|⟨r,b⟩;have g:Xa P ops o s ((s.with m').put o.dst v):=⟨hd,.inl ⟨r,v,m',u,rfl⟩⟩;exact DQ q hp c y k is.length listed s _ hR p g (Zd7 q hp c is l _ _ (Z9 hR g) (λj t=>hi j (by simp[t])) e d b);have g:Xa P ops o s (s.put o.dst (.tup [])):=⟨hd,.inr ⟨r,rfl⟩⟩;exact DQ q hp c y k is.length listed s _ hR p g (Zd7 q hp c is l _ _ (Z9 hR g) (λj t=>hi j (by simp[t])) e d b)
def Zrr (ops:Array Oper) (n:Nat):List Nat->Array Bool->Bool
 | [],_=>Ht
 |i::is,listed=>(Jh .any ops listed).contains i&&Zrb .any ops n listed i&&Zrr ops n is (listed.setIfInBounds i Ht)
theorem ZaE {n:Nat} {E:Array Bool->St->Prop} (q:∀listed s,E listed s-> ∀i,i<n->listed.getD i Ht=Ht) (p:Gg .any ops n=Ht):∀(is:List Nat) (l:List Oper) (listed:Array Bool) (s:St),RefsD s->Closed .any ops listed->listed.size=ops.size->(∀i∈is,i<n)->is.map (λi=>ops[i]?)=l.map Hs->
  Zrr ops n is listed=Ht->Ze4 P ops (E (XC listed is)) l s->Zqt P .any ops E is.length listed s
 | [],[],_,_,_,_,_,_,_,_,h=>h
 | [],_::_,_,_,_,_,_,_,h,_,_=>by simp at h
 |_::_,[],_,_,_,_,_,_,h,_,_=>by simp at h
 |i::is,o::l,listed,s,hR,hcl,hsz,hi,hl,hB,h=>by
  simp only[JO,Qm.injEq]at hl;obtain⟨r,e⟩:=hl;simp only[Zrr,Ja]at hB;obtain⟨⟨A,z⟩,d⟩:=hB;have c:i∈Jh .any ops listed:=by simpa using A
  have k:=hi i (by simp);obtain⟨hd,h⟩:=h;rcases h with ⟨t,v,m',y,b⟩|⟨t,b⟩;have g:Xa P ops o s ((s.with m').put o.dst v):=⟨hd,.inl ⟨t,v,m',y,rfl⟩⟩;exact UB q p r k is.length listed s _ hR hcl hsz (SB r z) c g (ZaE q p is l _ _ (Z9 hR g) (hcl.step c) (by simpa using hsz) (λj u=>hi j (by simp[u])) e d b);have g:Xa P ops o s (s.put o.dst (.tup [])):=⟨hd,.inr ⟨t,rfl⟩⟩;exact UB q p r k is.length listed s _ hR hcl hsz (SB r z) c g (ZaE q p is l _ _ (Z9 hR g) (hcl.step c) (by simpa using hsz) (λj u=>hi j (by simp[u])) e d b)
def ZmQ (m:Hp) (d n sz:Nat) (e:TypeId) (es:List PV):Hp:= { m.setq d (.vec n sz e)with v:=upd m.v d (Hs es) }
theorem Zog {m:Hp} {d n sz:Nat} {e:TypeId} {es:List PV} {r:Ref} (h:ZI m r):ZI (ZmQ m d n sz e es) r:=by
 cases r with
 |b i=>exact h
 |r i=>
  show upd m.q d _ i≠Hn;by_cases e:d=i;subst e;rw[Za];simp;rw[Zb _ _ e];exact h
variable {o oe:Oper} {s s':St} {v:PV} {f:Hp->Hp} {x:Bool}
theorem Un {ρ ρ':Operand->PV} {o:Oper} {c:Call} (d:o.op= .call c) (h:∀x∈o.op.operands,ρ x=ρ' x):ZJ ρ c=ZJ ρ' c:=by
 rw[d]at h;unfold ZJ;cases b:c.callee with
 |value f=>
  have e:ρ f=ρ' f:=h f (by simp[KP,Call.operands,b]);have i:c.args.toList.map ρ'=c.args.toList.map ρ:=KQ λx g=>(h x (by simp[KP,Call.operands];right;simpa using g)).symm
  simp only[e,i]
 |_=>rfl
def F5 (c:FW o.op=Ht) {ρ:Operand->PV} {m:Hp} (b:(aop P o ρ m).ok):(aop P o ρ m).m=m:=by
 obtain⟨dst,op,ty,pos,d,guard⟩:=o;cases op<;>first|(simp[FW]at c;done)|skip
 rfl;simp only[aop]at b ⊢;split at b;rename_i h;rw[if_pos h];unfold VO at b ⊢;split at b<;>first|rfl|skip
 split at b<;>first|rfl|exact b.elim
 split at b<;>first|rfl|exact b.elim
 exact b.elim;exact b.elim;simp only[aop]at b ⊢;unfold XG at b ⊢;split at b<;>first|rfl|exact b.elim
 simp only[aop]at b ⊢;unfold YH at b ⊢;split at b<;>first|rfl|exact b.elim
 simp only[aop]at b ⊢;unfold YI at b ⊢;split at b<;>first|rfl|exact b.elim
theorem Zqv {ρ:Operand->PV} {m m':Hp} (e:FW o.op=Ht) (b:(aop P o ρ m).ok) (g:m'.h=m.h) (hv:∀x∈o.op.operands,∀i,.r i∈(ρ x).ids->m'.v i=m.v i):
  (aop P o ρ m').ok/\(aop P o ρ m').v=(aop P o ρ m).v:=by
 obtain⟨dst,op,ty,pos,k,guard⟩:=o;cases op<;>first|(simp[FW]at e;done)|skip
 exact⟨trivial,rfl⟩;rename_i t x;have c:=hv x (by simp[KP]);simp only[aop]at b ⊢;split at b;rename_i h;rw[if_pos h,if_pos h];cases hv:ρ x with
 |vptr id n' sz' i off=>
  rw[hv]at c b;have d:=c id (by simp[JL]);simp only[VO,d]at b ⊢;split at b
  ·exact⟨b,rfl⟩
  ·exact b.elim
 |ptr id off=>
  rw[hv]at b;simp only[VO,g]at b ⊢;split at b
  ·exact⟨b,rfl⟩
  ·exact b.elim
 |rptr cs=>rw[hv]at b;exact⟨b,rfl⟩
 |_=>rw[hv]at b;exact b.elim
 exact b.elim;simp only[aop]at b ⊢;unfold XG at b ⊢;split at b<;>first|exact⟨b,rfl⟩|exact b.elim
 simp only[aop]at b ⊢;unfold YH at b ⊢;split at b<;>first|exact⟨b,rfl⟩|exact b.elim
 simp only[aop]at b ⊢;unfold YI at b ⊢;split at b<;>first|exact⟨b,rfl⟩|exact b.elim
structure Near (n:Nat) (m m':Hp):Prop where
 q:m'.q=m.q
 v:m'.v=m.v
 h:∀i,n<=i->m'.h i=m.h i/\m'.z i=m.z i
def Near.refl (n:Nat) (m:Hp):Near n m m:=⟨rfl,rfl,λ_ _=>⟨rfl,rfl⟩⟩
def Near.trans {n:Nat} {a b c:Hp} (h:Near n a b) (e:Near n b c):Near n a c:=⟨e.q.trans h.q,e.v.trans h.v,λi d=>⟨(e.h i d).1.trans (h.h i d).1,(e.h i d).2.trans (h.h i d).2⟩⟩
def Near.symm {n:Nat} {a b:Hp} (h:Near n a b):Near n b a:=⟨h.q.symm,h.v.symm,λi c=>⟨(h.h i c).1.symm,(h.h i c).2.symm⟩⟩
theorem Zfs {dst:Option Tmp} {t:TypeId} {ty:TypeId} {pos:String} {c:Array Edge} {guard:Option (Nat×Bool)} {ρ:Operand->PV} {m:Hp} (h:(aop P ⟨dst,.alloc t,ty,pos,c,guard⟩ ρ m).ok):
  ∃d z,dst=Hs d/\m.h d=Hn/\ ∀m2 ρ2,aop P ⟨dst,.alloc t,ty,pos,c,guard⟩ ρ2 m2=⟨m2.h d=Hn,.ptr d 0,m2.new d z⟩:=by
 cases dst with
 |none=>exact h.elim
 |some d=>
  have e:∀ρ2 m2,aop P ⟨Hs d,.alloc t,ty,pos,c,guard⟩ ρ2 m2=(match XT P t with|some z=>⟨m2.h d=Hn,.ptr d 0,m2.new d z⟩|none=> .fail):=λρ2 m2=>by
   simp only[aop];cases XT P t<;>rfl
  rw[e]at h;cases b:XT P t with
  |none=>rw[b]at h;exact h.elim
  |some z=>
   rw[b]at h;exact⟨d,z,rfl,h,λm2 ρ2=>by rw[e,b]⟩
def Gx (e:FD o.op=Ht) (q:o.guard=Hn) (h:Xa P ops o s s'):Gk s.n o.dst/\(aop P o s.eval s.m).ok/\s'=(s.with (aop P o s.eval s.m).m).put o.dst (aop P o s.eval s.m).v/\Near s.n s.m (aop P o s.eval s.m).m:=by
 obtain⟨g,⟨_,v,m',b,rfl⟩|⟨b,_⟩⟩:=h;rcases b with ⟨b,rfl,rfl⟩|⟨c,_,_,b,_⟩;refine⟨g,b,rfl,?_⟩;by_cases p:FW o.op=Ht;rw[F5 p b];exact .refl _ _
 ·obtain⟨dst,op,ty,pos,u,guard⟩:=o;cases op<;>first|(simp[FD,FW]at e p;done)|skip
  obtain⟨d,z,rfl,t,r⟩:=Zfs b;rw[r];have hd:d<s.n:=g;exact⟨rfl,rfl,λi k=>⟨Zb s.m.h (Hs z) (Qp (JQ hd k)),Zb s.m.z Hf (Qp (JQ hd k))⟩⟩
 rw[b]at e;simp[FD,FW]at e;simp[gd,q]at b
theorem Zgb {es:List PV} (h:JR es= []):∀p∈es,p.ids= []:=λp hp=>by
 cases b:p.ids with
 |nil=>rfl
 |cons x l=>
  have:x∈JR es:=Qq.2 ⟨p,hp,Wk _ (by rw[b];simp)⟩;rw[h]at this;cases this
def Zbk (ops:Array Oper) (L:List Nat):Bool:=L.all λi=>((ops[i]?).map λo=>FD o.op&&o.guard.isNone).getD Hf
def Zgn {L:List Nat} {i:Nat} (h:Zbk ops L=Ht) (b:i∈L) (ei:ops[i]? = Hs o):FD o.op=Ht/\o.guard=none:=by
 simp only[Zbk,Jg]at h;have:=h i b;simp only[ei,Jw,JB,Ja,Option.isNone_iff_eq_none]at this;exact this
def Zbl:Op->Bool
 | .load .. =>Hf
 |_=>Ht
def Ztu (ops:Array Oper):Nat->Nat->Nat->Bool
 |0,_,_=>Hf
 |fuel+1,i,j=>((ops[j]?).map λo=>o.after.any λe=>Jk .any e&&(e.on==i||Ztu ops fuel i e.on)).getD Hf
def ZeR (ops:Array Oper) (j:Nat):Bool:=(Jo ops.size).all λi=>((ops[i]?).map λo=>Zbl o.op).getD Ht||Ztu ops ops.size i j
theorem ZcO {c:Array Bool} (k:Closed .any ops c) {i:Nat}:∀(fuel j:Nat) (t:Oper),ops[j]? = Hs t->(∀e∈t.after,Jk .any e=Ht->c.getD e.on Hf=Ht)->Ztu ops fuel i j=Ht->c.getD i Hf=Ht
 |0,_,_,_,_,h=>by simp[Ztu]at h
 |fuel+1,j,t,hj,hall,h=>by
  unfold Ztu at h;rw[hj]at h;simp only[Jw,JB]at h;obtain⟨e,A,r⟩:=Jp.1 h;simp only[Ja,Jt,beq_iff_eq]at r;have d:=hall e A r.1;rcases r.2 with g|g;rw[<-g];exact d;cases p:ops[e.on]? with
  |none=>
   cases fuel with
   |zero=>simp[Ztu]at g
   |succ fuel=>simp[Ztu,p]at g
  |some ox=>
   refine ZcO k fuel e.on ox p (λz u q=>k e.on ox p ?_ z u q) g;rw[Jf]at d ⊢;cases y:c[e.on]? with
   |none=>rw[y]at d;simp at d
   |some b=>rw[y]at d;simpa using d
theorem Zg7 {c:Array Bool} {i j:Nat} {y:Oper} (h:ZeR ops j=Ht) (u:Closed .any ops c) (F:j∈Jh .any ops c) (E:i∈Jh .any ops c) (ei:ops[i]? = Hs y):Zbl y.op=true:=by
 simp only[ZeR,Jg,Js]at h;have k:=h i (Jb.1 ei).1;rw[ei]at k;simp only[Jw,JB,Jt]at k;refine k.resolve_right λz=> ?_
 obtain⟨_,t,p,g⟩:=mem_ready.1 F;have d:=ZcO u _ j t p (λe C A=>by have:=g e C A;simpa using this) z;have q:=(mem_ready.1 E).1;rw[Jf]at d;cases r:c[i]? with
 |none=>rw[r]at d;simp at d
 |some b=>
  rw[r]at d;simp[r]at d q;rw[d]at q;cases q
def Zlm:Op->Bool
 | .build .. | .move _| .fieldAddr .. | .nilCheck _| .indexAddr .. =>Ht
 |_=>Hf
theorem Zd9 (c:Zlm o.op=Ht) {ρ:Operand->PV} {m:Hp} (b:(aop P o ρ m).ok) (m2:Hp):(aop P o ρ m2).ok/\(aop P o ρ m2).v=(aop P o ρ m).v/\(aop P o ρ m2).m=m2:=by
 obtain⟨dst,op,ty,pos,d,guard⟩:=o;cases op with
 |build t ps=>
  simp only[aop]at b ⊢;unfold S7 at b ⊢;split at b<;>first|exact b.elim|(split at b<;>first|exact⟨b,rfl,rfl⟩|exact b.elim)
 |move x=>exact⟨trivial,rfl,rfl⟩
 |nilCheck x=>
  simp only[aop]at b ⊢;unfold XG at b ⊢;split at b<;>first|exact⟨b,rfl,rfl⟩|exact b.elim
 |fieldAddr t x f=>
  simp only[aop]at b ⊢;unfold YH at b ⊢;split at b<;>first|exact⟨b,rfl,rfl⟩|exact b.elim
 |indexAddr t x i=>
  simp only[aop]at b ⊢;unfold YI at b ⊢;split at b<;>first|exact⟨b,rfl,rfl⟩|exact b.elim
 |_=>simp[Zlm]at c
def reM (m:Hp) (d d2 n sz:Nat) (e:TypeId) (es:List PV):Hp:= { m with q:=upd (upd m.q d (Hs .dead)) d2 (Hs (.vec n sz e)),v:=upd (upd m.v d Hn) d2 (Hs es) }
theorem Zrt {m:Hp} {d d2 n sz:Nat} {e:TypeId} {es:List PV} {r:Ref} (h:ZI m r):ZI (reM m d d2 n sz e es) r:=by
 cases r with
 |b i=>exact h
 |r i=>
  show upd (upd m.q d _) d2 _ i≠Hn;by_cases c:d2=i;subst c;rw[Za];simp;rw[Zb _ _ c];by_cases g:d=i;subst g;rw[Za];simp;rw[Zb _ _ g];exact h
def ZrS (y:RefsD s) {d d2 n sz:Nat} {e:TypeId} {es:List PV} (A:∀r∈JR es,ZI s.m r):RefsD ((s.with (reM s.m d d2 n sz e es)).put oe.dst (.vsl d2 n sz)):=by
 have t:∀r,ZI s.m r->ZI (reM s.m d d2 n sz e es) r:=λr h=>Zrt h
 have z:((s.with (reM s.m d d2 n sz e es)).put oe.dst (.vsl d2 n sz)).m=reM s.m d d2 n sz e es:=UQ _ _ _;have hd:ZI (reM s.m d d2 n sz e es) (.r d2):=by show upd _ d2 _ d2≠Hn;rw[Za];simp
 refine⟨λi k g=> ?_,λi cs u c p k g=> ?_,λb c p k g=> ?_,λb x c E p k g=> ?_,λi es' u k g=> ?_,λb c p k g=> ?_⟩;rw[z];by_cases F:oe.dst=Hs i;have:((s.with (reM s.m d d2 n sz e es)).put oe.dst (.vsl d2 n sz)).fr i= .vsl d2 n sz:=by rw[F];exact Za _ _ _
 rw[this]at g;simp only[Kg,Jc]at g;subst g;exact hd;have:((s.with (reM s.m d d2 n sz e es)).put oe.dst (.vsl d2 n sz)).fr i=s.fr i:=FG F;rw[this]at g;exact t _ (y.fr i k g);rw[z]at u ⊢;exact t _ (y.h i cs u c p k g);rw[z]at p ⊢;exact t _ (y.o b c p k g);rw[z]at E;exact y.it b x c E p k g;rw[z]at u ⊢;by_cases G:d2=i;subst G;have:es'=es:=by
  have q:upd _ d2 (Hs es) d2=Hs es':=u;rw[Za]at q;exact(JH.inj q).symm
 subst this;exact t _ (A k g);have q:upd (upd s.m.v d Hn) d2 (Hs es) i=Hs es':=u;rw[Zb _ _ G]at q;by_cases C:d=i;subst C;rw[Za]at q;cases q;rw[Zb _ _ C]at q;exact t _ (y.v i es' q k g);rw[z]at p ⊢;exact t _ (y.om b c p k g)
inductive CK (P:Program) (o:Oper) (s:St):Bool->PV->(Hp->Hp)->Prop
 |call (c:Call) (g:FuncId) (args args0:List PV) (r0:PV) (i d n sz:Nat) (e:TypeId) (es:List PV) (hop:o.op= .call c) (hcl:ZJ s.eval c=Hs (g,args)) (hg:∀m,K3 m args=args0) (ha:∀p∈args0,p.ids= []) (h1:Eff P g args0 noV r0 (Zcx i n sz e es)) (hq:s.m.q d=Hn) (hes:JR es= []) (hr:∀j∈(r0.ren (λ_=>d) id).dids,j= .r d):
   CK P o s Hf (r0.ren (λ_=>d) id) (λm=>ZmQ m d n sz e es)
 |lit (t:TypeId) (len:Nat) (parts:Array (Nat×Operand)) (d:Nat) (ei:EInfo) (hop:o.op= .buildSlice t len parts) (hd:o.dst=Hs d) (ht:XS P t=Hs ei) (hq:s.m.q d=Hn) (hl:len=(parts.toList.map λx=>(x.1,s.eval x.2)).length) (hs:len*ei.size<=16777216) (hp:T5 ei.size d 0 (parts.toList.map λx=>(x.1,s.eval x.2))):
   CK P o s Hf (.vsl d len ei.size) (λm=>ZmQ m d len ei.size ei.e ((parts.toList.map λx=>(x.1,s.eval x.2)).map (·.2)))
 |lend (c:Call) (g:FuncId) (args:List PV) (r:PV) (hop:o.op= .call c) (hcl:ZJ s.eval c=Hs (g,args)) (h:∀m,Near s.n s.m m->CallS P g args m r m) (hr:r.dids= []):CK P o s Hf r id
 |look (v:PV) (h:∀m,(aop P o s.eval m).ok/\(aop P o s.eval m).v=v/\(aop P o s.eval m).m=m):CK P o s Hf v id
 |re (c:Call) (g:FuncId) (args:List PV) (d d2 n sz:Nat) (e:TypeId) (es:List PV) (hop:o.op= .call c) (hcl:ZJ s.eval c=Hs (g,args)) (h:∀m,Near s.n s.m m->CallS P g args m (.vsl d2 n sz) (reM m d d2 n sz e es)) (hes:∀r∈JR es,∃i,r= .r i/\s.m.q i≠Hn):CK P o s Ht (.vsl d2 n sz) (λm=>reM m d d2 n sz e es)
theorem CK.back (y:FD o.op=Ht) (z:o.guard=Hn) (A:o.apart ops oe=Ht) (N:Xa P ops o s s') (h:CK P oe s' x v f):CK P oe s x v f:=by
 obtain⟨J,T,U⟩:=Oper.apart_spec A;obtain⟨G,R,rfl,b⟩:=Gx y z N;have k:∀x∈oe.op.operands,((s.with (aop P o s.eval s.m).m).put o.dst (aop P o s.eval s.m).v).eval x=s.eval x:=λx O=>by rw[WX (XO J x O),U3]
 have q:((s.with (aop P o s.eval s.m).m).put o.dst (aop P o s.eval s.m).v).m=(aop P o s.eval s.m).m:=UQ _ _ _;have I:((s.with (aop P o s.eval s.m).m).put o.dst (aop P o s.eval s.m).v).n=s.n:=Dp _ _ _;generalize (aop P o s.eval s.m).m=m1 at *;generalize (s.with m1).put o.dst (aop P o s.eval s.m).v=s1 at *;cases h with
 |call c g args args0 r0 i d n sz e es hop hcl z ha G hq hes u=>exact .call c g args args0 r0 i d n sz e es hop (by rw[<-hcl];exact(Un hop k).symm) z ha G (by rw[q,b.q]at hq;exact hq) hes u
 |lit t len parts d ei hop hd ht hq y hs hp=>
  have C:(parts.toList.map λx=>(x.1,s1.eval x.2))=(parts.toList.map λx=>(x.1,s.eval x.2)):=KQ λp q=>by
   rw[k p.2 (by rw[hop];simp only[KP];simp only[List.mem_toArray,Jj];exact⟨p,q,rfl⟩)]
  rw[C]at y hp ⊢;exact .lit t len parts d ei hop hd ht (by rw[q,b.q]at hq;exact hq) y hs hp
 |lend c g args r hop hcl h u=>exact .lend c g args v hop (by rw[<-hcl];exact(Un hop k).symm) (λm E=>h m (by rw[q,I];exact b.symm.trans E)) u
 |look v h=>exact .look v λm=>by rw[<-ZaF oe m k];exact h m
 |re c g args d d2 n sz e es hop hcl h hes=>exact .re c g args d d2 n sz e es hop (by rw[<-hcl];exact(Un hop k).symm) (λm E=>h m (by rw[q,I];exact b.symm.trans E)) (λr u=>by
  obtain⟨i,L,F⟩:=hes r u;rw[q,b.q]at F;exact⟨i,L,F⟩)
theorem CK.run {K:St->Prop} (h:CK P oe s x v f) (b:K ((s.with (f s.m)).put oe.dst v)):(∃v m',XY P oe s.eval s.m v m'/\K ((s.with m').put oe.dst v))\/spec P oe s K:=by
 cases h with
 |call c g args args0 r0 i d n sz e es hop hcl hg ha p hq hes hr=>
  refine .inr ?_;unfold Go.PL.spec;simp only[hop,hcl];refine .inr (.inl ⟨args0,noV,r0,Zcx i n sz e es,λ_=>d,id,p,⟨by simp,by simp,by simp,by simp,λx k=> ?_,by simp,λx k y q _=> ?_⟩,.inl (by rw[Gw ha];exact hg _),?_⟩);simp only[Jc]at k;subst k;exact .inr hq;simp only[Jc]at k q;subst k q;rfl;rw[ZjQ (Zgb hes)];exact b
 |lit t len parts d ei hop hd ht hq hl hs hp=>
  refine .inr ?_;unfold Go.PL.spec;simp only[hop,hd,Zvh,ht];rw[hd]at b;exact⟨hq,hl,hs,hp,b⟩
 |lend c g args r hop hcl h hr=>
  refine .inr ?_;unfold Go.PL.spec;simp only[hop,hcl];exact .inr (.inr ⟨v,s.m,h s.m (.refl _ _),b⟩)
 |look v h=>
  obtain⟨p,u,z⟩:=h s.m;exact .inl ⟨v,s.m,.inl ⟨p,u.symm,z.symm⟩,b⟩
 |re c g args d d2 n sz e es hop hcl h hes=>
  refine .inr ?_;unfold Go.PL.spec;simp only[hop,hcl];exact .inr (.inr ⟨_,_,h s.m (.refl _ _),b⟩)
def ZgM (u:RefsD s) {d n sz:Nat} {e:TypeId} {es:List PV} (C:∀r∈JR es,ZI s.m r) (hv:∀j∈v.dids,j= .r d):RefsD ((s.with (ZmQ s.m d n sz e es)).put oe.dst v):=by
 have q:∀r,ZI s.m r->ZI (ZmQ s.m d n sz e es) r:=λr h=>Zog h
 have y:((s.with (ZmQ s.m d n sz e es)).put oe.dst v).m=ZmQ s.m d n sz e es:=UQ _ _ _;have hd:ZI (ZmQ s.m d n sz e es) (.r d):=by show upd s.m.q d _ d≠Hn;rw[Za];simp
 refine⟨λi k g=> ?_,λi cs t c p k g=> ?_,λb c p k g=> ?_,λb x c E p k g=> ?_,λi es' t k g=> ?_,λb c p k g=> ?_⟩;rw[y];by_cases A:oe.dst=Hs i;have:((s.with (ZmQ s.m d n sz e es)).put oe.dst v).fr i=v:=by rw[A];exact Za _ _ _
 rw[this]at g;rw[hv k g];exact hd;have:((s.with (ZmQ s.m d n sz e es)).put oe.dst v).fr i=s.fr i:=FG A;rw[this]at g;exact q _ (u.fr i k g);rw[y]at t ⊢;exact q _ (u.h i cs t c p k g);rw[y]at p ⊢;exact q _ (u.o b c p k g);rw[y]at E;exact u.it b x c E p k g;rw[y]at t ⊢;by_cases A:d=i;subst A;have:es'=es:=by
  have z:upd s.m.v d (Hs es) d=Hs es':=t;rw[Za]at z;exact(JH.inj z).symm
 subst this;exact q _ (C k g);have z:upd s.m.v d (Hs es) i=Hs es':=t;rw[Zb _ _ A]at z;exact q _ (u.v i es' z k g);rw[y]at p ⊢;exact q _ (u.om b c p k g)
theorem ZfO (b:RefsD s) (x:Operand):∀r∈(s.eval x).dids,ZI s.m r:=λr h=>by
 cases x with
 |tmp t=>exact b.fr t r h
 |const v=>simp[St.eval,Vz]at h
 |_=>simp[St.eval,Kg,JR]at h
def ZrR (h:RefsD s) (hv:∀r∈v.dids,ZI s.m r) (d:Option Nat):RefsD (s.put d v):=by
 have p:(s.put d v).m=s.m:=UQ _ _ _;refine⟨λi k e=> ?_,λi cs q c g k e=> ?_,λb c g k e=> ?_,λb x c t g k e=> ?_,λi es q k e=> ?_,λb c g k e=> ?_⟩;rw[p];by_cases u:d=Hs i;have:(s.put d v).fr i=v:=by rw[u];exact Za _ _ _
 rw[this]at e;exact hv k e;have:(s.put d v).fr i=s.fr i:=FG u;rw[this]at e;exact h.fr i k e;rw[p]at q ⊢;exact h.h i cs q c g k e;rw[p]at g ⊢;exact h.o b c g k e;rw[p]at t;exact h.it b x c t g k e;rw[p]at q ⊢;exact h.v i es q k e;rw[p]at g ⊢;exact h.om b c g k e
theorem CK.refs (h:CK P oe s x v f) (hd:Gk s.n oe.dst) (u:gd ops s oe=Hs Ht) (k:RefsD s):RefsD ((s.with (f s.m)).put oe.dst v):=by
 cases h with
 |call c g args args0 r0 i d n sz e es hop hcl u ha q hq hes b=>exact ZgM k (by rw[hes];simp) b
 |lit t len parts d ei hop hd ht hq hl hs hp=>
  refine ZgM k (λr b=> ?_) (λj A=>by simpa[Kg]using A);obtain⟨p,hp,b⟩:=Qq.1 b;simp only[K4,Jj]at hp;obtain⟨x,_,rfl⟩:=hp;exact ZfO k x.2 r b
 |lend c g args r hop hcl h b=>exact ZrR k (by rw[b];simp) _
 |look v h=>
  obtain⟨q,y,z⟩:=h s.m;exact Z9 (P:=P) (ops:=ops) (o:=oe) k ⟨hd,.inl ⟨u,v,s.m,.inl ⟨q,y.symm,z.symm⟩,rfl⟩⟩
 |re c g args d d2 n sz e es hop hcl h hes=>
  refine ZrS k λr b=> ?_
  obtain⟨i,rfl,C⟩:=hes r b;exact C
theorem CK.keep (h:CK P oe s x v f):(∀m,(f m).h=m.h)/\(x=Hf-> ∀i,s.m.q i≠Hn->(f s.m).v i=s.m.v i)/\ ∀m d z,f (m.new d z)=(f m).new d z:=by
 have k:∀ {d n sz:Nat} {e:TypeId} {es:List PV},s.m.q d=Hn-> ∀i,s.m.q i≠Hn->(ZmQ s.m d n sz e es).v i=s.m.v i:=λb i p=>Zb _ _ λe=>by subst e;exact p b
 cases h with
 |call c g args args0 r0 i d n sz e es hop hcl hg ha h1 b hes hr=>exact⟨λ_=>rfl,λ_=>k b,λ_ _ _=>rfl⟩
 |lit t len parts d ei hop hd ht b hl hs hp=>exact⟨λ_=>rfl,λ_=>k b,λ_ _ _=>rfl⟩
 |lend c g args r hop hcl h hr=>exact⟨λ_=>rfl,λ_ _ _=>rfl,λ_ _ _=>rfl⟩
 |look v h=>exact⟨λ_=>rfl,λ_ _ _=>rfl,λ_ _ _=>rfl⟩
 |re c g args d d2 n sz e es hop hcl h hes=>exact⟨λ_=>rfl,nofun,λ_ _ _=>rfl⟩
def Zoi {op:Op} (h:FW op=Ht) (b:Zbl op=Ht):Zlm op=true:=by cases op<;>simp[FW,Zbl,Zlm]at h b ⊢
theorem CK.ext (h:CK P oe s x v f) (q:x=Ht->Zbl o.op=Ht) (A:FD o.op=Ht) (u:o.guard=Hn) (k:o.apart ops oe=Ht) (L:RefsD s) (J:Xa P ops o s s'):Xa P ops o ((s.with (f s.m)).put oe.dst v) ((s'.with (f s'.m)).put oe.dst v):=by
 obtain⟨V,R,T⟩:=Oper.apart_spec k;obtain⟨G,e,rfl,F⟩:=Gx A u J;obtain⟨t,C,E⟩:=h.keep;have p:∀x∈o.op.operands,((s.with (f s.m)).put oe.dst v).eval x=s.eval x:=λx q=>by
  rw[WX (XO T x q),U3]
 have N:((s.with (f s.m)).put oe.dst v).m=f s.m:=UQ _ _ _;have key:(aop P o s.eval (f s.m)).ok/\(aop P o s.eval (f s.m)).v=(aop P o s.eval s.m).v/\(aop P o s.eval (f s.m)).m=f (aop P o s.eval s.m).m:=by
  by_cases c:FW o.op=Ht;cases x with
  |false=>
   obtain⟨b,g⟩:=Zqv (m':=f s.m) c e (t _) λx _ i O=>C rfl i (ZfO L x (.r i) (Wk _ O))
   exact⟨b,g,by rw[F5 c b,F5 c e]⟩
  |true=>
   obtain⟨b,g,r⟩:=Zd9 (Zoi c (q rfl)) e (f s.m);exact⟨b,g,by rw[r,F5 c e]⟩
  obtain⟨dst,op,ty,pos,U,guard⟩:=o;cases op<;>first|(simp[FD,FW]at A c;done)|skip
  obtain⟨d,z,rfl,I,y⟩:=Zfs e;rw[y,y];exact⟨by show(f s.m).h d=Hn;rw[t];exact I,rfl,(E _ _ _).symm⟩
 obtain⟨b,g,r⟩:=key;refine⟨?_,.inl ⟨by simp[gd,u],(aop P o s.eval s.m).v,f (aop P o s.eval s.m).m,.inl ?_,?_⟩⟩;rw[Dp];exact G;rw[N,ZaF o _ p];exact⟨b,g.symm,r.symm⟩;rw[UQ,WY,WY,Vq _ _ _ R];rfl
def GoC (P:Program) (ops:Array Oper) (j:Nat) (R:St->Prop) (s:St):Prop:=∃o v f x,ops[j]? = Hs o/\Gk s.n o.dst/\gd ops s o=Hs Ht/\(CK P o s x v f/\(x=Ht->ZeR ops j=Ht))/\R ((s.with (f s.m)).put o.dst v)
def GC (P:Program) (ops:Array Oper) (L:List Nat) (nd:Nat) (E:Array Bool->St->Prop):Nat->Nat->Nat->Array Bool->St->Prop
 |0,_,fl,b,s=>Zqt P .any ops E (fl+nd) b s
 |m+1,j,fl,b,s=>ZuX P ops L (λb s=>(∀i∈L,b.getD i Ht=Ht)/\GoC P ops j (GC P ops L nd E m (j+1) 0 (b.setIfInBounds j Ht)) s) fl b s
theorem Zp7 {L:List Nat} {N nd:Nat} {E:Array Bool->St->Prop} (I:∀b s,E b s-> ∀i,i<N->b.getD i Ht=Ht) (G:Gg .any ops N=Ht) (hp:ZgE ops L N=Ht) (e:∀i∈L,i<N) (m j:Nat) {i:Nat} {A:Oper} (k:ops[i]? = Hs A) (d:i∈L) (c:Nat) (b:Array Bool) (s g:St)
  (F:RefsD s) (p:Closed .any ops b) (t:b.size=ops.size) (u:i∈Jh .any ops b) (C:Xa P ops A s g) (h:GC P ops L nd E m j c (b.setIfInBounds i Ht) g):GC P ops L nd E m j (c+1) b s:=by
 cases m with
 |zero=>
  show Zqt P .any ops E (c+1+nd) b s;rw[show c+1+nd=(c+nd)+1 by omega];exact UB I G k (e i d) (c+nd) b s g F p t (λx O J y r z q=>Fh hp d y r k J q (UT u k z)) u C h
 |succ m=>exact DQ (λ_ _ h=>h.1) hp e k d c b s g F u C h
theorem ZmB {L:List Nat} {N nd m j:Nat} {E:Array Bool->St->Prop} (R:∀b s,E b s-> ∀i,i<N->b.getD i Ht=Ht) (J:Gg .any ops N=Ht) (hp:ZgE ops L N=Ht) (r:∀i∈L,i<N) (z:Zbk ops L=Ht) (y:j∉L) (u:j<N):
  ∀(t:Nat) (b:Array Bool) (s:St),RefsD s->Closed .any ops b->b.size=ops.size->j∈Jh .any ops b->GC P ops L nd E (m+1) j t b s->GoC P ops j (GC P ops L nd E m (j+1) t (b.setIfInBounds j Ht)) s
 |0,b,s,hR,hcl,hsz,hj,h=>h.2
 |t+1,b,s,hR,hcl,hsz,hj,h=>by
  obtain⟨⟨i,p,d⟩,h⟩:=h;obtain⟨oi,V,c,C,X⟩:=h i p d;obtain⟨G,I⟩:=Zgn z d c;have g:j≠i:=λe=>y (e▸d)
  obtain⟨o,v,f,x,F,O,T,⟨Y,g3x⟩,Z⟩:=ZmB (m:=m) R J hp r z y u t (b.setIfInBounds i Ht) V (Z9 hR C) (hcl.step p) (by simpa using hsz) (ready_mono hj g) X;have k:=(Fh hp d u g c F (UT hj F (mem_ready.1 p).1) (UT p c (mem_ready.1 hj).1)).1;have hv:=Y.back G I k C;obtain⟨W,_,_⟩:=Oper.apart_spec k;obtain⟨y1,y2,U,_⟩:=Gx G I C;have A:Gk s.n o.dst:=by rw[U,Dp]at O;exact O
  have q:gd ops s o=Hs true:=by rw[U,UP W]at T;exact T
  refine⟨o,v,f,x,F,A,q,⟨hv,g3x⟩,?_⟩;refine Zp7 R J hp r m (j+1) c d t _ _ _ (hv.refs A q hR) (hcl.step hj) (by simpa using hsz) (ready_mono p (J6 g)) (hv.ext (λe=>Zg7 (g3x e) hcl hj p c) G I k hR C) ?_;rw[JM _ _ g];exact Z
def Zrm (ops:Array Oper) (L:List Nat) (b c1:Nat):Bool:=(Jr b (c1-b)).all λj=>((ops[j]?).map λo=>o.after.all λe=> !Jk .any e||L.contains e.on||(decide (b<=e.on)&&decide (e.on<j))).getD Hf&&
 (Jo ops.size).all λx=>L.contains x||(decide (b<=x)&&decide (x<=j))||((ops[x]?).map λo=>o.after.any λe=>Jk .any e&& !L.contains e.on&& !(decide (b<=e.on)&&decide (e.on<j))).getD Hf
def Zde {L:List Nat} {d c1 j:Nat} (h:Zrm ops L d c1=Ht) (E:d<=j) (F:j<c1):(∀o,ops[j]? = Hs o-> ∀e∈o.after,Jk .any e=Ht->e.on∈L\/(d<=e.on/\e.on<j))/\ ∀ {b:Array Bool},(∀x,x∉L-> ¬(d<=x/\x<j)->b.getD x Hf=Hf)-> ∀i∈Jh .any ops b,i∈L\/(d<=i/\i<=j):=by
 simp only[Zrm,Jg,Qd,Ja]at h;obtain⟨p,y⟩:=h j ⟨j-d,by omega,by omega⟩;refine⟨λo u e r c=> ?_,λz i A=> ?_⟩;rw[u]at p;simp only[Jw,JB]at p;have:=KU.1 p e r;simpa[c]using this;obtain⟨_,C,g,k⟩:=mem_ready.1 A;have t:=y i (Js.2 (Jb.1 g).1);simp only[Jt,Ja,decide_eq_true_eq,Jm]at t;refine t.resolve_right λq=> ?_
 rw[g]at q;simp only[Jw,JB]at q;obtain⟨e,r,c⟩:=Jp.1 q;simp only[Ja,J4,KL,decide_eq_true_eq,decide_eq_false_iff_not]at c;have:=k e r c.1.1;rw[z _ (λh=>by have:=c.1.2;rw[Jm.2 h]at this;cases this) (λh=>c.2 h.1 h.2)]at this;cases this
def Zci {b:Array Bool} {i:Nat}:(b.setIfInBounds i Ht).getD i Ht=true:=by
 simp only[Jf,Jy];split;split<;>simp
 rename_i h;exact absurd trivial h
theorem Zp8 {L:List Nat} {r c1 N nd M0:Nat} {K:St->Prop} {E:Array Bool->St->Prop} (hE:∀listed s,E listed s-> ∀i,i<N->listed.getD i Ht=Ht) (hc:Gg .any ops N=Ht) (hp:ZgE ops L N=Ht) (Z:∀i∈L,i<N) (xg:Zbk ops L=Ht) (R:∀j,r<=j->j<c1->j∉L) (xc:Zrm ops L r c1=Ht) (xl:c1<=N) (xj:N<=ops.size) (xf:∀listed s,E listed s->Zht P ops K M0 listed s):
  ∀(m j g:Nat) (listed:Array Bool) (s:St),j+m=c1->r<=j->Closed .any ops listed->listed.size=ops.size->(∀x,r<=x->x<j->listed.getD x Ht=Ht)->(∀x,x∉L-> ¬(r<=x/\x<j)->listed.getD x Hf=Hf)->GC P ops L nd E m j g listed s->Zht P ops K (M0+nd+g+m) listed s:=by
 intro m;induction m with
 |zero=>
  intro j g listed s _ _ _ _ _ _ h;have:=Ss (P:=P) xf (g+nd) listed s h;rw[show M0+nd+g+0=M0+(g+nd)by omega];exact this
 |succ m ihm=>
  have behind:∀ {j:Nat} {listed:Array Bool},(∀x,r<=x->x<j->listed.getD x Ht=Ht)->(∀x,x∉L-> ¬(r<=x/\x<j)->listed.getD x Hf=Hf)->r<=j->(∀x,r<=x->x<j+1->(listed.setIfInBounds j Ht).getD x Ht=Ht)/\ ∀x,x∉L-> ¬(r<=x/\x<j+1)->(listed.setIfInBounds j Ht).getD x Hf=false:=λ{j listed} V X hj=>⟨λx xi xk=>by
   by_cases e:j=x;subst e;exact Zci;rw[getD_set_ne Ht e];exact V x xi (by omega),λx hx y=>by
   have e:j≠x:=λe=>y ⟨by omega,by omega⟩
   rw[getD_set_ne Hf e];exact X x hx λh=>y ⟨h.1,by omega⟩⟩
  have step:∀ {j g:Nat} {listed:Array Bool} {s:St},j+(m+1)=c1->r<=j->Closed .any ops listed->listed.size=ops.size->(∀x,r<=x->x<j->listed.getD x Ht=Ht)->(∀x,x∉L-> ¬(r<=x/\x<j)->listed.getD x Hf=Hf)->j∈Jh .any ops listed->GoC P ops j (GC P ops L nd E m (j+1) g (listed.setIfInBounds j Ht)) s->
    ∀(B:Frm) (Qc:Exit->Act->World->Prop) (S0:Stable) (w0:World),(∀s' S' W a' w',K s'->Sim B S' W s' a' w'->Ext B S0 S' w0 w'->Qc .normal a' w')-> ∀S M a w,Sim B S M s a w->Ext B S0 S w0 w->wpOp P ops Qc j (wpAny P .any ops Qc (M0+nd+g+m) (listed.setIfInBounds j Ht)) a w:=λ{j g listed s} F b p q c d hr Y B Qc S0 w0 I S M a w t G=>by
   obtain⟨o,v,f,x,ho,g1,g2,⟨g3,_⟩,g4⟩:=Y;unfold wpOp;simp only[ho];rw[Te t g2,if_pos rfl];obtain⟨b1,b2⟩:=behind c d b;have y:=ihm (j+1) g (listed.setIfInBounds j Ht) _ (by omega) (by omega) (p.step hr) (by simpa using q) b1 b2 g4;rcases g3.run (K:=Zht P ops K (M0+nd+g+m) (listed.setIfInBounds j Ht)) y with ⟨v',m',J,hk⟩|xh
   ·exact .inl (X8 t (YD g1) J _ _ λu w' S' W z A=>hk B Qc S0 w0 I S' W _ w' z (G.trans A))
   ·exact .inl (U0 t (YD g1) xh _ _ λs' u w' S' W hk z A=>hk B Qc S0 w0 I S' W _ w' z (G.trans A))
  intro j g;induction g with
  |zero=>
   intro listed s F b p q c d h B Qc S0 w0 I S M a w t G;obtain⟨oj,xd⟩:∃oj,ops[j]? = Hs oj:=⟨_,Array.getElem?_eq_getElem (show j<ops.size by omega)⟩;obtain⟨w1,w2⟩:=Zde xc b (by omega);have U:=R j b (by omega);have hj:j∈Jh .any ops listed:=by
    refine mem_ready.2 ⟨?_,oj,xd,λe G hb=> ?_⟩;have:=d j U (by omega);have T:j<listed.size:=by omega
    simp[T]at this ⊢;exact this;have V:=w1 oj xd e G hb;have X:listed.getD e.on Ht=true:=by
     rcases V with k|k;exact h.1 _ k;exact c _ k.1 k.2
    have T:e.on<listed.size:=by
     rcases V with k|k;have:=Z _ k;omega;omega
    simp[T]at X ⊢;exact X
   refine⟨λh0=>(by rw[h0]at hj;cases hj),λi C=> ?_⟩;have ei:i=j:=by
    rcases w2 d i C with k|k;have:=h.1 _ k;rw[(mem_ready.1 C).1]at this;cases this;rcases KB i j with xb|xb;have:=c i k.1 xb;rw[(mem_ready.1 C).1]at this;cases this;omega
   subst ei;exact step F b p q c d C h.2 B Qc S0 w0 I S M a w t G
  |succ g ihf=>
   intro listed s F b p q c d h B Qc S0 w0 I S M a w t G;obtain⟨w1,w2⟩:=Zde xc b (by omega);have U:=R j b (by omega);obtain⟨⟨i0,xa,_⟩,k⟩:=id h;refine⟨λh0=>(by rw[h0]at xa;cases xa),λi C=> ?_⟩;by_cases ei:i=j;subst ei;exact step F b p q c d C (ZmB hE hc hp Z xg U (by omega) (g+1) listed s t.refsD p q C h) B Qc S0 w0 I S M a w t G;have O:i∈L:=by
    rcases w2 d i C with k|k;exact k;exfalso;have:=c i k.1 (by omega);rw[(mem_ready.1 C).1]at this;cases this
   obtain⟨oi,s1,xe,hy,y⟩:=k i C O;have y:=ihf _ s1 F b (p.step C) (by simpa using q) (λx V X=>by rw[getD_set_ne Ht (λe=>by subst e;exact R _ V (by omega) O)];exact c x V X) (λx hx y=>by rw[getD_set_ne Hf (λe=>by subst e;exact hx O)];exact d x hx y) y;rw[show M0+nd+g+(m+1)=M0+nd+(g+1)+m by omega]at y;unfold wpOp;simp only[xe];obtain⟨hd,hy⟩:=hy;rcases hy with ⟨Y,v,m',J,rfl⟩|⟨Y,rfl⟩;rw[Te t Y,if_pos rfl];exact .inl (X8 t (YD hd) J _ _ λu w' S' W z A=>y B Qc S0 w0 I S' W _ w' z (G.trans A));rw[Te t Y,if_neg (by simp)];exact y B Qc S0 w0 I S M _ w (Tp t hd) G
def vCh (P:Program) (D Dr:List Nat) (K:KS) (l:List Oper):Nat->Nat->St->Prop
 |0,_,s=>∃b,b=Dr.filterMap (λi=>l[i]?)/\ @vA P Hf ⟨@Zsp P D K ⟨l⟩⟩ ⟨l⟩ ⟨b⟩ s
 |m+1,j,s=>GoC P l.toArray j (vCh P D Dr K l m (j+1)) s
theorem Tc {l:List Oper}:∀ {is:List Nat},(∀i∈is,i<l.length)->is.map (λi=>l.toArray[i]?)=(is.filterMap λi=>l[i]?).map Hs/\(is.filterMap λi=>l[i]?).length=is.length
 | [],_=>⟨rfl,rfl⟩
 |i::is,h=>by
  obtain⟨d,c⟩:=Tc (l:=l) (is:=is) λj g=>h j (by simp[g])
  have b:=h i (by simp);have e:l[i]? = Hs l[i]:=JG b;rw[List.filterMap_cons,e];refine⟨?_,by simp[c]⟩;simp only[JO];rw[d];congr 1;simp
def Zoj (c:Array Bool) (a b:List Nat):XC (XC c a) b=XC c (a++b):=by
 unfold XC;rw[K6]
def Zok (b:Array Bool) (j:Nat) (a:List Nat):(XC b a).setIfInBounds j Ht=XC b (a++ [j]):=by
 unfold XC;rw[K6];rfl
theorem D9 {K K':St->Prop} (e:∀s,RefsD s->K s->K' s):∀(l:List Oper) (s:St),RefsD s->Ze4 P ops K l s->Ze4 P ops K' l s
 | [],s,hR,h=>e s hR h
 |o::rest,s,hR,⟨hd,h⟩=>⟨hd,by
  rcases h with ⟨c,v,m',d,b⟩|⟨c,b⟩;exact .inl ⟨c,v,m',d,D9 e rest _ (Z9 (P:=P) (ops:=ops) (o:=o) hR ⟨hd,.inl ⟨c,v,m',d,rfl⟩⟩) b⟩;exact .inr ⟨c,D9 e rest _ (Z9 (P:=P) (ops:=ops) (o:=o) hR ⟨hd,.inr ⟨c,rfl⟩⟩) b⟩⟩
def ZhZ (ops:Array Oper) (b:Array Bool):Bool:=(Jo ops.size).all λx=> !b.getD x Ht||((ops[x]?).map λo=>o.after.all λe=> !Jk .any e||b.getD e.on Hf).getD Ht
def ZfF {listed:Array Bool} (h:ZhZ ops listed=Ht):Closed .any ops listed:=λx p c i e k g=>by
 simp only[ZhZ,Jg,Js]at h;have b:=h x (Jb.1 c).1;rw[c,i]at b;simp only[Qk,Ql,Jw,JB]at b;have:=KU.1 b e k;have d:listed.getD e.on Hf=true:=by
  rw[g]at this;simpa only[Qk,Ql]using this
 exact d
def Zpd (L:List Nat) (b c1:Nat) (Dr:List Nat) (N:Nat) (ops:Array Oper):Bool:=
 decide (b<c1)&&decide (c1<=N)&&decide (N<=ops.size)&&Gg .any ops N&&ZgE ops L N&&Zbk ops L&&Zrm ops L b c1&&Zxv ops L (Je ops.size Hf)&&L.all (λi=>decide (i<N)&& !(decide (b<=i)&&decide (i<c1)))&&Dr.all (λi=>decide (i<N))&&
  Zrr ops N Dr (XC (Je ops.size Hf) (L++Jr b (c1-b)))&&(Jo N).all (λi=>L.contains i||(decide (b<=i)&&decide (i<c1))||Dr.contains i)&&decide (L.length+(c1-b)+Dr.length=N)&&ZhZ ops (XC (Je ops.size Hf) (L++Jr b (c1-b)))
theorem GK {id:Nat} {l:List Oper} {Q:Exit->St->Prop} {s:St} (L:List Nat) (c c1:Nat) (Dr:List Nat) (N:Nat) (Z:P.follows .mixedOrders=Ht) (hB:Zpd L c c1 Dr N l.toArray=Ht)
  (h:∀l1,l1=L.filterMap (λi=>l[i]?)-> @vA P Hf ⟨vCh P (L++Jr c (c1-c)++Dr) Dr ⟨@vQ ⟨Q⟩ .normal⟩ l (c1-c) c⟩ ⟨l⟩ ⟨l1⟩ s):awp P (.region id l.toArray Ht) Q s:=λB S M a w hs=>by
 have h:=h _ rfl;simp only[Zpd,Ja,decide_eq_true_eq,K5]at hB;obtain⟨⟨⟨⟨⟨⟨⟨⟨⟨⟨⟨⟨⟨xf,xb⟩,hN⟩,hc⟩,hp⟩,W⟩,X⟩,Y⟩,hL⟩,q⟩,hy⟩,y⟩,xd⟩,I⟩:=hB;simp only[Jg,Ja,decide_eq_true_eq,J4,KL,decide_eq_false_iff_not]at hL;simp only[Jg,decide_eq_true_eq]at q;have p:∀i∈L,i<N:=λi g=>(hL i g).1
 have V:∀j,c<=j->j<c1->j∉L:=λj u d T=>(hL j T).2 u d
 refine Zm5 (P:=P) (ops:=l.toArray) (Q:=Q) Z ?_ B S M a w hs;intro B' Qc S0 w0 hQ S' M' a' w' r xc;have hA:=Uy _ s h;let K:St->Prop:=@vQ ⟨Q⟩ .normal;let D:=L++Jr c (c1-c)++Dr;have t:D.length=N:=by simp only[D,List.length_append,KT];omega
 let E:Array Bool->St->Prop:=λb s=>b=XC (Je l.length Hf) D/\ @Zsp P D ⟨K⟩ ⟨l⟩ s
 have hE:∀b s,E b s-> ∀i,i<N->b.getD i Ht=true:=λb s h i g=>by
  rw[h.1];refine SJ (n:=0) _ _ (.inr ?_);have:=Jg.1 y i (Js.2 g);simp only[Jt,Ja,decide_eq_true_eq,Jm]at this;simp only[D,List.mem_append,Qd];rcases this with (h|h)|h;exact .inl (.inl h);exact .inl (.inr ⟨i-c,by omega,by omega⟩);exact .inr h
 have U:∀b s,E b s->Zht P l.toArray K (l.length-N) b s:=λb s h=>by
  obtain⟨rfl,h⟩:=h;have h:Zht P l.toArray _ (l.length-D.length) _ s:=h;rw[t]at h;exact h
 have C:Closed .any l.toArray (Je l.length Hf):=λx ox Y hl=>by
  have O:=(Jb.1 Y).1;simp at O;simp[O]at hl
 obtain⟨f1,f2⟩:=Tc (l:=l) (is:=L) λi g=>JQ (p i g) hN
 obtain⟨f3,f4⟩:=Tc (l:=l) (is:=Dr) λi g=>JQ (q i g) hN
 have G:Closed .any l.toArray (XC (Je l.length Hf) (L++Jr c (c1-c))):=ZfF (by simpa using I);have z:∀A:List Nat,(XC (Je l.length Hf) A).size=l.toArray.size:=λA=>by
  have:∀(A:List Nat) (b:Array Bool),(XC b A).size=b.size:=by
   intro A;induction A with
   |nil=>intro b;rfl
   |cons i A ih=>intro b;show(XC (b.setIfInBounds i Ht) A).size=_;rw[ih];simp
  rw[this];simp
 have R:∀m j s,j+m=c1->c<=j->RefsD s->vCh P D Dr ⟨K⟩ l m j s->GC P l.toArray L Dr.length E m j 0 (XC (Je l.length Hf) (L++Jr c (j-c))) s:=by
  intro m;induction m with
  |zero=>
   intro j s T _ J h;have e:j=c1:=by omega
   subst e;obtain⟨l2,rfl,h⟩:=h;have u:=ZaE (P:=P) (E:=E) hE hc Dr (Dr.filterMap λi=>l[i]?) (XC (Je l.length Hf) (L++Jr c (j-c))) s J G (z _) q f3 (by simpa using hy) (by
    rw[Zoj];exact Da (λs h=>⟨rfl,h⟩) _ _ (Uy _ s h))
   show Zqt P .any l.toArray E (0+Dr.length) _ s;rw[KD];exact u
  |succ m ih=>
   intro j s T xe J h;refine⟨λi g=>SJ (n:=0) _ _ (.inr (List.mem_append_left _ g)),?_⟩;obtain⟨o,v,f,x,u,d,h3,⟨h4,xa⟩,h5⟩:=h;refine⟨o,v,f,x,u,d,h3,⟨h4,xa⟩,?_⟩;have e:(XC (Je l.length Hf) (L++Jr c (j-c))).setIfInBounds j Ht=XC (Je l.length Hf) (L++Jr c (j+1-c)):=by
    rw[Zok,List.append_assoc];congr 2;rw[show j+1-c=(j-c)+1 by omega,List.range'_concat,show c+1*(j-c)=j by omega]
   rw[e];exact ih (j+1) _ (by omega) (by omega) (h4.refs d h3 J) h5
 have hG:GC P l.toArray L Dr.length E (c1-c) c L.length (Je l.length Hf) s:=by
  have k:Ze4 P l.toArray (λs=>GC P l.toArray L Dr.length E (c1-c) c 0 (XC (Je l.length Hf) L) s) (L.filterMap λi=>l[i]?) s:=D9 (λs J h=>by
   have:=R (c1-c) c s (by omega) (Ju _) J h;rw[Nat.sub_self]at this;simpa using this) _ _ r.refsD hA
  have go:∀(F:Array Bool->St->Prop),(∀b s,F b s-> ∀i∈L,b.getD i Ht=Ht)->Ze4 P l.toArray (F (XC (Je l.length Hf) L)) (L.filterMap λi=>l[i]?) s->ZuX P l.toArray L F L.length (Je l.length Hf) s:=λF hF hl=>
   Zd7 (P:=P) (F:=F) hF hp p L (L.filterMap λi=>l[i]?) (Je l.length Hf) s r.refsD (λ_ h=>h) f1 (by simpa using Y) hl
  obtain⟨m,Z⟩:∃m,c1-c=m+1:=⟨c1-c-1,by omega⟩;rw[Z]at k ⊢;exact go _ (λ_ _ h=>h.1) k
 have d:=Zp8 (P:=P) (K:=K) (M0:=l.length-N) hE hc hp p W V X xb (by simpa using hN) U (c1-c) c L.length (Je l.length Hf) s (by omega) (Ju _) C (by simp) (λx u d=>by omega) (λx _ _=>by
  simp only[Jf];by_cases h:x<l.length<;>simp[h]) hG
 have e:l.length-N+Dr.length+L.length+(c1-c)=l.toArray.size:=by simp;omega
 rw[e]at d;have d:=d B' Qc S0 w0 hQ S' M' a' w' r xc;simpa using d
def ZbZ {l:List Oper} {K:KS} {s:St} (D:List Nat) (N:Nat) (b:(Zuj N l&&decide (D.length=N)&&(XC (Je l.length Hf) D==XC (Je l.length Hf) (Jo N)))=Ht) (h:∀c,c=l.drop N-> @vA P Ht K ⟨l⟩ ⟨c⟩ s):@Zsp P D K ⟨l⟩ s:=by
 simp only[Ja,decide_eq_true_eq,beq_iff_eq]at b;have:=Zxf (P:=P) N b.1.1 h;unfold Zsp at this ⊢;simp only[KX]at this;show Zht P l.toArray K.k (l.length-D.length) (XC (Je l.length Hf) D) s;rw[b.2,b.1.2];exact this
section
variable {D Dr:List Nat} {m j:Nat} {l:List Oper} {K:KS} {s:St} {o:Oper}
def Ztc {c:Call} {g:FuncId} {args args0:List PV} {i n sz t:Nat} {e:TypeId} {es:List PV} {r0:PV} (d:Nat) (z:Eff P g args0 noV r0 (Zcx i n sz e es)) (b:JR es= []) (y:∀p∈args0,p.ids= [])
  (r:l[j]? = Hs o) (A:o.op= .call c) (C:o.guard=Hn) (q:o.dst=Hs t) (h:t<s.n) (k:ZJ s.eval c=Hs (g,args)) (hd:s.m.q d=Hn) (E:∀m,K3 m args=args0) (F:∀j∈(r0.ren (λ_=>d) id).dids,j= .r d)
  (u:vCh P D Dr K l m (j+1) ((s.with { s.m.setq d (.vec n sz e)with v:=upd s.m.v d (Hs es) }).put (Hs t) (r0.ren (λ_=>d) id))):vCh P D Dr K l (m+1) j s:=
 ⟨o,_,_,_,by simpa using r,by rw[q];exact h,by simp[gd,C],⟨.call c g args args0 r0 i d n sz e es A k E y z hd b F,nofun⟩,by rw[q];exact u⟩
def DE {c:Call} {g:FuncId} {args:List PV} {r:PV} {t:Nat} (h:l[j]? = Hs o) (k:o.op= .call c) (q:o.guard=Hn) (e:o.dst=Hs t) (b:t<s.n) (d:ZJ s.eval c=Hs (g,args)) (p:∀m,Near s.n s.m m->CallS P g args m r m) (u:r.dids= [])
  (i:vCh P D Dr K l m (j+1) (s.put (Hs t) r)):vCh P D Dr K l (m+1) j s:=
 ⟨o,_,_,_,by simpa using h,by rw[e];exact b,by simp[gd,q],⟨.lend c g args r k d p u,nofun⟩,by rw[e];exact i⟩
def Ztb {c:Call} {g:FuncId} {args:List PV} {d d2 n sz t:Nat} {e:TypeId} {es:List PV} (u:l[j]? = Hs o) (A:o.op= .call c) (C:o.guard=Hn) (k:ZeR l.toArray j=Ht) (q:o.dst=Hs t) (h:t<s.n) (p:ZJ s.eval c=Hs (g,args)) (z:∀m,Near s.n s.m m->CallS P g args m (.vsl d2 n sz) (reM m d d2 n sz e es)) (b:∀r∈JR es,∃i,r= .r i/\s.m.q i≠Hn)
  (y:vCh P D Dr K l m (j+1) ((s.with (reM s.m d d2 n sz e es)).put (Hs t) (.vsl d2 n sz))):vCh P D Dr K l (m+1) j s:=
 ⟨o,_,_,_,by simpa using u,by rw[q];exact h,by simp[gd,C],⟨.re c g args d d2 n sz e es A p z b,λ_=>k⟩,by rw[q];exact y⟩
def Zap (r:l[j]? = Hs o) (p:o.guard=Hn) (i:Zlm o.op=Ht) (h:∀q,q= [o]-> @vA P Hf ⟨vCh P D Dr K l m (j+1)⟩ ⟨l⟩ ⟨q⟩ s):vCh P D Dr K l (m+1) j s:=by
 obtain⟨hd,h⟩:=Uy _ s (h _ rfl);rcases h with ⟨d,v,m',k,b⟩|⟨d,_⟩;rcases k with ⟨g,rfl,rfl⟩|⟨c,_,_,g,_⟩;have e:=(Zd9 i g s.m).2.2;rw[e]at b;exact⟨o,_,_,_,by simpa using r,hd,by simp[gd,p],⟨.look _ (Zd9 i g),nofun⟩,b⟩;rw[g]at i;simp[Zlm]at i;simp[gd,p]at d
def ZeX {t:TypeId} {len:Nat} {parts:Array (Nat×Operand)} {d:Nat} {ei:EInfo} (e:l[j]? = Hs o) (c:o.op= .buildSlice t len parts) (k:o.guard=Hn) (hd:o.dst=Hs d) (b:d<s.n) (p:XS P t=Hs ei) (i:s.m.q d=Hn)
  (q:len=(parts.toList.map λx=>(x.1,s.eval x.2)).length) (g:len*ei.size<=16777216) (hp:T5 ei.size d 0 (parts.toList.map λx=>(x.1,s.eval x.2)))
  (h:vCh P D Dr K l m (j+1) ((s.with { s.m.setq d (.vec len ei.size ei.e)with v:=upd s.m.v d (Hs ((parts.toList.map λx=>(x.1,s.eval x.2)).map (·.2))) }).put (Hs d) (.vsl d len ei.size))):vCh P D Dr K l (m+1) j s:=
 ⟨o,_,_,_,by simpa using e,by rw[hd];exact b,by simp[gd,k],⟨.lit t len parts d ei c hd p i q g hp,nofun⟩,by rw[hd];exact h⟩
def GJ (h:∀b,b=Dr.filterMap (λi=>l[i]?)-> @vA P Hf ⟨@Zsp P D K ⟨l⟩⟩ ⟨l⟩ ⟨b⟩ s):vCh P D Dr K l 0 j s:=⟨_,rfl,h _ rfl⟩
end
end
end Go.PL
namespace Go.PL
open Go.RowKit
mutual
def PV.young:PV->Bool
 | .int _ _=>Ht
 | .bool _=>Ht
 | .str _=>Ht
 | .sl .fr es=>PV.youngL es
 | .sl _ []=>Ht
 | .agg cs=>PV.youngL cs
 | .tup cs=>PV.youngL cs
 |_=>Hf
def PV.youngL:List PV->Bool
 | []=>Ht
 |c::cs=>PV.young c&&PV.youngL cs
end
theorem Ua:∀ {cs:List PV} {i:Nat},PV.youngL cs=Ht->i<cs.length->(cs.getD i .any).young=Ht
 | [],_,_,h=>by simp at h
 |c::cs,0,h,_=>by simp[PV.youngL]at h ⊢;exact h.1
 |c::cs,i+1,h,hi=>by simp[PV.youngL]at h;simpa using Ua h.2 (by simpa using hi)
def Zmv {e:PV} (h:e.young=Ht) {j:Nat} (b:j<e.cells.length):(e.cells.getD j .any).young=true:=by
 have:e.cells= [e]\/ ∃cs,e= .agg cs:=by
  cases e<;>first|exact .inl rfl|exact .inr ⟨_,rfl⟩
 rcases this with c|⟨cs,rfl⟩;rw[c]at b ⊢;obtain rfl:j=0:=by simpa using b
 exact h;have d:PV.youngL cs=true:=by simpa[PV.young]using h
 exact Ua (cs:=cs) d b
theorem Rep.young {S S':Stable} {v:Value} {p:PV} (q:Nat) (r:Rep S v p) (A:∀b o x,q<=b->S b o=Hs x->S' b o=Hs x) (z:∀b,S.z b->q<=b) (y:∀b,q<=b->S'.z b) (C:∀b,S.y b->S'.y b):
  (p.young=Ht->Rep S' v p)/\ ∀es,p= .sl .no es->PV.youngL es=Ht->(∀b o n c,v= .slice (Hs ⟨b,o,Hn⟩) n c->0<n->q<=b)->Rep S' v (.sl .no es):=by
 induction r with
 |int k n=>exact⟨λ_=> .int k n,λes h=>by cases h⟩
 |bool b=>exact⟨λ_=> .bool b,λes h=>by cases h⟩
 |str l=>exact⟨λ_=> .str l,λes h=>by cases h⟩
 |agg vs cs hl _ ih=>exact⟨λhp=> .agg vs cs hl λi d=>(ih i d).1 (Ua (by simpa[PV.young]using hp) d),λes h=>by cases h⟩
 |tup vs cs hl _ ih=>exact⟨λhp=> .tup vs cs hl λi d=>(ih i d).1 (Ua (by simpa[PV.young]using hp) d),λes h=>by cases h⟩
 |sl0 a cap=>exact⟨λ_=> .sl0 a cap,λes h _ _=>by cases h;exact .sl0 a cap⟩
 |slnil=>exact⟨λ_=> .slnil,λes h=>by cases h⟩
 |sl b o cap sz es vals hsz hcap hS hR ih=>
  have key:PV.youngL es=Ht->(0<es.length->q<=b)->Rep S' (.slice (Hs ⟨b,o,Hn⟩) es.length cap) (.sl .no es):=λhp u=>
   .sl b o cap sz es vals hsz hcap (λi j d t=>A _ _ _ (u (by omega)) (hS i j d t)) λi j d t=>(ih i j d t).1 (Zmv (Ua hp d) (by rw[hsz i d];exact t))
  refine⟨λhp=> ?_,λes' h hp u=>by cases h;exact key hp λg=>u b o _ _ rfl g⟩;cases es with
  |nil=>exact key rfl λh=>by simp at h
  |cons x l=>simp[PV.young]at hp
 |slf v es r hzz ih=>
  refine⟨λhp=> .slf v es (ih.2 es rfl (by simpa[PV.young]using hp) λb o n c e g=>z b (hzz b o n c e g).1) λb o n c e g=>⟨y b (z b (hzz b o n c e g).1),C b (hzz b o n c e g).2⟩,λes h=>by cases h⟩
 |_=>exact⟨λhp=>by simp[PV.young]at hp,λes h=>by cases h⟩
section
variable {P:Program} {B:Frm} {S:Stable} {M:Maps} {s:St} {a:Act} {w:World}
def CallS.lend {g:FuncId} {m:Hp} {args args0:List PV} {r:PV} (U:Pure P g args0 r) (Z:args.length=args0.length) (hp:∀i,i<args.length->Pub (λ_=>False) m (args.getD i .any) (args0.getD i .any)) (W:∀p∈args0,p.ids= []) (X:∀p∈args0,p.nofr=Ht) (T:r.young=Ht):CallS P g args m r m:=by
 obtain⟨L,hd,N⟩:=U;refine⟨L,λB S M s a w vs Y q I E _=> ?_⟩;subst Y;let S0:=pubS (λ_=>False) S M s.m w;let S1:Stable:=⟨S0.c,S0.m,λb=>w.heap.size<=b,S0.y⟩;have e:StabS S0 w:=Zbz q;have F:StabS S1 w:=⟨e.c,e.m,e.y⟩;have k:SLe S S0:=GD q;refine(N w S1 vs F (λb c=>c) (I.trans Z) λi z=> ?_).mono λen w' ⟨v,S2,e1,h2,h3,h4,h5,h6⟩=> ?_
 have G:i<args.length:=by omega
 have:=((hp i G).rep q _ (E i G)).alone (W _ (Zc (d:= .any) z));exact this.rez (S:=S0) (S':=S1) rfl rfl (X _ (Zc (d:= .any) z));let S3:Stable:=⟨λb o=>if b<w.heap.size then S b o else S2 b o,S2.m,S.z,S2.y⟩;have O:∀b o,b<w.heap.size->S3 b o=S b o:=λb o h=>if_pos h
 have s3n:∀b o,w.heap.size<=b->S3 b o=S2 b o:=λb o h=>if_neg (by omega)
 have C:∀ {b o u},S b o=Hs u->b<w.heap.size:=λh=>Uo (q.stable.s.c _ _ _ h)
 have t:SLe S S3:=⟨λb o u y=>by rw[O b o (C y)];exact y,λb es h=>h4.m b es (k.m b es h),rfl,λb c=>h4.y b (k.y b c)⟩;have J:∀b,b<w.heap.size->(∀o,S3 b o=S b o)/\S3.m b=S.m b:=λb c=>⟨λo=>O b o c,(h5 b c).2⟩
 have A:StabS S3 w':=⟨λb o u y=>by
  by_cases c:b<w.heap.size;rw[O b o c]at y;exact h3.c b o u (h4 b o u (k b o u y));rw[s3n b o (by omega)]at y;exact h3.c b o u y,h3.m,h3.y⟩
 have R:S2.z=S1.z:=h4.z;refine⟨v,S3,M,e1,q.grow t J A h6.block h6.size,.clean ((h2.young w.heap.size (S':=S3) (λb o x c V=>by rw[s3n b o c];exact V) (λb c=>by rw[R]at c;exact c) (λb c=>q.hz b λh=>by have:=q.hB b h;omega) (λb c=>c)).1 T),λi z=>absurd z ?_,⟨t,λb c=>J b (q.hB b c),(Qu h6).mono q.hB⟩⟩;have:=Wk (p:=r) (r:=i);intro z;have:=Wk _ z;rw[hd]at this;cases this
theorem Sim.moveX (d:Sim B S M s a w) {w':World} (x:Option Nat) (G:∀k,k<w.heap.size->x≠Hs k->w'.heap[k]? = w.heap[k]?) (T:w.heap.size<=w'.heap.size) (L:StabS S w')
  (W:∀k,x=Hs k-> ¬B k/\(∃c t f,w.heap[k]? = Hs (.cells c t f))/\(∀id cs,s.m.h id=Hs cs->s.m.z id=Hf->M.φ id≠k)/\ ∀id r,s.m.q id=Hs r->r.own=Ht->0<M.κ id->M.ψ id≠k):Sim B S M s a w':=by
 have map:∀ {k:Nat} {ob:Obj},w.heap[k]? = Hs ob->(∀c t f,ob≠ .cells c t f)->w'.heap[k]? = w.heap[k]? :=λ{k ob} h g=>G k (Jb.1 h).1 λe=>by
  obtain⟨_,⟨c,t,f,u⟩,_⟩:=W k e;rw[h]at u;exact g c t f (JH.inj u)
 have ho:∀b c,s.m.o b=Hs c->w'.heap[b]? = w.heap[b]? :=λb c g=>by
  obtain⟨_,_,es,u,_⟩:=d.stable.o b c g;exact map u (λ_ _ _ h=>by cases h)
 have hi:∀b y,s.m.it b=Hs y->w'.heap[b]? = w.heap[b]? :=λb y hy=>map (d.stable.i b y hy).2.1 (λ_ _ _ h=>by cases h)
 have i:∀ {id r},s.m.q id=Hs r->r.own=Ht->0<M.κ id->w'.heap[M.ψ id]? = w.heap[M.ψ id]? :=λ{id r} u h2 h3=>G _ (d.row_lt u h2 h3) λe=>(W _ e).2.2.2 id r u h2 h3 rfl
 refine⟨d.defers,d.hn,λk U=>JQ (d.hB k U) T,d.stable.move (JI S) (λb c g=>(d.stable.o b c g).2.1) L ho hi,d.fr,d.ids,λid cs J=> ?_,λid r V=> ?_,d.inj,d.injq,d.injx,λb c g=> ?_,λid es he=> ?_,d.pn,d.hz⟩;have q:=d.blk id cs J;cases E:s.m.z id with
 |false=>
  rw[E]at q;have X:=d.blk_lt J E;obtain⟨z,A,⟨vs,t,Y,F,g5⟩,g6⟩:=q;exact⟨z,A,⟨vs,t,by rw[G _ X λe=>(W _ e).2.2.1 id cs J E rfl];exact Y,F,g5⟩,g6⟩
 |true=>rw[E]at q;exact q
 have C:=d.row id r V;cases r with
 |dead=>trivial
 |live n sz e=>
  obtain⟨z,A⟩:=C;refine⟨z,λc g=> ?_⟩;obtain⟨I,Z,N,⟨us,p4,O⟩,R⟩:=A c g;exact⟨I,Z,N,⟨us,by rw[i V rfl (by omega)];exact p4,O⟩,R⟩
 |vec n sz e=>
  obtain⟨z,A⟩:=C;refine⟨z,λc g=> ?_⟩;obtain⟨I,Z,N,⟨us,p4,O⟩,R⟩:=A c g;exact⟨I,Z,N,⟨us,by rw[i V rfl (by omega)];exact p4,O⟩,R⟩
 obtain⟨z,A,Y,F⟩:=d.rm b c g;refine⟨z,A,Y,F.move (JI S) ?_ (λv p r _=>r) (λ_ h=>h)⟩;obtain⟨⟨es,u,_⟩,_⟩:=F;exact map u (λ_ _ _ h=>by cases h);obtain⟨sz,e,q1⟩:=d.vec_q he;exact(d.vc id es he).move (λ_ _ _ h=>h) rfl rfl (λU=>i q1 rfl U) (λv p r _=>r) (λ_ h=>h)
theorem Sim.vec_ownsR (z:Sim B S M s a w) {d n sz:Nat} {e:TypeId} {es:List PV} {v:Value} (q:s.m.q d=Hs (.vec n sz e)) (hv:s.m.v d=Hs es) (W:RepS S M s.m.q v (.vsl d n sz)):
  ∃xs:List Value,w.ownsRow 0 e sz v n xs/\es.length=n/\(∀p∈es,p.cells.length=sz/\p.cells.all KE=Ht)/\(∀p∈es,∀i∈p.ids,ZI s.m i)/\(∀i j,i<n->j<sz->RepS S M s.m.q (xs.getD (i*sz+j) undef) ((es.getD i .any).cells.getD j .any))/\
   ∀k,v.ownBlock=Hs k-> ¬B k/\(∀o,S k o=Hn)/\0<M.κ d/\M.ψ d=k:=by
 obtain⟨O,e',y,I,E,N⟩:=z.vc d es hv;rw[q]at y;simp only[JH.injEq,Row.vec.injEq]at y;obtain⟨Y,rfl,rfl⟩:=y;subst Y;obtain⟨_,t⟩:=W.vsl_inv;obtain⟨_,U⟩:=t _ _ _ q;obtain⟨_,t3,X⟩:=U rfl;obtain⟨Z,o2⟩:=z.row d _ q;cases g:M.κ d with
 |zero=>
  have G:=Z g;have b:=t3 g;refine⟨[],⟨by simp[G],.inl ⟨b,G⟩⟩,rfl,I,E,λi j u=>by omega,λk h=> ?_⟩;rw[b]at h;cases h
 |succ c=>
  obtain⟨A,J,R,⟨vs,F,C⟩,V⟩:=o2 c g;have b:=X c g;have L:=N c g vs e (0,0) F;refine⟨vs.take (es.length*sz),⟨?_,.inr ⟨M.ψ d,c,⟨vs⟩,b,Ko _,F,A,J,C,rfl⟩⟩,rfl,I,E,λi j u T=> ?_,λk h=> ?_⟩
  ·rw[Kv,C];exact KJ (Jn _ A)
  ·have r:i*sz+j<es.length*sz:=by
    calc i*sz+j<i*sz+sz:=by omega
     _=(i+1)*sz:=by rw[J9,JZ]
     _<=es.length*sz:=Jn _ u
   rw[Ji,JU r,<-Ji];exact L i j u T
  ·rw[b]at h;cases h;exact⟨R,V,by omega,rfl⟩
theorem Sim.rerow (G:Sim B S M s a w) {w':World} {d d2 n n' sz:Nat} {e:TypeId} {es':List PV} {v v':Value} {xs':List Value} (hq:s.m.q d=Hs (.vec n sz e)) (hr:RepS S M s.m.q v (.vsl d n sz)) (R:s.m.q d2=Hn)
  (V:w'.ownsRow 0 e sz v' n' xs') (xb:(w.grownBy w' Hn/\ ∀k,v'.ownBlock=Hs k->w.heap.size<=k)\/ ∃k,v.ownBlock=Hs k/\v'.ownBlock=Hs k/\w.grownBy w' (Hs k))
  (xi:es'.length=n') (O:∀p∈es',p.cells.length=sz/\p.cells.all KE=Ht) (X:∀p∈es',∀i∈p.ids,ZI s.m i/\i≠ .r d)
  (xe:∀i j,i<n'->j<sz->RepS S M s.m.q (xs'.getD (i*sz+j) undef) ((es'.getD i .any).cells.getD j .any)):
  ∃M',Sim B S M' (s.with { s.m with q:=upd (upd s.m.q d (Hs .dead)) d2 (Hs (.vec n' sz e)),v:=upd (upd s.m.v d Hn) d2 (Hs es') }) a w'/\RepS S M' (upd (upd s.m.q d (Hs .dead)) d2 (Hs (.vec n' sz e))) v' (.vsl d2 n' sz)/\Ext B S S w w':=by
 have xg:d≠d2:=λe=>by subst e;rw[hq]at R;cases R
 -- what is known of the old block
 obtain⟨_,t⟩:=hr.vsl_inv;obtain⟨_,t2⟩:=t _ _ _ hq;obtain⟨_,t3,t4⟩:=t2 rfl;obtain⟨o1,o2⟩:=G.row d _ hq;have old:∀k,v.ownBlock=Hs k-> ¬B k/\(∀o,S k o=Hn)/\0<M.κ d/\M.ψ d=k/\ ∃c t,w.heap[k]? = Hs (.cells c t (0,0)):=λk A=>by
  cases J:M.κ d with
  |zero=>rw[t3 J]at A;cases A
  |succ c=>
   obtain⟨k1,k2,k3,⟨vs,k5,k6⟩,k4⟩:=o2 c J;rw[t4 c J]at A;cases A;exact⟨k3,k4,by omega,rfl,_,_,k5⟩
 obtain⟨row,T,F⟩:∃row,w.grownBy w' row/\ ∀k,row=Hs k->v.ownBlock=Hs k:=by
  rcases xb with ⟨T,_⟩|⟨k,C,_,T⟩;exact⟨Hn,T,λk h=>by cases h⟩;exact⟨Hs k,T,λk' h=>by cases h;exact C⟩
 have xc:∀ {b o u},S b o=Hs u->b<w.heap.size:=λh=>Uo (G.stable.s.c _ _ _ h)
 have newOk:∀k,v'.ownBlock=Hs k-> ¬B k/\(∀o,S k o=Hn)/\(∀i r,i≠d->s.m.q i=Hs r->r.own=Ht->0<M.κ i->M.ψ i≠k)/\ ∀i cs,s.m.h i=Hs cs->s.m.z i=Hf->M.φ i≠k:=λk A=>by
  rcases xb with ⟨_,xd⟩|⟨k',C,E,_⟩;have xs:=xd k A;refine⟨λh=>by have:=G.hB k h;omega,λo=> ?_,λi r _ z I J e=> ?_,λi cs z Y e=> ?_⟩;cases h:S k o with
  |none=>rfl
  |some u=>have:=xc h;omega
  have:=G.row_lt z I J;omega;have:=G.blk_lt z Y;omega;rw[E]at A;cases A;obtain⟨b1,b2,b3,b4,_⟩:=old _ C;exact⟨b1,b2,λi r L z I J e=>G.injq i d r _ z hq I rfl J b3 L (e.trans b4.symm),λi cs z Y e=>G.injx i d cs _ z Y hq rfl b3 (e.trans b4.symm)⟩
 have cell':∀k,row=Hs k-> ∃vs e,w'.heap[k]? = Hs (.cells vs e (0,0)):=λk A=>by
  rcases xb with ⟨xp,_⟩|⟨k',C,E,_⟩;have:=F k A;obtain⟨_,_,_,_,c,t,h⟩:=old k this;by_cases hr:row=Hn;rw[hr]at A;cases A;exact⟨c,t,by rw[xp.block k (Jb.1 h).1 (by simp)];exact h⟩;have xf:=F k A;rw[C]at xf;cases xf;rcases V.2 with ⟨rfl,_⟩|⟨g,cap,y,rfl,_,N,_⟩;cases E;cases E;exact⟨y,e,N⟩
 have xh:StabS S w':=G.stable.s.grown T λk A=>by
  obtain⟨_,b2,_,_,c,t,h⟩:=old k (F k A);obtain⟨vs,W,h'⟩:=cell' k A;exact⟨b2,vs,W,h',c,t,h⟩
 have xo:=G.deadRow d;have qd:∀ {i r},i≠d->upd s.m.q d (Hs Row.dead) i=Hs r->s.m.q i=Hs r:=λ{i r} L h=>by rwa[Zb _ _ (J6 L)]at h
 have qo:∀ {i r},upd s.m.q d (Hs Row.dead) i=Hs r->r.own=Ht->i≠d:=λ{i r} h I e=>by subst e;rw[Za]at h;cases h;cases I
 have xj:=xo.moveX (w':=w') row (λk A L=>T.block k A λe=>L e.symm) T.size xh λk A=>by
  obtain⟨b1,b2,b3,b4,c,t,h⟩:=old k (F k A);exact⟨b1,⟨c,t,_,h⟩,λid cs z Y e=>G.injx id d cs _ z Y hq rfl b3 (e.trans b4.symm),λid r z I J e=>G.injq id d r _ (qd (qo z I) z) hq I rfl J b3 (qo z I) (e.trans b4.symm)⟩
 obtain⟨κ,ψ,U⟩:∃κ ψ,(κ=0/\n'=0/\v'= .slice Hn 0 0)\/ ∃c y,κ=c+1/\v'= .slice (Hs ⟨ψ,0,Hn⟩) n' c/\w'.heap[ψ]? = Hs (.cells ⟨y⟩ e (0,0))/\n'<=c/\c<=maxLen/\y.length=c*sz/\y.take (n'*sz)=xs':=by
  rcases V.2 with ⟨C,E⟩|⟨g,cap,y,C,_,N,h4,h5,h6,h7⟩;exact⟨0,0,.inl ⟨rfl,E,C⟩⟩;exact⟨cap+1,g,.inr ⟨cap,y.toList,rfl,C,N,h4,h5,h6,h7⟩⟩
 have q2:upd s.m.q d (Hs Row.dead) d2=none:=by rw[Zb _ _ xg];exact R
 have v2:upd s.m.v d Hn d2=none:=by
  rw[Zb _ _ xg];cases h:s.m.v d2 with
  |none=>rfl
  |some es=>obtain⟨xk,W,C⟩:=G.vec_q h;rw[R]at C;cases C
 have xl:=xj.layRow (d:=d2) (ψ:=ψ) (κ:=κ) (r:= .vec n' sz e) (.inl q2) (by
  refine⟨λh0=> ?_,λc hc=> ?_⟩;simp only[Za]at h0;rcases U with ⟨_,E,_⟩|⟨c,y,C,_⟩;exact E;omega;simp only[Za]at hc ⊢;rcases U with ⟨C,_,_⟩|⟨c',y,C,E,N,h4,h5,h6,_⟩;omega;obtain rfl:c'=c:=by omega
  obtain⟨b1,b2,_,_⟩:=newOk ψ (by rw[E];rfl);exact⟨h4,h5,b1,⟨y,N,h6⟩,b2⟩) v2 (λi r' _ z I J _ A=>by
  rcases U with ⟨C,_,_⟩|⟨c',y,C,E,_⟩;omega;exact(newOk ψ (by rw[E];rfl)).2.2.1 i r' (qo z I) (qd (qo z I) z) I J) (λi cs z Y _ A=>by
  rcases U with ⟨C,_,_⟩|⟨c',y,C,E,_⟩;omega;exact(newOk ψ (by rw[E];rfl)).2.2.2 i cs z Y)
 have move:∀ {u p},RepS S M s.m.q u p->(∀i∈p.ids,ZI s.m i/\i≠ .r d)->RepS S { M with ψ:=upd M.ψ d2 ψ,κ:=upd M.κ d2 κ } (upd (upd s.m.q d (Hs .dead)) d2 (Hs (.vec n' sz e))) u p:=λ{u p} r z=>
  r.heap (JI S) (λ_ _=>rfl) λi xm=>by
   obtain⟨C,E⟩:=z _ xm;have W:d≠i:=λe=>E (by rw[e])
   have e2:d2≠i:=λe=>C (by rw[<-e];exact R)
   rw[Zb _ _ e2,Zb _ _ W];exact .same (Zb _ _ e2) (Zb _ _ e2)
 have live3:∀i,ZI s.m i->ZI (({ s.m with v:=upd s.m.v d Hn }.setq d .dead).setq d2 (.vec n' sz e)) i:=λi h=>by
  cases i with
  |b i=>exact h
  |r i=>
   show upd (upd s.m.q d (Hs .dead)) d2 (Hs (.vec n' sz e)) i≠Hn;by_cases e2:d2=i;subst e2;rw[Za];simp;rw[Zb _ _ e2];by_cases W:d=i;subst W;rw[Za];simp;rw[Zb _ _ W];exact h
 have xr:=xl.layVec (d:=d2) (es:=es') ⟨sz,e,by subst xi;exact Za _ _ _,O,λp hp i z=>live3 i (X p hp i z).1,λc hc us t f Z i j z hj=>by
  simp only[Za]at hc Z;subst xi;rcases U with ⟨C,_,_⟩|⟨c',y,C,E,N,h4,h5,h6,h7⟩;omega;rw[N]at Z;cases Z;have xq:i*sz+j<es'.length*sz:=by
   calc i*sz+j<i*sz+sz:=by omega
    _=(i+1)*sz:=by rw[J9,JZ]
    _<=es'.length*sz:=Jn _ z
  have h8:=xe i j z hj;rw[<-h7,Ji,JU xq,<-Ji]at h8;have hm:es'.getD i .any∈es':=Zc z;have xn:j<(es'.getD i .any).cells.length:=by rw[(O _ hm).1];exact hj
  exact move h8 λk A=>X _ hm k (Yv (Zc (d:= .any) xn) A)⟩
 refine⟨_,xr,?_,⟨JI S,λ_ _=>⟨λ_=>rfl,rfl⟩,BelowF.of_grown T G.hB λk A=>(old k (F k A)).1⟩⟩;refine .vsl d2 n' sz v' ?_ λn1 xk W xa=> ?_
 rcases U with ⟨_,E,N⟩|⟨c,y,_,E,_,h4,_⟩;exact⟨Hn,0,by rw[N,E],by omega,λh=>by omega⟩;exact⟨_,c,E,h4,λ_=>⟨ψ,0,rfl⟩⟩;rw[Za]at xa;simp only[JH.injEq,Row.vec.injEq]at xa;obtain⟨rfl,rfl,rfl⟩:=xa;refine⟨Ju _,λ_=>⟨rfl,λh=> ?_,λc hc=> ?_⟩⟩;simp only[Za]at h;rcases U with ⟨_,_,N⟩|⟨c,y,C,_⟩;exact N;omega;simp only[Za]at hc ⊢;rcases U with ⟨C,_,_⟩|⟨c',y,C,E,_⟩;omega;obtain rfl:c'=c:=by omega
 exact E
end
end Go.PL
