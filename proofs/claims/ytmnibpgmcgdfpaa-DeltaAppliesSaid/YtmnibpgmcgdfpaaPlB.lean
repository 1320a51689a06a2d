/- A logic of values for functions that only read and build, over the model (part 2): no statement of the seat is proved here. -/
import Derived.Test.YtmnibpgmcgdfpaaPlA
import Derived.Deep.AppendSrc
import Derived.Deep.Upon
import Derived.Laws.IdiomStrings
import Derived.Laws.BytesString
namespace Go.PL
set_option maxHeartbeats 64000000
set_option maxRecDepth 20000
set_option linter.unusedVariables false
set_option linter.unusedSimpArgs false
open Go.RowKit
inductive Leaf where
 |int|bool|str
 deriving DecidableEq
mutual
def V7 (P:Program):Nat→TypeId→Option (List Leaf)
 |0,_=>none
 |n+1,t=>match P.underlying t with
  |some (.int _)=>some [.int]
  |some .bool=>some [.bool]
  |some .string=>some [.str]
  |some (.struct fs)=>if P.stoodInHeld t then none else SB P n 0 fs.toList
  |some (.array len e)=>match V7 P n e with
   |some l=>if l.length=tsz P e then some (List.replicate len l).flatten else none
   |none=>none
  |_=>none
def SB (P:Program):Nat→Nat→List Field→Option (List Leaf)
 |_,_,[]=>some []
 |0,_,_::_=>none
 |n+1,off,f::fs=>if f.name= "_" ∨ f.offset≠off then none else
  match V7 P n f.type with
  |some l=>if l.length=tsz P f.type then(match SB P n (off+l.length) fs with|some r=>some (l++r)|none=>none)else none
  |none=>none
end
def Tb:Leaf→PV→PV→Option Bool
 | .int,.int k a,.int k' b=>if k=k' then some (a==b)else none
 | .bool,.bool a,.bool b=>some (a==b)
 | .str,.str a,.str b=>some (a==b)
 |_,_,_=>none
def Zz:List Leaf→List PV→List PV→Option Bool
 | [],[],[]=>some true
 |l::ls,c::cs,d::ds=>match Tb l c d,Zz ls cs ds with
  |some x,some y=>some (x&&y)
  |_,_=>none
 |_,_,_=>none
section
variable {P:Program} {S:Stable} {M:Maps} {h:Rows}
def RepL (S:Stable) (M:Maps) (h:Rows) (vs:List Value) (cs:List PV):Prop:=vs.length=cs.length∧ ∀i,i<cs.length→RepS S M h (vs.getD i undef) (cs.getD i .any)
theorem RepL.cons {v:Value} {vs:List Value} {c:PV} {cs:List PV} (r:RepL S M h (v::vs) (c::cs)):RepS S M h v c∧RepL S M h vs cs:=
 ⟨r.2 0 (by simp),by simpa using r.1,fun i hi=>by simpa using r.2 (i+1) (by simpa using hi)⟩
theorem RepL.take {vs:List Value} {cs:List PV} (r:RepL S M h vs cs) (n:Nat):RepL S M h (vs.take n) (cs.take n):=by
 refine⟨by simp[r.1],fun i hi=> ?_⟩;simp only[List.length_take]at hi;rw[YM (by omega),YM (by omega)];exact r.2 i (by omega)
theorem RepL.drop {vs:List Value} {cs:List PV} (r:RepL S M h vs cs) (n:Nat):RepL S M h (vs.drop n) (cs.drop n):=by
 refine⟨by simp[r.1],fun i hi=> ?_⟩;simp only[List.length_drop]at hi;rw[Y3,Y3];exact r.2 _ (by omega)
theorem W7:∀ {ls:List Leaf} {cs ds:List PV} {r:Bool},Zz ls cs ds=some r→cs.length=ls.length∧ds.length=ls.length
 | [],[],[],_,_=>⟨rfl,rfl⟩
 |l::ls,c::cs,d::ds,r,h=>by
  simp only[Zz]at h;split at h
  ·rename_i x y h1 h2;obtain⟨e1,e2⟩:=W7 h2;simp[e1,e2]
  ·cases h
 | [],c::cs,_,_,h=>by simp[Zz]at h
 | [],[],d::ds,_,h=>by simp[Zz]at h
 |l::ls,[],_,_,h=>by simp[Zz]at h
 |l::ls,c::cs,[],_,h=>by simp[Zz]at h
theorem WJ:∀ {ls ls':List Leaf} {cs ds:List PV} {r:Bool},Zz (ls++ls') cs ds=some r→
  ∃x y,Zz ls (cs.take ls.length) (ds.take ls.length)=some x∧Zz ls' (cs.drop ls.length) (ds.drop ls.length)=some y∧r=(x&&y)
 | [],ls',cs,ds,r,h=>⟨true,r,by simp[Zz],by simpa using h,by simp⟩
 |l::ls,ls',c::cs,d::ds,r,h=>by
  simp only[List.cons_append,Zz]at h;split at h
  ·rename_i x y h1 h2;obtain⟨x',y',e1,e2,e3⟩:=WJ h2;refine⟨x&&x',y',?_,by simpa using e2,?_⟩
   ·simp only[List.length_cons,List.take_succ_cons,Zz,h1,e1]
   ·simp only[Option.some.injEq]at h;rw[←h,e3,Bool.and_assoc]
  ·cases h
 |l::ls,ls',[],_,_,h=>by simp[Zz]at h
 |l::ls,ls',c::cs,[],_,h=>by simp[Zz]at h
def YT (P:Program) (t:TypeId) (vs:List Value):Value:=if Yd P t then .agg ⟨vs⟩else vs.getD 0 undef
theorem YR {e:TypeId} {d:TypeDesc} {vs:List Value} {off:Nat} (hu:P.underlying e=some d) (hoff:off+tsz P e≤vs.length) (h1:Yd P e=false→tsz P e=1) (w:World):
  (part e ⟨vs⟩ off).run P w= .ok (YT P e ((vs.drop off).take (tsz P e))) w:=by
 obtain⟨i,hi⟩:=YO hu;unfold part YT;cases hg:Yd P e with
 |true=>
  simp only[Sem.run_bind,WU hu,Result.andThen_ok,hg,if_true,Z6 hi,Sem.run_pure];simp
 |false=>
  have hz:=h1 hg;simp only[Sem.run_bind,WU hu,Result.andThen_ok,hg,Bool.false_eq_true,if_false,hz];have:off<vs.length:=by omega
  simp[this]
theorem Fm {n:Nat} {t:TypeId} {ls:List Leaf} (h:V7 P n t=some ls):(∃d,P.underlying t=some d)∧(Yd P t=false→ls.length=1):=by
 cases n with
 |zero=>simp[V7]at h
 |succ n=>
  unfold V7 at h;unfold Yd;cases e:P.underlying t with
  |none=>rw[e]at h;simp at h
  |some d=>
   refine⟨⟨d,rfl⟩,?_⟩;rw[e]at h;cases d<;>simp_all<;>(try(rw[←h];rfl))
def Sw (d:Nat) (e:TypeId) (n:Nat) (xs ys:Array Value):Nat→Nat→Sem Bool
 |_,0=>Pure.pure true
 |i,k+1=>do
  let a ←part e xs (i*n)
  let b ←part e ys (i*n)
  let r ←Op.equalIn d e a b
  if(!r)=true then Pure.pure false else Sw d e n xs ys (i+1) k
theorem SJ (w:World) (d:Nat) (t e:TypeId) (len:Nat) (i:TypeInfo) (xs ys:Array Value) (ht:P.underlying t=some (.array len e)) (hi:P.info? e=some i):
  (Op.equalIn (d+1) t (.agg xs) (.agg ys)).run P w=(Sw d e (tsz P e) xs ys 0 len).run P w:=by
 simp only[Op.equalIn,Sem.run_bind,Zw ht,Result.andThen_ok,Z6 hi];rw[Std.Legacy.Range.forIn_eq_forIn_range'];simp only[Std.Legacy.Range.size,Nat.sub_zero,Nat.add_sub_cancel,Nat.div_one];generalize (0:Nat)=s;clear ht
 induction len generalizing w s with
 |zero=>simp[Sw]
 |succ k ih=>
  simp only[List.range'_succ,List.forIn_cons,Sw,Sem.run_bind];generalize (part e xs (s*tsz P e)).run P w=r1;cases r1 with
  |ok a w1=>
   simp only[Result.andThen_ok];generalize (part e ys (s*tsz P e)).run P w1=r2;cases r2 with
   |ok b w2=>
    simp only[Result.andThen_ok];generalize (Op.equalIn d e a b).run P w2=r3;cases r3 with
    |ok r w3=>
     cases r
     ·simp only[Result.andThen_ok,Bool.not_false,if_true,Sem.run_pure]
     ·simp only[Result.andThen_ok,Bool.not_true,Bool.false_eq_true,if_false,Sem.run_pure];exact ih w3 (s+1)
    |halt x w3=>simp[Result.andThen]
   |halt x w2=>simp[Result.andThen]
  |halt x w1=>simp[Result.andThen]
def Zni (P:Program) (S:Stable) (M:Maps) (h:Rows) (d:Nat) (t:TypeId) (ls:List Leaf):Prop:=
 ∀vs us cs ds r,RepL S M h vs cs→RepL S M h us ds→Zz ls cs ds=some r→ ∀w,(Op.equalIn d t (YT P t vs) (YT P t us)).run P w= .ok r w
theorem Fb {d:Nat} {e:TypeId} {l:List Leaf} {de:TypeDesc} (hu:P.underlying e=some de) (hl:l.length=tsz P e) (h1:Yd P e=false→tsz P e=1) (he:Zni P S M h d e l):
  ∀(k s:Nat) (vs us:List Value) (cs ds:List PV) (r:Bool),RepL S M h vs cs→RepL S M h us ds→Zz (List.replicate k l).flatten (cs.drop (s*tsz P e)) (ds.drop (s*tsz P e))=some r→
   s*tsz P e≤cs.length→s*tsz P e≤ds.length→ ∀w,(Sw d e (tsz P e) ⟨vs⟩ ⟨us⟩ s k).run P w= .ok r w
 |0,s,vs,us,cs,ds,r,rv,ru,hr,_,_,w=>by
  simp only[List.replicate_zero,List.flatten_nil]at hr;have:r=true:=by
   revert hr
   cases cs.drop (s*tsz P e)<;>cases ds.drop (s*tsz P e)<;>simp[Zz]
  subst this;rfl
 |k+1,s,vs,us,cs,ds,r,rv,ru,hr,hc,hd,w=>by
  simp only[List.replicate_succ,List.flatten_cons]at hr;obtain⟨x,y,e1,e2,rfl⟩:=WJ hr;obtain⟨f1,f2⟩:=W7 e1;simp only[List.length_take,List.length_drop]at f1 f2;have p1:=YR (vs:=vs) (off:=s*tsz P e) hu (by rw[rv.1];omega) h1 w;have p2:=YR (vs:=us) (off:=s*tsz P e) hu (by rw[ru.1];omega) h1 w;have q:=he _ _ _ _ x ((rv.drop (s*tsz P e)).take (tsz P e)) ((ru.drop (s*tsz P e)).take (tsz P e)) (by rw[hl]at e1;exact e1) w;have e2':Zz (List.replicate k l).flatten (cs.drop ((s+1)*tsz P e)) (ds.drop ((s+1)*tsz P e))=some y:=by
   rw[List.drop_drop,List.drop_drop,hl]at e2;rw[Nat.add_mul,Nat.one_mul];exact e2
  have ih:=Fb hu hl h1 he k (s+1) vs us cs ds y rv ru e2' (by rw[Nat.add_mul,Nat.one_mul];omega) (by rw[Nat.add_mul,Nat.one_mul];omega) w;simp only[Sw,Sem.run_bind,p1,p2,q,Result.andThen_ok];cases x
  ·simp
  ·simpa using ih
theorem Fc {c d:PV} {x:Bool} (h:Tb .int c d=some x):∃k a b,c= .int k a∧d= .int k b∧x=(a==b):=by
 cases c<;>cases d<;>simp[Tb]at h
 obtain⟨rfl,rfl⟩:=h;exact⟨_,_,_,rfl,rfl,rfl⟩
theorem GX {c d:PV} {x:Bool} (h:Tb .bool c d=some x):∃a b,c= .bool a∧d= .bool b∧x=(a==b):=by
 cases c<;>cases d<;>simp[Tb]at h
 subst h;exact⟨_,_,rfl,rfl,rfl⟩
theorem Fe {c d:PV} {x:Bool} (h:Tb .str c d=some x):∃a b,c= .str a∧d= .str b∧x=(a==b):=by
 cases c<;>cases d<;>simp[Tb]at h
 subst h;exact⟨_,_,rfl,rfl,rfl⟩
mutual
theorem Zic:∀(n:Nat) (t:TypeId) (ls:List Leaf),V7 P n t=some ls→ ∀d,n≤d→Zni P S M h d t ls
 |0,_,_,hh,_,_=>by simp[V7]at hh
 |n+1,t,ls,hh,d,hd=>by
  obtain⟨d,rfl⟩:∃d',d=d'+1:=⟨d-1,by omega⟩;intro vs us cs ds r rv ru hr w;have one:∀ {c' d':PV},cs= [c']→ds= [d']→RepS S M h (vs.getD 0 undef) c'∧RepS S M h (us.getD 0 undef) d':=fun h1 h2=>by
   subst h1;subst h2;exact⟨rv.2 0 (by simp),ru.2 0 (by simp)⟩
  unfold V7 at hh;cases e:P.underlying t with
  |none=>rw[e]at hh;simp at hh
  |some dd=>
   rw[e]at hh;have leaf:∀ {lf:Leaf},ls= [lf]→ ∃c' d',cs= [c']∧ds= [d']∧ ∃x,Tb lf c' d'=some x∧r=x:=by
    intro lf hl;subst hl;obtain⟨e1,e2⟩:=W7 hr;obtain⟨c',rfl⟩:=List.length_eq_one_iff.1 e1;obtain⟨d',rfl⟩:=List.length_eq_one_iff.1 e2;simp only[Zz]at hr;split at hr
    ·rename_i x y h1 h2;simp only[Option.some.injEq]at h2;subst h2;refine⟨c',d',rfl,rfl,x,h1,?_⟩;simpa using hr.symm
    ·cases hr
   cases dd with
   |int k0=>
    simp only[Option.some.injEq]at hh;obtain⟨c',d',h1,h2,x,hx,rfl⟩:=leaf hh.symm;obtain⟨r1,r2⟩:=one h1 h2;have ht:Yd P t=false:=by simp[Yd,e]
    obtain⟨k,x1,x2,rfl,rfl,rfl⟩:=Fc hx;simp only[YT,ht,Bool.false_eq_true,if_false];rw[r1.int_inv,r2.int_inv];exact run_equalIn_int w d t _ k0 _ _ e
   |bool=>
    simp only[Option.some.injEq]at hh;obtain⟨c',d',h1,h2,x,hx,rfl⟩:=leaf hh.symm;obtain⟨r1,r2⟩:=one h1 h2;have ht:Yd P t=false:=by simp[Yd,e]
    obtain⟨x1,x2,rfl,rfl,rfl⟩:=GX hx;simp only[YT,ht,Bool.false_eq_true,if_false];rw[r1.bool_inv,r2.bool_inv];exact run_equalIn_bool' w d t _ _ e
   |string=>
    simp only[Option.some.injEq]at hh;obtain⟨c',d',h1,h2,x,hx,rfl⟩:=leaf hh.symm;obtain⟨r1,r2⟩:=one h1 h2;have ht:Yd P t=false:=by simp[Yd,e]
    obtain⟨x1,x2,rfl,rfl,rfl⟩:=Fe hx;simp only[YT,ht,Bool.false_eq_true,if_false];rw[r1.str_inv,r2.str_inv,run_equalIn_string w d t _ _ e,ByteArray.toList_eq,ByteArray.toList_eq]
   |struct fs=>
    simp only at hh;split at hh
    ·cases hh
    ·rename_i hst;have ht:Yd P t=true:=by simp[Yd,e]
     have hf:P.fieldsOf t=fs:=by simp[Program.fieldsOf,e]
     simp only[YT,ht,if_true];rw[run_equalIn_struct w d t _ _ (by rw[hf];exact e) (by simpa using hst),hf];exact Zjb n 0 fs.toList ls hh d (by omega) vs us cs ds r rv ru (by simpa using hr) (Nat.zero_le _) (Nat.zero_le _) w
   |array len el=>
    simp only at hh;split at hh
    ·rename_i l hl;split at hh
     ·rename_i hlen;simp only[Option.some.injEq]at hh;subst hh;have ht:Yd P t=true:=by simp[Yd,e]
      obtain⟨⟨de,hde⟩,h1⟩:=Fm hl;obtain⟨i,hi⟩:=YO hde;simp only[YT,ht,if_true];rw[SJ w d t el len i _ _ e hi];exact Fb hde hlen (fun hg=>by rw[←hlen];exact h1 hg) (Zic n el l hl d (by omega)) len 0 vs us cs ds r rv ru (by simpa using hr) (by simp) (by simp) w
     ·cases hh
    ·cases hh
   |_=>simp at hh
theorem Zjb:∀(n off:Nat) (fs:List Field) (ls:List Leaf),SB P n off fs=some ls→ ∀d,n≤d→ ∀vs us cs ds r,RepL S M h vs cs→RepL S M h us ds→
  Zz ls (cs.drop off) (ds.drop off)=some r→off≤cs.length→off≤ds.length→ ∀w,(Op.eqFields d ⟨vs⟩ ⟨us⟩ fs).run P w= .ok r w
 |n,off,[],ls,hh,d,hd,vs,us,cs,ds,r,rv,ru,hr,_,_,w=>by
  have:ls= []:=by cases n<;>simp[SB]at hh<;>exact hh
  subst this;have:r=true:=by
   revert hr
   cases cs.drop off<;>cases ds.drop off<;>simp[Zz]
  subst this;rfl
 |0,off,f::fs,ls,hh,d,hd,vs,us,cs,ds,r,rv,ru,hr,_,_,w=>by simp[SB]at hh
 |n+1,off,f::fs,ls,hh,d,hd,vs,us,cs,ds,r,rv,ru,hr,hc,hdd,w=>by
  simp only[SB]at hh;split at hh
  ·cases hh
  ·rename_i hno;have hname:f.name≠ "_" :=fun e=>hno (.inl e)
   have hoff:f.offset=off:=Decidable.byContradiction fun e=>hno (.inr e)
   split at hh
   ·rename_i l hl;split at hh
    ·rename_i hlen;split at hh
     ·rename_i rest hrest;simp only[Option.some.injEq]at hh;subst hh;obtain⟨⟨de,hde⟩,h1⟩:=Fm hl;obtain⟨x,y,e1,e2,rfl⟩:=WJ hr;obtain⟨f1,f2⟩:=W7 e1;simp only[List.length_take,List.length_drop]at f1 f2;have h1':Yd P f.type=false→tsz P f.type=1:=fun hg=>by rw[←hlen];exact h1 hg
      have p1:=YR (vs:=vs) (off:=off) hde (by rw[rv.1];omega) h1' w;have p2:=YR (vs:=us) (off:=off) hde (by rw[ru.1];omega) h1' w;have q:=Zic n f.type l hl d (by omega) _ _ _ _ x ((rv.drop off).take (tsz P f.type)) ((ru.drop off).take (tsz P f.type)) (by rw[hlen]at e1;exact e1) w;have ih:=Zjb n (off+l.length) fs rest hrest d (by omega) vs us cs ds y rv ru (by rw[←List.drop_drop,←List.drop_drop];exact e2) (by omega) (by omega) w;simp only[Op.eqFields,hname,ne_eq,not_false_eq_true,if_true,Sem.run_bind,hoff,p1,p2,q,Result.andThen_ok];cases x
      ·simp
      ·simpa using ih
     ·cases hh
    ·cases hh
   ·cases hh
end
end
open Go.RowKit
def Sv:Nat:=40
def ZcY (P:Program) (t:TypeId):Option (List Leaf):=if P.eqGuardType P.depth t|| !Yd P t then none else V7 P Sv t
def Zq:List UInt8→List UInt8→Bool:=Op.bytesLess
def ZhG (op:BinOp) (k k':IntKind) (a b:Int) (m:Hp):ARes:=
 match op with
 | .add=>⟨k=k',.int k (k.wrap (a+b)),m⟩
 | .sub=>⟨k=k',.int k (k.wrap (a-b)),m⟩
 | .mul=>⟨k=k',.int k (k.wrap (a*b)),m⟩
 | .quo=>⟨k=k'∧b≠0,.int k (k.wrap (a.tdiv b)),m⟩
 | .rem=>⟨k=k'∧b≠0,.int k (a.tmod b),m⟩
 | .eql=>⟨k=k',.bool (a==b),m⟩
 | .neq=>⟨k=k',.bool (a !=b),m⟩
 | .lss=>⟨k=k',.bool (decide (a<b)),m⟩
 | .leq=>⟨k=k',.bool (decide (a≤b)),m⟩
 | .gtr=>⟨k=k',.bool (decide (b<a)),m⟩
 | .geq=>⟨k=k',.bool (decide (b≤a)),m⟩
 | .and=>⟨k=k',.int k (k.wrap ((BitVec.ofInt k.bits a&&& BitVec.ofInt k.bits b).toNat)),m⟩
 | .or=>⟨k=k',.int k (k.wrap ((BitVec.ofInt k.bits a|||BitVec.ofInt k.bits b).toNat)),m⟩
 | .xor=>⟨k=k',.int k (k.wrap ((BitVec.ofInt k.bits a ^^^ BitVec.ofInt k.bits b).toNat)),m⟩
 | .shl=>⟨0≤b,.int k (k.wrap (a*2 ^ (min b.toNat k.bits))),m⟩
 | .shr=>⟨0≤b,.int k (a.fdiv (2 ^ (min b.toNat k.bits))),m⟩
 |_=> .fail
def ZhK (op:BinOp) (a b:List UInt8) (m:Hp):ARes:=
 match op with
 | .add=>⟨(a.length+b.length:Int)≤9223372036854775807,.str (a++b),m⟩
 | .eql=>⟨True,.bool (a==b),m⟩
 | .neq=>⟨True,.bool (!(a==b)),m⟩
 | .lss=>⟨True,.bool (Zq a b),m⟩
 | .leq=>⟨True,.bool (Zq a b||a==b),m⟩
 | .gtr=>⟨True,.bool (!(Zq a b||a==b)),m⟩
 | .geq=>⟨True,.bool (!Zq a b),m⟩
 |_=> .fail
def ZdM:PV→PV→Option Bool
 | .nilp,.nilp=>some true
 | .nilp,.ptr _ _| .nilp,.rptr _| .ptr _ _,.nilp| .rptr _,.nilp=>some false
 |_,_=>none
def ZiN:PV→PV→Option Bool
 | .sl .nil _,.sl .nil _=>some true
 | .sl _ (_::_),.sl .nil _=>some false
 | .sl .nil _,.sl _ (_::_)=>some false
 | .osl _ _ _ _,.sl .nil _=>some false
 |_,_=>none
def ZdH:PV→PV→Option Bool
 | .nilmap,.nilmap=>some true
 | .nilmap,.mref _| .nilmap,.rmap _ _| .mref _,.nilmap| .rmap _ _,.nilmap=>some false
 |_,_=>none
inductive EqK where
 |bool|ptr|slc|map|other
def ZcX (P:Program) (t:TypeId):EqK:=
 match P.underlying t with
 |some .bool=> .bool
 |some (.pointer _)=> .ptr
 |some (.slice _)=> .slc
 |some (.map _ _)=> .map
 |_=> .other
def aEq (neg:Bool) (r:Option Bool) (m:Hp):ARes:=match r with|some b=>⟨True,.bool (if neg then !b else b),m⟩|none=> .fail
def Zhi (P:Program) (neg:Bool) (t:TypeId) (x y:PV) (m:Hp):ARes:=
 match x,y with
 | .agg cs,.agg ds=>match ZcY P t with
  |some ls=>aEq neg (Zz ls cs ds) m
  |none=> .fail
 | .bool a,.bool b=>match ZcX P t with| .bool=>aEq neg (some (a==b)) m|_=> .fail
 |x,y=>match ZcX P t with
  | .ptr=>aEq neg (ZdM x y) m
  | .slc=>aEq neg (ZiN x y) m
  | .map=>aEq neg (ZdH x y) m
  |_=> .fail
def ZhF (op:BinOp) (k k':FloatKind) (a b:Nat) (m:Hp):ARes:=
 match op with
 | .eql=>⟨k=k',.bool (k.format.order a b==some .eq),m⟩
 | .neq=>⟨k=k',.bool (k.format.order a b !=some .eq),m⟩
 | .lss=>⟨k=k',.bool (k.format.order a b==some .lt),m⟩
 | .leq=>⟨k=k',.bool (k.format.order a b==some .lt||k.format.order a b==some .eq),m⟩
 | .gtr=>⟨k=k',.bool (k.format.order a b==some .gt),m⟩
 | .geq=>⟨k=k',.bool (k.format.order a b==some .gt||k.format.order a b==some .eq),m⟩
 |_=> .fail
def ZhD (P:Program) (op:BinOp) (t:TypeId) (x y:PV) (m:Hp):ARes:=
 match x,y with
 | .int k a,.int k' b=>ZhG op k k' a b m
 | .str a,.str b=>ZhK op a b m
 | .flt k a,.flt k' b=>ZhF op k k' a b m
 |x,y=>match op with
  | .eql=>Zhi P false t x y m
  | .neq=>Zhi P true t x y m
  |_=> .fail
section
variable {P:Program} {B:Frm} {S:Stable} {M:Maps} {s:St} {a:Act} {w:World}
theorem ZgN (hs:Sim B S M s a w) {op:BinOp} {t:TypeId} {k k':IntKind} {x y:Int} (hok:(ZhG op k k' x y s.m).ok):
  Snd P B S s a w (binOp op t (.int k x) (.int k' y)) (ZhG op k k' x y s.m):=by
 have fin:∀ {v:Value} {p:PV} {ok:Prop},(binOp op t (.int k x) (.int k' y)).run P w= .ok v w→Rep S v p→Snd P B S s a w (binOp op t (.int k x) (.int k' y)) ⟨ok,p,s.m⟩:=
  fun {v p ok} h1 h2=>Snd.pure hs h1 (.clean h2) (fun i hi=>absurd hi (h2.clean_ids i))
 revert hok
 unfold ZhG;split
 case h_17=>exact fun hok=>hok.elim
 all_goals intro hok
 all_goals first
  |(have e:k=k':=hok;subst e;refine fin ?_ (by constructor);simp[binOp,Op.intArith,Op.intCmp,Op.intBits];done)
  |(obtain⟨e,h0⟩:=hok;subst e;refine fin ?_ (by constructor);simp[binOp,Op.intDiv,h0];done)
  |(have h0:0≤y:=hok;have h1:¬y<0:=by omega
    refine fin ?_ (by constructor);simp[binOp,Op.shift,h1];done)
theorem ZgM (hs:Sim B S M s a w) {op:BinOp} {t:TypeId} {k k':FloatKind} {x y:Nat} (hok:(ZhF op k k' x y s.m).ok):
  Snd P B S s a w (binOp op t (.float k x) (.float k' y)) (ZhF op k k' x y s.m):=by
 have fin:∀ {v:Value} {p:PV} {ok:Prop},(binOp op t (.float k x) (.float k' y)).run P w= .ok v w→Rep S v p→Snd P B S s a w (binOp op t (.float k x) (.float k' y)) ⟨ok,p,s.m⟩:=
  fun {v p ok} h1 h2=>Snd.pure hs h1 (.clean h2) (fun i hi=>absurd hi (h2.clean_ids i))
 revert hok
 unfold ZhF;split
 case h_7=>exact fun hok=>hok.elim
 all_goals intro hok
 all_goals
  have e:k=k':=hok;subst e;refine fin ?_ (by constructor);simp[binOp,Op.floatCmp]
theorem ZgR (hs:Sim B S M s a w) {op:BinOp} {t:TypeId} {x y:List UInt8} (hok:(ZhK op x y s.m).ok):
  Snd P B S s a w (binOp op t (.string ⟨⟨x⟩⟩) (.string ⟨⟨y⟩⟩)) (ZhK op x y s.m):=by
 have fin:∀ {v:Value} {p:PV} {ok:Prop},(binOp op t (.string ⟨⟨x⟩⟩) (.string ⟨⟨y⟩⟩)).run P w= .ok v w→Rep S v p→Snd P B S s a w (binOp op t (.string ⟨⟨x⟩⟩) (.string ⟨⟨y⟩⟩)) ⟨ok,p,s.m⟩:=
  fun {v p ok} h1 h2=>Snd.pure hs h1 (.clean h2) (fun i hi=>absurd hi (h2.clean_ids i))
 have e1:(⟨⟨x⟩⟩:ByteArray).toList=x:=by rw[ByteArray.toList_eq]
 have e2:(⟨⟨y⟩⟩:ByteArray).toList=y:=by rw[ByteArray.toList_eq]
 revert hok
 unfold ZhK;split
 case h_8=>exact fun hok=>hok.elim
 all_goals intro hok
 ·refine fin (v:= .string ⟨⟨x++y⟩⟩) ?_ (.str _);have hle:¬(((⟨⟨x⟩⟩:ByteArray).size+(⟨⟨y⟩⟩:ByteArray).size:Nat):Int)>IntKind.i64.max:=by
   have h2:IntKind.i64.max=9223372036854775807:=by decide
   rw[h2];have h3:(⟨⟨x⟩⟩:ByteArray).size=x.length:=rfl;have h4:(⟨⟨y⟩⟩:ByteArray).size=y.length:=rfl;simp only at hok;rw[h3,h4];omega
  have e3:(⟨⟨x⟩⟩:ByteArray)++(⟨⟨y⟩⟩:ByteArray)=⟨⟨x++y⟩⟩:=by
   apply ByteArray.ext;rw[ByteArray.data_append];simp
  simp only[binOp,Op.stringOp,hle,if_false,e3];rfl
 all_goals (refine fin ?_ (by constructor);simp[binOp,Op.stringOp,e1,e2,Zq])
theorem X8 {op:BinOp} {t:TypeId} {x y:Operand} {v u:Value} (hv:v≠ .nilIface) (hc:∀cs ds,v= .agg cs→u= .agg ds→P.eqGuardType P.depth t=false):(eqGuard op t x y v u).run P w= .ok () w:=by
 have go:∀op:BinOp,op= .eql∨op= .neq→(eqGuard op t x y v u).run P w= .ok () w:=by
  intro op hop;rcases hop with rfl|rfl
  all_goals
   unfold eqGuard;simp only[Bool.not_true,Bool.false_eq_true,if_false];split
   ·exact absurd rfl hv
   ·have:=hc _ _ rfl rfl;simp[run_program,this]
   ·rfl
 cases op<;>first|rfl|exact go _ (.inl rfl)|exact go _ (.inr rfl)
theorem RepS.nilp_inv {v:Value} {qq:Rows} (r:RepS S M qq v .nilp):v= .pointer none:=by
 cases r with|clean r=>cases r;rfl
theorem Uf {op:BinOp} {t:TypeId} {x y:Value} (hop:op= .eql∨op= .neq) (h1:∀k n k' m,x= .int k n→y≠ .int k' m) (h2:∀k n k' m,x= .float k n→y≠ .float k' m) (h3:∀k n m k' n' m',x= .complex k n m→y≠ .complex k' n' m')
  (h4:∀u v,x= .string u→y≠ .string v) {r:Bool} (he:(Op.equal t x y).run P w= .ok r w):(binOp op t x y).run P w= .ok (.bool (if op= .neq then !r else r)) w:=by
 rcases hop with rfl|rfl
 ·cases x<;>cases y<;>first|(exact absurd rfl (h1 _ _ _ _ rfl))|(exact absurd rfl (h2 _ _ _ _ rfl))|(exact absurd rfl (h3 _ _ _ _ _ _ rfl))|(exact absurd rfl (h4 _ _ rfl))|(simp only[binOp,Sem.run_bind,he,Result.andThen_ok];rfl)
 ·cases x<;>cases y<;>first|(exact absurd rfl (h1 _ _ _ _ rfl))|(exact absurd rfl (h2 _ _ _ _ rfl))|(exact absurd rfl (h3 _ _ _ _ _ _ rfl))|(exact absurd rfl (h4 _ _ rfl))|(simp only[binOp,Sem.run_bind,he,Result.andThen_ok];rfl)
theorem Yw (d:Nat) (t e:TypeId) (b:Option Addr) (h:P.underlying t=some (.pointer e)):(Op.equalIn (d+1) t (.pointer none) (.pointer b)).run P w= .ok b.isNone w:=by
 simp[Op.equalIn,Zw h]
theorem Y8 (d:Nat) (t e:TypeId) (b:Addr) (h:P.underlying t=some (.pointer e)):(Op.equalIn (d+1) t (.pointer (some b)) (.pointer none)).run P w= .ok false w:=by
 simp[Op.equalIn,Zw h]
theorem Xy (d:Nat) (t e:TypeId) (b:Option Addr) (n c:Nat) (h:P.underlying t=some (.slice e)):(Op.equalIn (d+1) t (.slice none 0 0) (.slice b n c)).run P w= .ok b.isNone w:=by
 simp[Op.equalIn,Zw h]
theorem Yx (d:Nat) (t e:TypeId) (b:Addr) (n c:Nat) (h:P.underlying t=some (.slice e)):(Op.equalIn (d+1) t (.slice (some b) n c) (.slice none 0 0)).run P w= .ok false w:=by
 simp[Op.equalIn,Zw h]
theorem RepS.slnil_inv {v:Value} {qq:Rows} {es:List PV} (r:RepS S M qq v (.sl .nil es)):v= .slice none 0 0:=by
 cases r with|clean r=>cases r;rfl
theorem RepS.slcons_inv {v:Value} {qq:Rows} {t:Tok} {e:PV} {es:List PV} (r:RepS S M qq v (.sl t (e::es))):∃b n c,v= .slice (some b) n c:=by
 obtain⟨b,o,cap,vals,rfl,_⟩:=r.sl_inv.sl_at (i:=0) (by simp);exact⟨_,_,_,rfl⟩
theorem ZgV {t:TypeId} (h:ZcX P t= .bool):P.underlying t=some .bool:=by
 unfold ZcX at h;split at h<;>first|assumption|cases h
theorem ZiS {t:TypeId} (h:ZcX P t= .ptr):∃e,P.underlying t=some (.pointer e):=by
 unfold ZcX at h;split at h<;>first|exact⟨_,by assumption⟩|cases h
theorem ZdT {t:TypeId} (h:ZcX P t= .slc):∃e,P.underlying t=some (.slice e):=by
 unfold ZcX at h;split at h<;>first|exact⟨_,by assumption⟩|cases h
theorem ZiR {t:TypeId} (h:ZcX P t= .map):∃k e,P.underlying t=some (.map k e):=by
 unfold ZcX at h;split at h<;>first|exact⟨_,_,by assumption⟩|cases h
theorem YZ (d:Nat) (t k e:TypeId) (b:Option Nat) (h:P.underlying t=some (.map k e)):(Op.equalIn (d+1) t (.map none) (.map b)).run P w= .ok b.isNone w:=by
 simp[Op.equalIn,Zw h]
theorem X3 (d:Nat) (t k e:TypeId) (b:Nat) (h:P.underlying t=some (.map k e)):(Op.equalIn (d+1) t (.map (some b)) (.map none)).run P w= .ok false w:=by
 simp[Op.equalIn,Zw h]
theorem RepS.nilmap_inv {v:Value} {qq:Rows} (r:RepS S M qq v .nilmap):v= .map none:=by
 cases r with|clean r=>cases r;rfl
theorem RepS.mref_inv {v:Value} {qq:Rows} {b:Nat} (r:RepS S M qq v (.mref b)):v= .map (some b):=by
 cases r with|clean r=>cases r;rfl
theorem RepS.rmap_inv {v:Value} {qq:Rows} {ks vs:List PV} (r:RepS S M qq v (.rmap ks vs)):∃b,v= .map (some b):=by
 cases r with|clean r=>cases r;exact⟨_,rfl⟩
theorem ZbG (hs:Sim B S M s a w) {op:BinOp} (hop:op= .eql∨op= .neq) {t:TypeId} {x y:Operand} {u v:Value} {p q:PV} (hu:RepS S M s.m.q u p) (hv:RepS S M s.m.q v q)
  (hok:(Zhi P (decide (op= .neq)) t p q s.m).ok):Snd P B S s a w (do eqGuard op t x y u v;binOp op t u v) (Zhi P (decide (op= .neq)) t p q s.m):=by
 have fin:∀ {r:Bool},u≠ .nilIface→(∀cs ds,u= .agg cs→v= .agg ds→P.eqGuardType P.depth t=false)→(∀k n k' m,u= .int k n→v≠ .int k' m)→(∀k n k' m,u= .float k n→v≠ .float k' m)→(∀k n m k' n' m',u= .complex k n m→v≠ .complex k' n' m')→
   (∀a b,u= .string a→v≠ .string b)→(Op.equal t u v).run P w= .ok r w→Snd P B S s a w (do eqGuard op t x y u v;binOp op t u v) (aEq (decide (op= .neq)) (some r) s.m):=by
  intro r g0 g1 g2 g3 g4 g5 he;refine Snd.pure hs (v:= .bool (if op= .neq then !r else r)) ?_ ?_ (by simp[PV.ids])
  ·simp only[Sem.run_bind,X8 g0 g1,Result.andThen_ok];exact Uf hop g2 g3 g4 g5 he
  ·simp only[decide_eq_true_eq];exact .clean (.bool _)
 revert hok
 unfold Zhi;split
 ·rename_i cs ds;split
  ·rename_i ls hls;intro hok;cases hr:Zz ls cs ds with
   |none=>rw[hr]at hok;exact hok.elim
   |some r=>
    obtain⟨us,rfl,hl,hru⟩:=hu.agg_inv;obtain⟨vs,rfl,hl',hrv⟩:=hv.agg_inv;unfold ZcY at hls;split at hls
    ·cases hls
    ·rename_i hg;simp only[Bool.or_eq_true,Bool.not_eq_true',not_or,Bool.not_eq_true,Bool.not_eq_false]at hg;have hk:=Zic (S:=S) (M:=M) (h:=s.m.q) Sv t ls hls Op.maxDepth (by decide) us vs cs ds r ⟨hl,hru⟩ ⟨hl',hrv⟩ hr w;refine fin (by simp) (fun _ _ _ _=>hg.1) (by simp) (by simp) (by simp) (by simp) ?_;simpa[YT,hg.2,Op.equal]using hk
  ·intro hok;exact hok.elim
 ·rename_i b1 b2;split
  ·rename_i heq;intro hok;obtain rfl:=hu.bool_inv;obtain rfl:=hv.bool_inv;exact fin (by simp) (by simp) (by simp) (by simp) (by simp) (by simp) (run_equal_bool w t b1 b2 (ZgV heq))
  ·intro hok;exact hok.elim
 ·rename_i hne1 hne2;split
  ·rename_i heq;obtain⟨e,he⟩:=ZiS heq;intro hok;cases hr:ZdM p q with
   |none=>rw[hr]at hok;exact hok.elim
   |some r=>
    have hk:(Op.equal t u v).run P w= .ok r w∧ ∃x y,u= .pointer x∧v= .pointer y:=by
     unfold ZdM at hr;split at hr
     ·cases hr;rw[hu.nilp_inv,hv.nilp_inv];exact⟨Yw _ t e none he,_,_,rfl,rfl⟩
     ·cases hr;rw[hu.nilp_inv,hv.ptr_inv];exact⟨Yw _ t e _ he,_,_,rfl,rfl⟩
     ·cases hr;obtain⟨b,o,vals,e2,_⟩:=hv.rptr_inv;rw[hu.nilp_inv,e2];exact⟨Yw _ t e _ he,_,_,rfl,rfl⟩
     ·cases hr;rw[hu.ptr_inv,hv.nilp_inv];exact⟨Y8 _ t e _ he,_,_,rfl,rfl⟩
     ·cases hr;obtain⟨b,o,vals,e2,_⟩:=hu.rptr_inv;rw[e2,hv.nilp_inv];exact⟨Y8 _ t e _ he,_,_,rfl,rfl⟩
     ·cases hr
    obtain⟨hk,x',y',rfl,rfl⟩:=hk;exact fin (by simp) (by simp) (by simp) (by simp) (by simp) (by simp) hk
  ·rename_i heq;obtain⟨e,he⟩:=ZdT heq;intro hok;cases hr:ZiN p q with
   |none=>rw[hr]at hok;exact hok.elim
   |some r=>
    have hk:(Op.equal t u v).run P w= .ok r w∧ ∃x n c y n' c',u= .slice x n c∧v= .slice y n' c':=by
     unfold ZiN at hr;split at hr
     ·cases hr;rw[hu.slnil_inv,hv.slnil_inv];exact⟨Xy _ t e none _ _ he,_,_,_,_,_,_,rfl,rfl⟩
     ·cases hr;obtain⟨b,n,c,e2⟩:=hu.slcons_inv;rw[e2,hv.slnil_inv];exact⟨Yx _ t e _ _ _ he,_,_,_,_,_,_,rfl,rfl⟩
     ·cases hr;obtain⟨b,n,c,e2⟩:=hv.slcons_inv;rw[hu.slnil_inv,e2];exact⟨Xy _ t e _ _ _ he,_,_,_,_,_,_,rfl,rfl⟩
     ·cases hr;obtain⟨cap,_,e2⟩:=hu.osl_inv;rw[e2,hv.slnil_inv];exact⟨Yx _ t e _ _ _ he,_,_,_,_,_,_,rfl,rfl⟩
     ·cases hr
    obtain⟨hk,_,_,_,_,_,_,rfl,rfl⟩:=hk;exact fin (by simp) (by simp) (by simp) (by simp) (by simp) (by simp) hk
  ·rename_i heq;obtain⟨k,e,he⟩:=ZiR heq;intro hok;cases hr:ZdH p q with
   |none=>rw[hr]at hok;exact hok.elim
   |some r=>
    have hk:(Op.equal t u v).run P w= .ok r w∧ ∃x y,u= .map x∧v= .map y:=by
     unfold ZdH at hr;split at hr
     ·cases hr;rw[hu.nilmap_inv,hv.nilmap_inv];exact⟨YZ _ t k e none he,_,_,rfl,rfl⟩
     ·cases hr;rw[hu.nilmap_inv,hv.mref_inv];exact⟨YZ _ t k e _ he,_,_,rfl,rfl⟩
     ·cases hr;obtain⟨b,e2⟩:=hv.rmap_inv;rw[hu.nilmap_inv,e2];exact⟨YZ _ t k e _ he,_,_,rfl,rfl⟩
     ·cases hr;rw[hu.mref_inv,hv.nilmap_inv];exact⟨X3 _ t k e _ he,_,_,rfl,rfl⟩
     ·cases hr;obtain⟨b,e2⟩:=hu.rmap_inv;rw[e2,hv.nilmap_inv];exact⟨X3 _ t k e _ he,_,_,rfl,rfl⟩
     ·cases hr
    obtain⟨hk,_,_,rfl,rfl⟩:=hk;exact fin (by simp) (by simp) (by simp) (by simp) (by simp) (by simp) hk
  ·intro hok;exact hok.elim
theorem ZgK (hs:Sim B S M s a w) {op:BinOp} {t:TypeId} {x y:Operand} {u v:Value} {p q:PV} (hu:RepS S M s.m.q u p) (hv:RepS S M s.m.q v q)
  (hok:(ZhD P op t p q s.m).ok):Snd P B S s a w (do eqGuard op t x y u v;binOp op t u v) (ZhD P op t p q s.m):=by
 have pre:∀ {r:ARes},u≠ .nilIface→(∀cs ds,u= .agg cs→v≠ .agg ds)→Snd P B S s a w (binOp op t u v) r→Snd P B S s a w (do eqGuard op t x y u v;binOp op t u v) r:=by
  intro r g0 g1 h;obtain⟨z,w',S',M',h1,h2⟩:=h;refine⟨z,w',S',M',?_,h2⟩;simp only[Sem.run_bind,X8 g0 (fun cs ds e1 e2=>absurd e2 (g1 cs ds e1)),Result.andThen_ok];exact h1
 revert hok
 unfold ZhD;split
 ·intro hok;obtain rfl:=hu.int_inv;obtain rfl:=hv.int_inv;exact pre (by simp) (by simp) (ZgN hs hok)
 ·intro hok;obtain rfl:=hu.str_inv;obtain rfl:=hv.str_inv;exact pre (by simp) (by simp) (ZgR hs hok)
 ·intro hok;obtain rfl:=hu.flt_inv;obtain rfl:=hv.flt_inv;exact pre (by simp) (by simp) (ZgM hs hok)
 ·split
  ·intro hok;exact ZbG hs (.inl rfl) hu hv hok
  ·intro hok;exact ZbG hs (.inr rfl) hu hv hok
  ·intro hok;exact hok.elim
end
open Go.RowKit
section
variable {P:Program} {B:Frm} {S:Stable} {M:Maps} {s:St} {a:Act} {w:World}
def Zcb (S:Stable) (g k:Nat) (vs:List Value):Stable:=⟨fun b o=>if b=g∧o<k then some (vs.getD o undef)else S b o,S.m,S.z,S.y⟩
theorem XX (S:Stable) (g k:Nat) (vs:List Value) (b o:Nat):(Zcb S g k vs).c b o=if b=g∧o<k then some (vs.getD o undef)else S b o:=rfl
def ZkS (S:Stable) (g lo hi:Nat) (vs:List Value):Stable:=⟨fun b o=>if b=g∧lo≤o∧o<hi then some (vs.getD o undef)else S b o,S.m,S.z,S.y⟩
theorem Zld (S:Stable) (g lo hi:Nat) (vs:List Value) (b o:Nat):(ZkS S g lo hi vs).c b o=if b=g∧lo≤o∧o<hi then some (vs.getD o undef)else S b o:=rfl
theorem XB {α:Type} (f:Nat→α) (i:Nat):upd f i (f i)=f:=by
 funext j
 by_cases h:i=j
 ·subst h;rw[Za]
 ·rw[Zc _ _ h]
theorem Sim.layRow (hs:Sim B S M s a w) {d ψ κ:Nat} {r:Row} (hle:s.m.q d=none∨RowLe M { M with ψ:=upd M.ψ d ψ,κ:=upd M.κ d κ } d (s.m.q d) (some r))
  (hrow:FP B S { M with ψ:=upd M.ψ d ψ,κ:=upd M.κ d κ } w d r) (hv:s.m.v d=none)
  (hnq:∀i r',i≠d→s.m.q i=some r'→r'.own=true→0<M.κ i→r.own=true→0<κ→M.ψ i≠ψ) (hnh:∀i cs,s.m.h i=some cs→s.m.z i=false→r.own=true→0<κ→M.φ i≠ψ):
  Sim B S { M with ψ:=upd M.ψ d ψ,κ:=upd M.κ d κ } (s.with (s.m.setq d r)) a w:=by
 have e1:∀i,i≠d→upd M.ψ d ψ i=M.ψ i:=fun i h=>Zc _ _ (Ne.symm h)
 have e2:∀i,i≠d→upd M.κ d κ i=M.κ i:=fun i h=>Zc _ _ (Ne.symm h)
 have e3:∀i,i≠d→upd s.m.q d (some r) i=s.m.q i:=fun i h=>Zc _ _ (Ne.symm h)
 have rep:∀v p,RepS S M s.m.q v p→(∀i∈p.ids,Live s.m i)→RepS S { M with ψ:=upd M.ψ d ψ,κ:=upd M.κ d κ } (s.m.setq d r).q v p:=fun v p rr hids=>
  rr.heap (SLe.refl _) (fun _ _=>rfl) (fun i hi=>by
   show RowLe M _ i (s.m.q i) (upd s.m.q d (some r) i)
   by_cases ei:i=d
   ·subst ei;rcases hle with hd|hle
    ·exact absurd hd (hids _ hi)
    ·rw[Za];exact hle
   ·exact .of_eq (e3 i ei) (e2 i ei) (e1 i ei))
 have live:∀i,Live s.m i→Live (s.m.setq d r) i:=fun i h=>Y5 i h
 refine⟨hs.defers,hs.hn,hs.hB,hs.stable,fun i=>rep _ _ (hs.fr i) (hs.ids i),fun i j hj=>live j (hs.ids i j hj),fun i b hb=> ?_,fun i r' hr=> ?_,hs.inj,?_,?_,fun b c hc=> ?_,fun i es he=> ?_,hs.pn.move rfl rfl live (fun _ _=>rfl) fun i hi=> ?_,hs.hz⟩
 rotate_right
 ·show RowLe M _ i (s.m.q i) (upd s.m.q d (some r) i)
  by_cases ei:i=d
  ·subst ei;rcases hle with hd|hle
   ·exact absurd hd hi
   ·rw[Za];exact hle
  ·exact .of_eq (e3 i ei) (e2 i ei) (e1 i ei)
 ·have hb':=hs.blk i b hb;show Sg _ _ _ _ _ _ _ (s.m.z i);cases hz:s.m.z i with
  |false=>
   rw[hz]at hb';obtain⟨h1,h2,⟨us,t',h3,h4,h5⟩,h6⟩:=hb';exact⟨h1,h2,⟨us,t',h3,h4,fun j hj=>rep _ _ (h5 j hj) (fun k hk=>h6 _ (Ze hj) k hk)⟩,fun c hc k hk=>live k (h6 c hc k hk)⟩
  |true=>rw[hz]at hb';exact hb'
 ·simp only[St.with,Hp.setq]at hr
  by_cases ei:i=d
  ·subst ei;rw[Za]at hr;cases hr;exact hrow
  ·rw[e3 i ei]at hr;have:=hs.row i r' hr;cases r' with
   |live n' z' t'=>simpa only[FP,e2 i ei,e1 i ei]using this
   |vec n' z' t'=>simpa only[FP,e2 i ei,e1 i ei]using this
   |dead=>trivial
 ·intro i j r1 r2 hi hj o1 o2 ki kj hij;simp only[St.with,Hp.setq]at hi hj ki kj ⊢
  by_cases ei:i=d
  ·subst ei;rw[e3 j (Ne.symm hij)]at hj;rw[e2 j (Ne.symm hij)]at kj;rw[Za]at ki hi ⊢;cases hi;rw[e1 j (Ne.symm hij)];exact Ne.symm (hnq j _ (Ne.symm hij) hj o2 kj o1 ki)
  ·by_cases ej:j=d
   ·subst ej;rw[e3 i ei]at hi;rw[e2 i ei]at ki;rw[Za]at kj hj ⊢;cases hj;rw[e1 i ei];exact hnq i _ ei hi o1 ki o2 kj
   ·rw[e3 i ei]at hi;rw[e3 j ej]at hj;rw[e2 i ei]at ki;rw[e2 j ej]at kj;rw[e1 i ei,e1 j ej];exact hs.injq i j _ _ hi hj o1 o2 ki kj hij
 ·intro i j ds r1 hi zi hj oj kj;simp only[St.with,Hp.setq]at hi zi hj kj ⊢
  by_cases ej:j=d
  ·subst ej;rw[Za]at kj hj ⊢;cases hj;exact hnh i _ hi zi oj kj
  ·rw[e3 j ej]at hj;rw[e2 j ej]at kj;rw[e1 j ej];exact hs.injx i j _ _ hi zi hj oj kj
 ·obtain⟨g1,g2,g3,g4⟩:=hs.rm b c hc;exact⟨g1,g2,g3,g4.move (SLe.refl _) rfl rep live⟩
 ·have ei:i≠d:=fun e=>by subst e;rw[show(s.with (s.m.setq i r)).m.v i=s.m.v i from rfl,hv]at he;cases he
  refine(hs.vc i es he).move (fun n sz e h=> ?_) (e2 i ei) (e1 i ei) (fun _=>rfl) rep live;show upd s.m.q d _ i=_;rw[e3 i ei];exact h
theorem Sim.forget (hs:Sim B S M s a w) (d:Nat):Sim B S M (s.with { s.m with v:=upd s.m.v d none }) a w:=by
 have live:∀i,Live s.m i→Live { s.m with v:=upd s.m.v d none } i:=fun i h=>by cases i<;>exact h
 refine⟨hs.defers,hs.hn,hs.hB,hs.stable,hs.fr,fun i k hk=>live k (hs.ids i k hk),fun i b hb=> ?_,hs.row,hs.inj,hs.injq,hs.injx,fun b c hc=> ?_,fun i es he=> ?_,⟨hs.pn.h,hs.pn.q⟩,hs.hz⟩
 ·have hb':=hs.blk i b hb;show Sg _ _ _ _ _ _ _ (s.m.z i);cases hz:s.m.z i with
  |false=>
   rw[hz]at hb';obtain⟨h1,h2,⟨us,t',h3,h4,h5⟩,h6⟩:=hb';exact⟨h1,h2,⟨us,t',h3,h4,h5⟩,fun c hc k hk=>live k (h6 c hc k hk)⟩
  |true=>rw[hz]at hb';exact hb'
 ·obtain⟨g1,g2,g3,g4⟩:=hs.rm b c hc;exact⟨g1,g2,g3,g4.move (SLe.refl _) rfl (fun v p r _=>r) live⟩
 ·by_cases e:d=i
  ·subst e;simp only[St.with,Za]at he;cases he
  ·simp only[St.with,Zc _ _ e]at he;exact(hs.vc i es he).move (fun _ _ _ h=>h) rfl rfl (fun _=>rfl) (fun v p r _=>r) live
theorem Sim.deadRow (hs:Sim B S M s a w) (d:Nat):Sim B S M (s.with ({ s.m with v:=upd s.m.v d none }.setq d .dead)) a w:=by
 have h:=(hs.forget d).layRow (d:=d) (ψ:=M.ψ d) (κ:=M.κ d) (r:= .dead) (.inr .dead) trivial (Za _ _ _) (fun _ _ _ _ _ _ h=>by cases h) (fun _ _ _ _ h=>by cases h);rwa[XB,XB]at h
theorem Sim.newRow (hs:Sim B S M s a w) {d:Nat} {n sz c:Nat} {e:TypeId} {vs:List Value} {w':World}
  (hd:s.m.q d=none∨ ∃n0 sz0 e0,s.m.q d=some (.live n0 sz0 e0)∧n0<n) (hn:n≤c) (hc:c≤maxLen) (hl:vs.length=c*sz)
  (hw:∀k,k<w.heap.size→w'.heap[k]? = w.heap[k]?) (hnew:w'.heap[w.heap.size]? = some (.cells ⟨vs⟩ e (0,0))):
  Sim B (Zcb S w.heap.size (n*sz) vs) { M with ψ:=upd M.ψ d w.heap.size,κ:=upd M.κ d (c+1) } (s.with (s.m.setq d (.live n sz e))) a w':=by
 have hkl:n*sz≤vs.length:=by rw[hl];exact Nat.mul_le_mul_right _ hn
 have hle:SLe S (Zcb S w.heap.size (n*sz) vs):= .cells rfl fun b o v hv=>by
  rw[XX];rw[if_neg]
  ·exact hv
  ·rintro ⟨rfl,_⟩;rw[hs.S_lt (Nat.le_refl _)]at hv;cases hv
 have hlt:w.heap.size<w'.heap.size:=(Array.getElem?_eq_some_iff.1 hnew).1;have g:=hs.grow (w':=w') hle (fun b hb=>⟨fun o=>by rw[XX,if_neg];rintro ⟨rfl,_⟩;omega,rfl⟩)
  ⟨fun b o v hv=>by
   rw[XX]at hv;split at hv
   ·rename_i hb;obtain⟨rfl,ho⟩:=hb;rw[Z0 hnew,List.getElem?_eq_getElem (by omega),←hv,Zb (by omega)]
   ·have h':=hs.stable b o v hv;rw[←h'];exact World.cell?_of_block (hw _ (Vg h')),fun b es h=>(hs.stable.s.old hw).m b es h,fun b h=>(hs.stable.s.old hw).y b h⟩
  hw (by omega)
 have q1:s.m.q d=none∨RowLe M { M with ψ:=upd M.ψ d w.heap.size,κ:=upd M.κ d (c+1) } d (s.m.q d) (some (.live n sz e)):=
  hd.imp (fun h=>h) fun⟨n0,sz0,e0,h1,h2⟩=>⟨fun n' sz' e' h=>by cases h;exact .inr ⟨n0,sz0,e0,h1,h2⟩,fun _ _ _ h=>by cases h⟩
 refine g.layRow q1 ⟨fun h0=>by simp[Za]at h0,fun c' hc'=> ?_⟩ (hs.v_none fun n1 z1 t1 h=>by rcases hd with hd|⟨_,_,_,hd,_⟩<;>(rw[hd]at h;cases h)) (fun i r' _ hi oi ki _ _=>by have:=hs.row_lt hi oi ki;omega) (fun i cs hi zi _ _=>by have:=hs.blk_lt hi zi;omega);simp only[Za,Nat.add_right_cancel_iff]at hc';subst hc';refine⟨hn,hc,by simp only[Za];exact hs.new_ok,⟨vs,by simp only[Za];exact hnew,hl⟩,fun o ho=> ?_⟩;simp only[Za];rw[XX];rw[if_neg (by omega)];exact hs.S_lt (Nat.le_refl _)
theorem Sim.growRow (hs:Sim B S M s a w) {d:Nat} {n m sz c:Nat} {e:TypeId} {news:List Value} (hd:s.m.q d=some (.live n sz e)) (hk:M.κ d=c+1) (hm:n+m≤c) (hl:news.length=m*sz):
  ∃vs,w.heap[M.ψ d]? = some (.cells ⟨vs⟩ e (0,0))∧vs.length=c*sz∧ ¬B (M.ψ d)∧(∀o,n*sz≤o→S (M.ψ d) o=none)∧
   let vs':=vs.take (n*sz)++news++vs.drop (n*sz+news.length)
   Sim B (ZkS S (M.ψ d) (n*sz) ((n+m)*sz) vs') M (s.with (s.m.setq d (.live (n+m) sz e))) a (w.setRow (M.ψ d) ⟨vs'⟩):=by
 obtain⟨_,hrow⟩:=hs.row d _ hd;obtain⟨r0,r0',r1,⟨vs,r2,r3⟩,r4⟩:=hrow c hk;refine⟨vs,r2,r3,r1,r4,?_⟩;have hmul:(n+m)*sz≤c*sz:=Nat.mul_le_mul_right _ hm;have hsum:(n+m)*sz=n*sz+news.length:=by rw[Nat.add_mul,hl]
 have hv':(vs.take (n*sz)++news++vs.drop (n*sz+news.length)).length=c*sz:=by
  simp only[List.length_append,List.length_take,List.length_drop];omega
 intro vs';have hold:∀k,k≠M.ψ d→(w.setRow (M.ψ d) ⟨vs'⟩).heap[k]? = w.heap[k]? :=fun k hk=>WD hk
 have hnew:(w.setRow (M.ψ d) ⟨vs'⟩).heap[M.ψ d]? = some (.cells ⟨vs'⟩ e (0,0)):=WC r2;have hlt:M.ψ d<w.heap.size:=(Array.getElem?_eq_some_iff.1 r2).1;have hle:SLe S (ZkS S (M.ψ d) (n*sz) ((n+m)*sz) vs'):= .cells rfl fun b o v hv=>by
  show(if _ then _ else _)=some v;rw[if_neg]
  ·exact hv
  ·rintro ⟨rfl,h1,_⟩;rw[r4 o h1]at hv;cases hv
 have e3:∀i,i≠d→upd s.m.q d (some (.live (n+m) sz e)) i=s.m.q i:=fun i h=>Zc _ _ (Ne.symm h)
 have rep:∀ {v p},RepS S M s.m.q v p→RepS (ZkS S (M.ψ d) (n*sz) ((n+m)*sz) vs') M (upd s.m.q d (some (.live (n+m) sz e))) v p:=fun r=>
  r.heap hle (fun _ _=>rfl) (fun i hi=>by
   by_cases ei:i=d
   ·subst ei;rw[Za];refine⟨fun n' sz' e' hq=> ?_,fun _ _ _ h=>by cases h⟩;cases hq
    by_cases h0:m=0
    ·subst h0;exact .inl ⟨hd,rfl,rfl⟩
    ·exact .inr ⟨n,sz,e,hd,by omega⟩
   ·exact .of_eq (e3 i ei) rfl rfl)
 have live:∀i,Live s.m i→Live (s.m.setq d (.live (n+m) sz e)) i:=fun i h=>by
  cases i with
  |b i=>exact h
  |r i=>
   show upd _ _ _ _≠none
   by_cases ei:i=d
   ·subst ei;rw[Za];simp
   ·rw[e3 i ei];exact h
 have back:∀ {i r},upd s.m.q d (some (.live (n+m) sz e)) i=some r→ ∃r2,s.m.q i=some r2∧(r.own=true→r2.own=true):=fun {i r} h=>by
  by_cases ei:i=d
  ·subst ei;exact⟨_,hd,fun _=>rfl⟩
  ·rw[e3 i ei]at h;exact⟨_,h,fun h=>h⟩
 refine⟨hs.defers,hs.hn,by rw[WV];exact hs.hB,hs.stable.move hle (fun b c hc=>(hs.stable.o b c hc).2.1) ⟨fun b o v hv=> ?_,fun b es he=> ?_,fun b hb=>by
  obtain⟨vs1,t1,e1⟩:=hs.stable.s.y b hb
  by_cases e':b=M.ψ d
  ·rw[e']at e1 ⊢;exact⟨_,_,WC e1⟩
  ·exact⟨vs1,t1,by rw[hold b e'];exact e1⟩⟩ (fun b c hc=>hold b (fun e=>by subst e;obtain⟨es,h,_⟩:=(hs.stable.o _ c hc).2.2;rw[r2]at h;cases h)) (fun b x hx=>hold b (fun e=>by subst e;have h:=(hs.stable.i _ x hx).2.1;unfold IterAt at h;rw[r2]at h;cases h)),fun i=>rep (hs.fr i),fun i j hj=>live j (hs.ids i j hj),fun i b hb=> ?_,fun i r hr=> ?_,hs.inj,?_,?_,fun b x hx=> ?_,fun i es he=> ?_,hs.pn.move rfl rfl live (fun _ _=>rfl) fun i hi=> ?_,hs.hz⟩
 rotate_right
 ·show RowLe M M i (s.m.q i) (upd s.m.q d _ i)
  by_cases ei:i=d
  ·subst ei;rw[Za];refine⟨fun n' sz' e' hq=> ?_,(by intro _ _ _ h;cases h)⟩;cases hq
   by_cases h0:m=0
   ·subst h0;exact .inl ⟨hd,rfl,rfl⟩
   ·exact .inr ⟨n,sz,e,hd,by omega⟩
  ·exact .of_eq (e3 i ei) rfl rfl
 ·rw[Zld]at hv;split at hv
  ·rename_i hb;obtain⟨rfl,ho1,ho2⟩:=hb;rw[Z0 hnew,List.getElem?_eq_getElem (by rw[hv'];omega),←hv,Zb (by rw[hv'];omega)]
  ·rename_i hb;have h':=hs.stable b o v hv
   by_cases eb:b=M.ψ d
   ·subst eb;have ho:o<n*sz:=by
     refine Decidable.byContradiction fun h=> ?_
     rw[r4 o (by omega)]at hv;cases hv
    rw[Z0 r2]at h';rw[Z0 hnew];show(vs.take (n*sz)++news++vs.drop (n*sz+news.length))[o]? = some v;rw[List.append_assoc,List.getElem?_append_left (by simp;omega),List.getElem?_take_of_lt ho];exact h'
   ·rw[←h'];exact World.cell?_of_block (hold b eb)
 ·have h':=hs.stable.s.m b es he;rw[hold b (fun e=>by subst e;rw[r2]at h';cases h')];exact h'
 ·have hb':=hs.blk i b hb;show Sg _ _ _ _ _ _ _ (s.m.z i);cases hz:s.m.z i with
  |false=>
   rw[hz]at hb';obtain⟨h1,h2,⟨us,t',h3,h4,h5⟩,h6⟩:=hb';have hne:=hs.injx i d _ _ hb hz hd rfl (by omega);refine⟨h1,fun o=> ?_,⟨us,t',by rw[hold _ hne];exact h3,h4,fun j hj=>rep (h5 j hj)⟩,fun c hc k hk=>live k (h6 c hc k hk)⟩;show(if _ then _ else _)=none;rw[if_neg (fun h=>hne h.1)];exact h2 o
  |true=>rw[hz]at hb';obtain⟨vals,hv⟩:=hb';exact⟨vals,fun j hj=>⟨hle _ _ _ (hv j hj).1,(hv j hj).2.mono hle⟩⟩
 ·simp only[St.with,Hp.setq]at hr
  by_cases ei:i=d
  ·subst ei;rw[Za]at hr;cases hr;refine⟨fun h0=>by omega,fun c' hc'=> ?_⟩;obtain rfl:c'=c:=by omega
   refine⟨hm,r0',r1,⟨vs',hnew,hv'⟩,fun o ho=> ?_⟩;show(if _ then _ else _)=none;rw[if_neg (by omega)];exact r4 o (by rw[Nat.add_mul]at ho;omega)
  ·rw[e3 i ei]at hr;have hr':=hs.row i r hr;cases r with
   |live n' sz' e'=>
    obtain⟨h1,h2⟩:=hr';refine⟨h1,fun c' hc'=> ?_⟩;obtain⟨g0,g0',g1,⟨us,g2,g3⟩,g4⟩:=h2 c' hc';have hne:=hs.injq i d _ _ hr hd rfl rfl (by omega) (by omega) ei;refine⟨g0,g0',g1,⟨us,by rw[hold _ hne];exact g2,g3⟩,fun o ho=> ?_⟩;show(if _ then _ else _)=none;rw[if_neg (fun h=>hne h.1)];exact g4 o ho
   |vec n' sz' e'=>
    obtain⟨h1,h2⟩:=hr';refine⟨h1,fun c' hc'=> ?_⟩;obtain⟨g0,g0',g1,⟨us,g2,g3⟩,g4⟩:=h2 c' hc';have hne:=hs.injq i d _ _ hr hd rfl rfl (by omega) (by omega) ei;refine⟨g0,g0',g1,⟨us,by rw[hold _ hne];exact g2,g3⟩,fun o=> ?_⟩;show(if _ then _ else _)=none;rw[if_neg (fun h=>hne h.1)];exact g4 o
   |dead=>trivial
 ·intro i j r1 r2 hi hj oi oj ki kj hij;obtain⟨_,hi',gi⟩:=back hi;obtain⟨_,hj',gj⟩:=back hj;exact hs.injq i j _ _ hi' hj' (gi oi) (gj oj) ki kj hij
 ·intro i j ds r1 hi zi hj oj kj;obtain⟨_,hj',gj⟩:=back hj;exact hs.injx i j _ _ hi zi hj' (gj oj) kj
 ·obtain⟨g1,g2,g3,g4⟩:=hs.rm b x hx;refine⟨g1,g2,g3,g4.move hle (hold b fun ee=> ?_) (fun v p r _=>rep r) live⟩;obtain⟨⟨es,k1,_⟩,_⟩:=g4;subst ee;rw[r2]at k1;cases k1
 ·obtain⟨sz1,e1,q1⟩:=hs.vec_q he;have ei:i≠d:=fun e=>by subst e;rw[hd]at q1;cases q1
  refine(hs.vc i es he).move (fun n sz e h=> ?_) rfl rfl (fun hk=>hold _ (hs.injq i d _ _ q1 hd rfl rfl hk (by omega) ei)) (fun v p r _=>rep r) live;show upd s.m.q d _ i=_;rw[e3 i ei];exact h
theorem ZiU {α:Type} {f:Nat→Option α} {d:Nat} (h:f d=none):upd f d none=f:=by
 funext j
 by_cases e:d=j
 ·subst e;rw[Za,h]
 ·rw[Zc _ _ e]
theorem Sim.moveRow (hs:Sim B S M s a w) {i d:Nat} {n sz:Nat} {e:TypeId} (hi:s.m.q i=some (.live n sz e)) (hd:s.m.q d=none):
  Sim B S { M with ψ:=upd M.ψ d (M.ψ i),κ:=upd M.κ d (M.κ i) } (s.with ((s.m.setq i .dead).setq d (.live n sz e))) a w:=by
 have hid:i≠d:=fun h=>by subst h;rw[hi]at hd;cases hd
 have hs1:=hs.deadRow i;rw[ZiU (hs.v_none fun _ _ _ h=>by rw[hi]at h;cases h)]at hs1;have h:=hs1.layRow (d:=d) (ψ:=M.ψ i) (κ:=M.κ i) (r:= .live n sz e) (.inl ?_) ?_ (hs.v_none fun _ _ _ h=>by rw[hd]at h;cases h) (fun j r' hj hq oj kj _ ki=> ?_) (fun j cs hj zj _ ki=>hs.injx j i cs _ hj zj hi rfl ki)
 ·exact h
 ·show upd s.m.q i _ d=none;rw[Zc _ _ hid];exact hd
 ·have:=hs.row i _ hi;simpa only[FP,Za]using this
 ·have hji:j≠i:=fun e=>by subst e;simp only[St.with,Hp.setq,Za,Option.some.injEq]at hq;subst hq;cases oj
  have hq':s.m.q j=some r':=by simpa only[St.with,Hp.setq,Zc _ _ (Ne.symm hji)]using hq
  exact hs.injq j i _ _ hq' hi oj rfl kj ki hji
theorem Sim.layVec (hs:Sim B S M s a w) {d:Nat} {es:List PV} (hv:VecOk S M s.m w d es):Sim B S M (s.with { s.m with v:=upd s.m.v d (some es) }) a w:=by
 have live:∀i,Live s.m i→Live { s.m with v:=upd s.m.v d (some es) } i:=fun i h=>by cases i<;>exact h
 refine⟨hs.defers,hs.hn,hs.hB,hs.stable,hs.fr,fun i k hk=>live k (hs.ids i k hk),fun i b hb=> ?_,hs.row,hs.inj,hs.injq,hs.injx,fun b c hc=> ?_,fun i es' he=> ?_,⟨hs.pn.h,hs.pn.q⟩,hs.hz⟩
 ·have hb':=hs.blk i b hb;show Sg _ _ _ _ _ _ _ (s.m.z i);cases hz:s.m.z i with
  |false=>
   rw[hz]at hb';obtain⟨h1,h2,⟨us,t',h3,h4,h5⟩,h6⟩:=hb';exact⟨h1,h2,⟨us,t',h3,h4,h5⟩,fun c hc k hk=>live k (h6 c hc k hk)⟩
  |true=>rw[hz]at hb';exact hb'
 ·obtain⟨g1,g2,g3,g4⟩:=hs.rm b c hc;exact⟨g1,g2,g3,g4.move (SLe.refl _) rfl (fun v p r _=>r) live⟩
 ·by_cases e:d=i
  ·subst e;simp only[St.with,Za,Option.some.injEq]at he;subst he;exact hv.move (fun _ _ _ h=>h) rfl rfl (fun _=>rfl) (fun v p r _=>r) live
  ·simp only[St.with,Zc _ _ e]at he;exact(hs.vc i es' he).move (fun _ _ _ h=>h) rfl rfl (fun _=>rfl) (fun v p r _=>r) live
theorem Sim.moveVec (hs:Sim B S M s a w) {i d:Nat} {es:List PV} {sz:Nat} {e:TypeId} (hi:s.m.q i=some (.vec es.length sz e)) (hvi:s.m.v i=some es) (hd:s.m.q d=none):
  Sim B S { M with ψ:=upd M.ψ d (M.ψ i),κ:=upd M.κ d (M.κ i) } (s.with { ({ s.m with v:=upd s.m.v i none }.setq i .dead).setq d (.vec es.length sz e)with v:=upd (upd s.m.v i none) d (some es) }) a w:=by
 have hid:i≠d:=fun h=>by subst h;rw[hi]at hd;cases hd
 have hs1:=hs.deadRow i;have hvd:s.m.v d=none:=hs.v_none fun _ _ _ h=>by rw[hd]at h;cases h
 have hq1:(s.with ({ s.m with v:=upd s.m.v i none }.setq i .dead)).m.q d=none:=by
  show upd s.m.q i _ d=none;rw[Zc _ _ hid];exact hd
 have h:=hs1.layRow (d:=d) (ψ:=M.ψ i) (κ:=M.κ i) (r:= .vec es.length sz e) (.inl hq1) (by have:=hs.row i _ hi;simpa only[FP,Za]using this) (by show upd s.m.v i none d=none;rw[Zc _ _ hid];exact hvd) (fun j r' hj hq oj kj _ ki=>by
   have hji:j≠i:=fun e=>by subst e;simp only[St.with,Hp.setq,Za,Option.some.injEq]at hq;subst hq;cases oj
   have hq':s.m.q j=some r':=by simpa only[St.with,Hp.setq,Zc _ _ (Ne.symm hji)]using hq
   exact hs.injq j i _ _ hq' hi oj rfl kj ki hji) (fun j cs hj zj _ ki=>hs.injx j i cs _ hj zj hi rfl ki)
 refine h.layVec (es:=es) ?_;refine(hs.vc i es hvi).move (fun n1 z1 t1 hq=> ?_) (by simp only[Za]) (by simp only[Za]) (fun _=>rfl) (fun v p r hids=> ?_) (fun k hk=>Y5 k (Y5 k (by cases k<;>exact hk)))
 ·rw[hi]at hq;cases hq;exact Za _ _ _
 ·refine r.heap (SLe.refl _) (fun _ _=>rfl) fun k hk=> ?_
  show RowLe M _ k (s.m.q k) (upd (upd s.m.q i (some .dead)) d _ k)
  by_cases e1:d=k
  ·subst e1;exact absurd hd (hids _ hk)
  ·rw[Zc _ _ e1]
   by_cases e2:i=k
   ·subst e2;rw[Za];exact .dead
   ·rw[Zc _ _ e2];exact .same (Zc _ _ e1) (Zc _ _ e1)
end
open Go.RowKit
def Sized (n:Nat) (es:List PV):Prop:=∀e∈es,e.cells.length=n
def Wd (es:List PV):Prop:=∀e∈es,e.cells.all PV.atom=true
structure EInfo where
 e:TypeId
 size:Nat
 bytes:Nat
def Wm (P:Program) (t:TypeId):Option EInfo:=
 match P.underlying t with
 |some (.slice e)=>match P.info? e with
  |some i=>match i.zero with
   |some z=>if z.cells.size=i.size∧0<i.size then some ⟨e,i.size,i.bytes⟩else none
   |none=>none
  |none=>none
 |_=>none
theorem Yl {P:Program} {t:TypeId} {x:EInfo} (h:Wm P t=some x):∃i z,P.underlying t=some (.slice x.e)∧P.info? x.e=some i∧i.zero=some z∧z.cells.size=x.size∧i.size=x.size∧i.bytes=x.bytes∧0<x.size∧tsz P x.e=x.size:=by
 unfold Wm at h;split at h
 ·rename_i e he;split at h
  ·rename_i i hi;split at h
   ·rename_i z hz;split at h
    ·rename_i hc;simp only[Option.some.injEq]at h;subst h;exact⟨i,z,he,hi,hz,hc.1,rfl,rfl,hc.2,by simp[tsz,Program.cellsOf,hi]⟩
    ·cases h
   ·cases h
  ·cases h
 ·cases h
section
variable {P:Program} {B:Frm} {S:Stable} {M:Maps} {s:St} {a:Act} {w:World}
theorem Ff {n i j:Nat} (hj:j<n):(i*n+j) / n=i∧(i*n+j) % n=j:=by
 have hn:0<n:=by omega
 exact⟨by rw[Nat.add_comm,Nat.add_mul_div_right _ _ hn,Nat.div_eq_of_lt hj,Nat.zero_add],by rw[Nat.add_comm,Nat.add_mul_mod_self_right,Nat.mod_eq_of_lt hj]⟩
theorem Rep.src (hst:∀b o v,S b o=some v→w.cell? ⟨b,o,none⟩=some v) {v:Value} {xs:List PV} {sz:Nat} (r:Rep S v (.sl .no xs)) (hz:Sized sz xs) (hat:Wd xs) {tx e':TypeId} (hk:P.underlying tx=some (.slice e')):
  ∃news:List Value,Src P sz tx v xs.length news w∧ ∀i j,i<xs.length→j<sz→Rep S (news.getD (i*sz+j) undef) ((xs.getD i .any).cells.getD j .any):=by
 by_cases h0:xs.length=0
 ·have hx:xs= []:=List.eq_nil_of_length_eq_zero h0;subst hx;obtain⟨ad,cap,rfl,_⟩:=r.sl_len;refine⟨[],?_,fun i j hi=>by simp at hi⟩;cases ad with
  |none=>exact Src.ofNil w hk cap
  |some ad=>exact Src.ofSlice w hk ad 0 cap [] (by simp) (by simp) (by simp)
 ·have hpos:0<xs.length:=by omega
  obtain⟨b,o,cap,vals,rfl,hcap,hu,hS,hR⟩:=r.sl_at hpos;have e0:(xs.getD 0 .any).cells.length=sz:=hz _ (Ze hpos);rw[e0]at hS hR hu;have key:∀k,k<xs.length*sz→(k / sz<xs.length∧k % sz<sz∧k / sz*sz+k % sz=k):=fun k hk=>by
   have hsz:0<sz:=Nat.pos_of_ne_zero fun h=>by subst h;simp at hk
   exact⟨by rw[Nat.div_lt_iff_lt_mul hsz];exact hk,Nat.mod_lt _ hsz,by rw[Nat.mul_comm];exact Nat.div_add_mod k sz⟩
  refine⟨(List.range (xs.length*sz)).map fun k=>vals (k / sz) (k % sz),?_,fun i j hi hj=> ?_⟩
  ·refine Src.ofSlice w hk ⟨b,o,none⟩ xs.length cap _ (by simp) (fun k u hu'=> ?_) (fun u hu'=> ?_)
   ·rw[List.getElem?_map]at hu';obtain⟨k',hk',rfl⟩:=Option.map_eq_some_iff.1 hu';obtain⟨h1,h2⟩:=List.getElem?_eq_some_iff.1 hk';simp only[List.length_range]at h1;simp only[List.getElem_range]at h2;subst h2;obtain⟨g1,g2,g3⟩:=key k h1;rw[ZJ];have:=hst _ _ _ (hS (k / sz) (k % sz) g1 g2);rw[Nat.add_assoc,g3]at this;exact this
   ·obtain⟨k,hk',rfl⟩:=List.mem_map.1 hu';obtain⟨g1,g2,g3⟩:=key k (by simpa using hk');have hr:=hR (k / sz) (k % sz) g1 g2;have hc:=hz _ (Ze (d:=PV.any) g1);have ha:=List.all_eq_true.1 (hat _ (Ze (d:=PV.any) g1)) _ (Ze (d:=PV.any) (by rw[hc];exact g2));exact(RepS.clean (M:=⟨id,id,id⟩) (q:=fun _=>none) hr).atom_inv ha
  ·have hlt:i*sz+j<xs.length*sz:=by
    have:=Nat.mul_le_mul_right sz (show i+1≤xs.length by omega);rw[Nat.add_mul]at this;omega
   rw[Zb (by simpa using hlt)];simp only[List.getElem_map,List.getElem_range];obtain⟨d1,d2⟩:=Ff (i:=i) hj;rw[d1,d2];exact hR i j hi hj
def YA (l:List UInt8):List PV:=l.map fun b=> .int .u8 b.toNat
theorem FF {tx:TypeId} (hk:P.underlying tx=some .string) (l:List UInt8):
  ∃news:List Value,Src P 1 tx (.string ⟨⟨l⟩⟩) (YA l).length news w∧ ∀i j,i<(YA l).length→j<1→Rep S (news.getD (i*1+j) undef) (((YA l).getD i .any).cells.getD j .any):=by
 refine⟨byteCells ⟨⟨l⟩⟩,?_,fun i j hi hj=> ?_⟩
 ·have:=Src.ofString (P:=P) w hk ⟨⟨l⟩⟩;have e:(⟨⟨l⟩⟩:ByteArray).size=(YA l).length:=by simp[YA,ByteArray.size]
  rw[e]at this;exact this
 ·obtain rfl:j=0:=by omega
  simp only[YA,List.length_map]at hi;rw[Nat.mul_one,Nat.add_zero,Zb (by simpa[byteCells]using hi)];simp only[byteCells,List.getElem_map,YA];rw[Zb (l:=List.map _ l) (by simpa using hi)];simp only[List.getElem_map];exact .int _ _
theorem Uw {b cap sz:Nat} {es:List PV} (hz:Sized sz es) (hcap:es.length≤cap) {cells:List Value} (hS:∀k,k<es.length*sz→S b k=some (cells.getD k undef))
  (hR:∀i j,i<es.length→j<sz→Rep S (cells.getD (i*sz+j) undef) ((es.getD i .any).cells.getD j .any)):Rep S (.slice (some ⟨b,0,none⟩) es.length cap) (.sl .no es):=by
 refine .sl b 0 cap sz es (fun i j=>cells.getD (i*sz+j) undef) (fun i hi=>hz _ (Ze hi)) hcap (fun i j hi hj=> ?_) hR;rw[Nat.zero_add];apply hS;have:=Nat.mul_le_mul_right sz (show i+1≤es.length by omega);rw[Nat.add_mul]at this;omega
theorem Rep.cells_of {v:Value} {es:List PV} {sz b c:Nat} (r:Rep S v (.sl .no es)) (hv:v= .slice (some ⟨b,0,none⟩) es.length c) (hz:Sized sz es):
  ∃cells:List Value,cells.length=es.length*sz∧(∀k,k<es.length*sz→S b k=some (cells.getD k undef))∧ ∀i j,i<es.length→j<sz→Rep S (cells.getD (i*sz+j) undef) ((es.getD i .any).cells.getD j .any):=by
 by_cases h0:es.length=0
 ·have hx:es= []:=List.eq_nil_of_length_eq_zero h0;subst hx;exact⟨[],by simp,fun k hk=>by simp at hk,fun i j hi=>by simp at hi⟩
 ·have hpos:0<es.length:=by omega
  obtain⟨b',o,cap,vals,e,hcap,hu,hS,hR⟩:=r.sl_at hpos;rw[hv]at e;cases e;have e0:(es.getD 0 .any).cells.length=sz:=hz _ (Ze hpos);rw[e0]at hS hR hu;refine⟨(List.range (es.length*sz)).map fun k=>vals (k / sz) (k % sz),by simp,fun k hk=> ?_,fun i j hi hj=> ?_⟩
  ·have hsz:0<sz:=Nat.pos_of_ne_zero fun h=>by subst h;simp at hk
   have:=hS (k / sz) (k % sz) (by rw[Nat.div_lt_iff_lt_mul hsz];exact hk) (Nat.mod_lt _ hsz);rw[Nat.zero_add,Nat.mul_comm,Nat.div_add_mod]at this;rw[Zb (by simpa using hk)];simpa using this
  ·have hlt:i*sz+j<es.length*sz:=by
    have:=Nat.mul_le_mul_right sz (show i+1≤es.length by omega);rw[Nat.add_mul]at this;omega
   rw[Zb (by simpa using hlt)];simp only[List.getElem_map,List.getElem_range];obtain⟨d1,d2⟩:=Ff (i:=i) hj;rw[d1,d2];exact hR i j hi hj
theorem Ds {es xs:List PV} {sz:Nat} {c1 c2:List Value} (hl:c1.length=es.length*sz) (h1:∀i j,i<es.length→j<sz→Rep S (c1.getD (i*sz+j) undef) ((es.getD i .any).cells.getD j .any))
  (h2:∀i j,i<xs.length→j<sz→Rep S (c2.getD (i*sz+j) undef) ((xs.getD i .any).cells.getD j .any)):
  ∀i j,i<(es++xs).length→j<sz→Rep S ((c1++c2).getD (i*sz+j) undef) (((es++xs).getD i .any).cells.getD j .any):=by
 intro i j hi hj
 by_cases hlt:i<es.length
 ·have hb:i*sz+j<c1.length:=by
   have:=Nat.mul_le_mul_right sz (show i+1≤es.length by omega);rw[Nat.add_mul]at this;omega
  rw[Zd hb,Zd hlt];exact h1 i j hlt hj
 ·have hb:c1.length≤i*sz+j:=by
   have:=Nat.mul_le_mul_right sz (show es.length≤i by omega);omega
  rw[Zf hb,Zf (by omega)];have e:i*sz+j-c1.length=(i-es.length)*sz+j:=by
   rw[hl,Nat.sub_mul];have:=Nat.mul_le_mul_right sz (show es.length≤i by omega);omega
  rw[e];exact h2 _ _ (by simp at hi;omega) hj
theorem Sized.append {n:Nat} {a b:List PV} (ha:Sized n a) (hb:Sized n b):Sized n (a++b):=fun e he=>(List.mem_append.1 he).elim (ha e) (hb e)
end
open Go.RowKit
def Zed (n bytes:Nat):Prop:=n*bytes≤140737488355328∧n≤maxLen
theorem DC {α:Type} (f:Nat→α) (i:Nat) (u v:α):upd (upd f i u) i v=upd f i v:=by
 funext j;by_cases e:i=j<;>simp[upd,e]
section
variable {P:Program} {B:Frm} {S:Stable} {M:Maps} {s:St} {a:Act} {w:World}
theorem Sim.world (hs:Sim B S M s a w) {w':World} (h:w'.heap=w.heap):Sim B S M s a w':=by
 have hc:∀x,w'.cell? x=w.cell? x:=fun x=>by simp[World.cell?,h]
 exact hs.grow (SLe.refl S) (fun _ _=>⟨fun _=>rfl,rfl⟩) (hs.stable.s.old (fun k hk=>by rw[h])) (fun k hk=>by rw[h]) (by rw[h];exact Nat.le_refl _)
theorem Sim.nilRow (hs:Sim B S M s a w) {d sz:Nat} {e:TypeId} (hd:s.m.q d=none):Sim B S { M with κ:=upd M.κ d 0 } (s.with (s.m.setq d (.live 0 sz e))) a w:=by
 have h:=hs.layRow (d:=d) (ψ:=M.ψ d) (κ:=0) (r:= .live 0 sz e) (.inl hd) ⟨fun _=>rfl,fun c hc=>by simp[Za]at hc⟩ (hs.v_none fun _ _ _ h=>by rw[hd]at h;cases h) (fun _ _ _ _ _ _ _ h=>absurd h (Nat.lt_irrefl _)) (fun _ _ _ _ _ h=>absurd h (Nat.lt_irrefl _));rwa[XB]at h
theorem Sim.nilVec (hs:Sim B S M s a w) {d sz:Nat} {e:TypeId} (hd:s.m.q d=none):Sim B S { M with κ:=upd M.κ d 0 } (s.with { s.m.setq d (.vec 0 sz e)with v:=upd s.m.v d (some []) }) a w:=by
 have h:=hs.layRow (d:=d) (ψ:=M.ψ d) (κ:=0) (r:= .vec 0 sz e) (.inl hd) ⟨fun _=>rfl,fun c hc=>by simp[Za]at hc⟩ (hs.v_none fun _ _ _ h=>by rw[hd]at h;cases h) (fun _ _ _ _ _ _ _ h=>absurd h (Nat.lt_irrefl _)) (fun _ _ _ _ _ h=>absurd h (Nat.lt_irrefl _));rw[XB]at h;exact h.layVec (es:= []) ⟨sz,e,Za _ _ _,fun _ h=>by simp at h,fun _ h=>by simp at h,fun c _ vs t f _ i j hi=>by simp at hi⟩
def Zjz (P:Program) (B:Frm) (S:Stable) (s:St) (a:Act) (w:World) (m:Sem Value) (d n sz:Nat) (e:TypeId) (es:List PV):Prop:=
 ∃v w' S' M',m.run P w= .ok v w'∧Sim B S' M' (s.with (s.m.setq d (.live n sz e))) a w'∧Rep S' v (.sl .no es)∧es.length=n∧
  (M'.κ d=0→v= .slice none 0 0)∧(∀c,M'.κ d=c+1→v= .slice (some ⟨M'.ψ d,0,none⟩) n c)∧Ext B S S' w w'
theorem Sm (hs:Sim B S M s a w) {d n:Nat} {t tx ty:TypeId} {x:EInfo} (hx:Wm P t=some x) {base:Option Addr} {sLen sCap:Nat} {es ys:List PV} {olds news:List Value} {y:Value}
  (hd:s.m.q d=none∨ ∃n0 sz0 e0,s.m.q d=some (.live n0 sz0 e0)∧n0<sLen+ys.length) (hold:(Builtin.firstCells x.size sLen (.slice base sLen sCap)).run P w.drew= .ok olds.toArray w.drew)
  (hle:es.length=sLen) (ho:olds.length=sLen*x.size) (hro:∀i j,i<es.length→j<x.size→Rep S (olds.getD (i*x.size+j) undef) ((es.getD i .any).cells.getD j .any))
  (hsrc:Src P x.size tx y ys.length news w) (hrn:∀i j,i<ys.length→j<x.size→Rep S (news.getD (i*x.size+j) undef) ((ys.getD i .any).cells.getD j .any))
  (hz1:Sized x.size es) (hz2:Sized x.size ys) (hg:sCap<sLen+ys.length) (hroom:Zed (sLen+ys.length) x.bytes):
  Zjz P B S s a w (Builtin.append_ #[t,tx] ty #[.slice base sLen sCap,y]) d (sLen+ys.length) x.size x.e (es++ys):=by
 obtain⟨i,z,h1,h2,h3,h4,h5,h6,h7,h8⟩:=Yl hx;obtain⟨r1,r2⟩:=hroom;have h63:((sLen+ys.length:Nat):Int)≤9223372036854775807:=by simp only[maxLen]at r2;omega
 have hrun:=run_append_grow_src (P:=P) w t tx ty x.e i z h1 h2 h3 base sLen sCap olds (by rw[h5];exact hold) y ys.length news (by rw[h5];exact hsrc) hg h63
  (by rw[h6];exact growslice_fits hg r1)
 have hge:=grownCap_ge w (sLen+ys.length) sCap x.e;have hcm:=grownCap_le_maxLen w (sLen+ys.length) sCap x.e r2;generalize hcap:grownCap w (sLen+ys.length) sCap x.e=cap at *;have hlen:(olds++news).length=(sLen+ys.length)*x.size:=by rw[List.length_append,ho,hsrc.newsLen,Nat.add_mul]
 let vs:List Value:=olds++news++(Builtin.zeroCells z.cells (cap-(sLen+ys.length))).toList
 have hvl:vs.length=cap*x.size:=by
  show(olds++news++_).length=_;have hzl:(Builtin.zeroCells z.cells (cap-(sLen+ys.length))).toList.length=(cap-(sLen+ys.length))*x.size:=by
   rw[Array.length_toList,size_zeroCells,h4]
  rw[List.length_append,hlen,hzl,←Nat.add_mul];congr 1;omega
 have harr:(olds++news).toArray++Builtin.zeroCells z.cells (cap-(sLen+ys.length))=⟨vs⟩:=by
  apply Array.ext';simp[vs]
 rw[harr]at hrun;have hsim:=hs.newRow (w':=w.drew.alloc (.cells ⟨vs⟩ x.e)) hd hge hcm hvl (fun k hk=>ZD w.drew _ hk) (alloc_heap_new w.drew _);have hle':SLe S (Zcb S w.heap.size ((sLen+ys.length)*x.size) vs):= .cells rfl fun b o v hv=>by
  rw[XX];rw[if_neg]
  ·exact hv
  ·rintro ⟨rfl,_⟩;rw[hs.S_lt (Nat.le_refl _)]at hv;cases hv
 refine⟨_,_,_,_,hrun,hsim,?_,by simp[hle],?_,?_,hle',?_,?_⟩
 ·have:=Uw (S:=Zcb S w.heap.size ((sLen+ys.length)*x.size) vs) (b:=w.heap.size) (cap:=cap) (es:=es++ys) (sz:=x.size) (hz1.append hz2) (by simp;omega) (cells:=olds++news)
   (fun k hk=>by
    have hk':k<(olds++news).length:=by rw[hlen];simpa[hle]using hk
    rw[XX,if_pos ⟨rfl,by rw[←hlen];exact hk'⟩];show some ((olds++news++_).getD k undef)=_;rw[Zd hk'])
   (fun i j hi hj=>(Ds (by rw[ho,hle]) hro hrn i j hi hj).mono hle')
  simpa[hle]using this
 ·intro h0;simp[Za]at h0
 ·intro c hc;simp only[Za,Nat.add_right_cancel_iff]at hc ⊢;rw[hc]
 ·intro b hb;refine⟨fun o=> ?_,rfl⟩;rw[XX,if_neg]
  rintro ⟨rfl,_⟩
  exact hs.new_ok hb
 ·exact((BelowF.refl B w).drew).alloc hs.hB _
theorem Zcd (hs:Sim B S M s a w) {d n c:Nat} {t tx ty:TypeId} {x:EInfo} (hx:Wm P t=some x) {es ys:List PV} {news:List Value} {y:Value}
  (hd:s.m.q d=some (.live n x.size x.e)) (hk:M.κ d=c+1) (hn:es.length=n) (hre:Rep S (.slice (some ⟨M.ψ d,0,none⟩) n c) (.sl .no es))
  (hsrc:Src P x.size tx y ys.length news w) (hrn:∀i j,i<ys.length→j<x.size→Rep S (news.getD (i*x.size+j) undef) ((ys.getD i .any).cells.getD j .any))
  (hz1:Sized x.size es) (hz2:Sized x.size ys) (hg:n+ys.length≤c):
  Zjz P B S s a w (Builtin.append_ #[t,tx] ty #[.slice (some ⟨M.ψ d,0,none⟩) n c,y]) d (n+ys.length) x.size x.e (es++ys):=by
 obtain⟨i,z,h1,h2,h3,h4,h5,h6,h7,h8⟩:=Yl hx;subst hn;obtain⟨vs,g1,g2,g3,g3',g4⟩:=hs.growRow (m:=ys.length) (news:=news) hd hk hg hsrc.newsLen;simp only at g4;have hmul:(es.length+ys.length)*x.size≤c*x.size:=Nat.mul_le_mul_right _ hg;have hsum:(es.length+ys.length)*x.size=es.length*x.size+news.length:=by rw[Nat.add_mul,hsrc.newsLen]
 have hst:=run_storeCells_at (P:=P) (M.ψ d) (es.length*x.size) x.e news 0 ⟨vs⟩ w g1 (by simp;omega) hsrc.one;simp only[Nat.add_zero]at hst;have hrun:(Builtin.append_ #[t,tx] ty #[.slice (some ⟨M.ψ d,0,none⟩) es.length c,y]).run P w= .ok (.slice (some ⟨M.ψ d,0,none⟩) (es.length+ys.length) c) (w.setRow (M.ψ d) ⟨vs.take (es.length*x.size)++news++vs.drop (es.length*x.size+news.length)⟩):=by
  have e5:(sizeOf x.e).run P w= .ok x.size w:=by rw[Z6 h2,h8]
  rcases hsrc.kind with ⟨e',hk'⟩|hk'<;>simp[Builtin.append_,run_underlying h1,run_underlying hk',e5,hsrc.len,hg,hsrc.cells,Addr.add_lit,hst]
 obtain⟨cells,hcl,hcS,hcR⟩:=hre.cells_of rfl hz1;have hle:SLe S (ZkS S (M.ψ d) (es.length*x.size) ((es.length+ys.length)*x.size) (vs.take (es.length*x.size)++news++vs.drop (es.length*x.size+news.length))):= .cells rfl fun b o v hv=>by
  show(if _ then _ else _)=some v;rw[if_neg]
  ·exact hv
  ·rintro ⟨rfl,h1,_⟩
   rw[g3' o h1]at hv;cases hv
 refine⟨_,_,_,_,hrun,g4,?_,by simp,?_,?_,hle,?_,ZY g3⟩
 ·have:=Uw (b:=M.ψ d) (cap:=c) (es:=es++ys) (sz:=x.size) (S:=ZkS S (M.ψ d) (es.length*x.size) ((es.length+ys.length)*x.size) (vs.take (es.length*x.size)++news++vs.drop (es.length*x.size+news.length))) (hz1.append hz2) (by simp;omega) (cells:=cells++news)
   (fun k hk=>by
    simp only[List.length_append]at hk;show(if _ then _ else _)=_
    by_cases hlt:k<es.length*x.size
    ·rw[if_neg (by omega),hcS k hlt,Zd (by omega)]
    ·rw[if_pos ⟨rfl,by omega,hk⟩,Zf (l:=cells) (by omega),Zd (by simp;omega),Zf (by simp;omega)];congr 2;simp;omega)
   (fun i j hi hj=>(Ds hcl hcR hrn i j hi hj).mono hle)
  simpa using this
 ·intro h0;omega
 ·intro c' hc';obtain rfl:c'=c:=by omega
  rfl
 ·intro b hb;refine⟨fun o=> ?_,rfl⟩;show(if _ then _ else _)=_;rw[if_neg]
  rintro ⟨rfl,_⟩
  exact g3 hb
def XR (P:Program) (tx:TypeId) (y:PV):Option (List PV):=
 match tix P tx,y with
 | .slc _ _,.sl _ ys=>some ys
 | .str,.str l=>some (YA l)
 |_,_=>none
def VQ (P:Program) (d:Nat) (t tx:TypeId) (x y:PV) (m:Hp):ARes:=
 match Wm P t,XR P tx y,x with
 |some ei,some ys,.sl .nil _=>⟨m.q d=none∧Sized ei.size ys∧Wd ys∧Zed ys.length ei.bytes,.sl (.row d) ys,m.setq d (.live ys.length ei.size ei.e)⟩
 |some ei,some ys,.sl (.row id) es=>match m.q id with
  |some (.live n sz e)=>⟨n=es.length∧sz=ei.size∧e=ei.e∧(d=id∨m.q d=none)∧Sized ei.size es∧Sized ei.size ys∧Wd ys∧Zed (es.length+ys.length) ei.bytes,
    .sl (.row d) (es++ys),if d=id then m.setq d (.live (es.length+ys.length) ei.size ei.e)else(m.setq id .dead).setq d (.live (es.length+ys.length) ei.size ei.e)⟩
  |_=> .fail
 |_,_,_=> .fail
theorem Xg {t tx ty:TypeId} {x:EInfo} (hx:Wm P t=some x) {base:Option Addr} {sLen sCap:Nat} (hle:sLen≤sCap) {y:Value} {news:List Value} (hs:Src P x.size tx y 0 news w):
  (Builtin.append_ #[t,tx] ty #[.slice base sLen sCap,y]).run P w= .ok (.slice base sLen sCap) w:=by
 obtain⟨i,z,h1,h2,h3,h4,h5,h6,h7,h8⟩:=Yl hx;have hn:news= []:=List.eq_nil_of_length_eq_zero (by simpa using hs.newsLen);subst hn;exact run_append_nothing w t tx ty x.e i h1 h2 base sLen sCap hle y (by rw[h5];exact hs)
theorem ZbE (hs:Sim B S M s a w) {d:Nat} {t tx ty:TypeId} {u v:Value} {p y:PV} (hu:RepS S M s.m.q u p) (hui:∀i∈p.ids,Live s.m i) (hv:RepS S M s.m.q v y)
  (hok:(VQ P d t tx p y s.m).ok):Snd P B S s a w (Builtin.append_ #[t,tx] ty #[u,v]) (VQ P d t tx p y s.m):=by
 have src:∀ {ei:EInfo} {ys:List PV},XR P tx y=some ys→Sized ei.size ys→Wd ys→0<ei.size→ ∃news:List Value,Src P ei.size tx v ys.length news w∧ ∀i j,i<ys.length→j<ei.size→Rep S (news.getD (i*ei.size+j) undef) ((ys.getD i .any).cells.getD j .any):=by
  intro ei ys hy hz hat hpos;unfold XR at hy;split at hy
  ·rename_i es2 ea tk ys' heq;cases hy;obtain⟨e,d',ti,h1,_⟩:=UB heq;exact hv.sl_inv.src hs.stable hz hat h1
  ·rename_i l heq;cases hy;have h1:=Zat heq;rw[hv.str_inv]
   by_cases h0:l= []
   ·subst h0;refine⟨[],?_,fun i j hi=>by simp[YA]at hi⟩;refine⟨.inr h1,fun _=>rfl,?_,?_,by simp[YA],fun _ h=>by cases h⟩
    ·simp[Builtin.firstCells,YA]
    ·simp[Builtin.firstCells,YA]
   ·have e1:ei.size=1:=by
     obtain⟨c,l',rfl⟩:=List.exists_cons_of_ne_nil h0;exact(hz (.int .u8 c.toNat) (by simp[YA])).symm
    rw[e1];exact FF h1 l
  ·cases hy
 -- the row keeps its name,or goes under another one
 have close:∀ {n sz:Nat} {e:TypeId} {es:List PV} {id:Nat} {ok:Prop} {m:Sem Value},Zjz P B S s a w m id n sz e es→(d=id∨(s.m.q d=none∧s.m.q id≠none))→
   Snd P B S s a w m ⟨ok,.sl (.row d) es,if d=id then s.m.setq d (.live n sz e)else(s.m.setq id .dead).setq d (.live n sz e)⟩:=by
  intro n sz e es id ok m hap hdi;obtain⟨v',w',S',M',h1,h2,h3,h4,h5,h6,h7⟩:=hap
  by_cases hd:d=id
  ·subst hd;refine⟨v',w',S',M',h1,?_,?_,?_,h7⟩
   ·simp only[if_true];exact h2
   ·simp only[if_true];refine .row d v' es h3 fun n' sz' e' hq=> ?_
    simp only[Hp.setq,Za]at hq;cases hq;exact⟨by omega,fun _=>⟨h5,h6⟩⟩
   ·intro i hi;simp only[PV.ids,List.mem_singleton]at hi;subst hi;simp[Live,Hp.setq,Za]
  ·rcases hdi with hdi|⟨hdn,hin⟩
   ·exact absurd hdi hd
   ·have hq1:(s.with (s.m.setq id (.live n sz e))).m.q id=some (.live n sz e):=Za _ _ _;have hq2:(s.with (s.m.setq id (.live n sz e))).m.q d=none:=by
     show upd s.m.q id _ d=none;rw[Zc _ _ (Ne.symm hd)];exact hdn
    have h2':=h2.moveRow hq1 hq2;simp only[St.with,Hp.setq,DC]at h2';refine⟨v',w',S',{ M' with ψ:=upd M'.ψ d (M'.ψ id),κ:=upd M'.κ d (M'.κ id) },h1,?_,?_,?_,h7⟩
    ·simp only[if_neg hd];exact h2'
    ·simp only[if_neg hd];refine .row d v' es h3 fun n' sz' e' hq=> ?_
     simp only[Hp.setq,Za]at hq;cases hq;refine⟨by omega,fun _=> ?_⟩;simp only[Za];exact⟨h5,h6⟩
    ·intro i hi;simp only[PV.ids,List.mem_singleton]at hi;subst hi;simp[Live,Hp.setq,Za,if_neg hd]
 revert hok
 unfold VQ;split
 ·rename_i ei ys es hx hy
  rintro ⟨g1,g2,g3,g4⟩
  obtain⟨i,z,h1,h2,h3,h4,h5,h6,h7,h8⟩:=Yl hx;obtain⟨news,hsrc,hrn⟩:=src hy g2 g3 h7;rw[hu.slnil_inv];have base:∀(w:World),(Builtin.firstCells ei.size 0 (.slice none 0 0)).run P w= .ok ([]:List Value).toArray w:=fun w=>by simp[Builtin.firstCells]
  by_cases hm:ys.length=0
  ·have e0:ys= []:=List.eq_nil_of_length_eq_zero hm;subst e0;have hrun:=Xg (ty:=ty) hx (base:=none) (Nat.le_refl 0) hsrc;refine⟨_,w,S,{ M with κ:=upd M.κ d 0 },hrun,hs.nilRow g1,?_,?_,Ext.refl _ _ _⟩
   ·refine .row d _ [] (.sl0 none 0) fun n' sz' e' hq=> ?_
    simp only[Hp.setq,Za]at hq;cases hq;exact⟨Nat.le_refl _,fun _=>⟨fun _=>rfl,fun c hc=>by simp[Za]at hc⟩⟩
   ·intro i hi;simp only[PV.ids,List.mem_singleton]at hi;subst hi;simp[Live,Hp.setq,Za]
  ·have hap:=Sm (n:=0) hs (d:=d) (ty:=ty) hx (.inl g1) (es:= []) (olds:= []) (base w.drew) rfl (by simp) (fun i j hi=>by simp at hi) hsrc hrn (fun _ h=>by cases h) g2 (by omega) (by simpa using g4);simp only[Nat.zero_add,List.nil_append]at hap;have:=close (ok:=s.m.q d=none∧Sized ei.size ys∧Wd ys∧Zed ys.length ei.bytes) hap (.inl rfl);simpa using this
 ·rename_i ei ys id es hx hy;split
  ·rename_i n sz e hq
   rintro ⟨g0,g1,g2,g3,g4,g5,g6,g7⟩
   subst g0;subst g1;subst g2;obtain⟨i,z,h1,h2,h3,h4,h5,h6,h7,h8⟩:=Yl hx;obtain⟨news,hsrc,hrn⟩:=src hy g5 g6 h7;have hdi:d=id∨(s.m.q d=none∧s.m.q id≠none):=g3.imp (fun h=>h) (fun h=>⟨h,by rw[hq];simp⟩);refine close ?_ hdi;have hrow:Rep S u (.sl .no es)∧(M.κ id=0→u= .slice none 0 0)∧(∀c,M.κ id=c+1→u= .slice (some ⟨M.ψ id,0,none⟩) es.length c):=by
    cases hu with
    |clean r=>cases r
    |row id v es r t=>obtain⟨_,t2⟩:=t _ _ _ hq;exact⟨r,t2 rfl⟩
   obtain⟨hre,k0,k1⟩:=hrow;obtain⟨r0,r1⟩:=hs.row id _ hq;have self:s.m.setq id (.live es.length ei.size ei.e)=s.m:=by
    have:upd s.m.q id (some (.live es.length ei.size ei.e))=s.m.q:=by
     funext k;by_cases e:id=k
     ·subst e;simp[upd,hq]
     ·simp[upd,e]
    unfold Hp.setq;rw[this]
   cases hk:M.κ id with
   |zero=>
    have hu0:=k0 hk;have he0:es= []:=List.eq_nil_of_length_eq_zero (r0 hk);subst he0;subst hu0
    by_cases hm:ys.length=0
    ·have e0:ys= []:=List.eq_nil_of_length_eq_zero hm;subst e0;have hrun:=Xg (ty:=ty) hx (base:=none) (Nat.le_refl 0) hsrc;refine⟨_,w,S,M,hrun,?_,.sl0 none 0,rfl,fun _=>rfl,fun c hc=>(by rw[hk]at hc;cases hc),Ext.refl _ _ _⟩;simp only[List.length_nil,Nat.add_zero]at self ⊢;rw[self];exact hs
    ·have base:∀(w:World),(Builtin.firstCells ei.size 0 (.slice none 0 0)).run P w= .ok ([]:List Value).toArray w:=fun w=>by simp[Builtin.firstCells]
     exact Sm (n:=0) hs (d:=id) (ty:=ty) hx (.inr ⟨_,_,_,hq,by simp;omega⟩) (es:= []) (olds:= []) (base w.drew) rfl (by simp) (fun i j hi=>by simp at hi) hsrc hrn (fun _ h=>by cases h) g5 (by omega) (by simpa using g7)
   |succ c=>
    have hu0:=k1 c hk;subst hu0;obtain⟨q1,q2,q3,⟨vs,q4,q5⟩,q6⟩:=r1 c hk
    by_cases hroom:es.length+ys.length≤c
    ·exact Zcd hs hx hq hk rfl hre hsrc hrn g4 g5 hroom
    ·obtain⟨cells,hcl,hcS,hcR⟩:=hre.cells_of rfl g4;refine Sm (n:=0) hs (d:=id) (ty:=ty) hx (.inr ⟨_,_,_,hq,by omega⟩) (es:=es) (olds:=cells) ?_ rfl hcl hcR hsrc hrn g4 g5 (by omega) g7;refine run_firstCells_some w.drew ei.size es.length ⟨M.ψ id,0,none⟩ es.length c cells hcl (fun j u hj=> ?_);obtain⟨hj1,hj2⟩:=List.getElem?_eq_some_iff.1 hj;have:=hs.stable _ _ _ (hcS j (by omega));rw[Zb hj1,hj2]at this;rw[ZJ,Nat.zero_add];exact this
  ·exact fun hok=>hok.elim
 ·exact fun hok=>hok.elim
end
open Go.RowKit
def aUn (op:UnOp) (x:PV) (m:Hp):ARes:=
 match op,x with
 | .not,.bool b=>⟨True,.bool (!b),m⟩
 | .neg,.int k n=>⟨True,.int k (k.wrap (0-n)),m⟩
 | .neg,.flt k b=>⟨True,.flt k (Op.negFloat k b),m⟩
 |_,_=> .fail
inductive CvK where
 |int (k:IntKind)|same|bytes|none|flt (k:FloatKind)
def tcv (P:Program) (src dst:TypeId):CvK:=
 match P.underlying src,P.underlying dst with
 |some _,some (.int k)=> .int k
 |some _,some (.float k)=> .flt k
 |some .string,some .string=> .same
 |some (.slice e),some .string=>match P.underlying e with|some (.int .u8)=> .bytes|_=> .none
 |_,_=> .none
def Sn:List PV→Option (List UInt8)
 | []=>some []
 | .int .u8 n::r=>if 0≤n∧n<256 then(match Sn r with|some l=>some (UInt8.ofNat n.toNat::l)|none=>none)else none
 |_::_=>none
def V9 (P:Program) (src dst:TypeId) (x:PV) (m:Hp):ARes:=
 match tcv P src dst,x with
 | .int k,.int _ n=>⟨True,.int k (k.wrap n),m⟩
 | .flt k,.int _ n=>⟨True,.flt k (k.nearest n),m⟩
 | .int k,.flt s b=>match(s.decode b).toInt .zero with
  |some n=>⟨k.min≤n∧n≤k.max,.int k n,m⟩
  |none=> .fail
 | .same,.str l=>⟨True,.str l,m⟩
 | .bytes,.sl _ es=>match Sn es with
  |some l=>⟨True,.str l,m⟩
  |none=> .fail
 | .bytes,.osl id off len _=>match m.h id with
  |some cs=>match Sn ((cs.drop off).take len)with
   |some l=>⟨off+len≤cs.length,.str l,m⟩
   |none=> .fail
  |none=> .fail
 |_,_=> .fail
def We (x:PV) (i:Nat) (m:Hp):ARes:=
 match x with
 | .tup vs=>⟨i<vs.length,vs.getD i .any,m⟩
 |_=> .fail
def DL (c x y:PV) (m:Hp):ARes:=
 match c with
 | .bool true=>⟨True,x,m⟩
 | .bool false=>⟨True,y,m⟩
 |_=> .fail
def Y1 (x:PV) (m:Hp):ARes:=
 match x with
 | .ptr id o=>⟨True,.ptr id o,m⟩
 | .rptr cs=>⟨True,.rptr cs,m⟩
 | .fn f cs=>⟨True,.fn f cs,m⟩
 |_=> .fail
inductive LenK where
 |arr (n:Nat)|slc|str|none
def Zff (P:Program) (t:TypeId):LenK:=
 match P.underlying t with
 |some (.array n _)=> .arr n
 |some (.slice _)=> .slc
 |some .string=> .str
 |some (.pointer e)=>match P.underlying e with|some (.array n _)=> .arr n|_=> .none
 |_=> .none
def ZhH (P:Program) (t:TypeId) (x:PV) (m:Hp):ARes:=
 match Zff P t,x with
 | .arr n,_=>⟨True,.int .i64 n,m⟩
 | .slc,.sl _ es=>⟨True,.int .i64 es.length,m⟩
 | .slc,.osl _ _ n _=>⟨True,.int .i64 n,m⟩
 | .slc,.vsl _ n _=>⟨True,.int .i64 n,m⟩
 | .str,.str l=>⟨True,.int .i64 l.length,m⟩
 |_,_=> .fail
def ZhI (x y:PV) (m:Hp):ARes:=
 match x,y with
 | .int k a,.int k' b=>⟨k=k',.int k (max a b),m⟩
 |_,_=> .fail
def ZhJ (x y:PV) (m:Hp):ARes:=
 match x,y with
 | .int k a,.int k' b=>⟨k=k',.int k (min a b),m⟩
 |_,_=> .fail
def ZhE (x y:PV) (m:Hp):ARes:=
 match x,y with
 | .flt k a,.flt k' b=>⟨k=k',.cpx k a b,m⟩
 |_,_=> .fail
def FR (x:PV) (m:Hp):ARes:=
 match x with
 | .cpx k a _=>⟨True,.flt k a,m⟩
 |_=> .fail
def FQ (x:PV) (m:Hp):ARes:=
 match x with
 | .cpx k _ b=>⟨True,.flt k b,m⟩
 |_=> .fail
section
variable {P:Program} {B:Frm} {S:Stable} {M:Maps} {s:St} {a:Act} {w:World}
theorem Snd.clean (hs:Sim B S M s a w) {m:Sem Value} {ok:Prop} {p:PV} {v:Value} (hm:m.run P w= .ok v w) (hr:Rep S v p):Snd P B S s a w m ⟨ok,p,s.m⟩:=
 Snd.pure hs hm (.clean hr) (fun i hi=>absurd hi (hr.clean_ids i))
theorem ZgL (hs:Sim B S M s a w) {ts:Array TypeId} {ty:TypeId} {u v:Value} {p q:PV} (hu:RepS S M s.m.q u p) (hv:RepS S M s.m.q v q) (hok:(ZhE p q s.m).ok):Snd P B S s a w (Builtin.complex_ ts ty #[u,v]) (ZhE p q s.m):=by
 revert hok
 unfold ZhE;split
 ·intro hok;have e:=hok;simp only at e;subst e;rw[hu.flt_inv,hv.flt_inv];exact Snd.clean hs (by show(if _ then _ else _:Sem Value).run P w=_;rw[if_pos rfl];rfl) (.cpx _ _ _)
 ·exact fun hok=>hok.elim
theorem ZeU (hs:Sim B S M s a w) {ts:Array TypeId} {ty:TypeId} {u:Value} {p:PV} (hu:RepS S M s.m.q u p) (hok:(FR p s.m).ok):Snd P B S s a w (Builtin.real_ ts ty #[u]) (FR p s.m):=by
 revert hok
 unfold FR;split
 ·intro _;rw[hu.cpx_inv];exact Snd.clean hs (by rfl) (.flt _ _)
 ·exact fun hok=>hok.elim
theorem ZeS (hs:Sim B S M s a w) {ts:Array TypeId} {ty:TypeId} {u:Value} {p:PV} (hu:RepS S M s.m.q u p) (hok:(FQ p s.m).ok):Snd P B S s a w (Builtin.imag_ ts ty #[u]) (FQ p s.m):=by
 revert hok
 unfold FQ;split
 ·intro _;rw[hu.cpx_inv];exact Snd.clean hs (by rfl) (.flt _ _)
 ·exact fun hok=>hok.elim
theorem ZiO (hs:Sim B S M s a w) {op:UnOp} {u:Value} {p:PV} (hu:RepS S M s.m.q u p) (hok:(aUn op p s.m).ok):Snd P B S s a w (Op.unary op u) (aUn op p s.m):=by
 revert hok
 unfold aUn;split
 ·intro _;rw[hu.bool_inv];exact Snd.clean hs (by simp[Op.unary]) (.bool _)
 ·intro _;rw[hu.int_inv];exact Snd.clean hs (by simp[Op.unary,Op.intArith]) (.int _ _)
 ·intro _;rw[hu.flt_inv];exact Snd.clean hs (by simp[Op.unary]) (.flt _ _)
 ·exact fun hok=>hok.elim
theorem So:∀ {es:List PV} {l:List UInt8},Sn es=some l→l.length=es.length∧ ∀j (hj:j<l.length),es.getD j .any= .int .u8 (l[j].toNat:Int)
 | [],l,h=>by
  simp only[Sn,Option.some.injEq]at h;subst h;exact⟨rfl,fun j hj=>by simp at hj⟩
 |e::es,l,h=>by
  unfold Sn at h;split at h
  ·rename_i he;cases he
  ·rename_i n r he;cases he;split at h
   ·rename_i hn;split at h
    ·rename_i l' hl';cases h;obtain⟨h1,h2⟩:=So hl';refine⟨by simp[h1],fun j hj=> ?_⟩;cases j with
     |zero=>
      simp only[List.getD_cons_zero,List.getElem_cons_zero];congr 1;rw[UInt8.toNat_ofNat'];omega
     |succ j=>simpa using h2 j (by simpa using hj)
    ·cases h
   ·cases h
  ·cases h
theorem ZeR (hs:Sim B S M s a w) {src dst:TypeId} {u:Value} {p:PV} (hu:RepS S M s.m.q u p) (hok:(V9 P src dst p s.m).ok):Snd P B S s a w (convert src dst u) (V9 P src dst p s.m):=by
 revert hok
 unfold V9;split
 ·rename_i k k' n heq;intro _;rw[hu.int_inv];unfold tcv at heq;split at heq
  ·rename_i d k0 h1 h2;cases heq;exact Snd.clean hs (by simp[convert,Zw h1,Zw h2,Conv.intToInt]) (.int _ _)
  ·cases heq
  ·cases heq
  ·split at heq<;>cases heq
  ·cases heq
 ·rename_i k k' n heq;intro _;rw[hu.int_inv];unfold tcv at heq;split at heq
  ·cases heq
  ·rename_i d k0 _ h1 h2;cases heq;exact Snd.clean hs (by simp[convert,Zw h1,Zw h2,Conv.intToFloat]) (.flt _ _)
  ·cases heq
  ·split at heq<;>cases heq
  ·cases heq
 ·rename_i k k' b heq;split
  ·rename_i n hn
   rintro ⟨g1,g2⟩
   rw[hu.flt_inv];unfold tcv at heq;split at heq
   ·rename_i d k0 h1 h2;cases heq;exact Snd.clean hs (by simp[convert,Zw h1,Zw h2,Conv.floatToInt,hn,g1,g2]) (.int _ _)
   ·cases heq
   ·cases heq
   ·split at heq<;>cases heq
   ·cases heq
  ·exact fun hok=>hok.elim
 ·rename_i l heq;intro _;rw[hu.str_inv];unfold tcv at heq;split at heq
  ·cases heq
  ·cases heq
  ·rename_i h1 h2;exact Snd.clean hs (by simp[convert,Zw h1,Zw h2]) (.str _)
  ·split at heq<;>cases heq
  ·cases heq
 ·rename_i t es heq;split
  ·rename_i l hl;intro _;obtain⟨b1,b2⟩:=So hl;have hr:=hu.sl_inv;have ty:∃e,P.underlying src=some (.slice e)∧P.underlying e=some (.int .u8)∧P.underlying dst=some .string:=by
    unfold tcv at heq;split at heq
    ·cases heq
    ·cases heq
    ·cases heq
    ·rename_i e h1 h2;split at heq
     ·rename_i h3;exact⟨e,h1,h3,h2⟩
     ·cases heq
    ·cases heq
   obtain⟨e,t1,t2,t3⟩:=ty;cases hr with
   |sl0 a0 cap=>
    have:l= []:=List.eq_nil_of_length_eq_zero (by simpa using b1);subst this;cases a0 with
    |none=>exact Snd.clean hs (v:= .string ⟨⟨[]⟩⟩) (by rw[run_convert_bytes_string w src dst e none 0 cap t1 t2 t3];simp[Conv.bytesToString];rfl) (.str [])
    |some ad=>exact Snd.clean hs (v:= .string ⟨⟨[]⟩⟩) (run_convert_bytes_back w src dst e ad cap [] t1 t2 t3 (fun j hj=>by simp at hj)) (.str [])
   |sl b o cap sz _ vals hsz hcap hS hR=>
    have key:=run_convert_bytes_back (P:=P) w src dst e ⟨b,o,none⟩ cap l t1 t2 t3 (fun j hj=>by
     have hj':j<es.length:=by rw[←b1];exact hj
     have e1:=b2 j hj;have s1:sz=1:=by have:=hsz j hj';rw[e1]at this;simpa[PV.cells]using this.symm
     subst s1;have r1:=hR j 0 hj' (by omega);rw[e1]at r1;have r2:vals j 0= .int .u8 (l[j].toNat:Int):=by
      simp only[PV.cells,List.getD_cons_zero]at r1;exact(RepS.clean (M:=M) (q:=s.m.q) r1).int_inv
     have:=hs.stable _ _ _ (hS j 0 hj' (by omega));rw[r2,Nat.mul_one,Nat.add_zero]at this;rw[ZJ];exact this)
    rw[b1]at key;exact Snd.clean hs key (.str l)
  ·exact fun hok=>hok.elim
 ·rename_i id off len sz heq;split
  ·rename_i cs hcs;split
   ·rename_i l hl;intro hle;obtain⟨b1,b2⟩:=So hl;have ty:∃e,P.underlying src=some (.slice e)∧P.underlying e=some (.int .u8)∧P.underlying dst=some .string:=by
     unfold tcv at heq;split at heq
     ·cases heq
     ·cases heq
     ·cases heq
     ·rename_i e h1 h2;split at heq
      ·rename_i h3;exact⟨e,h1,h3,h2⟩
      ·cases heq
     ·cases heq
    obtain⟨e,t1,t2,t3⟩:=ty;obtain⟨cap,_,rfl⟩:=hu.osl_inv;have hh:∃vals:Nat→Value,(∀j,j<cs.length→w.cell? ⟨M.φ id,j,none⟩=some (vals j))∧(∀j,j<cs.length→RepS S M s.m.q (vals j) (cs.getD j .any)):=by
     have hb:=hs.blk id _ hcs;cases hz:s.m.z id with
     |false=>
      rw[hz]at hb;obtain⟨_,_,⟨vs,ty,h3,h4,h5⟩,h6⟩:=hb;refine⟨fun j=>vs.getD j undef,fun j hj=> ?_,h5⟩;rw[Z0 h3,List.getElem?_eq_getElem (by omega)];show some _=some (vs.getD j undef);rw[Zb (by omega)]
     |true=>
      rw[hz]at hb;obtain⟨vals,hv⟩:=hb;exact⟨vals,fun j hj=>hs.stable _ _ _ (hv j hj).1,fun j hj=> .clean (hv j hj).2⟩
    obtain⟨vals,hc,hr⟩:=hh;have hlen:l.length=len:=by rw[b1];simp;omega
    have key:=run_convert_bytes_back (P:=P) w src dst e ⟨M.φ id,off,none⟩ cap l t1 t2 t3 (fun j hj=>by
     have e1:=b2 j hj;have hj':off+j<cs.length:=by omega
     have e2:((cs.drop off).take len).getD j .any=cs.getD (off+j) .any:=by
      simp only[List.getD_eq_getElem?_getD];rw[List.getElem?_take_of_lt (by omega),List.getElem?_drop]
     rw[e2]at e1;have r1:=hr _ hj';rw[e1]at r1;rw[ZJ,hc _ hj',r1.int_inv])
    rw[hlen]at key;exact Snd.clean hs key (.str l)
   ·exact fun hok=>hok.elim
  ·exact fun hok=>hok.elim
 ·exact fun hok=>hok.elim
theorem Zap (hs:Sim B S M s a w) {u:Value} {p:PV} {i:Nat} (hu:RepS S M s.m.q u p) (hui:∀i∈p.ids,Live s.m i) (hok:(We p i s.m).ok):Snd P B S s a w (Instr.extract u i) (We p i s.m):=by
 revert hok
 unfold We;split
 ·rename_i vs;intro hi;simp only at hi;obtain⟨us,rfl,hl,hr⟩:=hu.tup_inv;refine Snd.pure hs (v:=us.getD i undef) ?_ (hr i hi) (fun k hk=>hui k (PV.mem_idsL.2 ⟨_,Ze hi,hk⟩));rw[Zb (by omega)];have:i<us.length:=by omega
  simp[Instr.extract,this]
 ·exact fun hok=>hok.elim
theorem ZgO (hs:Sim B S M s a w) {t ty:TypeId} {u:Value} {p:PV} (hu:RepS S M s.m.q u p) (hok:(ZhH P t p s.m).ok):Snd P B S s a w (Builtin.len_ #[t] ty #[u]) (ZhH P t p s.m):=by
 revert hok
 unfold ZhH;split
 ·rename_i n x heq;intro _;unfold Zff at heq;split at heq
  ·rename_i h1;cases heq;exact Snd.clean hs (by simp[Builtin.len_,Zw h1,goInt]) (.int _ _)
  ·cases heq
  ·cases heq
  ·rename_i e h1;split at heq
   ·rename_i h2;cases heq;exact Snd.clean hs (by simp[Builtin.len_,Zw h1,Zw h2,goInt]) (.int _ _)
   ·cases heq
  ·cases heq
 ·rename_i tk es heq;intro _;obtain⟨ad,cap,rfl,_⟩:=hu.sl_inv.sl_len;unfold Zff at heq;split at heq
  ·cases heq
  ·rename_i h1;exact Snd.clean hs (by simp[Builtin.len_,Zw h1,goInt]) (.int _ _)
  ·cases heq
  ·split at heq<;>cases heq
  ·cases heq
 ·rename_i id off n sz heq;intro _;obtain⟨cap,_,rfl⟩:=hu.osl_inv;unfold Zff at heq;split at heq
  ·cases heq
  ·rename_i h1;exact Snd.clean hs (by simp[Builtin.len_,Zw h1,goInt]) (.int _ _)
  ·cases heq
  ·split at heq<;>cases heq
  ·cases heq
 ·rename_i id n sz heq;intro _;obtain⟨⟨ad,cap,hv,_⟩,_⟩:=hu.vsl_inv;unfold Zff at heq;split at heq
  ·cases heq
  ·rename_i h1;exact Snd.clean hs (by simp[hv,Builtin.len_,Zw h1,goInt]) (.int _ _)
  ·cases heq
  ·split at heq<;>cases heq
  ·cases heq
 ·rename_i l heq;intro _;rw[hu.str_inv];unfold Zff at heq;split at heq
  ·cases heq
  ·cases heq
  ·rename_i h1;exact Snd.clean hs (v:= .int .i64 l.length) (by simp[Builtin.len_,Zw h1,goInt];rfl) (.int _ _)
  ·split at heq<;>cases heq
  ·cases heq
 ·exact fun hok=>hok.elim
theorem ZgP (hs:Sim B S M s a w) {ts:Array TypeId} {ty:TypeId} {u v:Value} {p q:PV} (hu:RepS S M s.m.q u p) (hv:RepS S M s.m.q v q) (hok:(ZhI p q s.m).ok):Snd P B S s a w (Builtin.max_ ts ty #[u,v]) (ZhI p q s.m):=by
 revert hok
 unfold ZhI;split
 ·rename_i k x k' y;intro hk;rw[hu.int_inv,hv.int_inv];simp only at hk;subst hk;have e:(if y>x then y else x)=max x y:=by rw[Int.max_def];split<;>split<;>omega
  exact Snd.clean hs (v:= .int k (max x y)) (by simp[Builtin.max_,Builtin.max2];omega) (.int _ _)
 ·exact fun hok=>hok.elim
theorem ZgQ (hs:Sim B S M s a w) {ts:Array TypeId} {ty:TypeId} {u v:Value} {p q:PV} (hu:RepS S M s.m.q u p) (hv:RepS S M s.m.q v q) (hok:(ZhJ p q s.m).ok):Snd P B S s a w (Builtin.min_ ts ty #[u,v]) (ZhJ p q s.m):=by
 revert hok
 unfold ZhJ;split
 ·rename_i k x k' y;intro hk;rw[hu.int_inv,hv.int_inv];simp only at hk;subst hk;exact Snd.clean hs (v:= .int k (min x y)) (by simp[Builtin.min_,Builtin.min2];omega) (.int _ _)
 ·exact fun hok=>hok.elim
end
end Go.PL
