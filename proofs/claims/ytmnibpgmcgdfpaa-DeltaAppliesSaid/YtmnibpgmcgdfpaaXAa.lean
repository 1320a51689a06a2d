/- Facts on the table of types of this seat, printed by program: one rule a fact. -/
import Derived.Test.YtmnibpgmcgdfpaaPlM
import Derived.Test.YtmnibpgmcgdfpaaProg
import Derived.KernelRfl
namespace Go.Proofs.Ytmnibpgmcgdfpaa
set_option maxHeartbeats 64000000
set_option maxRecDepth 20000
set_option linter.unusedVariables false
set_option linter.unusedSimpArgs false
open Go.PL
@[go_sem] theorem Zn7:tkn Try.prog 2=true:=by kernel_rfl
@[go_sem] theorem Zoa:tsz Try.prog 2=1:=by kernel_rfl
@[go_sem] theorem Zno:Yd Try.prog 2=false:=by kernel_rfl
@[go_sem] theorem Zn8:tkn Try.prog 3=true:=by kernel_rfl
@[go_sem] theorem Zob:tsz Try.prog 3=1:=by kernel_rfl
@[go_sem] theorem Znp:Yd Try.prog 3=false:=by kernel_rfl
@[go_sem] theorem Znx:ZcX Try.prog 4= .bool:=by kernel_rfl
@[go_sem] theorem Zn9:tkn Try.prog 9=true:=by kernel_rfl
@[go_sem] theorem Zoc:tsz Try.prog 9=1:=by kernel_rfl
@[go_sem] theorem Znq:Yd Try.prog 9=false:=by kernel_rfl
@[go_sem] theorem Zn6:tix Try.prog 9= .str:=by kernel_rfl
@[go_sem] theorem ZnN:Zff Try.prog 9= .str:=by kernel_rfl
@[go_sem] theorem ZnD:tkn Try.prog 22=true:=by kernel_rfl
@[go_sem] theorem ZnO:tsz Try.prog 22=1:=by kernel_rfl
@[go_sem] theorem ZmU:Yd Try.prog 22=false:=by kernel_rfl
@[go_sem] theorem ZmE:U7 Try.prog 22=some [.sl .nil []]:=by kernel_rfl
@[go_sem] theorem Zny:tix Try.prog 22= .slc 13 true:=by kernel_rfl
@[go_sem] theorem Zm1:Zff Try.prog 22= .slc:=by kernel_rfl
@[go_sem] theorem Zmz:Wm Try.prog 22=some ⟨30,13,192⟩:=by kernel_rfl
@[go_sem] theorem ZnE:tkn Try.prog 24=true:=by kernel_rfl
@[go_sem] theorem ZnP:tsz Try.prog 24=3:=by kernel_rfl
@[go_sem] theorem ZmV:Yd Try.prog 24=true:=by kernel_rfl
@[go_sem] theorem ZlO:Gu Try.prog 24 0=some (0,1,false):=by kernel_rfl
@[go_sem] theorem ZlP:Gu Try.prog 24 1=some (1,1,false):=by kernel_rfl
@[go_sem] theorem ZlQ:Gu Try.prog 24 2=some (2,1,false):=by kernel_rfl
@[go_sem] theorem Znr:tbd Try.prog 24= .str [(0,1),(1,1),(2,1)] [.int .i64 0,.str [],.str []]:=by kernel_rfl
@[go_sem] theorem Zk2:ZcY Try.prog 24=some [.int,.str,.str]:=by kernel_rfl
@[go_sem] theorem ZnF:tkn Try.prog 25=true:=by kernel_rfl
@[go_sem] theorem ZnQ:tsz Try.prog 25=1:=by kernel_rfl
@[go_sem] theorem ZmW:Yd Try.prog 25=false:=by kernel_rfl
@[go_sem] theorem Znz:tix Try.prog 25= .slc 1 false:=by kernel_rfl
@[go_sem] theorem Zm2:Zff Try.prog 25= .slc:=by kernel_rfl
@[go_sem] theorem ZmZ:ZcX Try.prog 25= .slc:=by kernel_rfl
@[go_sem] theorem ZmA:Wm Try.prog 25=some ⟨9,1,16⟩:=by kernel_rfl
@[go_sem] theorem ZnG:tkn Try.prog 27=true:=by kernel_rfl
@[go_sem] theorem ZnR:tsz Try.prog 27=5:=by kernel_rfl
@[go_sem] theorem Zki:Yd Try.prog 27=true:=by kernel_rfl
@[go_sem] theorem ZmF:U7 Try.prog 27=some [.int .i64 0,.str [],.str [],.int .i64 0,.sl .nil []]:=by kernel_rfl
@[go_sem] theorem ZlR:Gu Try.prog 27 0=some (0,3,true):=by kernel_rfl
@[go_sem] theorem ZlS:Gu Try.prog 27 1=some (3,1,false):=by kernel_rfl
@[go_sem] theorem ZlT:Gu Try.prog 27 2=some (4,1,false):=by kernel_rfl
@[go_sem] theorem Zns:tbd Try.prog 27= .str [(0,3),(3,1),(4,1)] [.int .i64 0,.str [],.str [],.int .i64 0,.sl .nil []]:=by kernel_rfl
@[go_sem] theorem ZnH:tkn Try.prog 28=true:=by kernel_rfl
@[go_sem] theorem ZnS:tsz Try.prog 28=1:=by kernel_rfl
@[go_sem] theorem ZmX:Yd Try.prog 28=false:=by kernel_rfl
@[go_sem] theorem ZnA:tix Try.prog 28= .slc 5 true:=by kernel_rfl
@[go_sem] theorem Zm3:Zff Try.prog 28= .slc:=by kernel_rfl
@[go_sem] theorem Zm0:ZcX Try.prog 28= .slc:=by kernel_rfl
@[go_sem] theorem ZmB:Wm Try.prog 28=some ⟨27,5,72⟩:=by kernel_rfl
@[go_sem] theorem ZnI:tkn Try.prog 30=true:=by kernel_rfl
@[go_sem] theorem ZnT:tsz Try.prog 30=13:=by kernel_rfl
@[go_sem] theorem Zkj:Yd Try.prog 30=true:=by kernel_rfl
@[go_sem] theorem ZmG:U7 Try.prog 30=some [.int .i64 0,.str [],.int .i64 0,.str [],.str [],.int .i64 0,.sl .nil [],.int .i64 0,.str [],.str [],.int .i64 0,.sl .nil [],.sl .nil []]:=by kernel_rfl
@[go_sem] theorem ZlU:Gu Try.prog 30 0=some (0,1,false):=by kernel_rfl
@[go_sem] theorem ZlV:Gu Try.prog 30 1=some (1,1,false):=by kernel_rfl
@[go_sem] theorem ZlW:Gu Try.prog 30 2=some (2,5,true):=by kernel_rfl
@[go_sem] theorem ZlX:Gu Try.prog 30 3=some (7,5,true):=by kernel_rfl
@[go_sem] theorem ZlY:Gu Try.prog 30 4=some (12,1,false):=by kernel_rfl
@[go_sem] theorem Znt:tbd Try.prog 30= .str [(0,1),(1,1),(2,5),(7,5),(12,1)] [.int .i64 0,.str [],.int .i64 0,.str [],.str [],.int .i64 0,.sl .nil [],.int .i64 0,.str [],.str [],.int .i64 0,.sl .nil [],.sl .nil []]:=by kernel_rfl
@[go_sem] theorem ZnB:tix Try.prog 37= .slc 7 true:=by kernel_rfl
@[go_sem] theorem Zm4:Zff Try.prog 37= .slc:=by kernel_rfl
@[go_sem] theorem ZmC:Wm Try.prog 37=some ⟨76,7,96⟩:=by kernel_rfl
@[go_sem] theorem ZnJ:tkn Try.prog 38=true:=by kernel_rfl
@[go_sem] theorem ZnU:tsz Try.prog 38=1:=by kernel_rfl
@[go_sem] theorem ZmY:Yd Try.prog 38=false:=by kernel_rfl
@[go_sem] theorem ZnC:tix Try.prog 38= .slc 2 true:=by kernel_rfl
@[go_sem] theorem Zm5:Zff Try.prog 38= .slc:=by kernel_rfl
@[go_sem] theorem ZmD:Wm Try.prog 38=some ⟨53,2,40⟩:=by kernel_rfl
@[go_sem] theorem ZnK:tkn Try.prog 40=true:=by kernel_rfl
@[go_sem] theorem ZnV:tsz Try.prog 40=2:=by kernel_rfl
@[go_sem] theorem Zkk:Yd Try.prog 40=true:=by kernel_rfl
@[go_sem] theorem ZmH:U7 Try.prog 40=some [.sl .nil [],.sl .nil []]:=by kernel_rfl
@[go_sem] theorem ZlZ:Gu Try.prog 40 0=some (0,1,false):=by kernel_rfl
@[go_sem] theorem Zl0:Gu Try.prog 40 1=some (1,1,false):=by kernel_rfl
@[go_sem] theorem Znu:tbd Try.prog 40= .str [(0,1),(1,1)] [.sl .nil [],.sl .nil []]:=by kernel_rfl
@[go_sem] theorem ZnL:tkn Try.prog 53=true:=by kernel_rfl
@[go_sem] theorem ZnW:tsz Try.prog 53=2:=by kernel_rfl
@[go_sem] theorem Zkl:Yd Try.prog 53=true:=by kernel_rfl
@[go_sem] theorem ZmI:U7 Try.prog 53=some [.str [],.sl .nil []]:=by kernel_rfl
@[go_sem] theorem Zl1:Gu Try.prog 53 0=some (0,1,false):=by kernel_rfl
@[go_sem] theorem Zl2:Gu Try.prog 53 1=some (1,1,false):=by kernel_rfl
@[go_sem] theorem Znv:tbd Try.prog 53= .str [(0,1),(1,1)] [.str [],.sl .nil []]:=by kernel_rfl
@[go_sem] theorem ZnM:tkn Try.prog 76=true:=by kernel_rfl
@[go_sem] theorem ZnX:tsz Try.prog 76=7:=by kernel_rfl
@[go_sem] theorem Zkm:Yd Try.prog 76=true:=by kernel_rfl
@[go_sem] theorem ZmJ:U7 Try.prog 76=some [.int .i64 0,.str [],.str [],.int .i64 0,.str [],.sl .nil [],.int .i64 0]:=by kernel_rfl
@[go_sem] theorem Zl3:Gu Try.prog 76 0=some (0,3,true):=by kernel_rfl
@[go_sem] theorem Zl4:Gu Try.prog 76 1=some (3,1,false):=by kernel_rfl
@[go_sem] theorem Zl5:Gu Try.prog 76 2=some (4,1,false):=by kernel_rfl
@[go_sem] theorem Zl6:Gu Try.prog 76 3=some (5,1,false):=by kernel_rfl
@[go_sem] theorem Zl7:Gu Try.prog 76 4=some (6,1,false):=by kernel_rfl
@[go_sem] theorem Znw:tbd Try.prog 76= .str [(0,3),(3,1),(4,1),(5,1),(6,1)] [.int .i64 0,.str [],.str [],.int .i64 0,.str [],.sl .nil [],.int .i64 0]:=by kernel_rfl
open Go.PL
attribute [go_sem] reduceIte Nat.reduceEqDiff reduceCtorEq Nat.reduceLT Nat.reduceAdd Nat.reduceSub Nat.reduceMul Nat.reduceLeDiff Int.reduceLT Int.reduceLE Int.reduceToNat Int.reduceEq Int.reduceAdd Int.reduceSub Int.reduceNeg Int.reduceBNe Int.reduceBEq
attribute [go_sem] true_or or_true List.getElem?_cons_zero List.getElem?_cons_succ List.getElem?_nil decide_true decide_false Bool.not_true Bool.not_false imp_self false_implies true_implies List.all_cons List.all_nil Bool.and_true Bool.false_eq_true Nat.zero_add Nat.add_zero Option.some.injEq true_and and_true List.getD_cons_zero List.getD_cons_succ List.length_cons List.length_nil ne_eq not_false_eq_true implies_true and_self List.take List.drop List.map_cons List.map_nil List.reverse_cons List.reverse_nil List.nil_append PV.bool.injEq List.length_map Int.toNat_natCast Nat.mul_one beq_self_eq_true bne_self_eq_false Bool.or_self Bool.false_or Bool.true_or Bool.or_true Bool.or_false
theorem mxo:Try.prog.follows .mixedOrders=true:=by kernel_rfl
theorem vDq {id:Nat} {l:List Oper} {Q:Exit→St→Prop} {s:St} (h:@vA Try.prog false ⟨@vQ ⟨Q⟩ .normal⟩ ⟨l⟩ ⟨l⟩ s) (hB:ZfN l.toArray=true:=by kernel_rfl):awp Try.prog (.region id l.toArray true) Q s:=Zmg mxo hB h
theorem ZO {f:FuncId} {fn:Func} {c:Code} {args:List PV} {r:PV} {n:Nat} {rs:List ResultVar} (hf:Try.prog.funcs[f]? = some fn) (hb:fn.body=some c) (hn:fn.ntmps=n) (hrs:fn.results=rs.toArray) (h:@vC Try.prog ⟨c⟩ ⟨Zb1 Try.prog rs r⟩ (St.init args n)) (hi:r.dids= []:=by rfl) (hname:fn.name≠ "runtime.NumGoroutine" :=by decide) (hl:args.length≤n:=by simp):PL.Pure Try.prog f args r:=pov hf hname hb hn hrs hl hi h
theorem YX {f:FuncId} {fn:Func} {c:Code} {args:List PV} {r:PV} {n:Nat} {rs:List ResultVar} (hf:Try.prog.funcs[f]? = some fn) (hb:fn.body=some c) (hn:fn.ntmps=n) (hrs:fn.results=rs.toArray) (hi:r.dids= []) (h:@vC Try.prog ⟨c⟩ ⟨Zb1 Try.prog rs r⟩ (St.init args n)) (hname:fn.name≠ "runtime.NumGoroutine" :=by decide) (hl:args.length≤n:=by simp):PL.Pure Try.prog f args r:=pov hf hname hb hn hrs hl hi h
theorem w64 {x:Int} (h: -9223372036854775808≤x∧x≤9223372036854775807):IntKind.i64.wrap x=x:=IntWalk.i64_in _ (by omega)
theorem Zh:maxLen=9223372036854775807:=by decide
theorem Wp {k n:Nat} (h:k<n) (hn:n≤maxLen):IntKind.i64.wrap ((k:Int)+1)=((k+1:Nat):Int):=by
 rw[Zh]at hn;rw[w64 (by omega)];rfl
abbrev Str:=List UInt8
structure Rf where
 sc:Int
 gr:Str
 nm:Str
 deriving DecidableEq,Inhabited
structure En where
 at':Rf
 n:Int
 l:List Str
 deriving DecidableEq,Inhabited
structure Rw where
 item:Str
 l:List En
 deriving DecidableEq,Inhabited
structure Dc where
 head:List En
 rows:List Rw
 deriving DecidableEq,Inhabited
def Xj (l:List Str):PV:= .sl .no (l.map .str)
def ref (r:Rf):PV:= .agg [.int .i64 r.sc,.str r.gr,.str r.nm]
def ent (e:En):PV:= .agg [.int .i64 e.at'.sc,.str e.at'.gr,.str e.at'.nm,.int .i64 e.n,.sl .no (e.l.map .str)]
def Zt (l:List En):PV:= .sl .no (l.map ent)
def row (r:Rw):PV:= .agg [.str r.item,.sl .no (r.l.map ent)]
def doc (d:Dc):PV:= .agg [.sl .no (d.head.map ent),.sl .no (d.rows.map row)]
theorem vc1 {x:Bool} {M:KH} {g:FuncId} {args args':List PV} {K:KR} {r:PV} (h1:PL.Pure Try.prog g args' r) (h2:K.k r M.m) (h0:PV.givableL M.m args:=by first|(simp only[go_sem,ref,ent,Zt,doc,Xj,row];done)|exact rfl) (he:PV.giveL M.m args=args':=by first|(simp only[go_sem,ref,ent,Zt,doc,Xj,row];done)|exact rfl):@T9 Try.prog x M (some (g,args)) K:=Vd h1 h0 he h2
theorem Zv (a b:Rf):(a.sc==b.sc&&(a.gr==b.gr&&a.nm==b.nm))=decide (a=b):=by
 cases a;cases b;rw[Bool.eq_iff_iff];simp
theorem ZG {l:List Str} {i:Nat} (h:i<l.length):(l.map PV.str).getD i .any= .str (l.getD i []):=by
 simp[List.getD_eq_getElem?_getD,h]
theorem ZE {l:List En} {i:Nat} (h:i<l.length):(l.map ent).getD i .any=ent (l.getD i default):=by
 simp[List.getD_eq_getElem?_getD,h]
theorem ZC {l:List Rw} {i:Nat} (h:i<l.length):(l.map row).getD i .any=row (l.getD i default):=by
 simp[List.getD_eq_getElem?_getD,h]
theorem Zg {α:Type} {l:List α} {i:Nat} {d:α} (h:i<l.length):l.getD i d∈l:=by
 rw[List.getD_eq_getElem?_getD,List.getElem?_eq_getElem h];exact List.getElem_mem h
theorem Vy {α:Type} {a b:List α} {d:α} (hl:a.length=b.length) (h:∀j,j<a.length→a.getD j d=b.getD j d):a=b:=by
 apply List.ext_getElem hl;intro i h1 h2;have:=h i h1;simpa[List.getD_eq_getElem?_getD,h1,h2]using this
theorem SE {α:Type} {a b:List α} {d:α} {j:Nat} (h:a.getD j d≠b.getD j d):a≠b:=fun e=>h (by rw[e])
theorem Zeb (a b:List Str) (ha:a.length≤maxLen) (hb:b.length≤maxLen):PL.Pure Try.prog 26 [Xj a,Xj b] (.bool (decide (a=b))):=by
 by_cases hl:a.length=b.length
 ·have hl':((a.length:Int) !=(b.length:Int))=false:=by rw[hl];exact bne_self_eq_false _
  refine ZO Try.func26 rfl Try.ntmps26 Try.results26 ?_;simp only[go_sem,Xj,hl'];refine ZK (ι:= { k:Nat // k≤a.length∧ ∀j,j<k→a.getD j []=b.getD j [] }) 26 (fun x=> [(0,Xj a),(1,Xj b),(5,.int .i64 (x.1:Int))]) (fun x=> []) (fun x=> []) (fun x=>a.length-x.1) ⟨0,by omega,fun j hj=>by omega⟩
   ⟨rfl,(Fc3 rfl rfl rfl),fnl,fnl⟩ (fun x=>⟨(Fc3 rfl rfl rfl),fnl⟩) (fun x=> ?_)
  obtain⟨k,hk,hall⟩:=x;simp only
  by_cases h:(k:Int)<(a.length:Int)
  ·have hka:k<a.length:=by omega
   have hkb:k<b.length:=by omega
   have w1:=Wp hka ha;have i1:(0:Int)≤(k:Int):=by omega
   have i2:(k:Int)<(b.length:Int):=by omega
   by_cases he:a.getD k []=b.getD k []
   ·have he':(a.getD k []==b.getD k [])=true:=beq_iff_eq.2 he;simp only[go_sem,Xj,h];refine vDq ?_;simp only[go_sem,ZG hka,ZG hkb,h,i1,i2,he',w1];exact⟨⟨k+1,by omega,fun j hj=>by
     rcases Nat.lt_or_ge j k with h1|h1
     ·exact hall j h1
     ·obtain rfl:j=k:=by omega
      exact he⟩,by show a.length-(k+1)<a.length-k;omega,⟨rfl,(Fc3 rfl rfl rfl),fnl,fnl⟩⟩
   ·have he':(a.getD k []==b.getD k [])=false:=beq_eq_false_iff_ne.2 he;have hab:¬a=b:=SE he;simp only[go_sem,Xj,h];refine vDq ?_;simp only[go_sem,ZG hka,ZG hkb,h,i1,i2,he',hab]
  ·have hab:decide (a=b)=true:=decide_eq_true (Vy (d:= []) hl fun j hj=>hall j (by omega));simp only[go_sem,Xj,h,hab]
 ·have hl':((a.length:Int) !=(b.length:Int))=true:=bne_iff_ne.2 (by omega);have hab:¬a=b:=fun e=>hl (by rw[e])
  refine ZO Try.func26 rfl Try.ntmps26 Try.results26 ?_;simp only[go_sem,Xj,hl',hab]
open Go.PL
def idx {α:Type} (p:α→Bool) (l:List α):Int:=match l.findIdx? p with|some i=>(i:Int)|none=> -1
theorem YN {α:Type} {p:α→Bool} {l:List α} {k:Nat} {d:α} (hk:k<l.length) (h:∀j,j<k→p (l.getD j d)=false) (hp:p (l.getD k d)=true):idx p l=k:=by
 have:l.findIdx? p=some k:=by
  rw[List.findIdx?_eq_some_iff_getElem];refine⟨hk,?_,fun j hj=> ?_⟩
  ·simpa[List.getD_eq_getElem?_getD,hk]using hp
  ·have:=h j hj;simp[List.getD_eq_getElem?_getD,show j<l.length by omega]at this;simp[this]
 simp[idx,this]
theorem VU {α:Type} {p:α→Bool} {l:List α} {d:α} (h:∀j,j<l.length→p (l.getD j d)=false):idx p l= -1:=by
 have:l.findIdx? p=none:=by
  rw[List.findIdx?_eq_none_iff];intro x hx;obtain⟨j,hj,rfl⟩:=List.getElem_of_mem hx;have:=h j hj;simpa[List.getD_eq_getElem?_getD,hj]using this
 simp[idx,this]
theorem Zn {p:Nat→Prop} {k:Nat} (h:∀j,j<k→p j) (hk:p k):∀j,j<k+1→p j:=fun j hj=>by
 rcases Nat.lt_or_ge j k with h1|h1
 ·exact h j h1
 ·obtain rfl:j=k:=by omega
  exact hk
theorem Ui (l:List En) (r:Rf) (hl:l.length≤maxLen):PL.Pure Try.prog 109 [Zt l,ref r] (.int .i64 (idx (fun e=>decide (e.at'=r)) l)):=by
 refine ZO Try.func109 rfl Try.ntmps109 Try.results109 ?_;simp only[go_sem,Zt,ref];refine ZK (ι:= { k:Nat // k≤l.length∧ ∀j,j<k→decide ((l.getD j default).at'=r)=false }) 20 (fun x=> [(0,Zt l),(3,.ptr 3 0),(5,.int .i64 (x.1:Int))]) (fun x=> [(3,[.int .i64 r.sc,.str r.gr,.str r.nm],false)]) (fun x=> []) (fun x=>l.length-x.1) ⟨0,by omega,fun j hj=>by omega⟩
  ⟨rfl,(Fc3 rfl rfl rfl),fcs ⟨rfl,rfl⟩ fnl,fnl⟩ (fun x=>⟨(Fc3 rfl rfl rfl),(fcs rfl fnl)⟩) (fun x=> ?_)
 obtain⟨k,hk,hall⟩:=x;simp only
 by_cases h:(k:Int)<(l.length:Int)
 ·have hka:k<l.length:=by omega
  have w1:=Wp hka hl;have i1:(0:Int)≤(k:Int):=by omega
  by_cases he:(l.getD k default).at'=r
  ·have he':=decide_eq_true he;have hx:=YN (p:=fun e:En=>decide (e.at'=r)) hka hall he';simp only[go_sem,Zt,h];refine vDq ?_;simp only[go_sem,ZE hka,ent,h,i1,Zv,he',hx]
  ·have he':=decide_eq_false he;simp only[go_sem,Zt,h];refine vDq ?_;simp only[go_sem,ZE hka,ent,h,i1,Zv,he',w1];exact⟨⟨k+1,by omega,Zn hall he'⟩,by show l.length-(k+1)<l.length-k;omega,⟨rfl,(Fc3 rfl rfl rfl),fcs ⟨rfl,rfl⟩ fnl,fnl⟩⟩
 ·have hx:=VU (p:=fun e:En=>decide (e.at'=r)) (d:=default) (l:=l) (fun j hj=>hall j (by omega));simp only[go_sem,Zt,h,hx]
theorem XH (d:Dc) (it:Str) (hl:d.rows.length≤maxLen):PL.Pure Try.prog 51 [doc d,.str it] (.int .i64 (idx (fun r=>r.item==it) d.rows)):=by
 refine ZO Try.func51 rfl Try.ntmps51 Try.results51 ?_;simp only[go_sem,doc];refine ZK (ι:= { k:Nat // k≤d.rows.length∧ ∀j,j<k→((d.rows.getD j default).item==it)=false }) 22 (fun x=> [(1,.str it),(2,.ptr 2 0),(5,.int .i64 (x.1:Int))]) (fun x=> [(2,[.sl .no (d.head.map ent),.sl .no (d.rows.map row)],false)]) (fun x=> []) (fun x=>d.rows.length-x.1) ⟨0,by omega,fun j hj=>by omega⟩
  ⟨rfl,(Fc3 rfl rfl rfl),fcs ⟨rfl,rfl⟩ fnl,fnl⟩ (fun x=>⟨(Fc3 rfl rfl rfl),(fcs rfl fnl)⟩) (fun x=> ?_)
 obtain⟨k,hk,hall⟩:=x;simp only
 by_cases h:(k:Int)<(d.rows.length:Int)
 ·have hka:k<d.rows.length:=by omega
  have w1:=Wp hka hl;have i1:(0:Int)≤(k:Int):=by omega
  cases he:((d.rows.getD k default).item==it)
  ·simp only[go_sem,h,ZC hka,row,i1,he,w1];exact⟨⟨k+1,by omega,Zn hall he⟩,by show d.rows.length-(k+1)<d.rows.length-k;omega,⟨rfl,(Fc3 rfl rfl rfl),fcs ⟨rfl,rfl⟩ fnl,fnl⟩⟩
  ·have hx:=YN (p:=fun r:Rw=>r.item==it) hka hall he;simp only[go_sem,h,ZC hka,row,i1,he,hx]
 ·have hx:=VU (p:=fun r:Rw=>r.item==it) (d:=default) (l:=d.rows) (fun j hj=>hall j (by omega));simp only[go_sem,h,hx]
theorem Zll {a b:En} (h1:a.at'=b.at') (h2:a.n=b.n) (h3:a.l=b.l):a=b:=by
 cases a;cases b;simp_all
theorem Y9 (a b:List En) (ha:a.length≤maxLen) (hb:b.length≤maxLen) (ha':∀e∈a,e.l.length≤maxLen) (hb':∀e∈b,e.l.length≤maxLen):PL.Pure Try.prog 34 [Zt a,Zt b] (.bool (decide (a=b))):=by
 by_cases hl:a.length=b.length
 ·have hl':((a.length:Int) !=(b.length:Int))=false:=by rw[hl];exact bne_self_eq_false _
  refine ZO Try.func34 rfl Try.ntmps34 Try.results34 ?_;simp only[go_sem,Zt,hl'];refine ZK (ι:= { k:Nat // k≤a.length∧ ∀j,j<k→a.getD j default=b.getD j default }) 55 (fun x=> [(0,Zt a),(1,Zt b),(5,.int .i64 (x.1:Int))]) (fun x=> []) (fun x=> []) (fun x=>a.length-x.1) ⟨0,by omega,fun j hj=>by omega⟩
   ⟨rfl,(Fc3 rfl rfl rfl),fnl,fnl⟩ (fun x=>⟨(Fc3 rfl rfl rfl),fnl⟩) (fun x=> ?_)
  obtain⟨k,hk,hall⟩:=x;simp only
  by_cases h:(k:Int)<(a.length:Int)
  ·have hka:k<a.length:=by omega
   have hkb:k<b.length:=by omega
   have w1:=Wp hka ha;have i1:(0:Int)≤(k:Int):=by omega
   have i2:(k:Int)<(b.length:Int):=by omega
   have hc:=Zeb _ _ (ha' _ (Zg (d:=default) hka)) (hb' _ (Zg (d:=default) hkb))
   by_cases e1:(a.getD k default).at'=(b.getD k default).at'
   ·have e1':=decide_eq_true e1
    by_cases e2:(a.getD k default).n=(b.getD k default).n
    ·have e2':((a.getD k default).n !=(b.getD k default).n)=false:=by rw[e2];exact bne_self_eq_false _
     by_cases e3:(a.getD k default).l=(b.getD k default).l
     ·rw[decide_eq_true e3]at hc;simp only[go_sem,Zt,h];refine vDq ?_;simp only[go_sem,ZE hka,ZE hkb,ent,h,i1,i2,Zv,e1',e2'];refine vc1 (hc) ?_;simp only[go_sem,w1];exact⟨⟨k+1,by omega,Zn hall (Zll e1 e2 e3)⟩,by show a.length-(k+1)<a.length-k;omega,⟨rfl,(Fc3 rfl rfl rfl),fnl,fnl⟩⟩
     ·rw[decide_eq_false e3]at hc;have hab:¬a=b:=fun e=>e3 (by rw[e])
      simp only[go_sem,Zt,h];refine vDq ?_;simp only[go_sem,ZE hka,ZE hkb,ent,h,i1,i2,Zv,e1',e2'];refine vc1 (hc) ?_;simp only[go_sem,hab]
    ·have e2':((a.getD k default).n !=(b.getD k default).n)=true:=bne_iff_ne.2 e2;have hab:¬a=b:=fun e=>e2 (by rw[e])
     simp only[go_sem,Zt,h];refine vDq ?_;simp only[go_sem,ZE hka,ZE hkb,ent,h,i1,i2,Zv,e1',e2',hab]
   ·have e1':=decide_eq_false e1;have hab:¬a=b:=fun e=>e1 (by rw[e])
    simp only[go_sem,Zt,h];refine vDq ?_;simp only[go_sem,ZE hka,ZE hkb,ent,h,i1,i2,Zv,e1',hab]
  ·have hab:decide (a=b)=true:=decide_eq_true (Vy (d:=default) hl fun j hj=>hall j (by omega));simp only[go_sem,Zt,h,hab]
 ·have hl':((a.length:Int) !=(b.length:Int))=true:=bne_iff_ne.2 (by omega);have hab:¬a=b:=fun e=>hl (by rw[e])
  refine ZO Try.func34 rfl Try.ntmps34 Try.results34 ?_;simp only[go_sem,Zt,hl',hab]
open Go.PL
theorem Wf {α:Type} {p:α→Bool} {l:List α} {k:Nat} {d:α} (hk:k<l.length) (h:p (l.getD k d)=true):l.any p=true:=
 List.any_eq_true.2 ⟨_,Zg hk,h⟩
theorem WF {α:Type} {p:α→Bool} {l:List α} {d:α} (h:∀j,j<l.length→p (l.getD j d)=false):l.any p=false:=by
 rw[List.any_eq_false];intro x hx;obtain⟨j,hj,rfl⟩:=List.getElem_of_mem hx;have:=h j hj;simpa[List.getD_eq_getElem?_getD,hj]using this
def Xk (n:Nat) (s:Str):Bool:=decide ((n:Int)<(s.length:Int))
def ZfQ (e:En):Bool:=Xk 200 e.at'.gr||(Xk 200 e.at'.nm||(decide ((410:Int)<(e.l.length:Int))||e.l.any (Xk 200)))
def X5 (l:List En):Bool:=decide ((40:Int)<(l.length:Int))||l.any ZfQ
def ZgF (r:Rw):Bool:=Xk 200 r.item||X5 r.l
def YE (d:Dc):Bool:=decide ((410:Int)<(d.rows.length:Int))||(X5 d.head||d.rows.any ZgF)
theorem VC (l:List En) (hl:l.length≤maxLen) (hl':∀e∈l,e.l.length≤maxLen):PL.Pure Try.prog 46 [Zt l] (.bool (X5 l)):=by
 by_cases h40:(40:Int)<(l.length:Int)
 ·refine ZO Try.func46 rfl Try.ntmps46 Try.results46 ?_;simp only[go_sem,Zt,h40,X5]
 ·refine ZO Try.func46 rfl Try.ntmps46 Try.results46 ?_;simp only[go_sem,Zt,h40];refine ZK (ι:= { k:Nat // k≤l.length∧ ∀j,j<k→ZfQ (l.getD j default)=false }) 61 (fun x=> [(0,Zt l),(3,.int .i64 (x.1:Int))]) (fun x=> []) (fun x=> []) (fun x=>l.length-x.1) ⟨0,by omega,fun j hj=>by omega⟩
   ⟨rfl,(Fc2 rfl rfl),fnl,fnl⟩ (fun x=>⟨(Fc2 rfl rfl),fnl⟩) (fun x=> ?_)
  obtain⟨k,hk,hall⟩:=x;simp only
  by_cases h:(k:Int)<(l.length:Int)
  ·have hka:k<l.length:=by omega
   have w1:=Wp hka hl;have i1:(0:Int)≤(k:Int):=by omega
   have hle:=hl' _ (Zg (d:=default) hka);have done:ZfQ (l.getD k default)=true→X5 l=true:=fun h=>by simp only[X5,Wf hka h,Bool.or_true]
   by_cases g1:(200:Int)<((l.getD k default).at'.gr.length:Int)
   ·have hx:=done (by simp only[ZfQ,Xk,decide_eq_true_eq,Bool.or_eq_true];exact .inl (by omega));simp only[go_sem,Zt,h,ZE hka,ent,i1,g1,hx]
   ·by_cases g2:(200:Int)<((l.getD k default).at'.nm.length:Int)
    ·have hx:=done (by simp only[ZfQ,Xk,decide_eq_true_eq,Bool.or_eq_true];exact .inr (.inl (by omega)));simp only[go_sem,Zt,h,ZE hka,ent,i1,g1,g2,hx]
    ·by_cases g3:(410:Int)<((l.getD k default).l.length:Int)
     ·have hx:=done (by simp only[ZfQ,Xk,decide_eq_true_eq,Bool.or_eq_true];exact .inr (.inr (.inl g3)));simp only[go_sem,Zt,h,ZE hka,ent,i1,g1,g2,g3,hx]
     ·simp only[go_sem,Zt,h,ZE hka,ent,i1,g1,g2,g3];refine ZK (ι:= { n:Nat // n≤(l.getD k default).l.length∧ ∀j,j<n→Xk 200 ((l.getD k default).l.getD j [])=false }) 61 (fun x=> [(0,Zt l),(3,.int .i64 (k:Int)),(4,.int .i64 (x.1:Int))]) (fun x=> []) (fun x=> []) (fun x=>(l.getD k default).l.length-x.1) ⟨0,by omega,fun j hj=>by omega⟩
       ⟨rfl,(Fc3 rfl rfl rfl),fnl,fnl⟩ (fun x=>⟨(Fc3 rfl rfl rfl),fnl⟩) (fun x=> ?_)
      obtain⟨n,hn,hall2⟩:=x;simp only
      by_cases h2:(n:Int)<((l.getD k default).l.length:Int)
      ·have hna:n<(l.getD k default).l.length:=by omega
       have w2:=Wp hna hle;have i3:(0:Int)≤(n:Int):=by omega
       by_cases g4:(200:Int)<(((l.getD k default).l.getD n []).length:Int)
       ·have hx:=done (by simp only[ZfQ,Bool.or_eq_true];exact .inr (.inr (.inr (Wf hna (d:= []) (by simp only[Xk,decide_eq_true_eq];omega)))));simp only[go_sem,Zt,h,ZE hka,ent,i1,h2,ZG hna,i3,g4,hx]
       ·simp only[go_sem,Zt,h,ZE hka,ent,i1,h2,ZG hna,i3,g4,w2];exact⟨⟨n+1,by omega,Zn hall2 (by simp only[Xk,decide_eq_false_iff_not];omega)⟩,by show(l.getD k default).l.length-(n+1)<(l.getD k default).l.length-n;omega,⟨rfl,(Fc3 rfl rfl rfl),fnl,fnl⟩⟩
      ·have hz:ZfQ (l.getD k default)=false:=by
        have:=WF (p:=Xk 200) (d:= []) (l:=(l.getD k default).l) (fun j hj=>hall2 j (by omega));simp only[ZfQ,Xk,this,Bool.or_false,Bool.or_eq_false_iff,decide_eq_false_iff_not];exact⟨by omega,by omega,g3⟩
       simp only[go_sem,Zt,h,ZE hka,ent,i1,h2,w1];exact⟨⟨k+1,by omega,Zn hall hz⟩,by show l.length-(k+1)<l.length-k;omega,⟨rfl,(Fc2 rfl rfl),fnl,fnl⟩⟩
  ·have hx:=WF (p:=ZfQ) (d:=default) (l:=l) (fun j hj=>hall j (by omega));have hz:X5 l=false:=by simp only[X5,h40,hx,decide_false,Bool.or_false]
   simp only[go_sem,Zt,h,hz]
def Vk (d:Dc):Prop:=d.head.length≤maxLen∧d.rows.length≤maxLen∧(∀e∈d.head,e.l.length≤maxLen)∧ ∀r∈d.rows,r.l.length≤maxLen∧ ∀e∈r.l,e.l.length≤maxLen
theorem Yh (d:Dc) (hf:Vk d):PL.Pure Try.prog 17 [doc d] (.bool (YE d)):=by
 obtain⟨f1,f2,f3,f4⟩:=hf;have hH:=VC d.head f1 f3
 by_cases h1:(410:Int)<(d.rows.length:Int)
 ·refine ZO Try.func17 rfl Try.ntmps17 Try.results17 ?_;simp only[go_sem,doc,h1,YE]
 ·cases h2:X5 d.head
  ·rw[h2]at hH;refine ZO Try.func17 rfl Try.ntmps17 Try.results17 ?_;simp only[go_sem,doc,h1];refine vc1 (hH) ?_;simp only[go_sem];refine ZK (ι:= { k:Nat // k≤d.rows.length∧ ∀j,j<k→ZgF (d.rows.getD j default)=false }) 37 (fun x=> [(1,.ptr 1 0),(3,.int .i64 (x.1:Int))]) (fun x=> [(1,[.sl .no (d.head.map ent),.sl .no (d.rows.map row)],false)]) (fun x=> []) (fun x=>d.rows.length-x.1) ⟨0,by omega,fun j hj=>by omega⟩
    ⟨rfl,(Fc2 rfl rfl),fcs ⟨rfl,rfl⟩ fnl,fnl⟩ (fun x=>⟨(Fc2 rfl rfl),(fcs rfl fnl)⟩) (fun x=> ?_)
   obtain⟨k,hk,hall⟩:=x;simp only
   by_cases h:(k:Int)<(d.rows.length:Int)
   ·have hka:k<d.rows.length:=by omega
    have w1:=Wp hka f2;have i1:(0:Int)≤(k:Int):=by omega
    obtain⟨b1,b2⟩:=f4 _ (Zg (d:=default) hka);have hR:=VC _ b1 b2
    by_cases g1:(200:Int)<((d.rows.getD k default).item.length:Int)
    ·have hx:YE d=true:=by simp only[YE,Wf (p:=ZgF) (d:=default) hka (by simp only[ZgF,Xk,Bool.or_eq_true,decide_eq_true_eq];exact .inl (by omega)),Bool.or_true]
     simp only[go_sem,h,ZC hka,row,i1,g1,hx]
    ·cases g2:X5 (d.rows.getD k default).l
     ·rw[g2]at hR;simp only[go_sem,h,ZC hka,row,i1,g1];refine vc1 (hR) ?_;simp only[go_sem,w1];exact⟨⟨k+1,by omega,Zn hall (by simp only[ZgF,Xk,g2,Bool.or_false,decide_eq_false_iff_not];omega)⟩,by show d.rows.length-(k+1)<d.rows.length-k;omega,⟨rfl,(Fc2 rfl rfl),fcs ⟨rfl,rfl⟩ fnl,fnl⟩⟩
     ·rw[g2]at hR;have hx:YE d=true:=by simp only[YE,Wf (p:=ZgF) (d:=default) hka (by simp only[ZgF,g2,Bool.or_true]),Bool.or_true]
      simp only[go_sem,h,ZC hka,row,i1,g1];refine vc1 (hR) ?_;simp only[go_sem,hx]
   ·have hx:=WF (p:=ZgF) (d:=default) (l:=d.rows) (fun j hj=>hall j (by omega));have hz:YE d=false:=by simp only[YE,h1,h2,hx,decide_false,Bool.or_false]
    simp only[go_sem,h,hz]
  ·rw[h2]at hH;refine ZO Try.func17 rfl Try.ntmps17 Try.results17 ?_;simp only[go_sem,doc,h1];refine vc1 (hH) ?_;simp only[go_sem,YE,h2]
open Go.PL
@[go_sem] theorem Zlf {α:Type}:(#[]:Array α).isEmpty=true:=rfl
theorem ZN {α:Type} (p:α→Bool) (l:List α):idx p l= -1∨ ∃k:Nat,k<l.length∧idx p l=k:=by
 unfold idx;cases h:l.findIdx? p with
 |none=>exact .inl rfl
 |some k=>
  rw[List.findIdx?_eq_some_iff_getElem]at h;exact .inr ⟨k,h.1,rfl⟩
theorem Yv {n b:Nat} (hn:n≤100000000000) (hb:b≤1000):Zed n b:=by
 refine⟨?_,by unfold maxLen;omega⟩
 calc n*b≤100000000000*1000:=Nat.mul_le_mul hn hb
  _≤140737488355328:=by decide
@[go_sem] theorem ZlN (n:Nat):Sized n []=True:=by simp[Sized]
@[go_sem] theorem Zk1 (n:Nat) (e:PV) (l:List PV):Sized n (e::l)=(e.cells.length=n∧Sized n l):=by simp[Sized]
@[go_sem] theorem Zlg:Wd []=True:=by simp[Wd]
@[go_sem] theorem ZkU (e:PV) (l:List PV):Wd (e::l)=(e.cells.all PV.atom=true∧Wd l):=by simp[Wd]
theorem Ye (l:List Str):Sized 1 (l.map .str):=fun e he=>by
 obtain⟨x,_,rfl⟩:=List.mem_map.1 he;rfl
theorem YK (l:List Str):Wd (l.map .str):=fun e he=>by
 obtain⟨x,_,rfl⟩:=List.mem_map.1 he;rfl
theorem ZeQ (r:Rw) (it:Str):PL.Pure Try.prog 104 [row r,.rptr [.str it]] (.bool (r.item==it)):=by
 refine ZO Try.func104 rfl Try.ntmps104 Try.results104 ?_;simp only[go_sem,row]
theorem FC (e:En) (r:Rf):PL.Pure Try.prog 106 [ent e,.rptr [.int .i64 r.sc,.str r.gr,.str r.nm]] (.bool (decide (e.at'=r))):=by
 refine ZO Try.func106 rfl Try.ntmps106 Try.results106 ?_;simp only[go_sem,ent,Zv]
theorem TB (l:List Rw) (g:FuncId) (cs:List PV) (p:Rw→Bool) (hl:l.length≤maxLen) (hp:∀r∈l,PL.Pure Try.prog g [row r,.rptr cs] (.bool (p r))):
  PL.Pure Try.prog 66 [.sl .no (l.map row),.fn g [.rptr cs]] (.int .i64 (idx p l)):=by
 refine ZO Try.func66 rfl Try.ntmps66 Try.results66 ?_;simp only[go_sem];refine ZK (ι:= { k:Nat // k≤l.length∧ ∀j,j<k→p (l.getD j default)=false }) 19 (fun x=> [(0,.sl .no (l.map row)),(1,.fn g [.rptr cs]),(7,.int .i64 (l.length:Int)),(8,.int .i64 (x.1:Int))]) (fun x=> []) (fun x=> []) (fun x=>l.length-x.1) ⟨0,by omega,fun j hj=>by omega⟩
  ⟨rfl,(Fc4 rfl rfl rfl rfl),fnl,fnl⟩ (fun x=>⟨(Fc4 rfl rfl rfl rfl),fnl⟩) (fun x=> ?_)
 obtain⟨k,hk,hall⟩:=x;simp only
 by_cases h:(k:Int)<(l.length:Int)
 ·have hka:k<l.length:=by omega
  have w1:=Wp hka hl;have i1:(0:Int)≤(k:Int):=by omega
  have hc:=hp _ (Zg (d:=default) hka);cases he:p (l.getD k default)
  ·rw[he]at hc;simp only[go_sem,h,ZC hka,row,i1];refine vc1 (hc) ?_;simp only[go_sem,w1];exact⟨⟨k+1,by omega,Zn hall he⟩,by show l.length-(k+1)<l.length-k;omega,⟨rfl,(Fc4 rfl rfl rfl rfl),fnl,fnl⟩⟩
  ·rw[he]at hc;have hx:=YN (p:=p) hka hall he;simp only[go_sem,h,ZC hka,row,i1];refine vc1 (hc) ?_;simp only[go_sem,hx]
 ·have hx:=VU (p:=p) (d:=default) (l:=l) (fun j hj=>hall j (by omega));simp only[go_sem,h,hx]
theorem VO (l:List En) (g:FuncId) (cs:List PV) (p:En→Bool) (hl:l.length≤maxLen) (hp:∀r∈l,PL.Pure Try.prog g [ent r,.rptr cs] (.bool (p r))):
  PL.Pure Try.prog 105 [.sl .no (l.map ent),.fn g [.rptr cs]] (.int .i64 (idx p l)):=by
 refine ZO Try.func105 rfl Try.ntmps105 Try.results105 ?_;simp only[go_sem];refine ZK (ι:= { k:Nat // k≤l.length∧ ∀j,j<k→p (l.getD j default)=false }) 19 (fun x=> [(0,.sl .no (l.map ent)),(1,.fn g [.rptr cs]),(7,.int .i64 (l.length:Int)),(8,.int .i64 (x.1:Int))]) (fun x=> []) (fun x=> []) (fun x=>l.length-x.1) ⟨0,by omega,fun j hj=>by omega⟩
  ⟨rfl,(Fc4 rfl rfl rfl rfl),fnl,fnl⟩ (fun x=>⟨(Fc4 rfl rfl rfl rfl),fnl⟩) (fun x=> ?_)
 obtain⟨k,hk,hall⟩:=x;simp only
 by_cases h:(k:Int)<(l.length:Int)
 ·have hka:k<l.length:=by omega
  have w1:=Wp hka hl;have i1:(0:Int)≤(k:Int):=by omega
  have hc:=hp _ (Zg (d:=default) hka);cases he:p (l.getD k default)
  ·rw[he]at hc;simp only[go_sem,h,ZE hka,ent,i1];refine vc1 (hc) ?_;simp only[go_sem,w1];exact⟨⟨k+1,by omega,Zn hall he⟩,by show l.length-(k+1)<l.length-k;omega,⟨rfl,(Fc4 rfl rfl rfl rfl),fnl,fnl⟩⟩
  ·rw[he]at hc;have hx:=YN (p:=p) hka hall he;simp only[go_sem,h,ZE hka,ent,i1];refine vc1 (hc) ?_;simp only[go_sem,hx]
 ·have hx:=VU (p:=p) (d:=default) (l:=l) (fun j hj=>hall j (by omega));simp only[go_sem,h,hx]
theorem Vw (l:List Str):PV.didsL (l.map .str)= []:=by
 induction l with
 |nil=>rfl
 |cons t l ih=>simp only[List.map_cons,PV.didsL,ih,PV.dids,List.append_nil]
theorem Xn (e:En):(ent e).dids= []:=by simp only[ent,PV.dids,PV.didsL,Vw,List.append_nil]
theorem Wk (e:En) (he:e.l.length≤1000000):PL.Pure Try.prog 74 [ent e] (ent e):=by
 have hr:=Yv (show e.l.length≤100000000000 by omega) (show 16≤1000 by omega);refine YX Try.func74 rfl Try.ntmps74 Try.results74 (Xn _) ?_;simp only[go_sem,ent,Ye,YK,hr]
open Go.PL
def atE (r:Rf):En→Bool:=fun e=>decide (e.at'=r)
def atR (it:Str):Rw→Bool:=fun r=>r.item==it
def Xh (d:Dc) (it:Str) (r:Rf):Int×Int×Int:=
 if it= []then(if idx (atE r) d.head<0 then(0,0,6)else(-1,idx (atE r) d.head,0))
 else if idx (atR it) d.rows<0 then(0,0,12)
 else if idx (atE r) (d.rows.getD (idx (atR it) d.rows).toNat default).l<0 then(0,0,6)
 else(idx (atR it) d.rows,idx (atE r) (d.rows.getD (idx (atR it) d.rows).toNat default).l,0)
def ZdE (x:Int×Int×Int):PV:= .tup [.int .i64 x.1,.int .i64 x.2.1,.int .i64 x.2.2]
attribute [go_sem] Bool.not_eq_true'
theorem GJ {s:Str} (h:s= []):(s== [])=true:=by rw[h];rfl
theorem TI {s:Str} (h:¬s= []):(s== [])=false:=beq_eq_false_iff_ne.2 h
theorem ZbB (d:Dc) (it:Str) (r:Rf) (hf:Vk d):PL.Pure Try.prog 71 [doc d,.str it,ref r] (ZdE (Xh d it r)):=by
 obtain⟨f1,f2,f3,f4⟩:=hf
 by_cases hi:it= []
 ·have hi':=GJ hi;have hc:=VO d.head 106 [.int .i64 r.sc,.str r.gr,.str r.nm] (atE r) f1 (fun e _=>FC e r)
  by_cases h1:idx (atE r) d.head<0
  all_goals
   refine ZO Try.func71 rfl Try.ntmps71 Try.results71 ?_;simp only[go_sem,doc,ref,hi'];refine vc1 (hc) ?_;simp only[go_sem,h1,ZdE,Xh,hi]
 ·have hi':=TI hi;have hc:=TB d.rows 104 [.str it] (atR it) f2 (fun e _=>ZeQ e it)
  by_cases h1:idx (atR it) d.rows<0
  ·refine ZO Try.func71 rfl Try.ntmps71 Try.results71 ?_;simp only[go_sem,doc,ref,hi'];refine vc1 (hc) ?_;simp only[go_sem,h1,ZdE,Xh,hi]
  ·rcases ZN (atR it) d.rows with h2|⟨k,hk,h2⟩
   ·omega
   ·have hc2:=VO (d.rows.getD k default).l 106 [.int .i64 r.sc,.str r.gr,.str r.nm] (atE r) (f4 _ (Zg hk)).1 (fun e _=>FC e r);have i1:(0:Int)≤(k:Int):=by omega
    have i2:(k:Int)<(d.rows.length:Int):=by omega
    have i3:¬(k:Int)<0:=by omega
    rw[h2]at hc
    by_cases h3:idx (atE r) (d.rows.getD k default).l<0
    all_goals
     refine ZO Try.func71 rfl Try.ntmps71 Try.results71 ?_;simp only[go_sem,doc,ref,hi'];refine vc1 (hc) ?_;simp only[go_sem,i1,i2,i3,ZC hk,row];refine vc1 (hc2) ?_;simp only[go_sem,h3,ZdE,Xh,hi,h2,i3]
def ZZ (d:Dc) (it:Str) (r:Rf):En×Int:=
 if it= []then(if idx (atE r) d.head<0 then(default,6)else(d.head.getD (idx (atE r) d.head).toNat default,0))
 else if idx (atR it) d.rows<0 then(default,12)
 else if idx (atE r) (d.rows.getD (idx (atR it) d.rows).toNat default).l<0 then(default,6)
 else((d.rows.getD (idx (atR it) d.rows).toNat default).l.getD (idx (atE r) (d.rows.getD (idx (atR it) d.rows).toNat default).l).toNat default,0)
def Za3 (x:En×Int):PV:= .tup [ent x.1,.int .i64 x.2]
theorem Y2 (x:En×Int):(Za3 x).dids= []:=by simp only[Za3,PV.dids,PV.didsL,Xn,List.append_nil]
theorem XL:ent default= .agg [.int .i64 0,.str [],.str [],.int .i64 0,.sl .no []]:=rfl
def DK (d:Dc):Prop:=(∀e∈d.head,e.l.length≤1000000)∧ ∀r∈d.rows,∀e∈r.l,e.l.length≤1000000
theorem Zk8 (d:Dc) (it:Str) (r:Rf) (hf:Vk d) (hs:DK d):PL.Pure Try.prog 33 [doc d,.str it,ref r] (Za3 (ZZ d it r)):=by
 have hc:=ZbB d it r hf;obtain⟨f1,f2,f3,f4⟩:=hf;unfold Xh at hc;unfold ZZ
 by_cases hi:it= []
 ·rw[if_pos hi]at hc ⊢;rcases ZN (atE r) d.head with h2|⟨k,hk,h2⟩
  ·rw[h2]at hc ⊢;refine YX Try.func33 rfl Try.ntmps33 Try.results33 (Y2 _) ?_;simp only[go_sem,doc,ref];refine vc1 (hc) ?_;simp only[go_sem,ZdE,Za3,XL]
  ·have i1:(0:Int)≤(k:Int):=by omega
   have i2:(k:Int)<(d.head.length:Int):=by omega
   have i3:¬(k:Int)<0:=by omega
   have ho:=Wk (d.head.getD k default) (hs.1 _ (Zg hk));rw[h2,if_neg i3]at hc;rw[h2,if_neg i3];refine YX Try.func33 rfl Try.ntmps33 Try.results33 (Y2 _) ?_;simp only[go_sem,doc,ref];refine vc1 (hc) ?_;simp only[go_sem,ZdE,i1,i2,ZE hk,ent];refine vc1 (ho) ?_;simp only[go_sem,Za3,ent]
 ·rw[if_neg hi]at hc ⊢;rcases ZN (atR it) d.rows with h2|⟨k,hk,h2⟩
  ·rw[h2]at hc ⊢;refine YX Try.func33 rfl Try.ntmps33 Try.results33 (Y2 _) ?_;simp only[go_sem,doc,ref];refine vc1 (hc) ?_;simp only[go_sem,ZdE,Za3,XL]
  ·have i1:(0:Int)≤(k:Int):=by omega
   have i2:(k:Int)<(d.rows.length:Int):=by omega
   have i3:¬(k:Int)<0:=by omega
   rw[h2,if_neg i3]at hc;rw[h2,if_neg i3];simp only[Int.toNat_natCast]at hc ⊢;rcases ZN (atE r) (d.rows.getD k default).l with h4|⟨n,hn,h4⟩
   ·rw[h4]at hc ⊢;refine YX Try.func33 rfl Try.ntmps33 Try.results33 (Y2 _) ?_;simp only[go_sem,doc,ref];refine vc1 (hc) ?_;simp only[go_sem,ZdE,Za3,XL]
   ·have j1:(0:Int)≤(n:Int):=by omega
    have j2:(n:Int)<((d.rows.getD k default).l.length:Int):=by omega
    have j3:¬(n:Int)<0:=by omega
    have ho:=Wk ((d.rows.getD k default).l.getD n default) (hs.2 _ (Zg hk) _ (Zg hn));rw[h4,if_neg j3]at hc;rw[h4,if_neg j3];refine YX Try.func33 rfl Try.ntmps33 Try.results33 (Y2 _) ?_;simp only[go_sem,doc,ref];refine vc1 (hc) ?_;simp only[go_sem,ZdE,i1,i2,i3,ZC hk,row,j1,j2,ZE hn,ent];refine vc1 (ho) ?_;simp only[go_sem,Za3,ent]
theorem D2 (d:Dc) (it:Str) (r:Rf) (hf:Vk d):PL.Pure Try.prog 75 [doc d,.str it,ref r] (Za3 (ZZ d it r)):=by
 obtain⟨f1,f2,f3,f4⟩:=hf;unfold ZZ
 by_cases hi:it= []
 ·rw[if_pos hi];have hi':=GJ hi;have hc:=Ui d.head r f1;rcases ZN (atE r) d.head with h2|⟨k,hk,h2⟩
  ·rw[h2];have hc:PL.Pure Try.prog 109 [Zt d.head,ref r] (.int .i64 (-1)):=by rw[←h2];exact hc
   refine YX Try.func75 rfl Try.ntmps75 Try.results75 (Y2 _) ?_;simp only[go_sem,doc,ref,hi'];refine vc1 (hc) ?_;simp only[go_sem,Za3,XL]
  ·have i1:(0:Int)≤(k:Int):=by omega
   have i2:(k:Int)<(d.head.length:Int):=by omega
   have i3:¬(k:Int)<0:=by omega
   have hc:PL.Pure Try.prog 109 [Zt d.head,ref r] (.int .i64 k):=by rw[←h2];exact hc
   rw[h2,if_neg i3];refine YX Try.func75 rfl Try.ntmps75 Try.results75 (Y2 _) ?_;simp only[go_sem,doc,ref,hi'];refine vc1 (hc) ?_;simp only[go_sem,i1,i2,i3,ZE hk,ent,Za3]
 ·rw[if_neg hi];have hi':=TI hi;have hc:=XH d it f2;rcases ZN (atR it) d.rows with h2|⟨k,hk,h2⟩
  ·rw[h2];have hc:PL.Pure Try.prog 51 [doc d,.str it] (.int .i64 (-1)):=by rw[←h2];exact hc
   refine YX Try.func75 rfl Try.ntmps75 Try.results75 (Y2 _) ?_;simp only[go_sem,doc,ref,hi'];refine vc1 (hc) ?_;simp only[go_sem,Za3,XL]
  ·have i1:(0:Int)≤(k:Int):=by omega
   have i2:(k:Int)<(d.rows.length:Int):=by omega
   have i3:¬(k:Int)<0:=by omega
   have hc:PL.Pure Try.prog 51 [doc d,.str it] (.int .i64 k):=by rw[←h2];exact hc
   rw[h2,if_neg i3];simp only[Int.toNat_natCast];have hc2:=Ui (d.rows.getD k default).l r (f4 _ (Zg hk)).1;rcases ZN (atE r) (d.rows.getD k default).l with h4|⟨n,hn,h4⟩
   ·rw[h4];have hc2:PL.Pure Try.prog 109 [Zt (d.rows.getD k default).l,ref r] (.int .i64 (-1)):=by rw[←h4];exact hc2
    refine YX Try.func75 rfl Try.ntmps75 Try.results75 (Y2 _) ?_;simp only[go_sem,doc,ref,hi'];refine vc1 (hc) ?_;simp only[go_sem,i1,i2,i3,ZC hk,row];refine vc1 (hc2) ?_;simp only[go_sem,Za3,XL]
   ·have j1:(0:Int)≤(n:Int):=by omega
    have j2:(n:Int)<((d.rows.getD k default).l.length:Int):=by omega
    have j3:¬(n:Int)<0:=by omega
    have hc2:PL.Pure Try.prog 109 [Zt (d.rows.getD k default).l,ref r] (.int .i64 n):=by rw[←h4];exact hc2
    rw[h4,if_neg j3];refine YX Try.func75 rfl Try.ntmps75 Try.results75 (Y2 _) ?_;simp only[go_sem,doc,ref,hi'];refine vc1 (hc) ?_;simp only[go_sem,i1,i2,i3,ZC hk,row];refine vc1 (hc2) ?_;simp only[go_sem,j1,j2,j3,ZE hn,ent,Za3]
open Go.PL
structure Fd where
 at':Rf
 kind:Int
 df:Str
 cases':List Str
 worth:Int
 deriving DecidableEq,Inhabited
def fld (f:Fd):PV:= .agg [.int .i64 f.at'.sc,.str f.at'.gr,.str f.at'.nm,.int .i64 f.kind,.str f.df,.sl .no (f.cases'.map .str),.int .i64 f.worth]
def Zj (l:List Fd):PV:= .sl .no (l.map fld)
theorem vc2 {x:Bool} {M:KH} {g:FuncId} {args args':List PV} {K:KR} {r:PV} (h1:PL.Pure Try.prog g args' r) (h2:K.k r M.m) (h0:PV.givableL M.m args:=by first|(simp only[go_sem,ref,ent,Zt,doc,Xj,row,Zj,fld];done)|exact rfl) (he:PV.giveL M.m args=args':=by first|(simp only[go_sem,ref,ent,Zt,doc,Xj,row,Zj,fld];done)|exact rfl):@T9 Try.prog x M (some (g,args)) K:=Vd h1 h0 he h2
theorem Zy {l:List Fd} {i:Nat} (h:i<l.length):(l.map fld).getD i .any=fld (l.getD i default):=by
 simp[List.getD_eq_getElem?_getD,h]
def ZF (f:Fd):En:=⟨f.at',0,if f.kind=1∨f.kind=4 then []else [f.df]⟩
attribute [go_sem] Dl
theorem Zee (f:Fd):PL.Pure Try.prog 102 [fld f] (ent (ZF f)):=by
 by_cases h1:f.kind=1
 ·have h1':(f.kind !=1)=false:=by rw[h1];rfl
  refine YX Try.func102 rfl Try.ntmps102 Try.results102 (Xn _) ?_;simp only[go_sem,fld,ent,ZF,h1'];simp[h1]
 ·have h1':(f.kind !=1)=true:=bne_iff_ne.2 h1
  by_cases h2:f.kind=4
  ·have h2':(f.kind !=4)=false:=by rw[h2];rfl
   refine YX Try.func102 rfl Try.ntmps102 Try.results102 (Xn _) ?_;simp only[go_sem,fld,ent,ZF,h1',h2'];simp[h2]
  ·have h2':(f.kind !=4)=true:=bne_iff_ne.2 h2;refine YX Try.func102 rfl Try.ntmps102 Try.results102 (Xn _) ?_;simp only[go_sem,fld,ent,ZF,h1',h2',h1,h2,or_self]
def Zp (l:List Fd) (sc:Int):List En:=(l.filter fun f=>f.at'.sc==sc).map ZF
theorem UA (l:List En):Sized 5 (l.map ent):=fun e he=>by
 obtain⟨x,_,rfl⟩:=List.mem_map.1 he;rfl
theorem Zfs (l:List En):Wd (l.map ent):=fun e he=>by
 obtain⟨x,_,rfl⟩:=List.mem_map.1 he;rfl
theorem FD (e:En):Sized 5 [PV.agg [.int .i64 e.at'.sc,.str e.at'.gr,.str e.at'.nm,.int .i64 e.n,.sl .no (e.l.map .str)]]:=UA [e]
theorem D7 (e:En):Wd [PV.agg [.int .i64 e.at'.sc,.str e.at'.gr,.str e.at'.nm,.int .i64 e.n,.sl .no (e.l.map .str)]]:=Zfs [e]
theorem Zj1 (l:List En) (e:En):l.map ent++ [PV.agg [.int .i64 e.at'.sc,.str e.at'.gr,.str e.at'.nm,.int .i64 e.n,.sl .no (e.l.map .str)]]=(l++ [e]).map ent:=by simp[ent]
theorem ZW {α:Type} {l:List α} {k:Nat} (h:k<l.length) {d:α}:l.take (k+1)=l.take k++ [l.getD k d]:=by
 rw[List.take_succ_eq_append_getElem h,List.getD_eq_getElem?_getD,List.getElem?_eq_getElem h];rfl
theorem Zen (l:List Fd) (sc:Int):(Zp l sc).length≤l.length:=by
 simp only[Zp,List.length_map];exact List.length_filter_le _ _
theorem Ug (l:List En):PV.didsL (l.map ent)= []:=by
 induction l with
 |nil=>rfl
 |cons e l ih=>rw[List.map_cons,PV.didsL,ih,Xn];rfl
theorem XY (l:List En):(Zt l).dids= []:=by simp only[Zt,PV.dids,Ug]
theorem GK (l:List Fd) (sc:Int) (hl:l.length≤1000000):PL.Pure Try.prog 69 [Zj l,.int .i64 sc] (Zt (Zp l sc)):=by
 have hm:l.length≤maxLen:=by rw[Zh];omega
 refine YX Try.func69 rfl Try.ntmps69 Try.results69 (XY _) ?_;simp only[go_sem,Zj];refine Vr 5 23 5 27 rfl rfl ?_;refine ZK (ι:= { k:Nat // k≤l.length }) 26 (fun x=> [(1,.int .i64 sc),(5,.sl (.row 23) ((Zp (l.take x.1) sc).map ent)),(8,Zj l),(9,.int .i64 (l.length:Int)),(10,.int .i64 (x.1:Int))]) (fun x=> []) (fun x=> [(23,.live (Zp (l.take x.1) sc).length 5 27)]) (fun x=>l.length-x.1) ⟨0,by omega⟩
  ⟨rfl,(Fc5 rfl rfl rfl rfl rfl),fnl,(fcs rfl fnl)⟩ (fun x=>⟨Fc5 rfl (by simp[PV.ids,ZV]) rfl rfl rfl,fnl⟩) (fun x=> ?_)
 obtain⟨k,hk⟩:=x;simp only
 by_cases h:(k:Int)<(l.length:Int)
 ·have hka:k<l.length:=by omega
  have w1:=Wp hka hm;have i1:(0:Int)≤(k:Int):=by omega
  have hc:=Zee (l.getD k default);have hlen:=Zen (l.take k) sc;have hlen2:(l.take k).length≤k:=List.length_take_le _ _;have hr:=Yv (show(Zp (l.take k) sc).length+1≤100000000000 by omega) (show 72≤1000 by omega);cases he:((l.getD k default).at'.sc==sc)
  ·have hs:Zp (l.take (k+1)) sc=Zp (l.take k) sc:=by
    rw[ZW hka (d:=default)];simp only[Zp,List.filter_append,List.filter_cons,he,Bool.false_eq_true,if_false,List.filter_nil,List.append_nil]
   simp only[go_sem,Zj,h,Zy hka,fld,i1,he,w1];exact⟨⟨k+1,by omega⟩,by show l.length-(k+1)<l.length-k;omega,⟨rfl,Fc5 rfl (by show PV.sl _ _=PV.sl _ _;rw[hs]) rfl rfl rfl,fnl,fcs (by show some _=some _;rw[hs]) fnl⟩⟩
  ·have hs:Zp (l.take (k+1)) sc=Zp (l.take k) sc++ [ZF (l.getD k default)]:=by
    rw[ZW hka (d:=default)];simp only[Zp,List.filter_append,List.filter_cons,he,if_true,List.filter_nil,List.map_append,List.map_cons,List.map_nil]
   generalize hv:ZF (l.getD k default)=v at *;simp only[go_sem,Zj,h,Zy hka,fld,i1,he];refine vc2 (hc) ?_;simp only[go_sem,ent,UA,FD,D7,hr,w1];exact⟨⟨k+1,by omega⟩,by show l.length-(k+1)<l.length-k;omega,⟨rfl,Fc5 rfl (by show PV.sl _ _=PV.sl _ _;rw[hs,←Zj1]) rfl rfl rfl,fnl,fcs (by show some _=some _;rw[hs,List.length_append];rfl) fnl⟩⟩
 ·obtain rfl:k=l.length:=by omega
  simp only[go_sem,h,Zt,List.take_length]
theorem F0 (l:List En):(doc ⟨l,[]⟩).dids= []:=by simp only[doc,PV.dids,PV.didsL,Ug,List.map_nil,List.append_nil]
theorem Vm (l:List Fd) (hl:l.length≤1000000):PL.Pure Try.prog 52 [Zj l] (doc ⟨Zp l 0,[]⟩):=by
 have hc:=GK l 0 hl;refine YX Try.func52 rfl Try.ntmps52 Try.results52 (F0 _) ?_;simp only[go_sem,Zj];refine vc2 (hc) ?_;simp only[go_sem,Zt,doc]
def rootL:List Fd:= [⟨⟨0,[],[99,111,117,112,111,110]⟩,2,[],[],0⟩,⟨⟨1,[],[110,111,116,101]⟩,2,[],[],0⟩,⟨⟨1,[],[113,116,121]⟩,1,[],[],1⟩,
 ⟨⟨1,[],[115,105,122,101]⟩,3,[109,101,100,105,117,109],[[115,109,97,108,108],[109,101,100,105,117,109],[108,97,114,103,101]],0⟩,⟨⟨1,[],[116,97,103,115]⟩,4,[],[],0⟩]
theorem ZbD (l:List Fd):Sized 7 (l.map fld):=fun e he=>by
 obtain⟨x,_,rfl⟩:=List.mem_map.1 he;rfl
theorem ZfK (l:List Fd):PV.didsL (l.map fld)= []:=by
 induction l with
 |nil=>rfl
 |cons e l ih=>rw[List.map_cons,PV.didsL,ih];simp only[fld,PV.dids,PV.didsL,Vw,List.append_nil]
theorem G0 (l:List Fd):(Zj l).dids= []:=by simp only[Zj,PV.dids,ZfK]
theorem Zfo:PL.Pure Try.prog 37 [] (Zj rootL):=by
 refine YX Try.func37 rfl Try.ntmps37 Try.results37 (G0 _) ?_;simp (config := { maxSteps := 2000000 }) only[go_sem,Yv,Zj,fld,rootL]
open Go.PL
@[go_sem] theorem Zn2:((0:Nat):Int)=0:=rfl
@[go_sem] theorem Zn3:((1:Nat):Int)=1:=rfl
attribute [go_sem] Int.cast_ofNat_Int
def nm (s:Str) (i:Nat):Int:=((s.getD i 0).toNat:Int)
def ZeJ (s:Str) (i:Nat):Bool:=decide (97≤nm s i∧nm s i≤122)||(decide (48≤nm s i∧nm s i≤57)&&decide (i≠0))
def Z8 (s:Str):Bool:=decide (1≤s.length∧s.length≤12)&&(List.range s.length).all (ZeJ s)
theorem X6 (s:Str) (i:Nat):((s.getD i 0).toNat:Int)=nm s i:=rfl
theorem Ue (s:Str):PL.Pure Try.prog 56 [.str s] (.bool (Z8 s)):=by
 by_cases h1:(s.length:Int)<1
 ·have hx:Z8 s=false:=by simp only[Z8,show ¬(1≤s.length∧s.length≤12)by omega,decide_false,Bool.false_and]
  refine ZO Try.func56 rfl Try.ntmps56 Try.results56 ?_;simp only[go_sem,h1,hx]
 ·by_cases h2:(12:Int)<(s.length:Int)
  ·have hx:Z8 s=false:=by simp only[Z8,show ¬(1≤s.length∧s.length≤12)by omega,decide_false,Bool.false_and]
   refine ZO Try.func56 rfl Try.ntmps56 Try.results56 ?_;simp only[go_sem,h1,h2,hx]
  ·have hn:Z8 s=(List.range s.length).all (ZeJ s):=by simp only[Z8,show(1≤s.length∧s.length≤12)by omega,and_self,decide_true,Bool.true_and]
   refine ZO Try.func56 rfl Try.ntmps56 Try.results56 ?_;simp only[go_sem,h1,h2];refine ZK (ι:= { k:Nat // k≤s.length∧ ∀j,j<k→ZeJ s j=true }) 50 (fun x=> [(0,.str s),(15,.int .i64 (s.length:Int)),(16,.int .i64 (x.1:Int))]) (fun x=> []) (fun x=> []) (fun x=>s.length-x.1) ⟨0,by omega,fun j hj=>by omega⟩
    ⟨rfl,(Fc3 rfl rfl rfl),fnl,fnl⟩ (fun x=>⟨(Fc3 rfl rfl rfl),fnl⟩) (fun x=> ?_)
   obtain⟨k,hk,hall⟩:=x;simp only
   by_cases h:(k:Int)<(s.length:Int)
   ·have hka:k<s.length:=by omega
    have w1:IntKind.i64.wrap ((k:Int)+1)=((k+1:Nat):Int):=by rw[w64 (by omega)];rfl
    have i1:(0:Int)≤(k:Int):=by omega
    cases ho:ZeJ s k
    ·have hx:Z8 s=false:=by
      rw[hn,List.all_eq_false];exact⟨k,by simpa using hka,by simp[ho]⟩
     simp only[ZeJ,Bool.or_eq_false_iff,decide_eq_false_iff_not,Bool.and_eq_false_iff]at ho
     by_cases g1:97≤nm s k
     ·have g2:¬nm s k≤122:=by omega
      have g3:48≤nm s k:=by omega
      have g4:¬nm s k≤57:=by omega
      simp only[go_sem,h,i1,X6,g1,g2,g3,g4,hx]
     ·by_cases g3:48≤nm s k
      ·by_cases g4:nm s k≤57
       ·have hk0:((k:Int)==0)=true:=by
         rw[beq_iff_eq];rcases ho.2 with h'|h'<;>omega
        simp only[go_sem,h,i1,X6,g1,g3,g4,hk0,hx]
       ·simp only[go_sem,h,i1,X6,g1,g3,g4,hx]
      ·simp only[go_sem,h,i1,X6,g1,g3,hx]
    ·have nx:∀j,j<k+1→ZeJ s j=true:=Zn hall ho;simp only[ZeJ,Bool.or_eq_true,decide_eq_true_eq,Bool.and_eq_true]at ho
     by_cases g1:97≤nm s k
     ·have g2:nm s k≤122:=by omega
      have g3:48≤nm s k:=by omega
      have g4:¬nm s k≤57:=by omega
      simp only[go_sem,h,i1,X6,g1,g2,g3,g4,w1];exact⟨⟨k+1,by omega,nx⟩,by show s.length-(k+1)<s.length-k;omega,⟨rfl,(Fc3 rfl rfl rfl),fnl,fnl⟩⟩
     ·have g3:48≤nm s k:=by omega
      have g4:nm s k≤57:=by omega
      have hk0:((k:Int)==0)=false:=beq_eq_false_iff_ne.2 (by omega);simp only[go_sem,h,i1,X6,g1,g3,g4,hk0,w1];exact⟨⟨k+1,by omega,nx⟩,by show s.length-(k+1)<s.length-k;omega,⟨rfl,(Fc3 rfl rfl rfl),fnl,fnl⟩⟩
   ·have hx:Z8 s=true:=by
     rw[hn,List.all_eq_true];intro j hj;exact hall j (by have:=List.mem_range.1 hj;omega)
    simp only[go_sem,h,hx]
def VG (r:Rf):Bool:=(decide (r.sc=0)||decide (r.sc=1))&&(Z8 r.nm&&(decide (r.gr= [])||Z8 r.gr))
theorem Zd7 (r:Rf):PL.Pure Try.prog 116 [ref r] (.bool (VG r)):=by
 have hN:=Ue r.nm;have hG:=Ue r.gr
 by_cases hs:r.sc=0∨r.sc=1
 ·have hs':(decide (r.sc=0)||decide (r.sc=1))=true:=by simpa using hs
  have key:PL.Pure Try.prog 116 [ref r] (.bool (Z8 r.nm&&(decide (r.gr= [])||Z8 r.gr))):=by
   cases hn:Z8 r.nm
   ·rw[hn]at hN;rcases hs with h0|h1
    ·have q:(r.sc !=0)=false:=by rw[h0];rfl
     refine ZO Try.func116 rfl Try.ntmps116 Try.results116 ?_;simp only[go_sem,ref,q];refine vc1 (hN) ?_;simp only[go_sem,Bool.false_and]
    ·have q:(r.sc !=0)=true:=by rw[h1];rfl
     have q1:(r.sc !=1)=false:=by rw[h1];rfl
     refine ZO Try.func116 rfl Try.ntmps116 Try.results116 ?_;simp only[go_sem,ref,q,q1];refine vc1 (hN) ?_;simp only[go_sem,Bool.false_and]
   ·rw[hn]at hN
    by_cases hg:r.gr= []
    ·have hg':=GJ hg;rcases hs with h0|h1
     ·have q:(r.sc !=0)=false:=by rw[h0];rfl
      refine ZO Try.func116 rfl Try.ntmps116 Try.results116 ?_;simp only[go_sem,ref,q];refine vc1 (hN) ?_;simp only[go_sem,Bool.true_and,hg',decide_eq_true hg]
     ·have q:(r.sc !=0)=true:=by rw[h1];rfl
      have q1:(r.sc !=1)=false:=by rw[h1];rfl
      refine ZO Try.func116 rfl Try.ntmps116 Try.results116 ?_;simp only[go_sem,ref,q,q1];refine vc1 (hN) ?_;simp only[go_sem,Bool.true_and,hg',decide_eq_true hg]
    ·have hg':=TI hg;rcases hs with h0|h1
     ·have q:(r.sc !=0)=false:=by rw[h0];rfl
      refine ZO Try.func116 rfl Try.ntmps116 Try.results116 ?_;simp only[go_sem,ref,q];refine vc1 (hN) ?_;simp only[go_sem,hg'];refine vc1 (hG) ?_;simp only[go_sem,Bool.true_and,decide_eq_false hg]
     ·have q:(r.sc !=0)=true:=by rw[h1];rfl
      have q1:(r.sc !=1)=false:=by rw[h1];rfl
      refine ZO Try.func116 rfl Try.ntmps116 Try.results116 ?_;simp only[go_sem,ref,q,q1];refine vc1 (hN) ?_;simp only[go_sem,hg'];refine vc1 (hG) ?_;simp only[go_sem,Bool.true_and,decide_eq_false hg]
  simp only[VG,hs',Bool.true_and];exact key
 ·have q:(r.sc !=0)=true:=bne_iff_ne.2 (by omega);have q1:(r.sc !=1)=true:=bne_iff_ne.2 (by omega);have hx:VG r=false:=by
   have:(decide (r.sc=0)||decide (r.sc=1))=false:=by simp;omega
   simp only[VG,this,Bool.false_and]
  refine ZO Try.func116 rfl Try.ntmps116 Try.results116 ?_;simp only[go_sem,ref,q,q1,hx]
theorem ZaI (s:Str):PL.Pure Try.prog 117 [.str s] (.bool (decide ((s.length:Int)≤40))):=by
 refine ZO Try.func117 rfl Try.ntmps117 Try.results117 ?_;simp only[go_sem]
open Go.PL
theorem XG (s:Str):PL.Pure Try.prog 60 [.str s] (.bool (Z8 s)):=by
 by_cases h1:(s.length:Int)<1
 ·have hx:Z8 s=false:=by simp only[Z8,show ¬(1≤s.length∧s.length≤12)by omega,decide_false,Bool.false_and]
  refine ZO Try.func60 rfl Try.ntmps60 Try.results60 ?_;simp only[go_sem,h1,hx]
 ·by_cases h2:(12:Int)<(s.length:Int)
  ·have hx:Z8 s=false:=by simp only[Z8,show ¬(1≤s.length∧s.length≤12)by omega,decide_false,Bool.false_and]
   refine ZO Try.func60 rfl Try.ntmps60 Try.results60 ?_;simp only[go_sem,h1,h2,hx]
  ·have hn:Z8 s=(List.range s.length).all (ZeJ s):=by simp only[Z8,show(1≤s.length∧s.length≤12)by omega,and_self,decide_true,Bool.true_and]
   refine ZO Try.func60 rfl Try.ntmps60 Try.results60 ?_;simp only[go_sem,h1,h2];refine ZK (ι:= { k:Nat // k≤s.length∧ ∀j,j<k→ZeJ s j=true }) 50 (fun x=> [(0,.str s),(3,.int .i64 (x.1:Int))]) (fun x=> []) (fun x=> []) (fun x=>s.length-x.1) ⟨0,by omega,fun j hj=>by omega⟩
    ⟨rfl,(Fc2 rfl rfl),fnl,fnl⟩ (fun x=>⟨(Fc2 rfl rfl),fnl⟩) (fun x=> ?_)
   obtain⟨k,hk,hall⟩:=x;simp only
   by_cases h:(k:Int)<(s.length:Int)
   ·have hka:k<s.length:=by omega
    have w1:IntKind.i64.wrap ((k:Int)+1)=((k+1:Nat):Int):=by rw[w64 (by omega)];rfl
    have i1:(0:Int)≤(k:Int):=by omega
    cases ho:ZeJ s k
    ·have hx:Z8 s=false:=by
      rw[hn,List.all_eq_false];exact⟨k,by simpa using hka,by simp[ho]⟩
     simp only[ZeJ,Bool.or_eq_false_iff,decide_eq_false_iff_not,Bool.and_eq_false_iff]at ho
     by_cases g1:97≤nm s k
     ·have g2:¬nm s k≤122:=by omega
      have g3:48≤nm s k:=by omega
      have g4:¬nm s k≤57:=by omega
      simp only[go_sem,h,i1,X6,g1,g2,g3,g4,hx]
     ·by_cases g3:48≤nm s k
      ·by_cases g4:nm s k≤57
       ·have hk0:((k:Int)==0)=true:=by
         rw[beq_iff_eq];rcases ho.2 with h'|h'<;>omega
        simp only[go_sem,h,i1,X6,g1,g3,g4,hk0,hx]
       ·simp only[go_sem,h,i1,X6,g1,g3,g4,hx]
      ·simp only[go_sem,h,i1,X6,g1,g3,hx]
    ·have nx:∀j,j<k+1→ZeJ s j=true:=Zn hall ho;simp only[ZeJ,Bool.or_eq_true,decide_eq_true_eq,Bool.and_eq_true]at ho
     by_cases g1:97≤nm s k
     ·have g2:nm s k≤122:=by omega
      have g3:48≤nm s k:=by omega
      have g4:¬nm s k≤57:=by omega
      simp only[go_sem,h,i1,X6,g1,g2,g3,g4,w1];exact⟨⟨k+1,by omega,nx⟩,by show s.length-(k+1)<s.length-k;omega,⟨rfl,(Fc2 rfl rfl),fnl,fnl⟩⟩
     ·have g3:48≤nm s k:=by omega
      have g4:nm s k≤57:=by omega
      have hk0:((k:Int)==0)=false:=beq_eq_false_iff_ne.2 (by omega);simp only[go_sem,h,i1,X6,g1,g3,g4,hk0,w1];exact⟨⟨k+1,by omega,nx⟩,by show s.length-(k+1)<s.length-k;omega,⟨rfl,(Fc2 rfl rfl),fnl,fnl⟩⟩
   ·have hx:Z8 s=true:=by
     rw[hn,List.all_eq_true];intro j hj;exact hall j (by have:=List.mem_range.1 hj;omega)
    simp only[go_sem,h,hx]
theorem Zgy (r:Rf):VG r=(decide (0≤r.sc)&&(decide (r.sc≤1)&&(Z8 r.nm&&(decide (r.gr= [])||Z8 r.gr)))):=by
 have:(decide (r.sc=0)||decide (r.sc=1))=(decide (0≤r.sc)&&decide (r.sc≤1)):=by
  rw[Bool.eq_iff_iff];simp;omega
 rw[VG,this,Bool.and_assoc]
theorem Zb9 (r:Rf):PL.Pure Try.prog 120 [ref r] (.bool (VG r)):=by
 rw[Zgy];have hN:=XG r.nm;have hG:=XG r.gr;refine ZO Try.func120 rfl Try.ntmps120 Try.results120 ?_;simp only[go_sem,ref];repeat' ((first|refine Xc (fun h=> ?_) (fun h=> ?_)|refine Xb (fun h=> ?_) (fun h=> ?_)|refine Wb (fun h=> ?_) (fun h=> ?_)|refine vc1 (hN) ?_|refine vc1 (hG) ?_|refine vDq ?_)<;>first|simp only[go_sem,h]|simp only[go_sem]|skip)
 all_goals (simp_all)
theorem Gz (l:List Str) (s:Str) (hl:l.length≤maxLen):PL.Pure Try.prog 121 [Xj l,.str s] (.bool (l.any (· == s))):=by
 refine ZO Try.func121 rfl Try.ntmps121 Try.results121 ?_;simp only[go_sem,Xj];refine ZK (ι:= { k:Nat // k≤l.length∧ ∀j,j<k→(l.getD j []==s)=false }) 18 (fun x=> [(0,Xj l),(1,.str s),(5,.int .i64 (x.1:Int))]) (fun x=> []) (fun x=> []) (fun x=>l.length-x.1) ⟨0,by omega,fun j hj=>by omega⟩
  ⟨rfl,(Fc3 rfl rfl rfl),fnl,fnl⟩ (fun x=>⟨(Fc3 rfl rfl rfl),fnl⟩) (fun x=> ?_)
 obtain⟨k,hk,hall⟩:=x;simp only
 by_cases h:(k:Int)<(l.length:Int)
 ·have hka:k<l.length:=by omega
  have w1:=Wp hka hl;have i1:(0:Int)≤(k:Int):=by omega
  cases he:(l.getD k []==s)
  ·simp only[go_sem,Xj,h,ZG hka,i1,he,w1];exact⟨⟨k+1,by omega,Zn hall he⟩,by show l.length-(k+1)<l.length-k;omega,⟨rfl,(Fc3 rfl rfl rfl),fnl,fnl⟩⟩
  ·have hx:=Wf (p:=(· == s)) hka he;simp only[go_sem,Xj,h,ZG hka,i1,he,hx]
 ·have hx:=WF (p:=(· == s)) (d:= []) (l:=l) (fun j hj=>hall j (by omega));simp only[go_sem,Xj,h,hx]
def Ub (a b:Rf):Bool:=if a.sc≠b.sc then decide (a.sc<b.sc)else if a.gr≠b.gr then Zq a.gr b.gr else Zq a.nm b.nm
theorem Zd9 (a b:Rf):PL.Pure Try.prog 91 [ref a,ref b] (.bool (Ub a b)):=by
 refine ZO Try.func91 rfl Try.ntmps91 Try.results91 ?_;simp only[go_sem,ref];repeat' ((first|refine Xc (fun h=> ?_) (fun h=> ?_)|refine Xb (fun h=> ?_) (fun h=> ?_)|refine Wb (fun h=> ?_) (fun h=> ?_)|refine vDq ?_)<;>first|simp only[go_sem,h]|simp only[go_sem]|skip)
 all_goals (simp_all[Ub])
open Go.PL
attribute [go_sem] Option.map_some Option.map_none Option.isNone_none
theorem Gt (l:List Str) (k:Nat):List.take k (l.map PV.str)=(l.take k).map PV.str:=by rw[List.map_take]
def Vu (l:List Str) (i:Nat):Bool:=Z8 (l.getD i [])&& !((l.take i).any (· == l.getD i []))
def GO (l:List Str):Bool:=(List.range l.length).all (Vu l)
theorem W6 {l:List Str} {k:Nat} (hk:k<l.length) (h:Vu l k=false):GO l=false:=by
 rw[GO,List.all_eq_false];exact⟨k,by simpa using hk,by simp[h]⟩
theorem GP {l:List Str} (h:∀j,j<l.length→Vu l j=true):GO l=true:=by
 rw[GO,List.all_eq_true];intro j hj;exact h j (List.mem_range.1 hj)
def DT (f:Fd):Bool:=GO f.cases'&&(decide ((f.cases'.length:Int)<7)&&f.cases'.any (· == f.df))
def ZeW (f:Fd):Bool:= !decide (0<(f.cases'.length:Int))&&((decide (f.kind=2)&&decide ((f.df.length:Int)<41))||(decide (f.kind=4)&&decide (f.df= [])))
def Yy (f:Fd):Bool:=
 VG f.at'&&(if f.kind=1 then decide (f.df= [])&&(decide ((f.cases'.length:Int)=0)&&(decide (0<f.worth)&&decide (f.worth<1048577)))
  else decide (f.worth=0)&&(if f.kind=3 then DT f else ZeW f))
theorem Tj (f:Fd) (hl:f.cases'.length≤maxLen):PL.Pure Try.prog 90 [fld f] (.bool (Yy f)):=by
 have hP:=Zb9 f.at'
 by_cases h3:f.kind=3
 ·have k1:(f.kind==1)=false:=by rw[h3];rfl
  have k3:(f.kind==3)=true:=by rw[h3];rfl
  cases hp:VG f.at'
  ·rw[hp]at hP;refine ZO Try.func90 rfl Try.ntmps90 Try.results90 ?_;simp only[go_sem,fld];refine vc1 (hP) ?_;simp only[go_sem,Yy,hp,Bool.false_and]
  ·rw[hp]at hP
   by_cases hw:f.worth=0
   ·have hw':(f.worth !=0)=false:=by rw[hw];rfl
    have hx:Yy f=DT f:=by
     simp only[Yy,hp,h3,hw,Bool.true_and,decide_true,if_true];rfl
    rw[hx];refine ZO Try.func90 rfl Try.ntmps90 Try.results90 ?_;simp only[go_sem,fld];refine vc1 (hP) ?_;simp only[go_sem,k1,k3,hw'];refine ZK (ι:= { k:Nat // k≤f.cases'.length∧ ∀j,j<k→Vu f.cases' j=true }) 96 (fun x=> [(1,.ptr 1 0),(3,.int .i64 (x.1:Int))]) (fun x=> [(1,[.int .i64 f.at'.sc,.str f.at'.gr,.str f.at'.nm,.int .i64 f.kind,.str f.df,.sl .no (f.cases'.map .str),.int .i64 f.worth],false)]) (fun x=> []) (fun x=>f.cases'.length-x.1) ⟨0,by omega,fun j hj=>by omega⟩
     ⟨rfl,(Fc2 rfl rfl),fcs ⟨rfl,rfl⟩ fnl,fnl⟩ (fun x=>⟨(Fc2 rfl rfl),(fcs rfl fnl)⟩) (fun x=> ?_)
    obtain⟨k,hk,hall⟩:=x;simp only
    by_cases h:(k:Int)<(f.cases'.length:Int)
    ·have hka:k<f.cases'.length:=by omega
     have w1:=Wp hka hl;have i1:(0:Int)≤(k:Int):=by omega
     have i2:(k:Int)≤(f.cases'.length:Int):=by omega
     have hN:=XG (f.cases'.getD k []);have hT:(f.cases'.take k).length≤maxLen:=by rw[List.length_take];omega
     have hH:=Gz (f.cases'.take k) (f.cases'.getD k []) hT;cases hn:Z8 (f.cases'.getD k [])
     ·rw[hn]at hN;have hz:DT f=false:=by simp only[DT,W6 hka (by simp only[Vu,hn,Bool.false_and]),Bool.false_and]
      simp only[go_sem,h,i1];refine vDq ?_;simp only[go_sem,ZG hka,h,i1];refine vc1 (hN) ?_;simp only[go_sem,hz]
     ·rw[hn]at hN;cases hh:(f.cases'.take k).any (· == f.cases'.getD k [])
      ·rw[hh]at hH;have ok:Vu f.cases' k=true:=by simp only[Vu,hn,hh,Bool.not_false,Bool.and_self]
       simp only[go_sem,h,i1];refine vDq ?_;simp only[go_sem,ZG hka,h,i1];refine vc1 (hN) ?_;simp only[go_sem,ZG hka,h,i1,i2,cut,Nat.sub_zero,Gt,Ye];refine vc1 (hH) ?_;simp only[go_sem,w1];exact⟨⟨k+1,by omega,Zn hall ok⟩,by show f.cases'.length-(k+1)<f.cases'.length-k;omega,⟨rfl,(Fc2 rfl rfl),fcs ⟨rfl,rfl⟩ fnl,fnl⟩⟩
      ·rw[hh]at hH;have hz:DT f=false:=by simp only[DT,W6 hka (by simp only[Vu,hn,hh,Bool.not_true,Bool.and_false]),Bool.false_and]
       simp only[go_sem,h,i1];refine vDq ?_;simp only[go_sem,ZG hka,h,i1];refine vc1 (hN) ?_;simp only[go_sem,ZG hka,h,i1,i2,cut,Nat.sub_zero,Gt,Ye];refine vc1 (hH) ?_;simp only[go_sem,hz]
    ·have hc:=GP (l:=f.cases') (fun j hj=>hall j (by omega));have hH:=Gz f.cases' f.df hl
     by_cases h7:(f.cases'.length:Int)<7
     ·simp only[go_sem,h,h7];refine vc1 (hH) ?_;simp only[go_sem,DT,hc,h7,Bool.true_and]
     ·simp only[go_sem,h,h7,DT,hc,Bool.true_and,Bool.false_and]
   ·have hw':(f.worth !=0)=true:=bne_iff_ne.2 hw;have hx:Yy f=false:=by
     simp only[Yy,hp,h3,hw,Bool.true_and,decide_false,Bool.false_and];rfl
    refine ZO Try.func90 rfl Try.ntmps90 Try.results90 ?_;simp only[go_sem,fld];refine vc1 (hP) ?_;simp only[go_sem,k1,k3,hw',hx]
 ·have k3:(f.kind==3)=false:=beq_eq_false_iff_ne.2 h3;have hx:Yy f=(VG f.at'&&(if f.kind=1 then decide (f.df= [])&&(decide ((f.cases'.length:Int)=0)&&(decide (0<f.worth)&&decide (f.worth<1048577)))else decide (f.worth=0)&&ZeW f)):=by
   simp only[Yy,h3,if_false]
  rw[hx];refine ZO Try.func90 rfl Try.ntmps90 Try.results90 ?_;simp only[go_sem,fld];refine vc1 (hP) ?_;simp only[go_sem];repeat' ((first|refine Xc (fun h=> ?_) (fun h=> ?_)|refine Xb (fun h=> ?_) (fun h=> ?_)|refine Wb (fun h=> ?_) (fun h=> ?_)|refine vDq ?_)<;>first|simp only[go_sem,h,k3]|simp only[go_sem,k3]|skip)
  all_goals (simp_all[ZeW])
  all_goals (cases f.df<;>simp)
def Ua (f:Fd) (s:Str):Bool:=(Yy f&& !decide (f.kind=1))&&(if f.kind=3 then f.cases'.any (· == s)else decide ((s.length:Int)<41))
theorem Zd8 (f:Fd) (s:Str) (hl:f.cases'.length≤maxLen):PL.Pure Try.prog 110 [fld f,.str s] (.bool (Ua f s)):=by
 have hR:=Tj f hl;have hH:=Gz f.cases' s hl;refine ZO Try.func110 rfl Try.ntmps110 Try.results110 ?_;simp only[go_sem,fld];repeat' ((first|refine Xc (fun h=> ?_) (fun h=> ?_)|refine Xb (fun h=> ?_) (fun h=> ?_)|refine Wb (fun h=> ?_) (fun h=> ?_)|refine vc2 (hR) ?_|refine vc2 (hH) ?_|refine vDq ?_)<;>first|simp only[go_sem,h]|simp only[go_sem]|skip)
 all_goals (simp_all[Ua])
open Go.PL
structure Pr where
 fr':Str
 to':Str
 deriving DecidableEq,Inhabited
structure Ln where
 kind:Int
 at':Rf
 nm:Str
 ot:Str
 fac:Int
 fd:Fd
 fo:List Pr
 ba:List Pr
 deriving DecidableEq,Inhabited
structure Tg where
 r:Int
 n:Int
 deriving DecidableEq,Inhabited
structure Eg where
 id:Tg
 par:Tg
 ln:Ln
 deriving DecidableEq,Inhabited
structure Lg where
 id:Tg
 down:Bool
 deriving DecidableEq,Inhabited
def pr (p:Pr):PV:= .agg [.str p.fr',.str p.to']
def prs (l:List Pr):PV:= .sl .no (l.map pr)
def refs (l:List Rf):PV:= .sl .no (l.map ref)
def lns (x:Ln):PV:= .agg [.int .i64 x.kind,.int .i64 x.at'.sc,.str x.at'.gr,.str x.at'.nm,.str x.nm,.str x.ot,.int .i64 x.fac,.int .i64 x.fd.at'.sc,.str x.fd.at'.gr,.str x.fd.at'.nm,.int .i64 x.fd.kind,.str x.fd.df,.sl .no (x.fd.cases'.map .str),.int .i64 x.fd.worth,.sl .no (x.fo.map pr),.sl .no (x.ba.map pr)]
def tg (t:Tg):PV:= .agg [.int .i64 t.r,.int .i64 t.n]
def tgs (l:List Tg):PV:= .sl .no (l.map tg)
def lg (t:Lg):PV:= .agg [.int .i64 t.id.r,.int .i64 t.id.n,.bool t.down]
def lgs (l:List Lg):PV:= .sl .no (l.map lg)
def eg (e:Eg):PV:= .agg [.int .i64 e.id.r,.int .i64 e.id.n,.int .i64 e.par.r,.int .i64 e.par.n,.int .i64 e.ln.kind,.int .i64 e.ln.at'.sc,.str e.ln.at'.gr,.str e.ln.at'.nm,.str e.ln.nm,.str e.ln.ot,.int .i64 e.ln.fac,.int .i64 e.ln.fd.at'.sc,.str e.ln.fd.at'.gr,.str e.ln.fd.at'.nm,.int .i64 e.ln.fd.kind,.str e.ln.fd.df,.sl .no (e.ln.fd.cases'.map .str),.int .i64 e.ln.fd.worth,.sl .no (e.ln.fo.map pr),.sl .no (e.ln.ba.map pr)]
def egs (l:List Eg):PV:= .sl .no (l.map eg)
theorem Gk {α:Type} {enc:α→PV} {l:List α} {i:Nat} {d:α} (h:i<l.length):(l.map enc).getD i .any=enc (l.getD i d):=by
 simp[List.getD_eq_getElem?_getD,h]
theorem Zd3 (a b:List Str) (ha:a.length≤maxLen) (hb:b.length≤maxLen):PL.Pure Try.prog 86 [Xj a,Xj b] (.bool (decide (a=b))):=by
 by_cases hl:a.length=b.length
 ·have hl':((a.length:Int) !=(b.length:Int))=false:=by rw[hl];exact bne_self_eq_false _
  refine ZO Try.func86 rfl Try.ntmps86 Try.results86 ?_;simp only[go_sem,Xj,hl'];refine ZK (ι:= { x:Nat // x≤(a).length∧(∀j,j<x→a.getD j []=b.getD j []) }) 26 (fun x=> [(0,Xj a),(1,Xj b),(12,.int .i64 (a.length:Int)),(13,.int .i64 (x.1:Int))]) (fun x=> []) (fun x=> []) (fun x=>(a).length-x.1) ⟨0,Nat.zero_le _,fun j hj=>absurd hj (Nat.not_lt_zero j)⟩ ⟨rfl,(Fc4 rfl rfl rfl rfl),fnl,fnl⟩ (fun x=>⟨(Fc4 rfl rfl rfl rfl),fnl⟩) (fun x=> ?_);obtain⟨k,hk,hI⟩:=x;simp only at hk hI ⊢
  by_cases h:(k:Int)<(a.length:Int)
  ·(have hka:k<(a).length:=by omega);(have w1:=Wp hka (ha));(have i1:(0:Int)≤(k:Int):=by omega)
   have hkb:k<b.length:=by omega
   have i2:(k:Int)<(b.length:Int):=by omega
   by_cases he:a.getD k []=b.getD k []
   ·have he':(a.getD k []==b.getD k [])=true:=beq_iff_eq.2 he;simp only[go_sem,Xj,h];refine vDq ?_;simp only[go_sem,ZG hka,ZG hkb,h,i1,i2,he',w1];exact⟨⟨k+1,by(try simp only);omega,Zn hI he⟩,by show(a).length-(k+1)<(a).length-k;omega,⟨rfl,(Fc4 rfl rfl rfl rfl),fnl,fnl⟩⟩
   ·have he':(a.getD k []==b.getD k [])=false:=beq_eq_false_iff_ne.2 he;have hab:¬a=b:=SE he;simp only[go_sem,Xj,h];refine vDq ?_;simp only[go_sem,ZG hka,ZG hkb,h,i1,i2,he',hab]
  ·have hab:decide (a=b)=true:=decide_eq_true (Vy (d:= []) hl fun j hj=>hI j (by omega));simp only[go_sem,Xj,h,hab]
 ·have hl':((a.length:Int) !=(b.length:Int))=true:=bne_iff_ne.2 (by omega);have hab:¬a=b:=fun e=>hl (by rw[e])
  refine ZO Try.func86 rfl Try.ntmps86 Try.results86 ?_;simp only[go_sem,Xj,hl',hab]
theorem Zb6 (l:List Str) (s:Str) (hl:l.length≤maxLen):PL.Pure Try.prog 129 [Xj l,.str s] (.int .i64 (idx (fun x=>s==x) l)):=by
 refine ZO Try.func129 rfl Try.ntmps129 Try.results129 ?_;simp only[go_sem,Xj];refine ZK (ι:= { x:Nat // x≤(l).length∧(∀j,j<x→(fun x=>s==x) (l.getD j [])=false) }) 19 (fun x=> [(0,Xj l),(1,.str s),(7,.int .i64 (l.length:Int)),(8,.int .i64 (x.1:Int))]) (fun x=> []) (fun x=> []) (fun x=>(l).length-x.1) ⟨0,Nat.zero_le _,fun j hj=>absurd hj (Nat.not_lt_zero j)⟩ ⟨rfl,(Fc4 rfl rfl rfl rfl),fnl,fnl⟩ (fun x=>⟨(Fc4 rfl rfl rfl rfl),fnl⟩) (fun x=> ?_);obtain⟨k,hk,hI⟩:=x;simp only at hk hI ⊢
 by_cases h:(k:Int)<(l.length:Int)
 ·(have hka:k<(l).length:=by omega);(have w1:=Wp hka (hl));(have i1:(0:Int)≤(k:Int):=by omega)
  cases he:(fun x=>s==x) (l.getD k [])
  ·have he0:=he;simp only at he;simp only[go_sem,Xj,h];simp only[go_sem,ZG hka,h,i1,he,w1];exact⟨⟨k+1,by(try simp only);omega,Zn hI he0⟩,by show(l).length-(k+1)<(l).length-k;omega,⟨rfl,(Fc4 rfl rfl rfl rfl),fnl,fnl⟩⟩
  ·have hx:=YN (p:=fun x=>s==x) hka hI he;simp only at he;simp only[go_sem,Xj,h];simp only[go_sem,ZG hka,h,i1,he,hx]
 ·have hx:=VU (p:=fun x=>s==x) (d:= []) (l:=l) (fun j hj=>hI j (by omega));simp only[go_sem,Xj,h,hx]
theorem Zd5 (l:List Fd) (r:Rf) (hl:l.length≤maxLen):PL.Pure Try.prog 107 [Zj l,ref r] (.int .i64 (idx (fun x=>decide (x.at'=r)) l)):=by
 refine ZO Try.func107 rfl Try.ntmps107 Try.results107 ?_;simp only[go_sem,Zj,ref];refine ZK (ι:= { x:Nat // x≤(l).length∧(∀j,j<x→(fun x=>decide (x.at'=r)) (l.getD j default)=false) }) 20 (fun x=> [(3,.ptr 3 0),(7,Zj l),(8,.int .i64 (l.length:Int)),(9,.int .i64 (x.1:Int))]) (fun x=> [(3,[.int .i64 r.sc,.str r.gr,.str r.nm],false)]) (fun x=> []) (fun x=>(l).length-x.1) ⟨0,Nat.zero_le _,fun j hj=>absurd hj (Nat.not_lt_zero j)⟩ ⟨rfl,(Fc4 rfl rfl rfl rfl),(fcs ⟨rfl,rfl⟩ fnl),fnl⟩ (fun x=>⟨(Fc4 rfl rfl rfl rfl),(fcs rfl fnl)⟩) (fun x=> ?_);obtain⟨k,hk,hI⟩:=x;simp only at hk hI ⊢
 by_cases h:(k:Int)<(l.length:Int)
 ·(have hka:k<(l).length:=by omega);(have w1:=Wp hka (hl));(have i1:(0:Int)≤(k:Int):=by omega)
  cases he:(fun x=>decide (x.at'=r)) (l.getD k default)
  ·have he0:=he;simp only at he;simp only[go_sem,Zj,h];simp only[go_sem,Zy hka,h,i1,fld,Zv,he,w1];exact⟨⟨k+1,by(try simp only);omega,Zn hI he0⟩,by show(l).length-(k+1)<(l).length-k;omega,⟨rfl,(Fc4 rfl rfl rfl rfl),(fcs ⟨rfl,rfl⟩ fnl),fnl⟩⟩
  ·have hx:=YN (p:=fun x=>decide (x.at'=r)) hka hI he;simp only at he;simp only[go_sem,Zj,h];simp only[go_sem,Zy hka,h,i1,fld,Zv,he,hx]
 ·have hx:=VU (p:=fun x=>decide (x.at'=r)) (d:=default) (l:=l) (fun j hj=>hI j (by omega));simp only[go_sem,Zj,h,hx]
theorem Zhx (l:List Fd) (r:Rf) (hl:l.length≤maxLen):PL.Pure Try.prog 77 [Zj l,ref r] (.int .i64 (idx (fun x=>decide (x.at'=r)) l)):=by
 refine ZO Try.func77 rfl Try.ntmps77 Try.results77 ?_;simp only[go_sem,Zj,ref];refine ZK (ι:= { x:Nat // x≤(l).length∧(∀j,j<x→(fun x=>decide (x.at'=r)) (l.getD j default)=false) }) 20 (fun x=> [(0,Zj l),(3,.ptr 3 0),(5,.int .i64 (x.1:Int))]) (fun x=> [(3,[.int .i64 r.sc,.str r.gr,.str r.nm],false)]) (fun x=> []) (fun x=>(l).length-x.1) ⟨0,Nat.zero_le _,fun j hj=>absurd hj (Nat.not_lt_zero j)⟩ ⟨rfl,(Fc3 rfl rfl rfl),(fcs ⟨rfl,rfl⟩ fnl),fnl⟩ (fun x=>⟨(Fc3 rfl rfl rfl),(fcs rfl fnl)⟩) (fun x=> ?_);obtain⟨k,hk,hI⟩:=x;simp only at hk hI ⊢
 by_cases h:(k:Int)<(l.length:Int)
 ·(have hka:k<(l).length:=by omega);(have w1:=Wp hka (hl));(have i1:(0:Int)≤(k:Int):=by omega)
  cases he:(fun x=>decide (x.at'=r)) (l.getD k default)
  ·have he0:=he;simp only at he;simp only[go_sem,Zj,h];refine vDq ?_;simp only[go_sem,Zy hka,h,i1,fld,Zv,he,w1];exact⟨⟨k+1,by(try simp only);omega,Zn hI he0⟩,by show(l).length-(k+1)<(l).length-k;omega,⟨rfl,(Fc3 rfl rfl rfl),(fcs ⟨rfl,rfl⟩ fnl),fnl⟩⟩
  ·have hx:=YN (p:=fun x=>decide (x.at'=r)) hka hI he;simp only at he;simp only[go_sem,Zj,h];refine vDq ?_;simp only[go_sem,Zy hka,h,i1,fld,Zv,he,hx]
 ·have hx:=VU (p:=fun x=>decide (x.at'=r)) (d:=default) (l:=l) (fun j hj=>hI j (by omega));simp only[go_sem,Zj,h,hx]
end Go.Proofs.Ytmnibpgmcgdfpaa
