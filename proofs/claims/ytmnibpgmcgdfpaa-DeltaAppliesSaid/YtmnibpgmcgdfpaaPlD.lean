/- A logic of values for functions that only read and build, over the model (part 4): no statement of the seat is proved here. -/
import Derived.Test.YtmnibpgmcgdfpaaPlC
import Derived.WideKeyRuns
import Derived.Scope
import Derived.ScopeJumps
import Derived.Orders
import Derived.LoopN
namespace Go.PL
set_option maxHeartbeats 64000000
set_option maxRecDepth 20000
set_option linter.unusedVariables false
set_option linter.unusedSimpArgs false
open Go.RowKit
mutual
def PV.ren (f g:Nat→Nat):PV→PV
 | .ptr id off=> .ptr (g id) off
 | .osl id off len sz=> .osl (g id) off len sz
 | .sl (.row id) es=> .sl (.row (f id)) es
 | .vsl id len sz=> .vsl (f id) len sz
 | .vptr id n sz i off=> .vptr (f id) n sz i off
 | .agg cs=> .agg (PV.renL f g cs)
 | .tup cs=> .tup (PV.renL f g cs)
 | .fn h cs=> .fn h (PV.renL f g cs)
 |p=>p
def PV.renL (f g:Nat→Nat):List PV→List PV
 | []=> []
 |c::cs=>PV.ren f g c::PV.renL f g cs
end
def Ref.ren (f g:Nat→Nat):Ref→Ref
 | .b i=> .b (g i)
 | .r i=> .r (f i)
variable {f g:Nat→Nat}
theorem PV.renL_map:∀(cs:List PV),PV.renL f g cs=cs.map (PV.ren f g)
 | []=>rfl
 |c::cs=>by simp[PV.renL,PV.renL_map cs]
theorem PV.renL_length (cs:List PV):(PV.renL f g cs).length=cs.length:=by rw[PV.renL_map];simp
theorem PV.renL_getD (cs:List PV) (i:Nat) (hi:i<cs.length):(PV.renL f g cs).getD i .any=(cs.getD i .any).ren f g:=by
 rw[PV.renL_map,Zb (by simpa using hi),Zb hi,List.getElem_map]
theorem Uu (p:PV):(p.ren f g).cells=p.cells.map (PV.ren f g):=by
 cases p with
 |agg cs=>simp[PV.ren,PV.cells,PV.renL_map]
 |sl t es=>cases t<;>simp[PV.ren,PV.cells]
 |_=>simp[PV.ren,PV.cells]
theorem ZdN (p:PV):(p.ren f g).atom=p.atom:=by
 cases p with
 |sl t es=>cases t<;>simp[PV.ren,PV.atom]
 |_=>simp[PV.ren,PV.atom]
mutual
theorem Dq:∀(p:PV),(p.ren f g).ids=p.ids.map (Ref.ren f g)
 | .ptr _ _=>by simp[PV.ren,PV.ids,Ref.ren]
 | .osl _ _ _ _=>by simp[PV.ren,PV.ids,Ref.ren]
 | .sl t es=>by cases t<;>simp[PV.ren,PV.ids,Ref.ren]
 | .vsl _ _ _=>by simp[PV.ren,PV.ids,Ref.ren]
 | .vptr _ _ _ _ _=>by simp[PV.ren,PV.ids,Ref.ren]
 | .agg cs=>by simp only[PV.ren,PV.ids];exact Gr cs
 | .tup cs=>by simp only[PV.ren,PV.ids];exact Gr cs
 | .fn _ cs=>by simp only[PV.ren,PV.ids];exact Gr cs
 | .any=>by simp[PV.ren,PV.ids]
 | .int _ _=>by simp[PV.ren,PV.ids]
 | .bool _=>by simp[PV.ren,PV.ids]
 | .str _=>by simp[PV.ren,PV.ids]
 | .flt _ _=>by simp[PV.ren,PV.ids]
 | .cpx _ _ _=>by simp[PV.ren,PV.ids]
 | .rptr _=>by simp[PV.ren,PV.ids]
 | .nilp=>by simp[PV.ren,PV.ids]
 | .nilfn=>by simp[PV.ren,PV.ids]
 | .nilmap=>by simp[PV.ren,PV.ids]
 | .mref _=>by simp[PV.ren,PV.ids]
 | .rmap _ _=>by simp[PV.ren,PV.ids]
 | .iptr _=>by simp[PV.ren,PV.ids]
theorem Gr:∀(cs:List PV),PV.idsL (PV.renL f g cs)=(PV.idsL cs).map (Ref.ren f g)
 | []=>rfl
 |c::cs=>by simp only[PV.renL,PV.idsL,List.map_append,Dq c,Gr cs]
end
mutual
theorem WS:∀(p:PV),p.ids= []→p.ren f g=p
 | .ptr _ _,h=>by simp[PV.ids]at h
 | .osl _ _ _ _,h=>by simp[PV.ids]at h
 | .sl t es,h=>by cases t<;>simp[PV.ids]at h<;>simp[PV.ren]
 | .vsl _ _ _,h=>by simp[PV.ids]at h
 | .vptr _ _ _ _ _,h=>by simp[PV.ids]at h
 | .agg cs,h=>by simp only[PV.ren];rw[VI cs (by simpa[PV.ids]using h)]
 | .tup cs,h=>by simp only[PV.ren];rw[VI cs (by simpa[PV.ids]using h)]
 | .fn _ cs,h=>by simp only[PV.ren];rw[VI cs (by simpa[PV.ids]using h)]
 | .any,_=>by simp[PV.ren]
 | .int _ _,_=>by simp[PV.ren]
 | .bool _,_=>by simp[PV.ren]
 | .str _,_=>by simp[PV.ren]
 | .flt _ _,_=>by simp[PV.ren]
 | .cpx _ _ _,_=>by simp[PV.ren]
 | .rptr _,_=>by simp[PV.ren]
 | .nilp,_=>by simp[PV.ren]
 | .nilfn,_=>by simp[PV.ren]
 | .nilmap,_=>by simp[PV.ren]
 | .mref _,_=>by simp[PV.ren]
 | .rmap _ _,_=>by simp[PV.ren]
 | .iptr _,_=>by simp[PV.ren]
theorem VI:∀(cs:List PV),PV.idsL cs= []→PV.renL f g cs=cs
 | [],_=>rfl
 |c::cs,h=>by
  simp only[PV.idsL,List.append_eq_nil_iff]at h;simp only[PV.renL,WS c h.1,VI cs h.2]
end
variable {S:Stable} {M M':Maps} {q q':Rows}
theorem RepS.ren {v:Value} {p:PV} (r:RepS S M q v p) (hb:∀i,.b i∈p.ids→M'.φ (g i)=M.φ i) (hr:∀i,.r i∈p.ids→q' (f i)=q i∧M'.κ (f i)=M.κ i∧M'.ψ (f i)=M.ψ i):RepS S M' q' v (p.ren f g):=by
 induction r with
 |clean r=>
  rw[WS _ (List.eq_nil_iff_forall_not_mem.2 r.clean_ids)];exact .clean r
 |ptr id off=>simp only[PV.ren];rw[←hb id (by simp[PV.ids])];exact .ptr _ _
 |osl id off len cap sz hc=>simp only[PV.ren];rw[←hb id (by simp[PV.ids])];exact .osl _ _ _ _ _ hc
 |row id v es r t=>
  obtain⟨h1,h2,h3⟩:=hr id (by simp[PV.ids]);simp only[PV.ren];exact .row _ v es r fun n sz e hn=>by rw[h1]at hn;rw[h2,h3];exact t n sz e hn
 |vsl id len sz v hv t=>
  obtain⟨h1,h2,h3⟩:=hr id (by simp[PV.ids]);simp only[PV.ren];exact .vsl _ len sz v hv fun n sz' e hn=>by rw[h1]at hn;rw[h2,h3];exact t n sz' e hn
 |vptr id n sz i off v hv hi t=>
  obtain⟨h1,h2,h3⟩:=hr id (by simp[PV.ids]);simp only[PV.ren];exact .vptr _ n sz i off v hv hi fun n' sz' e hn=>by rw[h1]at hn;rw[h3];exact t n' sz' e hn
 |agg vs cs hl _ ih=>
  simp only[PV.ren];refine .agg vs _ (by rw[PV.renL_length];exact hl) fun i hi=> ?_
  rw[PV.renL_length]at hi;rw[PV.renL_getD cs i hi];have sub:∀k,k∈(cs.getD i .any).ids→k∈(PV.agg cs).ids:=fun k hk=>by simp only[PV.ids,PV.mem_idsL];exact⟨_,Ze hi,hk⟩
  exact ih i hi (fun k hk=>hb k (sub _ hk)) (fun k hk=>hr k (sub _ hk))
 |tup vs cs hl _ ih=>
  simp only[PV.ren];refine .tup vs _ (by rw[PV.renL_length];exact hl) fun i hi=> ?_
  rw[PV.renL_length]at hi;rw[PV.renL_getD cs i hi];have sub:∀k,k∈(cs.getD i .any).ids→k∈(PV.tup cs).ids:=fun k hk=>by simp only[PV.ids,PV.mem_idsL];exact⟨_,Ze hi,hk⟩
  exact ih i hi (fun k hk=>hb k (sub _ hk)) (fun k hk=>hr k (sub _ hk))
 |fn h vs cs hl _ ih=>
  simp only[PV.ren];refine .fn h vs _ (by rw[PV.renL_length];exact hl) fun i hi=> ?_
  rw[PV.renL_length]at hi;rw[PV.renL_getD cs i hi];have sub:∀k,k∈(cs.getD i .any).ids→k∈(PV.fn h cs).ids:=fun k hk=>by simp only[PV.ids,PV.mem_idsL];exact⟨_,Ze hi,hk⟩
  exact ih i hi (fun k hk=>hb k (sub _ hk)) (fun k hk=>hr k (sub _ hk))
theorem RepS.unren {v:Value} {p':PV} (r:RepS S M' q' v p'):∀p:PV,p.ren f g=p'→(∀i,.b i∈p.ids→M'.φ (g i)=M.φ i)→(∀i,.r i∈p.ids→q' (f i)=q i∧M'.κ (f i)=M.κ i∧M'.ψ (f i)=M.ψ i)→RepS S M q v p:=by
 induction r with
 |clean r=>
  intro p hp hb hr;have hc:p.ids= []:=by
   have h:=Dq (f:=f) (g:=g) p;rw[hp,List.eq_nil_iff_forall_not_mem.2 r.clean_ids]at h;simpa using h.symm
  rw[WS _ hc]at hp;subst hp;exact .clean r
 |ptr id off=>
  intro p hp hb hr;cases p with
  |ptr i o=>simp only[PV.ren,PV.ptr.injEq]at hp;obtain⟨rfl,rfl⟩:=hp;rw[hb i (by simp[PV.ids])];exact .ptr _ _
  |sl t es=>cases t<;>simp[PV.ren]at hp
  |_=>simp[PV.ren]at hp
 |osl id off len cap sz hc=>
  intro p hp hb hr;cases p with
  |osl i o l z=>simp only[PV.ren,PV.osl.injEq]at hp;obtain⟨rfl,rfl,rfl,rfl⟩:=hp;rw[hb i (by simp[PV.ids])];exact .osl _ _ _ _ _ hc
  |sl t es=>cases t<;>simp[PV.ren]at hp
  |_=>simp[PV.ren]at hp
 |row id v es r t=>
  intro p hp hb hr;cases p with
  |sl t' es'=>
   cases t' with
   |row i=>
    simp only[PV.ren,PV.sl.injEq,Tok.row.injEq]at hp;obtain⟨rfl,rfl⟩:=hp;obtain⟨h1,h2,h3⟩:=hr i (by simp[PV.ids]);exact .row _ v _ r fun n sz e hn=>by rw[←h1]at hn;rw[←h2,←h3];exact t n sz e hn
   |_=>simp[PV.ren]at hp
  |_=>simp[PV.ren]at hp
 |vsl id len sz v hv t=>
  intro p hp hb hr;cases p with
  |vsl i l z=>
   simp only[PV.ren,PV.vsl.injEq]at hp;obtain⟨rfl,rfl,rfl⟩:=hp;obtain⟨h1,h2,h3⟩:=hr i (by simp[PV.ids]);exact .vsl _ _ _ v hv fun n sz' e hn=>by rw[←h1]at hn;rw[←h2,←h3];exact t n sz' e hn
  |sl t es=>cases t<;>simp[PV.ren]at hp
  |_=>simp[PV.ren]at hp
 |vptr id n sz i off v hv hi t=>
  intro p hp hb hr;cases p with
  |vptr j n' sz' i' off'=>
   simp only[PV.ren,PV.vptr.injEq]at hp;obtain⟨rfl,rfl,rfl,rfl,rfl⟩:=hp;obtain⟨h1,h2,h3⟩:=hr j (by simp[PV.ids]);exact .vptr _ _ _ _ _ v hv hi fun n' sz' e hn=>by rw[←h1]at hn;rw[←h3];exact t n' sz' e hn
  |sl t es=>cases t<;>simp[PV.ren]at hp
  |_=>simp[PV.ren]at hp
 |agg vs cs' hl _ ih=>
  intro p hp hb hr;cases p with
  |agg cs=>
   simp only[PV.ren,PV.agg.injEq]at hp;subst hp;rw[PV.renL_length]at hl;refine .agg vs cs hl fun i hi=> ?_
   have sub:∀k,k∈(cs.getD i .any).ids→k∈(PV.agg cs).ids:=fun k hk=>by simp only[PV.ids,PV.mem_idsL];exact⟨_,Ze hi,hk⟩
   exact ih i (by rw[PV.renL_length];exact hi) _ (PV.renL_getD cs i hi).symm (fun k hk=>hb k (sub _ hk)) (fun k hk=>hr k (sub _ hk))
  |sl t es=>cases t<;>simp[PV.ren]at hp
  |_=>simp[PV.ren]at hp
 |tup vs cs' hl _ ih=>
  intro p hp hb hr;cases p with
  |tup cs=>
   simp only[PV.ren,PV.tup.injEq]at hp;subst hp;rw[PV.renL_length]at hl;refine .tup vs cs hl fun i hi=> ?_
   have sub:∀k,k∈(cs.getD i .any).ids→k∈(PV.tup cs).ids:=fun k hk=>by simp only[PV.ids,PV.mem_idsL];exact⟨_,Ze hi,hk⟩
   exact ih i (by rw[PV.renL_length];exact hi) _ (PV.renL_getD cs i hi).symm (fun k hk=>hb k (sub _ hk)) (fun k hk=>hr k (sub _ hk))
  |sl t es=>cases t<;>simp[PV.ren]at hp
  |_=>simp[PV.ren]at hp
 |fn h vs cs' hl _ ih=>
  intro p hp hb hr;cases p with
  |fn h' cs=>
   simp only[PV.ren,PV.fn.injEq]at hp;obtain⟨rfl,hp⟩:=hp;subst hp;rw[PV.renL_length]at hl;refine .fn _ vs cs hl fun i hi=> ?_
   have sub:∀k,k∈(cs.getD i .any).ids→k∈(PV.fn h' cs).ids:=fun k hk=>by simp only[PV.ids,PV.mem_idsL];exact⟨_,Ze hi,hk⟩
   exact ih i (by rw[PV.renL_length];exact hi) _ (PV.renL_getD cs i hi).symm (fun k hk=>hb k (sub _ hk)) (fun k hk=>hr k (sub _ hk))
  |sl t es=>cases t<;>simp[PV.ren]at hp
  |_=>simp[PV.ren]at hp
open Go.RowKit
def ZaT (P:Program) (t:TypeId):Bool:=match P.underlying t with|some (.int _)|some .string|some .bool=>true|_=>false
def Zmx (P:Program) (n:Nat) (f:Field):Bool:=
 (ZaT P f.type&&(decide (f.offset<n)&&decide (tsz P f.type=1)))||
 (match P.underlying f.type with
  |some (.struct gs)=>decide (f.offset+tsz P f.type≤n)&&gs.toList.all fun g=>ZaT P g.type&&(decide (g.offset<tsz P f.type)&&decide (tsz P g.type=1))
  |_=>false)
def Zk3 (P:Program) (t:TypeId):Option (List Leaf×PV):=
 match P.underlying t with
 |some (.map kt et)=>match P.underlying kt with
  |some (.struct fs)=>match V7 P Sv kt,P.info? et with
   |some ls,some i=>match i.zero with
    |some z=>if fs.toList.all (Zmx P ls.length)then some (ls,Y7 z)else none
    |none=>none
   |_,_=>none
  |_=>none
 |_=>none
def SD (m:Hp):PV→Option MapC
 | .rmap ks vs=>some ⟨ks,vs⟩
 | .mref b=>m.o b
 |_=>none
def DN (ls:List Leaf) (a:List PV):List PV→Nat→Option (Option Nat)
 | [],_=>some none
 | .agg b::xs,i=>match Zz ls a b with
  |some true=>some (some i)
  |some false=>DN ls a xs (i+1)
  |none=>none
 |_::_,_=>none
def Ziv (z:PV) (vs:List PV) (ok:Bool):Option Nat→PV
 |some i=>if ok then .tup [vs.getD i .any,.bool true]else vs.getD i .any
 |none=>if ok then .tup [z,.bool false]else z
def Xf (P:Program) (t:TypeId) (x k:PV) (ok:Bool) (m:Hp):ARes:=
 match Zk3 P t,SD m x,k with
 |some (ls,z),some c,.agg a=>match DN ls a c.ks 0 with
  |some r=>⟨a.length=ls.length,Ziv z c.vs ok r,m⟩
  |none=> .fail
 |_,_,_=> .fail
def ZI (P:Program) (t:TypeId) (x k v:PV) (m:Hp):ARes:=
 match x with
 | .mref b=>match Zk3 P t,m.o b,k with
  |some (ls,_),some c,.agg a=>match DN ls a c.ks 0 with
   |some (some i)=>⟨a.length=ls.length∧PV.cleanL a=true∧v.clean=true,.tup [],{ m with o:=upd m.o b (some ⟨c.ks,c.vs.set i v.share⟩) }⟩
   |some none=>⟨a.length=ls.length∧PV.cleanL a=true∧v.clean=true,.tup [],{ m with o:=upd m.o b (some ⟨c.ks++ [.agg (PV.shareL a)],c.vs++ [v.share]⟩) }⟩
   |none=> .fail
  |_,_,_=> .fail
 |_=> .fail
def mapIt (m:Hp) (it:IterC):Option MapC:=match it.c with
 |some c=>some c
 |none=>m.o it.b
def WE (x:PV) (m:Hp):ARes:=
 match x with
 | .iptr b=>match m.it b with
  |some it=>match mapIt m it,it.seen.getLast? with
   |some c,some i=>⟨c.ks.length=it.n∧i<c.ks.length,.tup [c.ks.getD i .any,c.vs.getD i .any],m⟩
   |_,_=> .fail
  |none=> .fail
 |_=> .fail
def Zga:PV→Bool
 | .mref _=>true
 | .rmap _ _=>true
 |_=>false
def ZeX (P:Program) (t:TypeId):Bool:=match P.underlying t with|some (.map _ _)=>true|_=>false
def XJ (P:Program) (t:TypeId) (x:PV) (m:Hp):ARes:=
 match SD m x with
 |some c=>⟨ZeX P t=true,.int .i64 c.ks.length,m⟩
 |none=> .fail
section
variable {P:Program} {B:Frm} {S:Stable} {M:Maps} {s:St} {a:Act} {w:World}
theorem T7 {t:TypeId} {ls:List Leaf} {z:PV} (h:Zk3 P t=some (ls,z)):∃kt et fs i zv,P.underlying t=some (.map kt et)∧P.underlying kt=some (.struct fs)∧V7 P Sv kt=some ls∧P.info? et=some i∧i.zero=some zv∧z=Y7 zv∧
  ∀f∈fs.toList,Zmx P ls.length f=true:=by
 unfold Zk3 at h;split at h
 ·rename_i kt et h1;split at h
  ·rename_i fs h2;split at h
   ·rename_i l i h3 h4;split at h
    ·rename_i zv h5;split at h
     ·rename_i h6;simp only[Option.some.injEq,Prod.mk.injEq]at h;obtain⟨rfl,rfl⟩:=h;exact⟨kt,et,fs,i,zv,h1,h2,h3,h4,h5,rfl,fun f hf=>List.all_eq_true.1 h6 f hf⟩
     ·cases h
    ·cases h
   ·cases h
  ·cases h
 ·cases h
theorem Fn (hs:Sim B S M s a w) {v:Value} {x:PV} {c:MapC} (hr:RepS S M s.m.q v x) (hm:SD s.m x=some c):
  ∃b es,v= .map (some b)∧w.heap[b]? = some (.map ⟨es⟩ es.length)∧es.length=c.ks.length∧c.vs.length=c.ks.length∧
   (∀i,i<c.ks.length→(es.getD i default).born=i)∧(∀i,i<c.ks.length→Rep S (es.getD i default).key (c.ks.getD i .any))∧(∀i,i<c.ks.length→Rep S (es.getD i default).val (c.vs.getD i .any)):=by
 cases x with
 |rmap ks vs=>
  simp only[SD,Option.some.injEq]at hm;subst hm;cases hr with
  |clean r=>
   cases r with
   |rmap b es _ _ hS hk hv hb hK hV=>exact⟨b,es,rfl,hs.stable.s.m b es hS,hk,hv,hb,hK,hV⟩
 |mref b=>
  simp only[SD]at hm;obtain⟨_,_,es,h1,h2,h3,h4,h5,h6⟩:=hs.stable.o b c hm;have e:v= .map (some b):=by cases hr with|clean r=>cases r;rfl
  exact⟨b,es,e,h1,h2,h3,h4,h5,h6⟩
 |_=>simp[SD]at hm
theorem ZbI (hs:Sim B S M s a w) {t ty:TypeId} {u:Value} {p:PV} (hu:RepS S M s.m.q u p) (hok:(XJ P t p s.m).ok):Snd P B S s a w (Builtin.len_ #[t] ty #[u]) (XJ P t p s.m):=by
 revert hok
 unfold XJ;split
 ·rename_i c hm;intro hk;simp only at hk;obtain⟨b,es,rfl,e1,e2,_⟩:=Fn hs hu hm;unfold ZeX at hk;split at hk
  ·rename_i k e h1;have hg:=MapKept.run_getObj_map (P:=P) e1;refine Snd.clean hs (v:= .int .i64 c.ks.length) ?_ (.int _ _);simp[Builtin.len_,run_underlying h1,hg,goInt,e2]
  ·cases hk
 ·exact fun h=>h.elim
theorem SI {kt:TypeId} {fs:Array Field} {vs:List Value} (hu:P.underlying kt=some (.struct fs)) (hf:∀f∈fs.toList,ZaT P f.type=true∧f.offset<vs.length∧tsz P f.type=1) (em:Bool) (n:Nat) (w:World):
  (Instr.checkKey em (n+2) kt (.agg ⟨vs⟩)).run P w= .ok () w:=by
 obtain⟨fs⟩:=fs;have step:∀f∈fs,∃v,(part f.type ⟨vs⟩ f.offset).run P w= .ok v w∧(Instr.checkKey em (n+1) f.type v).run P w= .ok () w:=fun f hm=>by
  obtain⟨h1,h2,h3⟩:=hf f hm;have hb:∃d,P.underlying f.type=some d∧Yd P f.type=false∧ ∀v,(Instr.checkKey em (n+1) f.type v).run P w= .ok () w:=by
   unfold ZaT at h1;split at h1
   ·rename_i k hk;exact⟨_,hk,by simp[Yd,hk],fun v=>by simp[Instr.checkKey,run_underlying hk]⟩
   ·rename_i hk;exact⟨_,hk,by simp[Yd,hk],fun v=>by simp[Instr.checkKey,run_underlying hk]⟩
   ·rename_i hk;exact⟨_,hk,by simp[Yd,hk],fun v=>by simp[Instr.checkKey,run_underlying hk]⟩
   ·cases h1
  obtain⟨d,hd,ht,hc⟩:=hb;exact⟨_,YR hd (by omega) (fun _=>h3) w,hc _⟩
 have loop:∀(l:List Field),(∀f∈l,f∈fs)→(forIn l PUnit.unit (fun f (_:PUnit)=>(if f.name≠ "_" then(do let x ←part f.type ⟨vs⟩ f.offset;Instr.checkKey em (n+1) f.type x;Pure.pure (ForInStep.yield PUnit.unit))else Pure.pure (ForInStep.yield PUnit.unit):Sem (ForInStep PUnit)))).run P w= .ok PUnit.unit w:=by
  intro l
  induction l with
  |nil=>intro _;simp
  |cons f l ih=>
   intro hl;obtain⟨v,h1,h2⟩:=step f (hl f (by simp));rw[List.forIn_cons]
   by_cases hn:f.name≠ "_"
   ·simp only[hn,ne_eq,not_false_eq_true,if_true,Sem.run_bind,h1,h2,Result.andThen_ok,Sem.run_pure];simpa using ih (fun g hg=>hl g (by simp[hg]))
   ·simp only[hn,if_false,Sem.run_bind,Result.andThen_ok,Sem.run_pure];simpa using ih (fun g hg=>hl g (by simp[hg]))
 have:=loop fs (fun _ h=>h);unfold Instr.checkKey;simp only[Sem.run_bind,run_underlying hu,Result.andThen_ok];simp at this ⊢;rw[this];rfl
theorem X7 {kt:TypeId} {fs:Array Field} {vs:List Value} (hu:P.underlying kt=some (.struct fs)) (hf:∀f∈fs.toList,Zmx P vs.length f=true) (em:Bool) (n:Nat) (w:World):
  (Instr.checkKey em (n+3) kt (.agg ⟨vs⟩)).run P w= .ok () w:=by
 obtain⟨fs⟩:=fs;have step:∀f∈fs,∃v,(part f.type ⟨vs⟩ f.offset).run P w= .ok v w∧(Instr.checkKey em (n+2) f.type v).run P w= .ok () w:=fun f hm=>by
  have h:=hf f hm;unfold Zmx at h;simp only[Bool.or_eq_true,Bool.and_eq_true,decide_eq_true_eq]at h;rcases h with ⟨h1,h2,h3⟩|h
  ·have hb:∃d,P.underlying f.type=some d∧Yd P f.type=false∧ ∀v,(Instr.checkKey em (n+2) f.type v).run P w= .ok () w:=by
    unfold ZaT at h1;split at h1
    ·rename_i k hk;exact⟨_,hk,by simp[Yd,hk],fun v=>by simp[Instr.checkKey,run_underlying hk]⟩
    ·rename_i hk;exact⟨_,hk,by simp[Yd,hk],fun v=>by simp[Instr.checkKey,run_underlying hk]⟩
    ·rename_i hk;exact⟨_,hk,by simp[Yd,hk],fun v=>by simp[Instr.checkKey,run_underlying hk]⟩
    ·cases h1
   obtain⟨d,hd,ht,hc⟩:=hb;exact⟨_,YR hd (by omega) (fun _=>h3) w,hc _⟩
  ·split at h
   ·rename_i gs hg;simp only[Bool.and_eq_true,decide_eq_true_eq,List.all_eq_true]at h;obtain⟨h1,h2⟩:=h;have ht:Yd P f.type=true:=by simp[Yd,hg]
    refine⟨_,YR hg h1 (fun e=>by rw[ht]at e;cases e) w,?_⟩;rw[show YT P f.type ((vs.drop f.offset).take (tsz P f.type))= .agg ⟨(vs.drop f.offset).take (tsz P f.type)⟩by simp[YT,ht]];refine SI hg (fun g hgm=> ?_) em n w;obtain⟨k1,k2,k3⟩:=h2 g hgm;exact⟨k1,by rw[List.length_take,List.length_drop];omega,k3⟩
   ·cases h
 have loop:∀(l:List Field),(∀f∈l,f∈fs)→(forIn l PUnit.unit (fun f (_:PUnit)=>(if f.name≠ "_" then(do let x ←part f.type ⟨vs⟩ f.offset;Instr.checkKey em (n+2) f.type x;Pure.pure (ForInStep.yield PUnit.unit))else Pure.pure (ForInStep.yield PUnit.unit):Sem (ForInStep PUnit)))).run P w= .ok PUnit.unit w:=by
  intro l
  induction l with
  |nil=>intro _;simp
  |cons f l ih=>
   intro hl;obtain⟨v,h1,h2⟩:=step f (hl f (by simp));rw[List.forIn_cons]
   by_cases hn:f.name≠ "_"
   ·simp only[hn,ne_eq,not_false_eq_true,if_true,Sem.run_bind,h1,h2,Result.andThen_ok,Sem.run_pure];simpa using ih (fun g hg=>hl g (by simp[hg]))
   ·simp only[hn,if_false,Sem.run_bind,Result.andThen_ok,Sem.run_pure];simpa using ih (fun g hg=>hl g (by simp[hg]))
 have:=loop fs (fun _ h=>h);unfold Instr.checkKey;simp only[Sem.run_bind,run_underlying hu,Result.andThen_ok];simp at this ⊢;rw[this];rfl
theorem GY {kt:TypeId} {ls:List Leaf} {vs:List Value} {cs:List PV} {q:Rows} (hl:V7 P Sv kt=some ls) (ht:Yd P kt=true) (hk:RepL S M q vs cs) (w:World):
  ∀(es:List MapEntry) (ks:List PV) (i:Nat) (r:Option Nat),es.length=ks.length→(∀j,j<ks.length→Rep S (es.getD j default).key (ks.getD j .any))→DN ls cs ks i=some r→
   (Instr.findAsking kt (.agg ⟨vs⟩) es i).run P w= .ok (r.map fun j=>(j,(es.getD (j-i) default).val)) w∧(∀j,r=some j→i≤j∧j<i+ks.length∧ ∃ds,ks.getD (j-i) .any= .agg ds∧Zz ls cs ds=some true)
 | [],[],i,r,_,_,h=>by
  simp only[DN,Option.some.injEq]at h;subst h;exact⟨by simp[Instr.findAsking],by simp⟩
 |e::es,k::ks,i,r,hlen,hK,h=>by
  have hk0:=hK 0 (by simp);simp only[List.getD_cons_zero]at hk0;cases k with
  |agg ds=>
   simp only[DN]at h;obtain⟨us,hus,hl2,hru⟩:=(RepS.clean (S:=S) (M:=M) (q:=q) hk0).agg_inv;have heq:∀ {b},Zz ls cs ds=some b→(Op.equal kt (.agg ⟨vs⟩) e.key).run P w= .ok b w:=fun {b} hb=>by
    have:=Zic (S:=S) (M:=M) (h:=q) Sv kt ls hl Op.maxDepth (by decide) vs us cs ds b hk ⟨hl2,hru⟩ hb w;rw[hus];simpa[YT,ht,Op.equal]using this
   cases hb:Zz ls cs ds with
   |none=>rw[hb]at h;cases h
   |some b=>
    rw[hb]at h;cases b with
    |true=>
     simp only[Option.some.injEq]at h;subst h;refine⟨by simp[Instr.findAsking,heq hb],fun j hj=> ?_⟩;cases hj;exact⟨Nat.le_refl _,by simp,ds,by simp,hb⟩
    |false=>
     simp only at h;obtain⟨h1,h2⟩:=GY hl ht hk w es ks (i+1) r (by simpa using hlen) (fun j hj=>by simpa using hK (j+1) (by simpa using hj)) h;refine⟨?_,fun j hj=> ?_⟩
     ·simp only[Instr.findAsking,Sem.run_bind,heq hb,Result.andThen_ok,Bool.false_eq_true,if_false,h1];cases r with
      |none=>rfl
      |some j=>
       obtain⟨g1,g2,_⟩:=h2 j rfl;have:j-i=(j-(i+1))+1:=by omega
       simp only[Option.map_some,this,List.getD_cons_succ]
     ·obtain⟨g1,g2,ds',g3,g4⟩:=h2 j hj;have:j-i=(j-(i+1))+1:=by omega
      exact⟨by omega,by simp;omega,ds',by rw[this,List.getD_cons_succ];exact g3,g4⟩
  |_=>simp[DN]at h
 | [],_::_,_,_,hlen,_,_=>by simp at hlen
 |_::_,[],_,_,hlen,_,_=>by simp at hlen
theorem ZbH (hs:Sim B S M s a w) {t:TypeId} {u v:Value} {x k:PV} {ok:Bool} (hu:RepS S M s.m.q u x) (hv:RepS S M s.m.q v k) (hok:(Xf P t x k ok s.m).ok):Snd P B S s a w (Instr.lookup t u v ok) (Xf P t x k ok s.m):=by
 revert hok
 unfold Xf;split
 ·rename_i ls z c cs h1 h2;split
  ·rename_i r hr;intro hlen;obtain⟨kt,et,fs,i,zv,t1,t2,t3,t4,t5,rfl,t6⟩:=T7 h1;obtain⟨b,es,rfl,e1,e2,e3,e4,e5,e6⟩:=Fn hs hu h2;obtain⟨vs,rfl,hl,hrv⟩:=hv.agg_inv;have ht:Yd P kt=true:=by simp[Yd,t2]
   obtain⟨f1,f2⟩:=GY (S:=S) (M:=M) (q:=s.m.q) t3 ht ⟨hl,hrv⟩ w es c.ks 0 r e2 e5 hr;have hck:=X7 (vs:=vs) t2 (fun f hf=>by rw[hl,hlen];exact t6 f hf) (⟨es⟩:Array MapEntry).isEmpty 9997 w;have hfk:(Instr.findKey kt (.agg ⟨vs⟩) es).run P w= .ok (r.map fun j=>(j,(es.getD (j-0) default).val)) w:=by
    rw[run_findKey_eq w (by rw[t2]) (.agg ⟨vs⟩) es];exact f1
   have hz:(zeroValue et).run P w= .ok zv w:=by simp[zeroValue,Ty t4,t5]
   have hg:=MapKept.run_getObj_map (P:=P) e1;cases r with
   |none=>
    refine Snd.clean hs (v:=if ok then .tuple #[zv,.bool false]else zv) ?_ ?_
    ·simp only[Instr.lookup,Sem.run_bind,run_underlying t1,Result.andThen_ok,hg,Sem.run_pure,hck,hfk,Option.map_none,hz]
    ·cases ok
     ·exact X2 S zv
     ·refine .tup [zv,.bool false] [Y7 zv,.bool false] rfl (fun i hi=> ?_)
      match i,hi with
      |0,_=>exact X2 S zv
      |1,_=>exact .bool _
   |some j=>
    obtain⟨_,g2,_⟩:=f2 j rfl;have hval:=e6 j (by omega);refine Snd.clean hs (v:=if ok then .tuple #[(es.getD j default).val,.bool true]else(es.getD j default).val) ?_ ?_
    ·simp only[Instr.lookup,Sem.run_bind,run_underlying t1,Result.andThen_ok,hg,Sem.run_pure,hck,hfk,Option.map_some,Nat.sub_zero]
    ·cases ok
     ·exact hval
     ·refine .tup [_,.bool true] [_,.bool true] rfl (fun i hi=> ?_)
      match i,hi with
      |0,_=>exact hval
      |1,_=>exact .bool _
  ·exact fun h=>h.elim
 ·exact fun h=>h.elim
theorem Sim.special (hs:Sim B S M s a w) {w':World} {b:Nat} (hb:∀vs t f,w.heap[b]? ≠ some (.cells vs t f)) (hw:∀k,k≠b→w'.heap[k]? = w.heap[k]?) (hsz:w'.heap.size=w.heap.size)
  {o':Nat→Option MapC} {it':Nat→Option IterC} (hst:Stab B S w' o' it') (hom:∀k d,s.m.om k=some d→k≠b∧o' k=none):Sim B S M (s.with { s.m with o:=o',it:=it' }) a w':=by
 have live:∀i,Live s.m i→Live { s.m with o:=o',it:=it' } i:=fun i h=>by cases i<;>exact h
 refine⟨hs.defers,hs.hn,fun k hk=>by rw[hsz];exact hs.hB k hk,hst,hs.fr,fun i k hk=>live k (hs.ids i k hk),fun i cs hi=> ?_,fun i r hi=> ?_,hs.inj,hs.injq,hs.injx,fun k d hk=> ?_,fun i es he=> ?_,⟨hs.pn.h,hs.pn.q⟩,hs.hz⟩
 ·have h':=hs.blk i cs hi;show Sg _ _ _ _ _ _ _ (s.m.z i);cases hz:s.m.z i with
  |false=>
   rw[hz]at h';obtain⟨g1,g2,⟨us,t',g3,g4,g5⟩,g6⟩:=h';exact⟨g1,g2,⟨us,t',by rw[hw _ (fun e=>hb _ _ _ (e▸g3))];exact g3,g4,g5⟩,fun c hc k hk=>live k (g6 c hc k hk)⟩
  |true=>rw[hz]at h';exact h'
 ·have h':=hs.row i r hi;cases r with
  |live n sz e=>
   obtain⟨g1,g2⟩:=h';refine⟨g1,fun c hc=> ?_⟩;obtain⟨k0,k1,k2,⟨us,k3,k4⟩,k5⟩:=g2 c hc;exact⟨k0,k1,k2,⟨us,by rw[hw _ (fun e=>hb _ _ _ (e▸k3))];exact k3,k4⟩,k5⟩
  |vec n sz e=>
   obtain⟨g1,g2⟩:=h';refine⟨g1,fun c hc=> ?_⟩;obtain⟨k0,k1,k2,⟨us,k3,k4⟩,k5⟩:=g2 c hc;exact⟨k0,k1,k2,⟨us,by rw[hw _ (fun e=>hb _ _ _ (e▸k3))];exact k3,k4⟩,k5⟩
  |dead=>trivial
 ·obtain⟨g1,g2,g3,g4⟩:=hs.rm k d hk;exact⟨g1,g2,(hom k d hk).2,g4.move (SLe.refl _) (hw k (hom k d hk).1) (fun v p r _=>r) live⟩
 ·refine(hs.vc i es he).move (fun _ _ _ h=>h) rfl rfl (fun hk=>hw _ fun ee=> ?_) (fun v p r _=>r) live;obtain⟨sz,e,q1⟩:=hs.vec_q he;obtain⟨_,h2⟩:=hs.row i _ q1;obtain⟨_,_,_,⟨vs,k5,_⟩,_⟩:=h2 (M.κ i-1) (by omega);exact hb _ _ _ (ee▸k5)
theorem Sim.om_ne (hs:Sim B S M s a w) {k b:Nat} {d c:MapC} (hk:s.m.om k=some d) (h2:s.m.o b=some c) {x:Option MapC}:k≠b∧upd s.m.o b x k=none:=by
 have g3:=(hs.rm k d hk).2.2.1;have hne:k≠b:=fun e=>by subst e;rw[h2]at g3;cases g3
 exact⟨hne,by rw[Zc _ _ (Ne.symm hne)];exact g3⟩
theorem ZbC {w:World} {b:Nat} {o o':Obj} (h:w.heap[b]? = some o):({ w with heap:=w.heap.setIfInBounds b o' }:World).heap[b]? = some o'∧ ∀k,k≠b→({ w with heap:=w.heap.setIfInBounds b o' }:World).heap[k]? = w.heap[k]? :=
 MapKept.heap_set h
theorem V0 {w':World} {b:Nat} (hs:StabS S w) (hb:∀vs t f,w.heap[b]? ≠ some (.cells vs t f)) (hm:S.m b=none) (hw:∀k,k≠b→w'.heap[k]? = w.heap[k]?):StabS S w':=by
 refine⟨fun k o v h=> ?_,fun k es h=> ?_,fun k h=> ?_⟩
 rotate_right
 ·obtain⟨vs,t,e⟩:=hs.y k h;exact⟨vs,t,by rw[hw k (fun e'=>by subst e';exact hb _ _ _ e)];exact e⟩
 ·have h':=hs.c k o v h;have hk:k≠b:=fun e=>by
   subst e;unfold World.cell? at h';simp only at h';cases h'
  rw[←h'];exact World.cell?_of_block (hw k hk)
 ·rw[hw k (fun e=>by subst e;rw[hm]at h;cases h)];exact hs.m k es h
theorem Zcq {l:Leaf} {c d:PV} {q:Rows} {u v:Value} (h:Tb l c d=some true) (hu:RepS S M q u c) (hv:RepS S M q v d):u=v∧ ∀n,Instr.sameBits n v v=true:=by
 cases l with
 |int=>
  obtain⟨k,x,y,rfl,rfl,e⟩:=Fc h;have e:x=y:=by simpa using e.symm
  subst e;exact⟨by rw[hu.int_inv,hv.int_inv],fun n=>by rw[hv.int_inv];simp[Instr.sameBits]⟩
 |bool=>
  obtain⟨x,y,rfl,rfl,e⟩:=GX h;have e:x=y:=by simpa using e.symm
  subst e;exact⟨by rw[hu.bool_inv,hv.bool_inv],fun n=>by rw[hv.bool_inv];simp[Instr.sameBits]⟩
 |str=>
  obtain⟨x,y,rfl,rfl,e⟩:=Fe h;have e:x=y:=by simpa using e.symm
  subst e;exact⟨by rw[hu.str_inv,hv.str_inv],fun n=>by rw[hv.str_inv];simp only[Instr.sameBits];exact(MapKept.bytes_beq _ _).2 rfl⟩
theorem VS {q:Rows}:∀ {ls:List Leaf} {cs ds:List PV} {us vs:List Value},Zz ls cs ds=some true→RepL S M q us cs→RepL S M q vs ds→us=vs∧ ∀v∈vs,∀n,Instr.sameBits n v v=true
 | [],[],[],us,vs,_,hu,hv=>by
  have e1:us= []:=by have:=hu.1;simpa using this
  have e2:vs= []:=by have:=hv.1;simpa using this
  subst e1;subst e2;exact⟨rfl,fun v hv=>by cases hv⟩
 |l::ls,c::cs,d::ds,u::us,v::vs,h,hu,hv=>by
  simp only[Zz]at h;split at h
  ·rename_i x y h1 h2;simp only[Option.some.injEq,Bool.and_eq_true]at h;obtain⟨rfl,rfl⟩:=h;obtain⟨a1,a2⟩:=hu.cons;obtain⟨b1,b2⟩:=hv.cons;obtain⟨rfl,e1⟩:=Zcq h1 a1 b1;obtain⟨rfl,e2⟩:=VS h2 a2 b2;refine⟨rfl,fun x hx=> ?_⟩;rcases List.mem_cons.1 hx with rfl|hx
   ·exact e1
   ·exact e2 x hx
  ·cases h
 | [],c::cs,_,_,_,h,_,_=>by simp[Zz]at h
 | [],[],d::ds,_,_,h,_,_=>by simp[Zz]at h
 |l::ls,[],_,_,_,h,_,_=>by simp[Zz]at h
 |l::ls,c::cs,[],_,_,h,_,_=>by simp[Zz]at h
 |l::ls,c::cs,d::ds,[],_,_,hu,_=>by have:=hu.1;simp at this
 |l::ls,c::cs,d::ds,_::_,[],_,_,hv=>by have:=hv.1;simp at this
theorem Dz (hs:Sim B S M s a w) {t:TypeId} {u v z:Value} {x k y:PV} (hu:RepS S M s.m.q u x) (hv:RepS S M s.m.q v k) (hy:RepS S M s.m.q z y) (hok:(ZI P t x k y s.m).ok):
  Zmt P B S s a w (Instr.mapUpdate t u v z) (ZI P t x k y s.m):=by
 revert hok
 unfold ZI;split
 ·rename_i b;split
  ·rename_i ls zz c cs h1 h2;obtain⟨kt,et,fs,i,zv,t1,t2,t3,t4,t5,rfl,t6⟩:=T7 h1;have hu':u= .map (some b):=by cases hu with|clean r=>cases r;rfl
   subst hu';obtain⟨o1,o2,es,e1,e2,e3,e4,e5,e6⟩:=hs.stable.o b c h2;obtain⟨vs,rfl,hl,hrv⟩:=hv.agg_inv;have ht:Yd P kt=true:=by simp[Yd,t2]
   have hg:=MapKept.run_getObj_map (P:=P) e1;have hnc:∀vs t f,w.heap[b]? ≠ some (.cells vs t f):=fun vs t f h=>by rw[e1]at h;cases h
   have hck:∀(hlen:cs.length=ls.length),(Instr.checkKey false 10000 kt (.agg ⟨vs⟩)).run P w= .ok () w:=fun hlen=>X7 (vs:=vs) t2 (fun f hf=>by rw[hl,hlen];exact t6 f hf) false 9997 w
   have main:∀(es':List MapEntry) (c':MapC),(Instr.mapUpdate t (.map (some b)) (.agg ⟨vs⟩) z).run P w= .ok () { w with heap:=w.heap.setIfInBounds b (.map ⟨es'⟩ es'.length) }→
     es'.length=c'.ks.length→c'.vs.length=c'.ks.length→(∀i,i<c'.ks.length→(es'.getD i default).born=i)→(∀i,i<c'.ks.length→Rep S (es'.getD i default).key (c'.ks.getD i .any))→(∀i,i<c'.ks.length→Rep S (es'.getD i default).val (c'.vs.getD i .any))→
     Zmt P B S s a w (Instr.mapUpdate t (.map (some b)) (.agg ⟨vs⟩) z) ⟨cs.length=ls.length∧PV.cleanL cs=true∧y.clean=true,.tup [],{ s.m with o:=upd s.m.o b (some c') }⟩:=by
    intro es' c' hrun g1 g2 g3 g4 g5;obtain⟨w1,w2⟩:=ZbC (o':= .map ⟨es'⟩ es'.length) e1;refine⟨_,S,M,hrun,hs.special hnc w2 (by simp) ⟨V0 hs.stable.s hnc o2 w2,fun b2 c2 hc2=> ?_,fun b2 x2 hx2=> ?_⟩ (fun k d hk=>hs.om_ne hk h2),rfl,SLe.refl _,fun _ _=>⟨fun _=>rfl,rfl⟩,⟨rfl,rfl,rfl,by simp,fun k hk=>w2 k (fun e=>o1 (e▸hk))⟩⟩
    ·by_cases e:b=b2
     ·subst e;rw[Za]at hc2;cases hc2;exact⟨o1,o2,es',w1,g1,g2,g3,g4,g5⟩
     ·rw[Zc _ _ e]at hc2;obtain⟨q1,q2,q3⟩:=hs.stable.o b2 c2 hc2;exact⟨q1,q2,q3.move (SLe.refl _) (w2 b2 (Ne.symm e))⟩
    ·obtain⟨q1,q2⟩:=hs.stable.i b2 x2 hx2;refine⟨q1,?_⟩;unfold IterAt at q2 ⊢;rw[w2 b2 (fun e=>by subst e;have q3:=q2.1;rw[e1]at q3;cases q3)];exact q2
   split
   ·rename_i j hf
    rintro ⟨hlen,hc1,hc2⟩
    obtain⟨f1,f2⟩:=GY (S:=S) (M:=M) (q:=s.m.q) t3 ht ⟨hl,hrv⟩ w es c.ks 0 _ e2 e5 hf;obtain⟨_,g2,ds,g3,g4⟩:=f2 j rfl;have hj:j<c.ks.length:=by omega
    rw[Nat.sub_zero]at g3;have hkj:=e5 j hj;rw[g3]at hkj;obtain⟨us,hus,hul,hru⟩:=(RepS.clean (S:=S) (M:=M) (q:=s.m.q) hkj).agg_inv;obtain⟨hsame,hbits⟩:=VS g4 ⟨hl,hrv⟩ ⟨hul,hru⟩;subst hsame;have hjl:j<es.length:=by omega
    have hkey:(es.getD j default).key= .agg ⟨vs⟩:=hus;have hsb:Instr.sameBits 10000 (.agg ⟨vs⟩) (.agg ⟨vs⟩)=true:=by
     simp only[Instr.sameBits,BEq.rfl,Bool.true_and];rw[List.all_eq_true]
     rintro ⟨p,q⟩ hpq
     rw[List.zip_eq_zipWith]at hpq;simp only at hpq ⊢;obtain⟨n,hn,hpn⟩:=List.getElem_of_mem hpq;simp only[List.getElem_zipWith]at hpn;cases hpn;exact hbits _ (List.getElem_mem _) _
    have hfk:(Instr.findKey kt (.agg ⟨vs⟩) es).run P w= .ok (some (j,(es.getD j default).val)) w:=by
     rw[run_findKey_eq w (by rw[t2]) (.agg ⟨vs⟩) es];simpa using f1
    have hej:(⟨es⟩:Array MapEntry)[j]? = some (es.getD j default):=by
     rw[Zb hjl];simp[hjl]
    have hmod:(⟨es⟩:Array MapEntry).modify j (fun e=> { e with key:= .agg ⟨vs⟩,val:=z })=⟨es.set j { es.getD j default with key:= .agg ⟨vs⟩,val:=z }⟩:=by
     apply Array.ext';apply List.ext_getElem?;intro n;rw[Array.getElem?_toList,Array.getElem?_modify];simp only[List.getElem?_set]
     by_cases e:j=n
     ·subst e;simp[hjl,Zb hjl]
     ·simp[e]
    have hrun:(Instr.mapUpdate t (.map (some b)) (.agg ⟨vs⟩) z).run P w= .ok () { w with heap:=w.heap.setIfInBounds b (.map ⟨es.set j { es.getD j default with key:= .agg ⟨vs⟩,val:=z }⟩ es.length) }:=by
     have hks:(Instr.keyThatStays (.agg ⟨vs⟩) (.agg ⟨vs⟩)).run P w= .ok (.agg ⟨vs⟩) w:=by simp[Instr.keyThatStays,hsb]
     simp only[Instr.mapUpdate,Sem.run_bind,run_underlying t1,Result.andThen_ok,hg,hck hlen,hfk,hej,Option.map_some,Option.getD_some,hkey,hks,hmod];exact MapKept.run_setObj_map _ e1
    have hsetlen:(es.set j { es.getD j default with key:= .agg ⟨vs⟩,val:=z }).length=es.length:=by simp
    have hget:∀i,i<c.ks.length→(es.set j { es.getD j default with key:= .agg ⟨vs⟩,val:=z }).getD i default=if i=j then { es.getD j default with key:= .agg ⟨vs⟩,val:=z } else es.getD i default:=fun i hi=>by
     rw[Zb (by simp;omega),List.getElem_set]
     by_cases e:j=i
     ·subst e;simp
     ·rw[if_neg e,if_neg (Ne.symm e)];exact(Zb (by omega)).symm
    refine main (es.set j { es.getD j default with key:= .agg ⟨vs⟩,val:=z }) ⟨c.ks,c.vs.set j y.share⟩ (by rw[hsetlen];exact hrun) (by rw[hsetlen];exact e2) (by simp[e3]) (fun i hi=> ?_) (fun i hi=> ?_) (fun i hi=> ?_)
    ·rw[hget i hi];split
     ·rename_i e;subst e;exact e4 i hi
     ·exact e4 i hi
    ·rw[hget i hi];split
     ·rename_i e;subst e;rw[←hkey];exact e5 i hi
     ·exact e5 i hi
    ·rw[hget i hi];have hgv:(c.vs.set j y.share).getD i .any=if i=j then y.share else c.vs.getD i .any:=by
      simp only at hi;rw[Zb (by simp;omega),List.getElem_set]
      by_cases e:j=i
      ·subst e;simp
      ·rw[if_neg e,if_neg (Ne.symm e)];exact(Zb (by omega)).symm
     show Rep S _ ((c.vs.set j y.share).getD i .any);rw[hgv];split
     ·exact hy.share hc2
     ·exact e6 i hi
   ·rename_i hf
    rintro ⟨hlen,hc1,hc2⟩
    obtain⟨f1,f2⟩:=GY (S:=S) (M:=M) (q:=s.m.q) t3 ht ⟨hl,hrv⟩ w es c.ks 0 _ e2 e5 hf;have hfk:(Instr.findKey kt (.agg ⟨vs⟩) es).run P w= .ok none w:=by
     rw[run_findKey_eq w (by rw[t2]) (.agg ⟨vs⟩) es];simpa using f1
    have hrun:(Instr.mapUpdate t (.map (some b)) (.agg ⟨vs⟩) z).run P w= .ok () { w with heap:=w.heap.setIfInBounds b (.map ⟨es++ [{ key:= .agg ⟨vs⟩,val:=z,born:=es.length }]⟩ (es.length+1)) }:=by
     simp only[Instr.mapUpdate,Sem.run_bind,run_underlying t1,Result.andThen_ok,hg,hck hlen,hfk,List.push_toArray];exact MapKept.run_setObj_map _ e1
    have hget:∀i,i<c.ks.length+1→(es++ [({ key:= .agg ⟨vs⟩,val:=z,born:=es.length }:MapEntry)]).getD i default=if i<c.ks.length then es.getD i default else { key:= .agg ⟨vs⟩,val:=z,born:=es.length }:=fun i hi=>by
     by_cases e:i<c.ks.length
     ·rw[if_pos e,Zd (by omega)]
     ·rw[if_neg e,Zf (by omega)];have:i-es.length=0:=by omega
      simp[this]
    have hkc:Rep S (.agg ⟨vs⟩) (.agg (PV.shareL cs)):=(RepS.agg (S:=S) (M:=M) (q:=s.m.q) vs cs hl hrv).share hc1;refine main (es++ [{ key:= .agg ⟨vs⟩,val:=z,born:=es.length }]) ⟨c.ks++ [.agg (PV.shareL cs)],c.vs++ [y.share]⟩ (by simpa using hrun) (by simp[e2]) (by simp[e3]) (fun i hi=> ?_) (fun i hi=> ?_) (fun i hi=> ?_)
    ·simp only[List.length_append,List.length_cons,List.length_nil]at hi;rw[hget i (by omega)];split
     ·rename_i e;exact e4 i e
     ·show es.length=i;omega
    ·simp only[List.length_append,List.length_cons,List.length_nil]at hi;rw[hget i (by omega)];show Rep S _ ((c.ks++ [PV.agg (PV.shareL cs)]).getD i .any);split
     ·rename_i e;rw[Zd e];exact e5 i e
     ·rename_i e;rw[Zf (by omega)];have:i-c.ks.length=0:=by omega
      simpa[this]using hkc
    ·simp only[List.length_append,List.length_cons,List.length_nil]at hi;rw[hget i (by omega)];show Rep S _ ((c.vs++ [y.share]).getD i .any);split
     ·rename_i e;rw[Zd (by omega)];exact e6 i e
     ·rename_i e;rw[Zf (by omega)];have:i-c.vs.length=0:=by omega
      simpa[this]using hy.share hc2
   ·exact fun h=>h.elim
  ·exact fun h=>h.elim
 ·exact fun h=>h.elim
theorem Sim.mapIt (hs:Sim B S M s a w) {ib:Nat} {it:IterC} {c:MapC} (h1:s.m.it ib=some it) (h2:mapIt s.m it=some c):MapAt S w it.b c:=by
 unfold PL.mapIt at h2;cases hc:it.c with
 |some d=>
  rw[hc]at h2;simp only[Option.some.injEq]at h2;subst h2;obtain⟨es,e1,e2,e3,e4,e5,e6⟩:=(hs.stable.i ib it h1).2.2 d hc;exact⟨es,hs.stable.s.m _ _ e1,e2,e3,e4,e5,e6⟩
 |none=>
  rw[hc]at h2;exact(hs.stable.o it.b c h2).2.2
theorem ZcR (hs:Sim B S M s a w) {u:Value} {x:PV} (hu:RepS S M s.m.q u x) (hok:(WE x s.m).ok):Snd P B S s a w (Instr.entry u) (WE x s.m):=by
 revert hok
 unfold WE;split
 ·rename_i b;split
  ·rename_i it h1;split
   ·rename_i c i h2 h3
    rintro ⟨g1,g2⟩
    have hu':u= .pointer (some ⟨b,0,none⟩):=by cases hu with|clean r=>cases r;rfl
    subst hu';obtain⟨_,i2,_⟩:=hs.stable.i b it h1;obtain⟨es,e1,e2,e3,e4,e5,e6⟩:=hs.mapIt h1 h2;unfold IterAt at i2;have hgi:(getObj b).run P w= .ok (.mapIter (some it.b) it.n ⟨it.seen⟩ it.n) w:=by simp[getObj,Sem.run,i2]
    have hg:=MapKept.run_getObj_map (P:=P) e1;have hlast:(⟨it.seen⟩:Array Nat).back? = some i:=by rw[List.getLast?_eq_getElem?]at h3;simpa[Array.back?]using h3
    have hfind:(⟨es⟩:Array MapEntry).find? (fun e=>e.born==i)=some (es.getD i default):=by
     simp only[List.find?_toArray];have hle:i<es.length:=by omega
     rw[List.find?_eq_some_iff_getElem];refine⟨by simpa using e4 i g2,i,hle,(Zb hle).symm,fun j hj=> ?_⟩;have:=e4 j (by omega);rw[Zb (by omega)]at this;simp[this];omega
    refine Snd.clean hs (v:= .tuple #[(es.getD i default).key,(es.getD i default).val]) ?_ ?_
    ·have hcl:(es.length !=it.n)=false:=by simp;omega
     simp only[Instr.entry,Sem.run_bind,hgi,Result.andThen_ok,hlast,hg,hcl,Bool.false_eq_true,if_false,hfind,Sem.run_pure]
    ·refine .tup [_,_] [_,_] rfl (fun j hj=> ?_)
     match j,hj with
     |0,_=>exact e5 i g2
     |1,_=>exact e6 i g2
   ·exact fun h=>h.elim
  ·exact fun h=>h.elim
 ·exact fun h=>h.elim
end
open Go.RowKit
def tkn (P:Program) (t:TypeId):Bool:=(P.underlying t).isSome
def U7 (P:Program) (t:TypeId):Option (List PV):=aMakeFull.tbdz P t
def ZP (P:Program) (b:Builtin) (ts:List TypeId) (d:Option Nat) (xs:List PV) (m:Hp):ARes:=
 match b,ts,xs with
 | .len,[t],[x]=>if Zga x then XJ P t x m else ZhH P t x m
 | .append,[t,tx],[x,y]=>match d with
  |some d=>VQ P d t tx x y m
  |none=> .fail
 | .max,_,[x,y]=>ZhI x y m
 | .min,_,[x,y]=>ZhJ x y m
 | .complex,_,[x,y]=>ZhE x y m
 | .real,_,[x]=>FR x m
 | .imag,_,[x]=>FQ x m
 |_,_,_=> .fail
def aop (P:Program) (o:Oper) (ρ:Operand→PV) (m:Hp):ARes:=
 match o.op with
 | .move x=>⟨True,ρ x,m⟩
 | .assign x=>⟨True,ρ x,m⟩
 | .pick c x y=>DL (ρ c) (ρ x) (ρ y) m
 | .alloc t=>match o.dst,U7 P t with
  |some d,some z=>⟨m.h d=none,.ptr d 0,m.new d z⟩
  |_,_=> .fail
 | .box _ x=>match o.dst with
  |some d=>⟨m.h d=none∧(ρ x).known=true,.ptr d 0,m.new d (ρ x).cells⟩
  |none=> .fail
 | .build t parts=>U9 P t (parts.toList.map fun x=>(x.1,ρ x.2)) m
 | .buildSlice t len parts=>match o.dst with
  |some d=>Yz P d t len (parts.toList.map fun x=>(x.1,ρ x.2)) m
  |none=> .fail
 | .load t x=>if tkn P t then Ve P t (ρ x) m else .fail
 | .store t x y=>if tkn P t then Vp P t (ρ x) (ρ y) m else .fail
 | .nilCheck x=>Y1 (ρ x) m
 | .binOp op t x y _=>ZhD P op t (ρ x) (ρ y) m
 | .unOp op _ x=>aUn op (ρ x) m
 | .convert src dst x=>V9 P src dst (ρ x) m
 | .makeFunc (.func f) first caps=>if first.isEmpty then⟨Vt m (caps.toList.map ρ),.fn f (caps.toList.map ρ),frozenBy m (caps.toList.map ρ)⟩else .fail
 | .makeSlice t l c=>match o.dst with
  |some d=>match l with
   | .const (.int _ 0)=>Xm P d t (ρ c) m
   |_=>aMakeFull P d t (ρ l) (ρ c) m
  |none=> .fail
 | .slice t x lo hi mx=>if mx.isNone then TH P t (ρ x) (lo.map ρ) (hi.map ρ) m else .fail
 | .fieldAddr t x f=>Yi P t (ρ x) f m
 | .field t x f=>TF P t (ρ x) f m
 | .indexAddr t x i=>Yj P t (ρ x) (ρ i) m
 | .index t x i=>TG P t (ρ x) (ρ i) m
 | .extract x i=>We (ρ x) i m
 | .lookup t x k ok=>Xf P t (ρ x) (ρ k) ok m
 | .mapUpdate t x k v=>ZI P t (ρ x) (ρ k) (ρ v) m
 | .entry x=>WE (ρ x) m
 | .call { callee:= .builtin b,args,argTypes }=>ZP P b argTypes.toList o.dst (args.toList.map ρ) m
 |_=> .fail
mutual
def PV.dids:PV→List Ref
 | .ptr id _=> [.b id]
 | .osl id _ _ _=> [.b id]
 | .sl (.row id) es=> .r id::PV.didsL es
 | .vsl id _ _=> [.r id]
 | .vptr id _ _ _ _=> [.r id]
 | .sl _ es=>PV.didsL es
 | .rptr cs=>PV.didsL cs
 | .rmap ks vs=>PV.didsL ks++PV.didsL vs
 | .agg cs=>PV.didsL cs
 | .tup cs=>PV.didsL cs
 | .fn _ cs=>PV.didsL cs
 |_=> []
def PV.didsL:List PV→List Ref
 | []=> []
 |c::cs=>PV.dids c++PV.didsL cs
end
def XQ (P:Program) (f:FuncId):Prop:=∃fn,P.funcs[f]? = some fn∧fn.name≠ "runtime.NumGoroutine" ∧ fn.body.isSome=true
def Pure (P:Program) (f:FuncId) (args:List PV) (r:PV):Prop:=
 XQ P f∧r.dids= []∧ ∀(w:World) (S:Stable) (vs:List Value),StabS S w→Zfp S w→vs.length=args.length→(∀i,i<args.length→Rep S (vs.getD i undef) (args.getD i .any))→
  Calls P f ⟨vs⟩ w fun e w'=>∃v S',e= .returned v∧Rep S' v r∧StabS S' w'∧SLe S S'∧(∀b,b<w.heap.size→(∀o,S' b o=S b o)∧S'.m b=S.m b)∧Below w.heap.size w w'
def Zx (ρ:Operand→PV) (c:Call):Option (FuncId×List PV):=
 match c.callee with
 | .value f=>match ρ f with
  | .fn g caps=>some (g,c.args.toList.map ρ++caps)
  |_=>none
 |_=>none
def PV.leaf:PV→Bool
 | .int _ _=>true
 | .bool _=>true
 | .str _=>true
 |_=>false
mutual
def PV.flatS:PV→Bool
 | .int _ _=>true
 | .bool _=>true
 | .str _=>true
 | .sl .no es=>(es.all fun e=>e.cells.any PV.leaf)&&PV.flatSL es
 | .agg cs=>PV.flatSL cs
 | .tup cs=>PV.flatSL cs
 |_=>false
def PV.flatSL:List PV→Bool
 | []=>true
 |c::cs=>PV.flatS c&&PV.flatSL cs
end
theorem WK:∀ {cs:List PV} {i:Nat},PV.flatSL cs=true→i<cs.length→(cs.getD i .any).flatS=true
 | [],_,_,h=>by simp at h
 |c::cs,0,h,_=>by simp[PV.flatSL]at h ⊢;exact h.1
 |c::cs,i+1,h,hi=>by simp[PV.flatSL]at h;simpa using WK h.2 (by simpa using hi)
theorem Zeu {e:PV} (h:e.flatS=true) {j:Nat} (hj:j<e.cells.length):(e.cells.getD j .any).flatS=true:=by
 have:e.cells= [e]∨ ∃cs,e= .agg cs:=by
  cases e<;>first|exact .inl rfl|exact .inr ⟨_,rfl⟩
 rcases this with h1|⟨cs,rfl⟩
 ·rw[h1]at hj ⊢;obtain rfl:j=0:=by simpa using hj
  exact h
 ·have h':PV.flatSL cs=true:=by simpa[PV.flatS]using h
  exact WK (cs:=cs) h' hj
theorem Rep.flatS {S S':Stable} {v:Value} {p:PV} (r:Rep S v p) (Kb:Nat→Prop) (h1:∀b o x,S b o=some x→ ¬Kb b→S' b o=some x) (h2:∀b o x q,Kb b→S b o=some x→q.leaf=true→ ¬Rep S x q):p.flatS=true→Rep S' v p:=by
 induction r with
 |int k n=>exact fun _=> .int k n
 |bool b=>exact fun _=> .bool b
 |str l=>exact fun _=> .str l
 |agg vs cs hl _ ih=>exact fun hp=> .agg vs cs hl fun i hi=>ih i hi (WK (by simpa[PV.flatS]using hp) hi)
 |tup vs cs hl _ ih=>exact fun hp=> .tup vs cs hl fun i hi=>ih i hi (WK (by simpa[PV.flatS]using hp) hi)
 |sl0 a cap=>exact fun _=> .sl0 a cap
 |sl b o cap sz es vals hsz hcap hS hR ih=>
  intro hp;simp only[PV.flatS,Bool.and_eq_true,List.all_eq_true]at hp;have hb:∀i,i<es.length→ ¬Kb b:=fun i hi hk=>by
   obtain⟨q,hq,hl⟩:=List.any_eq_true.1 (hp.1 _ (Ze (d:= .any) hi));obtain⟨j,hj,rfl⟩:=List.getElem_of_mem hq;rw[←Zb (d:= .any) hj]at hl;have hj':j<sz:=by rw[←hsz i hi];exact hj
   exact h2 _ _ _ _ hk (hS i j hi hj') hl (hR i j hi hj')
  exact .sl b o cap sz es vals hsz hcap (fun i j hi hj=>h1 _ _ _ (hS i j hi hj) (hb i hi)) fun i j hi hj=>ih i j hi hj (Zeu (WK hp.2 hi) (by rw[hsz i hi];exact hj))
 |_=>intro hp;simp[PV.flatS]at hp
def Zms (P:Program) (m:Hp) (g:FuncId) (args:List PV) (v:PV):Prop:=
 ∃(pre post:List PV) (d:Nat) (L:List (Nat×List PV)),args=pre++ .ptr d 0::post∧(∀p∈pre,p.ids= [])∧(∀p∈post,p.ids= [])∧m.h d=some (L.map fun x=> .sl (.row x.1) x.2)∧m.z d=false∧
  Pure P g (pre++ .rptr (L.map fun x=> .sl .no x.2)::post) v∧v.flatS=true
def TE (P:Program) (o:Oper) (ρ:Operand→PV) (m:Hp) (v:PV) (m':Hp):Prop:=
 ((aop P o ρ m).ok∧v=(aop P o ρ m).v∧m'=(aop P o ρ m).m)∨
 (∃c g args,o.op= .call c∧Zx ρ c=some (g,args)∧((PV.givableL m args∧Pure P g (PV.giveL m args) v)∨Zms P m g args v)∧m'=m)
section
variable {P:Program} {B:Frm} {S:Stable} {M:Maps} {s:St} {a:Act} {w:World}
def Done (P:Program) (B:Frm) (S:Stable) (s:St) (a:Act) (w:World) (o:Oper) (p:PV) (m':Hp):Prop:=
 ∀(next:Act→World→Prop) (Q:Exit→Act→World→Prop),(∀v w' S' M',Sim B S' M' ((s.with m').put o.dst p) (a.put o.dst v) w'→Ext B S S' w w'→next (a.put o.dst v) w')→o.wp P a w next Q
theorem Done.of_snd {o:Oper} {sm:Sem Value} {r:ARes} (he:(execOp a.eval o).run P w=(sm.run P w).andThen fun v w'=> .ok (.value v) w') (hd:∀x,o.dst=some x→x<s.n) (h:Snd P B S s a w sm r):Done P B S s a w o r.v r.m:=by
 intro next Q hn
 obtain⟨v,w',S',M',h1,h2,h3,h4,h5⟩:=h;unfold Oper.wp;rw[he,h1];exact hn v w' S' M' (h2.put hd h3 h4) h5
theorem Done.of_sndU {o:Oper} {sm:Sem Unit} {r:ARes} (he:(execOp a.eval o).run P w=(sm.run P w).andThen fun _ w'=> .ok .skip w') (hd:∀x,o.dst=some x→x<s.n) (h:Zmt P B S s a w sm r):Done P B S s a w o r.v r.m:=by
 intro next Q hn
 obtain⟨w',S',M',h1,h2,h3,h4⟩:=h;unfold Oper.wp;rw[he,h1];refine hn undef w' S' M' (h2.put hd ?_ ?_) h4
 ·rw[h3];exact .clean (.tup [] [] rfl (fun i hi=>by simp at hi))
 ·rw[h3];simp[PV.ids,PV.idsL]
theorem UQ {f:Operand→PV} {g:Operand→Value} {l:List Operand} (h:∀x,RepS S M s.m.q (g x) (f x)):∀i,i<(l.map f).length→RepS S M s.m.q ((l.map g).getD i undef) ((l.map f).getD i .any):=by
 intro i hi;simp only[List.length_map]at hi;rw[Zb (by simpa using hi),Zb (by simpa using hi)];simp only[List.getElem_map];exact h _
theorem Ux {sm:Sem Value}:(do Pure.pure (Next.value (←sm)):Sem Next).run P w=(sm.run P w).andThen fun v w'=> .ok (.value v) w':=by
 simp
theorem ZlJ {sm:Sem Unit}:(do sm;Pure.pure Next.skip:Sem Next).run P w=(sm.run P w).andThen fun _ w'=> .ok .skip w':=by
 simp
theorem Zak (hs:Sim B S M s a w) (parts:List (Nat×Operand)):(parts.map fun x=>(x.1,a.eval x.2)).length=(parts.map fun x=>(x.1,s.eval x.2)).length∧
  (∀i,i<(parts.map fun x=>(x.1,s.eval x.2)).length→((parts.map fun x=>(x.1,a.eval x.2)).getD i (0,undef)).1=((parts.map fun x=>(x.1,s.eval x.2)).getD i (0,.any)).1∧
   RepS S M s.m.q ((parts.map fun x=>(x.1,a.eval x.2)).getD i (0,undef)).2 ((parts.map fun x=>(x.1,s.eval x.2)).getD i (0,.any)).2)∧
  ∀x∈(parts.map fun x=>(x.1,s.eval x.2)),∀i∈x.2.ids,Live s.m i:=by
 refine⟨by simp,fun i hi=> ?_,fun x hx i hi=> ?_⟩
 ·simp only[List.length_map]at hi;rw[Zb (by simpa using hi),Zb (by simpa using hi)];simp only[List.getElem_map];exact⟨trivial,hs.eval _⟩
 ·obtain⟨y,hy,rfl⟩:=List.mem_map.1 hx;exact hs.eval_ids _ i hi
theorem Zfr (hs:Sim B S M s a w) {o:Oper} (hd:∀x,o.dst=some x→x<s.n) (hok:(aop P o s.eval s.m).ok):Done P B S s a w o (aop P o s.eval s.m).v (aop P o s.eval s.m).m:=by
 have E:=hs.eval;have I:=hs.eval_ids;obtain⟨dst,op,ty,pos,after,guard⟩:=o;unfold aop at hok ⊢;simp only at hok ⊢ hd;have mv:∀x:Operand,op= .move x∨op= .assign x→Done P B S s a w ⟨dst,op,ty,pos,after,guard⟩ (s.eval x) s.m:=by
  intro x hx next Q hn
  unfold Oper.wp;have:(execOp a.eval ⟨dst,op,ty,pos,after,guard⟩).run P w= .ok (.value (a.eval x)) w:=by rcases hx with rfl|rfl<;>rfl
  rw[this];exact hn _ w S M (hs.put hd (E x) (I x)) (Ext.refl _ _ _)
 cases op with
 |move x=>exact mv x (.inl rfl)
 |assign x=>exact mv x (.inr rfl)
 |pick c x y=>
  have ec:=E c
  revert hok
  show(DL (s.eval c) (s.eval x) (s.eval y) s.m).ok→Done P B S s a w _ (DL (s.eval c) (s.eval x) (s.eval y) s.m).v (DL (s.eval c) (s.eval x) (s.eval y) s.m).m;unfold DL;split
  ·rename_i hc;intro _ next Q hn
   rw[hc]at ec;unfold Oper.wp;have:(execOp a.eval ⟨dst,.pick c x y,ty,pos,after,guard⟩).run P w= .ok (.value (a.eval x)) w:=by simp[execOp,ec.bool_inv,asBool]
   rw[this];exact hn _ w S M (hs.put hd (E x) (I x)) (Ext.refl _ _ _)
  ·rename_i hc;intro _ next Q hn
   rw[hc]at ec;unfold Oper.wp;have:(execOp a.eval ⟨dst,.pick c x y,ty,pos,after,guard⟩).run P w= .ok (.value (a.eval y)) w:=by simp[execOp,ec.bool_inv,asBool]
   rw[this];exact hn _ w S M (hs.put hd (E y) (I y)) (Ext.refl _ _ _)
  ·exact fun h=>h.elim
 |alloc t=>
  simp only at hok ⊢;cases dst with
  |none=>exact hok.elim
  |some d=>
   cases hz:U7 P t with
   |none=>simp only[hz]at hok;exact hok.elim
   |some z=>
    simp only[hz]at hok ⊢;unfold U7 aMakeFull.tbdz at hz;split at hz
    ·rename_i i hi;split at hz
     ·rename_i zv hzv;split at hz
      ·rename_i hk;cases hz;exact Done.of_snd (sm:=Instr.alloc t true (.tuple #[])) Ux hd (ZcP hs hi hzv hok hk (s.m.h d=none))
      ·cases hz
     ·cases hz
    ·cases hz
 |box t x=>
  simp only at hok ⊢;cases dst with
  |none=>exact hok.elim
  |some d=>exact Done.of_snd (sm:=Instr.box t (a.eval x)) Ux hd (ZbF hs (E x) (I x) hok.1 hok.2 _)
 |build t parts=>
  obtain⟨parts⟩:=parts;simp only at hok ⊢;obtain⟨p1,p2,p3⟩:=Zak hs parts;exact Done.of_snd (sm:=Instr.build t ⟨parts.map fun x=>(x.1,a.eval x.2)⟩) (by simp[execOp]) hd (ZcQ hs p1 p2 p3 hok)
 |buildSlice t len parts=>
  obtain⟨parts⟩:=parts;simp only at hok ⊢;cases dst with
  |none=>exact hok.elim
  |some d=>
   obtain⟨p1,p2,p3⟩:=Zak hs parts;exact Done.of_snd (sm:=Instr.buildSlice t len ⟨parts.map fun x=>(x.1,a.eval x.2)⟩) (by simp[execOp]) hd (Ga hs p1 p2 hok)
 |load t x=>
  simp only at hok ⊢;split at hok
  ·rename_i hk;rw[if_pos hk];exact Done.of_snd (sm:=Instr.loadAt t (a.eval x)) Ux hd (ZeT hs (E x) (by intro h;simp[tkn,h]at hk) hok)
  ·exact hok.elim
 |store t x y=>
  simp only at hok ⊢;split at hok
  ·rename_i hk;rw[if_pos hk];exact Done.of_sndU (sm:=Instr.storeAt t (a.eval x) (a.eval y)) ZlJ hd (ZcV hs (E x) (E y) (I y) (by intro h;simp[tkn,h]at hk) hok)
  ·exact hok.elim
 |nilCheck x=>
  simp only at hok ⊢
  revert hok
  have ex:=E x;have ix:=I x;unfold Y1;have fin:∀ {p:PV},s.eval x=p→(execOp a.eval ⟨dst,.nilCheck x,ty,pos,after,guard⟩).run P w= .ok (.value (a.eval x)) w→Done P B S s a w ⟨dst,.nilCheck x,ty,pos,after,guard⟩ p s.m:=by
   intro p hp hrun next Q hn
   unfold Oper.wp;rw[hrun];exact hn _ w S M (hs.put hd (hp▸E x) (hp▸I x)) (Ext.refl _ _ _)
  split
  ·rename_i id off hx;intro _;rw[hx]at ex;exact fin hx (by simp[execOp,ex.ptr_inv])
  ·rename_i cs hx;intro _;rw[hx]at ex;obtain⟨b,o,vals,e,_⟩:=ex.rptr_inv;exact fin hx (by simp[execOp,e])
  ·rename_i f cs hx;intro _;rw[hx]at ex;obtain⟨vs,e,_⟩:=ex.fn_inv;exact fin hx (by simp[execOp,e])
  ·exact fun h=>h.elim
 |binOp op t x y yt=>exact Done.of_snd (sm:=do eqGuard op t x y (a.eval x) (a.eval y);binOp op t (a.eval x) (a.eval y)) Ux hd (ZgK hs (E x) (E y) hok)
 |unOp op t x=>exact Done.of_snd (sm:=Op.unary op (a.eval x)) Ux hd (ZiO hs (E x) hok)
 |convert src d x=>exact Done.of_snd (sm:=convert src d (a.eval x)) Ux hd (ZeR hs (E x) hok)
 |makeFunc fn first caps=>
  obtain⟨caps⟩:=caps;cases fn with
  |func f=>
   simp only at hok ⊢;split at hok
   ·rename_i hf;rw[if_pos hf];simp only at hok ⊢;obtain⟨S',hs',he⟩:=hs.frozenBy _ hok;intro next Q hn
    unfold Oper.wp;have hfe:first= #[]:=by simpa using hf
    have:(execOp a.eval ⟨dst,.makeFunc (.func f) first ⟨caps⟩,ty,pos,after,guard⟩).run P w= .ok (.value (.func (.func f) #[] ⟨caps.map a.eval⟩)) w:=by
     subst hfe;simp[execOp,Instr.makeFunc]
    rw[this];refine hn _ w S' M (hs'.put hd ?_ ?_) he
    ·refine .fn f _ _ (by simp) (fun i hi=> ?_);have:=UQ (s:=s) (S:=S) (M:=M) (l:=caps) E i hi;refine this.heap he.1 (fun _ _=>rfl) (fun k hk=> .of_eq ?_ rfl rfl);simp[St.with,Xi]
    ·intro i hi;obtain⟨c,hc,hic⟩:=PV.mem_idsL.1 (by simpa[PV.ids]using hi);obtain⟨x,hx,rfl⟩:=List.mem_map.1 hc;have:=I x i hic;cases i with
     |b k=>show(frozenBy s.m _).h k≠none;rw[XM];exact this
     |r k=>show(frozenBy s.m _).q k≠none;rw[Xi];exact this
   ·exact hok.elim
  |_=>exact hok.elim
 |makeSlice t l c=>
  simp only at hok ⊢;cases dst with
  |none=>exact hok.elim
  |some d=>
   simp only at hok ⊢;split at hok
   ·rename_i k;exact Done.of_snd (sm:=Instr.makeSlice t (.int k 0) (a.eval c)) Ux hd (Zaq hs (E c) hok)
   ·exact Done.of_snd (sm:=Instr.makeSlice t (a.eval l) (a.eval c)) Ux hd (DS hs (E l) (E c) hok)
 |slice t x lo hi mx=>
  simp only at hok ⊢;split at hok
  ·rename_i hm;rw[if_pos hm];cases mx with
   |some _=>simp at hm
   |none=>
    refine Done.of_snd (sm:=Instr.sliceAt t (a.eval x) (lo.map a.eval) (hi.map a.eval) none) Ux hd (ZcU hs (E x) (I x) ?_ ?_ (by simp) (by simp) hok)
    ·intro v p h1 h2;cases lo with
     |none=>cases h1
     |some y=>cases h1;cases h2;exact E y
    ·intro v p h1 h2;cases hi with
     |none=>cases h1
     |some y=>cases h1;cases h2;exact E y
  ·exact hok.elim
 |fieldAddr t x f=>exact Done.of_snd (sm:=Instr.fieldAt t (a.eval x) f) Ux hd (Dx hs (E x) (I x) hok)
 |field t x f=>exact Done.of_snd (sm:=Instr.field t (a.eval x) f) Ux hd (ZcS hs (E x) (I x) hok)
 |indexAddr t x i=>exact Done.of_snd (sm:=Instr.indexAt t (a.eval x) (a.eval i)) Ux hd (Dy hs (E x) (I x) (E i) hok)
 |index t x i=>exact Done.of_snd (sm:=Instr.index t (a.eval x) (a.eval i)) Ux hd (ZcT hs (E x) (I x) (E i) hok)
 |lookup t x k ok=>exact Done.of_snd (sm:=Instr.lookup t (a.eval x) (a.eval k) ok) Ux hd (ZbH hs (E x) (E k) hok)
 |mapUpdate t x k v=>exact Done.of_sndU (sm:=Instr.mapUpdate t (a.eval x) (a.eval k) (a.eval v)) ZlJ hd (Dz hs (E x) (E k) (E v) hok)
 |entry x=>exact Done.of_snd (sm:=Instr.entry (a.eval x)) Ux hd (ZcR hs (E x) hok)
 |extract x i=>exact Done.of_snd (sm:=Instr.extract (a.eval x) i) Ux hd (Zap hs (E x) (I x) hok)
 |call c=>
  obtain⟨callee,args,argTypes⟩:=c;cases callee with
  |builtin b=>
   obtain⟨args⟩:=args;obtain⟨tys⟩:=argTypes;simp only at hok ⊢
   revert hok
   unfold ZP;split
   ·rename_i t p hx;intro hok;obtain⟨x,rfl,rfl⟩:∃x,args= [x]∧p=s.eval x:=by
     match args,hx with
     | [x],hx=>exact⟨x,rfl,by simpa using hx.symm⟩
    split at hok
    ·rename_i hmx;rw[if_pos hmx];exact Done.of_snd (sm:=Builtin.len_ #[t] ty #[a.eval x]) (by simp[execOp,resolve,invoke,builtin]) hd (ZbI hs (E x) hok)
    ·rename_i hmx;rw[if_neg hmx];exact Done.of_snd (sm:=Builtin.len_ #[t] ty #[a.eval x]) (by simp[execOp,resolve,invoke,builtin]) hd (ZgO hs (E x) hok)
   ·rename_i t tx p p' hx;obtain⟨x,y,rfl,rfl,rfl⟩:∃x y,args= [x,y]∧p=s.eval x∧p'=s.eval y:=by
     match args,hx with
     | [x,y],hx=>simp at hx;exact⟨x,y,rfl,hx.1.symm,hx.2.symm⟩
    split
    ·rename_i d;intro hok;exact Done.of_snd (sm:=Builtin.append_ #[t,tx] ty #[a.eval x,a.eval y]) (by simp[execOp,resolve,invoke,builtin]) hd (ZbE hs (E x) (I x) (E y) hok)
    ·exact fun h=>h.elim
   ·rename_i tys b0 ts0 xs0 p p' hx;intro hok;obtain⟨x,y,rfl,rfl,rfl⟩:∃x y,args= [x,y]∧p=s.eval x∧p'=s.eval y:=by
     match args,hx with
     | [x,y],hx=>simp at hx;exact⟨x,y,rfl,hx.1.symm,hx.2.symm⟩
    exact Done.of_snd (sm:=Builtin.max_ ⟨tys⟩ ty #[a.eval x,a.eval y]) (by simp[execOp,resolve,invoke,builtin]) hd (ZgP hs (E x) (E y) hok)
   ·rename_i tys b0 ts0 xs0 p p' hx;intro hok;obtain⟨x,y,rfl,rfl,rfl⟩:∃x y,args= [x,y]∧p=s.eval x∧p'=s.eval y:=by
     match args,hx with
     | [x,y],hx=>simp at hx;exact⟨x,y,rfl,hx.1.symm,hx.2.symm⟩
    exact Done.of_snd (sm:=Builtin.min_ ⟨tys⟩ ty #[a.eval x,a.eval y]) (by simp[execOp,resolve,invoke,builtin]) hd (ZgQ hs (E x) (E y) hok)
   ·rename_i tys b0 ts0 xs0 p p' hx;intro hok;obtain⟨x,y,rfl,rfl,rfl⟩:∃x y,args= [x,y]∧p=s.eval x∧p'=s.eval y:=by
     match args,hx with
     | [x,y],hx=>simp at hx;exact⟨x,y,rfl,hx.1.symm,hx.2.symm⟩
    exact Done.of_snd (sm:=Builtin.complex_ ⟨tys⟩ ty #[a.eval x,a.eval y]) (by simp[execOp,resolve,invoke,builtin]) hd (ZgL hs (E x) (E y) hok)
   ·rename_i tys b0 ts0 xs0 p hx;intro hok;obtain⟨x,rfl,rfl⟩:∃x,args= [x]∧p=s.eval x:=by
     match args,hx with
     | [x],hx=>exact⟨x,rfl,by simpa using hx.symm⟩
    exact Done.of_snd (sm:=Builtin.real_ ⟨tys⟩ ty #[a.eval x]) (by simp[execOp,resolve,invoke,builtin]) hd (ZeU hs (E x) hok)
   ·rename_i tys b0 ts0 xs0 p hx;intro hok;obtain⟨x,rfl,rfl⟩:∃x,args= [x]∧p=s.eval x:=by
     match args,hx with
     | [x],hx=>exact⟨x,rfl,by simpa using hx.symm⟩
    exact Done.of_snd (sm:=Builtin.imag_ ⟨tys⟩ ty #[a.eval x]) (by simp[execOp,resolve,invoke,builtin]) hd (ZeS hs (E x) hok)
   ·exact fun h=>h.elim
  |_=>exact hok.elim
 |_=>exact hok.elim
theorem Zeo (hs:Sim B S M s a w) {o:Oper} {c:Call} {g:FuncId} {args:List PV} {r:PV} (hd:∀x,o.dst=some x→x<s.n) (ho:o.op= .call c) (hc:Zx s.eval c=some (g,args)) (hg:PV.givableL s.m args)
  (hp:Pure P g (PV.giveL s.m args) r):Done P B S s a w o r s.m:=by
 intro next Q hn
 obtain⟨dst,op,ty,pos,after,guard⟩:=o;simp only at ho hd;subst ho;obtain⟨callee,cargs,ts⟩:=c;obtain⟨cargs⟩:=cargs;unfold Zx at hc;cases callee with
 |value f=>
  simp only at hc;split at hc
  ·rename_i g' caps hf;simp only[Option.some.injEq,Prod.mk.injEq]at hc;obtain⟨rfl,rfl⟩:=hc;have ef:=hs.eval f;rw[hf]at ef;obtain⟨vs,hv,hl,hr⟩:=ef.fn_inv;obtain⟨⟨fn,c1,c2,c3⟩,_,hcalls⟩:=hp;have hargs:∀i,i<(cargs.map s.eval++caps).length→RepS S M s.m.q ((cargs.map a.eval++vs).getD i undef) ((cargs.map s.eval++caps).getD i .any):=by
    intro i hi
    by_cases h1:i<cargs.length
    ·rw[Zd (by simpa using h1),Zd (by simpa using h1)];exact UQ (s:=s) hs.eval i (by simpa using h1)
    ·rw[Zf (by simp;omega),Zf (by simp;omega)];simp only[List.length_map];exact hr _ (by simp at hi;omega)
   have hrun:(execOp a.eval ⟨dst,.call ⟨.value f,⟨cargs⟩,ts⟩,ty,pos,after,guard⟩).run P w= .ok (.enter g' ⟨cargs.map a.eval++vs⟩) w:=by
    have hb:¬fn.body=none:=by intro h;simp[h]at c3
    simp[execOp,resolve,Deferred.ofValue,hv,invoke,callFunc,program,Sem.run,c1,hb,c2]
   unfold Oper.wp;rw[hrun];show Calls P g' ⟨cargs.map a.eval++vs⟩ w _;have hcl:=hcalls w S (cargs.map a.eval++vs) hs.stable.s hs.young (by simp[PV.giveL_length,hl]) (fun i hi=>by
    rw[PV.giveL_length]at hi;rw[PV.giveL_getD _ _ i hi];exact(hargs i hi).give hs (PV.givableL_getD hg i hi))
   refine hcl.mono fun e w' h=> ?_
   obtain⟨v,S',rfl,h2,h3,h4,h5,h6⟩:=h;have hs':=hs.grow h4 h5 h3 h6.block h6.size;exact hn v w' S' M (hs'.put hd (.clean h2) (fun i hi=>absurd hi (h2.clean_ids i))) ⟨h4,fun b hb=>h5 b (hs.hB b hb),(BelowF.of h6).mono hs.hB⟩
  ·cases hc
 |_=>simp at hc
theorem ZeG (hs:Sim B S M s a w) {o:Oper} {c:Call} {g:FuncId} {args:List PV} {r:PV} (hd:∀x,o.dst=some x→x<s.n) (ho:o.op= .call c) (hc:Zx s.eval c=some (g,args)) (hp:Zms P s.m g args r):Done P B S s a w o r s.m:=by
 intro next Q hn
 obtain⟨dst,op,ty,pos,after,guard⟩:=o;simp only at ho hd;subst ho;obtain⟨callee,cargs,ts⟩:=c;obtain⟨cargs⟩:=cargs;unfold Zx at hc;cases callee with
 |value f=>
  simp only at hc;split at hc
  ·rename_i g' caps hf;simp only[Option.some.injEq,Prod.mk.injEq]at hc;obtain⟨rfl,hargs0⟩:=hc;have ef:=hs.eval f;rw[hf]at ef;obtain⟨vs,hv,hl,hr⟩:=ef.fn_inv;obtain⟨pre,post,d,L,ha,hp1,hp2,hh,hz,⟨⟨fn,c1,c2,c3⟩,hdd,hcalls⟩,hfl⟩:=hp;have hargs:∀i,i<(cargs.map s.eval++caps).length→RepS S M s.m.q ((cargs.map a.eval++vs).getD i undef) ((cargs.map s.eval++caps).getD i .any):=by
    intro i hi
    by_cases h1:i<cargs.length
    ·rw[Zd (by simpa using h1),Zd (by simpa using h1)];exact UQ (s:=s) hs.eval i (by simpa using h1)
    ·rw[Zf (by simp;omega),Zf (by simp;omega)];simp only[List.length_map];exact hr _ (by simp at hi;omega)
   have hlen:(cargs.map a.eval++vs).length=(pre++PV.ptr d 0::post).length:=by rw[←ha,←hargs0];simp[hl]
   have hr:∀i,i<(pre++PV.ptr d 0::post).length→RepS S M s.m.q ((cargs.map a.eval++vs).getD i undef) ((pre++PV.ptr d 0::post).getD i .any):=by
    rw[←ha,←hargs0];exact hargs
   have hrun:(execOp a.eval ⟨dst,.call ⟨.value f,⟨cargs⟩,ts⟩,ty,pos,after,guard⟩).run P w= .ok (.enter g' ⟨cargs.map a.eval++vs⟩) w:=by
    have hb:¬fn.body=none:=by intro h;simp[h]at c3
    simp[execOp,resolve,Deferred.ofValue,hv,invoke,callFunc,program,Sem.run,c1,hb,c2]
   unfold Oper.wp;rw[hrun];show Calls P g' ⟨cargs.map a.eval++vs⟩ w _;generalize cargs.map a.eval++vs=xs at *;obtain⟨g1,g2,⟨us,t,g3,g4,g5⟩,g6⟩:=hs.own hh hz;have hlt:=hs.blk_lt hh hz;rw[List.length_map]at g4 g5;have hu:∀j,j<L.length→Rep S (us.getD j undef) (.sl .no (L.getD j (0,[])).2):=fun j hj=>by
    have:=g5 j hj;have e:(L.map fun x=>PV.sl (.row x.1) x.2).getD j .any= .sl (.row (L.getD j (0,[])).1) (L.getD j (0,[])).2:=by
     rw[Zb (by simpa using hj),List.getElem_map,Zb hj]
    rw[e]at this;exact this.sl_inv
   generalize hbk:M.φ d=bk at *
   let S1:Stable:=⟨fun b o=>if b=bk then us[o]? else S b o,S.m,S.z,S.y⟩
   have s1:∀o,S1 bk o=us[o]? :=fun o=>if_pos rfl
   have s1n:∀b o,b≠bk→S1 b o=S b o:=fun b o h=>if_neg h
   have hle:SLe S S1:= .cells rfl fun b o v hv=>by
    by_cases e:b=bk
    ·subst e;rw[g2 o]at hv;cases hv
    ·rw[s1n b o e];exact hv
   have hst:StabS S1 w:=⟨fun b o v hv=>by
    by_cases e:b=bk
    ·subst e;rw[s1 o]at hv;rw[Z0 g3];exact hv
    ·rw[s1n b o e]at hv;exact hs.stable.s.c b o v hv,hs.stable.s.m,hs.stable.s.y⟩
   have hcl:=hcalls w S1 xs hst hs.young (by rw[hlen];simp) (fun i hi=>by
    rcases Nat.lt_trichotomy i pre.length with h|h|h
    ·have h0:=hr i (by simp;omega);rw[Zd h]at h0 ⊢;exact(h0.alone (hp1 _ (Ze h))).mono hle
    ·subst h;have h0:=hr pre.length (by simp);rw[Zf (Nat.le_refl _),Nat.sub_self]at h0 ⊢;have h0:=h0.ptr_inv;rw[h0,hbk];refine .rptr bk 0 _ (fun j=>us.getD j undef) (fun j hj=> ?_) (fun j hj=> ?_)
     ·rw[List.length_map]at hj;rw[Nat.zero_add,s1,List.getElem?_eq_getElem (by omega),Zb (by omega)]
     ·rw[List.length_map]at hj;rw[Zb (l:=L.map _) (by simpa using hj),List.getElem_map,←Zb (d:=(0,[])) hj];exact(hu j hj).mono hle
    ·have hi':i-pre.length-1<post.length:=by simp at hi;omega
     have h0:=hr i (by simp at hi ⊢;omega);rw[Zf (by omega),show i-pre.length=(i-pre.length-1)+1 by omega]at h0 ⊢;exact(h0.alone (by simpa using hp2 _ (Ze (d:= .any) hi'))).mono hle)
   refine hcl.mono fun e w' h=> ?_
   obtain⟨v,S2,rfl,h2,h3,h4,h5,h6⟩:=h
   let S3:Stable:=⟨fun b o=>if b=bk then none else S2 b o,S2.m,S2.z,S2.y⟩
   have s3:∀o,S3 bk o=none:=fun o=>if_pos rfl
   have s3n:∀b o,b≠bk→S3 b o=S2 b o:=fun b o h=>if_neg h
   have hag:∀b,b<w.heap.size→(∀o,S3 b o=S b o)∧S3.m b=S.m b:=fun b hb=>by
    obtain⟨k1,k2⟩:=h5 b hb;refine⟨fun o=> ?_,k2⟩
    by_cases e:b=bk
    ·subst e;rw[s3,g2]
    ·rw[s3n b o e,k1 o,s1n b o e]
   have hle3:SLe S S3:=⟨fun b o v hv=>by
    by_cases e:b=bk
    ·subst e;rw[g2 o]at hv;cases hv
    ·rw[s3n b o e];exact h4 b o v (hle b o v hv),fun b es h=>h4.m b es h,h4.z,fun b hb=>h4.y b hb⟩
   have hst3:StabS S3 w':=⟨fun b o v hv=>by
    by_cases e:b=bk
    ·subst e;rw[s3]at hv;cases hv
    ·rw[s3n b o e]at hv;exact h3.c b o v hv,h3.m,h3.y⟩
   have hv3:Rep S3 v r:=h2.flatS (fun b=>b=bk) (fun b o x hx hk=>by rw[s3n b o hk];exact hx) (fun b o x q hk hx hq hr=>by
    subst hk;rw[(h5 b hlt).1 o,s1]at hx;obtain⟨ho,rfl⟩:=List.getElem?_eq_some_iff.1 hx;have:=hu o (by omega);rw[Zb (by omega)]at this;generalize us[o]=y at this hr;generalize (L.getD o (0,[])).2=z at this;obtain⟨a,n,c,rfl⟩:∃a n c,y= .slice a n c:=by
     cases this with
     |sl0 a cap=>exact⟨_,_,_,rfl⟩
     |sl=>exact⟨_,_,_,rfl⟩
    cases q<;>first|(simp[PV.leaf]at hq;done)|cases hr) hfl
   have hs':=hs.grow hle3 hag hst3 h6.block h6.size;exact hn v w' S3 M (hs'.put hd (.clean hv3) (fun i hi=>absurd hi (hv3.clean_ids i))) ⟨hle3,fun b hb=>hag b (hs.hB b hb),(BelowF.of h6).mono hs.hB⟩
  ·cases hc
 |_=>simp at hc
theorem YY (hs:Sim B S M s a w) {o:Oper} {v:PV} {m':Hp} (hd:∀x,o.dst=some x→x<s.n) (h:TE P o s.eval s.m v m'):Done P B S s a w o v m':=by
 rcases h with ⟨h1,rfl,rfl⟩|⟨c,g,args,ho,hc,⟨hg,hp⟩|hp,rfl⟩
 ·exact Zfr hs hd h1
 ·exact Zeo hs hd ho hc hg hp
 ·exact ZeG hs hd ho hc hp
end
open Go.RowKit
def gdOf (want:Bool):PV→Option Bool
 | .bool b=>some (b==want)
 | .tup _=>some false
 |_=>none
def gd (ops:Array Oper) (s:St) (o:Oper):Option Bool:=
 match o.guard with
 |none=>some true
 |some (j,want)=>match(ops[j]?).bind (·.dst)with
  |some d=>if d<s.n then gdOf want (s.fr d)else none
  |none=>some false
def Tn (n:Nat):Option Nat→Prop
 |some d=>d<n
 |none=>True
def Zbg (P:Program) (ops:Array Oper) (K:St→Prop):List Oper→St→Prop
 | [],s=>K s
 |o::rest,s=>Tn s.n o.dst∧((gd ops s o=some true∧ ∃v m',TE P o s.eval s.m v m'∧Zbg P ops K rest ((s.with m').put o.dst v))∨(gd ops s o=some false∧Zbg P ops K rest (s.put o.dst (.tup []))))
def awp (P:Program) (c:Code) (Q:Exit→St→Prop) (s:St):Prop:=
 ∀B S M a w,Sim B S M s a w→c.wp P (fun e a' w'=>∃s' S' M',Q e s'∧Sim B S' M' s' a' w'∧Ext B S S' w w') a w
section
variable {P:Program} {B:Frm} {S:Stable} {M:Maps} {s:St} {a:Act} {w:World} {Q Q':Exit→St→Prop}
theorem Z1 {n:Nat} {d:Option Nat} (h:Tn n d):∀x,d=some x→x<n:=fun x e=>by subst e;exact h
def asB:Value→Option Bool
 | .bool b=>some b
 |_=>none
theorem RepS.gdOf {q:Rows} {v:Value} {p:PV} {want c:Bool} (r:RepS S M q v p) (h:PL.gdOf want p=some c):(asB v==some want)=c:=by
 cases p<;>simp[PL.gdOf]at h
 ·rw[r.bool_inv];simpa[asB]using h
 ·obtain⟨vs,rfl,_⟩:=r.tup_inv;simpa[asB]using h
theorem Vi (hs:Sim B S M s a w) {ops:Array Oper} {o:Oper} {b:Bool} (h:gd ops s o=some b):Region.wanted o (yielded ops a.tmps)=b:=by
 unfold gd at h;unfold Region.wanted;cases hg:o.guard with
 |none=>rw[hg]at h;simpa using h
 |some jw=>
  obtain⟨j,want⟩:=jw;rw[hg]at h;simp only at h ⊢;unfold yielded;cases hd:(ops[j]?).bind (·.dst)with
  |none=>rw[hd]at h;simpa using h
  |some d=>
   rw[hd]at h;simp only at h;split at h
   ·rename_i hlt;have hsz:d<a.tmps.size:=by rw[hs.hn];exact hlt
    have hr:=hs.fr d;have he:a.tmps[d]? = some (a.tmps.getD d undef):=by
     rw[Array.getD_eq_getD_getElem?,Array.getElem?_eq_getElem hsz];rfl
    have hb:=hr.gdOf h;simp only[Option.bind_some,he];rw[←hb];cases a.tmps.getD d undef<;>rfl
   ·cases h
theorem Vc (hs:Sim B S M s a w) {d:Option Nat} (hd:Tn s.n d):Sim B S M (s.put d (.tup [])) (a.put d undef) w:=
 hs.put (Z1 hd) (.clean (.tup [] [] rfl (fun i hi=>by simp at hi))) (by simp[PV.ids,PV.idsL])
theorem Wg {c:Code} (h:∀e s,Q e s→Q' e s) (hh:awp P c Q s):awp P c Q' s:=fun B S M a w hs=>
 wp_mono (hh B S M a w hs) fun e a' w' ⟨s',S',M',h1,h2,h3⟩=>⟨s',S',M',h _ _ h1,h2,h3⟩
theorem Zdj (h:Q .normal s):awp P .skip Q s:=fun B S M a w hs=>wp_skip ⟨s,S,M,h,hs,Ext.refl _ _ _⟩
theorem ZaQ {l:Nat} (h:Q .normal s):awp P (.label l) Q s:=fun B S M a w hs=>wp_label ⟨s,S,M,h,hs,Ext.refl _ _ _⟩
theorem ZhY {id:Nat} (h:Q (.exit id) s):awp P (.exit id) Q s:=fun B S M a w hs=>wp_exit ⟨s,S,M,h,hs,Ext.refl _ _ _⟩
theorem ZhZ {l:Nat} (h:Q (.goto l) s):awp P (.goto l) Q s:=fun B S M a w hs=>wp_goto ⟨s,S,M,h,hs,Ext.refl _ _ _⟩
theorem ZjM (h:Q .ret s):awp P .ret Q s:=fun B S M a w hs=>wp_ret ⟨s,S,M,h,hs,Ext.refl _ _ _⟩
def Y0 (K:St→Prop) (Q:Exit→St→Prop):Exit→St→Prop
 | .normal,s=>K s
 |e,s=>Q e s
theorem Zci {x y:Code} (h:awp P x (Y0 (awp P y Q) Q) s):awp P (.seq x y) Q s:=fun B S M a w hs=>by
 refine wp_seq (wp_mono (h B S M a w hs) fun e a' w' hq=> ?_);obtain⟨s',S',M',h1,h2,h3⟩:=hq;cases e with
 |normal=>
  refine wp_mono (h1 B S' M' a' w' h2) fun e a'' w'' hq'=> ?_
  obtain⟨s'',S'',M'',g1,g2,g3⟩:=hq';exact⟨s'',S'',M'',g1,g2,h3.trans g3⟩
 |_=>exact⟨s',S',M',h1,h2,h3⟩
theorem ZhW {c:Operand} {x y:Code} {b:Bool} (hc:s.eval c= .bool b) (h:awp P (if b then x else y) Q s):awp P (.cond c x y) Q s:=fun B S M a w hs=>by
 have he:=hs.eval c;rw[hc]at he;exact wp_cond he.bool_inv (h B S M a w hs)
def V5 (id:Nat) (Q:Exit→St→Prop):Exit→St→Prop
 | .exit j,s=>if j=id then Q .normal s else Q (.exit j) s
 |e,s=>Q e s
theorem ZfC {id:Nat} {c:Code} (h:awp P c (V5 id Q) s):awp P (.block id c) Q s:=fun B S M a w hs=>by
 refine wp_block (wp_mono (h B S M a w hs) fun e a' w' hq=> ?_);obtain⟨s',S',M',h1,h2,h3⟩:=hq;cases e with
 |exit j=>
  simp only[Exit.inBlock,V5]at h1 ⊢;split at h1
  ·rename_i hj;simp only[hj,if_true];exact⟨s',S',M',h1,h2,h3⟩
  ·rename_i hj;simp only[hj,if_false];exact⟨s',S',M',h1,h2,h3⟩
 |_=>exact⟨s',S',M',h1,h2,h3⟩
end
open Go.RowKit
def Yc {α:Type} (L:List (Nat×α)) (f:Nat→α):Nat→α:=L.foldr (fun x g=>upd g x.1 x.2) f
def Zbf (ws:List Nat) (f:Nat→PV):Nat→PV:=fun i=>if ws.contains i then .any else f i
structure Weak (s' s:St):Prop where
 n:s'.n=s.n
 fr:∀i,s'.fr i= .any∨s'.fr i=s.fr i
 h:∀i,s'.m.h i=none∨(s'.m.h i=s.m.h i∧s'.m.z i=s.m.z i)
 q:∀i,s'.m.q i=none∨s'.m.q i=s.m.q i
 o:∀i,s'.m.o i=none∨s'.m.o i=s.m.o i
 it:∀i,s'.m.it i=none∨s'.m.it i=s.m.it i
 om:∀i,s'.m.om i=none∨s'.m.om i=s.m.om i
 v:∀i,s'.m.v i=none∨(s'.m.v i=s.m.v i∧s'.m.q i=s.m.q i)
 ph:∀i,s'.m.ph i=none∨(s'.m.ph i=s.m.ph i∧s'.m.h i=s.m.h i)
 pq:∀i,s'.m.pq i=none∨(s'.m.pq i=s.m.pq i∧s'.m.q i=s.m.q i)
structure Refs (s:St):Prop where
 fr:∀i r,r∈(s.fr i).ids→Live s.m r
 h:∀i cs,s.m.h i=some cs→ ∀c∈cs,∀r∈c.ids,Live s.m r
 v:∀i es,s.m.v i=some es→ ∀p∈es,∀r∈p.ids,Live s.m r
 om:∀b c,s.m.om b=some c→ ∀p∈c.vs,∀r∈p.ids,Live s.m r
section
variable {P:Program} {B:Frm} {S:Stable} {M:Maps} {s s':St} {a:Act} {w:World} {Q Q':Exit→St→Prop}
theorem Sim.refs (hs:Sim B S M s a w):Refs s:=by
 refine⟨hs.ids,fun i cs hi c hc r hr=> ?_,fun i es h=>(by obtain⟨_,_,_,_,h3,_⟩:=hs.vc i es h;exact h3),fun b c h=>(hs.rm b c h).2.2.2.2⟩;have hb:=hs.blk i cs hi;cases hz:s.m.z i with
 |false=>rw[hz]at hb;exact hb.2.2.2 c hc r hr
 |true=>
  rw[hz]at hb;obtain⟨vals,hv⟩:=hb;obtain⟨j,hj,rfl⟩:=List.getElem_of_mem hc;have:=(hv j hj).2;rw[Zb hj]at this;exact absurd hr (this.clean_ids r)
theorem Sim.weak (hs:Sim B S M s a w) (hw:Weak s' s) (hr:Refs s'):Sim B S M s' a w:=by
 have rep:∀ {v p},RepS S M s.m.q v p→(∀r∈p.ids,Live s'.m r)→RepS S M s'.m.q v p:=fun r _=>
  r.heap (SLe.refl _) (fun _ _=>rfl) (fun i hi=>by
   rcases hw.q i with h|h
   ·rw[h];exact .none
   ·exact .of_eq h rfl rfl)
 have hh:∀ {i cs},s'.m.h i=some cs→s.m.h i=some cs∧s'.m.z i=s.m.z i:=fun {i cs} hi=>by
  rcases hw.h i with h|⟨h,hz⟩
  ·rw[h]at hi;cases hi
  ·exact⟨by rw[←h];exact hi,hz⟩
 have hq:∀ {i r},s'.m.q i=some r→s.m.q i=some r:=fun {i r} hi=>by
  rcases hw.q i with h|h
  ·rw[h]at hi;cases hi
  ·rw[←h];exact hi
 refine⟨hs.defers,by rw[hs.hn,hw.n],hs.hB,⟨hs.stable.s,fun b c hc=>hs.stable.o b c ?_,fun b x hx=>hs.stable.i b x ?_⟩,fun i=> ?_,hr.fr,fun i cs hi=> ?_,fun i r hi=>hs.row i r (hq hi),?_,?_,?_,fun b c hc=> ?_,fun i es he=> ?_,⟨fun i b hb=> ?_,fun i n k b hb=> ?_⟩,hs.hz⟩
 ·rcases hw.o b with h|h
  ·rw[h]at hc;cases hc
  ·rw[←h];exact hc
 ·rcases hw.it b with h|h
  ·rw[h]at hx;cases hx
  ·rw[←h];exact hx
 ·rcases hw.fr i with h|h
  ·rw[h];exact .clean (.any _)
  ·rw[h];exact rep (hs.fr i) (by rw[←h];exact hr.fr i)
 ·obtain⟨h1,hz⟩:=hh hi;have hb:=hs.blk i cs h1;rw[hz];cases hzi:s.m.z i with
  |false=>
   rw[hzi]at hb;obtain⟨g1,g2,⟨us,t',g3,g4,g5⟩,g6⟩:=hb;exact⟨g1,g2,⟨us,t',g3,g4,fun k hk=>rep (g5 k hk) (fun r hr'=>hr.h i cs hi _ (Ze hk) r hr')⟩,hr.h i cs hi⟩
  |true=>rw[hzi]at hb;exact hb
 ·intro i j cs cs' hi hj zi zj hij;obtain⟨h1,e1⟩:=hh hi;obtain⟨h2,e2⟩:=hh hj;exact hs.inj i j _ _ h1 h2 (by rw[←e1];exact zi) (by rw[←e2];exact zj) hij
 ·intro i j r1 r2 hi hj oi oj ki kj hij;exact hs.injq i j _ _ (hq hi) (hq hj) oi oj ki kj hij
 ·intro i j cs r1 hi zi hj oj kj;obtain⟨h1,e1⟩:=hh hi;exact hs.injx i j _ _ h1 (by rw[←e1];exact zi) (hq hj) oj kj
 ·have hc':s.m.om b=some c:=by
   rcases hw.om b with h|h
   ·rw[h]at hc;cases hc
   ·rw[←h];exact hc
  obtain⟨g1,g2,g3,⟨es,e1,e2,e3,e4,e5,e6⟩,_⟩:=hs.rm b c hc';have hro:=hr.om b c hc;refine⟨g1,g2,?_,⟨es,e1,e2,e3,e4,e5,fun i hi=>rep (e6 i hi) fun r hr'=>hro (c.vs.getD i .any) (Ze (by omega)) r hr'⟩,hro⟩;rcases hw.o b with h|h
  ·exact h
  ·rw[h];exact g3
 ·rcases hw.v i with h|⟨h,hqi⟩
  ·rw[h]at he;cases he
  ·rw[h]at he;obtain⟨sz,e,q1,k1,k2,k3⟩:=hs.vc i es he;have hrv:=hr.v i es (by rw[h];exact he);refine⟨sz,e,by rw[hqi];exact q1,k1,hrv,fun c hc vs t f hvs i' j hi' hj=>rep (k3 c hc vs t f hvs i' j hi' hj) fun r hr'=>hrv (es.getD i' .any) (Ze hi') r ?_⟩;have hlen:=(k1 _ (Ze (d:= .any) hi')).1;exact Z4 (Ze (by omega)) hr'
 ·rcases hw.ph i with h|⟨h,h2⟩
  ·rw[h]at hb;cases hb
  ·rw[h]at hb;rw[h2];exact hs.pn.h i b hb
 ·rcases hw.pq i with h|⟨h,h2⟩
  ·rw[h]at hb;cases hb
  ·rw[h]at hb;rw[h2];exact hs.pn.q i n k b hb
theorem Zdk {c:Code} (hw:Weak s' s) (hr:Refs s→Refs s') (h:awp P c Q s'):awp P c Q s:=fun B S M a w hs=>h B S M a w (hs.weak hw (hr hs.refs))
theorem SQ {c:Code} {ι:Type} (I:ι→St) (μ:ι→Nat) (i0:ι) (h0:Weak (I i0) s) (hr:Refs s→ ∀i,Refs (I i))
  (round:∀i,awp P c (Y0 (fun s'=>∃j,μ j<μ i∧Weak (I j) s') Q) (I i)):awp P (.loop c) Q s:=fun B S M a w hs=>by
 have hrefs:=hr hs.refs;have key:∀(k:Nat) (i:ι),μ i<k→ ∀S1 M1 a1 w1,Sim B S1 M1 (I i) a1 w1→Ext B S S1 w w1→
   Code.rounds P c (fun e a' w'=>∃s' S' M',Q e s'∧Sim B S' M' s' a' w'∧Ext B S S' w w') k a1 w1:=by
  intro k
  induction k with
  |zero=>intro i hi;omega
  |succ k ih=>
   intro i hi S1 M1 a1 w1 hs1 he1;rw[rounds_succ];refine wp_mono (round i B S1 M1 a1 w1 hs1) fun e a' w' hq=> ?_
   obtain⟨s',S',M',h1,h2,h3⟩:=hq;cases e with
   |normal=>
    obtain⟨j,hj,hwk⟩:=h1;exact ih j (by omega) S' M' a' w' (h2.weak hwk (hrefs j)) (he1.trans h3)
   |_=>exact⟨s',S',M',h1,h2,he1.trans h3⟩
 exact wp_loop_rounds (μ i0+1) (key _ i0 (Nat.lt_succ_self _) S M a w (hs.weak h0 (hrefs i0)) (Ext.refl _ _ _))
def FrEq (X:List Nat) (f g:Nat→PV):Prop:=∀i,X.contains i=false→f i=g i
theorem FrEq.refl (X:List Nat) (f:Nat→PV):FrEq X f f:=fun _ _=>rfl
theorem FrEq.upd {X:List Nat} {f g:Nat→PV} {d:Nat} {v:PV} (hd:X.contains d=true) (h:FrEq X f g):FrEq X (upd f d v) g:=fun i hi=>by
 by_cases e:d=i
 ·subst e;rw[hd]at hi;cases hi
 ·rw[Zc _ _ e];exact h i hi
def HWeak {α:Type} (f g:Nat→Option α):Prop:=∀i,f i=none∨f i=g i
theorem HWeak.refl {α:Type} (f:Nat→Option α):HWeak f f:=fun _=> .inr rfl
theorem HWeak.upd {α:Type} {f g:Nat→Option α} {d:Nat} {v:Option α} (hd:f d=none∨f d=v) (h:HWeak f g):HWeak f (PL.upd g d v):=fun i=>by
 by_cases e:d=i
 ·subst e;rw[Za];exact hd
 ·rw[Zc _ _ e];exact h i
theorem WY {α:Type} {L:List (Nat×α)} {f:Nat→α} {i:Nat} (h:(L.map (·.1)).contains i=false):Yc L f i=f i:=by
 induction L with
 |nil=>rfl
 |cons x L ih=>
  simp only[List.map_cons,List.contains_cons,Bool.or_eq_false_iff,beq_eq_false_iff_ne]at h;show upd (Yc L f) x.1 x.2 i=f i;rw[Zc _ _ (Ne.symm h.1)];exact ih h.2
theorem Yb {α:Type} {L:List (Nat×α)} {f:Nat→α} {i:Nat} {R:Nat→α→Prop} (hL:∀x∈L,R x.1 x.2) (h:(L.map (·.1)).contains i=true):R i (Yc L f i):=by
 induction L with
 |nil=>simp at h
 |cons x L ih=>
  show R i (upd (Yc L f) x.1 x.2 i)
  by_cases e:x.1=i
  ·subst e;rw[Za];exact hL x (by simp)
  ·rw[Zc _ _ e];refine ih (fun y hy=>hL y (by simp[hy])) ?_;simp only[List.map_cons,List.contains_cons,Bool.or_eq_true,beq_iff_eq]at h;exact h.resolve_left (Ne.symm e)
def St.inv (s:St) (ws:List Nat) (L:List (Nat×PV)) (H:List (Nat×List PV)) (R:List (Nat×Row)):St:=
 { fr:=Yc L (Zbf ws s.fr),m:= { h:=Yc (H.map fun x=>(x.1,some x.2)) s.m.h,z:=Yc (H.map fun x=>(x.1,false)) s.m.z,q:=Yc (R.map fun x=>(x.1,some x.2)) s.m.q,o:=fun _=>none,it:=fun _=>none,om:=fun _=>none,v:=fun _=>none,ph:=fun _=>none,pq:=fun _=>none,vm:=fun _=>false },n:=s.n }
structure Meets (s:St) (ws:List Nat) (L:List (Nat×PV)) (H:List (Nat×List PV)) (R:List (Nat×Row)) (s':St):Prop where
 n:s'.n=s.n
 fr:∀x∈L,s'.fr x.1=x.2
 rest:FrEq (ws++L.map (·.1)) s'.fr s.fr
 h:∀x∈H,s'.m.h x.1=some x.2∧s'.m.z x.1=false
 q:∀x∈R,s'.m.q x.1=some x.2
 hrest:∀i,(H.map (·.1)).contains i=false→s.m.h i=none∨(s.m.h i=s'.m.h i∧s.m.z i=s'.m.z i)
 qrest:∀i,(R.map (·.1)).contains i=false→s.m.q i=none∨s.m.q i=s'.m.q i
theorem Zfe {α β:Type} (L:List (Nat×α)) (f:α→β):(L.map fun x=>(x.1,f x.2)).map (·.1)=L.map (·.1):=by simp
def RefsL (s:St) (L:List (Nat×PV)) (H:List (Nat×List PV)) (R:List (Nat×Row)):Prop:=
 (∀x∈L,∀r∈x.2.ids,Live (s.inv [] L H R).m r)∧ ∀x∈H,∀c∈x.2,∀r∈c.ids,Live (s.inv [] L H R).m r
theorem Refs.inv {ws:List Nat} {L:List (Nat×PV)} {H:List (Nat×List PV)} {R:List (Nat×Row)} (h:Refs s) (hl:RefsL s L H R):Refs (s.inv ws L H R):=by
 have up:∀r,Live s.m r→Live (s.inv ws L H R).m r:=fun r hr=>by
  cases r with
  |b i=>
   show Yc (H.map fun x=>(x.1,some x.2)) s.m.h i≠none
   by_cases hi:(H.map (·.1)).contains i=true
   ·exact Yb (R:=fun i v=>v≠none) (fun x hx=>by obtain⟨y,hy,rfl⟩:=List.mem_map.1 hx;simp) (by rw[Zfe H some];exact hi)
   ·rw[WY (by rw[Zfe H some];simpa using hi)];exact hr
  |r i=>
   show Yc (R.map fun x=>(x.1,some x.2)) s.m.q i≠none
   by_cases hi:(R.map (·.1)).contains i=true
   ·exact Yb (R:=fun i v=>v≠none) (fun x hx=>by obtain⟨y,hy,rfl⟩:=List.mem_map.1 hx;simp) (by rw[Zfe R some];exact hi)
   ·rw[WY (by rw[Zfe R some];simpa using hi)];exact hr
 refine⟨fun i r hr=> ?_,fun i cs hi c hc r hr=> ?_,fun i es hi=>(by cases hi),fun b c hc=>(by cases hc)⟩
 ·by_cases hi:(L.map (·.1)).contains i=true
  ·exact Yb (R:=fun i v=>∀r∈v.ids,Live (s.inv ws L H R).m r) (fun x hx=>hl.1 x hx) hi r hr
  ·have hi':(L.map (·.1)).contains i=false:=by simpa using hi
   have hr':r∈(Yc L (Zbf ws s.fr) i).ids:=hr;rw[WY hi']at hr';unfold Zbf at hr';split at hr'
   ·simp[PV.ids]at hr'
   ·exact up r (h.fr i r hr')
 ·by_cases hi':(H.map (·.1)).contains i=true
  ·have hR:=Yb (R:=fun i v=>∀cs,v=some cs→ ∀c∈cs,∀r∈c.ids,Live (s.inv ws L H R).m r) (f:=s.m.h) (L:=H.map fun x=>(x.1,some x.2)) (i:=i)
    (fun x hx cs hcs=>by obtain⟨y,hy,rfl⟩:=List.mem_map.1 hx;cases hcs;exact hl.2 y hy) (by rw[Zfe H some];exact hi')
   exact hR cs hi c hc r hr
  ·have hi2:Yc (H.map fun x=>(x.1,some x.2)) s.m.h i=some cs:=hi;rw[WY (by rw[Zfe H some];simpa using hi')]at hi2;exact up r (h.h i cs hi2 c hc r hr)
theorem Vr {c:Code} (i d sz:Nat) (e:TypeId) (hi:s.fr i= .sl .nil []) (hd:s.m.q d=none) (h:awp P c Q ({ s with fr:=upd s.fr i (.sl (.row d) []) }.with (s.m.setq d (.live 0 sz e)))):awp P c Q s:=fun B S M a w hs=>by
 have hs1:=hs.nilRow (sz:=sz) (e:=e) hd;have hv:a.tmps.getD i undef= .slice none 0 0:=by
  have:=hs.fr i;rw[hi]at this;exact this.slnil_inv
 refine h B S _ a w ⟨hs1.defers,hs1.hn,hs1.hB,hs1.stable,fun k=> ?_,fun k r hr=> ?_,hs1.blk,hs1.row,hs1.inj,hs1.injq,hs1.injx,hs1.rm,hs1.vc,⟨hs1.pn.h,hs1.pn.q⟩,hs1.hz⟩
 ·show RepS _ _ _ _ (upd s.fr i (.sl (.row d) []) k)
  by_cases e:i=k
  ·subst e;rw[Za,hv];refine .row d _ [] (.sl0 none 0) fun n' sz' e' hq=> ?_
   simp only[St.with,Hp.setq,Za]at hq;cases hq;exact⟨Nat.le_refl _,fun _=>⟨fun _=>rfl,fun c hc=>by simp[Za]at hc⟩⟩
  ·rw[Zc _ _ e];exact hs1.fr k
 ·have hr':r∈(upd s.fr i (.sl (.row d) []) k).ids:=hr
  by_cases e:i=k
  ·subst e;rw[Za]at hr';simp only[PV.ids,List.mem_singleton]at hr';subst hr';simp[Live,St.with,Hp.setq,Za]
  ·rw[Zc _ _ e]at hr';exact hs1.ids k r hr'
end
end Go.PL
