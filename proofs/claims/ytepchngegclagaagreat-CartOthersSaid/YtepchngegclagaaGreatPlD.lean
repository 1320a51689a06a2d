/- Lemmas of the proof. -/
import Derived.Test.YtepchngegclagaaGreatPlA
import Derived.WideKeyRuns
import Derived.Scope
import Derived.ScopeJumps
import Derived.Orders
import Derived.LoopN
import Derived.Maps.RangeRun
import Derived.Still
set_option maxHeartbeats 64000000
set_option maxRecDepth 20000
set_option linter.unusedVariables false
set_option linter.unusedSimpArgs false
open Inhabited renaming default→Jd
open Option renaming some→Hs,none→Hn
open Bool renaming true→Ht,false→Hf
open Go Go.PL
open _root_.Array renaming getElem?_eq_some_iff→Jt,mem_toList_iff→JM,replicate→JP,getD_eq_getD_getElem?→JS,getElem?_toList→J4,getElem?_modify→J5,toList_filter→Kw,ext'→KL
open BelowF renaming of→Kt
open Bool renaming and_eq_true→JG,false_eq_true→Kc,or_eq_true→Kn,or_eq_false_iff→Kr,true_and→KN
open Builtin renaming len_→Kj,append_→KJ
open Decidable renaming byContradiction→JV
open Ext renaming refl→JO
open Instr renaming checkKey→Ji,sameBits→JD,mapUpdate→JE,keyThatStays→JZ,mapEntry→J2,findAsking→J6,findKey→J8,entryStore→Kh,lookup→Kk,entry→KF,makeSlice→KI,loadAt→KU,range→K1
open List renaming mem_map→Je,getElem_of_mem→Jg,length_map→Jh,mem_append→Jj,getElem_map→Jl,mem_singleton→Jo,mem_flatMap→Jp,all_eq_true→Jv,getElem_mem→Jw,eq_nil_iff_forall_not_mem→JA,length_cons→JB,length_append→JI,length_nil→JJ,append_nil→JK,mem_of_mem_drop→JL,mem_cons→JN,mem_of_mem_take→JT,mem_or_eq_of_mem_set→JU,map_congr_left→JW,map_cons→JX,getElem_set→J7,ext_getElem?→Ke,nil_append→Ko,getElem_zipWith→Kq,getD_cons_succ→Ku,zip_eq_zipWith→Kv,contains_cons→Ky,getElem?_set→KA,push_toArray→KB,forIn_cons→KG,mem_filter→KK,map→KM,all_map→KX,map_nil→KZ
open Nat renaming le_refl→JF,sub_zero→Kl,lt_of_lt_of_le→Kz,add_assoc→KP,zero_add→KW,add_comm→KY
open Ne renaming symm→Jz
open Op renaming operands→Ja,equal→K0,equalIn→K2
open Option renaming some→Jm,map_some→JY,getD_some→KE
open PV renaming ids→Jb,giveL_length→Jf,givable→Jn,givableL→Jq,idsL→Jr,mem_idsL→Js,giveL→Ju,give→Jy,shareL→JQ,giveL_getD→JR,cells→J9,share→Kd,cleanL→Kf,givableL_getD→Kg,ptr→KC,atom→KQ,agg→KT,tup→K3
open Prod renaming mk→Ki
open Region renaming ready→J3,binds→Ka,Mode→Ks,wanted→KO
open RepS renaming clean→Kx,agg→K4
open Result renaming andThen_ok→Jc
open SLe renaming refl→JH
open Sem renaming run_bind→Jk,run_pure→JC,run→Km
open Snd renaming clean→KD
namespace Go.PL
open Go.RowKit
mutual
def PV.ren (f g:Nat->Nat):PV->PV
 | .ptr id off=> .ptr (g id) off
 | .osl id off len sz=> .osl (g id) off len sz
 | .sl (.row id) es=> .sl (.row (f id)) es
 | .vsl id len sz=> .vsl (f id) len sz
 | .vptr id n sz i off=> .vptr (f id) n sz i off
 | .agg cs=> .agg (PV.renL f g cs)
 | .tup cs=> .tup (PV.renL f g cs)
 | .fn h cs=> .fn h (PV.renL f g cs)
 |p=>p
def PV.renL (f g:Nat->Nat):List PV->List PV
 | []=> []
 |c::cs=>PV.ren f g c::PV.renL f g cs
end
def Ref.ren (f g:Nat->Nat):Ref->Ref
 | .b i=> .b (g i)
 | .r i=> .r (f i)
variable {f g:Nat->Nat}
theorem PV.renL_map:∀(cs:List PV),PV.renL f g cs=cs.map (PV.ren f g)
 | []=>rfl
 |c::cs=>by simp[PV.renL,PV.renL_map cs]
theorem PV.renL_length (cs:List PV):(PV.renL f g cs).length=cs.length:=by rw[PV.renL_map];simp
theorem PV.renL_getD (cs:List PV) (i:Nat) (hi:i<cs.length):(PV.renL f g cs).getD i .any=(cs.getD i .any).ren f g:=by
 rw[PV.renL_map,getD_lt (by simpa using hi),getD_lt hi,Jl]
theorem U3 (p:PV):(p.ren f g).cells=p.cells.map (PV.ren f g):=by
 cases p with
 |agg cs=>simp[PV.ren,J9,PV.renL_map]
 |sl t es=>cases t<;>simp[PV.ren,J9]
 |_=>simp[PV.ren,J9]
theorem ZgM (p:PV):(p.ren f g).atom=p.atom:=by
 cases p with
 |sl t es=>cases t<;>simp[PV.ren,KQ]
 |_=>simp[PV.ren,KQ]
mutual
theorem Fw:∀(p:PV),(p.ren f g).ids=p.ids.map (Ref.ren f g)
 | .ptr _ _=>by simp[PV.ren,Jb,Ref.ren]
 | .osl _ _ _ _=>by simp[PV.ren,Jb,Ref.ren]
 | .sl t es=>by cases t<;>simp[PV.ren,Jb,Ref.ren]
 | .vsl _ _ _=>by simp[PV.ren,Jb,Ref.ren]
 | .vptr _ _ _ _ _=>by simp[PV.ren,Jb,Ref.ren]
 | .agg cs=>by simp only[PV.ren,Jb];exact Dv cs
 | .tup cs=>by simp only[PV.ren,Jb];exact Dv cs
 | .fn _ cs=>by simp only[PV.ren,Jb];exact Dv cs
 | .any=>by simp[PV.ren,Jb]
 | .int _ _=>by simp[PV.ren,Jb]
 | .bool _=>by simp[PV.ren,Jb]
 | .str _=>by simp[PV.ren,Jb]
 | .flt _ _=>by simp[PV.ren,Jb]
 | .cpx _ _ _=>by simp[PV.ren,Jb]
 | .rptr _=>by simp[PV.ren,Jb]
 | .nilp=>by simp[PV.ren,Jb]
 | .nilfn=>by simp[PV.ren,Jb]
 | .nilmap=>by simp[PV.ren,Jb]
 | .mref _=>by simp[PV.ren,Jb]
 | .rmap _ _=>by simp[PV.ren,Jb]
 | .iptr _=>by simp[PV.ren,Jb]
theorem Dv:∀(cs:List PV),Jr (PV.renL f g cs)=(Jr cs).map (Ref.ren f g)
 | []=>rfl
 |c::cs=>by simp only[PV.renL,Jr,List.map_append,Fw c,Dv cs]
end
mutual
theorem Vk:∀(p:PV),p.ids= []->p.ren f g=p
 | .ptr _ _,h=>by simp[Jb]at h
 | .osl _ _ _ _,h=>by simp[Jb]at h
 | .sl t es,h=>by cases t<;>simp[Jb]at h<;>simp[PV.ren]
 | .vsl _ _ _,h=>by simp[Jb]at h
 | .vptr _ _ _ _ _,h=>by simp[Jb]at h
 | .agg cs,h=>by simp only[PV.ren];rw[V3 cs (by simpa[Jb]using h)]
 | .tup cs,h=>by simp only[PV.ren];rw[V3 cs (by simpa[Jb]using h)]
 | .fn _ cs,h=>by simp only[PV.ren];rw[V3 cs (by simpa[Jb]using h)]
 | .any,_=>by simp[PV.ren]
 | .int _ _,_=>by simp[PV.ren]
 | .bool _,_=>by simp[PV.ren]
 | .str _,_=>by simp[PV.ren]
 | .flt _ _,_=>by simp[PV.ren]
 | .cpx _ _ _,_=>by simp[PV.ren]
 | .rptr _,_=>by simp[PV.ren]
 | .nilp,_=>by simp[PV.ren]
 | .nilfn,_=>by simp[PV.ren]
 | .nilmap,_=>by simp[PV.ren]
 | .mref _,_=>by simp[PV.ren]
 | .rmap _ _,_=>by simp[PV.ren]
 | .iptr _,_=>by simp[PV.ren]
theorem V3:∀(cs:List PV),Jr cs= []->PV.renL f g cs=cs
 | [],_=>rfl
 |c::cs,h=>by
  simp only[Jr,List.append_eq_nil_iff]at h;simp only[PV.renL,Vk c h.1,V3 cs h.2]
end
variable {S:Stable} {M M':Maps} {q q':Rows}
theorem RepS.ren {v:Value} {p:PV} (r:RepS S M q v p) (hb:∀i,.b i∈p.ids->M'.φ (g i)=M.φ i) (hr:∀i,.r i∈p.ids->q' (f i)=q i/\M'.κ (f i)=M.κ i/\M'.ψ (f i)=M.ψ i):RepS S M' q' v (p.ren f g):=by
 induction r with
 |clean r=>
  rw[Vk _ (JA.2 r.clean_ids)];exact .clean r
 |ptr id off=>simp only[PV.ren];rw[<-hb id (by simp[Jb])];exact .ptr _ _
 |osl id off len cap sz hc=>simp only[PV.ren];rw[<-hb id (by simp[Jb])];exact .osl _ _ _ _ _ hc
 |row id v es r t=>
  obtain⟨h1,h2,h3⟩:=hr id (by simp[Jb]);simp only[PV.ren];exact .row _ v es r λn sz e hn=>by rw[h1]at hn;rw[h2,h3];exact t n sz e hn
 |vsl id len sz v hv t=>
  obtain⟨h1,h2,h3⟩:=hr id (by simp[Jb]);simp only[PV.ren];exact .vsl _ len sz v hv λn sz' e hn=>by rw[h1]at hn;rw[h2,h3];exact t n sz' e hn
 |vptr id n sz i off v hv hi t=>
  obtain⟨h1,h2,h3⟩:=hr id (by simp[Jb]);simp only[PV.ren];exact .vptr _ n sz i off v hv hi λn' sz' e hn=>by rw[h1]at hn;rw[h3];exact t n' sz' e hn
 |agg vs cs hl _ ih=>
  simp only[PV.ren];refine .agg vs _ (by rw[PV.renL_length];exact hl) λi hi=> ?_
  rw[PV.renL_length]at hi;rw[PV.renL_getD cs i hi];have sub:∀k,k∈(cs.getD i .any).ids->k∈(KT cs).ids:=λk hk=>by simp only[Jb,Js];exact⟨_,Ze hi,hk⟩
  exact ih i hi (λk hk=>hb k (sub _ hk)) (λk hk=>hr k (sub _ hk))
 |tup vs cs hl _ ih=>
  simp only[PV.ren];refine .tup vs _ (by rw[PV.renL_length];exact hl) λi hi=> ?_
  rw[PV.renL_length]at hi;rw[PV.renL_getD cs i hi];have sub:∀k,k∈(cs.getD i .any).ids->k∈(K3 cs).ids:=λk hk=>by simp only[Jb,Js];exact⟨_,Ze hi,hk⟩
  exact ih i hi (λk hk=>hb k (sub _ hk)) (λk hk=>hr k (sub _ hk))
 |fn h vs cs hl _ ih=>
  simp only[PV.ren];refine .fn h vs _ (by rw[PV.renL_length];exact hl) λi hi=> ?_
  rw[PV.renL_length]at hi;rw[PV.renL_getD cs i hi];have sub:∀k,k∈(cs.getD i .any).ids->k∈(PV.fn h cs).ids:=λk hk=>by simp only[Jb,Js];exact⟨_,Ze hi,hk⟩
  exact ih i hi (λk hk=>hb k (sub _ hk)) (λk hk=>hr k (sub _ hk))
theorem RepS.unren {v:Value} {p':PV} (r:RepS S M' q' v p'):∀p:PV,p.ren f g=p'->(∀i,.b i∈p.ids->M'.φ (g i)=M.φ i)->(∀i,.r i∈p.ids->q' (f i)=q i/\M'.κ (f i)=M.κ i/\M'.ψ (f i)=M.ψ i)->RepS S M q v p:=by
 induction r with
 |clean r=>
  intro p hp hb hr;have hc:p.ids= []:=by
   have h:=Fw (f:=f) (g:=g) p;rw[hp,JA.2 r.clean_ids]at h;simpa using h.symm
  rw[Vk _ hc]at hp;subst hp;exact .clean r
 |ptr id off=>
  intro p hp hb hr;cases p with
  |ptr i o=>simp only[PV.ren,KC.injEq]at hp;obtain⟨rfl,rfl⟩:=hp;rw[hb i (by simp[Jb])];exact .ptr _ _
  |sl t es=>cases t<;>simp[PV.ren]at hp
  |_=>simp[PV.ren]at hp
 |osl id off len cap sz hc=>
  intro p hp hb hr;cases p with
  |osl i o l z=>simp only[PV.ren,PV.osl.injEq]at hp;obtain⟨rfl,rfl,rfl,rfl⟩:=hp;rw[hb i (by simp[Jb])];exact .osl _ _ _ _ _ hc
  |sl t es=>cases t<;>simp[PV.ren]at hp
  |_=>simp[PV.ren]at hp
 |row id v es r t=>
  intro p hp hb hr;cases p with
  |sl t' es'=>
   cases t' with
   |row i=>
    simp only[PV.ren,PV.sl.injEq,Tok.row.injEq]at hp;obtain⟨rfl,rfl⟩:=hp;obtain⟨h1,h2,h3⟩:=hr i (by simp[Jb]);exact .row _ v _ r λn sz e hn=>by rw[<-h1]at hn;rw[<-h2,<-h3];exact t n sz e hn
   |_=>simp[PV.ren]at hp
  |_=>simp[PV.ren]at hp
 |vsl id len sz v hv t=>
  intro p hp hb hr;cases p with
  |vsl i l z=>
   simp only[PV.ren,PV.vsl.injEq]at hp;obtain⟨rfl,rfl,rfl⟩:=hp;obtain⟨h1,h2,h3⟩:=hr i (by simp[Jb]);exact .vsl _ _ _ v hv λn sz' e hn=>by rw[<-h1]at hn;rw[<-h2,<-h3];exact t n sz' e hn
  |sl t es=>cases t<;>simp[PV.ren]at hp
  |_=>simp[PV.ren]at hp
 |vptr id n sz i off v hv hi t=>
  intro p hp hb hr;cases p with
  |vptr j n' sz' i' off'=>
   simp only[PV.ren,PV.vptr.injEq]at hp;obtain⟨rfl,rfl,rfl,rfl,rfl⟩:=hp;obtain⟨h1,h2,h3⟩:=hr j (by simp[Jb]);exact .vptr _ _ _ _ _ v hv hi λn' sz' e hn=>by rw[<-h1]at hn;rw[<-h3];exact t n' sz' e hn
  |sl t es=>cases t<;>simp[PV.ren]at hp
  |_=>simp[PV.ren]at hp
 |agg vs cs' hl _ ih=>
  intro p hp hb hr;cases p with
  |agg cs=>
   simp only[PV.ren,KT.injEq]at hp;subst hp;rw[PV.renL_length]at hl;refine .agg vs cs hl λi hi=> ?_
   have sub:∀k,k∈(cs.getD i .any).ids->k∈(KT cs).ids:=λk hk=>by simp only[Jb,Js];exact⟨_,Ze hi,hk⟩
   exact ih i (by rw[PV.renL_length];exact hi) _ (PV.renL_getD cs i hi).symm (λk hk=>hb k (sub _ hk)) (λk hk=>hr k (sub _ hk))
  |sl t es=>cases t<;>simp[PV.ren]at hp
  |_=>simp[PV.ren]at hp
 |tup vs cs' hl _ ih=>
  intro p hp hb hr;cases p with
  |tup cs=>
   simp only[PV.ren,K3.injEq]at hp;subst hp;rw[PV.renL_length]at hl;refine .tup vs cs hl λi hi=> ?_
   have sub:∀k,k∈(cs.getD i .any).ids->k∈(K3 cs).ids:=λk hk=>by simp only[Jb,Js];exact⟨_,Ze hi,hk⟩
   exact ih i (by rw[PV.renL_length];exact hi) _ (PV.renL_getD cs i hi).symm (λk hk=>hb k (sub _ hk)) (λk hk=>hr k (sub _ hk))
  |sl t es=>cases t<;>simp[PV.ren]at hp
  |_=>simp[PV.ren]at hp
 |fn h vs cs' hl _ ih=>
  intro p hp hb hr;cases p with
  |fn h' cs=>
   simp only[PV.ren,PV.fn.injEq]at hp;obtain⟨rfl,hp⟩:=hp;subst hp;rw[PV.renL_length]at hl;refine .fn _ vs cs hl λi hi=> ?_
   have sub:∀k,k∈(cs.getD i .any).ids->k∈(PV.fn h' cs).ids:=λk hk=>by simp only[Jb,Js];exact⟨_,Ze hi,hk⟩
   exact ih i (by rw[PV.renL_length];exact hi) _ (PV.renL_getD cs i hi).symm (λk hk=>hb k (sub _ hk)) (λk hk=>hr k (sub _ hk))
  |sl t es=>cases t<;>simp[PV.ren]at hp
  |_=>simp[PV.ren]at hp
open Go.RowKit
def ZcY (P:Program) (t:TypeId):Bool:=match P.underlying t with|some (.int _)|some .string|some .bool=>Ht|_=>Hf
def Zr5 (P:Program) (n:Nat) (f:Field):Bool:=
 (ZcY P f.type&&(decide (f.offset<n)&&decide (tsz P f.type=1)))||
 (match P.underlying f.type with
  |some (.struct gs)=>decide (f.offset+tsz P f.type<=n)&&gs.toList.all λg=>ZcY P g.type&&(decide (g.offset<tsz P f.type)&&decide (tsz P g.type=1))
  |_=>Hf)
def Zm8 (P:Program) (t:TypeId):Option (List Leaf×PV):=
 match P.underlying t with
 |some (.map kt et)=>match P.underlying kt with
  |some (.struct fs)=>match Uz P Gj kt,P.info? et with
   |some ls,Hs i=>match i.zero with
    |some z=>if fs.toList.all (Zr5 P ls.length)then Hs (ls,Xp z)else Hn
    |none=>Hn
   |_,_=>Hn
  |_=>Hn
 |_=>Hn
def Gu (m:Hp):PV->Option MapC
 | .rmap ks vs=>Hs ⟨ks,vs⟩
 | .mref b=>m.o b
 |_=>Hn
def findP (ls:List Leaf) (a:List PV):List PV->Nat->Option (Option Nat)
 | [],_=>Hs Hn
 | .agg b::xs,i=>match Zt ls a b with
  |some Ht=>Hs (Hs i)
  |some Hf=>findP ls a xs (i+1)
  |none=>Hn
 |_::_,_=>Hn
def Zmy (z:PV) (vs:List PV) (ok:Bool):Option Nat->PV
 |some i=>if ok then .tup [vs.getD i .any,.bool Ht]else vs.getD i .any
 |none=>if ok then .tup [z,.bool Hf]else z
def XC (P:Program) (t:TypeId) (x k:PV) (ok:Bool) (m:Hp):ARes:=
 match Zm8 P t,Gu m x,k with
 |some (ls,z),Hs c,.agg a=>match findP ls a c.ks 0 with
  |some r=>⟨a.length=ls.length,Zmy z c.vs ok r,m⟩
  |none=> .fail
 |_,_,_=> .fail
def ZP (P:Program) (t:TypeId) (x k v:PV) (m:Hp):ARes:=
 match x with
 | .mref b=>match Zm8 P t,m.o b,k with
  |some (ls,_),Hs c,.agg a=>match findP ls a c.ks 0 with
   |some (Hs i)=>⟨a.length=ls.length/\Kf a=Ht/\v.clean=Ht,.tup [],{ m with o:=upd m.o b (Hs ⟨c.ks,c.vs.set i v.share⟩) }⟩
   |some Hn=>⟨a.length=ls.length/\Kf a=Ht/\v.clean=Ht,.tup [],{ m with o:=upd m.o b (Hs ⟨c.ks++ [.agg (JQ a)],c.vs++ [v.share]⟩) }⟩
   |none=> .fail
  |_,_,_=> .fail
 |_=> .fail
def mapIt (m:Hp) (it:IterC):Option MapC:=match it.c with
 |some c=>Hs c
 |none=>m.o it.b
def W0 (x:PV) (m:Hp):ARes:=
 match x with
 | .iptr b=>match m.it b with
  |some it=>match mapIt m it,it.seen.getLast? with
   |some c,Hs i=>⟨c.ks.length=it.n/\i<c.ks.length,.tup [c.ks.getD i .any,c.vs.getD i .any],m⟩
   |_,_=> .fail
  |none=> .fail
 |_=> .fail
def ZjM:PV->Bool
 | .mref _=>Ht
 | .rmap _ _=>Ht
 |_=>Hf
def ZfL (P:Program) (t:TypeId):Bool:=match P.underlying t with|some (.map _ _)=>Ht|_=>Hf
def Wb (P:Program) (t:TypeId) (x:PV) (m:Hp):ARes:=
 match Gu m x with
 |some c=>⟨ZfL P t=Ht,.int .i64 c.ks.length,m⟩
 |none=> .fail
section
variable {P:Program} {B:Frm} {S:Stable} {M:Maps} {s:St} {a:Act} {w:World}
theorem SW {t:TypeId} {ls:List Leaf} {z:PV} (h:Zm8 P t=Hs (ls,z)):∃kt et fs i zv,P.underlying t=Hs (.map kt et)/\P.underlying kt=Hs (.struct fs)/\Uz P Gj kt=Hs ls/\P.info? et=Hs i/\i.zero=Hs zv/\z=Xp zv/\
  ∀f∈fs.toList,Zr5 P ls.length f=true:=by
 unfold Zm8 at h;split at h;rename_i kt et h1;split at h;rename_i fs h2;split at h;rename_i l i h3 h4;split at h;rename_i zv h5;split at h;rename_i h6;simp only[Jm.injEq,Ki.injEq]at h;obtain⟨rfl,rfl⟩:=h;exact⟨kt,et,fs,i,zv,h1,h2,h3,h4,h5,rfl,λf hf=>Jv.1 h6 f hf⟩;cases h;cases h;cases h;cases h;cases h
theorem ZaX (hs:Sim B S M s a w) {v:Value} {x:PV} {c:MapC} (hr:RepS S M s.m.q v x) (hm:Gu s.m x=Hs c):
  ∃b es,v= .map (Hs b)/\w.heap[b]? = Hs (.map ⟨es⟩ es.length)/\es.length=c.ks.length/\c.vs.length=c.ks.length/\
   (∀i,i<c.ks.length->(es.getD i Jd).born=i)/\(∀i,i<c.ks.length->Rep S (es.getD i Jd).key (c.ks.getD i .any))/\(∀i,i<c.ks.length->Rep S (es.getD i Jd).val (c.vs.getD i .any)):=by
 cases x with
 |rmap ks vs=>
  simp only[Gu,Jm.injEq]at hm;subst hm;cases hr with
  |clean r=>
   cases r with
   |rmap b es _ _ hS hk hv hb hK hV=>exact⟨b,es,rfl,hs.stable.s.m b es hS,hk,hv,hb,hK,hV⟩
 |mref b=>
  simp only[Gu]at hm;obtain⟨_,_,es,h1,h2,h3,h4,h5,h6⟩:=hs.stable.o b c hm;have e:v= .map (Hs b):=by cases hr with|clean r=>cases r;rfl
  exact⟨b,es,e,h1,h2,h3,h4,h5,h6⟩
 |_=>simp[Gu]at hm
theorem Zd0 (hs:Sim B S M s a w) {t ty:TypeId} {u:Value} {p:PV} (hu:RepS S M s.m.q u p) (hok:(Wb P t p s.m).ok):Snd P B S s a w (Kj #[t] ty #[u]) (Wb P t p s.m):=by
 revert hok;unfold Wb;split;rename_i c hm;intro hk;simp only at hk;obtain⟨b,es,rfl,e1,e2,_⟩:=ZaX hs hu hm;unfold ZfL at hk;split at hk;rename_i k e h1;have hg:=MapKept.run_getObj_map (P:=P) e1;refine KD hs (v:= .int .i64 c.ks.length) ?_ (.int _ _);simp[Kj,run_underlying h1,hg,goInt,e2];cases hk;exact λh=>h.elim
theorem GE {kt:TypeId} {fs:Array Field} {vs:List Value} (hu:P.underlying kt=Hs (.struct fs)) (hf:∀f∈fs.toList,ZcY P f.type=Ht/\f.offset<vs.length/\tsz P f.type=1) (em:Bool) (n:Nat) (w:World):
  (Ji em (n+2) kt (.agg ⟨vs⟩)).run P w= .ok () w:=by
 obtain⟨fs⟩:=fs;have step:∀f∈fs,∃v,(part f.type ⟨vs⟩ f.offset).run P w= .ok v w/\(Ji em (n+1) f.type v).run P w= .ok () w:=λf hm=>by
  obtain⟨h1,h2,h3⟩:=hf f hm;have hb:∃d,P.underlying f.type=Hs d/\Z2 P f.type=Hf/\ ∀v,(Ji em (n+1) f.type v).run P w= .ok () w:=by
   unfold ZcY at h1;split at h1;rename_i k hk;exact⟨_,hk,by simp[Z2,hk],λv=>by simp[Ji,run_underlying hk]⟩;rename_i hk;exact⟨_,hk,by simp[Z2,hk],λv=>by simp[Ji,run_underlying hk]⟩;rename_i hk;exact⟨_,hk,by simp[Z2,hk],λv=>by simp[Ji,run_underlying hk]⟩;cases h1
  obtain⟨d,hd,ht,hc⟩:=hb;exact⟨_,Y3 hd (by omega) (λ_=>h3) w,hc _⟩
 have loop:∀(l:List Field),(∀f∈l,f∈fs)->(forIn l PUnit.unit (λf (_:PUnit)=>(if f.name≠ "_" then(do let x <-part f.type ⟨vs⟩ f.offset;Ji em (n+1) f.type x;Pure.pure (ForInStep.yield PUnit.unit))else Pure.pure (ForInStep.yield PUnit.unit):Sem (ForInStep PUnit)))).run P w= .ok PUnit.unit w:=by
  intro l;induction l with
  |nil=>intro _;simp
  |cons f l ih=>
   intro hl;obtain⟨v,h1,h2⟩:=step f (hl f (by simp));rw[KG];by_cases hn:f.name≠ "_";simp only[hn,ne_eq,not_false_eq_true,if_true,Jk,h1,h2,Jc,JC];simpa using ih (λg hg=>hl g (by simp[hg]));simp only[hn,if_false,Jk,Jc,JC];simpa using ih (λg hg=>hl g (by simp[hg]))
 have:=loop fs (λ_ h=>h);unfold Ji;simp only[Jk,run_underlying hu,Jc];simp at this ⊢;rw[this];rfl
theorem WH {kt:TypeId} {fs:Array Field} {vs:List Value} (hu:P.underlying kt=Hs (.struct fs)) (hf:∀f∈fs.toList,Zr5 P vs.length f=Ht) (em:Bool) (n:Nat) (w:World):
  (Ji em (n+3) kt (.agg ⟨vs⟩)).run P w= .ok () w:=by
 obtain⟨fs⟩:=fs;have step:∀f∈fs,∃v,(part f.type ⟨vs⟩ f.offset).run P w= .ok v w/\(Ji em (n+2) f.type v).run P w= .ok () w:=λf hm=>by
  have h:=hf f hm;unfold Zr5 at h;simp only[Kn,JG,decide_eq_true_eq]at h;rcases h with ⟨h1,h2,h3⟩|h;have hb:∃d,P.underlying f.type=Hs d/\Z2 P f.type=Hf/\ ∀v,(Ji em (n+2) f.type v).run P w= .ok () w:=by
   unfold ZcY at h1;split at h1;rename_i k hk;exact⟨_,hk,by simp[Z2,hk],λv=>by simp[Ji,run_underlying hk]⟩;rename_i hk;exact⟨_,hk,by simp[Z2,hk],λv=>by simp[Ji,run_underlying hk]⟩;rename_i hk;exact⟨_,hk,by simp[Z2,hk],λv=>by simp[Ji,run_underlying hk]⟩;cases h1
  obtain⟨d,hd,ht,hc⟩:=hb;exact⟨_,Y3 hd (by omega) (λ_=>h3) w,hc _⟩;split at h;rename_i gs hg;simp only[JG,decide_eq_true_eq,Jv]at h;obtain⟨h1,h2⟩:=h;have ht:Z2 P f.type=true:=by simp[Z2,hg]
  refine⟨_,Y3 hg h1 (λe=>by rw[ht]at e;cases e) w,?_⟩;rw[show Y7 P f.type ((vs.drop f.offset).take (tsz P f.type))= .agg ⟨(vs.drop f.offset).take (tsz P f.type)⟩by simp[Y7,ht]];refine GE hg (λg hgm=> ?_) em n w;obtain⟨k1,k2,k3⟩:=h2 g hgm;exact⟨k1,by rw[List.length_take,List.length_drop];omega,k3⟩;cases h
 have loop:∀(l:List Field),(∀f∈l,f∈fs)->(forIn l PUnit.unit (λf (_:PUnit)=>(if f.name≠ "_" then(do let x <-part f.type ⟨vs⟩ f.offset;Ji em (n+2) f.type x;Pure.pure (ForInStep.yield PUnit.unit))else Pure.pure (ForInStep.yield PUnit.unit):Sem (ForInStep PUnit)))).run P w= .ok PUnit.unit w:=by
  intro l;induction l with
  |nil=>intro _;simp
  |cons f l ih=>
   intro hl;obtain⟨v,h1,h2⟩:=step f (hl f (by simp));rw[KG];by_cases hn:f.name≠ "_";simp only[hn,ne_eq,not_false_eq_true,if_true,Jk,h1,h2,Jc,JC];simpa using ih (λg hg=>hl g (by simp[hg]));simp only[hn,if_false,Jk,Jc,JC];simpa using ih (λg hg=>hl g (by simp[hg]))
 have:=loop fs (λ_ h=>h);unfold Ji;simp only[Jk,run_underlying hu,Jc];simp at this ⊢;rw[this];rfl
theorem DW {kt:TypeId} {ls:List Leaf} {vs:List Value} {cs:List PV} {q:Rows} (hl:Uz P Gj kt=Hs ls) (ht:Z2 P kt=Ht) (hk:RepL S M q vs cs) (w:World):
  ∀(es:List MapEntry) (ks:List PV) (i:Nat) (r:Option Nat),es.length=ks.length->(∀j,j<ks.length->Rep S (es.getD j Jd).key (ks.getD j .any))->findP ls cs ks i=Hs r->
   (J6 kt (.agg ⟨vs⟩) es i).run P w= .ok (r.map λj=>(j,(es.getD (j-i) Jd).val)) w/\(∀j,r=Hs j->i<=j/\j<i+ks.length/\ ∃ds,ks.getD (j-i) .any= .agg ds/\Zt ls cs ds=Hs Ht)
 | [],[],i,r,_,_,h=>by
  simp only[findP,Jm.injEq]at h;subst h;exact⟨by simp[J6],by simp⟩
 |e::es,k::ks,i,r,hlen,hK,h=>by
  have hk0:=hK 0 (by simp);simp only[List.getD_cons_zero]at hk0;cases k with
  |agg ds=>
   simp only[findP]at h;obtain⟨us,hus,hl2,hru⟩:=(Kx (S:=S) (M:=M) (q:=q) hk0).agg_inv;have heq:∀ {b},Zt ls cs ds=Hs b->(K0 kt (.agg ⟨vs⟩) e.key).run P w= .ok b w:=λ{b} hb=>by
    have:=Zma (S:=S) (M:=M) (h:=q) Gj kt ls hl Op.maxDepth (by decide) vs us cs ds b hk ⟨hl2,hru⟩ hb w;rw[hus];simpa[Y7,ht,K0]using this
   cases hb:Zt ls cs ds with
   |none=>rw[hb]at h;cases h
   |some b=>
    rw[hb]at h;cases b with
    |true=>
     simp only[Jm.injEq]at h;subst h;refine⟨by simp[J6,heq hb],λj hj=> ?_⟩;cases hj;exact⟨JF _,by simp,ds,by simp,hb⟩
    |false=>
     simp only at h;obtain⟨h1,h2⟩:=DW hl ht hk w es ks (i+1) r (by simpa using hlen) (λj hj=>by simpa using hK (j+1) (by simpa using hj)) h;refine⟨?_,λj hj=> ?_⟩
     ·simp only[J6,Jk,heq hb,Jc,Kc,if_false,h1];cases r with
      |none=>rfl
      |some j=>
       obtain⟨g1,g2,_⟩:=h2 j rfl;have:j-i=(j-(i+1))+1:=by omega
       simp only[JY,this,Ku]
     ·obtain⟨g1,g2,ds',g3,g4⟩:=h2 j hj;have:j-i=(j-(i+1))+1:=by omega
      exact⟨by omega,by simp;omega,ds',by rw[this,Ku];exact g3,g4⟩
  |_=>simp[findP]at h
 | [],_::_,_,_,hlen,_,_=>by simp at hlen
 |_::_,[],_,_,hlen,_,_=>by simp at hlen
theorem ZdZ (hs:Sim B S M s a w) {t:TypeId} {u v:Value} {x k:PV} {ok:Bool} (hu:RepS S M s.m.q u x) (hv:RepS S M s.m.q v k) (hok:(XC P t x k ok s.m).ok):Snd P B S s a w (Kk t u v ok) (XC P t x k ok s.m):=by
 revert hok;unfold XC;split;rename_i ls z c cs h1 h2;split;rename_i r hr;intro hlen;obtain⟨kt,et,fs,i,zv,t1,t2,t3,t4,t5,rfl,t6⟩:=SW h1;obtain⟨b,es,rfl,e1,e2,e3,e4,e5,e6⟩:=ZaX hs hu h2;obtain⟨vs,rfl,hl,hrv⟩:=hv.agg_inv;have ht:Z2 P kt=true:=by simp[Z2,t2]
 obtain⟨f1,f2⟩:=DW (S:=S) (M:=M) (q:=s.m.q) t3 ht ⟨hl,hrv⟩ w es c.ks 0 r e2 e5 hr;have hck:=WH (vs:=vs) t2 (λf hf=>by rw[hl,hlen];exact t6 f hf) (⟨es⟩:Array MapEntry).isEmpty 9997 w;have hfk:(J8 kt (.agg ⟨vs⟩) es).run P w= .ok (r.map λj=>(j,(es.getD (j-0) Jd).val)) w:=by
  rw[run_findKey_eq w (by rw[t2]) (.agg ⟨vs⟩) es];exact f1
 have hz:(zeroValue et).run P w= .ok zv w:=by simp[zeroValue,T2 t4,t5]
 have hg:=MapKept.run_getObj_map (P:=P) e1;cases r with
 |none=>
  refine KD hs (v:=if ok then .tuple #[zv,.bool Hf]else zv) ?_ ?_
  ·simp only[Kk,Jk,run_underlying t1,Jc,hg,JC,hck,hfk,Option.map_none,hz]
  ·cases ok
   ·exact Ww S zv
   ·refine .tup [zv,.bool Hf] [Xp zv,.bool Hf] rfl (λi hi=> ?_)
    match i,hi with
    |0,_=>exact Ww S zv
    |1,_=>exact .bool _
 |some j=>
  obtain⟨_,g2,_⟩:=f2 j rfl;have hval:=e6 j (by omega);refine KD hs (v:=if ok then .tuple #[(es.getD j Jd).val,.bool Ht]else(es.getD j Jd).val) ?_ ?_
  ·simp only[Kk,Jk,run_underlying t1,Jc,hg,JC,hck,hfk,JY,Kl]
  ·cases ok
   ·exact hval
   ·refine .tup [_,.bool Ht] [_,.bool Ht] rfl (λi hi=> ?_)
    match i,hi with
    |0,_=>exact hval
    |1,_=>exact .bool _
 exact λh=>h.elim
 exact λh=>h.elim
theorem Sim.special (hs:Sim B S M s a w) {w':World} {b:Nat} (hb:∀vs t f,w.heap[b]? ≠ Hs (.cells vs t f)) (hw:∀k,k≠b->w'.heap[k]? = w.heap[k]?) (hsz:w'.heap.size=w.heap.size)
  {o':Nat->Option MapC} {it':Nat->Option IterC} (hst:Stab B S w' o' it') (hom:∀k d,s.m.om k=Hs d->k≠b/\o' k=Hn):Sim B S M (s.with { s.m with o:=o',it:=it' }) a w':=by
 have live:∀i,Live s.m i->Live { s.m with o:=o',it:=it' } i:=λi h=>by cases i<;>exact h
 refine⟨hs.defers,hs.hn,λk hk=>by rw[hsz];exact hs.hB k hk,hst,hs.fr,λi k hk=>live k (hs.ids i k hk),λi cs hi=> ?_,λi r hi=> ?_,hs.inj,hs.injq,hs.injx,λk d hk=> ?_,λi es he=> ?_,⟨hs.pn.h,hs.pn.q⟩,hs.hz⟩;have h':=hs.blk i cs hi;show SZ _ _ _ _ _ _ _ (s.m.z i);cases hz:s.m.z i with
 |false=>
  rw[hz]at h';obtain⟨g1,g2,⟨us,t',g3,g4,g5⟩,g6⟩:=h';exact⟨g1,g2,⟨us,t',by rw[hw _ (λe=>hb _ _ _ (e▸g3))];exact g3,g4,g5⟩,λc hc k hk=>live k (g6 c hc k hk)⟩
 |true=>rw[hz]at h';exact h'
 have h':=hs.row i r hi;cases r with
 |live n sz e=>
  obtain⟨g1,g2⟩:=h';refine⟨g1,λc hc=> ?_⟩;obtain⟨k0,k1,k2,⟨us,k3,k4⟩,k5⟩:=g2 c hc;exact⟨k0,k1,k2,⟨us,by rw[hw _ (λe=>hb _ _ _ (e▸k3))];exact k3,k4⟩,k5⟩
 |vec n sz e=>
  obtain⟨g1,g2⟩:=h';refine⟨g1,λc hc=> ?_⟩;obtain⟨k0,k1,k2,⟨us,k3,k4⟩,k5⟩:=g2 c hc;exact⟨k0,k1,k2,⟨us,by rw[hw _ (λe=>hb _ _ _ (e▸k3))];exact k3,k4⟩,k5⟩
 |dead=>trivial
 obtain⟨g1,g2,g3,g4⟩:=hs.rm k d hk;exact⟨g1,g2,(hom k d hk).2,g4.move (JH _) (hw k (hom k d hk).1) (λv p r _=>r) live⟩;refine(hs.vc i es he).move (λ_ _ _ h=>h) rfl rfl (λhk=>hw _ λee=> ?_) (λv p r _=>r) live;obtain⟨sz,e,q1⟩:=hs.vec_q he;obtain⟨_,h2⟩:=hs.row i _ q1;obtain⟨_,_,_,⟨vs,k5,_⟩,_⟩:=h2 (M.κ i-1) (by omega);exact hb _ _ _ (ee▸k5)
theorem Sim.om_ne (hs:Sim B S M s a w) {k b:Nat} {d c:MapC} (hk:s.m.om k=Hs d) (h2:s.m.o b=Hs c) {x:Option MapC}:k≠b/\upd s.m.o b x k=none:=by
 have g3:=(hs.rm k d hk).2.2.1;have hne:k≠b:=λe=>by subst e;rw[h2]at g3;cases g3
 exact⟨hne,by rw[Zg _ _ (Jz hne)];exact g3⟩
theorem ZdS {w:World} {b:Nat} {o o':Obj} (h:w.heap[b]? = Hs o):({ w with heap:=w.heap.setIfInBounds b o' }:World).heap[b]? = Hs o'/\ ∀k,k≠b->({ w with heap:=w.heap.setIfInBounds b o' }:World).heap[k]? = w.heap[k]? :=
 MapKept.heap_set h
theorem Ur {w':World} {b:Nat} (hs:StabS S w) (hb:∀vs t f,w.heap[b]? ≠ Hs (.cells vs t f)) (hm:S.m b=Hn) (hw:∀k,k≠b->w'.heap[k]? = w.heap[k]?):StabS S w':=by
 refine⟨λk o v h=> ?_,λk es h=> ?_,λk h=> ?_⟩
 rotate_right
 obtain⟨vs,t,e⟩:=hs.y k h;exact⟨vs,t,by rw[hw k (λe'=>by subst e';exact hb _ _ _ e)];exact e⟩;have h':=hs.c k o v h;have hk:k≠b:=λe=>by
  subst e;unfold World.cell? at h';simp only at h';cases h'
 rw[<-h'];exact World.cell?_of_block (hw k hk);rw[hw k (λe=>by subst e;rw[hm]at h;cases h)];exact hs.m k es h
theorem ZeY {l:Leaf} {c d:PV} {q:Rows} {u v:Value} (h:VV l c d=Hs Ht) (hu:RepS S M q u c) (hv:RepS S M q v d):u=v/\ ∀n,JD n v v=true:=by
 cases l with
 |int=>
  obtain⟨k,x,y,rfl,rfl,e⟩:=ZaF h;have e:x=y:=by simpa using e.symm
  subst e;exact⟨by rw[hu.int_inv,hv.int_inv],λn=>by rw[hv.int_inv];simp[JD]⟩
 |bool=>
  obtain⟨x,y,rfl,rfl,e⟩:=DV h;have e:x=y:=by simpa using e.symm
  subst e;exact⟨by rw[hu.bool_inv,hv.bool_inv],λn=>by rw[hv.bool_inv];simp[JD]⟩
 |str=>
  obtain⟨x,y,rfl,rfl,e⟩:=ZaG h;have e:x=y:=by simpa using e.symm
  subst e;exact⟨by rw[hu.str_inv,hv.str_inv],λn=>by rw[hv.str_inv];simp only[JD];exact(MapKept.bytes_beq _ _).2 rfl⟩
theorem Uf {q:Rows}:∀ {ls:List Leaf} {cs ds:List PV} {us vs:List Value},Zt ls cs ds=Hs Ht->RepL S M q us cs->RepL S M q vs ds->us=vs/\ ∀v∈vs,∀n,JD n v v=Ht
 | [],[],[],us,vs,_,hu,hv=>by
  have e1:us= []:=by have:=hu.1;simpa using this
  have e2:vs= []:=by have:=hv.1;simpa using this
  subst e1;subst e2;exact⟨rfl,λv hv=>by cases hv⟩
 |l::ls,c::cs,d::ds,u::us,v::vs,h,hu,hv=>by
  simp only[Zt]at h;split at h;rename_i x y h1 h2;simp only[Jm.injEq,JG]at h;obtain⟨rfl,rfl⟩:=h;obtain⟨a1,a2⟩:=hu.cons;obtain⟨b1,b2⟩:=hv.cons;obtain⟨rfl,e1⟩:=ZeY h1 a1 b1;obtain⟨rfl,e2⟩:=Uf h2 a2 b2;refine⟨rfl,λx hx=> ?_⟩;rcases JN.1 hx with rfl|hx;exact e1;exact e2 x hx;cases h
 | [],c::cs,_,_,_,h,_,_=>by simp[Zt]at h
 | [],[],d::ds,_,_,h,_,_=>by simp[Zt]at h
 |l::ls,[],_,_,_,h,_,_=>by simp[Zt]at h
 |l::ls,c::cs,[],_,_,h,_,_=>by simp[Zt]at h
 |l::ls,c::cs,d::ds,[],_,_,hu,_=>by have:=hu.1;simp at this
 |l::ls,c::cs,d::ds,_::_,[],_,_,hv=>by have:=hv.1;simp at this
theorem FI (hs:Sim B S M s a w) {t:TypeId} {u v z:Value} {x k y:PV} (hu:RepS S M s.m.q u x) (hv:RepS S M s.m.q v k) (hy:RepS S M s.m.q z y) (hok:(ZP P t x k y s.m).ok):
  Zr1 P B S s a w (JE t u v z) (ZP P t x k y s.m):=by
 revert hok;unfold ZP;split;rename_i b;split;rename_i ls zz c cs h1 h2;obtain⟨kt,et,fs,i,zv,t1,t2,t3,t4,t5,rfl,t6⟩:=SW h1;have hu':u= .map (Hs b):=by cases hu with|clean r=>cases r;rfl
 subst hu';obtain⟨o1,o2,es,e1,e2,e3,e4,e5,e6⟩:=hs.stable.o b c h2;obtain⟨vs,rfl,hl,hrv⟩:=hv.agg_inv;have ht:Z2 P kt=true:=by simp[Z2,t2]
 have hg:=MapKept.run_getObj_map (P:=P) e1;have hnc:∀vs t f,w.heap[b]? ≠ Hs (.cells vs t f):=λvs t f h=>by rw[e1]at h;cases h
 have hck:∀(hlen:cs.length=ls.length),(Ji Hf 10000 kt (.agg ⟨vs⟩)).run P w= .ok () w:=λhlen=>WH (vs:=vs) t2 (λf hf=>by rw[hl,hlen];exact t6 f hf) Hf 9997 w
 have main:∀(es':List MapEntry) (c':MapC),(JE t (.map (Hs b)) (.agg ⟨vs⟩) z).run P w= .ok () { w with heap:=w.heap.setIfInBounds b (.map ⟨es'⟩ es'.length) }->
   es'.length=c'.ks.length->c'.vs.length=c'.ks.length->(∀i,i<c'.ks.length->(es'.getD i Jd).born=i)->(∀i,i<c'.ks.length->Rep S (es'.getD i Jd).key (c'.ks.getD i .any))->(∀i,i<c'.ks.length->Rep S (es'.getD i Jd).val (c'.vs.getD i .any))->
   Zr1 P B S s a w (JE t (.map (Hs b)) (.agg ⟨vs⟩) z) ⟨cs.length=ls.length/\Kf cs=Ht/\y.clean=Ht,.tup [],{ s.m with o:=upd s.m.o b (Hs c') }⟩:=by
  intro es' c' hrun g1 g2 g3 g4 g5;obtain⟨w1,w2⟩:=ZdS (o':= .map ⟨es'⟩ es'.length) e1;refine⟨_,S,M,hrun,hs.special hnc w2 (by simp) ⟨Ur hs.stable.s hnc o2 w2,λb2 c2 hc2=> ?_,λb2 x2 hx2=> ?_⟩ (λk d hk=>hs.om_ne hk h2),rfl,JH _,λ_ _=>⟨λ_=>rfl,rfl⟩,⟨rfl,rfl,rfl,by simp,λk hk=>w2 k (λe=>o1 (e▸hk))⟩⟩
  ·by_cases e:b=b2
   ·subst e;rw[Za]at hc2;cases hc2;exact⟨o1,o2,es',w1,g1,g2,g3,g4,g5⟩
   ·rw[Zg _ _ e]at hc2;obtain⟨q1,q2,q3⟩:=hs.stable.o b2 c2 hc2;exact⟨q1,q2,q3.move (JH _) (w2 b2 (Jz e))⟩
  ·obtain⟨q1,q2⟩:=hs.stable.i b2 x2 hx2;refine⟨q1,?_⟩;unfold IterAt at q2 ⊢;rw[w2 b2 (λe=>by subst e;have q3:=q2.1;rw[e1]at q3;cases q3)];exact q2
 split;rename_i j hf;rintro ⟨hlen,hc1,hc2⟩;obtain⟨f1,f2⟩:=DW (S:=S) (M:=M) (q:=s.m.q) t3 ht ⟨hl,hrv⟩ w es c.ks 0 _ e2 e5 hf;obtain⟨_,g2,ds,g3,g4⟩:=f2 j rfl;have hj:j<c.ks.length:=by omega
 rw[Kl]at g3;have hkj:=e5 j hj;rw[g3]at hkj;obtain⟨us,hus,hul,hru⟩:=(Kx (S:=S) (M:=M) (q:=s.m.q) hkj).agg_inv;obtain⟨hsame,hbits⟩:=Uf g4 ⟨hl,hrv⟩ ⟨hul,hru⟩;subst hsame;have hjl:j<es.length:=by omega
 have hkey:(es.getD j Jd).key= .agg ⟨vs⟩:=hus;have hsb:JD 10000 (.agg ⟨vs⟩) (.agg ⟨vs⟩)=true:=by
  simp only[JD,BEq.rfl,KN];rw[Jv];rintro ⟨p,q⟩ hpq;rw[Kv]at hpq;simp only at hpq ⊢;obtain⟨n,hn,hpn⟩:=Jg hpq;simp only[Kq]at hpn;cases hpn;exact hbits _ (Jw _) _
 have hfk:(J8 kt (.agg ⟨vs⟩) es).run P w= .ok (Hs (j,(es.getD j Jd).val)) w:=by
  rw[run_findKey_eq w (by rw[t2]) (.agg ⟨vs⟩) es];simpa using f1
 have hej:(⟨es⟩:Array MapEntry)[j]? = Hs (es.getD j Jd):=by
  rw[getD_lt hjl];simp[hjl]
 have hmod:(⟨es⟩:Array MapEntry).modify j (λe=> { e with key:= .agg ⟨vs⟩,val:=z })=⟨es.set j { es.getD j Jd with key:= .agg ⟨vs⟩,val:=z }⟩:=by
  apply KL;apply Ke;intro n;rw[J4,J5];simp only[KA];by_cases e:j=n;subst e;simp[hjl,getD_lt hjl];simp[e]
 have hrun:(JE t (.map (Hs b)) (.agg ⟨vs⟩) z).run P w= .ok () { w with heap:=w.heap.setIfInBounds b (.map ⟨es.set j { es.getD j Jd with key:= .agg ⟨vs⟩,val:=z }⟩ es.length) }:=by
  have hks:(JZ (.agg ⟨vs⟩) (.agg ⟨vs⟩)).run P w= .ok (.agg ⟨vs⟩) w:=by simp[JZ,hsb]
  simp only[JE,Jk,run_underlying t1,Jc,hg,hck hlen,hfk,hej,JY,KE,hkey,hks,hmod];exact MapKept.run_setObj_map _ e1
 have hsetlen:(es.set j { es.getD j Jd with key:= .agg ⟨vs⟩,val:=z }).length=es.length:=by simp
 have hget:∀i,i<c.ks.length->(es.set j { es.getD j Jd with key:= .agg ⟨vs⟩,val:=z }).getD i Jd=if i=j then { es.getD j Jd with key:= .agg ⟨vs⟩,val:=z } else es.getD i Jd:=λi hi=>by
  rw[getD_lt (by simp;omega),J7];by_cases e:j=i;subst e;simp;rw[if_neg e,if_neg (Jz e)];exact(getD_lt (by omega)).symm
 refine main (es.set j { es.getD j Jd with key:= .agg ⟨vs⟩,val:=z }) ⟨c.ks,c.vs.set j y.share⟩ (by rw[hsetlen];exact hrun) (by rw[hsetlen];exact e2) (by simp[e3]) (λi hi=> ?_) (λi hi=> ?_) (λi hi=> ?_);rw[hget i hi];split;rename_i e;subst e;exact e4 i hi;exact e4 i hi;rw[hget i hi];split;rename_i e;subst e;rw[<-hkey];exact e5 i hi;exact e5 i hi;rw[hget i hi];have hgv:(c.vs.set j y.share).getD i .any=if i=j then y.share else c.vs.getD i .any:=by
  simp only at hi;rw[getD_lt (by simp;omega),J7];by_cases e:j=i;subst e;simp;rw[if_neg e,if_neg (Jz e)];exact(getD_lt (by omega)).symm
 show Rep S _ ((c.vs.set j y.share).getD i .any);rw[hgv];split;exact hy.share hc2;exact e6 i hi;rename_i hf;rintro ⟨hlen,hc1,hc2⟩;obtain⟨f1,f2⟩:=DW (S:=S) (M:=M) (q:=s.m.q) t3 ht ⟨hl,hrv⟩ w es c.ks 0 _ e2 e5 hf;have hfk:(J8 kt (.agg ⟨vs⟩) es).run P w= .ok Hn w:=by
  rw[run_findKey_eq w (by rw[t2]) (.agg ⟨vs⟩) es];simpa using f1
 have hrun:(JE t (.map (Hs b)) (.agg ⟨vs⟩) z).run P w= .ok () { w with heap:=w.heap.setIfInBounds b (.map ⟨es++ [{ key:= .agg ⟨vs⟩,val:=z,born:=es.length }]⟩ (es.length+1)) }:=by
  simp only[JE,Jk,run_underlying t1,Jc,hg,hck hlen,hfk,KB];exact MapKept.run_setObj_map _ e1
 have hget:∀i,i<c.ks.length+1->(es++ [({ key:= .agg ⟨vs⟩,val:=z,born:=es.length }:MapEntry)]).getD i Jd=if i<c.ks.length then es.getD i Jd else { key:= .agg ⟨vs⟩,val:=z,born:=es.length }:=λi hi=>by
  by_cases e:i<c.ks.length;rw[if_pos e,Zb (by omega)];rw[if_neg e,Zf (by omega)];have:i-es.length=0:=by omega
  simp[this]
 have hkc:Rep S (.agg ⟨vs⟩) (.agg (JQ cs)):=(K4 (S:=S) (M:=M) (q:=s.m.q) vs cs hl hrv).share hc1;refine main (es++ [{ key:= .agg ⟨vs⟩,val:=z,born:=es.length }]) ⟨c.ks++ [.agg (JQ cs)],c.vs++ [y.share]⟩ (by simpa using hrun) (by simp[e2]) (by simp[e3]) (λi hi=> ?_) (λi hi=> ?_) (λi hi=> ?_);simp only[JI,JB,JJ]at hi;rw[hget i (by omega)];split;rename_i e;exact e4 i e;show es.length=i;omega;simp only[JI,JB,JJ]at hi;rw[hget i (by omega)];show Rep S _ ((c.ks++ [KT (JQ cs)]).getD i .any);split;rename_i e;rw[Zb e];exact e5 i e;rename_i e;rw[Zf (by omega)];have:i-c.ks.length=0:=by omega
 simpa[this]using hkc;simp only[JI,JB,JJ]at hi;rw[hget i (by omega)];show Rep S _ ((c.vs++ [y.share]).getD i .any);split;rename_i e;rw[Zb (by omega)];exact e6 i e;rename_i e;rw[Zf (by omega)];have:i-c.vs.length=0:=by omega
 simpa[this]using hy.share hc2;exact λh=>h.elim
 exact λh=>h.elim
 exact λh=>h.elim
theorem Sim.mapIt (hs:Sim B S M s a w) {ib:Nat} {it:IterC} {c:MapC} (h1:s.m.it ib=Hs it) (h2:mapIt s.m it=Hs c):MapAt S w it.b c:=by
 unfold PL.mapIt at h2;cases hc:it.c with
 |some d=>
  rw[hc]at h2;simp only[Jm.injEq]at h2;subst h2;obtain⟨es,e1,e2,e3,e4,e5,e6⟩:=(hs.stable.i ib it h1).2.2 d hc;exact⟨es,hs.stable.s.m _ _ e1,e2,e3,e4,e5,e6⟩
 |none=>
  rw[hc]at h2;exact(hs.stable.o it.b c h2).2.2
theorem ZfB (hs:Sim B S M s a w) {u:Value} {x:PV} (hu:RepS S M s.m.q u x) (hok:(W0 x s.m).ok):Snd P B S s a w (KF u) (W0 x s.m):=by
 revert hok;unfold W0;split;rename_i b;split;rename_i it h1;split;rename_i c i h2 h3;rintro ⟨g1,g2⟩;have hu':u= .pointer (Hs ⟨b,0,Hn⟩):=by cases hu with|clean r=>cases r;rfl
 subst hu';obtain⟨_,i2,_⟩:=hs.stable.i b it h1;obtain⟨es,e1,e2,e3,e4,e5,e6⟩:=hs.mapIt h1 h2;unfold IterAt at i2;have hgi:(getObj b).run P w= .ok (.mapIter (Hs it.b) it.n ⟨it.seen⟩ it.n) w:=by simp[getObj,Km,i2]
 have hg:=MapKept.run_getObj_map (P:=P) e1;have hlast:(⟨it.seen⟩:Array Nat).back? = Hs i:=by rw[List.getLast?_eq_getElem?]at h3;simpa[Array.back?]using h3
 have hfind:(⟨es⟩:Array MapEntry).find? (λe=>e.born==i)=Hs (es.getD i Jd):=by
  simp only[List.find?_toArray];have hle:i<es.length:=by omega
  rw[List.find?_eq_some_iff_getElem];refine⟨by simpa using e4 i g2,i,hle,(getD_lt hle).symm,λj hj=> ?_⟩;have:=e4 j (by omega);rw[getD_lt (by omega)]at this;simp[this];omega
 refine KD hs (v:= .tuple #[(es.getD i Jd).key,(es.getD i Jd).val]) ?_ ?_;have hcl:(es.length !=it.n)=false:=by simp;omega
 simp only[KF,Jk,hgi,Jc,hlast,hg,hcl,Kc,if_false,hfind,JC];refine .tup [_,_] [_,_] rfl (λj hj=> ?_);match j,hj with
 |0,_=>exact e5 i g2
 |1,_=>exact e6 i g2
 exact λh=>h.elim
 exact λh=>h.elim
 exact λh=>h.elim
end
open Go.RowKit
def tkn (P:Program) (t:TypeId):Bool:=(P.underlying t).isSome
def X8 (P:Program) (t:TypeId):Option (List PV):=aMakeFull.tbdz P t
def ZU (P:Program) (b:Builtin) (ts:List TypeId) (d:Option Nat) (xs:List PV) (m:Hp):ARes:=
 match b,ts,xs with
 | .len,[t],[x]=>if ZjM x then Wb P t x m else ZlE P t x m
 | .append,[t,tx],[x,y]=>match d with
  |some d=>Ub P d t tx x y m
  |none=> .fail
 | .max,_,[x,y]=>ZlF x y m
 | .min,_,[x,y]=>ZlG x y m
 | .complex,_,[x,y]=>ZlB x y m
 | .real,_,[x]=>Zbt x m
 | .imag,_,[x]=>Zbs x m
 |_,_,_=> .fail
def aop (P:Program) (o:Oper) (ρ:Operand->PV) (m:Hp):ARes:=
 match o.op with
 | .move x=>⟨True,ρ x,m⟩
 | .assign x=>⟨True,ρ x,m⟩
 | .pick c x y=>FZ (ρ c) (ρ x) (ρ y) m
 | .alloc t=>match o.dst,X8 P t with
  |some d,Hs z=>⟨m.h d=Hn,.ptr d 0,m.new d z⟩
  |_,_=> .fail
 | .box _ x=>match o.dst with
  |some d=>⟨m.h d=Hn/\(ρ x).known=Ht,.ptr d 0,m.new d (ρ x).cells⟩
  |none=> .fail
 | .build t parts=>Sc P t (parts.toList.map λx=>(x.1,ρ x.2)) m
 | .buildSlice t len parts=>match o.dst with
  |some d=>YL P d t len (parts.toList.map λx=>(x.1,ρ x.2)) m
  |none=> .fail
 | .load t x=>if tkn P t then VP P t (ρ x) m else .fail
 | .store t x y=>if tkn P t then Wl P t (ρ x) (ρ y) m else .fail
 | .nilCheck x=>W4 (ρ x) m
 | .binOp op t x y _=>ZlA P op t (ρ x) (ρ y) m
 | .unOp op _ x=>aUn op (ρ x) m
 | .convert src dst x=>UD P src dst (ρ x) m
 | .makeFunc (.func f) first caps=>if first.isEmpty then⟨VR m (caps.toList.map ρ),.fn f (caps.toList.map ρ),frozenBy m (caps.toList.map ρ)⟩else .fail
 | .makeSlice t l c=>match o.dst with
  |some d=>match l with
   | .const (.int _ 0)=>XT P d t (ρ c) m
   |_=>aMakeFull P d t (ρ l) (ρ c) m
  |none=> .fail
 | .slice t x lo hi mx=>if mx.isNone then Sf P t (ρ x) (lo.map ρ) (hi.map ρ) m else .fail
 | .fieldAddr t x f=>YR P t (ρ x) f m
 | .field t x f=>Sd P t (ρ x) f m
 | .indexAddr t x i=>YS P t (ρ x) (ρ i) m
 | .index t x i=>Se P t (ρ x) (ρ i) m
 | .extract x i=>WL (ρ x) i m
 | .lookup t x k ok=>XC P t (ρ x) (ρ k) ok m
 | .mapUpdate t x k v=>ZP P t (ρ x) (ρ k) (ρ v) m
 | .entry x=>W0 (ρ x) m
 | .call { callee:= .builtin b,args,argTypes }=>ZU P b argTypes.toList o.dst (args.toList.map ρ) m
 |_=> .fail
mutual
def PV.dids:PV->List Ref
 | .ptr id _=> [.b id]
 | .osl id _ _ _=> [.b id]
 | .sl (.row id) es=> .r id::PV.didsL es
 | .vsl id _ _=> [.r id]
 | .vptr id _ _ _ _=> [.r id]
 | .sl _ es=>PV.didsL es
 | .rptr cs=>PV.didsL cs
 | .rmap ks vs=>PV.didsL ks++PV.didsL vs
 | .agg cs=>PV.didsL cs
 | .tup cs=>PV.didsL cs
 | .fn _ cs=>PV.didsL cs
 |_=> []
def PV.didsL:List PV->List Ref
 | []=> []
 |c::cs=>PV.dids c++PV.didsL cs
end
def Vw (P:Program) (f:FuncId):Prop:=∃fn,P.funcs[f]? = Hs fn/\fn.name≠ "runtime.NumGoroutine" /\ fn.body.isSome=Ht
def Pure (P:Program) (f:FuncId) (args:List PV) (r:PV):Prop:=
 Vw P f/\r.dids= []/\ ∀(w:World) (S:Stable) (vs:List Value),StabS S w->ZiS S w->vs.length=args.length->(∀i,i<args.length->Rep S (vs.getD i undef) (args.getD i .any))->
  Calls P f ⟨vs⟩ w λe w'=>∃v S',e= .returned v/\Rep S' v r/\StabS S' w'/\SLe S S'/\(∀b,b<w.heap.size->(∀o,S' b o=S b o)/\S'.m b=S.m b)/\Below w.heap.size w w'
def ZV (ρ:Operand->PV) (c:Call):Option (FuncId×List PV):=
 match c.callee with
 | .value f=>match ρ f with
  | .fn g caps=>Hs (g,c.args.toList.map ρ++caps)
  |_=>Hn
 |_=>Hn
def PV.leaf:PV->Bool
 | .int _ _=>Ht
 | .bool _=>Ht
 | .str _=>Ht
 |_=>Hf
mutual
def PV.flatS:PV->Bool
 | .int _ _=>Ht
 | .bool _=>Ht
 | .str _=>Ht
 | .sl .no es=>(es.all λe=>e.cells.any PV.leaf)&&PV.flatSL es
 | .agg cs=>PV.flatSL cs
 | .tup cs=>PV.flatSL cs
 |_=>Hf
def PV.flatSL:List PV->Bool
 | []=>Ht
 |c::cs=>PV.flatS c&&PV.flatSL cs
end
theorem W9:∀ {cs:List PV} {i:Nat},PV.flatSL cs=Ht->i<cs.length->(cs.getD i .any).flatS=Ht
 | [],_,_,h=>by simp at h
 |c::cs,0,h,_=>by simp[PV.flatSL]at h ⊢;exact h.1
 |c::cs,i+1,h,hi=>by simp[PV.flatSL]at h;simpa using W9 h.2 (by simpa using hi)
theorem ZhF {e:PV} (h:e.flatS=Ht) {j:Nat} (hj:j<e.cells.length):(e.cells.getD j .any).flatS=true:=by
 have:e.cells= [e]\/ ∃cs,e= .agg cs:=by
  cases e<;>first|exact .inl rfl|exact .inr ⟨_,rfl⟩
 rcases this with h1|⟨cs,rfl⟩;rw[h1]at hj ⊢;obtain rfl:j=0:=by simpa using hj
 exact h;have h':PV.flatSL cs=true:=by simpa[PV.flatS]using h
 exact W9 (cs:=cs) h' hj
theorem Rep.flatS {S S':Stable} {v:Value} {p:PV} (r:Rep S v p) (Kb:Nat->Prop) (h1:∀b o x,S b o=Hs x-> ¬Kb b->S' b o=Hs x) (h2:∀b o x q,Kb b->S b o=Hs x->q.leaf=Ht-> ¬Rep S x q):p.flatS=Ht->Rep S' v p:=by
 induction r with
 |int k n=>exact λ_=> .int k n
 |bool b=>exact λ_=> .bool b
 |str l=>exact λ_=> .str l
 |agg vs cs hl _ ih=>exact λhp=> .agg vs cs hl λi hi=>ih i hi (W9 (by simpa[PV.flatS]using hp) hi)
 |tup vs cs hl _ ih=>exact λhp=> .tup vs cs hl λi hi=>ih i hi (W9 (by simpa[PV.flatS]using hp) hi)
 |sl0 a cap=>exact λ_=> .sl0 a cap
 |sl b o cap sz es vals hsz hcap hS hR ih=>
  intro hp;simp only[PV.flatS,JG,Jv]at hp;have hb:∀i,i<es.length-> ¬Kb b:=λi hi hk=>by
   obtain⟨q,hq,hl⟩:=List.any_eq_true.1 (hp.1 _ (Ze (d:= .any) hi));obtain⟨j,hj,rfl⟩:=Jg hq;rw[<-getD_lt (d:= .any) hj]at hl;have hj':j<sz:=by rw[<-hsz i hi];exact hj
   exact h2 _ _ _ _ hk (hS i j hi hj') hl (hR i j hi hj')
  exact .sl b o cap sz es vals hsz hcap (λi j hi hj=>h1 _ _ _ (hS i j hi hj) (hb i hi)) λi j hi hj=>ih i j hi hj (ZhF (W9 hp.2 hi) (by rw[hsz i hi];exact hj))
 |_=>intro hp;simp[PV.flatS]at hp
def Zr0 (P:Program) (m:Hp) (g:FuncId) (args:List PV) (v:PV):Prop:=
 ∃(pre post:List PV) (d:Nat) (L:List (Nat×List PV)),args=pre++ .ptr d 0::post/\(∀p∈pre,p.ids= [])/\(∀p∈post,p.ids= [])/\m.h d=Hs (L.map λx=> .sl (.row x.1) x.2)/\m.z d=Hf/\
  Pure P g (pre++ .rptr (L.map λx=> .sl .no x.2)::post) v/\v.flatS=Ht
def XR (P:Program) (o:Oper) (ρ:Operand->PV) (m:Hp) (v:PV) (m':Hp):Prop:=
 ((aop P o ρ m).ok/\v=(aop P o ρ m).v/\m'=(aop P o ρ m).m)\/
 (∃c g args,o.op= .call c/\ZV ρ c=Hs (g,args)/\((Jq m args/\Pure P g (Ju m args) v)\/Zr0 P m g args v)/\m'=m)
section
variable {P:Program} {B:Frm} {S:Stable} {M:Maps} {s:St} {a:Act} {w:World}
def Done (P:Program) (B:Frm) (S:Stable) (s:St) (a:Act) (w:World) (o:Oper) (p:PV) (m':Hp):Prop:=
 ∀(next:Act->World->Prop) (Q:Exit->Act->World->Prop),(∀v w' S' M',Sim B S' M' ((s.with m').put o.dst p) (a.put o.dst v) w'->Ext B S S' w w'->next (a.put o.dst v) w')->o.wp P a w next Q
theorem Done.of_snd {o:Oper} {sm:Sem Value} {r:ARes} (he:(execOp a.eval o).run P w=(sm.run P w).andThen λv w'=> .ok (.value v) w') (hd:∀x,o.dst=Hs x->x<s.n) (h:Snd P B S s a w sm r):Done P B S s a w o r.v r.m:=by
 intro next Q hn
 obtain⟨v,w',S',M',h1,h2,h3,h4,h5⟩:=h;unfold Oper.wp;rw[he,h1];exact hn v w' S' M' (h2.put hd h3 h4) h5
theorem Done.of_sndU {o:Oper} {sm:Sem Unit} {r:ARes} (he:(execOp a.eval o).run P w=(sm.run P w).andThen λ_ w'=> .ok .skip w') (hd:∀x,o.dst=Hs x->x<s.n) (h:Zr1 P B S s a w sm r):Done P B S s a w o r.v r.m:=by
 intro next Q hn
 obtain⟨w',S',M',h1,h2,h3,h4⟩:=h;unfold Oper.wp;rw[he,h1];refine hn undef w' S' M' (h2.put hd ?_ ?_) h4;rw[h3];exact .clean (.tup [] [] rfl (λi hi=>by simp at hi));rw[h3];simp[Jb,Jr]
theorem Tv {f:Operand->PV} {g:Operand->Value} {l:List Operand} (h:∀x,RepS S M s.m.q (g x) (f x)):∀i,i<(l.map f).length->RepS S M s.m.q ((l.map g).getD i undef) ((l.map f).getD i .any):=by
 intro i hi;simp only[Jh]at hi;rw[getD_lt (by simpa using hi),getD_lt (by simpa using hi)];simp only[Jl];exact h _
theorem U6 {sm:Sem Value}:(do Pure.pure (Next.value (<-sm)):Sem Next).run P w=(sm.run P w).andThen λv w'=> .ok (.value v) w':=by
 simp
theorem ZqI {sm:Sem Unit}:(do sm;Pure.pure Next.skip:Sem Next).run P w=(sm.run P w).andThen λ_ w'=> .ok .skip w':=by
 simp
theorem ZbY (hs:Sim B S M s a w) (parts:List (Nat×Operand)):(parts.map λx=>(x.1,a.eval x.2)).length=(parts.map λx=>(x.1,s.eval x.2)).length/\
  (∀i,i<(parts.map λx=>(x.1,s.eval x.2)).length->((parts.map λx=>(x.1,a.eval x.2)).getD i (0,undef)).1=((parts.map λx=>(x.1,s.eval x.2)).getD i (0,.any)).1/\
   RepS S M s.m.q ((parts.map λx=>(x.1,a.eval x.2)).getD i (0,undef)).2 ((parts.map λx=>(x.1,s.eval x.2)).getD i (0,.any)).2)/\
  ∀x∈(parts.map λx=>(x.1,s.eval x.2)),∀i∈x.2.ids,Live s.m i:=by
 refine⟨by simp,λi hi=> ?_,λx hx i hi=> ?_⟩;simp only[Jh]at hi;rw[getD_lt (by simpa using hi),getD_lt (by simpa using hi)];simp only[Jl];exact⟨trivial,hs.eval _⟩;obtain⟨y,hy,rfl⟩:=Je.1 hx;exact hs.eval_ids _ i hi
theorem ZiW (hs:Sim B S M s a w) {o:Oper} (hd:∀x,o.dst=Hs x->x<s.n) (hok:(aop P o s.eval s.m).ok):Done P B S s a w o (aop P o s.eval s.m).v (aop P o s.eval s.m).m:=by
 have E:=hs.eval;have I:=hs.eval_ids;obtain⟨dst,op,ty,pos,after,guard⟩:=o;unfold aop at hok ⊢;simp only at hok ⊢ hd;have mv:∀x:Operand,op= .move x\/op= .assign x->Done P B S s a w ⟨dst,op,ty,pos,after,guard⟩ (s.eval x) s.m:=by
  intro x hx next Q hn
  unfold Oper.wp;have:(execOp a.eval ⟨dst,op,ty,pos,after,guard⟩).run P w= .ok (.value (a.eval x)) w:=by rcases hx with rfl|rfl<;>rfl
  rw[this];exact hn _ w S M (hs.put hd (E x) (I x)) (JO _ _ _)
 cases op with
 |move x=>exact mv x (.inl rfl)
 |assign x=>exact mv x (.inr rfl)
 |pick c x y=>
  have ec:=E c;revert hok;show(FZ (s.eval c) (s.eval x) (s.eval y) s.m).ok->Done P B S s a w _ (FZ (s.eval c) (s.eval x) (s.eval y) s.m).v (FZ (s.eval c) (s.eval x) (s.eval y) s.m).m;unfold FZ;split
  ·rename_i hc;intro _ next Q hn
   rw[hc]at ec;unfold Oper.wp;have:(execOp a.eval ⟨dst,.pick c x y,ty,pos,after,guard⟩).run P w= .ok (.value (a.eval x)) w:=by simp[execOp,ec.bool_inv,asBool]
   rw[this];exact hn _ w S M (hs.put hd (E x) (I x)) (JO _ _ _)
  ·rename_i hc;intro _ next Q hn
   rw[hc]at ec;unfold Oper.wp;have:(execOp a.eval ⟨dst,.pick c x y,ty,pos,after,guard⟩).run P w= .ok (.value (a.eval y)) w:=by simp[execOp,ec.bool_inv,asBool]
   rw[this];exact hn _ w S M (hs.put hd (E y) (I y)) (JO _ _ _)
  exact λh=>h.elim
 |alloc t=>
  simp only at hok ⊢;cases dst with
  |none=>exact hok.elim
  |some d=>
   cases hz:X8 P t with
   |none=>simp only[hz]at hok;exact hok.elim
   |some z=>
    simp only[hz]at hok ⊢;unfold X8 aMakeFull.tbdz at hz;split at hz
    ·rename_i i hi;split at hz
     ·rename_i zv hzv;split at hz
      ·rename_i hk;cases hz;exact Done.of_snd (sm:=Instr.alloc t Ht (.tuple #[])) U6 hd (Zfz hs hi hzv hok hk (s.m.h d=Hn))
      ·cases hz
     ·cases hz
    ·cases hz
 |box t x=>
  simp only at hok ⊢;cases dst with
  |none=>exact hok.elim
  |some d=>exact Done.of_snd (sm:=Instr.box t (a.eval x)) U6 hd (ZdX hs (E x) (I x) hok.1 hok.2 _)
 |build t parts=>
  obtain⟨parts⟩:=parts;simp only at hok ⊢;obtain⟨p1,p2,p3⟩:=ZbY hs parts;exact Done.of_snd (sm:=Instr.build t ⟨parts.map λx=>(x.1,a.eval x.2)⟩) (by simp[execOp]) hd (ZfA hs p1 p2 p3 hok)
 |buildSlice t len parts=>
  obtain⟨parts⟩:=parts;simp only at hok ⊢;cases dst with
  |none=>exact hok.elim
  |some d=>
   obtain⟨p1,p2,p3⟩:=ZbY hs parts;exact Done.of_snd (sm:=Instr.buildSlice t len ⟨parts.map λx=>(x.1,a.eval x.2)⟩) (by simp[execOp]) hd (Dg hs p1 p2 hok)
 |load t x=>
  simp only at hok ⊢;split at hok;rename_i hk;rw[if_pos hk];exact Done.of_snd (sm:=KU t (a.eval x)) U6 hd (Zig hs (E x) (by intro h;simp[tkn,h]at hk) hok);exact hok.elim
 |store t x y=>
  simp only at hok ⊢;split at hok;rename_i hk;rw[if_pos hk];exact Done.of_sndU (sm:=Instr.storeAt t (a.eval x) (a.eval y)) ZqI hd (ZfF hs (E x) (E y) (I y) (by intro h;simp[tkn,h]at hk) hok);exact hok.elim
 |nilCheck x=>
  simp only at hok ⊢;revert hok;have ex:=E x;have ix:=I x;unfold W4;have fin:∀ {p:PV},s.eval x=p->(execOp a.eval ⟨dst,.nilCheck x,ty,pos,after,guard⟩).run P w= .ok (.value (a.eval x)) w->Done P B S s a w ⟨dst,.nilCheck x,ty,pos,after,guard⟩ p s.m:=by
   intro p hp hrun next Q hn
   unfold Oper.wp;rw[hrun];exact hn _ w S M (hs.put hd (hp▸E x) (hp▸I x)) (JO _ _ _)
  split;rename_i id off hx;intro _;rw[hx]at ex;exact fin hx (by simp[execOp,ex.ptr_inv]);rename_i cs hx;intro _;rw[hx]at ex;obtain⟨b,o,vals,e,_⟩:=ex.rptr_inv;exact fin hx (by simp[execOp,e]);rename_i f cs hx;intro _;rw[hx]at ex;obtain⟨vs,e,_⟩:=ex.fn_inv;exact fin hx (by simp[execOp,e]);exact λh=>h.elim
 |binOp op t x y yt=>exact Done.of_snd (sm:=do eqGuard op t x y (a.eval x) (a.eval y);binOp op t (a.eval x) (a.eval y)) U6 hd (ZkI hs (E x) (E y) hok)
 |unOp op t x=>exact Done.of_snd (sm:=Op.unary op (a.eval x)) U6 hd (Zm2 hs (E x) hok)
 |convert src d x=>exact Done.of_snd (sm:=convert src d (a.eval x)) U6 hd (Zie hs (E x) hok)
 |makeFunc fn first caps=>
  obtain⟨caps⟩:=caps;cases fn with
  |func f=>
   simp only at hok ⊢;split at hok
   ·rename_i hf;rw[if_pos hf];simp only at hok ⊢;obtain⟨S',hs',he⟩:=hs.frozenBy _ hok;intro next Q hn
    unfold Oper.wp;have hfe:first= #[]:=by simpa using hf
    have:(execOp a.eval ⟨dst,.makeFunc (.func f) first ⟨caps⟩,ty,pos,after,guard⟩).run P w= .ok (.value (.func (.func f) #[] ⟨caps.map a.eval⟩)) w:=by
     subst hfe;simp[execOp,Instr.makeFunc]
    rw[this];refine hn _ w S' M (hs'.put hd ?_ ?_) he
    ·refine .fn f _ _ (by simp) (λi hi=> ?_);have:=Tv (s:=s) (S:=S) (M:=M) (l:=caps) E i hi;refine this.heap he.1 (λ_ _=>rfl) (λk hk=> .of_eq ?_ rfl rfl);simp[St.with,XK]
    ·intro i hi;obtain⟨c,hc,hic⟩:=Js.1 (by simpa[Jb]using hi);obtain⟨x,hx,rfl⟩:=Je.1 hc;have:=I x i hic;cases i with
     |b k=>show(frozenBy s.m _).h k≠Hn;rw[Wd];exact this
     |r k=>show(frozenBy s.m _).q k≠Hn;rw[XK];exact this
   ·exact hok.elim
  |_=>exact hok.elim
 |makeSlice t l c=>
  simp only at hok ⊢;cases dst with
  |none=>exact hok.elim
  |some d=>
   simp only at hok ⊢;split at hok
   ·rename_i k;exact Done.of_snd (sm:=KI t (.int k 0) (a.eval c)) U6 hd (Zb9 hs (E c) hok)
   ·exact Done.of_snd (sm:=KI t (a.eval l) (a.eval c)) U6 hd (Zaa hs (E l) (E c) hok)
 |slice t x lo hi mx=>
  simp only at hok ⊢;split at hok;rename_i hm;rw[if_pos hm];cases mx with
  |some _=>simp at hm
  |none=>
   refine Done.of_snd (sm:=Instr.sliceAt t (a.eval x) (lo.map a.eval) (hi.map a.eval) Hn) U6 hd (ZfE hs (E x) (I x) ?_ ?_ (by simp) (by simp) hok)
   ·intro v p h1 h2;cases lo with
    |none=>cases h1
    |some y=>cases h1;cases h2;exact E y
   ·intro v p h1 h2;cases hi with
    |none=>cases h1
    |some y=>cases h1;cases h2;exact E y
  exact hok.elim
 |fieldAddr t x f=>exact Done.of_snd (sm:=Instr.fieldAt t (a.eval x) f) U6 hd (FG hs (E x) (I x) hok)
 |field t x f=>exact Done.of_snd (sm:=Instr.field t (a.eval x) f) U6 hd (ZfC hs (E x) (I x) hok)
 |indexAddr t x i=>exact Done.of_snd (sm:=Instr.indexAt t (a.eval x) (a.eval i)) U6 hd (FH hs (E x) (I x) (E i) hok)
 |index t x i=>exact Done.of_snd (sm:=Instr.index t (a.eval x) (a.eval i)) U6 hd (ZfD hs (E x) (I x) (E i) hok)
 |lookup t x k ok=>exact Done.of_snd (sm:=Kk t (a.eval x) (a.eval k) ok) U6 hd (ZdZ hs (E x) (E k) hok)
 |mapUpdate t x k v=>exact Done.of_sndU (sm:=JE t (a.eval x) (a.eval k) (a.eval v)) ZqI hd (FI hs (E x) (E k) (E v) hok)
 |entry x=>exact Done.of_snd (sm:=KF (a.eval x)) U6 hd (ZfB hs (E x) hok)
 |extract x i=>exact Done.of_snd (sm:=Instr.extract (a.eval x) i) U6 hd (Zb8 hs (E x) (I x) hok)
 |call c=>
  obtain⟨callee,args,argTypes⟩:=c;cases callee with
  |builtin b=>
   obtain⟨args⟩:=args;obtain⟨tys⟩:=argTypes;simp only at hok ⊢
   revert hok
   unfold ZU;split
   ·rename_i t p hx;intro hok;obtain⟨x,rfl,rfl⟩:∃x,args= [x]/\p=s.eval x:=by
     match args,hx with
     | [x],hx=>exact⟨x,rfl,by simpa using hx.symm⟩
    split at hok
    ·rename_i hmx;rw[if_pos hmx];exact Done.of_snd (sm:=Kj #[t] ty #[a.eval x]) (by simp[execOp,resolve,invoke,builtin]) hd (Zd0 hs (E x) hok)
    ·rename_i hmx;rw[if_neg hmx];exact Done.of_snd (sm:=Kj #[t] ty #[a.eval x]) (by simp[execOp,resolve,invoke,builtin]) hd (ZkM hs (E x) hok)
   ·rename_i t tx p p' hx;obtain⟨x,y,rfl,rfl,rfl⟩:∃x y,args= [x,y]/\p=s.eval x/\p'=s.eval y:=by
     match args,hx with
     | [x,y],hx=>simp at hx;exact⟨x,y,rfl,hx.1.symm,hx.2.symm⟩
    split
    ·rename_i d;intro hok;exact Done.of_snd (sm:=KJ #[t,tx] ty #[a.eval x,a.eval y]) (by simp[execOp,resolve,invoke,builtin]) hd (ZdW hs (E x) (I x) (E y) hok)
    ·exact λh=>h.elim
   ·rename_i tys b0 ts0 xs0 p p' hx;intro hok;obtain⟨x,y,rfl,rfl,rfl⟩:∃x y,args= [x,y]/\p=s.eval x/\p'=s.eval y:=by
     match args,hx with
     | [x,y],hx=>simp at hx;exact⟨x,y,rfl,hx.1.symm,hx.2.symm⟩
    exact Done.of_snd (sm:=Builtin.max_ ⟨tys⟩ ty #[a.eval x,a.eval y]) (by simp[execOp,resolve,invoke,builtin]) hd (ZkN hs (E x) (E y) hok)
   ·rename_i tys b0 ts0 xs0 p p' hx;intro hok;obtain⟨x,y,rfl,rfl,rfl⟩:∃x y,args= [x,y]/\p=s.eval x/\p'=s.eval y:=by
     match args,hx with
     | [x,y],hx=>simp at hx;exact⟨x,y,rfl,hx.1.symm,hx.2.symm⟩
    exact Done.of_snd (sm:=Builtin.min_ ⟨tys⟩ ty #[a.eval x,a.eval y]) (by simp[execOp,resolve,invoke,builtin]) hd (ZkO hs (E x) (E y) hok)
   ·rename_i tys b0 ts0 xs0 p p' hx;intro hok;obtain⟨x,y,rfl,rfl,rfl⟩:∃x y,args= [x,y]/\p=s.eval x/\p'=s.eval y:=by
     match args,hx with
     | [x,y],hx=>simp at hx;exact⟨x,y,rfl,hx.1.symm,hx.2.symm⟩
    exact Done.of_snd (sm:=Builtin.complex_ ⟨tys⟩ ty #[a.eval x,a.eval y]) (by simp[execOp,resolve,invoke,builtin]) hd (ZkJ hs (E x) (E y) hok)
   ·rename_i tys b0 ts0 xs0 p hx;intro hok;obtain⟨x,rfl,rfl⟩:∃x,args= [x]/\p=s.eval x:=by
     match args,hx with
     | [x],hx=>exact⟨x,rfl,by simpa using hx.symm⟩
    exact Done.of_snd (sm:=Builtin.real_ ⟨tys⟩ ty #[a.eval x]) (by simp[execOp,resolve,invoke,builtin]) hd (Zih hs (E x) hok)
   ·rename_i tys b0 ts0 xs0 p hx;intro hok;obtain⟨x,rfl,rfl⟩:∃x,args= [x]/\p=s.eval x:=by
     match args,hx with
     | [x],hx=>exact⟨x,rfl,by simpa using hx.symm⟩
    exact Done.of_snd (sm:=Builtin.imag_ ⟨tys⟩ ty #[a.eval x]) (by simp[execOp,resolve,invoke,builtin]) hd (Zif hs (E x) hok)
   ·exact λh=>h.elim
  |_=>exact hok.elim
 |_=>exact hok.elim
theorem Zhv (hs:Sim B S M s a w) {o:Oper} {c:Call} {g:FuncId} {args:List PV} {r:PV} (hd:∀x,o.dst=Hs x->x<s.n) (ho:o.op= .call c) (hc:ZV s.eval c=Hs (g,args)) (hg:Jq s.m args)
  (hp:Pure P g (Ju s.m args) r):Done P B S s a w o r s.m:=by
 intro next Q hn
 obtain⟨dst,op,ty,pos,after,guard⟩:=o;simp only at ho hd;subst ho;obtain⟨callee,cargs,ts⟩:=c;obtain⟨cargs⟩:=cargs;unfold ZV at hc;cases callee with
 |value f=>
  simp only at hc;split at hc
  ·rename_i g' caps hf;simp only[Jm.injEq,Ki.injEq]at hc;obtain⟨rfl,rfl⟩:=hc;have ef:=hs.eval f;rw[hf]at ef;obtain⟨vs,hv,hl,hr⟩:=ef.fn_inv;obtain⟨⟨fn,c1,c2,c3⟩,_,hcalls⟩:=hp;have hargs:∀i,i<(cargs.map s.eval++caps).length->RepS S M s.m.q ((cargs.map a.eval++vs).getD i undef) ((cargs.map s.eval++caps).getD i .any):=by
    intro i hi
    by_cases h1:i<cargs.length
    ·rw[Zb (by simpa using h1),Zb (by simpa using h1)];exact Tv (s:=s) hs.eval i (by simpa using h1)
    ·rw[Zf (by simp;omega),Zf (by simp;omega)];simp only[Jh];exact hr _ (by simp at hi;omega)
   have hrun:(execOp a.eval ⟨dst,.call ⟨.value f,⟨cargs⟩,ts⟩,ty,pos,after,guard⟩).run P w= .ok (.enter g' ⟨cargs.map a.eval++vs⟩) w:=by
    have hb:¬fn.body=none:=by intro h;simp[h]at c3
    simp[execOp,resolve,Deferred.ofValue,hv,invoke,callFunc,program,Km,c1,hb,c2]
   unfold Oper.wp;rw[hrun];show Calls P g' ⟨cargs.map a.eval++vs⟩ w _;have hcl:=hcalls w S (cargs.map a.eval++vs) hs.stable.s hs.young (by simp[Jf,hl]) (λi hi=>by
    rw[Jf]at hi;rw[JR _ _ i hi];exact(hargs i hi).give hs (Kg hg i hi))
   refine hcl.mono λe w' h=> ?_
   obtain⟨v,S',rfl,h2,h3,h4,h5,h6⟩:=h;have hs':=hs.grow h4 h5 h3 h6.block h6.size;exact hn v w' S' M (hs'.put hd (.clean h2) (λi hi=>absurd hi (h2.clean_ids i))) ⟨h4,λb hb=>h5 b (hs.hB b hb),(Kt h6).mono hs.hB⟩
  ·cases hc
 |_=>simp at hc
theorem ZhT (hs:Sim B S M s a w) {o:Oper} {c:Call} {g:FuncId} {args:List PV} {r:PV} (hd:∀x,o.dst=Hs x->x<s.n) (ho:o.op= .call c) (hc:ZV s.eval c=Hs (g,args)) (hp:Zr0 P s.m g args r):Done P B S s a w o r s.m:=by
 intro next Q hn
 obtain⟨dst,op,ty,pos,after,guard⟩:=o;simp only at ho hd;subst ho;obtain⟨callee,cargs,ts⟩:=c;obtain⟨cargs⟩:=cargs;unfold ZV at hc;cases callee with
 |value f=>
  simp only at hc;split at hc
  ·rename_i g' caps hf;simp only[Jm.injEq,Ki.injEq]at hc;obtain⟨rfl,hargs0⟩:=hc;have ef:=hs.eval f;rw[hf]at ef;obtain⟨vs,hv,hl,hr⟩:=ef.fn_inv;obtain⟨pre,post,d,L,ha,hp1,hp2,hh,hz,⟨⟨fn,c1,c2,c3⟩,hdd,hcalls⟩,hfl⟩:=hp;have hargs:∀i,i<(cargs.map s.eval++caps).length->RepS S M s.m.q ((cargs.map a.eval++vs).getD i undef) ((cargs.map s.eval++caps).getD i .any):=by
    intro i hi
    by_cases h1:i<cargs.length
    ·rw[Zb (by simpa using h1),Zb (by simpa using h1)];exact Tv (s:=s) hs.eval i (by simpa using h1)
    ·rw[Zf (by simp;omega),Zf (by simp;omega)];simp only[Jh];exact hr _ (by simp at hi;omega)
   have hlen:(cargs.map a.eval++vs).length=(pre++KC d 0::post).length:=by rw[<-ha,<-hargs0];simp[hl]
   have hr:∀i,i<(pre++KC d 0::post).length->RepS S M s.m.q ((cargs.map a.eval++vs).getD i undef) ((pre++KC d 0::post).getD i .any):=by
    rw[<-ha,<-hargs0];exact hargs
   have hrun:(execOp a.eval ⟨dst,.call ⟨.value f,⟨cargs⟩,ts⟩,ty,pos,after,guard⟩).run P w= .ok (.enter g' ⟨cargs.map a.eval++vs⟩) w:=by
    have hb:¬fn.body=none:=by intro h;simp[h]at c3
    simp[execOp,resolve,Deferred.ofValue,hv,invoke,callFunc,program,Km,c1,hb,c2]
   unfold Oper.wp;rw[hrun];show Calls P g' ⟨cargs.map a.eval++vs⟩ w _;generalize cargs.map a.eval++vs=xs at *;obtain⟨g1,g2,⟨us,t,g3,g4,g5⟩,g6⟩:=hs.own hh hz;have hlt:=hs.blk_lt hh hz;rw[Jh]at g4 g5;have hu:∀j,j<L.length->Rep S (us.getD j undef) (.sl .no (L.getD j (0,[])).2):=λj hj=>by
    have:=g5 j hj;have e:(L.map λx=>PV.sl (.row x.1) x.2).getD j .any= .sl (.row (L.getD j (0,[])).1) (L.getD j (0,[])).2:=by
     rw[getD_lt (by simpa using hj),Jl,getD_lt hj]
    rw[e]at this;exact this.sl_inv
   generalize hbk:M.φ d=bk at *
   let S1:Stable:=⟨λb o=>if b=bk then us[o]? else S b o,S.m,S.z,S.y⟩
   have s1:∀o,S1 bk o=us[o]? :=λo=>if_pos rfl
   have s1n:∀b o,b≠bk->S1 b o=S b o:=λb o h=>if_neg h
   have hle:SLe S S1:= .cells rfl λb o v hv=>by
    by_cases e:b=bk
    ·subst e;rw[g2 o]at hv;cases hv
    ·rw[s1n b o e];exact hv
   have hst:StabS S1 w:=⟨λb o v hv=>by
    by_cases e:b=bk
    ·subst e;rw[s1 o]at hv;rw[YB g3];exact hv
    ·rw[s1n b o e]at hv;exact hs.stable.s.c b o v hv,hs.stable.s.m,hs.stable.s.y⟩
   have hcl:=hcalls w S1 xs hst hs.young (by rw[hlen];simp) (λi hi=>by
    rcases Nat.lt_trichotomy i pre.length with h|h|h
    ·have h0:=hr i (by simp;omega);rw[Zb h]at h0 ⊢;exact(h0.alone (hp1 _ (Ze h))).mono hle
    ·subst h;have h0:=hr pre.length (by simp);rw[Zf (JF _),Nat.sub_self]at h0 ⊢;have h0:=h0.ptr_inv;rw[h0,hbk];refine .rptr bk 0 _ (λj=>us.getD j undef) (λj hj=> ?_) (λj hj=> ?_)
     ·rw[Jh]at hj;rw[KW,s1,List.getElem?_eq_getElem (by omega),getD_lt (by omega)]
     ·rw[Jh]at hj;rw[getD_lt (l:=L.map _) (by simpa using hj),Jl,<-getD_lt (d:=(0,[])) hj];exact(hu j hj).mono hle
    ·have hi':i-pre.length-1<post.length:=by simp at hi;omega
     have h0:=hr i (by simp at hi ⊢;omega);rw[Zf (by omega),show i-pre.length=(i-pre.length-1)+1 by omega]at h0 ⊢;exact(h0.alone (by simpa using hp2 _ (Ze (d:= .any) hi'))).mono hle)
   refine hcl.mono λe w' h=> ?_
   obtain⟨v,S2,rfl,h2,h3,h4,h5,h6⟩:=h
   let S3:Stable:=⟨λb o=>if b=bk then Hn else S2 b o,S2.m,S2.z,S2.y⟩
   have s3:∀o,S3 bk o=none:=λo=>if_pos rfl
   have s3n:∀b o,b≠bk->S3 b o=S2 b o:=λb o h=>if_neg h
   have hag:∀b,b<w.heap.size->(∀o,S3 b o=S b o)/\S3.m b=S.m b:=λb hb=>by
    obtain⟨k1,k2⟩:=h5 b hb;refine⟨λo=> ?_,k2⟩
    by_cases e:b=bk
    ·subst e;rw[s3,g2]
    ·rw[s3n b o e,k1 o,s1n b o e]
   have hle3:SLe S S3:=⟨λb o v hv=>by
    by_cases e:b=bk
    ·subst e;rw[g2 o]at hv;cases hv
    ·rw[s3n b o e];exact h4 b o v (hle b o v hv),λb es h=>h4.m b es h,h4.z,λb hb=>h4.y b hb⟩
   have hst3:StabS S3 w':=⟨λb o v hv=>by
    by_cases e:b=bk
    ·subst e;rw[s3]at hv;cases hv
    ·rw[s3n b o e]at hv;exact h3.c b o v hv,h3.m,h3.y⟩
   have hv3:Rep S3 v r:=h2.flatS (λb=>b=bk) (λb o x hx hk=>by rw[s3n b o hk];exact hx) (λb o x q hk hx hq hr=>by
    subst hk;rw[(h5 b hlt).1 o,s1]at hx;obtain⟨ho,rfl⟩:=List.getElem?_eq_some_iff.1 hx;have:=hu o (by omega);rw[getD_lt (by omega)]at this;generalize us[o]=y at this hr;generalize (L.getD o (0,[])).2=z at this;obtain⟨a,n,c,rfl⟩:∃a n c,y= .slice a n c:=by
     cases this with
     |sl0 a cap=>exact⟨_,_,_,rfl⟩
     |sl=>exact⟨_,_,_,rfl⟩
    cases q<;>first|(simp[PV.leaf]at hq;done)|cases hr) hfl
   have hs':=hs.grow hle3 hag hst3 h6.block h6.size;exact hn v w' S3 M (hs'.put hd (.clean hv3) (λi hi=>absurd hi (hv3.clean_ids i))) ⟨hle3,λb hb=>hag b (hs.hB b hb),(Kt h6).mono hs.hB⟩
  ·cases hc
 |_=>simp at hc
theorem GJ (hs:Sim B S M s a w) {o:Oper} {v:PV} {m':Hp} (hd:∀x,o.dst=Hs x->x<s.n) (h:XR P o s.eval s.m v m'):Done P B S s a w o v m':=by
 rcases h with ⟨h1,rfl,rfl⟩|⟨c,g,args,ho,hc,⟨hg,hp⟩|hp,rfl⟩;exact ZiW hs hd h1;exact Zhv hs hd ho hc hg hp;exact ZhT hs hd ho hc hp
end
open Go.RowKit
def gdOf (want:Bool):PV->Option Bool
 | .bool b=>Hs (b==want)
 | .tup _=>Hs Hf
 |_=>Hn
def gd (ops:Array Oper) (s:St) (o:Oper):Option Bool:=
 match o.guard with
 |none=>Hs Ht
 |some (j,want)=>match(ops[j]?).bind (·.dst)with
  |some d=>if d<s.n then gdOf want (s.fr d)else Hn
  |none=>Hs Hf
def DU (n:Nat):Option Nat->Prop
 |some d=>d<n
 |none=>True
def Zmu (P:Program) (ops:Array Oper) (K:St->Prop):List Oper->St->Prop
 | [],s=>K s
 |o::rest,s=>DU s.n o.dst/\((gd ops s o=Hs Ht/\ ∃v m',XR P o s.eval s.m v m'/\Zmu P ops K rest ((s.with m').put o.dst v))\/(gd ops s o=Hs Hf/\Zmu P ops K rest (s.put o.dst (.tup []))))
def awp (P:Program) (c:Code) (Q:Exit->St->Prop) (s:St):Prop:=
 ∀B S M a w,Sim B S M s a w->c.wp P (λe a' w'=>∃s' S' M',Q e s'/\Sim B S' M' s' a' w'/\Ext B S S' w w') a w
section
variable {P:Program} {B:Frm} {S:Stable} {M:Maps} {s:St} {a:Act} {w:World} {Q Q':Exit->St->Prop}
theorem WT {n:Nat} {d:Option Nat} (h:DU n d):∀x,d=Hs x->x<n:=λx e=>by subst e;exact h
def asB:Value->Option Bool
 | .bool b=>Hs b
 |_=>Hn
theorem RepS.gdOf {q:Rows} {v:Value} {p:PV} {want c:Bool} (r:RepS S M q v p) (h:PL.gdOf want p=Hs c):(asB v==Hs want)=c:=by
 cases p<;>simp[PL.gdOf]at h
 rw[r.bool_inv];simpa[asB]using h;obtain⟨vs,rfl,_⟩:=r.tup_inv;simpa[asB]using h
theorem Zdi (hs:Sim B S M s a w) {ops:Array Oper} {o:Oper} {b:Bool} (h:gd ops s o=Hs b):KO o (yielded ops a.tmps)=b:=by
 unfold gd at h;unfold KO;cases hg:o.guard with
 |none=>rw[hg]at h;simpa using h
 |some jw=>
  obtain⟨j,want⟩:=jw;rw[hg]at h;simp only at h ⊢;unfold yielded;cases hd:(ops[j]?).bind (·.dst)with
  |none=>rw[hd]at h;simpa using h
  |some d=>
   rw[hd]at h;simp only at h;split at h
   ·rename_i hlt;have hsz:d<a.tmps.size:=by rw[hs.hn];exact hlt
    have hr:=hs.fr d;have he:a.tmps[d]? = Hs (a.tmps.getD d undef):=by
     rw[JS,Array.getElem?_eq_getElem hsz];rfl
    have hb:=hr.gdOf h;simp only[Option.bind_some,he];rw[<-hb];cases a.tmps.getD d undef<;>rfl
   ·cases h
theorem Zb7 (hs:Sim B S M s a w) {d:Option Nat} (hd:DU s.n d):Sim B S M (s.put d (.tup [])) (a.put d undef) w:=
 hs.put (WT hd) (.clean (.tup [] [] rfl (λi hi=>by simp at hi))) (by simp[Jb,Jr])
theorem Yy {c:Code} (h:∀e s,Q e s->Q' e s) (hh:awp P c Q s):awp P c Q' s:=λB S M a w hs=>
 wp_mono (hh B S M a w hs) λe a' w' ⟨s',S',M',h1,h2,h3⟩=>⟨s',S',M',h _ _ h1,h2,h3⟩
theorem Di (h:Q .normal s):awp P .skip Q s:=λB S M a w hs=>wp_skip ⟨s,S,M,h,hs,JO _ _ _⟩
theorem ZcW {l:Nat} (h:Q .normal s):awp P (.label l) Q s:=λB S M a w hs=>wp_label ⟨s,S,M,h,hs,JO _ _ _⟩
theorem ZlX {id:Nat} (h:Q (.exit id) s):awp P (.exit id) Q s:=λB S M a w hs=>wp_exit ⟨s,S,M,h,hs,JO _ _ _⟩
theorem ZlY {l:Nat} (h:Q (.goto l) s):awp P (.goto l) Q s:=λB S M a w hs=>wp_goto ⟨s,S,M,h,hs,JO _ _ _⟩
theorem Zn9 (h:Q .ret s):awp P .ret Q s:=λB S M a w hs=>wp_ret ⟨s,S,M,h,hs,JO _ _ _⟩
def Xj (K:St->Prop) (Q:Exit->St->Prop):Exit->St->Prop
 | .normal,s=>K s
 |e,s=>Q e s
theorem DL {x y:Code} (h:awp P x (Xj (awp P y Q) Q) s):awp P (.seq x y) Q s:=λB S M a w hs=>by
 refine wp_seq (wp_mono (h B S M a w hs) λe a' w' hq=> ?_);obtain⟨s',S',M',h1,h2,h3⟩:=hq;cases e with
 |normal=>
  refine wp_mono (h1 B S' M' a' w' h2) λe a'' w'' hq'=> ?_
  obtain⟨s'',S'',M'',g1,g2,g3⟩:=hq';exact⟨s'',S'',M'',g1,g2,h3.trans g3⟩
 |_=>exact⟨s',S',M',h1,h2,h3⟩
theorem ZlV {c:Operand} {x y:Code} {b:Bool} (hc:s.eval c= .bool b) (h:awp P (if b then x else y) Q s):awp P (.cond c x y) Q s:=λB S M a w hs=>by
 have he:=hs.eval c;rw[hc]at he;exact wp_cond he.bool_inv (h B S M a w hs)
def TL (id:Nat) (Q:Exit->St->Prop):Exit->St->Prop
 | .exit j,s=>if j=id then Q .normal s else Q (.exit j) s
 |e,s=>Q e s
theorem Zi7 {id:Nat} {c:Code} (h:awp P c (TL id Q) s):awp P (.block id c) Q s:=λB S M a w hs=>by
 refine wp_block (wp_mono (h B S M a w hs) λe a' w' hq=> ?_);obtain⟨s',S',M',h1,h2,h3⟩:=hq;cases e with
 |exit j=>
  simp only[Exit.inBlock,TL]at h1 ⊢;split at h1
  ·rename_i hj;simp only[hj,if_true];exact⟨s',S',M',h1,h2,h3⟩
  ·rename_i hj;simp only[hj,if_false];exact⟨s',S',M',h1,h2,h3⟩
 |_=>exact⟨s',S',M',h1,h2,h3⟩
end
open Go.RowKit
def Ya {α:Type} (L:List (Nat×α)) (f:Nat->α):Nat->α:=L.foldr (λx g=>upd g x.1 x.2) f
def Fe (ws:List Nat) (f:Nat->PV):Nat->PV:=λi=>if ws.contains i then .any else f i
structure Weak (s' s:St):Prop where
 n:s'.n=s.n
 fr:∀i,s'.fr i= .any\/s'.fr i=s.fr i
 h:∀i,s'.m.h i=Hn\/(s'.m.h i=s.m.h i/\s'.m.z i=s.m.z i)
 q:∀i,s'.m.q i=Hn\/s'.m.q i=s.m.q i
 o:∀i,s'.m.o i=Hn\/s'.m.o i=s.m.o i
 it:∀i,s'.m.it i=Hn\/s'.m.it i=s.m.it i
 om:∀i,s'.m.om i=Hn\/s'.m.om i=s.m.om i
 v:∀i,s'.m.v i=Hn\/(s'.m.v i=s.m.v i/\s'.m.q i=s.m.q i)
 ph:∀i,s'.m.ph i=Hn\/(s'.m.ph i=s.m.ph i/\s'.m.h i=s.m.h i)
 pq:∀i,s'.m.pq i=Hn\/(s'.m.pq i=s.m.pq i/\s'.m.q i=s.m.q i)
structure Refs (s:St):Prop where
 fr:∀i r,r∈(s.fr i).ids->Live s.m r
 h:∀i cs,s.m.h i=Hs cs-> ∀c∈cs,∀r∈c.ids,Live s.m r
 v:∀i es,s.m.v i=Hs es-> ∀p∈es,∀r∈p.ids,Live s.m r
 om:∀b c,s.m.om b=Hs c-> ∀p∈c.vs,∀r∈p.ids,Live s.m r
section
variable {P:Program} {B:Frm} {S:Stable} {M:Maps} {s s':St} {a:Act} {w:World} {Q Q':Exit->St->Prop}
theorem Sim.refs (hs:Sim B S M s a w):Refs s:=by
 refine⟨hs.ids,λi cs hi c hc r hr=> ?_,λi es h=>(by obtain⟨_,_,_,_,h3,_⟩:=hs.vc i es h;exact h3),λb c h=>(hs.rm b c h).2.2.2.2⟩;have hb:=hs.blk i cs hi;cases hz:s.m.z i with
 |false=>rw[hz]at hb;exact hb.2.2.2 c hc r hr
 |true=>
  rw[hz]at hb;obtain⟨vals,hv⟩:=hb;obtain⟨j,hj,rfl⟩:=Jg hc;have:=(hv j hj).2;rw[getD_lt hj]at this;exact absurd hr (this.clean_ids r)
theorem Sim.weak (hs:Sim B S M s a w) (hw:Weak s' s) (hr:Refs s'):Sim B S M s' a w:=by
 have rep:∀ {v p},RepS S M s.m.q v p->(∀r∈p.ids,Live s'.m r)->RepS S M s'.m.q v p:=λr _=>
  r.heap (JH _) (λ_ _=>rfl) (λi hi=>by
   rcases hw.q i with h|h
   ·rw[h];exact .none
   ·exact .of_eq h rfl rfl)
 have hh:∀ {i cs},s'.m.h i=Hs cs->s.m.h i=Hs cs/\s'.m.z i=s.m.z i:=λ{i cs} hi=>by
  rcases hw.h i with h|⟨h,hz⟩;rw[h]at hi;cases hi;exact⟨by rw[<-h];exact hi,hz⟩
 have hq:∀ {i r},s'.m.q i=Hs r->s.m.q i=Hs r:=λ{i r} hi=>by
  rcases hw.q i with h|h;rw[h]at hi;cases hi;rw[<-h];exact hi
 refine⟨hs.defers,by rw[hs.hn,hw.n],hs.hB,⟨hs.stable.s,λb c hc=>hs.stable.o b c ?_,λb x hx=>hs.stable.i b x ?_⟩,λi=> ?_,hr.fr,λi cs hi=> ?_,λi r hi=>hs.row i r (hq hi),?_,?_,?_,λb c hc=> ?_,λi es he=> ?_,⟨λi b hb=> ?_,λi n k b hb=> ?_⟩,hs.hz⟩;rcases hw.o b with h|h;rw[h]at hc;cases hc;rw[<-h];exact hc;rcases hw.it b with h|h;rw[h]at hx;cases hx;rw[<-h];exact hx;rcases hw.fr i with h|h;rw[h];exact .clean (.any _);rw[h];exact rep (hs.fr i) (by rw[<-h];exact hr.fr i);obtain⟨h1,hz⟩:=hh hi;have hb:=hs.blk i cs h1;rw[hz];cases hzi:s.m.z i with
 |false=>
  rw[hzi]at hb;obtain⟨g1,g2,⟨us,t',g3,g4,g5⟩,g6⟩:=hb;exact⟨g1,g2,⟨us,t',g3,g4,λk hk=>rep (g5 k hk) (λr hr'=>hr.h i cs hi _ (Ze hk) r hr')⟩,hr.h i cs hi⟩
 |true=>rw[hzi]at hb;exact hb
 intro i j cs cs' hi hj zi zj hij;obtain⟨h1,e1⟩:=hh hi;obtain⟨h2,e2⟩:=hh hj;exact hs.inj i j _ _ h1 h2 (by rw[<-e1];exact zi) (by rw[<-e2];exact zj) hij;intro i j r1 r2 hi hj oi oj ki kj hij;exact hs.injq i j _ _ (hq hi) (hq hj) oi oj ki kj hij;intro i j cs r1 hi zi hj oj kj;obtain⟨h1,e1⟩:=hh hi;exact hs.injx i j _ _ h1 (by rw[<-e1];exact zi) (hq hj) oj kj;have hc':s.m.om b=Hs c:=by
  rcases hw.om b with h|h;rw[h]at hc;cases hc;rw[<-h];exact hc
 obtain⟨g1,g2,g3,⟨es,e1,e2,e3,e4,e5,e6⟩,_⟩:=hs.rm b c hc';have hro:=hr.om b c hc;refine⟨g1,g2,?_,⟨es,e1,e2,e3,e4,e5,λi hi=>rep (e6 i hi) λr hr'=>hro (c.vs.getD i .any) (Ze (by omega)) r hr'⟩,hro⟩;rcases hw.o b with h|h;exact h;rw[h];exact g3;rcases hw.v i with h|⟨h,hqi⟩;rw[h]at he;cases he;rw[h]at he;obtain⟨sz,e,q1,k1,k2,k3⟩:=hs.vc i es he;have hrv:=hr.v i es (by rw[h];exact he);refine⟨sz,e,by rw[hqi];exact q1,k1,hrv,λc hc vs t f hvs i' j hi' hj=>rep (k3 c hc vs t f hvs i' j hi' hj) λr hr'=>hrv (es.getD i' .any) (Ze hi') r ?_⟩;have hlen:=(k1 _ (Ze (d:= .any) hi')).1;exact Yn (Ze (by omega)) hr';rcases hw.ph i with h|⟨h,h2⟩;rw[h]at hb;cases hb;rw[h]at hb;rw[h2];exact hs.pn.h i b hb;rcases hw.pq i with h|⟨h,h2⟩;rw[h]at hb;cases hb;rw[h]at hb;rw[h2];exact hs.pn.q i n k b hb
theorem Dj {c:Code} (hw:Weak s' s) (hr:Refs s->Refs s') (h:awp P c Q s'):awp P c Q s:=λB S M a w hs=>h B S M a w (hs.weak hw (hr hs.refs))
theorem UI {c:Code} {ι:Type} (I:ι->St) (μ:ι->Nat) (i0:ι) (h0:Weak (I i0) s) (hr:Refs s-> ∀i,Refs (I i))
  (round:∀i,awp P c (Xj (λs'=>∃j,μ j<μ i/\Weak (I j) s') Q) (I i)):awp P (.loop c) Q s:=λB S M a w hs=>by
 have hrefs:=hr hs.refs;have key:∀(k:Nat) (i:ι),μ i<k-> ∀S1 M1 a1 w1,Sim B S1 M1 (I i) a1 w1->Ext B S S1 w w1->
   Code.rounds P c (λe a' w'=>∃s' S' M',Q e s'/\Sim B S' M' s' a' w'/\Ext B S S' w w') k a1 w1:=by
  intro k
  induction k with
  |zero=>intro i hi;omega
  |succ k ih=>
   intro i hi S1 M1 a1 w1 hs1 he1;rw[rounds_succ];refine wp_mono (round i B S1 M1 a1 w1 hs1) λe a' w' hq=> ?_
   obtain⟨s',S',M',h1,h2,h3⟩:=hq;cases e with
   |normal=>
    obtain⟨j,hj,hwk⟩:=h1;exact ih j (by omega) S' M' a' w' (h2.weak hwk (hrefs j)) (he1.trans h3)
   |_=>exact⟨s',S',M',h1,h2,he1.trans h3⟩
 exact wp_loop_rounds (μ i0+1) (key _ i0 (Nat.lt_succ_self _) S M a w (hs.weak h0 (hrefs i0)) (JO _ _ _))
def FrEq (X:List Nat) (f g:Nat->PV):Prop:=∀i,X.contains i=Hf->f i=g i
theorem FrEq.refl (X:List Nat) (f:Nat->PV):FrEq X f f:=λ_ _=>rfl
theorem FrEq.upd {X:List Nat} {f g:Nat->PV} {d:Nat} {v:PV} (hd:X.contains d=Ht) (h:FrEq X f g):FrEq X (upd f d v) g:=λi hi=>by
 by_cases e:d=i;subst e;rw[hd]at hi;cases hi;rw[Zg _ _ e];exact h i hi
def HWeak {α:Type} (f g:Nat->Option α):Prop:=∀i,f i=Hn\/f i=g i
theorem HWeak.refl {α:Type} (f:Nat->Option α):HWeak f f:=λ_=> .inr rfl
theorem HWeak.upd {α:Type} {f g:Nat->Option α} {d:Nat} {v:Option α} (hd:f d=Hn\/f d=v) (h:HWeak f g):HWeak f (PL.upd g d v):=λi=>by
 by_cases e:d=i;subst e;rw[Za];exact hd;rw[Zg _ _ e];exact h i
theorem YO {α:Type} {L:List (Nat×α)} {f:Nat->α} {i:Nat} (h:(L.map (·.1)).contains i=Hf):Ya L f i=f i:=by
 induction L with
 |nil=>rfl
 |cons x L ih=>
  simp only[JX,Ky,Kr,beq_eq_false_iff_ne]at h;show upd (Ya L f) x.1 x.2 i=f i;rw[Zg _ _ (Jz h.1)];exact ih h.2
theorem ZE {α:Type} {L:List (Nat×α)} {f:Nat->α} {i:Nat} {R:Nat->α->Prop} (hL:∀x∈L,R x.1 x.2) (h:(L.map (·.1)).contains i=Ht):R i (Ya L f i):=by
 induction L with
 |nil=>simp at h
 |cons x L ih=>
  show R i (upd (Ya L f) x.1 x.2 i);by_cases e:x.1=i;subst e;rw[Za];exact hL x (by simp);rw[Zg _ _ e];refine ih (λy hy=>hL y (by simp[hy])) ?_;simp only[JX,Ky,Kn,beq_iff_eq]at h;exact h.resolve_left (Jz e)
def St.inv (s:St) (ws:List Nat) (L:List (Nat×PV)) (H:List (Nat×List PV)) (R:List (Nat×Row)):St:=
 { fr:=Ya L (Fe ws s.fr),m:= { h:=Ya (H.map λx=>(x.1,Hs x.2)) s.m.h,z:=Ya (H.map λx=>(x.1,Hf)) s.m.z,q:=Ya (R.map λx=>(x.1,Hs x.2)) s.m.q,o:=λ_=>Hn,it:=λ_=>Hn,om:=λ_=>Hn,v:=λ_=>Hn,ph:=λ_=>Hn,pq:=λ_=>Hn,vm:=λ_=>Hf },n:=s.n }
structure Meets (s:St) (ws:List Nat) (L:List (Nat×PV)) (H:List (Nat×List PV)) (R:List (Nat×Row)) (s':St):Prop where
 n:s'.n=s.n
 fr:∀x∈L,s'.fr x.1=x.2
 rest:FrEq (ws++L.map (·.1)) s'.fr s.fr
 h:∀x∈H,s'.m.h x.1=Hs x.2/\s'.m.z x.1=Hf
 q:∀x∈R,s'.m.q x.1=Hs x.2
 hrest:∀i,(H.map (·.1)).contains i=Hf->s.m.h i=Hn\/(s.m.h i=s'.m.h i/\s.m.z i=s'.m.z i)
 qrest:∀i,(R.map (·.1)).contains i=Hf->s.m.q i=Hn\/s.m.q i=s'.m.q i
theorem Zcw {α β:Type} (L:List (Nat×α)) (f:α->β):(L.map λx=>(x.1,f x.2)).map (·.1)=L.map (·.1):=by simp
theorem Meets.weak {ws:List Nat} {L:List (Nat×PV)} {H:List (Nat×List PV)} {R:List (Nat×Row)} (h:Meets s ws L H R s'):Weak (s.inv ws L H R) s':=by
 refine⟨h.n.symm,λi=> ?_,λi=> ?_,λi=> ?_,λ_=> .inl rfl,λ_=> .inl rfl,λ_=> .inl rfl,λ_=> .inl rfl,λ_=> .inl rfl,λ_=> .inl rfl⟩;by_cases hi:(L.map (·.1)).contains i=Ht;exact .inr (ZE (R:=λi v=>v=s'.fr i) (λx hx=>(h.fr x hx).symm) hi);have hi':(L.map (·.1)).contains i=false:=by simpa using hi
 show Ya L (Fe ws s.fr) i=_\/Ya L (Fe ws s.fr) i=_;rw[YO hi'];unfold Fe;by_cases hw:ws.contains i=Ht;rw[if_pos hw];exact .inl rfl;rw[if_neg hw];refine .inr (h.rest i ?_).symm;rw[List.contains_append,hi'];simpa using hw;show Ya (H.map λx=>(x.1,Hs x.2)) s.m.h i=Hn\/(Ya (H.map λx=>(x.1,Hs x.2)) s.m.h i=_/\Ya (H.map λx=>(x.1,Hf)) s.m.z i=_);by_cases hi:(H.map (·.1)).contains i=Ht;right;refine⟨ZE (R:=λi v=>v=s'.m.h i) (λx hx=> ?_) (by rw[Zcw H Hs];exact hi),ZE (R:=λi v=>v=s'.m.z i) (λx hx=> ?_) (by rw[Zcw H (λ_=>Hf)];exact hi)⟩;obtain⟨y,hy,rfl⟩:=Je.1 hx;exact(h.h y hy).1.symm;obtain⟨y,hy,rfl⟩:=Je.1 hx;exact(h.h y hy).2.symm;have hi':(H.map (·.1)).contains i=false:=by simpa using hi
 rw[YO (by rw[Zcw H Hs];exact hi'),YO (by rw[Zcw H (λ_=>Hf)];exact hi')];exact h.hrest i hi';show Ya (R.map λx=>(x.1,Hs x.2)) s.m.q i=Hn\/Ya (R.map λx=>(x.1,Hs x.2)) s.m.q i=_;by_cases hi:(R.map (·.1)).contains i=Ht;right;refine ZE (R:=λi v=>v=s'.m.q i) (λx hx=> ?_) (by rw[Zcw R Hs];exact hi);obtain⟨y,hy,rfl⟩:=Je.1 hx;exact(h.q y hy).symm;have hi':(R.map (·.1)).contains i=false:=by simpa using hi
 rw[YO (by rw[Zcw R Hs];exact hi')];exact h.qrest i hi'
def RefsL (s:St) (L:List (Nat×PV)) (H:List (Nat×List PV)) (R:List (Nat×Row)):Prop:=
 (∀x∈L,∀r∈x.2.ids,Live (s.inv [] L H R).m r)/\ ∀x∈H,∀c∈x.2,∀r∈c.ids,Live (s.inv [] L H R).m r
theorem Refs.inv {ws:List Nat} {L:List (Nat×PV)} {H:List (Nat×List PV)} {R:List (Nat×Row)} (h:Refs s) (hl:RefsL s L H R):Refs (s.inv ws L H R):=by
 have up:∀r,Live s.m r->Live (s.inv ws L H R).m r:=λr hr=>by
  cases r with
  |b i=>
   show Ya (H.map λx=>(x.1,Hs x.2)) s.m.h i≠Hn;by_cases hi:(H.map (·.1)).contains i=Ht;exact ZE (R:=λi v=>v≠Hn) (λx hx=>by obtain⟨y,hy,rfl⟩:=Je.1 hx;simp) (by rw[Zcw H Hs];exact hi);rw[YO (by rw[Zcw H Hs];simpa using hi)];exact hr
  |r i=>
   show Ya (R.map λx=>(x.1,Hs x.2)) s.m.q i≠Hn;by_cases hi:(R.map (·.1)).contains i=Ht;exact ZE (R:=λi v=>v≠Hn) (λx hx=>by obtain⟨y,hy,rfl⟩:=Je.1 hx;simp) (by rw[Zcw R Hs];exact hi);rw[YO (by rw[Zcw R Hs];simpa using hi)];exact hr
 refine⟨λi r hr=> ?_,λi cs hi c hc r hr=> ?_,λi es hi=>(by cases hi),λb c hc=>(by cases hc)⟩;by_cases hi:(L.map (·.1)).contains i=Ht;exact ZE (R:=λi v=>∀r∈v.ids,Live (s.inv ws L H R).m r) (λx hx=>hl.1 x hx) hi r hr;have hi':(L.map (·.1)).contains i=false:=by simpa using hi
 have hr':r∈(Ya L (Fe ws s.fr) i).ids:=hr;rw[YO hi']at hr';unfold Fe at hr';split at hr';simp[Jb]at hr';exact up r (h.fr i r hr');by_cases hi':(H.map (·.1)).contains i=Ht;have hR:=ZE (R:=λi v=>∀cs,v=Hs cs-> ∀c∈cs,∀r∈c.ids,Live (s.inv ws L H R).m r) (f:=s.m.h) (L:=H.map λx=>(x.1,Hs x.2)) (i:=i)
  (λx hx cs hcs=>by obtain⟨y,hy,rfl⟩:=Je.1 hx;cases hcs;exact hl.2 y hy) (by rw[Zcw H Hs];exact hi')
 exact hR cs hi c hc r hr;have hi2:Ya (H.map λx=>(x.1,Hs x.2)) s.m.h i=Hs cs:=hi;rw[YO (by rw[Zcw H Hs];simpa using hi')]at hi2;exact up r (h.h i cs hi2 c hc r hr)
theorem Y6 {c:Code} (i d sz:Nat) (e:TypeId) (hi:s.fr i= .sl .nil []) (hd:s.m.q d=Hn) (h:awp P c Q ({ s with fr:=upd s.fr i (.sl (.row d) []) }.with (s.m.setq d (.live 0 sz e)))):awp P c Q s:=λB S M a w hs=>by
 have hs1:=hs.nilRow (sz:=sz) (e:=e) hd;have hv:a.tmps.getD i undef= .slice Hn 0 0:=by
  have:=hs.fr i;rw[hi]at this;exact this.slnil_inv
 refine h B S _ a w ⟨hs1.defers,hs1.hn,hs1.hB,hs1.stable,λk=> ?_,λk r hr=> ?_,hs1.blk,hs1.row,hs1.inj,hs1.injq,hs1.injx,hs1.rm,hs1.vc,⟨hs1.pn.h,hs1.pn.q⟩,hs1.hz⟩;show RepS _ _ _ _ (upd s.fr i (.sl (.row d) []) k);by_cases e:i=k;subst e;rw[Za,hv];refine .row d _ [] (.sl0 Hn 0) λn' sz' e' hq=> ?_
 simp only[St.with,Hp.setq,Za]at hq;cases hq;exact⟨JF _,λ_=>⟨λ_=>rfl,λc hc=>by simp[Za]at hc⟩⟩;rw[Zg _ _ e];exact hs1.fr k;have hr':r∈(upd s.fr i (.sl (.row d) []) k).ids:=hr;by_cases e:i=k;subst e;rw[Za]at hr';simp only[Jb,Jo]at hr';subst hr';simp[Live,St.with,Hp.setq,Za];rw[Zg _ _ e]at hr';exact hs1.ids k r hr'
end
end Go.PL
namespace Go.PL
open Go.RowKit
def XL:Nat->List PV->Nat->PV
 |_,[]=>λ_=> .tup []
 |k,p::ps=>upd (XL (k+1) ps) k p
def St.init (args:List PV) (n:Nat):St:=⟨XL 0 args,Hp.empty,n⟩
def G0 (P:Program) (s:St):ResultVar->ARes
 | .tmp t=>⟨True,s.fr t,s.m⟩
 | .cell t ty=>if tkn P ty then VP P ty (s.fr t) s.m else .fail
def F0:List ARes->Prop
 | []=>True
 |r::rs=>r.ok/\F0 rs
def Zls:List PV->PV
 | [p]=>p
 |ps=> .tup ps
def ZnP (P:Program) (fn:Func) (r:PV) (s:St):Prop:=
 F0 (fn.results.toList.map (G0 P s))/\(Zls (fn.results.toList.map λx=>(G0 P s x).v)).givable s.m/\r=(Zls (fn.results.toList.map λx=>(G0 P s x).v)).give s.m
def Zt5 (P:Program) (fn:Func) (r:PV):Exit->St->Prop
 | .normal,s=>ZnP P fn r s
 | .ret,s=>ZnP P fn r s
 |_,_=>False
section
variable {P:Program} {B:Frm} {S:Stable} {M:Maps} {s:St} {a:Act} {w:World}
theorem Vf:∀(args:List PV) (k i:Nat),k<=i->XL k args i=args.getD (i-k) (.tup [])
 | [],k,i,_=>by simp[XL]
 |p::ps,k,i,h=>by
  unfold XL;by_cases e:k=i;subst e;rw[Za];simp;rw[Zg _ _ e,Vf ps (k+1) i (by omega)];have:i-k=(i-(k+1))+1:=by omega
  rw[this];simp
def ZdQ (tmps:Array Value):ResultVar->Sem Value
 | .tmp t=>Pure.pure (tmps.getD t undef)
 | .cell b t=>do loadVar t (<-asAddr (tmps.getD b undef))
theorem Zkt (hs:Sim B S M s a w) (x:ResultVar) (hok:(G0 P s x).ok):∃v,(ZdQ a.tmps x).run P w= .ok v w/\RepS S M s.m.q v (G0 P s x).v:=by
 cases x with
 |tmp t=>exact⟨_,rfl,hs.fr t⟩
 |cell t ty=>
  unfold G0 at hok ⊢;simp only at hok ⊢;split at hok;rename_i hk;rw[if_pos hk];have hr:=hs.fr t;have hp:∃ad,a.tmps.getD t undef= .pointer (Hs ad):=by
   unfold VP at hok;split at hok;rename_i cs hx;rw[hx]at hr;obtain⟨b,o,vals,e,_⟩:=hr.rptr_inv;exact⟨_,e⟩;rename_i id off hx;rw[hx]at hr;exact⟨_,hr.ptr_inv⟩;rename_i id n sz i off hx;rw[hx]at hr;obtain⟨⟨b,o,e⟩,_⟩:=hr.vptr_inv;exact⟨_,e⟩;exact hok.elim
  obtain⟨ad,had⟩:=hp;obtain⟨v,h1,h2,_⟩:=Zgy hs hr (by intro h;simp[tkn,h]at hk) hok;refine⟨v,?_,?_⟩;rw[had]at h1;simp only[KU,Instr.sureAddr,Jk,JC,Jc]at h1;simp only[ZdQ,had,asAddr,Jk,JC,Jc];exact h1;exact h2;exact hok.elim
theorem WN (hs:Sim B S M s a w) {fn:Func} (hok:F0 (fn.results.toList.map (G0 P s))):
  ∃v,(results fn a.tmps).run P w= .ok v w/\RepS S M s.m.q v (Zls (fn.results.toList.map λx=>(G0 P s x).v)):=by
 have key:∀(l:List ResultVar),F0 (l.map (G0 P s))-> ∃vs:List Value,(l.mapM (ZdQ a.tmps)).run P w= .ok vs w/\RepL S M s.m.q vs (l.map λx=>(G0 P s x).v):=by
  intro l;induction l with
  |nil=>intro _;exact⟨[],by simp,rfl,λi hi=>by simp at hi⟩
  |cons x l ih=>
   intro h;obtain⟨v,e1,e2⟩:=Zkt hs x h.1;obtain⟨vs,e3,e4,e5⟩:=ih h.2;refine⟨v::vs,?_,by simp[e4],λi hi=> ?_⟩;rw[List.mapM_cons];simp only[Jk,e1,e3,Jc,JC];cases i with
   |zero=>exact e2
   |succ i=>simpa using e5 i (by simpa using hi)
 obtain⟨vs,h1,h2⟩:=key fn.results.toList hok;have hm:(fn.results.mapM (ZdQ a.tmps)).run P w= .ok ⟨vs⟩ w:=by
  rw[Array.mapM_eq_mapM_toList];simp only[Sem.run_map,h1,Jc]
 have hres:(results fn a.tmps).run P w= .ok (if h:(⟨vs⟩:Array Value).size=1 then(⟨vs⟩:Array Value)[0]else .tuple ⟨vs⟩) w:=by
  have e:results fn a.tmps=(do
    let vs <-fn.results.mapM (ZdQ a.tmps)
    Pure.pure (if h:vs.size=1 then vs[0]else .tuple vs)):=rfl
  rw[e];simp only[Jk,hm,Jc,JC]
 refine⟨_,hres,?_⟩;generalize (fn.results.toList.map λx=>(G0 P s x).v)=ps at h2;obtain⟨hl,hr⟩:=h2;match vs,ps,hl,hr with
 | [v],[p],_,hr=>exact hr 0 (by simp)
 | [],[],_,_=>exact .tup [] [] rfl (λi hi=>by simp at hi)
 |v::v'::vs,p::p'::ps,hl,hr=>exact .tup _ _ hl hr
theorem Pure.intro {f:FuncId} {fn:Func} {c:Code} {args:List PV} {r:PV} (hf:P.funcs[f]? = Hs fn) (hname:fn.name≠ "runtime.NumGoroutine") (hb:fn.body=Hs c) (hn:args.length<=fn.ntmps) (hi:r.dids= [])
  (h:awp P c (Zt5 P fn r) (St.init args fn.ntmps)):Pure P f args r:=by
 refine⟨⟨fn,hf,hname,by rw[hb];rfl⟩,hi,λw S vs hst hyo hl hr=> ?_⟩;refine calls_of_wp hf hb ?_;have hs:Sim (λk=>k<w.heap.size) S ⟨id,id,id⟩ (St.init args fn.ntmps) { tmps:=⟨vs⟩++JP (fn.ntmps-vs.length) undef,defers:= [] } w:=by
  have rep:∀i,Rep S (((⟨vs⟩:Array Value)++JP (fn.ntmps-vs.length) undef).getD i undef) (XL 0 args i):=λi=>by
   rw[Vf args 0 i (Nat.zero_le _),Kl];by_cases hi:i<args.length;have:=hr i hi;rw[getD_lt hi]at this ⊢;rw[getD_lt (by omega)]at this;have e:((⟨vs⟩:Array Value)++JP (fn.ntmps-vs.length) undef).getD i undef=vs[i]'(by omega):=by
    rw[JS,Array.getElem?_append_left (by simp;omega)];simp[show i<vs.length by omega]
   rw[e];exact this;rw[Vb (by omega)];have e:((⟨vs⟩:Array Value)++JP (fn.ntmps-vs.length) undef).getD i undef=undef:=by
    rw[JS,Array.getElem?_append_right (by simp;omega)];simp only[Array.getElem?_replicate];split<;>rfl
   rw[e];exact .tup [] [] rfl (λi hi=>by simp at hi)
  refine⟨rfl,?_,λ_ h=>h,⟨hst,λb c hc=>by simp[St.init,Hp.empty]at hc,λb x hx=>by simp[St.init,Hp.empty]at hx⟩,λi=> .clean (rep i),λi id hid=>absurd hid ((rep i).clean_ids id),λid cs hid=> ?_,λid r hid=> ?_,λid id' cs cs' hid=> ?_,λid id' r r' hid=> ?_,λid id' cs r hid=> ?_,λb c hid=> ?_,λi es hid=> ?_,⟨λ_ _ h=>by simp[St.init,Hp.empty]at h,λ_ _ _ _ h=>by simp[St.init,Hp.empty]at h⟩,λb hb=>hyo b (Nat.le_of_not_lt hb)⟩;simp[St.init];omega;simp[St.init,Hp.empty]at hid;simp[St.init,Hp.empty]at hid;simp[St.init,Hp.empty]at hid;simp[St.init,Hp.empty]at hid;simp[St.init,Hp.empty]at hid;simp[St.init,Hp.empty]at hid;simp[St.init,Hp.empty]at hid
 have hw:=h (λk=>k<w.heap.size) S _ _ w hs;have hsz:(⟨vs⟩:Array Value).size=vs.length:=by simp
 rw[hsz];refine wp_mono hw λe a' w' hq=> ?_
 obtain⟨s',S',M',h1,h2,h3⟩:=hq;have fin:ZnP P fn r s'->a'.defers= []/\ ∃v,(results fn a'.tmps).run P w'= .ok v w'/\ ∃v' S',Ending.returned v= .returned v'/\Rep S' v' r/\StabS S' w'/\SLe S S'/\(∀b,b<w.heap.size->(∀o,S' b o=S b o)/\S'.m b=S.m b)/\Below w.heap.size w w':=by
  rintro ⟨g1,g2,rfl⟩;obtain⟨v,hv,hrv⟩:=WN h2 g1;exact⟨h2.defers,v,hv,v,S',rfl,hrv.give h2 g2,h2.stable.s,h3.1,h3.2.1,h3.2.2.to⟩
 cases e with
 |normal=>exact fin h1
 |ret=>exact fin h1
 |_=>exact h1.elim
end
open Go.RowKit
structure MemL where
 H:List (Nat×List PV)
 R:List (Nat×Row)
 V:List (Nat×List PV)
def MemL.hp (m:MemL):Hp:=
 { h:=Ya (m.H.map λx=>(x.1,Hs x.2)) λ_=>Hn,z:=λ_=>Hf,q:=Ya (m.R.map λx=>(x.1,Hs x.2)) λ_=>Hn,o:=λ_=>Hn,it:=λ_=>Hn,om:=λ_=>Hn,v:=Ya (m.V.map λx=>(x.1,Hs x.2)) λ_=>Hn,ph:=λ_=>Hn,pq:=λ_=>Hn,vm:=λ_=>Hf }
def MemL.has (m:MemL):Ref->Prop
 | .b i=>∃y∈m.H,y.1=i
 | .r i=>∃y∈m.R,y.1=i
structure MemL.Ok (m:MemL):Prop where
 nh:(m.H.map (·.1)).Nodup
 nr:(m.R.map (·.1)).Nodup
 nv:(m.V.map (·.1)).Nodup
 vr:∀x∈m.V,∃y∈m.R,y.1=x.1
 ch:∀x∈m.H,∀c∈x.2,∀i∈c.ids,m.has i
 cv:∀x∈m.V,∀c∈x.2,∀i∈c.ids,m.has i
def ZiT:Act:= { tmps:= #[],defers:= [] }
def Zij (m:Hp):St:=⟨λ_=> .any,m,0⟩
structure Eff (P:Program) (f:FuncId) (args:List PV) (m0:MemL) (r:PV) (m1:MemL):Prop where
 cal:Vw P f
 ok0:m0.Ok
 ok1:m1.Ok
 ca:∀p∈args,∀i∈p.ids,m0.has i
 cr:∀i∈r.ids,m1.has i
 kh:∀i,m0.has i->m1.has i
 run:∀(B:Frm) (S:Stable) (M:Maps) (w:World) (vs:List Value),Sim B S M (Zij m0.hp) ZiT w->vs.length=args.length->(∀i,i<args.length->RepS S M m0.hp.q (vs.getD i undef) (args.getD i .any))->
  Calls P f ⟨vs⟩ w λen w'=>∃v S' M',en= .returned v/\RepS S' M' m1.hp.q v r/\Sim B S' M' (Zij m1.hp) ZiT w'/\Ext B S S' w w'/\(∀x∈m0.H,M'.φ x.1=M.φ x.1)/\ ∀x∈m0.R,RowLe M M' x.1 (m0.hp.q x.1) (m1.hp.q x.1)
theorem Vq {α:Type} {L:List (Nat×α)} {f:Nat->Option α} {i:Nat} {y:α} (h:Ya (L.map λx=>(x.1,Hs x.2)) f i=Hs y):(i,y)∈L\/f i=Hs y:=by
 induction L with
 |nil=>exact .inr h
 |cons x L ih=>
  have h':upd (Ya (L.map λx=>(x.1,Hs x.2)) f) x.1 (Hs x.2) i=Hs y:=h;by_cases e:x.1=i;rw[e,Za]at h';cases h';exact .inl (by subst e;simp);rw[Zg _ _ e]at h';exact(ih h').imp (λh=>List.mem_cons_of_mem _ h) id
theorem GM {α β:Type} {L:List (Nat×α)} {k:Nat->Nat} {F:Nat×α->β} {f:Nat->β} {x:Nat×α} (hx:x∈L) (hn:(L.map (·.1)).Nodup) (hk:∀y∈L,∀z∈L,k y.1=k z.1->y.1=z.1):Ya (L.map λx=>(k x.1,F x)) f (k x.1)=F x:=by
 induction L with
 |nil=>cases hx
 |cons y L ih=>
  show upd (Ya (L.map λx=>(k x.1,F x)) f) (k y.1) (F y) (k x.1)=F x;simp only[JX,List.nodup_cons]at hn;rcases JN.1 hx with rfl|hx';rw[Za];have hne:y.1≠x.1:=λe=>hn.1 (Je.2 ⟨x,hx',e.symm⟩)
  rw[Zg _ _ λe=>hne (hk y (by simp) x (by simp[hx']) e)];exact ih hx' hn.2 (λa ha b hb=>hk a (by simp[ha]) b (by simp[hb]))
theorem Dx {α β:Type} {L:List (Nat×α)} {k:Nat->Nat} {F:Nat×α->β} {f:Nat->β} {i:Nat} (h:∀x∈L,k x.1≠i):Ya (L.map λx=>(k x.1,F x)) f i=f i:=by
 induction L with
 |nil=>rfl
 |cons y L ih=>
  show upd (Ya (L.map λx=>(k x.1,F x)) f) (k y.1) (F y) i=f i;rw[Zg _ _ (h y (by simp))];exact ih λx hx=>h x (by simp[hx])
section
variable {m:MemL}
theorem MemL.h_mem {i:Nat} {cs:List PV} (h:m.hp.h i=Hs cs):(i,cs)∈m.H:=(Vq h).resolve_right (by simp)
theorem MemL.q_mem {i:Nat} {r:Row} (h:m.hp.q i=Hs r):(i,r)∈m.R:=(Vq h).resolve_right (by simp)
theorem MemL.v_mem {i:Nat} {es:List PV} (h:m.hp.v i=Hs es):(i,es)∈m.V:=(Vq h).resolve_right (by simp)
theorem MemL.Ok.h_at (ok:m.Ok) {x:Nat×List PV} (hx:x∈m.H):m.hp.h x.1=Hs x.2:=GM (k:=λi=>i) (F:=λx=>Hs x.2) hx ok.nh (λ_ _ _ _ h=>h)
theorem MemL.Ok.q_at (ok:m.Ok) {x:Nat×Row} (hx:x∈m.R):m.hp.q x.1=Hs x.2:=GM (k:=λi=>i) (F:=λx=>Hs x.2) hx ok.nr (λ_ _ _ _ h=>h)
theorem MemL.Ok.live (ok:m.Ok) {i:Ref} (h:m.has i):Live m.hp i:=by
 cases i with
 |b i=>obtain⟨y,hy,rfl⟩:=h;show m.hp.h y.1≠Hn;rw[ok.h_at hy];simp
 |r i=>obtain⟨y,hy,rfl⟩:=h;show m.hp.q y.1≠Hn;rw[ok.q_at hy];simp
theorem MemL.has_of {i:Ref} (h:Live m.hp i):m.has i:=by
 cases i with
 |b i=>cases e:m.hp.h i with
  |none=>exact absurd e h
  |some cs=>exact⟨_,MemL.h_mem e,rfl⟩
 |r i=>cases e:m.hp.q i with
  |none=>exact absurd e h
  |some cs=>exact⟨_,MemL.q_mem e,rfl⟩
end
def Zcv (m1:MemL) (f g:Nat->Nat) (m:Hp):Hp:=
 { m with h:=Ya (m1.H.map λx=>(g x.1,Hs (x.2.map (PV.ren f g)))) m.h,z:=Ya (m1.H.map λx=>(g x.1,Hf)) m.z,q:=Ya (m1.R.map λx=>(f x.1,Hs x.2)) m.q,v:=Ya (m1.R.map λx=>(f x.1,(m1.hp.v x.1).map (KM (PV.ren f g)))) m.v }
structure FitsM (m0 m1:MemL) (f g:Nat->Nat) (m:Hp):Prop where
 h:∀x∈m0.H,m.h (g x.1)=Hs (x.2.map (PV.ren f g))/\m.z (g x.1)=Hf
 q:∀x∈m0.R,m.q (f x.1)=Hs x.2
 v:∀x∈m0.V,m.v (f x.1)=Hs (x.2.map (PV.ren f g))
 nh:∀x∈m1.H,(∃y∈m0.H,y.1=x.1)\/m.h (g x.1)=Hn
 nr:∀x∈m1.R,(∃y∈m0.R,y.1=x.1)\/m.q (f x.1)=Hn
 ig:∀x∈m1.H,∀y∈m1.H,g x.1=g y.1->x.1=y.1
 jf:∀x∈m1.R,∀y∈m1.R,f x.1=f y.1->x.1=y.1
section
variable {P:Program} {B:Frm} {S:Stable} {M:Maps} {s:St} {a:Act} {w:World} {fn:FuncId} {args:List PV} {m0 m1:MemL} {r:PV} {f g:Nat->Nat}
def Zl8 (B:Frm) (M:Maps) (m:Hp) (m0:MemL) (f g:Nat->Nat):Frm:=λk=>
 B k\/(∃id cs,m.h id=Hs cs/\m.z id=Hf/\(∀x∈m0.H,g x.1≠id)/\M.φ id=k)\/(∃id r,m.q id=Hs r/\r.own=Ht/\0<M.κ id/\(∀x∈m0.R,f x.1≠id)/\M.ψ id=k)\/(∃c,m.o k=Hs c)\/(∃x,m.it k=Hs x)\/ ∃c,m.om k=Hs c
theorem Sim.small (hs:Sim B S M s a w) (ok:m0.Ok) (hf:FitsM m0 m1 f g s.m) (ig:∀x∈m0.H,∀y∈m0.H,g x.1=g y.1->x.1=y.1) (jf:∀x∈m0.R,∀y∈m0.R,f x.1=f y.1->x.1=y.1):
  Sim (Zl8 B M s.m m0 f g) S ⟨λi=>M.φ (g i),λi=>M.ψ (f i),λi=>M.κ (f i)⟩ (Zij m0.hp) ZiT w:=by
 have hq:∀ {i r},m0.hp.q i=Hs r->s.m.q (f i)=Hs r:=λh=>hf.q _ (MemL.q_mem h)
 have un:∀ {v p},RepS S M s.m.q v (p.ren f g)->(∀i∈p.ids,m0.has i)->RepS S ⟨λi=>M.φ (g i),λi=>M.ψ (f i),λi=>M.κ (f i)⟩ m0.hp.q v p:=λrr hids=>
  rr.unren _ rfl (λi _=>rfl) λi hi=>⟨by obtain⟨y,hy,rfl⟩:=hids _ hi;rw[hf.q y hy,ok.q_at hy],rfl,rfl⟩
 have cell_nomap:∀ {k vs t fz},w.heap[k]? = Hs (.cells vs t fz)-> ¬((∃c,s.m.o k=Hs c)\/(∃x,s.m.it k=Hs x)\/ ∃c,s.m.om k=Hs c):=λ{k vs t fz} h0 h=>by
  rcases h with ⟨c,hc⟩|⟨x,hx⟩|⟨c,hc⟩;obtain⟨_,_,es,h1,_⟩:=hs.stable.o k c hc;rw[h0]at h1;cases h1;have h1:=(hs.stable.i k x hx).2.1;unfold IterAt at h1;rw[h0]at h1;cases h1;obtain⟨_,_,_,⟨es,h1,_⟩,_⟩:=hs.rm k c hc;rw[h0]at h1;cases h1
 have nb:∀ {id cs},m0.hp.h id=Hs cs-> ¬Zl8 B M s.m m0 f g (M.φ (g id)):=λ{id cs} h hB=>by
  have hx:=MemL.h_mem h;obtain⟨k1,k2⟩:=hf.h _ hx;obtain⟨g1,g2,⟨vs,t,g3,_⟩,_⟩:=hs.own k1 k2;rcases hB with hB|⟨id',cs',e1,e2,e3,e4⟩|⟨id',r',e1,e2,e3,e4,e5⟩|hB;exact g1 hB;exact hs.inj id' (g id) _ _ e1 k1 e2 k2 (λe=>e3 _ hx e.symm) e4;exact hs.injx (g id) id' _ _ k1 k2 e1 e2 e3 e5.symm;exact cell_nomap g3 hB
 have nr:∀ {id r},m0.hp.q id=Hs r->r.own=Ht->0<M.κ (f id)-> ¬Zl8 B M s.m m0 f g (M.ψ (f id)):=λ{id r} h ho hk hB=>by
  have hx:=MemL.q_mem h;have k1:=hq h;have hrow:=hs.row _ _ k1;obtain⟨c,hc⟩:∃c,M.κ (f id)=c+1:=⟨M.κ (f id)-1,by omega⟩;have hcell:∃vs e,w.heap[M.ψ (f id)]? = Hs (.cells ⟨vs⟩ e (0,0))/\ ¬B (M.ψ (f id)):=by
   cases r with
   |dead=>cases ho
   |live n sz e=>obtain⟨_,h2⟩:=hrow;obtain⟨_,_,g1,⟨vs,g2,_⟩,_⟩:=h2 c hc;exact⟨vs,e,g2,g1⟩
   |vec n sz e=>obtain⟨_,h2⟩:=hrow;obtain⟨_,_,g1,⟨vs,g2,_⟩,_⟩:=h2 c hc;exact⟨vs,e,g2,g1⟩
  obtain⟨vs,e,g3,g1⟩:=hcell;rcases hB with hB|⟨id',cs',e1,e2,e3,e4⟩|⟨id',r',e1,e2,e3,e4,e5⟩|hB;exact g1 hB;exact hs.injx id' (f id) _ _ e1 e2 k1 ho hk e4;exact hs.injq id' (f id) _ _ e1 k1 e2 ho e3 hk (λe=>e4 _ hx e.symm) e5;exact cell_nomap g3 hB
 refine⟨rfl,rfl,λk hB=> ?_,⟨hs.stable.s,λb c hc=>(by cases hc),λb x hx=>(by cases hx)⟩,λi=> .clean (.any _),λi id h=>(by simp[Zij,Jb]at h),λid cs h=> ?_,λid r h=> ?_,λid id' cs cs' h h' _ _ hne=> ?_,λid id' r r' h h' o o' k k' hne=> ?_,λid id' cs r h _ h' o k=> ?_,λb c hc=>(by cases hc),λid es h=> ?_,⟨λ_ _ h=>(by cases h),λ_ _ _ _ h=>(by cases h)⟩,λk hk=>hs.hz k λh=>hk (.inl h)⟩;rcases hB with hB|⟨id',cs',e1,e2,e3,e4⟩|⟨id',r',e1,e2,e3,e4,e5⟩|⟨c,hc⟩|⟨x,hx⟩|⟨c,hc⟩;exact hs.hB k hB;rw[<-e4];exact hs.blk_lt e1 e2;rw[<-e5];exact hs.row_lt e1 e2 e3;exact(hs.stable.o k c hc).2.2.lt;exact(hs.stable.i k x hx).2.1.lt;exact(hs.rm k c hc).2.2.2.lt;have hx:=MemL.h_mem h;obtain⟨k1,k2⟩:=hf.h _ hx;obtain⟨g1,g2,⟨vs,t,g3,g4,g5⟩,g6⟩:=hs.own k1 k2;have hcl:∀c∈cs,∀i∈c.ids,m0.has i:=ok.ch _ hx;refine⟨nb h,g2,⟨vs,t,g3,by simpa using g4,λj hj=>un ?_ (hcl _ (Ze hj))⟩,λc hc i hi=>ok.live (hcl c hc i hi)⟩;have:=g5 j (by simpa using hj);rw[getD_lt (l:=cs.map _) (by simpa using hj),Jl]at this;rw[getD_lt hj];exact this;have k1:=hq h;have hrow:=hs.row _ _ k1;cases r with
 |dead=>trivial
 |live n sz e=>
  obtain⟨h1,h2⟩:=hrow;refine⟨h1,λc hc=> ?_⟩;obtain⟨g1,g2,g3,g4,g5⟩:=h2 c hc;exact⟨g1,g2,nr h rfl (by show 0<M.κ (f id);have:M.κ (f id)=c+1:=hc;omega),g4,g5⟩
 |vec n sz e=>
  obtain⟨h1,h2⟩:=hrow;refine⟨h1,λc hc=> ?_⟩;obtain⟨g1,g2,g3,g4,g5⟩:=h2 c hc;exact⟨g1,g2,nr h rfl (by show 0<M.κ (f id);have:M.κ (f id)=c+1:=hc;omega),g4,g5⟩
 have hx:=MemL.h_mem h;have hx':=MemL.h_mem h';obtain⟨k1,k2⟩:=hf.h _ hx;obtain⟨k3,k4⟩:=hf.h _ hx';exact hs.inj _ _ _ _ k1 k3 k2 k4 λe=>hne (ig _ hx _ hx' e)
 have hx:=MemL.q_mem h;have hx':=MemL.q_mem h';exact hs.injq _ _ _ _ (hq h) (hq h') o o' k k' λe=>hne (jf _ hx _ hx' e)
 obtain⟨k1,k2⟩:=hf.h _ (MemL.h_mem h);exact hs.injx _ _ _ _ k1 k2 (hq h') o k;have hx:=MemL.v_mem h;obtain⟨sz,e,q1,r1,r2,r4⟩:=hs.vc _ _ (hf.v _ hx);obtain⟨y,hy,hyx⟩:=ok.vr _ hx;have hyx':y.1=id:=hyx;have hqy:=hf.q y hy;rw[hyx']at hqy;rw[hqy,Jh]at q1;have hy2:y.2= .vec es.length sz e:=by simpa using q1
 have hcl:∀c∈es,∀i∈c.ids,m0.has i:=ok.cv _ hx;refine⟨sz,e,?_,λp hp=> ?_,λp hp i hi=>ok.live (hcl p hp i hi),λc hc vs t fz hvs i j hi hj=> ?_⟩;have:=ok.q_at hy;rw[hyx',hy2]at this;exact this;have:=r1 (p.ren f g) (Je.2 ⟨p,hp,rfl⟩);rw[U3]at this;refine⟨by simpa using this.1,?_⟩;have h2:=this.2;rw[KX]at h2;rw[Jv]at h2 ⊢;intro x hx;have:=h2 x hx;simpa[ZgM]using this;have hg:=r4 c hc vs t fz hvs i j (by simpa using hi) hj;rw[getD_lt (l:=es.map _) (by simpa using hi),Jl,U3]at hg;have hlen:=(r1 ((es.getD i .any).ren f g) (Je.2 ⟨_,Ze hi,rfl⟩)).1;rw[U3,Jh]at hlen;rw[getD_lt hi]at hlen ⊢;have hjl:j<es[i].cells.length:=by omega
 rw[getD_lt (l:=es[i].cells.map _) (by simpa using hjl),Jl]at hg;rw[getD_lt (l:=es[i].cells) hjl];exact un hg λk hk=>hcl _ (Jw hi) k (Yn (Jw _) hk)
open Classical in
noncomputable def effM (M M1:Maps) (m1:MemL) (f g:Nat->Nat):Maps where
 φ:=λid=>if h:∃x∈m1.H,g x.1=id then M1.φ h.choose.1 else M.φ id
 ψ:=λid=>if h:∃x∈m1.R,f x.1=id then M1.ψ h.choose.1 else M.ψ id
 κ:=λid=>if h:∃x∈m1.R,f x.1=id then M1.κ h.choose.1 else M.κ id
theorem effM_φ {M M1:Maps} {x:Nat×List PV} (hx:x∈m1.H) (ig:∀x∈m1.H,∀y∈m1.H,g x.1=g y.1->x.1=y.1):(effM M M1 m1 f g).φ (g x.1)=M1.φ x.1:=by
 have h:∃y∈m1.H,g y.1=g x.1:=⟨x,hx,rfl⟩;show(if h:∃y∈m1.H,g y.1=g x.1 then M1.φ h.choose.1 else M.φ (g x.1))=_;rw[dif_pos h,ig _ h.choose_spec.1 _ hx h.choose_spec.2]
theorem effM_φn {M M1:Maps} {id:Nat} (h:¬ ∃x∈m1.H,g x.1=id):(effM M M1 m1 f g).φ id=M.φ id:=dif_neg h
theorem effM_ψ {M M1:Maps} {x:Nat×Row} (hx:x∈m1.R) (jf:∀x∈m1.R,∀y∈m1.R,f x.1=f y.1->x.1=y.1):(effM M M1 m1 f g).ψ (f x.1)=M1.ψ x.1/\(effM M M1 m1 f g).κ (f x.1)=M1.κ x.1:=by
 have h:∃y∈m1.R,f y.1=f x.1:=⟨x,hx,rfl⟩;constructor;show(if h:∃y∈m1.R,f y.1=f x.1 then M1.ψ h.choose.1 else M.ψ (f x.1))=_;rw[dif_pos h,jf _ h.choose_spec.1 _ hx h.choose_spec.2];show(if h:∃y∈m1.R,f y.1=f x.1 then M1.κ h.choose.1 else M.κ (f x.1))=_;rw[dif_pos h,jf _ h.choose_spec.1 _ hx h.choose_spec.2]
theorem effM_ψn {M M1:Maps} {id:Nat} (h:¬ ∃x∈m1.R,f x.1=id):(effM M M1 m1 f g).ψ id=M.ψ id/\(effM M M1 m1 f g).κ id=M.κ id:=⟨dif_neg h,dif_neg h⟩
theorem Eff.call (hs:Sim B S M s a w) (he:Eff P fn args m0 r m1) (hf:FitsM m0 m1 f g s.m) {vs:List Value} (hl:vs.length=args.length) (hr:∀i,i<args.length->RepS S M s.m.q (vs.getD i undef) ((args.getD i .any).ren f g)):
  Calls P fn ⟨vs⟩ w λen w'=>∃v S' M',en= .returned v/\Sim B S' M' (s.with (Zcv m1 f g s.m)) a w'/\RepS S' M' (Zcv m1 f g s.m).q v (r.ren f g)/\(∀i∈(r.ren f g).ids,Live (Zcv m1 f g s.m) i)/\Ext B S S' w w':=by
 have h01:∀x∈m0.H,∃y∈m1.H,y.1=x.1:=λx hx=>he.kh (.b x.1) ⟨x,hx,rfl⟩
 have r01:∀x∈m0.R,∃y∈m1.R,y.1=x.1:=λx hx=>he.kh (.r x.1) ⟨x,hx,rfl⟩
 have ig0:∀x∈m0.H,∀y∈m0.H,g x.1=g y.1->x.1=y.1:=λx hx y hy e=>by
  obtain⟨x',hx',ex⟩:=h01 x hx;obtain⟨y',hy',ey⟩:=h01 y hy;rw[<-ex,<-ey]at e ⊢;exact hf.ig _ hx' _ hy' e
 have jf0:∀x∈m0.R,∀y∈m0.R,f x.1=f y.1->x.1=y.1:=λx hx y hy e=>by
  obtain⟨x',hx',ex⟩:=r01 x hx;obtain⟨y',hy',ey⟩:=r01 y hy;rw[<-ex,<-ey]at e ⊢;exact hf.jf _ hx' _ hy' e
 have hs0:=hs.small he.ok0 hf ig0 jf0;refine(he.run _ S _ w vs hs0 hl λi hi=> ?_).mono λen w' ⟨v,S',M1,e1,e2,hs1,hext,e5,e6⟩=> ?_
 refine(hr i hi).unren _ rfl (λk _=>rfl) λk hk=>⟨?_,rfl,rfl⟩
 obtain⟨y,hy,rfl⟩:=he.ca _ (Ze hi) _ hk;rw[hf.q y hy,he.ok0.q_at hy];obtain⟨hle,hag,hbel⟩:=hext;let M':=effM M M1 m1 f g;let m':=Zcv m1 f g s.m;have lh:∀x∈m1.H,m'.h (g x.1)=Hs (x.2.map (PV.ren f g))/\m'.z (g x.1)=false:=λx hx=>
  ⟨GM (α:=List PV) (β:=Option (List PV)) (k:=g) (F:=λx=>Hs (x.2.map (PV.ren f g))) hx he.ok1.nh hf.ig,GM (α:=List PV) (β:=Bool) (k:=g) (F:=λ_=>Hf) hx he.ok1.nh hf.ig⟩
 have lhn:∀ {id},(¬ ∃x∈m1.H,g x.1=id)->m'.h id=s.m.h id/\m'.z id=s.m.z id:=λ{id} h=>
  ⟨Dx (α:=List PV) (β:=Option (List PV)) (k:=g) (F:=λx=>Hs (x.2.map (PV.ren f g))) λx hx e=>h ⟨x,hx,e⟩,Dx (α:=List PV) (β:=Bool) (k:=g) (F:=λ_=>Hf) λx hx e=>h ⟨x,hx,e⟩⟩
 have lq:∀x∈m1.R,m'.q (f x.1)=Hs x.2/\m'.v (f x.1)=(m1.hp.v x.1).map (KM (PV.ren f g)):=λx hx=>
  ⟨GM (α:=Row) (β:=Option Row) (k:=f) (F:=λx=>Hs x.2) hx he.ok1.nr hf.jf,GM (α:=Row) (β:=Option (List PV)) (k:=f) (F:=λx=>(m1.hp.v x.1).map (KM (PV.ren f g))) hx he.ok1.nr hf.jf⟩
 have lqn:∀ {id},(¬ ∃x∈m1.R,f x.1=id)->m'.q id=s.m.q id/\m'.v id=s.m.v id:=λ{id} h=>
  ⟨Dx (α:=Row) (β:=Option Row) (k:=f) (F:=λx=>Hs x.2) λx hx e=>h ⟨x,hx,e⟩,Dx (α:=Row) (β:=Option (List PV)) (k:=f) (F:=λx=>(m1.hp.v x.1).map (KM (PV.ren f g))) λx hx e=>h ⟨x,hx,e⟩⟩
 have live_old:∀i,Live s.m i->Live m' i:=λi hi=>by
  cases i with
  |b i=>
   show m'.h i≠Hn;by_cases h:∃x∈m1.H,g x.1=i;obtain⟨x,hx,rfl⟩:=h;rw[(lh x hx).1];simp;rw[(lhn h).1];exact hi
  |r i=>
   show m'.q i≠Hn;by_cases h:∃x∈m1.R,f x.1=i;obtain⟨x,hx,rfl⟩:=h;rw[(lq x hx).1];simp;rw[(lqn h).1];exact hi
 have Sz:∀i,m1.has i->Live m' (i.ren f g):=λi hi=>by
  cases i with
  |b i=>obtain⟨y,hy,rfl⟩:=hi;show m'.h (g y.1)≠Hn;rw[(lh y hy).1];simp
  |r i=>obtain⟨y,hy,rfl⟩:=hi;show m'.q (f y.1)≠Hn;rw[(lq y hy).1];simp
 have φ_old:∀id,s.m.h id≠Hn->M'.φ id=M.φ id:=λid hid=>by
  by_cases h:∃x∈m1.H,g x.1=id;obtain⟨x,hx,rfl⟩:=h;refine(effM_φ hx hf.ig).trans ?_;rcases hf.nh x hx with ⟨y,hy,e⟩|h0;have:=e5 y hy;rw[e]at this;exact this;exact absurd h0 hid;exact effM_φn h
 have row_old:∀id,s.m.q id≠Hn->RowLe M M' id (s.m.q id) (m'.q id):=λid hid=>by
  by_cases h:∃x∈m1.R,f x.1=id;obtain⟨x,hx,rfl⟩:=h;rcases hf.nr x hx with ⟨y,hy,e⟩|h0;have h6:=e6 y hy;rw[e]at h6;have hqy:=hf.q y hy;have h0q:=he.ok0.q_at hy;rw[e]at hqy h0q;rw[(lq x hx).1,hqy];rw[he.ok1.q_at hx,h0q]at h6;obtain⟨k1,k2⟩:=effM_ψ (M:=M) (M1:=M1) hx hf.jf;exact⟨λn sz e' h=>(h6.l n sz e' h).imp (λ⟨a1,a2,a3⟩=>⟨a1,k2.trans a2,k1.trans a3⟩) id,λn sz e' h=>(h6.v n sz e' h).imp (λ⟨e0,a1,a2,a3⟩=>⟨e0,a1,k2.trans a2,k1.trans a3⟩) id⟩;exact absurd h0 hid;obtain⟨k1,k2⟩:=effM_ψn (M:=M) (M1:=M1) h;exact .of_eq (lqn h).1 k2 k1
 have rep_old:∀v p,RepS S M s.m.q v p->(∀i∈p.ids,Live s.m i)->RepS S' M' m'.q v p:=λv p rr hids=>
  rr.heap hle (λid hid=>φ_old id (hids _ hid)) (λid hid=>row_old id (hids _ hid))
 have rep_new:∀v p,RepS S' M1 m1.hp.q v p->(∀i∈p.ids,m1.has i)->RepS S' M' m'.q v (p.ren f g):=λv p rr hids=>
  rr.ren (λi hi=>by obtain⟨y,hy,rfl⟩:=hids _ hi;exact effM_φ hy hf.ig) (λi hi=>by
   obtain⟨y,hy,rfl⟩:=hids _ hi;obtain⟨k1,k2⟩:=effM_ψ (M:=M) (M1:=M1) hy hf.jf;exact⟨by rw[(lq y hy).1,he.ok1.q_at hy],k2,k1⟩)
 have inB:∀ {id cs},s.m.h id=Hs cs->s.m.z id=Hf->(¬ ∃x∈m1.H,g x.1=id)->Zl8 B M s.m m0 f g (M.φ id):=λ{id cs} h1 h2 h=> .inr (.inl ⟨id,cs,h1,h2,λx hx e=>by
  obtain⟨y,hy,ey⟩:=h01 x hx;exact h ⟨y,hy,by rw[ey];exact e⟩,rfl⟩)
 have inR:∀ {id r},s.m.q id=Hs r->r.own=Ht->0<M.κ id->(¬ ∃x∈m1.R,f x.1=id)->Zl8 B M s.m m0 f g (M.ψ id):=λ{id r} h1 h2 h3 h=> .inr (.inr (.inl ⟨id,r,h1,h2,h3,λx hx e=>by
  obtain⟨y,hy,ey⟩:=r01 x hx;exact h ⟨y,hy,by rw[ey];exact e⟩,rfl⟩))
 have toB:∀ {k},B k->Zl8 B M s.m m0 f g k:=λh=> .inl h
 have nbk:∀ {x},x∈m1.H-> ¬Zl8 B M s.m m0 f g (M1.φ x.1):=λ{x} hx=>by
  have:=hs1.blk x.1 x.2 (he.ok1.h_at hx);exact this.1
 have nrw:∀ {x:Nat×Row},x∈m1.R->x.2.own=Ht->0<M1.κ x.1-> ¬Zl8 B M s.m m0 f g (M1.ψ x.1):=λ{x} hx ho hk=>by
  have hrow:=hs1.row x.1 x.2 (he.ok1.q_at hx);obtain⟨i,r⟩:=x;cases r with
  |dead=>cases ho
  |live n sz e=>obtain⟨_,h2⟩:=hrow;exact(h2 (M1.κ i-1) (by show M1.κ i=_;simp only at hk;omega)).2.2.1
  |vec n sz e=>obtain⟨_,h2⟩:=hrow;exact(h2 (M1.κ i-1) (by show M1.κ i=_;simp only at hk;omega)).2.2.1
 have hm':∀ {b c},s.m.o b=Hs c->S'.m b=none:=λ{b c} h=>by rw[(hag b (.inr (.inr (.inr (.inl ⟨c,h⟩))))).2];exact(hs.stable.o b c h).2.1
 refine⟨v,S',M',e1,⟨hs.defers,hs.hn,λk hk=>Kz (hs.hB k hk) hbel.size,?_,λi=>rep_old _ _ (hs.fr i) (hs.ids i),λi k hk=>live_old k (hs.ids i k hk),λid cs h=> ?_,λid r h=> ?_,λid id' cs cs' h h' z z' hne=> ?_,λid id' q1 q2 h h' o o' k k' hne=> ?_,λid id' cs q1 h z h' o k=> ?_,λb c hc=> ?_,λid es h=> ?_,hs.pn.move rfl rfl live_old φ_old row_old,hs.zle hle⟩,rep_new _ _ e2 he.cr,λi hi=> ?_,hle,λb hb=>hag b (toB hb),hbel.mono λk hk=>toB hk⟩;exact hs.stable.move hle (λb c hc=>hm' hc) hs1.stable.s (λb c hc=>hbel.block b (.inr (.inr (.inr (.inl ⟨c,hc⟩))))) (λb x hx=>hbel.block b (.inr (.inr (.inr (.inr (.inl ⟨x,hx⟩))))));have h:m'.h id=Hs cs:=h;show SZ B S' M' m' w' id cs (m'.z id);by_cases hg:∃x∈m1.H,g x.1=id;obtain⟨x,hx,rfl⟩:=hg;rw[(lh x hx).1]at h;cases h;rw[(lh x hx).2];have hb1:=hs1.blk x.1 x.2 (he.ok1.h_at hx);obtain⟨g1,g2,⟨us,t,g3,g4,g5⟩,g6⟩:=hb1;have hφ:M'.φ (g x.1)=M1.φ x.1:=effM_φ hx hf.ig;refine⟨by rw[hφ];exact λhB=>g1 (toB hB),λo=>by rw[hφ];exact g2 o,⟨us,t,by rw[hφ];exact g3,by simpa using g4,λj hj=> ?_⟩,λc hc i hi=> ?_⟩;simp only[Jh]at hj;rw[getD_lt (l:=x.2.map _) (by simpa using hj),Jl];have:=g5 j hj;rw[getD_lt (l:=x.2) hj]at this;exact rep_new _ _ this (he.ok1.ch x hx _ (Jw hj));obtain⟨c0,hc0,rfl⟩:=Je.1 hc;rw[Fw]at hi;obtain⟨i0,hi0,rfl⟩:=Je.1 hi;exact Sz i0 (he.ok1.ch x hx c0 hc0 i0 hi0);rw[(lhn hg).1]at h;rw[(lhn hg).2];have hb:=hs.blk id cs h;have hφ:M'.φ id=M.φ id:=effM_φn hg;cases hz:s.m.z id with
 |true=>
  rw[hz]at hb;obtain⟨vals,hv⟩:=hb;exact⟨vals,λj hj=>⟨by rw[hφ];exact hle _ _ _ (hv j hj).1,(hv j hj).2.mono hle⟩⟩
 |false=>
  rw[hz]at hb;obtain⟨g1,g2,⟨us,t,g3,g4,g5⟩,g6⟩:=hb;have hin:=inB h hz hg;exact⟨by rw[hφ];exact g1,λo=>by rw[hφ,(hag _ hin).1];exact g2 o,⟨us,t,by rw[hφ,hbel.block _ hin];exact g3,g4,λj hj=>rep_old _ _ (g5 j hj) (λk hk=>g6 _ (Ze hj) k hk)⟩,λc hc k hk=>live_old k (g6 c hc k hk)⟩
 have h:m'.q id=Hs r:=h;by_cases hg:∃x∈m1.R,f x.1=id;obtain⟨x,hx,rfl⟩:=hg;rw[(lq x hx).1]at h;cases h;obtain⟨k1,k2⟩:=effM_ψ (M:=M) (M1:=M1) hx hf.jf;have hrow:=hs1.row x.1 x.2 (he.ok1.q_at hx);obtain⟨i,rw0⟩:=x;cases rw0 with
 |dead=>trivial
 |live n sz e=>
  obtain⟨h1,h2⟩:=hrow;refine⟨λh0=>h1 (by rw[<-k2];exact h0),λc hc=> ?_⟩;obtain⟨g1,g2,g3,g4,g5⟩:=h2 c (by rw[<-k2];exact hc);simp only[M',k1];exact⟨g1,g2,λhB=>g3 (toB hB),g4,g5⟩
 |vec n sz e=>
  obtain⟨h1,h2⟩:=hrow;refine⟨λh0=>h1 (by rw[<-k2];exact h0),λc hc=> ?_⟩;obtain⟨g1,g2,g3,g4,g5⟩:=h2 c (by rw[<-k2];exact hc);simp only[M',k1];exact⟨g1,g2,λhB=>g3 (toB hB),g4,g5⟩
 rw[(lqn hg).1]at h;obtain⟨k1,k2⟩:=effM_ψn (M:=M) (M1:=M1) hg;have hrow:=hs.row id r h;cases r with
 |dead=>trivial
 |live n sz e=>
  obtain⟨h1,h2⟩:=hrow;refine⟨λh0=>h1 (by rw[<-k2];exact h0),λc hc=> ?_⟩;have hc':M.κ id=c+1:=by rw[<-k2];exact hc
  obtain⟨g1,g2,g3,g4,g5⟩:=h2 c hc';have hin:=inR h rfl (by omega) hg;simp only[M',k1,hbel.block _ hin];exact⟨g1,g2,g3,g4,λo ho=>by rw[(hag _ hin).1];exact g5 o ho⟩
 |vec n sz e=>
  obtain⟨h1,h2⟩:=hrow;refine⟨λh0=>h1 (by rw[<-k2];exact h0),λc hc=> ?_⟩;have hc':M.κ id=c+1:=by rw[<-k2];exact hc
  obtain⟨g1,g2,g3,g4,g5⟩:=h2 c hc';have hin:=inR h rfl (by omega) hg;simp only[M',k1,hbel.block _ hin];exact⟨g1,g2,g3,g4,λo=>by rw[(hag _ hin).1];exact g5 o⟩
 have h:m'.h id=Hs cs:=h;have h':m'.h id'=Hs cs':=h';have z:m'.z id=false:=z;have z':m'.z id'=false:=z';by_cases hg:∃x∈m1.H,g x.1=id;obtain⟨x,hx,rfl⟩:=hg;have hφ:M'.φ (g x.1)=M1.φ x.1:=effM_φ hx hf.ig;by_cases hg':∃x∈m1.H,g x.1=id';obtain⟨y,hy,rfl⟩:=hg';have hφ':M'.φ (g y.1)=M1.φ y.1:=effM_φ hy hf.ig;rw[hφ,hφ'];exact hs1.inj _ _ _ _ (he.ok1.h_at hx) (he.ok1.h_at hy) rfl rfl λe=>hne (by rw[e])
 rw[(lhn hg').1]at h';rw[(lhn hg').2]at z';have hφ':M'.φ id'=M.φ id':=effM_φn hg';rw[hφ,hφ'];exact λe=>nbk hx (by rw[e];exact inB h' z' hg')
 rw[(lhn hg).1]at h;rw[(lhn hg).2]at z;have hφ:M'.φ id=M.φ id:=effM_φn hg;by_cases hg':∃x∈m1.H,g x.1=id';obtain⟨y,hy,rfl⟩:=hg';have hφ':M'.φ (g y.1)=M1.φ y.1:=effM_φ hy hf.ig;rw[hφ,hφ'];exact λe=>nbk hy (by rw[<-e];exact inB h z hg)
 rw[(lhn hg').1]at h';rw[(lhn hg').2]at z';have hφ':M'.φ id'=M.φ id':=effM_φn hg';rw[hφ,hφ'];exact hs.inj _ _ _ _ h h' z z' hne;have h:m'.q id=Hs q1:=h;have h':m'.q id'=Hs q2:=h';by_cases hg:∃x∈m1.R,f x.1=id;obtain⟨x,hx,rfl⟩:=hg;rw[(lq x hx).1]at h;cases h;obtain⟨k1,k2⟩:=effM_ψ (M:=M) (M1:=M1) hx hf.jf;have k:0<M1.κ x.1:=by rw[<-k2];exact k
 by_cases hg':∃x∈m1.R,f x.1=id';obtain⟨y,hy,rfl⟩:=hg';rw[(lq y hy).1]at h';cases h';obtain⟨k3,k4⟩:=effM_ψ (M:=M) (M1:=M1) hy hf.jf;have k':0<M1.κ y.1:=by rw[<-k4];exact k'
 simp only[M',k1,k3];exact hs1.injq _ _ _ _ (he.ok1.q_at hx) (he.ok1.q_at hy) o o' k k' λe=>hne (by rw[e])
 rw[(lqn hg').1]at h';obtain⟨k3,k4⟩:=effM_ψn (M:=M) (M1:=M1) hg';have k':0<M.κ id':=by rw[<-k4];exact k'
 simp only[M',k1,k3];exact λe=>nrw hx o k (by rw[e];exact inR h' o' k' hg')
 rw[(lqn hg).1]at h;obtain⟨k1,k2⟩:=effM_ψn (M:=M) (M1:=M1) hg;have k:0<M.κ id:=by rw[<-k2];exact k
 by_cases hg':∃x∈m1.R,f x.1=id';obtain⟨y,hy,rfl⟩:=hg';rw[(lq y hy).1]at h';cases h';obtain⟨k3,k4⟩:=effM_ψ (M:=M) (M1:=M1) hy hf.jf;have k':0<M1.κ y.1:=by rw[<-k4];exact k'
 simp only[M',k1,k3];exact λe=>nrw hy o' k' (by rw[<-e];exact inR h o k hg)
 rw[(lqn hg').1]at h';obtain⟨k3,k4⟩:=effM_ψn (M:=M) (M1:=M1) hg';have k':0<M.κ id':=by rw[<-k4];exact k'
 simp only[M',k1,k3];exact hs.injq _ _ _ _ h h' o o' k k' hne;have h:m'.h id=Hs cs:=h;have z:m'.z id=false:=z;have h':m'.q id'=Hs q1:=h';by_cases hg':∃x∈m1.R,f x.1=id';obtain⟨y,hy,rfl⟩:=hg';rw[(lq y hy).1]at h';cases h';obtain⟨k3,k4⟩:=effM_ψ (M:=M) (M1:=M1) hy hf.jf;have k:0<M1.κ y.1:=by rw[<-k4];exact k
 by_cases hg:∃x∈m1.H,g x.1=id;obtain⟨x,hx,rfl⟩:=hg;have hφ:M'.φ (g x.1)=M1.φ x.1:=effM_φ hx hf.ig;rw[hφ];simp only[M',k3];exact hs1.injx _ _ _ _ (he.ok1.h_at hx) rfl (he.ok1.q_at hy) o k;rw[(lhn hg).1]at h;rw[(lhn hg).2]at z;have hφ:M'.φ id=M.φ id:=effM_φn hg;rw[hφ];simp only[M',k3];exact λe=>nrw hy o k (by rw[<-e];exact inB h z hg)
 rw[(lqn hg').1]at h';obtain⟨k3,k4⟩:=effM_ψn (M:=M) (M1:=M1) hg';have k:0<M.κ id':=by rw[<-k4];exact k
 by_cases hg:∃x∈m1.H,g x.1=id;obtain⟨x,hx,rfl⟩:=hg;have hφ:M'.φ (g x.1)=M1.φ x.1:=effM_φ hx hf.ig;rw[hφ];simp only[M',k3];exact λe=>nbk hx (by rw[e];exact inR h' o k hg')
 rw[(lhn hg).1]at h;rw[(lhn hg).2]at z;have hφ:M'.φ id=M.φ id:=effM_φn hg;rw[hφ];simp only[M',k3];exact hs.injx _ _ _ _ h z h' o k;have hc:s.m.om b=Hs c:=hc;obtain⟨g1,g2,g3,g4⟩:=hs.rm b c hc;have hin:Zl8 B M s.m m0 f g b:= .inr (.inr (.inr (.inr (.inr ⟨c,hc⟩))));exact⟨g1,by rw[(hag b hin).2];exact g2,g3,g4.move hle (hbel.block b hin) rep_old live_old⟩;have h:m'.v id=Hs es:=h;by_cases hg:∃x∈m1.R,f x.1=id;obtain⟨x,hx,rfl⟩:=hg;rw[(lq x hx).2]at h;cases hv:m1.hp.v x.1 with
 |none=>rw[hv]at h;cases h
 |some es0=>
  rw[hv]at h;simp only[JY,Jm.injEq]at h;subst h;have hxv:=MemL.v_mem hv;obtain⟨k1,k2⟩:=effM_ψ (M:=M) (M1:=M1) hx hf.jf;obtain⟨sz,e,q1,r1,r2,r4⟩:=hs1.vc x.1 es0 hv;refine⟨sz,e,?_,λp hp=> ?_,λp hp i hi=> ?_,λc hc us t fz hus i j hi hj=> ?_⟩
  ·have:m1.hp.q x.1=Hs x.2:=he.ok1.q_at hx;have q1':m1.hp.q x.1=Hs (.vec es0.length sz e):=q1;rw[this]at q1';have hq2:m'.q (f x.1)=Hs x.2:=(lq x hx).1;rw[Jh];exact hq2.trans q1'
  ·obtain⟨p0,hp0,rfl⟩:=Je.1 hp;obtain⟨c1,c2⟩:=r1 p0 hp0;rw[U3];refine⟨by simpa using c1,?_⟩;rw[KX,Jv];rw[Jv]at c2;intro y hy;simpa[ZgM]using c2 y hy
  ·obtain⟨p0,hp0,rfl⟩:=Je.1 hp;rw[Fw]at hi;obtain⟨i0,hi0,rfl⟩:=Je.1 hi;exact Sz i0 (MemL.has_of (r2 p0 hp0 i0 hi0))
  ·have hc':M1.κ x.1=c+1:=by rw[<-k2];exact hc
   have hus':w'.heap[M1.ψ x.1]? = Hs (.cells ⟨us⟩ t fz):=by rw[<-k1];exact hus
   simp only[Jh]at hi;have hlen:=(r1 _ (Ze (d:= .any) hi)).1;have:=r4 c hc' us t fz hus' i j hi hj;rw[getD_lt (l:=es0.map _) (by simpa using hi),Jl,U3];rw[getD_lt hi]at hlen;rw[getD_lt (l:=es0) hi]at this;have hjl:j<es0[i].cells.length:=by omega
   rw[getD_lt (l:=es0[i].cells.map _) (by simpa using hjl),Jl];rw[getD_lt (l:=es0[i].cells) hjl]at this;exact rep_new _ _ this λk hk=>MemL.has_of (r2 _ (Jw hi) k (Yn (Jw hjl) hk))
 rw[(lqn hg).2]at h;obtain⟨k1,k2⟩:=effM_ψn (M:=M) (M1:=M1) hg;obtain⟨sz1,e1',q1⟩:=hs.vec_q h;refine(hs.vc id es h).move (λn sz e hq=> ?_) k2 k1 (λhk=>hbel.block _ (inR q1 rfl hk hg)) rep_old live_old;show m'.q id=_;rw[(lqn hg).1];exact hq;rw[Fw]at hi;obtain⟨i0,hi0,rfl⟩:=Je.1 hi;exact Sz i0 (he.cr i0 hi0)
end
open Go.RowKit
section
variable {P:Program} {B:Frm} {S:Stable} {M:Maps} {s:St} {a:Act} {w:World}
theorem Sim.reOm (hs:Sim B S M s a w) {om':Nat->Option MapC} (h:∀b c,om' b=Hs c-> ¬B b/\S.m b=Hn/\s.m.o b=Hn/\MapAtR S M s.m w b c):Sim B S M (s.with { s.m with om:=om' }) a w:=by
 have live:∀i,Live s.m i->Live { s.m with om:=om' } i:=λi h=>by cases i<;>exact h
 refine⟨hs.defers,hs.hn,hs.hB,hs.stable,hs.fr,λi k hk=>live k (hs.ids i k hk),λi cs hi=> ?_,hs.row,hs.inj,hs.injq,hs.injx,λb c hc=> ?_,λi es he=> ?_,⟨hs.pn.h,hs.pn.q⟩,hs.hz⟩;have h':=hs.blk i cs hi;show SZ _ _ _ _ _ _ _ (s.m.z i);cases hz:s.m.z i with
 |false=>
  rw[hz]at h';obtain⟨g1,g2,g3,g6⟩:=h';exact⟨g1,g2,g3,λc hc k hk=>live k (g6 c hc k hk)⟩
 |true=>rw[hz]at h';exact h'
 obtain⟨g1,g2,g3,g4⟩:=h b c hc;exact⟨g1,g2,g3,g4.move (JH _) rfl (λv p r _=>r) live⟩;exact(hs.vc i es he).move (λ_ _ _ h=>h) rfl rfl (λ_=>rfl) (λv p r _=>r) live
theorem Sim.setOm (hs:Sim B S M s a w) {b:Nat} {c c':MapC} {es':List MapEntry} (hb:s.m.om b=Hs c) (g1:es'.length=c'.ks.length) (g2:c'.vs.length=c'.ks.length) (g3:∀i,i<c'.ks.length->(es'.getD i Jd).born=i)
  (g4:∀i,i<c'.ks.length->Rep S (es'.getD i Jd).key (c'.ks.getD i .any)) (g5:∀i,i<c'.ks.length->RepS S M s.m.q (es'.getD i Jd).val (c'.vs.getD i .any)) (lv:∀p∈c'.vs,∀i∈p.ids,Live s.m i):
  Sim B S M (s.with { s.m with om:=upd s.m.om b (Hs c') }) a { w with heap:=w.heap.setIfInBounds b (.map ⟨es'⟩ es'.length) }/\Ext B S S w { w with heap:=w.heap.setIfInBounds b (.map ⟨es'⟩ es'.length) }:=by
 obtain⟨o1,o2,o3,⟨es,e1,_⟩,_⟩:=hs.rm b c hb;have hnc:∀vs t f,w.heap[b]? ≠ Hs (.cells vs t f):=λvs t f h=>by rw[e1]at h;cases h
 obtain⟨w1,w2⟩:=ZdS (o':= .map ⟨es'⟩ es'.length) e1;have h1:=hs.reOm (om':=upd s.m.om b Hn) (λk d hd=>by
  by_cases e:b=k;subst e;rw[Za]at hd;cases hd;rw[Zg _ _ e]at hd;exact hs.rm k d hd)
 have h2:=h1.special (w':= { w with heap:=w.heap.setIfInBounds b (.map ⟨es'⟩ es'.length) }) (o':=s.m.o) (it':=s.m.it) hnc w2 (by simp) ⟨Ur hs.stable.s hnc o2 w2,λk d hd=>by
  obtain⟨q1,q2,q3⟩:=hs.stable.o k d hd;exact⟨q1,q2,q3.move (JH _) (w2 k (λe=>by subst e;rw[o3]at hd;cases hd))⟩,λk x hx=>by
  obtain⟨q1,q2⟩:=hs.stable.i k x hx;refine⟨q1,?_⟩;unfold IterAt at q2 ⊢;rw[w2 k (λe=>by subst e;have q3:=q2.1;rw[e1]at q3;cases q3)];exact q2⟩ (λk d hd=>by
  have hd:upd s.m.om b Hn k=Hs d:=hd;by_cases e:b=k;subst e;rw[Za]at hd;cases hd;rw[Zg _ _ e]at hd;exact⟨Jz e,(hs.rm k d hd).2.2.1⟩)
 have h3:=h2.reOm (om':=upd s.m.om b (Hs c')) (λk d hd=>by
  by_cases e:b=k;subst e;rw[Za]at hd;cases hd;exact⟨o1,o2,o3,⟨es',w1,g1,g2,g3,g4,g5⟩,lv⟩;rw[Zg _ _ e]at hd;exact h2.rm k d (by show upd s.m.om b Hn k=_;rw[Zg _ _ e];exact hd))
 exact⟨h3,JH _,λ_ _=>⟨λ_=>rfl,rfl⟩,⟨rfl,rfl,rfl,by simp,λk hk=>w2 k (λe=>o1 (e▸hk))⟩⟩
theorem Sim.oToOm (hs:Sim B S M s a w) {b:Nat} {c:MapC} (hb:s.m.o b=Hs c):Sim B S M (s.with { s.m with o:=upd s.m.o b Hn,om:=upd s.m.om b (Hs c) }) a w:=by
 obtain⟨o1,o2,es,e1,e2,e3,e4,e5,e6⟩:=hs.stable.o b c hb;have hnc:∀vs t f,w.heap[b]? ≠ Hs (.cells vs t f):=λvs t f h=>by rw[e1]at h;cases h
 have h1:=hs.special (w':=w) (o':=upd s.m.o b Hn) (it':=s.m.it) hnc (λ_ _=>rfl) rfl ⟨hs.stable.s,λk d hd=>by
  by_cases e:b=k;subst e;rw[Za]at hd;cases hd;rw[Zg _ _ e]at hd;exact hs.stable.o k d hd,hs.stable.i⟩ (λk d hk=>hs.om_ne hk hb)
 exact h1.reOm (om':=upd s.m.om b (Hs c)) (λk d hd=>by
  by_cases e:b=k;subst e;rw[Za]at hd;cases hd;refine⟨o1,o2,Za _ _ _,⟨es,e1,e2,e3,e4,e5,λi hi=> .clean (e6 i hi)⟩,λp hp i hi=> ?_⟩;obtain⟨j,hj,rfl⟩:=Jg hp;have:=e6 j (by omega);rw[getD_lt hj]at this;exact absurd hi (this.clean_ids i);rw[Zg _ _ e]at hd;exact h1.rm k d hd)
theorem Sim.omToO (hs:Sim B S M s a w) {b:Nat} {c:MapC} (hb:s.m.om b=Hs c) (hc:∀p∈c.vs,p.clean=Ht):Sim B S M (s.with { s.m with o:=upd s.m.o b (Hs ⟨c.ks,c.vs.map Kd⟩),om:=upd s.m.om b Hn }) a w:=by
 obtain⟨o1,o2,o3,⟨es,e1,e2,e3,e4,e5,e6⟩,lv⟩:=hs.rm b c hb;have hnc:∀vs t f,w.heap[b]? ≠ Hs (.cells vs t f):=λvs t f h=>by rw[e1]at h;cases h
 have h1:=hs.reOm (om':=upd s.m.om b Hn) (λk d hd=>by
  by_cases e:b=k;subst e;rw[Za]at hd;cases hd;rw[Zg _ _ e]at hd;exact hs.rm k d hd)
 exact h1.special (w':=w) (o':=upd s.m.o b (Hs ⟨c.ks,c.vs.map Kd⟩)) (it':=s.m.it) hnc (λ_ _=>rfl) rfl ⟨hs.stable.s,λk d hd=>by
  by_cases e:b=k;subst e;rw[Za]at hd;cases hd;refine⟨o1,o2,es,e1,e2,by simpa using e3,e4,e5,λi hi=> ?_⟩;have hi':i<c.vs.length:=by rw[e3];exact hi
  have:=(e6 i hi).share (hc _ (Ze hi'));rw[getD_lt (l:=c.vs.map Kd) (by simpa using hi'),Jl];rwa[getD_lt hi']at this;rw[Zg _ _ e]at hd;exact hs.stable.o k d hd,hs.stable.i⟩ (λk d hd=>by
  have hd:upd s.m.om b Hn k=Hs d:=hd;by_cases e:b=k;subst e;rw[Za]at hd;cases hd;rw[Zg _ _ e]at hd;exact⟨Jz e,by rw[Zg _ _ e];exact(hs.rm k d hd).2.2.1⟩)
def Zpy (z:PV) (c:MapC):Option Nat->PV
 |some j=> .tup [c.vs.getD j .any,.int .i64 (j:Int)]
 |none=> .tup [z,.int .i64 (c.ks.length:Int)]
def Zr2 (z:PV) (cs:List PV) (c:MapC):Option Nat->MapC
 |some _=>c
 |none=>⟨c.ks++ [.agg (JQ cs)],c.vs++ [z]⟩
theorem ZmE (hs:Sim B S M s a w) {t:TypeId} {b:Nat} {c:MapC} {ls:List Leaf} {z:PV} {v:Value} {cs:List PV} {r:Option Nat} (hb:s.m.om b=Hs c) (h1:Zm8 P t=Hs (ls,z)) (hv:RepS S M s.m.q v (.agg cs)) (hf:findP ls cs c.ks 0=Hs r) (hlen:cs.length=ls.length) (hc1:Kf cs=Ht):
  ∃u w',(J2 t (.map (Hs b)) v).run P w= .ok u w'/\Sim B S M (s.with { s.m with om:=upd s.m.om b (Hs (Zr2 z cs c r)) }) a w'/\RepS S M s.m.q u (Zpy z c r)/\Ext B S S w w'/\ ∀i∈(Zpy z c r).ids,Live s.m i:=by
 obtain⟨kt,et,fs,i,zv,t1,t2,t3,t4,t5,rfl,t6⟩:=SW h1;obtain⟨o1,o2,o3,⟨es,e1,e2,e3,e4,e5,e6⟩,lv⟩:=hs.rm b c hb;obtain⟨vs,rfl,hl,hrv⟩:=hv.agg_inv;have ht:Z2 P kt=true:=by simp[Z2,t2]
 have hg:=MapKept.run_getObj_map (P:=P) e1;have hck:(Ji Hf 10000 kt (.agg ⟨vs⟩)).run P w= .ok () w:=WH (vs:=vs) t2 (λf hf=>by rw[hl,hlen];exact t6 f hf) Hf 9997 w;obtain⟨f1,f2⟩:=DW (S:=S) (M:=M) (q:=s.m.q) t3 ht ⟨hl,hrv⟩ w es c.ks 0 _ e2 e5 hf;cases r with
 |some j=>
  obtain⟨_,g2,ds,g3,g4⟩:=f2 j rfl;have hj:j<c.ks.length:=by omega
  rw[Kl]at g3;have hkj:=e5 j hj;rw[g3]at hkj;obtain⟨us,hus,hul,hru⟩:=(Kx (S:=S) (M:=M) (q:=s.m.q) hkj).agg_inv;obtain⟨hsame,hbits⟩:=Uf g4 ⟨hl,hrv⟩ ⟨hul,hru⟩;subst hsame;have hjl:j<es.length:=by omega
  have hkey:(es.getD j Jd).key= .agg ⟨vs⟩:=hus;have hsb:JD 10000 (.agg ⟨vs⟩) (.agg ⟨vs⟩)=true:=by
   simp only[JD,BEq.rfl,KN];rw[Jv]
   rintro ⟨p,q⟩ hpq
   rw[Kv]at hpq;simp only at hpq ⊢;obtain⟨n,hn,hpn⟩:=Jg hpq;simp only[Kq]at hpn;cases hpn;exact hbits _ (Jw _) _
  have hfk:(J8 kt (.agg ⟨vs⟩) es).run P w= .ok (Hs (j,(es.getD j Jd).val)) w:=by
   rw[run_findKey_eq w (by rw[t2]) (.agg ⟨vs⟩) es];simpa using f1
  have hej:(⟨es⟩:Array MapEntry)[j]? = Hs (es.getD j Jd):=by
   rw[getD_lt hjl];simp[hjl]
  have hmod:(⟨es⟩:Array MapEntry).modify j (λe=> { e with key:= .agg ⟨vs⟩ })=⟨es⟩:=by
   apply KL;apply Ke;intro n;rw[J4,J5]
   by_cases e:j=n
   ·subst e;have hk2:(es[j]).key= .agg ⟨vs⟩:=by rw[getD_lt hjl]at hkey;exact hkey
    simp[hjl,<-hk2]
   ·simp[e]
  have hborn:=e4 j hj;have hrun:(J2 t (.map (Hs b)) (.agg ⟨vs⟩)).run P w= .ok (.tuple #[(es.getD j Jd).val,.int .i64 (j:Int)]) { w with heap:=w.heap.setIfInBounds b (.map ⟨es⟩ es.length) }:=by
   have hks:(JZ (.agg ⟨vs⟩) (.agg ⟨vs⟩)).run P w= .ok (.agg ⟨vs⟩) w:=by simp[JZ,hsb]
   simp only[J2,Jk,run_underlying t1,Jc,hg,hck,hfk,hej,JY,KE,hkey,hks,hmod,hborn,MapKept.run_setObj_map _ e1];simp[goInt]
  obtain⟨k1,k2⟩:=hs.setOm (c':=c) hb e2 e3 e4 e5 e6 lv;have hjv:j<c.vs.length:=by omega
  refine⟨_,_,hrun,k1,.tup [_,_] [_,_] rfl (λi hi=> ?_),k2,λi hi=> ?_⟩
  ·match i,hi with
   |0,_=>exact e6 j hj
   |1,_=>exact .clean (.int _ _)
  ·simp only[Zpy,Jb,Jr,JK]at hi;exact lv _ (Ze hjv) i hi
 |none=>
  have hfk:(J8 kt (.agg ⟨vs⟩) es).run P w= .ok Hn w:=by
   rw[run_findKey_eq w (by rw[t2]) (.agg ⟨vs⟩) es];simpa using f1
  have hz:(zeroValue et).run P w= .ok zv w:=by simp[zeroValue,T2 t4,t5]
  have hrun:(J2 t (.map (Hs b)) (.agg ⟨vs⟩)).run P w= .ok (.tuple #[zv,.int .i64 (es.length:Int)]) { w with heap:=w.heap.setIfInBounds b (.map ⟨es++ [{ key:= .agg ⟨vs⟩,val:=zv,born:=es.length }]⟩ (es.length+1)) }:=by
   simp only[J2,Jk,run_underlying t1,Jc,hg,hck,hfk,hz,KB,MapKept.run_setObj_map _ e1];simp[goInt]
  have hget:∀i,i<c.ks.length+1->(es++ [({ key:= .agg ⟨vs⟩,val:=zv,born:=es.length }:MapEntry)]).getD i Jd=if i<c.ks.length then es.getD i Jd else { key:= .agg ⟨vs⟩,val:=zv,born:=es.length }:=λi hi=>by
   by_cases e:i<c.ks.length
   ·rw[if_pos e,Zb (by omega)]
   ·rw[if_neg e,Zf (by omega)];have:i-es.length=0:=by omega
    simp[this]
  have hkc:Rep S (.agg ⟨vs⟩) (.agg (JQ cs)):=(K4 (S:=S) (M:=M) (q:=s.m.q) vs cs hl hrv).share hc1;obtain⟨k1,k2⟩:=hs.setOm (b:=b) (c:=c) (c':=⟨c.ks++ [.agg (JQ cs)],c.vs++ [Xp zv]⟩) (es':=es++ [{ key:= .agg ⟨vs⟩,val:=zv,born:=es.length }]) hb (by simp[e2]) (by simp[e3]) (λi hi=>by
    simp only[JI,JB,JJ]at hi;rw[hget i (by omega)];split
    ·rename_i e;exact e4 i e
    ·show es.length=i;omega) (λi hi=>by
    simp only[JI,JB,JJ]at hi;rw[hget i (by omega)];show Rep S _ ((c.ks++ [KT (JQ cs)]).getD i .any);split
    ·rename_i e;rw[Zb e];exact e5 i e
    ·rename_i e;rw[Zf (by omega)];have:i-c.ks.length=0:=by omega
     simpa[this]using hkc) (λi hi=>by
    simp only[JI,JB,JJ]at hi;rw[hget i (by omega)];show RepS S M s.m.q _ ((c.vs++ [Xp zv]).getD i .any);split
    ·rename_i e;rw[Zb (by omega)];exact e6 i e
    ·rename_i e;rw[Zf (by omega)];have:i-c.vs.length=0:=by omega
     simpa[this]using Kx (Ww S zv)) (λp hp i hi=>by
    rcases Jj.1 hp with hp|hp
    ·exact lv p hp i hi
    ·simp only[Jo]at hp;subst hp;rw[Ve]at hi;cases hi)
  refine⟨_,_,hrun,by simpa[Zr2]using k1,.tup [_,_] [_,_] rfl (λi hi=> ?_),by simpa using k2,λi hi=> ?_⟩
  ·match i,hi with
   |0,_=>exact .clean (Ww S zv)
   |1,_=>rw[<-e2];exact .clean (.int _ _)
  ·simp only[Zpy,Jb,Jr,JK,Ve]at hi;cases hi
theorem ZmF (hs:Sim B S M s a w) {t:TypeId} {b:Nat} {c:MapC} {v:Value} {p:PV} {k:Nat} (hb:s.m.om b=Hs c) (hv:RepS S M s.m.q v p) (hid:∀i∈p.ids,Live s.m i) (hk:k<c.ks.length):
  ∃w',(Kh t (.map (Hs b)) (.int .i64 (k:Int)) v).run P w= .ok () w'/\Sim B S M (s.with { s.m with om:=upd s.m.om b (Hs ⟨c.ks,c.vs.set k p⟩) }) a w'/\Ext B S S w w':=by
 obtain⟨o1,o2,o3,⟨es,e1,e2,e3,e4,e5,e6⟩,lv⟩:=hs.rm b c hb;have hg:=MapKept.run_getObj_map (P:=P) e1;have hkl:k<es.length:=by omega
 have hfind:(⟨es⟩:Array MapEntry).findIdx? (λe=>(e.born:Int)==(k:Int))=Hs k:=by
  rw[List.findIdx?_toArray,List.findIdx?_eq_some_iff_getElem];refine⟨hkl,?_,λj hj=> ?_⟩;have:=e4 k hk;rw[getD_lt hkl]at this;simp[this];have:=e4 j (by omega);rw[getD_lt (by omega)]at this;simp only[this,beq_iff_eq];omega
 have hmod:(⟨es⟩:Array MapEntry).modify k (λe=> { e with val:=v })=⟨es.set k { es.getD k Jd with val:=v }⟩:=by
  apply KL;apply Ke;intro n;rw[J4,J5];simp only[KA];by_cases e:k=n;subst e;simp[hkl,getD_lt hkl];simp[e]
 have hrun:(Kh t (.map (Hs b)) (.int .i64 (k:Int)) v).run P w= .ok () { w with heap:=w.heap.setIfInBounds b (.map ⟨es.set k { es.getD k Jd with val:=v }⟩ es.length) }:=by
  simp only[Kh,Jk,Jc,hg];have ha:(asInt (.int .i64 (k:Int))).run P w= .ok (k:Int) w:=by simp[asInt,asIntOf]
  simp only[ha,Jc,hfind,hmod];exact MapKept.run_setObj_map _ e1
 have hget:∀i,i<c.ks.length->(es.set k { es.getD k Jd with val:=v }).getD i Jd=if i=k then { es.getD k Jd with val:=v } else es.getD i Jd:=λi hi=>by
  rw[getD_lt (by simp;omega),J7];by_cases e:k=i;subst e;simp;rw[if_neg e,if_neg (Jz e)];exact(getD_lt (by omega)).symm
 obtain⟨k1,k2⟩:=hs.setOm (b:=b) (c:=c) (c':=⟨c.ks,c.vs.set k p⟩) (es':=es.set k { es.getD k Jd with val:=v }) hb (by simpa using e2) (by simp[e3]) (λi hi=>by
  rw[hget i hi];split;rename_i e;subst e;exact e4 i hi;exact e4 i hi) (λi hi=>by
  rw[hget i hi];split;rename_i e;subst e;exact e5 i hi;exact e5 i hi) (λi hi=>by
  rw[hget i hi];have hi:i<c.ks.length:=hi;have hgv:(c.vs.set k p).getD i .any=if i=k then p else c.vs.getD i .any:=by
   rw[getD_lt (by simp;omega),J7];by_cases e:k=i;subst e;simp;rw[if_neg e,if_neg (Jz e)];exact(getD_lt (by omega)).symm
  show RepS S M s.m.q _ ((c.vs.set k p).getD i .any);rw[hgv];split;exact hv;exact e6 i hi) (λx hx i hi=>by
  rcases JU hx with hx|rfl;exact lv x hx i hi;exact hid i hi)
 rw[List.length_set]at k1 k2;exact⟨_,hrun,k1,k2⟩
end
open Go.RowKit
mutual
def PV.nomap:PV->Bool
 | .rmap _ _=>Hf
 | .sl _ es=>PV.nomapL es
 | .rptr cs=>PV.nomapL cs
 | .agg cs=>PV.nomapL cs
 | .tup cs=>PV.nomapL cs
 | .fn _ cs=>PV.nomapL cs
 |_=>Ht
def PV.nomapL:List PV->Bool
 | []=>Ht
 |c::cs=>PV.nomap c&&PV.nomapL cs
end
mutual
def PV.shut (o:Nat->Option MapC):PV->PV
 | .mref b=>match o b with
  |some c=> .rmap c.ks c.vs
  |none=> .mref b
 | .rptr cs=> .rptr (PV.sealL o cs)
 | .agg cs=> .agg (PV.sealL o cs)
 | .tup cs=> .tup (PV.sealL o cs)
 | .fn f cs=> .fn f (PV.sealL o cs)
 |p=>p
def PV.sealL (o:Nat->Option MapC):List PV->List PV
 | []=> []
 |c::cs=>PV.shut o c::PV.sealL o cs
end
theorem Gw:∀ {cs:List PV},PV.nomapL cs=Ht↔ ∀c∈cs,c.nomap=Ht
 | []=>by simp[PV.nomapL]
 |c::cs=>by simp[PV.nomapL,Gw (cs:=cs)]
theorem We {cs:List PV} (h:PV.nomapL cs=Ht) (i:Nat):(cs.getD i .any).nomap=true:=by
 by_cases hi:i<cs.length;exact Gw.1 h _ (Ze hi);rw[Vb (by omega)];rfl
theorem Zfo {p:PV} (h:p.nomap=Ht) (j:Nat):(p.cells.getD j .any).nomap=true:=by
 cases p with
 |agg cs=>exact We (cs:=cs) (by simpa[PV.nomap]using h) j
 |_=>
  simp only[J9];cases j with
  |zero=>simpa using h
  |succ j=>simp[PV.nomap]
theorem Z9 (o:Nat->Option MapC):∀(cs:List PV),(PV.sealL o cs).length=cs.length
 | []=>rfl
 |c::cs=>by simp[PV.sealL,Z9 o cs]
theorem WW (o:Nat->Option MapC):∀(cs:List PV) (i:Nat),i<cs.length->(PV.sealL o cs).getD i .any=(cs.getD i .any).shut o
 | [],i,h=>by simp at h
 |c::cs,0,_=>by simp[PV.sealL]
 |c::cs,i+1,h=>by simpa[PV.sealL]using WW o cs i (by simpa using h)
theorem Rep.cells_only {S S':Stable} (h:S'.c=S.c) (hz:S'.z=S.z) (hy:∀b,S.y b->S'.y b) {v:Value} {p:PV} (r:Rep S v p) (hn:p.nomap=Ht):Rep S' v p:=by
 induction r with
 |any v=>exact .any v
 |int k n=>exact .int k n
 |bool b=>exact .bool b
 |str l=>exact .str l
 |flt k b=>exact .flt k b
 |cpx k a b=>exact .cpx k a b
 |agg vs cs hl _ ih=>exact .agg vs cs hl (λi hi=>ih i hi (We hn i))
 |tup vs cs hl _ ih=>exact .tup vs cs hl (λi hi=>ih i hi (We hn i))
 |sl0 a cap=>exact .sl0 a cap
 |slnil=>exact .slnil
 |sl b o cap sz es vals hsz hcap hS _ ih=>exact .sl b o cap sz es vals hsz hcap (λi j hi hj=>by rw[h];exact hS i j hi hj) (λi j hi hj=>ih i j hi hj (Zfo (We hn i) j))
 |slf v es _ hz' ih=>exact .slf v es (ih hn) λb o n c e hn=>⟨by rw[hz];exact(hz' b o n c e hn).1,hy _ (hz' b o n c e hn).2⟩
 |rptr b o cs vals hS _ ih=>exact .rptr b o cs vals (λj hj=>by rw[h];exact hS j hj) (λj hj=>ih j hj (We hn j))
 |nilp=>exact .nilp
 |nilfn=>exact .nilfn
 |nilmap=>exact .nilmap
 |mref b=>exact .mref b
 |iptr b=>exact .iptr b
 |rmap b es ks vs hS hk hv hb _ _ ihK ihV=>simp[PV.nomap]at hn
 |fn f vs cs hl _ ih=>exact .fn f vs cs hl (λi hi=>ih i hi (We hn i))
def SO (S:Stable) (w:World) (o:Nat->Option MapC):Stable:=
 ⟨S.c,λb=>match o b with
  |some _=>(match w.heap[b]? with|some (.map es _)=>Hs es.toList|_=>Hn)
  |none=>S.m b,S.z,S.y⟩
section
variable {P:Program} {B:Frm} {S:Stable} {M:Maps} {s:St} {a:Act} {w:World} {o:Nat->Option MapC} {it:Nat->Option IterC}
theorem ZgP (hs:Stab B S w o it) {b:Nat} {c:MapC} (h:o b=Hs c):∃es,(SO S w o).m b=Hs es/\w.heap[b]? = Hs (.map ⟨es⟩ es.length)/\es.length=c.ks.length/\c.vs.length=c.ks.length/\(∀i,i<c.ks.length->(es.getD i Jd).born=i)/\
  (∀i,i<c.ks.length->Rep S (es.getD i Jd).key (c.ks.getD i .any))/\(∀i,i<c.ks.length->Rep S (es.getD i Jd).val (c.vs.getD i .any)):=by
 obtain⟨_,_,es,h1,h2⟩:=hs.o b c h;exact⟨es,by simp[SO,h,h1],h1,h2⟩
theorem Zb4 (hs:Stab B S w o it):SLe S (SO S w o):=by
 refine⟨λ_ _ _ h=>h,λb es h=> ?_,rfl,λ_ h=>h⟩;cases ho:o b with
 |some c=>rw[(hs.o b c ho).2.1]at h;cases h
 |none=>simpa[SO,ho]using h
theorem GG (hs:Stab B S w o it):StabS (SO S w o) w:=by
 refine⟨hs.s.c,λb es h=> ?_,hs.s.y⟩;cases ho:o b with
 |some c=>
  obtain⟨es',h1,h2,_⟩:=ZgP hs ho;rw[h1]at h;cases h;exact h2
 |none=>simp[SO,ho]at h;exact hs.s.m b es h
theorem Rep.shut (hs:Stab B S w o it) {v:Value} {p:PV} (r:Rep S v p):Rep (SO S w o) v (p.shut o):=by
 have hle:=Zb4 hs;induction r with
 |agg vs cs hl _ ih=>exact .agg vs _ (by rw[Z9];exact hl) (λi hi=>by rw[Z9]at hi;rw[WW o cs i hi];exact ih i hi)
 |tup vs cs hl _ ih=>exact .tup vs _ (by rw[Z9];exact hl) (λi hi=>by rw[Z9]at hi;rw[WW o cs i hi];exact ih i hi)
 |fn f vs cs hl _ ih=>exact .fn f vs _ (by rw[Z9];exact hl) (λi hi=>by rw[Z9]at hi;rw[WW o cs i hi];exact ih i hi)
 |any v=>exact .any v
 |int k n=>exact .int k n
 |bool b=>exact .bool b
 |str l=>exact .str l
 |flt k b=>exact .flt k b
 |cpx k a b=>exact .cpx k a b
 |sl0 a cap=>exact .sl0 a cap
 |slnil=>exact .slnil
 |sl b o' cap sz es vals h1 h2 h3 h4 _=>exact(Rep.sl b o' cap sz es vals h1 h2 h3 h4).mono hle
 |slf v es r hz _=>exact(Rep.slf v es r hz).mono hle
 |rptr b o' cs vals h1 h2 ih=>
  refine .rptr b o' _ vals (λj hj=> ?_) (λj hj=> ?_);rw[Z9]at hj;exact h1 j hj;rw[Z9]at hj;rw[WW o cs j hj];exact ih j hj
 |nilp=>exact .nilp
 |nilfn=>exact .nilfn
 |nilmap=>exact .nilmap
 |iptr b=>exact .iptr b
 |mref b=>
  unfold PV.shut;cases ho:o b with
  |none=>exact .mref b
  |some c=>
   obtain⟨es,h1,h2,h3,h4,h5,h6,h7⟩:=ZgP hs ho;exact .rmap b es c.ks c.vs h1 h3 h4 h5 (λi hi=>(h6 i hi).mono hle) (λi hi=>(h7 i hi).mono hle)
 |rmap b es ks vs h1 h2 h3 h4 h5 h6 _ _=>exact(Rep.rmap b es ks vs h1 h2 h3 h4 h5 h6).mono hle
end
def Wr (P:Program) (f:FuncId) (args:Nat->List PV) (c:MapC) (r:PV) (c':MapC):Prop:=
 Vw P f/\r.dids= []/\ ∀(b:Nat) (w:World) (S:Stable) (vs:List Value),StabS S w->ZiS S w->S.z b->S.m b=Hn->MapAt S w b c->vs.length=(args b).length->(∀i,i<(args b).length->Rep S (vs.getD i undef) ((args b).getD i .any))->
  Calls P f ⟨vs⟩ w λe w'=>∃v S',e= .returned v/\Rep S' v r/\StabS S' w'/\SLe S S'/\(∀k,k<w.heap.size->k≠b->(∀o,S' k o=S k o)/\S'.m k=S.m k)/\S'.m b=Hn/\MapAt S' w' b c'/\BelowF (λk=>k<w.heap.size/\k≠b) w w'
def Mk (P:Program) (f:FuncId) (args:List PV) (r:Nat->PV) (c:MapC):Prop:=
 Vw P f/\(∀b,(r b).dids= [])/\ ∀(w:World) (S:Stable) (vs:List Value),StabS S w->ZiS S w->vs.length=args.length->(∀i,i<args.length->Rep S (vs.getD i undef) (args.getD i .any))->
  Calls P f ⟨vs⟩ w λe w'=>∃v S' b,e= .returned v/\w.heap.size<=b/\Rep S' v (r b)/\StabS S' w'/\SLe S S'/\(∀k,k<w.heap.size->(∀o,S' k o=S k o)/\S'.m k=S.m k)/\S'.m b=Hn/\MapAt S' w' b c/\Below w.heap.size w w'
def Xt (P:Program) (f:FuncId) (args:List PV) (r:PV):Prop:=
 ∀(w:World) (S:Stable) (vs:List Value),vs.length=args.length->(∀i,i<args.length->Rep S (vs.getD i undef) (args.getD i .any))-> ∃v,Rep S v r/\(callFunc f ⟨vs⟩).run P w= .ok (.value v) w
def Rw (P:Program) (f:FuncId) (args:List PV) (r:Nat->PV) (n sz:Nat) (e:TypeId):Prop:=
 Vw P f/\(∀d,∀i∈(r d).ids,i= .r d)/\ ∀(w:World) (S:Stable) (vs:List Value),StabS S w->ZiS S w->vs.length=args.length->(∀i,i<args.length->Rep S (vs.getD i undef) (args.getD i .any))->
  Calls P f ⟨vs⟩ w λen w'=>∃v S' κ ψ,en= .returned v/\(∀(d:Nat) (M:Maps) (q:Rows),M.κ d=κ->M.ψ d=ψ->q d=Hs (.live n sz e)->RepS S' M q v (r d))/\
   Zbr (λk=>k<w.heap.size) S' ⟨id,λ_=>ψ,λ_=>κ⟩ w' 0 (.live n sz e)/\StabS S' w'/\SLe S S'/\(∀k,k<w.heap.size->(∀o,S' k o=S k o)/\S'.m k=S.m k)/\Below w.heap.size w w'
def Zp5 (P:Program) (g:FuncId) (args:List PV) (m:Hp) (K:PV->Hp->Prop):Prop:=
 (∃r,Pure P g (PV.sealL m.o args) r/\r.nomap=Ht/\K r m)\/
 (∃b c A r c',m.o b=Hs c/\args=A b/\Wr P g A c r c'/\K r { m with o:=upd m.o b (Hs c') })\/
 (∃r c,Mk P g args r c/\ ∀b,m.o b=Hn->K (r b) { m with o:=upd m.o b (Hs c) })\/
 (∃r,Xt P g args r/\K r m)\/
 (∃r n sz e d,Rw P g args r n sz e/\m.q d=Hn/\K (r d) (m.setq d (.live n sz e)))
def Zp4 (P:Program) (g:FuncId) (args:List PV) (m:Hp) (K:PV->Hp->Prop):Prop:=
 ∃args0 m0 r m1 f' g',Eff P g args0 m0 r m1/\FitsM m0 m1 f' g' m/\args=args0.map (PV.ren f' g')/\K (r.ren f' g') (Zcv m1 f' g' m)
def ZnD:List PV->Bool
 | .vsl _ _ _::_=>Ht
 |_=>Hf
def vmB (dst:Option Nat) (m:Hp):Bool:=
 match dst with
 |some d=>m.vm d
 |none=>Hf
def Znf (x y:PV) (d:Nat) (ei:EInfo) (ys:List PV) (m:Hp) (K:PV->Hp->Prop):Prop:=
 match x with
 | .vsl id n sz=>match m.v id with
  |some es=>es.length=n/\sz=ei.size/\m.q id=Hs (.vec n sz ei.e)/\(d=id\/m.q d=Hn)/\Zbm y m ys ei.size [id,d]/\(∀p∈es++ys,.r id∉p.ids)/\Zhj (n+ys.length) ei.bytes/\
    K (.vsl d (n+ys.length) sz) (ZlO m id d (n+ys.length) sz ei.e (es++ys))
  |none=>False
 | .sl .nil []=>m.q d=Hn/\Zbm y m ys ei.size [d]/\(∀p∈ys,.r d∉p.ids)/\Zhj ys.length ei.bytes/\K (.vsl d ys.length ei.size) { m.setq d (.vec ys.length ei.size ei.e)with v:=upd m.v d (Hs ys) }
 |_=>False
def ZrK (P:Program) (dst:Option Nat) (ts:List TypeId) (xs:List PV) (m:Hp) (K:PV->Hp->Prop):Prop:=
 match dst,ts,xs with
 |some d,[t,tx],[x,y]=>match X2 P t,W5 P tx y m with
  |some ei,Hs ys=>(∀p∈ys,p.cells.length=ei.size/\p.cells.all KQ=Ht)/\Znf x y d ei ys m K
  |_,_=>False
 |_,_,_=>False
def ZrL (P:Program) (dst:Option Nat) (t:TypeId) (len:Nat) (parts:List (Nat×PV)) (m:Hp) (K:PV->Hp->Prop):Prop:=
 match dst,X2 P t with
 |some d,Hs ei=>m.q d=Hn/\len=parts.length/\len*ei.size<=16777216/\ZdD ei.size d 0 parts/\K (.vsl d len ei.size) { m.setq d (.vec len ei.size ei.e)with v:=upd m.v d (Hs (parts.map (·.2))) }
 |_,_=>False
def ZdM (x:PV) (m:Hp) (K:PV->Hp->Prop):Prop:=
 match x with
 | .mref b=>match m.o b with
  |some c=>∀ib,m.it ib=Hn->K (.iptr ib) { m with it:=upd m.it ib (Hs ⟨b,c.ks.length,[],Hn⟩) }
  |none=>False
 | .rmap ks vs=>∀ib b,m.it ib=Hn->K (.iptr ib) { m with it:=upd m.it ib (Hs ⟨b,ks.length,[],Hs ⟨ks,vs⟩⟩) }
 |_=>False
def Zj3 (x:PV) (m:Hp) (K:PV->Hp->Prop):Prop:=
 match x with
 | .iptr ib=>match m.it ib with
  |some it=>match mapIt m it with
   |some c=>c.ks.length=it.n/\((∀i,i<it.n->i∈it.seen)->K (.tup [.bool Hf]) m)/\
     ∀i,i<it.n->i∉it.seen->K (.tup [.bool Ht,c.ks.getD i .any,c.vs.getD i .any]) { m with it:=upd m.it ib (Hs ⟨it.b,it.n,it.seen++ [i],it.c⟩) }
   |none=>False
  |none=>False
 |_=>False
def Zot (m:Hp) (K:PV->Hp->Prop):Prop:=∀b,m.o b=Hn->K (.mref b) { m with o:=upd m.o b (Hs ⟨[],[]⟩) }
def Zc5 (P:Program) (t:TypeId) (x k:PV) (m:Hp) (K:PV->Hp->Prop):Prop:=
 match x,Zm8 P t,k with
 | .mref b,Hs (ls,z),.agg cs=>match m.om b with
  |some c=>match findP ls cs c.ks 0 with
   |some r=>cs.length=ls.length/\Kf cs=Ht/\K (Zpy z c r) { m with om:=upd m.om b (Hs (Zr2 z cs c r)) }
   |none=>False
  |none=>False
 |_,_,_=>False
def Zd4 (x st v:PV) (m:Hp) (K:PV->Hp->Prop):Prop:=
 match x,st with
 | .mref b,.int .i64 k=>match m.om b with
  |some c=>0<=k/\k.toNat<c.ks.length/\K (.tup []) { m with om:=upd m.om b (Hs ⟨c.ks,c.vs.set k.toNat v⟩) }
  |none=>False
 |_,_=>False
def Zf5:PV->Bool
 | .sl .no es=>es.isEmpty
 |_=>Hf
def Zcy (P:Program) (o:Oper) (s:St) (K:St->Prop):Prop:=
 match o.op with
 | .call c=>match ZV s.eval c with
  |some (g,args)=>(Jq s.m args/\Zp5 P g (Ju s.m args) s.m λr m=>K ((s.with m).put o.dst r))\/Zp4 P g (Ju s.m args) s.m λr m=>K ((s.with m).put o.dst r)
  |none=>match c.callee with
   | .builtin .append=>ZrK P o.dst c.argTypes.toList (c.args.toList.map s.eval) s.m λr m=>K ((s.with m).put o.dst r)
   |_=>False
 | .buildSlice t len parts=>ZrL P o.dst t len (parts.toList.map λx=>(x.1,s.eval x.2)) s.m λr m=>K ((s.with m).put o.dst r)
 | .makeMap _ Hn=>Zot s.m λr m=>K ((s.with m).put o.dst r)
 | .mapEntry t x k=>Zc5 P t (s.eval x) (s.eval k) s.m λr m=>K ((s.with m).put o.dst r)
 | .entryStore t x st v=>o.dst=Hn/\Zd4 (s.eval x) (s.eval st) (s.eval v) s.m λr m=>K ((s.with m).put o.dst r)
 | .range t x=>ZfL P t=Ht/\ZdM (s.eval x) s.m λr m=>K ((s.with m).put o.dst r)
 | .next x Hf=>Zj3 (s.eval x) s.m λr m=>K ((s.with m).put o.dst r)
 | .binOp .eql t x (.const (.slice Hn 0 0)) _=>(Zes P t= .slc/\Zf5 (s.eval x)=Ht)/\ ∀b,K ((s.with s.m).put o.dst (.bool b))
 |_=>False
end Go.PL
namespace Go.PL
open Go.RowKit
section
variable {P:Program} {B:Frm} {S:Stable} {M:Maps} {s:St} {a:Act} {w:World}
theorem RepS.iptr_inv {v:Value} {qq:Rows} {b:Nat} (r:RepS S M qq v (.iptr b)):v= .pointer (Hs ⟨b,0,Hn⟩):=by
 cases r with|clean r=>cases r;rfl
theorem Sim.growX (hs:Sim B S M s a w) {b:Nat} (hb:∀vs t f,w.heap[b]? ≠ Hs (.cells vs t f)) {S':Stable} {w':World} (hle:SLe S S') (hag:∀k,k<w.heap.size->k≠b-> ∀o,S' k o=S k o)
  (hw:∀k,k<w.heap.size->k≠b->w'.heap[k]? = w.heap[k]?) (hsz:w.heap.size<=w'.heap.size) {o':Nat->Option MapC} {it':Nat->Option IterC} (hst:Stab B S' w' o' it') (hom:∀k d,s.m.om k=Hs d->k≠b/\o' k=Hn/\S'.m k=Hn):Sim B S' M (s.with { s.m with o:=o',it:=it' }) a w':=by
 have rep:∀ {v p},RepS S M s.m.q v p->RepS S' M s.m.q v p:=λr=>r.heap hle (λ_ _=>rfl) (λ_ _=> .refl _ _ _)
 have live:∀i,Live s.m i->Live { s.m with o:=o',it:=it' } i:=λi h=>by cases i<;>exact h
 refine⟨hs.defers,hs.hn,λk hk=>Kz (hs.hB k hk) hsz,hst,λi=>rep (hs.fr i),λi k hk=>live k (hs.ids i k hk),λid cs hc=> ?_,λid r hr=> ?_,hs.inj,hs.injq,hs.injx,λk d hk=> ?_,λi es he=> ?_,⟨hs.pn.h,hs.pn.q⟩,hs.zle hle⟩;have hb':=hs.blk id cs hc;show SZ _ _ _ _ _ _ _ (s.m.z id);cases hz:s.m.z id with
 |false=>
  rw[hz]at hb';have hlt:=hs.blk_lt hc hz;obtain⟨h1,h2,⟨vs,t,h3,h4,h5⟩,h6⟩:=hb';have hne:M.φ id≠b:=λe=>hb _ _ _ (e▸h3)
  exact⟨h1,λo=>by rw[hag _ hlt hne];exact h2 o,⟨vs,t,by rw[hw _ hlt hne];exact h3,h4,λj hj=>rep (h5 j hj)⟩,λc hc k hk=>live k (h6 c hc k hk)⟩
 |true=>
  rw[hz]at hb';obtain⟨vals,hv⟩:=hb';exact⟨vals,λj hj=>⟨hle _ _ _ (hv j hj).1,(hv j hj).2.mono hle⟩⟩
 have hr':=hs.row id r hr;cases r with
 |live n sz e=>
  obtain⟨h1,h2⟩:=hr';refine⟨h1,λc hk=> ?_⟩;have hlt:=hs.row_lt hr rfl (by omega);obtain⟨g0,g0',g1,⟨vs,g2,g3⟩,g4⟩:=h2 c hk;have hne:M.ψ id≠b:=λe=>hb _ _ _ (e▸g2)
  exact⟨g0,g0',g1,⟨vs,by rw[hw _ hlt hne];exact g2,g3⟩,λo ho=>by rw[hag _ hlt hne];exact g4 o ho⟩
 |vec n sz e=>
  obtain⟨h1,h2⟩:=hr';refine⟨h1,λc hk=> ?_⟩;have hlt:=hs.row_lt hr rfl (by omega);obtain⟨g0,g0',g1,⟨vs,g2,g3⟩,g4⟩:=h2 c hk;have hne:M.ψ id≠b:=λe=>hb _ _ _ (e▸g2)
  exact⟨g0,g0',g1,⟨vs,by rw[hw _ hlt hne];exact g2,g3⟩,λo=>by rw[hag _ hlt hne];exact g4 o⟩
 |dead=>trivial
 obtain⟨g1,g2,g3,g4⟩:=hs.rm k d hk;obtain⟨e1,e2,e3⟩:=hom k d hk;exact⟨g1,e3,e2,g4.move hle (hw k g4.lt e1) (λv p r _=>rep r) live⟩;refine(hs.vc i es he).move (λ_ _ _ h=>h) rfl rfl (λhk=>hw _ (hs.vec_lt he hk) λee=> ?_) (λv p r _=>rep r) live;obtain⟨sz,e,q1⟩:=hs.vec_q he;obtain⟨_,h2⟩:=hs.row i _ q1;obtain⟨_,_,_,⟨vs,k5,_⟩,_⟩:=h2 (M.κ i-1) (by omega);exact hb _ _ _ (ee▸k5)
theorem Tk (hs:Sim B S M s a w) {f:Operand} {cargs:List Operand} {ts:Array TypeId} {g:FuncId} {args:List PV} (hc:ZV s.eval ⟨.value f,⟨cargs⟩,ts⟩=Hs (g,args)) (hg:Jq s.m args) (hcal:Vw P g)
  {dst:Option Tmp} {ty:TypeId} {pos:String} {after:Array Edge} {guard:Option (Nat×Bool)}:
  ∃vs:List Value,vs.length=args.length/\(∀i,i<args.length->Rep S (vs.getD i undef) ((Ju s.m args).getD i .any))/\(execOp a.eval ⟨dst,.call ⟨.value f,⟨cargs⟩,ts⟩,ty,pos,after,guard⟩).run P w= .ok (.enter g ⟨vs⟩) w:=by
 unfold ZV at hc;simp only at hc;split at hc;rename_i g' caps hf;simp only[Jm.injEq,Ki.injEq]at hc;obtain⟨rfl,rfl⟩:=hc;have ef:=hs.eval f;rw[hf]at ef;obtain⟨vs,hv,hl,hr⟩:=ef.fn_inv;obtain⟨fn,c1,c2,c3⟩:=hcal;have hargs:∀i,i<(cargs.map s.eval++caps).length->RepS S M s.m.q ((cargs.map a.eval++vs).getD i undef) ((cargs.map s.eval++caps).getD i .any):=by
  intro i hi;by_cases h1:i<cargs.length;rw[Zb (by simpa using h1),Zb (by simpa using h1)];exact Tv (s:=s) hs.eval i (by simpa using h1);rw[Zf (by simp;omega),Zf (by simp;omega)];simp only[Jh];exact hr _ (by simp at hi;omega)
 refine⟨cargs.map a.eval++vs,by simp[hl],λi hi=> ?_,?_⟩;rw[JR _ _ i hi];exact(hargs i hi).give hs (Kg hg i hi);have hb:¬fn.body=none:=by intro h;simp[h]at c3
 simp[execOp,resolve,Deferred.ofValue,hv,invoke,callFunc,program,Km,c1,hb,c2];cases hc
theorem RepS.giveE (hs:Sim B S M s a w) {v:Value} {p:PV} (r:RepS S M s.m.q v p):RepS S M s.m.q v (p.give s.m):=by
 induction r with
 |clean r=>exact .clean (r.give s.m)
 |ptr id off=>
  cases hz:s.m.z id with
  |false=>simp only[Jy,hz];exact .ptr id off
  |true=>
   cases hh:s.m.h id with
   |none=>simp only[Jy,hz,hh];exact .ptr id off
   |some cs=>exact .clean ((RepS.ptr (S:=S) (M:=M) (q:=s.m.q) id off).give hs ⟨hz,by rw[hh];simp⟩)
 |osl id off len cap sz hc=>exact .osl id off len cap sz hc
 |row id v es r _=>exact .clean r
 |vsl id len sz v hv t=>exact .vsl id len sz v hv t
 |vptr id n sz i off v hv hi t=>exact .vptr id n sz i off v hv hi t
 |agg vs cs hl _ ih=>exact .agg vs _ (by rw[Jf];exact hl) (λi hi=>by rw[Jf]at hi;rw[JR s.m cs i hi];exact ih i hi)
 |tup vs cs hl _ ih=>exact .tup vs _ (by rw[Jf];exact hl) (λi hi=>by rw[Jf]at hi;rw[JR s.m cs i hi];exact ih i hi)
 |fn f vs cs hl _ ih=>exact .fn f vs _ (by rw[Jf];exact hl) (λi hi=>by rw[Jf]at hi;rw[JR s.m cs i hi];exact ih i hi)
theorem ZeT (hs:Sim B S M s a w) {f:Operand} {cargs:List Operand} {ts:Array TypeId} {g:FuncId} {args:List PV} (hc:ZV s.eval ⟨.value f,⟨cargs⟩,ts⟩=Hs (g,args)) (hcal:Vw P g)
  {dst:Option Tmp} {ty:TypeId} {pos:String} {after:Array Edge} {guard:Option (Nat×Bool)}:
  ∃vs:List Value,vs.length=args.length/\(∀i,i<args.length->RepS S M s.m.q (vs.getD i undef) ((Ju s.m args).getD i .any))/\(execOp a.eval ⟨dst,.call ⟨.value f,⟨cargs⟩,ts⟩,ty,pos,after,guard⟩).run P w= .ok (.enter g ⟨vs⟩) w:=by
 unfold ZV at hc;simp only at hc;split at hc;rename_i g' caps hf;simp only[Jm.injEq,Ki.injEq]at hc;obtain⟨rfl,rfl⟩:=hc;have ef:=hs.eval f;rw[hf]at ef;obtain⟨vs,hv,hl,hr⟩:=ef.fn_inv;obtain⟨fn,c1,c2,c3⟩:=hcal;have hargs:∀i,i<(cargs.map s.eval++caps).length->RepS S M s.m.q ((cargs.map a.eval++vs).getD i undef) ((cargs.map s.eval++caps).getD i .any):=by
  intro i hi;by_cases h1:i<cargs.length;rw[Zb (by simpa using h1),Zb (by simpa using h1)];exact Tv (s:=s) hs.eval i (by simpa using h1);rw[Zf (by simp;omega),Zf (by simp;omega)];simp only[Jh];exact hr _ (by simp at hi;omega)
 refine⟨cargs.map a.eval++vs,by simp[hl],λi hi=> ?_,?_⟩;rw[JR _ _ i hi];exact(hargs i hi).giveE hs;have hb:¬fn.body=none:=by intro h;simp[h]at c3
 simp[execOp,resolve,Deferred.ofValue,hv,invoke,callFunc,program,Km,c1,hb,c2];cases hc
theorem Stab.turn {S':Stable} {w':World} {o:Nat->Option MapC} {it:Nat->Option IterC} (hs:Stab B S w o it) {b:Nat} {c:MapC} (hle:SLe S S') (hst:StabS S' w') (hm:∀k,k<w.heap.size->k≠b->S'.m k=S.m k)
  (hw:∀k,k<w.heap.size->k≠b->w'.heap[k]? = w.heap[k]?) (hB:¬B b) (hb:S'.m b=Hn) (hc:MapAt S' w' b c) (hit:∀x,it b≠Hs x):Stab B S' w' (upd o b (Hs c)) it:=by
 refine⟨hst,λk d hd=> ?_,λk x hx=> ?_⟩;by_cases e:b=k;subst e;rw[Za]at hd;cases hd;exact⟨hB,hb,hc⟩;rw[Zg _ _ e]at hd;obtain⟨q1,q2,q3⟩:=hs.o k d hd;exact⟨q1,by rw[hm k q3.lt (Jz e)];exact q2,q3.move hle (hw k q3.lt (Jz e))⟩;obtain⟨q1,q2,q3⟩:=hs.i k x hx;refine⟨q1,?_,q3.mono hle⟩;have hlt:=q2.lt;unfold IterAt at q2 ⊢;rw[hw k hlt (λe=>by subst e;exact hit x hx)];exact q2
theorem Zmc (hs:Sim B S M s a w) {f:Operand} {cargs:List Operand} {ts:Array TypeId} {g:FuncId} {args:List PV} (hc:ZV s.eval ⟨.value f,⟨cargs⟩,ts⟩=Hs (g,args)) (hg:Jq s.m args)
  {dst:Option Tmp} {ty:TypeId} {pos:String} {after:Array Edge} {guard:Option (Nat×Bool)}:
  ∃vs:List Value,vs.length=args.length/\(∀i,i<args.length->Rep S (vs.getD i undef) ((Ju s.m args).getD i .any))/\(execOp a.eval ⟨dst,.call ⟨.value f,⟨cargs⟩,ts⟩,ty,pos,after,guard⟩).run P w=(callFunc g ⟨vs⟩).run P w:=by
 unfold ZV at hc;simp only at hc;split at hc;rename_i g' caps hf;simp only[Jm.injEq,Ki.injEq]at hc;obtain⟨rfl,rfl⟩:=hc;have ef:=hs.eval f;rw[hf]at ef;obtain⟨vs,hv,hl,hr⟩:=ef.fn_inv;have hargs:∀i,i<(cargs.map s.eval++caps).length->RepS S M s.m.q ((cargs.map a.eval++vs).getD i undef) ((cargs.map s.eval++caps).getD i .any):=by
  intro i hi;by_cases h1:i<cargs.length;rw[Zb (by simpa using h1),Zb (by simpa using h1)];exact Tv (s:=s) hs.eval i (by simpa using h1);rw[Zf (by simp;omega),Zf (by simp;omega)];simp only[Jh];exact hr _ (by simp at hi;omega)
 refine⟨cargs.map a.eval++vs,by simp[hl],λi hi=> ?_,?_⟩;rw[JR _ _ i hi];exact(hargs i hi).give hs (Kg hg i hi);simp[execOp,resolve,Deferred.ofValue,hv,invoke];cases hc
theorem Sim.addRow (hs:Sim B S M s a w) {d κ ψ n sz:Nat} {e:TypeId} (hd:s.m.q d=Hn) (hrow:Zbr B S ⟨id,λ_=>ψ,λ_=>κ⟩ w 0 (.live n sz e))
  (hnq:∀i r,s.m.q i=Hs r->r.own=Ht->0<M.κ i->0<κ->M.ψ i≠ψ) (hnh:∀i cs,s.m.h i=Hs cs->s.m.z i=Hf->0<κ->M.φ i≠ψ):
  Sim B S { M with ψ:=upd M.ψ d ψ,κ:=upd M.κ d κ } (s.with (s.m.setq d (.live n sz e))) a w:=
 hs.layRow (.inl hd) (by simpa only[Zbr,Za]using hrow) (hs.v_none λ_ _ _ h=>by rw[hd]at h;cases h) (λi r _ hi oi ki _ k=>hnq i r hi oi ki k) (λi cs hi zi _ k=>hnh i cs hi zi k)
theorem Sim.om_new (hs:Sim B S M s a w) {b:Nat} (hb:w.heap.size<=b) {S':Stable} (hS:∀k,k<w.heap.size->S'.m k=S.m k) {o':Nat->Option MapC} (ho:∀k,k≠b->o' k=s.m.o k) (k:Nat) (d:MapC) (h:s.m.om k=Hs d):k≠b/\o' k=Hn/\S'.m k=none:=by
 obtain⟨g1,g2,g3,g4⟩:=hs.rm k d h;have hlt:=g4.lt;have hne:k≠b:=by omega
 exact⟨hne,by rw[ho k hne];exact g3,by rw[hS k hlt];exact g2⟩
theorem Zbd (hs:Sim B S M s a w) {o:Oper} {K:St->Prop} (hd:∀x,o.dst=Hs x->x<s.n) (h:Zcy P o s K) (next:Act->World->Prop) (Q:Exit->Act->World->Prop)
  (hn:∀s' v w' S' M',K s'->Sim B S' M' s' (a.put o.dst v) w'->Ext B S S' w w'->next (a.put o.dst v) w'):o.wp P a w next Q:=by
 obtain⟨dst,op,ty,pos,after,guard⟩:=o;unfold Zcy at h;simp only at h hd hn ⊢;cases op with
 |call c=>
  obtain⟨callee,cargs,ts⟩:=c;obtain⟨cargs⟩:=cargs;cases callee with
  |value f=>
   simp only at h;cases hc:ZV s.eval ⟨.value f,⟨cargs⟩,ts⟩with
   |none=>rw[hc]at h;exact h.elim
   |some ga=>
    obtain⟨g,args⟩:=ga;rw[hc]at h;unfold Oper.wp;rcases h with ⟨hg,hx⟩|⟨args0,m0,r,m1,f',g',heff,hfit,hargs,hk⟩
    rotate_left
    ·obtain⟨vs,hl,hrep,hrun⟩:=ZeT (dst:=dst) (ty:=ty) (pos:=pos) (after:=after) (guard:=guard) hs hc heff.cal;rw[hrun];show Calls P g ⟨vs⟩ w _;have hlen:args.length=args0.length:=by rw[<-Jf s.m args,hargs];simp
     refine(heff.call hs hfit (vs:=vs) (by omega) (λi hi=> ?_)).mono λen w' hq=> ?_
     ·have:=hrep i (by omega);rw[hargs,getD_lt (l:=args0.map _) (by simpa using hi),Jl]at this;rw[getD_lt hi];exact this
     ·obtain⟨v,S',M',rfl,h2,h3,h4,h5⟩:=hq;exact hn _ v w' S' M' hk (h2.put hd h3 h4) h5
    rcases hx with ⟨r,⟨hcal,_,hcalls⟩,hno,hk⟩|⟨b,c,A,r,c',hob,hA,⟨hcal,_,hcalls⟩,hk⟩|⟨r,c,⟨hcal,_,hcalls⟩,hk⟩|⟨r,hxt,hk⟩|⟨r,n,sz,e,d,⟨hcal,hri,hcalls⟩,hqd,hk⟩
    ·obtain⟨vs,hl,hrep,hrun⟩:=Tk (dst:=dst) (ty:=ty) (pos:=pos) (after:=after) (guard:=guard) hs hc hg hcal;rw[hrun];show Calls P g ⟨vs⟩ w _;refine(hcalls w (SO S w s.m.o) vs (GG hs.stable) hs.young (by rw[Z9,Jf];exact hl) (λi hi=> ?_)).mono λe w' hq=> ?_
     ·rw[Z9,Jf]at hi;rw[WW _ _ i (by rw[Jf];exact hi)];exact(hrep i hi).shut hs.stable
     ·obtain⟨v,S1,rfl,h2,h3,h4,h5,h6⟩:=hq
      let S':Stable:=⟨S1.c,λk=>match s.m.o k with|some _=>Hn|none=>S1.m k,S1.z,S1.y⟩
      have m1:∀k c,s.m.o k=Hs c->S'.m k=none:=λk c hc=>by simp[S',hc]
      have m2:∀k,s.m.o k=Hn->S'.m k=S1.m k:=λk hc=>by simp[S',hc]
      have m3:∀k,s.m.o k=Hn->(SO S w s.m.o).m k=S.m k:=λk hc=>by simp[SO,hc]
      have l1:SLe S S':=⟨λk o v hv=>h4.c k o v hv,λk es he=>by
       cases ho:s.m.o k with
       |some c=>rw[(hs.stable.o k c ho).2.1]at he;cases he
       |none=>rw[m2 k ho];exact h4.m k es (by rw[m3 k ho];exact he),h4.z,h4.y⟩
      have l2:∀k,k<w.heap.size->(∀o,S' k o=S k o)/\S'.m k=S.m k:=λk hk=>by
       obtain⟨a1,a2⟩:=h5 k hk;refine⟨a1,?_⟩;cases ho:s.m.o k with
       |some c=>rw[m1 k c ho,(hs.stable.o k c ho).2.1]
       |none=>rw[m2 k ho,a2,m3 k ho]
      have l3:StabS S' w':=⟨h3.c,λk es he=>by
       cases ho:s.m.o k with
       |some c=>rw[m1 k c ho]at he;cases he
       |none=>rw[m2 k ho]at he;exact h3.m k es he,h3.y⟩
      have hs':=hs.grow l1 l2 l3 h6.block h6.size;have hr':Rep S' v r:=Rep.cells_only (S:=S1) (S':=S') rfl rfl (λ_ h=>h) h2 hno;exact hn _ v w' S' M hk (hs'.put hd (.clean hr') (λi hi=>absurd hi (hr'.clean_ids i))) ⟨l1,λk hk=>l2 k (hs.hB k hk),(Kt h6).mono hs.hB⟩
    ·obtain⟨vs,hl,hrep,hrun⟩:=Tk (dst:=dst) (ty:=ty) (pos:=pos) (after:=after) (guard:=guard) hs hc hg hcal;rw[hrun];show Calls P g ⟨vs⟩ w _;obtain⟨q1,q2,q3⟩:=hs.stable.o b c hob;rw[hA]at hrep;refine(hcalls b w S vs hs.stable.s hs.young (hs.hz b q1) q2 q3 (by rw[<-hA,Jf];exact hl) (λi hi=>hrep i (by rw[<-hA,Jf]at hi;exact hi))).mono λe w' hq=> ?_
     obtain⟨v,S',rfl,h2,h3,h4,h5,h5',h6,h7⟩:=hq;have hnc:∀vs t f,w.heap[b]? ≠ Hs (.cells vs t f):=λvs t f hh=>by obtain⟨es,e1,_⟩:=q3;rw[e1]at hh;cases hh
     have hit:∀x,s.m.it b≠Hs x:=λx hx=>by
      have h1:=(hs.stable.i b x hx).2.1;obtain⟨es,e1,_⟩:=q3;unfold IterAt at h1;rw[e1]at h1;cases h1
     have hst:Stab B S' w' (upd s.m.o b (Hs c')) s.m.it:=hs.stable.turn h4 h3 (λk hk hkb=>(h5 k hk hkb).2) (λk hk hkb=>h7.block k ⟨hk,hkb⟩) q1 h5' h6 hit;have hs':=hs.growX hnc h4 (λk hk hkb=>(h5 k hk hkb).1) (λk hk hkb=>h7.block k ⟨hk,hkb⟩) h7.size hst (λk d hk=>⟨(hs.om_ne hk hob (x:=Hn)).1,(hs.om_ne hk hob).2,by rw[(h5 k (hs.rm k d hk).2.2.2.lt (hs.om_ne hk hob (x:=Hn)).1).2];exact(hs.rm k d hk).2.1⟩);exact hn _ v w' S' M hk (hs'.put hd (.clean h2) (λi hi=>absurd hi (h2.clean_ids i))) ⟨h4,λk hk=>h5 k (hs.hB k hk) (λe=>q1 (e▸hk)),h7.mono (λk hk=>⟨hs.hB k hk,λe=>q1 (e▸hk)⟩)⟩
    ·obtain⟨vs,hl,hrep,hrun⟩:=Tk (dst:=dst) (ty:=ty) (pos:=pos) (after:=after) (guard:=guard) hs hc hg hcal;rw[hrun];show Calls P g ⟨vs⟩ w _;refine(hcalls w S vs hs.stable.s hs.young (by rw[Jf];exact hl) (λi hi=>hrep i (by rw[Jf]at hi;exact hi))).mono λe w' hq=> ?_
     obtain⟨v,S',b,rfl,hbl,h2,h3,h4,h5,h5',h6,h7⟩:=hq;have hnb:s.m.o b=none:=by
      cases ho:s.m.o b with
      |none=>rfl
      |some d=>have:=(hs.stable.o b d ho).2.2.lt;omega
     have hBb:¬B b:=λhh=>by have:=hs.hB b hh;omega
     have hnc:∀vs t f,w.heap[b]? ≠ Hs (.cells vs t f):=λvs t f hh=>by have:=(Jt.1 hh).1;omega
     have hit:∀x,s.m.it b≠Hs x:=λx hx=>by have:=(hs.stable.i b x hx).2.1.lt;omega
     have hst:Stab B S' w' (upd s.m.o b (Hs c)) s.m.it:=hs.stable.turn h4 h3 (λk hk _=>(h5 k hk).2) (λk hk _=>h7.block k hk) hBb h5' h6 hit;have hs':=hs.growX hnc h4 (λk hk _=>(h5 k hk).1) (λk hk _=>h7.block k hk) h7.size hst (hs.om_new hbl (λk hk=>(h5 k hk).2) λk hk=>Zg _ _ (Jz hk));exact hn _ v w' S' M (hk b hnb) (hs'.put hd (.clean h2) (λi hi=>absurd hi (h2.clean_ids i))) ⟨h4,λk hk=>h5 k (hs.hB k hk),(Kt h7).mono hs.hB⟩
    ·obtain⟨vs,hl,hrep,hrun⟩:=Zmc (dst:=dst) (ty:=ty) (pos:=pos) (after:=after) (guard:=guard) hs hc hg;obtain⟨v,hv,hrun2⟩:=hxt w S vs (by rw[Jf];exact hl) (λi hi=>hrep i (by rw[Jf]at hi;exact hi));rw[hrun,hrun2];exact hn _ v w S M hk (hs.put hd (.clean hv) (λi hi=>absurd hi (hv.clean_ids i))) (JO _ _ _)
    ·obtain⟨vs,hl,hrep,hrun⟩:=Tk (dst:=dst) (ty:=ty) (pos:=pos) (after:=after) (guard:=guard) hs hc hg hcal;rw[hrun];show Calls P g ⟨vs⟩ w _;refine(hcalls w S vs hs.stable.s hs.young (by rw[Jf];exact hl) (λi hi=>hrep i (by rw[Jf]at hi;exact hi))).mono λen w' hq=> ?_
     obtain⟨v,S',κ,ψ,rfl,h1,h2,h3,h4,h5,h6⟩:=hq;have hs1:=hs.grow h4 h5 h3 h6.block h6.size;have hψ:0<κ->w.heap.size<=ψ:=λh0=>by
      obtain⟨_,g2⟩:=h2;obtain⟨_,_,g3,_⟩:=g2 (κ-1) (by show κ=_;omega);exact Nat.not_lt.1 g3
     have hs2:=hs1.addRow (d:=d) (κ:=κ) (ψ:=ψ) (n:=n) (sz:=sz) (e:=e) hqd
      (by
       obtain⟨g1,g2⟩:=h2;refine⟨g1,λc hc=> ?_⟩;obtain⟨k1,k2,k3,k4,k5⟩:=g2 c hc;exact⟨k1,k2,λhB=>k3 (hs.hB _ hB),k4,k5⟩)
      (λi r1 hi oi ki k0=>by have:=hs.row_lt hi oi ki;have:=hψ k0;omega)
      (λi cs hi zi k0=>by have:=hs.blk_lt hi zi;have:=hψ k0;omega)
     have hrv:=h1 d { M with ψ:=upd M.ψ d ψ,κ:=upd M.κ d κ } (s.m.setq d (.live n sz e)).q (Za _ _ _) (Za _ _ _) (Za _ _ _);exact hn _ v w' S' _ hk (hs2.put hd hrv (λi hi=>by
      rw[hri d i hi];show upd s.m.q d _ d≠Hn;rw[Za];simp)) ⟨h4,λk hk=>h5 k (hs.hB k hk),(Kt h6).mono hs.hB⟩
  |builtin b=>
   cases b with
   |append=>
    simp only[ZV]at h;unfold ZrK at h;split at h
    ·rename_i d t tx x y hts hxs;split at h
     ·rename_i ei ys h1 h2;obtain⟨g4,h⟩:=h;obtain⟨x1,x2,rfl,e1,e2⟩:∃x1 x2,cargs= [x1,x2]/\s.eval x1=x/\s.eval x2=y:=by
       have hxs:cargs.map s.eval= [x,y]:=hxs;clear hts;rcases cargs with _|⟨x1,_|⟨x2,_|⟨x3,l⟩⟩⟩
       ·simp at hxs
       ·simp at hxs
       ·simp at hxs;exact⟨x1,x2,rfl,hxs.1,hxs.2⟩
       ·simp at hxs
      obtain⟨tys⟩:=ts;have hts':tys= [t,tx]:=hts;subst hts';unfold Oper.wp;have hrun:∀ {rr w'},(KJ #[t,tx] ty #[a.eval x1,a.eval x2]).run P w= .ok rr w'->(execOp a.eval ⟨Hs d,.call ⟨.builtin .append,⟨[x1,x2]⟩,⟨[t,tx]⟩⟩,ty,pos,after,guard⟩).run P w= .ok (.value rr) w':=λk1=>by
       simp[execOp,resolve,invoke,builtin,k1]
      unfold Znf at h;split at h
      ·rename_i id n sz;split at h
       ·rename_i es h3;obtain⟨g0,g1,g2,g3,g5,g6,g7,hk⟩:=h;subst g0;subst g1;have r1:=hs.eval x1;rw[e1]at r1;have r2:=hs.eval x2;rw[e2]at r2;obtain⟨rr,w',S',M',k1,k2,k3,k4⟩:=G6 hs (d:=d) (ty:=ty) h1 r1 h3 g2 r2 h2 g5 g3 g4 g6 g7;rw[hrun k1];refine hn _ rr w' S' M' hk (k2.put hd k3 λi hi=> ?_) k4;simp only[Jb,Jo]at hi;subst hi;show(ZlO _ _ _ _ _ _ _).q d≠Hn;unfold ZlO;split<;>simp[Hp.setq,Za]
       ·exact h.elim
      ·obtain⟨g0,g5,g6,g7,hk⟩:=h;have hs1:=hs.nilVec (sz:=ei.size) (e:=ei.e) g0;have r1:=hs.eval x1;rw[e1]at r1;have hu:a.eval x1= .slice Hn 0 0:=r1.slnil_inv;have r1':RepS S { M with κ:=upd M.κ d 0 } (upd s.m.q d (Hs (.vec 0 ei.size ei.e))) (a.eval x1) (.vsl d ([]:List PV).length ei.size):=by
        rw[hu];refine .vsl d 0 ei.size _ ⟨Hn,0,rfl,JF _,λh=>absurd h (Nat.lt_irrefl _)⟩ λn' sz' e' hq=> ?_
        rw[Za]at hq;cases hq;exact⟨JF _,λ_=>⟨rfl,λ_=>rfl,λc hc=>by simp[Za]at hc⟩⟩
       have r2:=hs1.eval x2;have r2':RepS S { M with κ:=upd M.κ d 0 } (upd s.m.q d (Hs (.vec 0 ei.size ei.e))) (a.eval x2) y:=by rw[<-e2];exact r2
       have hav:W5 P tx y { s.m.setq d (.vec 0 ei.size ei.e)with v:=upd s.m.v d (Hs []) }=Hs ys:=by
        cases y<;>first|exact h2|skip
        rename_i id n sz;have hne:d≠id:=λe=>g5.2.2.2 (by simp[e])
        simp only[W5]at h2 ⊢;split at h2
        ·rw[Zg _ _ hne];exact h2
        ·cases h2
       have hso:Zbm y { s.m.setq d (.vec 0 ei.size ei.e)with v:=upd s.m.v d (Hs []) } ys ei.size [d,d]:=by
        cases y<;>first|exact g5|skip
        rename_i id n sz;obtain⟨q1,q2,⟨e,q3⟩,q4⟩:=g5;have hne:d≠id:=λe=>q4 (by simp[e])
        refine⟨q1,q2,⟨e,?_⟩,by simpa using q4⟩;show upd s.m.q d _ id=_;rw[Zg _ _ hne];exact q3
       obtain⟨rr,w',S',M',k1,k2,k3,k4⟩:=G6 hs1 (id:=d) (d:=d) (ty:=ty) (es:= []) h1 r1' (Za _ _ _) (Za _ _ _) r2' hav hso (.inl rfl) g4 (by simpa using g6) (by simpa using g7);rw[hrun k1];simp only[ZlO,if_true,St.with,Hp.setq,FO,JJ,KW,Ko]at k2 k3;refine hn _ rr w' S' M' hk (k2.put hd k3 λi hi=> ?_) k4;simp only[Jb,Jo]at hi;subst hi;simp[Live,Za]
      ·exact h.elim
     ·exact h.elim
    ·exact h.elim
   |_=>simp[ZV]at h
  |_=>simp[ZV]at h
 |buildSlice t len parts=>
  obtain⟨parts⟩:=parts;simp only at h;unfold ZrL at h;split at h
  ·rename_i d ei hx;obtain⟨g1,g2,g3,g4,hk⟩:=h;obtain⟨p1,p2,p3⟩:=ZbY hs parts;subst g2;obtain⟨v,w',M',k1,k2,k3,k4⟩:=Zlc hs (d:=d) hx p1 p2 p3 g1 g3 g4;unfold Oper.wp;have hrun:(execOp a.eval ⟨Hs d,.buildSlice t (parts.map λx=>(x.1,s.eval x.2)).length ⟨parts⟩,ty,pos,after,guard⟩).run P w= .ok (.value v) w':=by
    simp only[Jh]at k1;simp only[execOp,Jh];have e:(Array.map (λx:Nat×Operand=>(x.fst,a.eval x.snd)) ⟨parts⟩)=⟨parts.map λx=>(x.fst,a.eval x.snd)⟩:=by simp
    first|rw[e]|skip
    simp[k1]
   rw[hrun];refine hn _ v w' S M' hk (k2.put hd k3 λi hi=> ?_) k4;simp only[Jb,Jo]at hi;subst hi;show upd s.m.q d _ d≠Hn;rw[Za];simp
  ·exact h.elim
 |makeMap t r=>
  cases r with
  |some _=>exact h.elim
  |none=>
   simp only at h;unfold Oper.wp;have hrun:(execOp a.eval ⟨dst,.makeMap t Hn,ty,pos,after,guard⟩).run P w= .ok (.value (.map (Hs w.heap.size))) (w.alloc (.map #[] 0)):=by
    simp[execOp,Instr.makeMap,newObj,Km]
   rw[hrun];have hnb:s.m.o w.heap.size=none:=by
    cases ho:s.m.o w.heap.size with
    |none=>rfl
    |some d=>have:=(hs.stable.o _ d ho).2.2.lt;omega
   have hold:∀k,k<w.heap.size->(w.alloc (.map #[] 0)).heap[k]? = w.heap[k]? :=λk hk=>ZH w _ hk
   have hnew:(w.alloc (.map #[] 0)).heap[w.heap.size]? = Hs (.map #[] 0):=alloc_heap_new w _;have hst:Stab B S (w.alloc (.map #[] 0)) (upd s.m.o w.heap.size (Hs ⟨[],[]⟩)) s.m.it:=
    hs.stable.turn (JH _) (hs.stable.s.old hold) (λ_ _ _=>rfl) (λk hk _=>hold k hk) hs.new_ok (hs.S_m (JF _)) ⟨[],hnew,rfl,rfl,λi hi=>by simp at hi,λi hi=>by simp at hi,λi hi=>by simp at hi⟩
     (λx hx=>by have:=(hs.stable.i _ x hx).2.1.lt;omega)
   have hs':=hs.growX (b:=w.heap.size) (λvs t f hh=>by have:=(Jt.1 hh).1;omega) (JH _) (λ_ _ _ _=>rfl) (λk hk _=>hold k hk) (by rw[Tj];omega) hst (hs.om_new (JF _) (λ_ _=>rfl) λk hk=>by first|rfl|exact Zg _ _ (Jz hk));exact hn _ _ _ S M (h w.heap.size hnb) (hs'.put hd (.clean (.mref _)) (by simp[Jb])) (hs.ext_alloc _)
 |mapEntry t x k=>
  simp only at h;unfold Zc5 at h;split at h
  ·rename_i b ls z cs hxb htm hkc;split at h
   ·rename_i c hob;split at h
    ·rename_i r hf;obtain⟨g1,g2,hk⟩:=h;have ex:=hs.eval x;rw[hxb]at ex;have ek:=hs.eval k;rw[hkc]at ek;obtain⟨u,w',k1,k2,k3,k4,k5⟩:=ZmE hs hob htm ek hf g1 g2;unfold Oper.wp;have hrun:(execOp a.eval ⟨dst,.mapEntry t x k,ty,pos,after,guard⟩).run P w= .ok (.value u) w':=by
      simp[execOp,ex.mref_inv,k1]
     rw[hrun];exact hn _ _ _ S M hk (k2.put hd k3 λi hi=>by have:=k5 i hi;cases i<;>exact this) k4
    ·exact h.elim
   ·exact h.elim
  ·exact h.elim
 |entryStore t x st v=>
  simp only at h;obtain⟨hdn,h⟩:=h;subst hdn;unfold Zd4 at h;split at h
  ·rename_i b k hxb hst;split at h
   ·rename_i c hob;obtain⟨g1,g2,hk⟩:=h;have ex:=hs.eval x;rw[hxb]at ex;have es:=hs.eval st;rw[hst]at es;obtain⟨w',k1,k2,k3⟩:=ZmF (P:=P) (t:=t) hs hob (hs.eval v) (hs.eval_ids v) g2;unfold Oper.wp;have hrun:(execOp a.eval ⟨Hn,.entryStore t x st v,ty,pos,after,guard⟩).run P w= .ok .skip w':=by
     rw[Int.toNat_of_nonneg g1]at k1;simp[execOp,ex.mref_inv,es.int_inv,k1]
    rw[hrun];exact hn _ (.tuple #[]) w' S M hk (k2.put hd (.clean (.tup [] [] rfl λi hi=>by cases hi)) (by simp[Jb,Jr])) k3
   ·exact h.elim
  ·exact h.elim
 |range t x=>
  simp only at h;obtain⟨htm,h⟩:=h;have ex:=hs.eval x;unfold ZdM at h;split at h
  ·rename_i b hxb;split at h
   ·rename_i c hob;rw[hxb]at ex;obtain⟨q1,q2,es,e1,e2,e3,e4,e5,e6⟩:=hs.stable.o b c hob;unfold ZfL at htm;split at htm
    ·rename_i kt et hu;unfold Oper.wp;have hg:=MapKept.run_getObj_map (P:=P) e1;have hrun:(execOp a.eval ⟨dst,.range t x,ty,pos,after,guard⟩).run P w= .ok (.value (.pointer (Hs ⟨w.heap.size,0,Hn⟩))) (w.alloc (.mapIter (Hs b) es.length #[] es.length)):=by
      simp[execOp,K1,run_underlying hu,ex.mref_inv,hg,newObj,Km]
     rw[hrun];have hold:∀k,k<w.heap.size->(w.alloc (.mapIter (Hs b) es.length #[] es.length)).heap[k]? = w.heap[k]? :=λk hk=>ZH w _ hk
     have hnew:=alloc_heap_new w (.mapIter (Hs b) es.length #[] es.length);have hni:s.m.it w.heap.size=none:=by
      cases ho:s.m.it w.heap.size with
      |none=>rfl
      |some d=>have:=(hs.stable.i _ d ho).2.1.lt;omega
     have hst:Stab B S (w.alloc (.mapIter (Hs b) es.length #[] es.length)) s.m.o (upd s.m.it w.heap.size (Hs ⟨b,c.ks.length,[],Hn⟩)):=by
      refine⟨hs.stable.s.old hold,λk d hd=> ?_,λk y hy=> ?_⟩
      ·obtain⟨g1,g2,g3⟩:=hs.stable.o k d hd;exact⟨g1,g2,g3.move (JH _) (hold k g3.lt)⟩
      ·by_cases e:w.heap.size=k
       ·subst e;rw[Za]at hy;cases hy;refine⟨hs.new_ok,?_,λc hc=>by cases hc⟩;unfold IterAt;rw[hnew,e2]
       ·rw[Zg _ _ e]at hy;obtain⟨g1,g2⟩:=hs.stable.i k y hy;refine⟨g1,?_⟩;have:=g2.1.lt;unfold IterAt at g2 ⊢;rw[hold k this];exact g2
     have hs':=hs.growX (b:=w.heap.size) (λvs t f hh=>by have:=(Jt.1 hh).1;omega) (JH _) (λ_ _ _ _=>rfl) (λk hk _=>hold k hk) (by rw[Tj];omega) hst (hs.om_new (JF _) (λ_ _=>rfl) λk hk=>by first|rfl|exact Zg _ _ (Jz hk));exact hn _ _ _ S M (h w.heap.size hni) (hs'.put hd (.clean (.iptr _)) (by simp[Jb])) (hs.ext_alloc _)
    ·cases htm
   ·exact h.elim
  ·rename_i ks vs hxb;rw[hxb]at ex;generalize hval:a.eval x=u at ex;obtain⟨b,es,hu2,hS,e2,e3,e4,e5,e6⟩:∃b es,u= .map (Hs b)/\S.m b=Hs es/\es.length=ks.length/\vs.length=ks.length/\(∀i,i<ks.length->(es.getD i Jd).born=i)/\
     (∀i,i<ks.length->Rep S (es.getD i Jd).key (ks.getD i .any))/\(∀i,i<ks.length->Rep S (es.getD i Jd).val (vs.getD i .any)):=by
    cases ex with
    |clean r=>cases r with
     |rmap b es _ _ hS hk hv hb hK hV=>exact⟨b,es,rfl,hS,hk,hv,hb,hK,hV⟩
   subst hu2;have e1:=hs.stable.s.m b es hS;unfold ZfL at htm;split at htm
   ·rename_i kt et hu;unfold Oper.wp;have hg:=MapKept.run_getObj_map (P:=P) e1;have hrun:(execOp a.eval ⟨dst,.range t x,ty,pos,after,guard⟩).run P w= .ok (.value (.pointer (Hs ⟨w.heap.size,0,Hn⟩))) (w.alloc (.mapIter (Hs b) es.length #[] es.length)):=by
     simp[execOp,K1,run_underlying hu,hval,hg,newObj,Km]
    rw[hrun];have hold:∀k,k<w.heap.size->(w.alloc (.mapIter (Hs b) es.length #[] es.length)).heap[k]? = w.heap[k]? :=λk hk=>ZH w _ hk
    have hnew:=alloc_heap_new w (.mapIter (Hs b) es.length #[] es.length);have hni:s.m.it w.heap.size=none:=by
     cases ho:s.m.it w.heap.size with
     |none=>rfl
     |some d=>have:=(hs.stable.i _ d ho).2.1.lt;omega
    have hst:Stab B S (w.alloc (.mapIter (Hs b) es.length #[] es.length)) s.m.o (upd s.m.it w.heap.size (Hs ⟨b,ks.length,[],Hs ⟨ks,vs⟩⟩)):=by
     refine⟨hs.stable.s.old hold,λk d hd=> ?_,λk y hy=> ?_⟩
     ·obtain⟨g1,g2,g3⟩:=hs.stable.o k d hd;exact⟨g1,g2,g3.move (JH _) (hold k g3.lt)⟩
     ·by_cases e:w.heap.size=k
      ·subst e;rw[Za]at hy;cases hy;refine⟨hs.new_ok,?_,λc hc=>by cases hc;exact⟨es,hS,e2,e3,e4,e5,e6⟩⟩;unfold IterAt;rw[hnew,e2]
      ·rw[Zg _ _ e]at hy;obtain⟨g1,g2⟩:=hs.stable.i k y hy;refine⟨g1,?_⟩;have:=g2.1.lt;unfold IterAt at g2 ⊢;rw[hold k this];exact g2
    have hs':=hs.growX (b:=w.heap.size) (λvs t f hh=>by have:=(Jt.1 hh).1;omega) (JH _) (λ_ _ _ _=>rfl) (λk hk _=>hold k hk) (by rw[Tj];omega) hst (hs.om_new (JF _) (λ_ _=>rfl) λk hk=>by first|rfl|exact Zg _ _ (Jz hk));exact hn _ _ _ S M (h w.heap.size b hni) (hs'.put hd (.clean (.iptr _)) (by simp[Jb])) (hs.ext_alloc _)
   ·cases htm
  ·exact h.elim
 |next x isS=>
  cases isS with
  |true=>exact h.elim
  |false=>
   simp only at h;have ex:=hs.eval x;unfold Zj3 at h;split at h
   ·rename_i ib hxb;split at h
    ·rename_i itc hib;split at h
     ·rename_i c hob;obtain⟨hlen,hover,hgo⟩:=h;rw[hxb]at ex;have hxv:a.eval x= .pointer (Hs ⟨ib,0,Hn⟩):=ex.iptr_inv;obtain⟨i1,i2,i3⟩:=hs.stable.i ib itc hib;obtain⟨es,e1,e2,e3,e4,e5,e6⟩:=hs.mapIt hib hob;unfold IterAt at i2;have hborn:∀y∈es,y.born<itc.n:=λy hy=>by
       obtain⟨j,hj,rfl⟩:=Jg hy;have:=e4 j (by omega);rw[getD_lt hj]at this;omega
      unfold Oper.wp;have he:∀v w',(Instr.next (.pointer (Hs ⟨ib,0,Hn⟩)) Hf ty).run P w= .ok v w'->(execOp a.eval ⟨dst,.next x Hf,ty,pos,after,guard⟩).run P w= .ok (.value v) w':=λv w' hh=>by
       simp[execOp,hxv,hh]
      rcases run_next_at (P:=P) w ty ib itc.b itc.n itc.n ⟨itc.seen⟩ ⟨es⟩ es.length i2 e1 (by simpa using hborn) (JF _)with ⟨hz,hrun⟩|⟨e,he1,w1,hw1,hrun⟩
      ·rw[he _ _ hrun];refine hn _ _ _ S M (hover λi hi=> ?_) (hs.put hd (.clean (.tup [.bool Hf] [.bool Hf] rfl (λi hi=>by
        match i,hi with
        |0,_=>exact .bool _))) (by simp[Jb,Jr])) (JO _ _ _)
       have hil:i<es.length:=by omega
       refine JV λhno=> ?_
       have hmem:es[i]∈(leftOf ⟨es⟩ ⟨itc.seen⟩).toList:=by
        unfold leftOf;simp only[Kw,KK];have hb:=e4 i (by omega);rw[getD_lt hil]at hb;refine⟨Jw hil,?_⟩;rw[hb];simpa using hno
       have h0:(leftOf ⟨es⟩ ⟨itc.seen⟩).toList= []:=by
        apply List.eq_nil_of_length_eq_zero;simpa using hz
       rw[h0]at hmem;cases hmem
      ·rw[he _ _ hrun];unfold leftOf at he1;simp only[Kw,KK]at he1;obtain⟨hm,hns⟩:=he1;obtain⟨j,hj,rfl⟩:=Jg hm;have hb:=e4 j (by omega);have k5:=e5 j (by omega);have k6:=e6 j (by omega);rw[getD_lt hj]at hb k5 k6;rw[hb]at hns ⊢;have hns':j∉itc.seen:=by simpa using hns
       have hw1':w1.heap=w.heap:=by rcases hw1 with rfl|rfl<;>rfl
       have hw2:∀k,k≠ib->(ChangeMaps.setBlock w1 ib (.mapIter (Hs itc.b) itc.n ((⟨itc.seen⟩:Array Nat).push j) es.length)).heap[k]? = w.heap[k]? :=λk hk=>by
        show(w1.heap.setIfInBounds ib _)[k]? = _;rw[hw1',Array.getElem?_setIfInBounds_ne (Jz hk)]
       have hlt:ib<w.heap.size:=(Jt.1 i2).1;have hw3:(ChangeMaps.setBlock w1 ib (.mapIter (Hs itc.b) itc.n ((⟨itc.seen⟩:Array Nat).push j) es.length)).heap[ib]? = Hs (.mapIter (Hs itc.b) itc.n ⟨itc.seen++ [j]⟩ itc.n):=by
        show(w1.heap.setIfInBounds ib _)[ib]? = _;rw[hw1',Array.getElem?_setIfInBounds_self_of_lt hlt];have:es.length=itc.n:=by omega
        rw[this];simp
       have hnc:∀vs t f,w.heap[ib]? ≠ Hs (.cells vs t f):=λvs t f hh=>by rw[i2]at hh;cases hh
       have hSm:S.m ib=none:=by
        cases hm:S.m ib with
        |none=>rfl
        |some l=>have:=hs.stable.s.m ib l hm;rw[i2]at this;cases this
       have hsz:(ChangeMaps.setBlock w1 ib (.mapIter (Hs itc.b) itc.n ((⟨itc.seen⟩:Array Nat).push j) es.length)).heap.size=w.heap.size:=by
        show(w1.heap.setIfInBounds ib _).size=_;rw[hw1'];simp
       have hst:Stab B S (ChangeMaps.setBlock w1 ib (.mapIter (Hs itc.b) itc.n ((⟨itc.seen⟩:Array Nat).push j) es.length)) s.m.o (upd s.m.it ib (Hs ⟨itc.b,itc.n,itc.seen++ [j],itc.c⟩)):=by
        refine⟨Ur hs.stable.s hnc hSm hw2,λk d hd=> ?_,λk y hy=> ?_⟩
        ·obtain⟨g1,g2,g3⟩:=hs.stable.o k d hd;refine⟨g1,g2,g3.move (JH _) (hw2 k (λe=> ?_))⟩;subst e;obtain⟨es',f1,_⟩:=g3;rw[i2]at f1;cases f1
        ·by_cases e:ib=k
         ·subst e;rw[Za]at hy;cases hy;exact⟨i1,hw3,i3⟩
         ·rw[Zg _ _ e]at hy;obtain⟨g1,g2⟩:=hs.stable.i k y hy;refine⟨g1,?_⟩;unfold IterAt at g2 ⊢;rw[hw2 k (Jz e)];exact g2
       have hs':=hs.special hnc hw2 hsz hst (λk d hk=>⟨λe=>(by subst e;obtain⟨⟨es,k1,_⟩,_⟩:=(hs.rm _ d hk).2.2.2;rw[i2]at k1;cases k1),(hs.rm k d hk).2.2.1⟩);have ht:w1.os=w.os/\w1.tape=w.tape/\w1.output=w.output:=by rcases hw1 with rfl|rfl<;>exact⟨rfl,rfl,rfl⟩
       refine hn _ _ _ S M (hgo j (by omega) hns') (hs'.put hd (.clean (.tup [.bool Ht,_,_] [.bool Ht,_,_] rfl (λi hi=>by
        match i,hi with
        |0,_=>exact .bool _
        |1,_=>exact k5
        |2,_=>exact k6))) (λi hi=> ?_)) ⟨JH _,λ_ _=>⟨λ_=>rfl,rfl⟩,⟨ht.1,ht.2.1,ht.2.2,by rw[hsz];exact JF _,λk hk=>hw2 k (λe=>i1 (e▸hk))⟩⟩
       simp only[Jb,Jr,Ko,JK,Jj]at hi;rcases hi with hi|hi
       ·exact absurd hi (k5.clean_ids i)
       ·exact absurd hi (k6.clean_ids i)
     ·exact h.elim
    ·exact h.elim
   ·exact h.elim
 |binOp bop t x y yt=>
  split at h<;>try(exact h.elim)
  all_goals rename_i heq
  all_goals cases heq
  obtain⟨⟨hk,hask⟩,h⟩:=h;have hE:=hs.eval x;have hp:s.eval x= .sl .no []:=by
   revert hask
   unfold Zf5;split
   ·rename_i es he;intro hem;rw[he,List.isEmpty_iff.1 hem]
   ·intro hf;cases hf
  rw[hp]at hE;obtain⟨ad,cap,e,_⟩:=hE.sl_inv.sl_len;obtain⟨e',he⟩:=ZgU hk;have hrun:(K0 t (.slice ad 0 cap) (.slice Hn 0 0)).run P w= .ok ad.isNone w:=by
   have r2:∀d:Nat,(K2 (d+1) t (.slice Hn 0 cap) (.slice Hn 0 0)).run P w= .ok Ht w:=λd=>by simp[K2,Zw he]
   cases ad with
   |none=>exact r2 _
   |some b=>exact YG _ t e' b 0 cap he
  have hS:Snd P B S s a w (do eqGuard .eql t x (.const (.slice Hn 0 0)) (a.eval x) (a.eval (.const (.slice Hn 0 0)));binOp .eql t (a.eval x) (a.eval (.const (.slice Hn 0 0)))) ⟨True,.bool ad.isNone,s.m⟩:=by
   rw[show a.eval x= .slice ad 0 cap from e,show a.eval (.const (.slice Hn 0 0))= .slice Hn 0 0 from rfl];refine Snd.pure hs (v:= .bool ad.isNone) ?_ (.clean (.bool _)) (by simp[Jb]);have hg:(eqGuard .eql t x (.const (.slice Hn 0 0)) (.slice ad 0 cap) (.slice Hn 0 0)).run P w= .ok () w:=WI (by simp) (by simp);simp only[Jk,hg,Jc];have:=UJ (op:= .eql) (.inl rfl) (by simp) (by simp) (by simp) (by simp) hrun;simpa using this
  exact Done.of_snd U6 hd hS next Q λv w' S' M' hs' he'=>hn _ v w' S' M' (h _) hs' he'
 |_=>exact h.elim
end
open Go.RowKit
def Uw (want:Bool) (p:PV) (A B:Prop):Prop:=
 match p with
 | .bool b=>(b=want->A)/\(b= !want->B)
 | .tup _=>B
 |_=>False
def Zla (P:Program) (x:Bool) (m:Hp) (c:Option (FuncId×List PV)) (K:PV->Hp->Prop):Prop:=
 match c with
 |some (g,args)=>(Jq m args/\((∃r,Pure P g (Ju m args) r/\K r m)\/(x=Ht/\Zp5 P g (Ju m args) m K)))\/(x=Ht/\Zp4 P g (Ju m args) m K)\/(∃r,Zr0 P m g args r/\K r m)
 |none=>False
def Zix (r:ARes) (K:PV->Hp->Prop):Prop:=r.ok/\K r.v r.m
def Zg5 (P:Program) (x:Bool) (o:Oper) (s:St) (K:St->Prop):Prop:=
 match o.op with
 | .call { callee:= .value f,args,argTypes }=>Zla P x s.m (ZV s.eval { callee:= .value f,args,argTypes }) λr m=>K ((s.with m).put o.dst r)
 | .call { callee:= .builtin .append,args,argTypes }=>if ZnD (args.toList.map s.eval)||vmB o.dst s.m then x=Ht/\ZrK P o.dst argTypes.toList (args.toList.map s.eval) s.m λr m=>K ((s.with m).put o.dst r)else Zix (aop P o s.eval s.m) λv m=>K ((s.with m).put o.dst v)
 | .buildSlice t len parts=>if vmB o.dst s.m then x=Ht/\ZrL P o.dst t len (parts.toList.map λy=>(y.1,s.eval y.2)) s.m λr m=>K ((s.with m).put o.dst r)else Zix (aop P o s.eval s.m) λv m=>K ((s.with m).put o.dst v)
 | .makeMap _ Hn=>x=Ht/\Zot s.m λr m=>K ((s.with m).put o.dst r)
 | .mapEntry t y k=>x=Ht/\Zc5 P t (s.eval y) (s.eval k) s.m λr m=>K ((s.with m).put o.dst r)
 | .entryStore t y st v=>x=Ht/\o.dst=Hn/\Zd4 (s.eval y) (s.eval st) (s.eval v) s.m λr m=>K ((s.with m).put o.dst r)
 | .range t y=>x=Ht/\ZfL P t=Ht/\ZdM (s.eval y) s.m λr m=>K ((s.with m).put o.dst r)
 | .next y Hf=>x=Ht/\Zj3 (s.eval y) s.m λr m=>K ((s.with m).put o.dst r)
 | .binOp .eql t y (.const (.slice Hn 0 0)) _=>if Zf5 (s.eval y)then x=Ht/\Zes P t= .slc/\ ∀b,K ((s.with s.m).put o.dst (.bool b))else Zix (aop P o s.eval s.m) λv m=>K ((s.with m).put o.dst v)
 |_=>Zix (aop P o s.eval s.m) λv m=>K ((s.with m).put o.dst v)
def vcA (P:Program) (x:Bool) (ops:Array Oper) (K:St->Prop):List Oper->St->Prop
 | [],s=>K s
 |o::rest,s=>DU s.n o.dst/\match o.guard with
  |none=>Zg5 P x o s (vcA P x ops K rest)
  |some (j,want)=>match(ops[j]?).bind (·.dst)with
   |none=>vcA P x ops K rest (s.put o.dst (.tup []))
   |some d=>d<s.n/\Uw want (s.fr d) (Zg5 P x o s (vcA P x ops K rest)) (vcA P x ops K rest (s.put o.dst (.tup [])))
def Zlr (P:Program) (ops:Array Oper) (K:St->Prop):List Oper->St->Prop
 | [],s=>K s
 |o::rest,s=>DU s.n o.dst/\((gd ops s o=Hs Ht/\((∃v m',XR P o s.eval s.m v m'/\Zlr P ops K rest ((s.with m').put o.dst v))\/Zcy P o s (Zlr P ops K rest)))\/(gd ops s o=Hs Hf/\Zlr P ops K rest (s.put o.dst (.tup []))))
def G5 (p:PV) (A B:Prop):Prop:=
 match p with
 | .bool b=>(b=Ht->A)/\(b=Hf->B)
 |_=>False
section
variable {P:Program} {s:St}
theorem ZkQ {o:Oper} {K K':St->Prop} (hK:∀s,K s->K' s) (h:Zcy P o s K):Zcy P o s K':=by
 obtain⟨dst,op,ty,pos,after,guard⟩:=o;unfold Zcy at h ⊢;simp only at h ⊢;split at h;rename_i c;split at h
 ·rename_i g args hc;rcases h with ⟨h1,h2⟩|⟨args0,m0,r,m1,f',g',a1,a2,a3,a4⟩
  rotate_left
  exact .inr ⟨args0,m0,r,m1,f',g',a1,a2,a3,hK _ a4⟩;refine .inl ⟨h1,?_⟩;rcases h2 with ⟨r,a1,a2,a3⟩|⟨b,c,A,r,c',a1,a2,a3,a4⟩|⟨r,c,a1,a2⟩|⟨r,a1,a2⟩|⟨r,n,sz,e,d,a1,a2,a3⟩;exact .inl ⟨r,a1,a2,hK _ a3⟩;exact .inr (.inl ⟨b,c,A,r,c',a1,a2,a3,hK _ a4⟩);exact .inr (.inr (.inl ⟨r,c,a1,λb hb=>hK _ (a2 b hb)⟩));exact .inr (.inr (.inr (.inl ⟨r,a1,hK _ a2⟩)));exact .inr (.inr (.inr (.inr ⟨r,n,sz,e,d,a1,a2,hK _ a3⟩)))
 split at h;unfold ZrK at h ⊢;split at h;split at h;obtain⟨g,h⟩:=h;refine⟨g,?_⟩;unfold Znf at h ⊢;split at h;split at h;obtain⟨g0,g1,g2,g3,g4,g5,g6,hk⟩:=h;exact⟨g0,g1,g2,g3,g4,g5,g6,hK _ hk⟩;exact h.elim;obtain⟨g0,g1,g2,g3,hk⟩:=h;exact⟨g0,g1,g2,g3,hK _ hk⟩;exact h.elim;exact h.elim;exact h.elim;exact h.elim;unfold ZrL at h ⊢;split at h;obtain⟨g0,g1,g2,g3,hk⟩:=h;exact⟨g0,g1,g2,g3,hK _ hk⟩;exact h.elim;exact λb hb=>hK _ (h b hb)
 unfold Zc5 at h ⊢;split at h;split at h;split at h;exact⟨h.1,h.2.1,hK _ h.2.2⟩;exact h.elim;exact h.elim;exact h.elim;obtain⟨hd,h⟩:=h;refine⟨hd,?_⟩;unfold Zd4 at h ⊢;split at h;split at h;exact⟨h.1,h.2.1,hK _ h.2.2⟩;exact h.elim;exact h.elim;rename_i t x;obtain⟨h1,h2⟩:=h;refine⟨h1,?_⟩;unfold ZdM at h2 ⊢;split at h2;split at h2;exact λib hib=>hK _ (h2 ib hib)
 exact h2.elim;exact λib b hib=>hK _ (h2 ib b hib)
 exact h2.elim;rename_i x;unfold Zj3 at h ⊢;split at h;split at h;split at h;exact⟨h.1,λhh=>hK _ (h.2.1 hh),λi h1 h2=>hK _ (h.2.2 i h1 h2)⟩;exact h.elim;exact h.elim;exact h.elim;exact⟨h.1,λb=>hK _ (h.2 b)⟩;exact h.elim
theorem Zem {x:Bool} {o:Oper} {K:St->Prop} (h:Zg5 P x o s K):(∃v m',XR P o s.eval s.m v m'/\K ((s.with m').put o.dst v))\/(x=Ht/\Zcy P o s K):=by
 unfold Zg5 at h;split at h;rename_i f args ts heq;unfold Zla at h;split at h;rename_i g xs hc;rcases h with ⟨h1,⟨r,h2,h3⟩|⟨hx,h2⟩⟩|⟨hx,h2⟩|⟨r,h2,h3⟩;exact .inl ⟨r,s.m,.inr ⟨_,g,xs,heq,hc,.inl ⟨h1,h2⟩,rfl⟩,h3⟩;refine .inr ⟨hx,?_⟩;unfold Zcy;rw[heq];simp only[hc];exact .inl ⟨h1,h2⟩;refine .inr ⟨hx,?_⟩;unfold Zcy;rw[heq];simp only[hc];exact .inr h2;exact .inl ⟨r,s.m,.inr ⟨_,g,xs,heq,hc,.inr h2,rfl⟩,h3⟩;exact h.elim;rename_i xs ts heq;split at h;obtain⟨hx,h2⟩:=h;refine .inr ⟨hx,?_⟩;unfold Zcy;rw[heq];simp only[ZV];exact h2;exact .inl ⟨_,_,.inl ⟨h.1,rfl,rfl⟩,h.2⟩;rename_i t len parts heq;split at h;obtain⟨hx,h2⟩:=h;refine .inr ⟨hx,?_⟩;unfold Zcy;rw[heq];exact h2;exact .inl ⟨_,_,.inl ⟨h.1,rfl,rfl⟩,h.2⟩;rename_i heq;exact .inr ⟨h.1,by unfold Zcy;rw[heq];exact h.2⟩;rename_i heq;exact .inr ⟨h.1,by unfold Zcy;rw[heq];exact h.2⟩;rename_i heq;exact .inr ⟨h.1,by unfold Zcy;rw[heq];exact h.2⟩;rename_i heq;exact .inr ⟨h.1,by unfold Zcy;rw[heq];exact h.2⟩;rename_i heq;exact .inr ⟨h.1,by unfold Zcy;rw[heq];exact h.2⟩;rename_i heq;split at h;rename_i hask;exact .inr ⟨h.1,by unfold Zcy;rw[heq];exact⟨⟨h.2.1,hask⟩,h.2.2⟩⟩;exact .inl ⟨_,_,.inl ⟨h.1,rfl,rfl⟩,h.2⟩;exact .inl ⟨_,_,.inl ⟨h.1,rfl,rfl⟩,h.2⟩
theorem Uv {x:Bool} {ops:Array Oper} {K:St->Prop}:∀(l:List Oper) (s:St),vcA P x ops K l s->Zlr P ops K l s
 | [],s,h=>h
 |o::rest,s,h=>by
  obtain⟨hd,h⟩:=h;refine⟨hd,?_⟩;have op:∀ {s},Zg5 P x o s (vcA P x ops K rest)->(∃v m',XR P o s.eval s.m v m'/\Zlr P ops K rest ((s.with m').put o.dst v))\/Zcy P o s (Zlr P ops K rest):=λh=>by
   rcases Zem h with ⟨v,m',h1,h2⟩|⟨_,h1⟩;exact .inl ⟨v,m',h1,Uv rest _ h2⟩;exact .inr (ZkQ (λs' hs'=>Uv rest s' hs') h1)
  unfold gd;cases hg:o.guard with
  |none=>
   rw[hg]at h;exact .inl ⟨rfl,op h⟩
  |some jw=>
   obtain⟨j,want⟩:=jw;rw[hg]at h;simp only at h ⊢;cases hd':(ops[j]?).bind (·.dst)with
   |none=>rw[hd']at h;exact .inr ⟨rfl,Uv rest _ h⟩
   |some d=>
    rw[hd']at h;simp only at h ⊢;obtain⟨hlt,h⟩:=h;rw[if_pos hlt];unfold Uw at h;split at h
    ·rename_i b hb;rw[hb]
     by_cases hbw:b=want
     ·left;subst hbw;exact⟨by simp[gdOf],op (h.1 rfl)⟩
     ·right;refine⟨by simp[gdOf,hbw],Uv rest _ (h.2 ?_)⟩;cases b<;>cases want<;>simp_all
    ·rename_i l hb;rw[hb];exact .inr ⟨rfl,Uv rest _ h⟩
    ·exact h.elim
theorem T7 {ops:Array Oper} {K:St->Prop}:∀(l:List Oper) (s:St),vcA P Hf ops K l s->Zmu P ops K l s
 | [],s,h=>h
 |o::rest,s,h=>by
  obtain⟨hd,h⟩:=h;refine⟨hd,?_⟩;have op:∀ {s},Zg5 P Hf o s (vcA P Hf ops K rest)-> ∃v m',XR P o s.eval s.m v m'/\Zmu P ops K rest ((s.with m').put o.dst v):=λh=>by
   rcases Zem h with ⟨v,m',h1,h2⟩|⟨h1,_⟩;exact⟨v,m',h1,T7 rest _ h2⟩;cases h1
  unfold gd;cases hg:o.guard with
  |none=>
   rw[hg]at h;exact .inl ⟨rfl,op h⟩
  |some jw=>
   obtain⟨j,want⟩:=jw;rw[hg]at h;simp only at h ⊢;cases hd':(ops[j]?).bind (·.dst)with
   |none=>rw[hd']at h;exact .inr ⟨rfl,T7 rest _ h⟩
   |some d=>
    rw[hd']at h;simp only at h ⊢;obtain⟨hlt,h⟩:=h;rw[if_pos hlt];unfold Uw at h;split at h
    ·rename_i b hb;rw[hb]
     by_cases hbw:b=want
     ·left;subst hbw;exact⟨by simp[gdOf],op (h.1 rfl)⟩
     ·right;refine⟨by simp[gdOf,hbw],T7 rest _ (h.2 ?_)⟩;cases b<;>cases want<;>simp_all
    ·rename_i l hb;rw[hb];exact .inr ⟨rfl,T7 rest _ h⟩
    ·exact h.elim
theorem Tu {B:Frm} {ops:Array Oper} {K:St->Prop} {Qc:Exit->Act->World->Prop} {S0:Stable} {w0:World} (hQ:∀s' S' M' a' w',K s'->Sim B S' M' s' a' w'->Ext B S0 S' w0 w'->Qc .normal a' w'):
  ∀(l:List Oper) (k:Nat) (s:St),(∀j,l[j]? = ops[k+j]?)->Zlr P ops K l s-> ∀S M a w,Sim B S M s a w->Ext B S0 S w0 w->wpOps P ops Qc (List.range' k l.length) a w
 | [],k,s,_,h,S,M,a,w,hs,he=>hQ s S M a w h hs he
 |o::rest,k,s,hl,h,S,M,a,w,hs,he=>by
  have h0:ops[k]? = Hs o:=by simpa using(hl 0).symm
  have hl':∀j,rest[j]? = ops[(k+1)+j]? :=λj=>by have:=hl (j+1);simpa[KP,KY 1 j]using this
  obtain⟨hd,h⟩:=h;simp only[JB,List.range'_succ,wpOps,h0];rcases h with ⟨hg,⟨v,m',hst,hrest⟩|hsp⟩|⟨hg,hrest⟩;rw[Zdi hs hg,if_pos rfl];exact .inl (GJ hs (WT hd) hst _ _ λu w' S' M' hs' he'=>Tu hQ rest (k+1) _ hl' hrest S' M' _ w' hs' (he.trans he'));rw[Zdi hs hg,if_pos rfl];exact .inl (Zbd hs (WT hd) hsp _ _ λs' u w' S' M' hk hs' he'=>Tu hQ rest (k+1) s' hl' hk S' M' _ w' hs' (he.trans he'));rw[Zdi hs hg,if_neg (by simp)];exact Tu hQ rest (k+1) _ hl' hrest S M _ w (Zb7 hs hd) he
theorem ZeS {id:Nat} {ops:Array Oper} {Q:Exit->St->Prop} (h:Zlr P ops (Q .normal) ops.toList s):awp P (.region id ops Hf) Q s:=λB S M a w hs=>by
 refine wp_region ?_;have:=Tu (B:=B) (S0:=S) (w0:=w) (Qc:=λe a' w'=>∃s' S' M',Q e s'/\Sim B S' M' s' a' w'/\Ext B S S' w w') (λs' S' M' a' w' h1 h2 h3=>⟨s',S',M',h1,h2,h3⟩) ops.toList 0 s (by simp) h S M a w hs (JO _ _ _);rw[<-List.range_eq_range']at this;simpa using this
def vc (P:Program):Code->(Exit->St->Prop)->St->Prop
 | .skip,Q,s=>Q .normal s
 | .label _,Q,s=>Q .normal s
 | .ret,Q,s=>Q .ret s
 | .exit id,Q,s=>Q (.exit id) s
 | .goto l,Q,s=>Q (.goto l) s
 | .seq (.label l) y,Q,s=>awp P (.seq (.label l) y) Q s
 | .seq x y,Q,s=>vc P x (Xj (vc P y Q) Q) s
 | .cond c x y,Q,s=>G5 (s.eval c) (vc P x Q s) (vc P y Q s)
 | .block id c,Q,s=>vc P c (TL id Q) s
 | .region _ ops Hf,Q,s=>vcA P Ht ops (Q .normal) ops.toList s
 |c,Q,s=>awp P c Q s
theorem Zhu {x y:Code} {Q:Exit->St->Prop} {s:St} (hx:∀Q s,vc P x Q s->awp P x Q s) (hy:∀Q s,vc P y Q s->awp P y Q s) (h:vc P x (Xj (vc P y Q) Q) s):awp P (.seq x y) Q s:=
 DL (Yy (λe s' h'=>by
     cases e with
     |normal=>exact hy Q s' h'
     |_=>exact h') (hx _ s h))
theorem ZQ:∀(c:Code) (Q:Exit->St->Prop) (s:St),vc P c Q s->awp P c Q s
 | .skip,Q,s,h=>Di h
 | .label _,Q,s,h=>ZcW h
 | .ret,Q,s,h=>Zn9 h
 | .exit id,Q,s,h=>ZlX h
 | .goto l,Q,s,h=>ZlY h
 | .seq x y,Q,s,h=>by
  cases x with
  |label l=>exact h
  |_=>exact Zhu (ZQ _) (ZQ y) h
 | .cond c x y,Q,s,h=>by
  unfold vc G5 at h;split at h;rename_i b hb;refine ZlV hb ?_;cases b;exact ZQ y Q s (h.2 rfl);exact ZQ x Q s (h.1 rfl);exact h.elim
 | .block id c,Q,s,h=>Zi7 (ZQ c _ s h)
 | .region _ ops Hf,Q,s,h=>ZeS (Uv _ _ h)
 | .region _ ops Ht,Q,s,h=>h
 | .loop c,Q,s,h=>h
 | .rangeFunc ..,Q,s,h=>h
 | .scope c,Q,s,h=>h
 | .refuse _,Q,s,h=>h
end
class KS where
 k:St->Prop
class LST where
 l:List Oper
class COD where
 c:Code
class QS where
 q:Exit->St->Prop
class PR where
 p:Prop
class KR where
 k:PV->Hp->Prop
class KV where
 k:PV->Prop
class KH where
 m:Hp
def Zvy (r:ARes) [K:KR]:Prop:=Zix r K.k
def UB (want:Bool) (p:PV) [A:PR] [B:PR]:Prop:=Uw want p A.p B.p
def Zef (p:PV) [A:PR] [B:PR]:Prop:=G5 p A.p B.p
def Vr (P:Program) (x:Bool) [M:KH] (c:Option (FuncId×List PV)) [K:KR]:Prop:=Zla P x M.m c K.k
def vA (P:Program) (x:Bool) [K:KS] [G:LST] [L:LST] (s:St):Prop:=vcA P x G.l.toArray K.k L.l s
def ZtQ (P:Program) (x:Bool) [K:KS] [G:LST] [L:LST] (o:Oper) (s:St):Prop:=vcA P x G.l.toArray K.k (o::L.l) s
def vOp (P:Program) (x:Bool) [K:KS] (o:Oper) (s:St):Prop:=Zg5 P x o s K.k
def ZhJ [G:LST] (j:Nat):Option Nat:=(G.l[j]?).bind (·.dst)
def vC (P:Program) [C:COD] [Q:QS] (s:St):Prop:=vc P C.c Q.q s
def vQ [Q:QS] (e:Exit) (s:St):Prop:=Q.q e s
section
variable {P:Program} {x:Bool}
theorem Zpg (ok:Prop) (v:PV) (m:Hp) (K:KR):@Zvy ⟨ok,v,m⟩ K=(ok/\K.k v m):=rfl
theorem Zk7 (A B:PR):@UB Ht (.bool Ht) A B=A.p:=by simp[UB,Uw]
theorem Zk6 (A B:PR):@UB Ht (.bool Hf) A B=B.p:=by simp[UB,Uw]
theorem Zk5 (A B:PR):@UB Hf (.bool Ht) A B=B.p:=by simp[UB,Uw]
theorem Zk4 (A B:PR):@UB Hf (.bool Hf) A B=A.p:=by simp[UB,Uw]
theorem Zis (w:Bool) (l:List PV) (A B:PR):@UB w (.tup l) A B=B.p:=rfl
theorem Zo5 (A B:PR):@Zef (.bool Ht) A B=A.p:=by simp[Zef,G5]
theorem Zo4 (A B:PR):@Zef (.bool Hf) A B=B.p:=by simp[Zef,G5]
theorem ZhL (o:Oper) (l:List Oper):@ZhJ ⟨o::l⟩ 0=o.dst:=rfl
theorem ZhK (o:Oper) (l:List Oper) (j:Nat):@ZhJ ⟨o::l⟩ (j+1)= @ZhJ ⟨l⟩ j:=by simp[ZhJ]
theorem ZrJ (K:KS) (G:LST) (s:St):@vA P x K G ⟨[]⟩ s=K.k s:=rfl
theorem ZoX (K:KS) (G:LST) (o:Oper) (l:List Oper) (s:St):@vA P x K G ⟨o::l⟩ s= @ZtQ P x K G ⟨l⟩ o s:=rfl
theorem Ziu (K:KS) (G L:LST) (d:Option Tmp) (op:Op) (ty:TypeId) (pos:String) (af:Array Edge) (s:St):
  @ZtQ P x K G L ⟨d,op,ty,pos,af,Hn⟩ s=(DU s.n d/\ @vOp P x ⟨@vA P x K G L⟩ ⟨d,op,ty, "",#[],Hn⟩ s):=by
 have h:Zg5 P x ⟨d,op,ty,pos,af,Hn⟩ s=Zg5 P x ⟨d,op,ty, "",#[],Hn⟩ s:=by
  funext K;cases op<;>rfl
 show(DU s.n d/\Zg5 P x ⟨d,op,ty,pos,af,Hn⟩ s (vcA P x G.l.toArray K.k L.l))=_;rw[h];rfl
theorem Zit (K:KS) (G L:LST) (d:Option Tmp) (op:Op) (ty:TypeId) (pos:String) (af:Array Edge) (j:Nat) (want:Bool) (s:St) (d':Nat) (h:@ZhJ G j=Hs d'):
  @ZtQ P x K G L ⟨d,op,ty,pos,af,Hs (j,want)⟩ s=(DU s.n d/\d'<s.n/\ @UB want (s.fr d') ⟨@vOp P x ⟨@vA P x K G L⟩ ⟨d,op,ty, "",#[],Hn⟩ s⟩ ⟨@vA P x K G L (s.put d (.tup []))⟩):=by
 have h':(G.l.toArray[j]?).bind (·.dst)=Hs d':=by simpa[ZhJ]using h
 have e:Zg5 P x ⟨d,op,ty,pos,af,Hs (j,want)⟩ s=Zg5 P x ⟨d,op,ty, "",#[],Hn⟩ s:=by
  funext K;cases op<;>rfl
 show(DU s.n d/\(match(G.l.toArray[j]?).bind (·.dst)with
   |none=>vcA P x G.l.toArray K.k L.l (s.put d (.tup []))
   |some d=>d<s.n/\Uw want (s.fr d) (Zg5 P x ⟨_,op,ty,pos,af,Hs (j,want)⟩ s (vcA P x G.l.toArray K.k L.l)) (vcA P x G.l.toArray K.k L.l (s.put _ (.tup [])))))=_
 rw[h',e];rfl
theorem Znn (K:KS) (d:Option Tmp) (f:Operand) (args:Array Operand) (ts:Array TypeId) (ty:TypeId) (s:St):
  @vOp P x K ⟨d,.call ⟨.value f,args,ts⟩,ty, "",#[],Hn⟩ s= @Vr P x ⟨s.m⟩ (ZV s.eval ⟨.value f,args,ts⟩) ⟨λr m=>K.k ((s.with m).put d r)⟩:=rfl
theorem Zo3 (Q:QS) (s:St):@vC P ⟨.skip⟩ Q s= @vQ Q .normal s:=rfl
theorem Znh (l:Nat) (Q:QS) (s:St):@vC P ⟨.label l⟩ Q s= @vQ Q .normal s:=rfl
theorem ZrM (Q:QS) (s:St):@vC P ⟨.ret⟩ Q s= @vQ Q .ret s:=rfl
theorem Zo0 (id:Nat) (Q:QS) (s:St):@vC P ⟨.exit id⟩ Q s= @vQ Q (.exit id) s:=rfl
theorem Zo1 (l:Nat) (Q:QS) (s:St):@vC P ⟨.goto l⟩ Q s= @vQ Q (.goto l) s:=rfl
theorem ZfS (y:Code) (Q:QS) (s:St):@vC P ⟨.seq (.skip) y⟩ Q s= @vC P ⟨.skip⟩ ⟨Xj (@vC P ⟨y⟩ Q) Q.q⟩ s:=rfl
theorem Ziq (y:Code) (Q:QS) (s:St):@vC P ⟨.seq (.ret) y⟩ Q s= @vC P ⟨.ret⟩ ⟨Xj (@vC P ⟨y⟩ Q) Q.q⟩ s:=rfl
theorem ZfP (id:Nat) (y:Code) (Q:QS) (s:St):@vC P ⟨.seq (.exit id) y⟩ Q s= @vC P ⟨.exit id⟩ ⟨Xj (@vC P ⟨y⟩ Q) Q.q⟩ s:=rfl
theorem ZfQ (l:Nat) (y:Code) (Q:QS) (s:St):@vC P ⟨.seq (.goto l) y⟩ Q s= @vC P ⟨.goto l⟩ ⟨Xj (@vC P ⟨y⟩ Q) Q.q⟩ s:=rfl
theorem Zir (a b:Code) (y:Code) (Q:QS) (s:St):@vC P ⟨.seq (.seq a b) y⟩ Q s= @vC P ⟨.seq a b⟩ ⟨Xj (@vC P ⟨y⟩ Q) Q.q⟩ s:=rfl
theorem ZfO (c:Operand) (a b:Code) (y:Code) (Q:QS) (s:St):@vC P ⟨.seq (.cond c a b) y⟩ Q s= @vC P ⟨.cond c a b⟩ ⟨Xj (@vC P ⟨y⟩ Q) Q.q⟩ s:=rfl
theorem Zec (id:Nat) (c:Code) (y:Code) (Q:QS) (s:St):@vC P ⟨.seq (.block id c) y⟩ Q s= @vC P ⟨.block id c⟩ ⟨Xj (@vC P ⟨y⟩ Q) Q.q⟩ s:=rfl
theorem Zcn (id:Nat) (l:Array Oper) (d:Bool) (y:Code) (Q:QS) (s:St):@vC P ⟨.seq (.region id l d) y⟩ Q s= @vC P ⟨.region id l d⟩ ⟨Xj (@vC P ⟨y⟩ Q) Q.q⟩ s:=rfl
theorem ZfR (c:Code) (y:Code) (Q:QS) (s:St):@vC P ⟨.seq (.loop c) y⟩ Q s= @vC P ⟨.loop c⟩ ⟨Xj (@vC P ⟨y⟩ Q) Q.q⟩ s:=rfl
theorem Zee (c:Code) (y:Code) (Q:QS) (s:St):@vC P ⟨.seq (.scope c) y⟩ Q s= @vC P ⟨.scope c⟩ ⟨Xj (@vC P ⟨y⟩ Q) Q.q⟩ s:=rfl
theorem Zed (l:Nat) (y:Code) (Q:QS) (s:St):@vC P ⟨.seq (.label l) y⟩ Q s=awp P (.seq (.label l) y) Q.q s:=rfl
theorem ZoY (c:Operand) (x y:Code) (Q:QS) (s:St):@vC P ⟨.cond c x y⟩ Q s= @Zef (s.eval c) ⟨@vC P ⟨x⟩ Q s⟩ ⟨@vC P ⟨y⟩ Q s⟩:=rfl
theorem Zng (id:Nat) (c:Code) (Q:QS) (s:St):@vC P ⟨.block id c⟩ Q s= @vC P ⟨c⟩ ⟨TL id Q.q⟩ s:=rfl
theorem Zk1 (id:Nat) (l:List Oper) (Q:QS) (s:St):@vC P ⟨.region id l.toArray Hf⟩ Q s= @vA P Ht ⟨@vQ Q .normal⟩ ⟨l⟩ ⟨l⟩ s:=rfl
theorem Zni (c:Code) (Q:QS) (s:St):@vC P ⟨.scope c⟩ Q s=awp P (.scope c) Q.q s:=rfl
theorem Zo2 (c:Code) (Q:QS) (s:St):@vC P ⟨.loop c⟩ Q s=awp P (.loop c) Q.q s:=rfl
theorem ZoZ (id:Nat) (l:Array Oper) (Q:QS) (s:St):@vC P ⟨.region id l Ht⟩ Q s=awp P (.region id l Ht) Q.q s:=rfl
theorem Zah (K:St->Prop) (Q:Exit->St->Prop) (s:St):@vQ ⟨Xj K Q⟩ .normal s=K s:=rfl
theorem ZfX (K:St->Prop) (Q:Exit->St->Prop) (s:St):@vQ ⟨Xj K Q⟩ .ret s= @vQ ⟨Q⟩ .ret s:=rfl
theorem Zei (K:St->Prop) (Q:Exit->St->Prop) (id:Nat) (s:St):@vQ ⟨Xj K Q⟩ (.exit id) s= @vQ ⟨Q⟩ (.exit id) s:=rfl
theorem Zej (K:St->Prop) (Q:Exit->St->Prop) (id:Nat) (s:St):@vQ ⟨Xj K Q⟩ (.goto id) s= @vQ ⟨Q⟩ (.goto id) s:=rfl
theorem FQ (id:Nat) (Q:Exit->St->Prop) (s:St):@vQ ⟨TL id Q⟩ .normal s= @vQ ⟨Q⟩ .normal s:=rfl
theorem Zeg (id:Nat) (Q:Exit->St->Prop) (s:St):@vQ ⟨TL id Q⟩ .ret s= @vQ ⟨Q⟩ .ret s:=rfl
theorem Zcq (id l:Nat) (Q:Exit->St->Prop) (s:St):@vQ ⟨TL id Q⟩ (.goto l) s= @vQ ⟨Q⟩ (.goto l) s:=rfl
theorem Zcp (id j:Nat) (Q:Exit->St->Prop) (s:St):@vQ ⟨TL id Q⟩ (.exit j) s=(if j=id then @vQ ⟨Q⟩ .normal s else @vQ ⟨Q⟩ (.exit j) s):=rfl
theorem Zl {b:Bool} {A B:PR} (h1:b=Ht->A.p) (h2:b=Hf->B.p):@UB Ht (.bool b) A B:=⟨h1,h2⟩
theorem Zj {b:Bool} {A B:PR} (h1:b=Ht->B.p) (h2:b=Hf->A.p):@UB Hf (.bool b) A B:=⟨h2,h1⟩
theorem Zs {b:Bool} {A B:PR} (h1:b=Ht->A.p) (h2:b=Hf->B.p):@Zef (.bool b) A B:=⟨h1,h2⟩
theorem Zk {M:KH} {g:FuncId} {args args':List PV} {K:KR} {r:PV} (h1:Pure P g args' r) (h0:Jq M.m args) (he:Ju M.m args=args') (h2:K.k r M.m):@Vr P x M (Hs (g,args)) K:=
 .inl ⟨h0,.inl ⟨r,by rw[he];exact h1,h2⟩⟩
theorem Znl {M:KH} {g:FuncId} {args args':List PV} {K:KR} {r:PV} (h1:Pure P g args' r) (hn:r.nomap=Ht) (h0:Jq M.m args) (he:PV.sealL M.m.o (Ju M.m args)=args') (h2:K.k r M.m):@Vr P Ht M (Hs (g,args)) K:=
 .inl ⟨h0,.inr ⟨rfl,.inl ⟨r,by rw[he];exact h1,hn,h2⟩⟩⟩
theorem Zg1 {M:KH} {g:FuncId} {args:List PV} {K:KR} {A:Nat->List PV} {c c':MapC} {r:PV} (b:Nat) (h1:Wr P g A c r c') (h0:Jq M.m args) (he:Ju M.m args=A b) (hc:M.m.o b=Hs c) (h2:K.k r { M.m with o:=upd M.m.o b (Hs c') }):@Vr P Ht M (Hs (g,args)) K:=
 .inl ⟨h0,.inr ⟨rfl,.inr (.inl ⟨b,c,A,r,c',hc,he,h1,h2⟩)⟩⟩
theorem Znj {M:KH} {g:FuncId} {args args':List PV} {K:KR} {c:MapC} {r:Nat->PV} (h1:Mk P g args' r c) (h0:Jq M.m args) (he:Ju M.m args=args') (h2:∀b,M.m.o b=Hn->K.k (r b) { M.m with o:=upd M.m.o b (Hs c) }):@Vr P Ht M (Hs (g,args)) K:=
 .inl ⟨h0,.inr ⟨rfl,.inr (.inr (.inl ⟨r,c,by rw[he];exact h1,h2⟩))⟩⟩
theorem Znm {M:KH} {g:FuncId} {args args':List PV} {K:KR} {r:PV} (h1:Xt P g args' r) (h0:Jq M.m args) (he:Ju M.m args=args') (h2:K.k r M.m):@Vr P Ht M (Hs (g,args)) K:=
 .inl ⟨h0,.inr ⟨rfl,.inr (.inr (.inr (.inl ⟨r,by rw[he];exact h1,h2⟩)))⟩⟩
theorem V8 {M:KH} {g:FuncId} {args args0:List PV} {K:KR} {m0 m1:MemL} {r:PV} (f' g':Nat->Nat) (h1:Eff P g args0 m0 r m1) (hf:FitsM m0 m1 f' g' M.m) (he:Ju M.m args=args0.map (PV.ren f' g')) (h2:K.k (r.ren f' g') (Zcv m1 f' g' M.m)):@Vr P Ht M (Hs (g,args)) K:=
 .inr (.inl ⟨rfl,args0,m0,r,m1,f',g',h1,hf,he,h2⟩)
theorem Zco {x:Bool} {M:KH} {g:FuncId} {args:List PV} {K:KR} {r:PV} (pre post:List PV) (d:Nat) (L:List (Nat×List PV)) (h1:Pure P g (pre++ .rptr (L.map λx=> .sl .no x.2)::post) r) (hf:r.flatS=Ht) (hp:∀p∈pre,p.ids= []) (hp':∀p∈post,p.ids= [])
  (hh:M.m.h d=Hs (L.map λx=> .sl (.row x.1) x.2)) (hz:M.m.z d=Hf) (ha:args=pre++ .ptr d 0::post) (h2:K.k r M.m):@Vr P x M (Hs (g,args)) K:=
 .inr (.inr ⟨r,⟨pre,post,d,L,ha,hp,hp',hh,hz,h1,hf⟩,h2⟩)
def FV (P:Program) (r:PV) (s:St):List PV->List ResultVar->Prop
 |acc,[]=>(Zls acc.reverse).givable s.m/\r=(Zls acc.reverse).give s.m
 |acc,.tmp t::rs=>FV P r s (s.fr t::acc) rs
 |acc,.cell t ty::rs=>tkn P ty=Ht/\(VP P ty (s.fr t) s.m).ok/\FV P r s ((VP P ty (s.fr t) s.m).v::acc) rs
theorem Tb {fn:Func} {r:PV} {s:St}:∀(rs:List ResultVar) (acc:List PV),FV P r s acc rs->
  F0 (rs.map (G0 P s))/\(Zls (acc.reverse++rs.map λx=>(G0 P s x).v)).givable s.m/\r=(Zls (acc.reverse++rs.map λx=>(G0 P s x).v)).give s.m
 | [],acc,h=>by simpa[FV,F0]using h
 | .tmp t::rs,acc,h=>by
  obtain⟨h1,h2,h3⟩:=Tb (fn:=fn) rs _ h;refine⟨⟨trivial,h1⟩,?_,?_⟩;simpa[G0]using h2;simpa[G0]using h3
 | .cell t ty::rs,acc,h=>by
  obtain⟨h0,h0',h⟩:=h;obtain⟨h1,h2,h3⟩:=Tb (fn:=fn) rs _ h;refine⟨⟨?_,h1⟩,?_,?_⟩;simpa[G0,h0]using h0';simpa[G0,h0]using h2;simpa[G0,h0]using h3
def Zel (P:Program) (rs:List ResultVar) (r:PV):Exit->St->Prop
 | .normal,s=>FV P r s [] rs
 | .ret,s=>FV P r s [] rs
 |_,_=>False
theorem ZfY (rs:List ResultVar) (r:PV) (s:St):@vQ ⟨Zel P rs r⟩ .ret s=FV P r s [] rs:=rfl
theorem Zai (rs:List ResultVar) (r:PV) (s:St):@vQ ⟨Zel P rs r⟩ .normal s=FV P r s [] rs:=rfl
theorem pov {f:FuncId} {fn:Func} {c:Code} {args:List PV} {r:PV} {n:Nat} {rs:List ResultVar} (hf:P.funcs[f]? = Hs fn) (hname:fn.name≠ "runtime.NumGoroutine") (hb:fn.body=Hs c) (hn:fn.ntmps=n) (hrs:fn.results=rs.toArray) (hl:args.length<=n) (hi:r.dids= [])
  (h:@vC P ⟨c⟩ ⟨Zel P rs r⟩ (St.init args n)):Pure P f args r:=by
 subst hn;refine Pure.intro hf hname hb hl hi (Yy (λe s hq=> ?_) (ZQ _ _ _ h));have key:FV P r s [] rs->ZnP P fn r s:=λhv=>by
  unfold ZnP;rw[hrs];simpa using Tb (fn:=fn) rs [] hv
 cases e with
 |normal=>exact key hq
 |ret=>exact key hq
 |_=>exact hq
end
attribute [go_sem] ZfS Ziq ZfP ZfQ Zir ZfO Zec Zcn ZfR Zee Zed Zni Zk1 ZrM ZoY Zng Zo3 Znh Zo0 Zo1 Zo2 ZoZ ZoX ZrJ Ziu Zit ZhL ZhK Zah ZfX Zei Zej
 FQ Zeg Zcq Zcp ZfY Zai Zk7 Zk6 Zk5 Zk4 Zis Zo5 Zo4 Zpg
attribute [go_sem] vOp Zg5 Zix DU aop St.eval St.init XL St.put St.with Sd YR Se YS VP Wl Yu Hp.new Hp.empty Hp.setq Hp.freeze J9 ZlA ZlD ZlC ZlI Zlp aEq Xp UZ Wu PV.known KQ
 FZ W4 ZlB Zbt Zbs aUn UD WL ZlE ZlF ZlG Sc UN YL Fo Sf ZnG ZnB XT aMakeFull ZU Ub Wi ZV Jy Ju Jn Jq Kd JQ Tok.sh PV.clean Kf
 FV Zls frozenBy VR Jb Jr VV Zt ZgJ Zm0 Zgz ARes.fail XC ZP W0 Wb ZjM Gu mapIt Zmy Zot ZdM Zj3 PV.shut PV.sealL ZnD vmB Zf5 List.isEmpty_nil List.isEmpty_cons ZrK Znf ZrL ZdD W5 Zbm ZlO Zc5 Zd4 Zpy Zr2 findP Fs
attribute [go_sem ↓ high] Znn
attribute [go_sem] JK Ko List.cons_append
@[go_sem] theorem ZtO {α:Type} (f:Nat->α) (i j:Nat) (v:α):upd f i v j=if i=j then v else f j:=rfl
open Go.RowKit
structure Fp where
 rh:Bool:=Hf
 rz:Bool:=Hf
 rq:Bool:=Hf
 wh:Bool:=Hf
 wz:Bool:=Hf
 wq:Bool:=Hf
 nb:Bool:=Hf
 nq:Bool:=Hf
 ro:Bool:=Hf
 wo:Bool:=Hf
def fp:Op->Fp
 | .load _ _=> { rh:=Ht }
 | .convert _ _ _=> { rh:=Ht }
 | .store _ _ _=> { rh:=Ht,rz:=Ht,wh:=Ht }
 | .alloc _=> { nb:=Ht }
 | .box _ _=> { nb:=Ht }
 | .makeSlice _ _ _=> { nq:=Ht }
 | .buildSlice _ _ _=> { nq:=Ht }
 | .makeFunc _ _ caps=>if caps.isEmpty then {} else { rh:=Ht,wz:=Ht }
 | .lookup _ _ _ _=> { ro:=Ht }
 | .mapUpdate _ _ _ _=> { ro:=Ht,wo:=Ht }
 | .entry _=> { ro:=Ht }
 | .call { callee:= .builtin b,.. }=>match b with| .append=> { rq:=Ht,wq:=Ht }| .len=> { ro:=Ht }|_=> {}
 | .call _=> { rh:=Ht,rz:=Ht }
 |_=> {}
def Hp.hv (m:Hp):Ref->Option (List PV)
 | .b i=>m.h i
 | .r i=>m.v i
def Hp.io (m:Hp):(Nat->Option IterC)×(Nat->Option MapC)×(Nat->Option Nat)×(Nat->Option (Nat×Nat×Nat))×(Nat->Bool):=(m.it,m.om,m.ph,m.pq,m.vm)
theorem Ze7 (m:Hp) (d:Nat) (r:Row) (x:Ref):(m.setq d r).hv x=m.hv x:=by cases x<;>rfl
theorem Zml {a b:Hp} (h1:a.h=b.h) (h2:a.v=b.v) (x:Ref):a.hv x=b.hv x:=by cases x<;>simp[Hp.hv,h1,h2]
def Z8 (o:Oper) (ρ:Operand->PV):List Ref:=o.op.operands.toList.flatMap λx=>(ρ x).ids
def Wh (o:Oper) (ρ:Operand->PV) (r:Ref):Prop:=((fp o.op).wh=Ht/\r∈Z8 o ρ)\/((fp o.op).nb=Ht/\ ∃i,o.dst=Hs i/\r= .b i)
def Wz (o:Oper) (ρ:Operand->PV) (i:Nat):Prop:=((fp o.op).wz=Ht/\ .b i∈Z8 o ρ)\/((fp o.op).nb=Ht/\o.dst=Hs i)
def Wq (o:Oper) (ρ:Operand->PV) (i:Nat):Prop:=((fp o.op).wq=Ht/\(.r i∈Z8 o ρ\/o.dst=Hs i))\/((fp o.op).nq=Ht/\o.dst=Hs i)
structure Foot (P:Program) (o:Oper) (ρ:Operand->PV) (m:Hp) (v:PV) (m':Hp):Prop where
 h1:∀r,¬Wh o ρ r->m'.hv r=m.hv r
 z1:∀i,¬Wz o ρ i->m'.z i=m.z i
 q1:∀i,¬Wq o ρ i->m'.q i=m.q i
 hn:(fp o.op).nb=Ht-> ∀i,o.dst=Hs i->m.h i=Hn
 qn:(fp o.op).nq=Ht-> ∀i,o.dst=Hs i->m.q i=Hn
 hl:∀i,m.h i≠Hn->m'.h i≠Hn
 ql:∀i,m.q i≠Hn->m'.q i≠Hn
 o1:(fp o.op).wo=Hf->m'.o=m.o
 i1:m'.io=m.io
 re:∀m2:Hp,((fp o.op).rh=Ht-> ∀r,r∈Z8 o ρ->m2.hv r=m.hv r)->((fp o.op).rz=Ht-> ∀i,.b i∈Z8 o ρ->m2.z i=m.z i)->
  ((fp o.op).rq=Ht-> ∀i,(.r i∈Z8 o ρ\/o.dst=Hs i)->m2.q i=m.q i)->((fp o.op).nb=Ht-> ∀i,o.dst=Hs i->m2.h i=Hn)->((fp o.op).nq=Ht-> ∀i,o.dst=Hs i->m2.q i=Hn)->
  ((fp o.op).ro=Ht->m2.o=m.o)->m2.io=m.io->
  ∃m2',XR P o ρ m2 v m2'/\(∀r,(Wh o ρ r->m2'.hv r=m'.hv r)/\(¬Wh o ρ r->m2'.hv r=m2.hv r))/\(∀i,(Wz o ρ i->m2'.z i=m'.z i)/\(¬Wz o ρ i->m2'.z i=m2.z i))/\
   (∀i,(Wq o ρ i->m2'.q i=m'.q i)/\(¬Wq o ρ i->m2'.q i=m2.q i))/\(((fp o.op).wo=Ht->m2'.o=m'.o)/\((fp o.op).wo=Hf->m2'.o=m2.o))/\m2'.io=m2.io
def Wa (f:Hp->ARes):Prop:=∀m m2,(f m).ok->(f m).m=m/\(f m2).ok/\(f m2).v=(f m).v/\(f m2).m=m2
section
variable {P:Program}
theorem Zm {ok:Prop} {v:PV}:Wa λm=>⟨ok,v,m⟩:=λm m2 h=>⟨rfl,h,rfl,rfl⟩
theorem Zo:Wa λ_=>ARes.fail:=λm m2 h=>h.elim
theorem Za0 {c x y:PV}:Wa (FZ c x y):=λm m2 h=>by
 revert h;unfold FZ;split;exact Zm m m2;exact Zm m m2;exact Zo m m2
theorem Fl {t:TypeId} {x:PV} {f:Nat}:Wa (Sd P t x f):=λm m2 h=>by
 revert h;unfold Sd;split;exact Zm m m2;exact Zo m m2
theorem UX {t:TypeId} {x:PV} {f:Nat}:Wa (YR P t x f):=λm m2 h=>by
 revert h;unfold YR;split<;>first|exact Zm m m2|exact Zo m m2
theorem Fm {t:TypeId} {x y:PV}:Wa (Se P t x y):=λm m2 h=>by
 revert h;unfold Se;split<;>first|exact Zm m m2|exact Zo m m2
theorem UY {t:TypeId} {x y:PV}:Wa (YS P t x y):=λm m2 h=>by
 revert h;unfold YS;split<;>first|exact Zm m m2|exact Zo m m2
theorem Zj6 {op:BinOp} {k k':IntKind} {x y:Int}:Wa (ZlD op k k' x y):=λm m2 h=>by
 revert h;unfold ZlD;split<;>first|exact Zm m m2|exact Zo m m2
theorem Zj7 {op:BinOp} {x y:List UInt8}:Wa (ZlI op x y):=λm m2 h=>by
 revert h;unfold ZlI;split<;>first|exact Zm m m2|exact Zo m m2
theorem Zj5 {op:BinOp} {k k':FloatKind} {x y:Nat}:Wa (ZlC op k k' x y):=λm m2 h=>by
 revert h;unfold ZlC;split<;>first|exact Zm m m2|exact Zo m m2
theorem ZbU {b:Bool} {r:Option Bool}:Wa (aEq b r):=λm m2 h=>by
 revert h;unfold aEq;split<;>first|exact Zm m m2|exact Zo m m2
theorem Zj4 {b:Bool} {t:TypeId} {x y:PV}:Wa (Zlp P b t x y):=λm m2 h=>by
 revert h;unfold Zlp;split;split<;>first|exact ZbU m m2|exact Zo m m2
 split<;>first|exact ZbU m m2|exact Zo m m2
 split<;>first|exact ZbU m m2|exact Zo m m2
theorem Zdt {op:BinOp} {t:TypeId} {x y:PV}:Wa (ZlA P op t x y):=λm m2 h=>by
 revert h;unfold ZlA;split;exact Zj6 m m2;exact Zj7 m m2;exact Zj5 m m2;split<;>first|exact Zj4 m m2|exact Zo m m2
theorem ZgC {op:UnOp} {x:PV}:Wa (aUn op x):=λm m2 h=>by
 revert h;unfold aUn;split<;>first|exact Zm m m2|exact Zo m m2
theorem Zdu {x y:PV}:Wa (ZlB x y):=λm m2 h=>by
 revert h;unfold ZlB;split<;>first|exact Zm m m2|exact Zo m m2
theorem Za1 {x:PV}:Wa (Zbt x):=λm m2 h=>by
 revert h;unfold Zbt;split<;>first|exact Zm m m2|exact Zo m m2
theorem ZaZ {x:PV}:Wa (Zbs x):=λm m2 h=>by
 revert h;unfold Zbs;split<;>first|exact Zm m m2|exact Zo m m2
theorem Znw {a b:TypeId} {x:PV} {m:Hp} (h:(UD P a b x m).ok):(UD P a b x m).m=m:=by
 revert h;unfold UD;split;exact λ_=>rfl
 exact λ_=>rfl
 split;exact λ_=>rfl
 exact λh=>h.elim
 exact λ_=>rfl
 split;exact λ_=>rfl
 exact λh=>h.elim
 split;split;exact λ_=>rfl
 exact λh=>h.elim
 exact λh=>h.elim
 exact λh=>h.elim
theorem Zhy {a b:TypeId} {x:PV} {m m2:Hp} (hm:∀i,.b i∈x.ids->m2.h i=m.h i) (h:(UD P a b x m).ok):(UD P a b x m2).ok/\(UD P a b x m2).v=(UD P a b x m).v/\(UD P a b x m2).m=m2:=by
 revert h;unfold UD;split;exact λ_=>⟨trivial,rfl,rfl⟩
 exact λ_=>⟨trivial,rfl,rfl⟩
 split;exact λh=>⟨h,rfl,rfl⟩
 exact λh=>h.elim
 exact λ_=>⟨trivial,rfl,rfl⟩
 split;exact λ_=>⟨trivial,rfl,rfl⟩
 exact λh=>h.elim
 rename_i id off len sz _;have e:=hm id (by simp[Jb]);simp only[e];split;split;exact λh=>⟨h,rfl,rfl⟩
 exact λh=>h.elim
 exact λh=>h.elim
 exact λh=>h.elim
theorem SD {x:PV} {i:Nat}:Wa (WL x i):=λm m2 h=>by
 revert h;unfold WL;split<;>first|exact Zm m m2|exact Zo m m2
theorem TN {x:PV}:Wa (W4 x):=λm m2 h=>by
 revert h;unfold W4;split<;>first|exact Zm m m2|exact Zo m m2
theorem Zdv {t:TypeId} {x:PV}:Wa (ZlE P t x):=λm m2 h=>by
 revert h;unfold ZlE;split<;>first|exact Zm m m2|exact Zo m m2
theorem Zdw {x y:PV}:Wa (ZlF x y):=λm m2 h=>by
 revert h;unfold ZlF;split<;>first|exact Zm m m2|exact Zo m m2
theorem Zdx {x y:PV}:Wa (ZlG x y):=λm m2 h=>by
 revert h;unfold ZlG;split<;>first|exact Zm m m2|exact Zo m m2
theorem Fk {t:TypeId} {l:List (Nat×PV)}:Wa (Sc P t l):=λm m2 h=>by
 revert h;unfold Sc;split;split<;>first|exact Zm m m2|exact Zo m m2
 split<;>first|exact Zm m m2|exact Zo m m2
 exact Zo m m2
theorem Fn {t:TypeId} {x:PV} {lo hi:Option PV}:Wa (Sf P t x lo hi):=λm m2 h=>by
 revert h;unfold Sf;split;split<;>first|exact Zm m m2|exact Zo m m2
 split<;>first|exact Zm m m2|exact Zo m m2
 split<;>first|exact Zm m m2|exact Zo m m2
 split<;>first|exact Zm m m2|exact Zo m m2
 exact Zo m m2
theorem Foot.noMem {o:Oper} {ρ:Operand->PV} {m:Hp} (hn:Wa (aop P o ρ)) (hf1:(fp o.op).nb=Hf) (hf2:(fp o.op).nq=Hf) (hf3:(fp o.op).wh=Hf) (hf4:(fp o.op).wz=Hf) (hf5:(fp o.op).wq=Hf) (hf6:(fp o.op).wo=Hf) (hok:(aop P o ρ m).ok):
  Foot P o ρ m (aop P o ρ m).v (aop P o ρ m).m:=by
 obtain⟨e,_⟩:=hn m m hok;rw[e];refine⟨λ_ _=>rfl,λ_ _=>rfl,λ_ _=>rfl,λh=>(by rw[hf1]at h;cases h),λh=>(by rw[hf2]at h;cases h),λ_ h=>h,λ_ h=>h,λ_=>rfl,rfl,λm2 _ _ _ _ _ _ _=> ?_⟩;obtain⟨_,g1,g2,g3⟩:=hn m m2 hok;refine⟨m2,.inl ⟨g1,g2.symm,g3.symm⟩,λi=>⟨λh=> ?_,λ_=>rfl⟩,λi=>⟨λh=> ?_,λ_=>rfl⟩,λi=>⟨λh=> ?_,λ_=>rfl⟩,⟨λh=>(by rw[hf6]at h;cases h),λ_=>rfl⟩,rfl⟩;simp[Wh,hf1,hf3]at h;simp[Wz,hf1,hf4]at h;simp[Wq,hf2,hf5]at h
theorem Foot.newB {o:Oper} {ρ:Operand->PV} {m:Hp} {d:Nat} {v:PV} {cs:List PV} {ok:Prop} (hd:o.dst=Hs d) (hop:∀m:Hp,aop P o ρ m=⟨m.h d=Hn/\ok,v,m.new d cs⟩)
  (hf:fp o.op= { nb:=Ht }) (hok:(aop P o ρ m).ok):Foot P o ρ m (aop P o ρ m).v (aop P o ρ m).m:=by
 rw[hop]at hok ⊢;simp only at hok ⊢;have W1:∀r,Wh o ρ r↔r= .b d:=λr=>by simp[Wh,hf,hd]
 have W2:∀i,Wz o ρ i↔i=d:=λi=>by simp[Wz,hf,hd,eq_comm]
 have W3:∀i,¬Wq o ρ i:=λi=>by simp[Wq,hf]
 have n0:∀(m:Hp) i,i≠d->(m.new d cs).h i=m.h i:=λm i h=>Zg _ _ (Jz h)
 have n1:∀(m:Hp) r,r≠ .b d->(m.new d cs).hv r=m.hv r:=λm r h=>by cases r with|b i=>exact n0 m i (λe=>h (by rw[e]))|r i=>rfl
 have n2:∀(m:Hp) i,i≠d->(m.new d cs).z i=m.z i:=λm i h=>Zg _ _ (Jz h)
 have n3':∀(m:Hp),(m.new d cs).h d=Hs cs:=λm=>Za _ _ _
 have n3:∀(m:Hp),(m.new d cs).hv (.b d)=Hs cs:=λm=>Za _ _ _
 have n4:∀(m:Hp),(m.new d cs).z d=false:=λm=>Za _ _ _
 refine⟨λi h=>n1 m i (λe=>h ((W1 i).2 e)),λi h=>n2 m i (λe=>h ((W2 i).2 e)),λ_ _=>rfl,λ_ i hi=> ?_,λh=> ?_,λi h=> ?_,λ_ h=>h,λ_=>rfl,rfl,λm2 _ _ _ h4 _ _ _=> ?_⟩;rw[hd]at hi;cases hi;exact hok.1;rw[hf]at h;cases h;by_cases e:i=d;subst e;rw[n3'];simp;rw[n0 m i e];exact h;refine⟨m2.new d cs,.inl ?_,λi=>⟨λh=> ?_,λh=>n1 m2 i (λe=>h ((W1 i).2 e))⟩,λi=>⟨λh=> ?_,λh=>n2 m2 i (λe=>h ((W2 i).2 e))⟩,λi=>⟨λh=>absurd h (W3 i),λ_=>rfl⟩,⟨λh=>(by rw[hf]at h;cases h),λ_=>rfl⟩,rfl⟩;rw[hop];exact⟨⟨h4 (by rw[hf]) d hd,hok.2⟩,rfl,rfl⟩;obtain rfl:=(W1 i).1 h;rw[n3,n3];obtain rfl:=(W2 i).1 h;rw[n4,n4]
theorem Foot.newQ {o:Oper} {ρ:Operand->PV} {m:Hp} {d:Nat} {v:PV} {r:Row} {ok:Prop} (hd:o.dst=Hs d) (hop:∀m:Hp,aop P o ρ m=⟨m.q d=Hn/\ok,v,m.setq d r⟩)
  (hf:fp o.op= { nq:=Ht }) (hok:(aop P o ρ m).ok):Foot P o ρ m (aop P o ρ m).v (aop P o ρ m).m:=by
 rw[hop]at hok ⊢;simp only at hok ⊢;have W1:∀i,¬Wh o ρ i:=λi=>by simp[Wh,hf]
 have W2:∀i,¬Wz o ρ i:=λi=>by simp[Wz,hf]
 have W3:∀i,Wq o ρ i↔i=d:=λi=>by simp[Wq,hf,hd,eq_comm]
 have n1:∀(m:Hp) i,i≠d->(m.setq d r).q i=m.q i:=λm i h=>Zg _ _ (Jz h)
 have n3:∀(m:Hp),(m.setq d r).q d=Hs r:=λm=>Za _ _ _
 refine⟨λx _=>Ze7 _ _ _ x,λ_ _=>rfl,λi h=>n1 m i (λe=>h ((W3 i).2 e)),λh=> ?_,λ_ i hi=> ?_,λ_ h=>h,λi h=> ?_,λ_=>rfl,rfl,λm2 _ _ _ _ h5 _ _=> ?_⟩;rw[hf]at h;cases h;rw[hd]at hi;cases hi;exact hok.1;by_cases e:i=d;subst e;rw[n3];simp;rw[n1 m i e];exact h;refine⟨m2.setq d r,.inl ?_,λi=>⟨λh=>absurd h (W1 i),λ_=>Ze7 _ _ _ i⟩,λi=>⟨λh=>absurd h (W2 i),λ_=>rfl⟩,λi=>⟨λh=> ?_,λh=>n1 m2 i (λe=>h ((W3 i).2 e))⟩,⟨λh=>(by rw[hf]at h;cases h),λ_=>rfl⟩,rfl⟩;rw[hop];exact⟨⟨h5 (by rw[hf]) d hd,hok.2⟩,rfl,rfl⟩;obtain rfl:=(W3 i).1 h;rw[n3,n3]
end
end Go.PL
namespace Go.PL
open Go.RowKit
section
variable {P:Program}
mutual
theorem ZhO {m m2:Hp}:∀(p:PV),(∀i,.b i∈p.ids->m2.h i=m.h i/\m2.z i=m.z i)->p.give m2=p.give m/\(p.givable m->p.givable m2)
 | .ptr id off,h=>by
  obtain⟨h1,h2⟩:=h id (by simp[Jb]);simp[Jy,Jn,h1,h2]
 | .osl _ _ _ _,_=>by simp[Jy,Jn]
 | .agg cs,h=>by
  obtain⟨h1,h2⟩:=Vc cs (λi hi=>h i (by simpa[Jb]using hi));simp only[Jy,Jn,h1];exact⟨trivial,h2⟩
 | .tup cs,h=>by
  obtain⟨h1,h2⟩:=Vc cs (λi hi=>h i (by simpa[Jb]using hi));simp only[Jy,Jn,h1];exact⟨trivial,h2⟩
 | .fn f cs,h=>by
  obtain⟨h1,h2⟩:=Vc cs (λi hi=>h i (by simpa[Jb]using hi));simp only[Jy,Jn,h1];exact⟨trivial,h2⟩
 | .any,_=>by simp[Jy,Jn]
 | .int _ _,_=>by simp[Jy,Jn]
 | .bool _,_=>by simp[Jy,Jn]
 | .str _,_=>by simp[Jy,Jn]
 | .flt _ _,_=>by simp[Jy,Jn]
 | .cpx _ _ _,_=>by simp[Jy,Jn]
 | .sl _ _,_=>by simp[Jy,Jn]
 | .rptr _,_=>by simp[Jy,Jn]
 | .nilp,_=>by simp[Jy,Jn]
 | .nilfn,_=>by simp[Jy,Jn]
 | .nilmap,_=>by simp[Jy,Jn]
 | .mref _,_=>by simp[Jy,Jn]
 | .iptr _,_=>by simp[Jy,Jn]
 | .rmap _ _,_=>by simp[Jy,Jn]
 | .vsl _ _ _,_=>by simp[Jy,Jn]
 | .vptr _ _ _ _ _,_=>by simp[Jy,Jn]
theorem Vc {m m2:Hp}:∀(cs:List PV),(∀i,.b i∈Jr cs->m2.h i=m.h i/\m2.z i=m.z i)->Ju m2 cs=Ju m cs/\(Jq m cs->Jq m2 cs)
 | [],_=>by simp[Ju,Jq]
 |c::cs,h=>by
  obtain⟨h1,h2⟩:=ZhO c (λi hi=>h i (by simp[Jr,hi]));obtain⟨h3,h4⟩:=Vc cs (λi hi=>h i (by simp[Jr,hi]));simp only[Ju,Jq,h1,h3];exact⟨trivial,λh=>⟨h2 h.1,h4 h.2⟩⟩
end
theorem Zjs {o:Oper} {ρ:Operand->PV} {m:Hp} {v:PV} {c:Call} {g:FuncId} {args:List PV} (ho:o.op= .call c) (hc:ZV ρ c=Hs (g,args)) (hg:Jq m args) (hp:Pure P g (Ju m args) v):Foot P o ρ m v m:=by
 have hval:∃f,c.callee= .value f/\ ∃caps,ρ f= .fn g caps/\args=c.args.toList.map ρ++caps:=by
  unfold ZV at hc;split at hc;rename_i f hf;split at hc;rename_i g' caps hcap;simp only[Jm.injEq,Ki.injEq]at hc;obtain⟨rfl,rfl⟩:=hc;exact⟨f,hf,caps,hcap,rfl⟩;cases hc;cases hc
 obtain⟨f,hf,caps,hcap,rfl⟩:=hval;obtain⟨callee,cargs,ts⟩:=c;simp only at hf;subst hf;have hfp:fp o.op= { rh:=Ht,rz:=Ht }:=by rw[ho];rfl
 have W1:∀i,¬Wh o ρ i:=λi=>by simp[Wh,hfp]
 have W2:∀i,¬Wz o ρ i:=λi=>by simp[Wz,hfp]
 have W3:∀i,¬Wq o ρ i:=λi=>by simp[Wq,hfp]
 refine⟨λ_ _=>rfl,λ_ _=>rfl,λ_ _=>rfl,λh=>(by rw[hfp]at h;cases h),λh=>(by rw[hfp]at h;cases h),λ_ h=>h,λ_ h=>h,λ_=>rfl,rfl,λm2 a1 a2 _ _ _ _ _=> ?_⟩;have hrefs:∀i,.b i∈Jr (cargs.toList.map ρ++caps)-> .b i∈Z8 o ρ:=λi hi=>by
  unfold Z8;rw[ho];obtain⟨x,hx,hix⟩:=Js.1 hi;rw[Jp];rcases Jj.1 hx with hx|hx;obtain⟨y,hy,rfl⟩:=Je.1 hx;exact⟨y,by simp only[Ja,Call.operands];simp;right;simpa using hy,hix⟩;exact⟨f,by simp[Ja,Call.operands],by rw[hcap];exact Js.2 ⟨x,hx,hix⟩⟩
 obtain⟨g1,g2⟩:=Vc (m:=m) (m2:=m2) (cargs.toList.map ρ++caps) (λi hi=>⟨a1 (by rw[hfp]) (.b i) (hrefs i hi),a2 (by rw[hfp]) i (hrefs i hi)⟩);refine⟨m2,.inr ⟨_,g,_,ho,hc,.inl ⟨g2 hg,by rw[g1];exact hp⟩,rfl⟩,λi=>⟨λh=>absurd h (W1 i),λ_=>rfl⟩,λi=>⟨λh=>absurd h (W2 i),λ_=>rfl⟩,λi=>⟨λh=>absurd h (W3 i),λ_=>rfl⟩,⟨λh=>(by rw[hfp]at h;cases h),λ_=>rfl⟩,rfl⟩
theorem Zju {o:Oper} {ρ:Operand->PV} {m:Hp} {v:PV} {c:Call} {g:FuncId} {args:List PV} (ho:o.op= .call c) (hc:ZV ρ c=Hs (g,args)) (hp:Zr0 P m g args v):Foot P o ρ m v m:=by
 have hval:∃f,c.callee= .value f/\ ∃caps,ρ f= .fn g caps/\args=c.args.toList.map ρ++caps:=by
  unfold ZV at hc;split at hc;rename_i f hf;split at hc;rename_i g' caps hcap;simp only[Jm.injEq,Ki.injEq]at hc;obtain⟨rfl,rfl⟩:=hc;exact⟨f,hf,caps,hcap,rfl⟩;cases hc;cases hc
 obtain⟨f,hf,caps,hcap,rfl⟩:=hval;obtain⟨callee,cargs,ts⟩:=c;simp only at hf;subst hf;have hfp:fp o.op= { rh:=Ht,rz:=Ht }:=by rw[ho];rfl
 have W1:∀i,¬Wh o ρ i:=λi=>by simp[Wh,hfp]
 have W2:∀i,¬Wz o ρ i:=λi=>by simp[Wz,hfp]
 have W3:∀i,¬Wq o ρ i:=λi=>by simp[Wq,hfp]
 refine⟨λ_ _=>rfl,λ_ _=>rfl,λ_ _=>rfl,λh=>(by rw[hfp]at h;cases h),λh=>(by rw[hfp]at h;cases h),λ_ h=>h,λ_ h=>h,λ_=>rfl,rfl,λm2 a1 a2 _ _ _ _ _=> ?_⟩;have hrefs:∀i,.b i∈Jr (cargs.toList.map ρ++caps)-> .b i∈Z8 o ρ:=λi hi=>by
  unfold Z8;rw[ho];obtain⟨x,hx,hix⟩:=Js.1 hi;rw[Jp];rcases Jj.1 hx with hx|hx;obtain⟨y,hy,rfl⟩:=Je.1 hx;exact⟨y,by simp only[Ja,Call.operands];simp;right;simpa using hy,hix⟩;exact⟨f,by simp[Ja,Call.operands],by rw[hcap];exact Js.2 ⟨x,hx,hix⟩⟩
 obtain⟨pre,post,d,L,ha,hp1,hp2,hh,hz,hP,hfl⟩:=hp;have hdr: .b d∈Z8 o ρ:=hrefs d (by rw[ha];exact Js.2 ⟨.ptr d 0,by simp,by simp[Jb]⟩);have e1:m2.h d=m.h d:=a1 (by rw[hfp]) (.b d) hdr;have e2:m2.z d=m.z d:=a2 (by rw[hfp]) d hdr;refine⟨m2,.inr ⟨_,g,_,ho,hc,.inr ⟨pre,post,d,L,ha,hp1,hp2,by rw[e1];exact hh,by rw[e2];exact hz,hP,hfl⟩,rfl⟩,λi=>⟨λh=>absurd h (W1 i),λ_=>rfl⟩,λi=>⟨λh=>absurd h (W2 i),λ_=>rfl⟩,λi=>⟨λh=>absurd h (W3 i),λ_=>rfl⟩,⟨λh=>(by rw[hfp]at h;cases h),λ_=>rfl⟩,rfl⟩
theorem Zjv {o:Oper} {ρ:Operand->PV} {m:Hp} {t:TypeId} {x:Operand} (ho:o.op= .load t x) (hok:(aop P o ρ m).ok):Foot P o ρ m (aop P o ρ m).v (aop P o ρ m).m:=by
 have hfp:fp o.op= { rh:=Ht }:=by rw[ho];rfl
 have W1:∀i,¬Wh o ρ i:=λi=>by simp[Wh,hfp]
 have W2:∀i,¬Wz o ρ i:=λi=>by simp[Wz,hfp]
 have W3:∀i,¬Wq o ρ i:=λi=>by simp[Wq,hfp]
 have hop:∀m,aop P o ρ m=if tkn P t then VP P t (ρ x) m else .fail:=λm=>by unfold aop;rw[ho]
 have hrefs:∀r,r∈(ρ x).ids->r∈Z8 o ρ:=λi hi=>by
  unfold Z8;rw[ho];exact Jp.2 ⟨x,by simp[Ja],hi⟩
 have key:∀m2:Hp,(∀r,r∈(ρ x).ids->m2.hv r=m.hv r)->(aop P o ρ m).m=m/\(aop P o ρ m2).ok/\(aop P o ρ m2).v=(aop P o ρ m).v/\(aop P o ρ m2).m=m2:=by
  intro m2 h2;rw[hop]at hok ⊢;rw[hop];split at hok;rename_i hk;simp only[hk,if_true];revert hok;unfold VP;cases hx:ρ x with
  |rptr cs=>exact λh=>⟨rfl,h,rfl,rfl⟩
  |ptr id off=>
   have:m2.h id=m.h id:=h2 (.b id) (by rw[hx];simp[Jb]);simp only[this];cases m.h id with
   |none=>exact λh=>h.elim
   |some cs=>exact λh=>⟨rfl,h,rfl,rfl⟩
  |vptr id n z i off=>
   have:m2.v id=m.v id:=h2 (.r id) (by rw[hx];simp[Jb]);simp only[this];cases m.v id with
   |none=>exact λh=>h.elim
   |some es=>exact λh=>⟨rfl,h,rfl,rfl⟩
  |_=>exact λh=>h.elim
  exact hok.elim
 obtain⟨e,_⟩:=key m (λ_ _=>rfl);rw[e];refine⟨λ_ _=>rfl,λ_ _=>rfl,λ_ _=>rfl,λh=>(by rw[hfp]at h;cases h),λh=>(by rw[hfp]at h;cases h),λ_ h=>h,λ_ h=>h,λ_=>rfl,rfl,λm2 a1 _ _ _ _ _ _=> ?_⟩;obtain⟨_,g1,g2,g3⟩:=key m2 (λi hi=>a1 (by rw[hfp]) i (hrefs i hi));exact⟨m2,.inl ⟨g1,g2.symm,g3.symm⟩,λi=>⟨λh=>absurd h (W1 i),λ_=>rfl⟩,λi=>⟨λh=>absurd h (W2 i),λ_=>rfl⟩,λi=>⟨λh=>absurd h (W3 i),λ_=>rfl⟩,⟨λh=>(by rw[hfp]at h;cases h),λ_=>rfl⟩,rfl⟩
theorem Zjt {o:Oper} {ρ:Operand->PV} {m:Hp} {t u:TypeId} {x:Operand} (ho:o.op= .convert t u x) (hok:(aop P o ρ m).ok):Foot P o ρ m (aop P o ρ m).v (aop P o ρ m).m:=by
 have hfp:fp o.op= { rh:=Ht }:=by rw[ho];rfl
 have W1:∀i,¬Wh o ρ i:=λi=>by simp[Wh,hfp]
 have W2:∀i,¬Wz o ρ i:=λi=>by simp[Wz,hfp]
 have W3:∀i,¬Wq o ρ i:=λi=>by simp[Wq,hfp]
 have hop:∀m,aop P o ρ m=UD P t u (ρ x) m:=λm=>by unfold aop;rw[ho]
 have hrefs:∀i,.b i∈(ρ x).ids-> .b i∈Z8 o ρ:=λi hi=>by
  unfold Z8;rw[ho];exact Jp.2 ⟨x,by simp[Ja],hi⟩
 have e:(aop P o ρ m).m=m:=by rw[hop]at hok ⊢;exact Znw hok
 rw[e];refine⟨λ_ _=>rfl,λ_ _=>rfl,λ_ _=>rfl,λh=>(by rw[hfp]at h;cases h),λh=>(by rw[hfp]at h;cases h),λ_ h=>h,λ_ h=>h,λ_=>rfl,rfl,λm2 a1 _ _ _ _ _ _=> ?_⟩;have hok':(UD P t u (ρ x) m).ok:=by rw[<-hop];exact hok
 obtain⟨g1,g2,g3⟩:=Zhy (m2:=m2) (λi hi=>a1 (by rw[hfp]) (.b i) (hrefs i hi)) hok';exact⟨m2,.inl ⟨by rw[hop];exact g1,by rw[hop,hop];exact g2.symm,by rw[hop];exact g3.symm⟩,λi=>⟨λh=>absurd h (W1 i),λ_=>rfl⟩,λi=>⟨λh=>absurd h (W2 i),λ_=>rfl⟩,λi=>⟨λh=>absurd h (W3 i),λ_=>rfl⟩,⟨λh=>(by rw[hfp]at h;cases h),λ_=>rfl⟩,rfl⟩
theorem ZhI {o:Oper} {ρ:Operand->PV} {m:Hp} {t:TypeId} {x y:Operand} (ho:o.op= .store t x y) (hok:(aop P o ρ m).ok):Foot P o ρ m (aop P o ρ m).v (aop P o ρ m).m:=by
 have hfp:fp o.op= { rh:=Ht,rz:=Ht,wh:=Ht }:=by rw[ho];rfl
 have W2:∀i,¬Wz o ρ i:=λi=>by simp[Wz,hfp]
 have W3:∀i,¬Wq o ρ i:=λi=>by simp[Wq,hfp]
 have hop:∀m,aop P o ρ m=if tkn P t then Wl P t (ρ x) (ρ y) m else .fail:=λm=>by unfold aop;rw[ho]
 have hrefs:∀r,r∈(ρ x).ids->r∈Z8 o ρ:=λi hi=>by
  unfold Z8;rw[ho];exact Jp.2 ⟨x,by simp[Ja],hi⟩
 have W1:∀r,Wh o ρ r↔r∈Z8 o ρ:=λi=>by simp[Wh,hfp]
 rw[hop]at hok ⊢;split at hok;rename_i hk;simp only[hk,if_true];revert hok;unfold Wl;cases hx:ρ x with
 |ptr id off=>
  simp only;cases hid:m.h id with
  |none=>exact λh=>h.elim
  |some cs=>
   rintro ⟨g0,g1,g2,g3,g4⟩
   have hin: .b id∈Z8 o ρ:=hrefs (.b id) (by rw[hx];simp[Jb]);have n0:∀(m:Hp) i,i≠id->(upd m.h id (Hs (Yu cs off (ρ y).cells))) i=m.h i:=λm i h=>Zg _ _ (Jz h)
   have n1:∀(m:Hp) r,r≠ .b id->({ m with h:=upd m.h id (Hs (Yu cs off (ρ y).cells)) }:Hp).hv r=m.hv r:=λm r h=>by cases r with|b i=>exact n0 m i (λe=>h (by rw[e]))|r i=>rfl
   refine⟨λi h=>n1 m i (λe=>h ((W1 i).2 (e▸hin))),λ_ _=>rfl,λ_ _=>rfl,λh=>(by rw[hfp]at h;cases h),λh=>(by rw[hfp]at h;cases h),λi h=> ?_,λ_ h=>h,λ_=>rfl,rfl,λm2 a1 a2 _ _ _ _ _=> ?_⟩
   ·show upd m.h id _ i≠Hn
    by_cases e:i=id
    ·subst e;rw[Za];simp
    ·rw[n0 m i e];exact h
   ·have hid2:m2.h id=Hs cs:=(a1 (by rw[hfp]) (.b id) hin).trans hid;have hz2:=(a2 (by rw[hfp]) id hin).trans g0;refine⟨{ m2 with h:=upd m2.h id (Hs (Yu cs off (ρ y).cells)) },.inl ?_,λi=>⟨λh=> ?_,λh=>n1 m2 i (λe=>h ((W1 i).2 (e▸hin)))⟩,λi=>⟨λh=>absurd h (W2 i),λ_=>rfl⟩,λi=>⟨λh=>absurd h (W3 i),λ_=>rfl⟩,⟨λh=>(by rw[hfp]at h;cases h),λ_=>rfl⟩,rfl⟩
    ·rw[hop];simp only[hk,if_true,Wl,hx,hid2];exact⟨⟨hz2,g1,g2,g3,g4⟩,trivial,trivial⟩
    ·by_cases e:i= .b id
     ·subst e;show upd m2.h id _ id=upd m.h id _ id;rw[Za,Za]
     ·rw[n1 m2 i e,n1 m i e];exact a1 (by rw[hfp]) i ((W1 i).1 h)
 |vptr id n z k off=>
  simp only;cases hid:m.v id with
  |none=>exact λh=>h.elim
  |some es=>
   intro g0;have hin: .r id∈Z8 o ρ:=hrefs (.r id) (by rw[hx];simp[Jb]);have n1:∀(m:Hp) (x:List PV) r,r≠ .r id->({ m with v:=upd m.v id (Hs x) }:Hp).hv r=m.hv r:=λm x r h=>by cases r with|r i=>exact Zg _ _ (λe=>h (by rw[e]))|b i=>rfl
   refine⟨λi h=>n1 m _ i (λe=>h ((W1 i).2 (e▸hin))),λ_ _=>rfl,λ_ _=>rfl,λh=>(by rw[hfp]at h;cases h),λh=>(by rw[hfp]at h;cases h),λi h=>h,λ_ h=>h,λ_=>rfl,rfl,λm2 a1 a2 _ _ _ _ _=> ?_⟩;have hid2:m2.v id=Hs es:=(a1 (by rw[hfp]) (.r id) hin).trans hid;refine⟨{ m2 with v:=upd m2.v id (Hs (es.set k (Fs (es.getD k .any) off (ρ y)))) },.inl ?_,λi=>⟨λh=> ?_,λh=>n1 m2 _ i (λe=>h ((W1 i).2 (e▸hin)))⟩,λi=>⟨λh=>absurd h (W2 i),λ_=>rfl⟩,λi=>⟨λh=>absurd h (W3 i),λ_=>rfl⟩,⟨λh=>(by rw[hfp]at h;cases h),λ_=>rfl⟩,rfl⟩
   ·rw[hop];simp only[hk,if_true,Wl,hx,hid2];exact⟨g0,trivial,trivial⟩
   ·by_cases e:i= .r id
    ·subst e;show upd m2.v id _ id=upd m.v id _ id;rw[Za,Za]
    ·rw[n1 m2 _ i e,n1 m _ i e];exact a1 (by rw[hfp]) i ((W1 i).1 h)
 |_=>exact λh=>h.elim
 exact hok.elim
theorem Tq (m:Hp):∀cs,(frozenBy m cs).o=m.o
 | []=>rfl
 |c::cs=>by
  cases c<;>first|exact Tq m cs|exact Tq (m.freeze _) cs
theorem TV (m:Hp):∀cs,(frozenBy m cs).it=m.it
 | []=>rfl
 |c::cs=>by
  cases c<;>first|exact TV m cs|exact TV (m.freeze _) cs
theorem TW (m:Hp):∀cs,(frozenBy m cs).om=m.om
 | []=>rfl
 |c::cs=>by
  cases c<;>first|exact TW m cs|exact TW (m.freeze _) cs
theorem Gp (m:Hp):∀cs,(frozenBy m cs).v=m.v
 | []=>rfl
 |c::cs=>by
  cases c<;>first|exact Gp m cs|exact Gp (m.freeze _) cs
theorem D5 (m:Hp) (cs:List PV) (x:Ref):(frozenBy m cs).hv x=m.hv x:=Zml (Wd m cs) (Gp m cs) x
theorem Va (m:Hp):∀cs,(frozenBy m cs).ph=m.ph/\(frozenBy m cs).pq=m.pq/\(frozenBy m cs).vm=m.vm
 | []=>⟨rfl,rfl,rfl⟩
 |c::cs=>by
  cases c<;>first|exact Va m cs|exact Va (m.freeze _) cs
theorem D6 (m:Hp) (cs:List PV):(frozenBy m cs).io=m.io:=by unfold Hp.io;rw[TV,TW,(Va m cs).1,(Va m cs).2.1,(Va m cs).2.2]
theorem TX (m:Hp):∀(cs:List PV) (i:Nat),m.z i=Ht->(frozenBy m cs).z i=Ht
 | [],i,h=>h
 |c::cs,i,h=>by
  cases c with
  |ptr id off=>
   refine TX (m.freeze id) cs i ?_;show upd m.z id Ht i=Ht;by_cases e:id=i;subst e;exact Za _ _ _;rw[Zg _ _ e];exact h
  |_=>exact TX m cs i h
theorem TY (m:Hp):∀(cs:List PV) (i off:Nat),KC i off∈cs->(frozenBy m cs).z i=Ht
 | [],i,off,h=>by cases h
 |c::cs,i,off,h=>by
  rcases JN.1 h with rfl|h';exact TX (m.freeze i) cs i (Za _ _ _);cases c with
  |ptr id o=>exact TY (m.freeze id) cs i off h'
  |_=>exact TY m cs i off h'
theorem D7 (m:Hp):∀(cs:List PV) (i:Nat),(∀off,KC i off∉cs)->(frozenBy m cs).z i=m.z i
 | [],i,h=>rfl
 |c::cs,i,h=>by
  have ih:=λm=>D7 m cs i (λoff ho=>h off (by simp[ho]))
  cases c with
  |ptr id o=>
   refine(ih (m.freeze id)).trans (Zg _ _ λe=> ?_);subst e;exact h o (by simp)
  |_=>exact ih m
theorem GR {m m2:Hp}:∀(cs:List PV),(∀i,.b i∈Jr cs->m2.h i=m.h i)->VR m cs->VR m2 cs
 | [],_,_=>trivial
 |c::cs,h,hk=>by
  have ih:=GR (m:=m) (m2:=m2) cs (λi hi=>h i (by simp[Jr,hi]));cases c with
  |ptr id off=>
   obtain⟨h1,h2⟩:=hk;refine⟨?_,ih h2⟩;rw[h id (by simp[Jr,Jb])];exact h1
  |_=>exact⟨hk.1,ih hk.2⟩
theorem DN {m:Hp}:∀ {cs:List PV},VR m cs-> ∀i,.b i∈Jr cs-> ∃off,KC i off∈cs
 | [],_,i,hi=>by simp[Jr]at hi
 |c::cs,hk,i,hi=>by
  simp only[Jr,Jj]at hi;rcases hi with hi|hi;cases c with
  |ptr id off=>simp[Jb]at hi;subst hi;exact⟨off,by simp⟩
  |_=>obtain⟨h1,_⟩:=hk;rw[h1]at hi;cases hi
  have hk2:VR m cs:=by cases c<;>exact hk.2
  obtain⟨off,ho⟩:=DN hk2 i hi;exact⟨off,by simp[ho]⟩
theorem ZbH {o:Oper} {ρ:Operand->PV} {m:Hp} {f:FuncId} {first caps:Array Operand} (ho:o.op= .makeFunc (.func f) first caps) (hok:(aop P o ρ m).ok):Foot P o ρ m (aop P o ρ m).v (aop P o ρ m).m:=by
 have hop:∀m,aop P o ρ m=if first.isEmpty then⟨VR m (caps.toList.map ρ),.fn f (caps.toList.map ρ),frozenBy m (caps.toList.map ρ)⟩else .fail:=λm=>by unfold aop;rw[ho]
 rw[hop]at hok ⊢;split at hok;rename_i hfe;simp only[hfe,if_true];simp only at hok;by_cases hce:caps.isEmpty=Ht;have hc0:caps= #[]:=by simpa using hce
 subst hc0;have hfp:fp o.op= {}:=by rw[ho];rfl
 have W1:∀i,¬Wh o ρ i:=λi=>by simp[Wh,hfp]
 have W2:∀i,¬Wz o ρ i:=λi=>by simp[Wz,hfp]
 have W3:∀i,¬Wq o ρ i:=λi=>by simp[Wq,hfp]
 refine⟨λ_ _=>rfl,λ_ _=>rfl,λ_ _=>rfl,λh=>(by rw[hfp]at h;cases h),λh=>(by rw[hfp]at h;cases h),λ_ h=>h,λ_ h=>h,λ_=>rfl,rfl,λm2 _ _ _ _ _ _ _=> ?_⟩;refine⟨m2,.inl ?_,λi=>⟨λh=>absurd h (W1 i),λ_=>rfl⟩,λi=>⟨λh=>absurd h (W2 i),λ_=>rfl⟩,λi=>⟨λh=>absurd h (W3 i),λ_=>rfl⟩,⟨λh=>(by rw[hfp]at h;cases h),λ_=>rfl⟩,rfl⟩;rw[hop];simp only[hfe,if_true];exact⟨trivial,trivial,rfl⟩;have hfp:fp o.op= { rh:=Ht,wz:=Ht }:=by rw[ho];simp[fp,hce]
 have hrefs:∀i,.b i∈Jr (caps.toList.map ρ)↔ .b i∈Z8 o ρ:=λi=>by
  unfold Z8;rw[ho];have hf0:first= #[]:=by simpa using hfe
  subst hf0;constructor;intro hi;obtain⟨x,hx,hix⟩:=Js.1 hi;obtain⟨y,hy,rfl⟩:=Je.1 hx;exact Jp.2 ⟨y,by simpa[Ja]using hy,hix⟩;intro hi;obtain⟨y,hy,hiy⟩:=Jp.1 hi;exact Js.2 ⟨ρ y,Je.2 ⟨y,by simpa[Ja]using hy,rfl⟩,hiy⟩
 have W1:∀i,¬Wh o ρ i:=λi=>by simp[Wh,hfp]
 have W2:∀i,Wz o ρ i↔ .b i∈Z8 o ρ:=λi=>by simp[Wz,hfp]
 have W3:∀i,¬Wq o ρ i:=λi=>by simp[Wq,hfp]
 have zz:∀(m:Hp) i,(.b i∈Z8 o ρ->(frozenBy m (caps.toList.map ρ)).z i=Ht)/\(.b i∉Z8 o ρ->(frozenBy m (caps.toList.map ρ)).z i=m.z i):=λm' i=>by
  constructor;intro hi;obtain⟨off,ho'⟩:=DN hok i ((hrefs i).2 hi);exact TY m' _ i off ho';intro hi;exact D7 m' _ i (λoff ho'=>hi ((hrefs i).1 (Js.2 ⟨_,ho',by simp[Jb]⟩)))
 refine⟨λi _=>D5 m _ i,λi h=>(zz m i).2 (λhh=>h ((W2 i).2 hh)),λi _=>by rw[XK],λh=>(by rw[hfp]at h;cases h),λh=>(by rw[hfp]at h;cases h),λi h=>by rw[Wd];exact h,λi h=>by rw[XK];exact h,λ_=>Tq m _,D6 m _,λm2 a1 _ _ _ _ _ _=> ?_⟩;refine⟨frozenBy m2 (caps.toList.map ρ),.inl ?_,λi=>⟨λh=>absurd h (W1 i),λ_=>D5 m2 _ i⟩,λi=>⟨λh=> ?_,λh=>(zz m2 i).2 (λhh=>h ((W2 i).2 hh))⟩,λi=>⟨λh=>absurd h (W3 i),λ_=>by rw[XK]⟩,⟨λh=>(by rw[hfp]at h;cases h),λ_=>Tq m2 _⟩,D6 m2 _⟩;rw[hop];simp only[hfe,if_true];exact⟨GR _ (λi hi=>a1 (by rw[hfp]) (.b i) ((hrefs i).1 hi)) hok,trivial,trivial⟩;rw[(zz m2 i).1 ((W2 i).1 h),(zz m i).1 ((W2 i).1 h)];exact hok.elim
end
open Go.RowKit
section
variable {P:Program}
theorem Ze2 {o:Oper} {ρ:Operand->PV} {m:Hp} {args:Array Operand} {ts:Array TypeId} (ho:o.op= .call ⟨.builtin .append,args,ts⟩) (hok:(aop P o ρ m).ok):Foot P o ρ m (aop P o ρ m).v (aop P o ρ m).m:=by
 have hfp:fp o.op= { rq:=Ht,wq:=Ht }:=by rw[ho];rfl
 have W1:∀i,¬Wh o ρ i:=λi=>by simp[Wh,hfp]
 have W2:∀i,¬Wz o ρ i:=λi=>by simp[Wz,hfp]
 have W3:∀i,Wq o ρ i↔(.r i∈Z8 o ρ\/o.dst=Hs i):=λi=>by simp[Wq,hfp]
 have hop:∀m,aop P o ρ m=ZU P .append ts.toList o.dst (args.toList.map ρ) m:=λm=>by unfold aop;rw[ho]
 rw[hop]at hok ⊢;have refs:∀x∈args.toList,∀i,.r i∈(ρ x).ids-> .r i∈Z8 o ρ:=λx hx i hi=>by
  unfold Z8;rw[ho];exact Jp.2 ⟨x,by simpa[Ja,Call.operands]using hx,hi⟩
 -- what is done:rows YD in a list are laid anew
 have fin:∀ {v:PV} {L:List (Nat×Row)} {ok:Hp->Prop},(∀x∈L,.r x.1∈Z8 o ρ\/o.dst=Hs x.1)->(∀m2:Hp,(∀i,(.r i∈Z8 o ρ\/o.dst=Hs i)->m2.q i=m.q i)->aop P o ρ m2=⟨ok m2,v,L.foldl (λm x=>m.setq x.1 x.2) m2⟩/\(ok m->ok m2))->ok m->
   Foot P o ρ m v (L.foldl (λm x=>m.setq x.1 x.2) m):=by
  intro v L ok hL hst hk;have hh:∀(L:List (Nat×Row)) (m:Hp),(L.foldl (λm x=>m.setq x.1 x.2) m).h=m.h/\(L.foldl (λm x=>m.setq x.1 x.2) m).z=m.z:=by
   intro L
   induction L with
   |nil=>intro m;exact⟨rfl,rfl⟩
   |cons x L ih=>intro m;exact⟨(ih _).1,(ih _).2⟩
  have hv:∀(L:List (Nat×Row)) (m:Hp) (x:Ref),(L.foldl (λm x=>m.setq x.1 x.2) m).hv x=m.hv x:=by
   intro L
   induction L with
   |nil=>intro m x;rfl
   |cons y L ih=>intro m x;exact(ih _ x).trans (Ze7 _ _ _ x)
  have ho:∀(L:List (Nat×Row)) (m:Hp),(L.foldl (λm x=>m.setq x.1 x.2) m).o=m.o/\(L.foldl (λm x=>m.setq x.1 x.2) m).io=m.io:=by
   intro L
   induction L with
   |nil=>intro m;exact⟨rfl,rfl⟩
   |cons x L ih=>intro m;exact⟨(ih _).1,(ih _).2⟩
  have qq:∀(L:List (Nat×Row)) (m:Hp) (i:Nat),(∀x∈L,x.1≠i)->(L.foldl (λm x=>m.setq x.1 x.2) m).q i=m.q i:=by
   intro L
   induction L with
   |nil=>intro m i _;rfl
   |cons x L ih=>
    intro m i h;refine(ih (m.setq x.1 x.2) i (λy hy=>h y (by simp[hy]))).trans ?_;exact Zg _ _ (h x (by simp))
  have qsame:∀(L:List (Nat×Row)) (m m2:Hp) (i:Nat),m2.q i=m.q i->(L.foldl (λm x=>m.setq x.1 x.2) m2).q i=(L.foldl (λm x=>m.setq x.1 x.2) m).q i:=by
   intro L
   induction L with
   |nil=>intro m m2 i h;exact h
   |cons x L ih=>
    intro m m2 i h;refine ih (m.setq x.1 x.2) (m2.setq x.1 x.2) i ?_;show upd m2.q x.1 _ i=upd m.q x.1 _ i
    by_cases e:x.1=i
    ·subst e;rw[Za,Za]
    ·rw[Zg _ _ e,Zg _ _ e];exact h
  have qlive:∀(L:List (Nat×Row)) (m:Hp) (i:Nat),m.q i≠Hn->(L.foldl (λm x=>m.setq x.1 x.2) m).q i≠none:=by
   intro L
   induction L with
   |nil=>intro m i h;exact h
   |cons x L ih=>
    intro m i h;refine ih (m.setq x.1 x.2) i ?_;show upd m.q x.1 _ i≠Hn
    by_cases e:x.1=i
    ·subst e;rw[Za];simp
    ·rw[Zg _ _ e];exact h
  refine⟨λi _=>hv L m i,λi _=>by rw[(hh L m).2],λi h=>qq L m i (λx hx e=>h ((W3 i).2 (e▸hL x hx))),λh=>(by rw[hfp]at h;cases h),λh=>(by rw[hfp]at h;cases h),λi h=>by rw[(hh L m).1];exact h,λi h=>qlive L m i h,λ_=>(ho L m).1,(ho L m).2,λm2 _ _ a3 _ _ _ _=> ?_⟩;have hag:∀i,(.r i∈Z8 o ρ\/o.dst=Hs i)->m2.q i=m.q i:=a3 (by rw[hfp]);obtain⟨e,hk2⟩:=hst m2 hag;refine⟨L.foldl (λm x=>m.setq x.1 x.2) m2,.inl ?_,λi=>⟨λh=>absurd h (W1 i),λ_=>hv L m2 i⟩,λi=>⟨λh=>absurd h (W2 i),λ_=>by rw[(hh L m2).2]⟩,λi=>⟨λh=>qsame L m m2 i (hag i ((W3 i).1 h)),λh=>qq L m2 i (λx hx e=>h ((W3 i).2 (e▸hL x hx)))⟩,⟨λh=>(by rw[hfp]at h;cases h),λ_=>(ho L m2).1⟩,(ho L m2).2⟩;rw[e];exact⟨hk2 hk,rfl,rfl⟩
 revert hok;match hts:ts.toList,has:args.toList with
 | [t,tx],[x,y]=>
  simp only[JX,KZ,ZU];cases hd:o.dst with
  |none=>exact λh=>h.elim
  |some d=>
   have hop':∀m2,aop P o ρ m2=Ub P d t tx (ρ x) (ρ y) m2:=λm2=>by
    rw[hop,hts,has,hd];rfl
   simp only;unfold Ub;unfold Ub at hop';have hxr:∀i,.r i∈(ρ x).ids-> .r i∈Z8 o ρ:=refs x (by rw[has];simp);split
   ·rename_i ei ys es h1 h2 h3;intro hok;exact fin (L:= [(d,_)]) (ok:=λm2=>m2.q d=Hn/\Sized ei.size ys/\XQ ys/\Zhj ys.length ei.bytes) (by intro z hz;simp at hz;subst hz;exact .inr hd)
     (λm2 hag=>⟨by rw[hop'];simp only[h1,h2,h3];rfl,λhk=>⟨by rw[hag d (.inr hd)];exact hk.1,hk.2⟩⟩) hok
   ·rename_i ei ys id es h1 h2 h3;have hin: .r id∈Z8 o ρ:=hxr id (by rw[h3];simp[Jb]);cases hq:m.q id with
    |none=>exact λh=>h.elim
    |some r=>
     cases r with
     |dead=>exact λh=>h.elim
     |vec n sz e=>exact λh=>h.elim
     |live n sz e=>
      simp only;intro hok
      by_cases hdi:d=id
      ·subst hdi;simp only[if_true];exact fin (L:= [(d,_)]) (ok:=λm2=>n=es.length/\sz=ei.size/\e=ei.e/\(d=d\/m2.q d=Hn)/\Sized ei.size es/\Sized ei.size ys/\XQ ys/\Zhj (es.length+ys.length) ei.bytes) (by intro z hz;simp at hz;subst hz;exact .inr hd)
        (λm2 hag=>⟨by rw[hop'];simp only[h1,h2,h3,hag d (.inr hd),hq,if_true];rfl,λhk=>⟨hk.1,hk.2.1,hk.2.2.1,.inl rfl,hk.2.2.2.2⟩⟩) hok
      ·simp only[if_neg hdi];exact fin (L:= [(id,.dead),(d,_)]) (ok:=λm2=>n=es.length/\sz=ei.size/\e=ei.e/\(d=id\/m2.q d=Hn)/\Sized ei.size es/\Sized ei.size ys/\XQ ys/\Zhj (es.length+ys.length) ei.bytes)
        (by intro z hz;simp at hz;rcases hz with rfl|rfl;exact .inl hin;exact .inr hd)
        (λm2 hag=>⟨by rw[hop'];simp only[h1,h2,h3,hag id (.inl hin),hq,if_neg hdi];rfl,λhk=>⟨hk.1,hk.2.1,hk.2.2.1,hk.2.2.2.1.imp (λh=>h) (λh=>by rw[hag d (.inr hd)];exact h),hk.2.2.2.2⟩⟩) hok
   ·exact λh=>h.elim
 | [],_=>exact λh=>h.elim
 | [_],_=>simp only[ZU];exact λh=>h.elim
 |_::_::_::_,_=>simp only[ZU];exact λh=>h.elim
 | [_,_],[]=>exact λh=>h.elim
 | [_,_],[_]=>simp only[JX,KZ,ZU];exact λh=>h.elim
 | [_,_],_::_::_::_=>simp only[JX,ZU];exact λh=>h.elim
theorem Dn {o:Oper} {ρ:Operand->PV} {m:Hp} {wo:Bool} (hfp:fp o.op= { ro:=Ht,wo:=wo }) (h1:∀m:Hp,(aop P o ρ m).ok->(aop P o ρ m).m= { m with o:=(aop P o ρ m).m.o }/\(wo=Hf->(aop P o ρ m).m.o=m.o))
  (h2:∀m2:Hp,m2.o=m.o->m2.it=m.it->(aop P o ρ m).ok->(aop P o ρ m2).ok/\(aop P o ρ m2).v=(aop P o ρ m).v/\(aop P o ρ m2).m.o=(aop P o ρ m).m.o) (hok:(aop P o ρ m).ok):Foot P o ρ m (aop P o ρ m).v (aop P o ρ m).m:=by
 have W1:∀i,¬Wh o ρ i:=λi=>by simp[Wh,hfp]
 have W2:∀i,¬Wz o ρ i:=λi=>by simp[Wz,hfp]
 have W3:∀i,¬Wq o ρ i:=λi=>by simp[Wq,hfp]
 obtain⟨e,e'⟩:=h1 m hok;refine⟨λi _=>by rw[e];cases i<;>rfl,λi _=>by rw[e],λi _=>by rw[e],λh=>(by rw[hfp]at h;cases h),λh=>(by rw[hfp]at h;cases h),λi h=>by rw[e];exact h,λi h=>by rw[e];exact h,
  λh=>e' (by rw[hfp]at h;exact h),by rw[e];rfl,λm2 _ _ _ _ _ a1 a2=> ?_⟩
 obtain⟨g1,g2,g3⟩:=h2 m2 (a1 (by rw[hfp])) (congrArg (λx=>x.1) a2) hok;obtain⟨k,k'⟩:=h1 m2 g1;exact⟨(aop P o ρ m2).m,.inl ⟨g1,g2.symm,rfl⟩,λi=>⟨λh=>absurd h (W1 i),λ_=>by rw[k];cases i<;>rfl⟩,λi=>⟨λh=>absurd h (W2 i),λ_=>by rw[k]⟩,λi=>⟨λh=>absurd h (W3 i),λ_=>by rw[k]⟩,⟨λ_=>g3,λh=>k' (by rw[hfp]at h;exact h)⟩,by rw[k];rfl⟩
theorem Fi {m m2:Hp} (h:m2.o=m.o) (x:PV):Gu m2 x=Gu m x:=by cases x<;>simp[Gu,h]
theorem UV {t:TypeId} {x k:PV} {ok:Bool} (m m2:Hp) (h:m2.o=m.o):(XC P t x k ok m).ok->(XC P t x k ok m).m=m/\(XC P t x k ok m2).ok/\(XC P t x k ok m2).v=(XC P t x k ok m).v/\(XC P t x k ok m2).m=m2:=by
 unfold XC;rw[Fi h];split;split;exact λhk=>⟨rfl,hk,rfl,rfl⟩
 exact λhk=>hk.elim
 exact λhk=>hk.elim
theorem GY {t:TypeId} {x:PV} (m m2:Hp) (h:m2.o=m.o):(Wb P t x m).ok->(Wb P t x m).m=m/\(Wb P t x m2).ok/\(Wb P t x m2).v=(Wb P t x m).v/\(Wb P t x m2).m=m2:=by
 unfold Wb;rw[Fi h];split;exact λhk=>⟨rfl,hk,rfl,rfl⟩
 exact λhk=>hk.elim
theorem TU {x:PV} (m m2:Hp) (h:m2.o=m.o) (h':m2.it=m.it):(W0 x m).ok->(W0 x m).m=m/\(W0 x m2).ok/\(W0 x m2).v=(W0 x m).v/\(W0 x m2).m=m2:=by
 have hm:∀it,mapIt m2 it=mapIt m it:=λit=>by unfold mapIt;rw[h]
 unfold W0;rw[h'];simp only[hm];split;split;split;exact λhk=>⟨rfl,hk,rfl,rfl⟩
 exact λhk=>hk.elim
 exact λhk=>hk.elim
 exact λhk=>hk.elim
theorem U9 {t:TypeId} {x k v:PV} (m m2:Hp) (h:m2.o=m.o):(ZP P t x k v m).ok->(ZP P t x k v m).m= { m with o:=(ZP P t x k v m).m.o }/\(ZP P t x k v m2).ok/\(ZP P t x k v m2).v=(ZP P t x k v m).v/\(ZP P t x k v m2).m.o=(ZP P t x k v m).m.o:=by
 unfold ZP;rw[h];split;split;split;exact λhk=>⟨rfl,hk,rfl,rfl⟩
 exact λhk=>⟨rfl,hk,rfl,rfl⟩
 exact λhk=>hk.elim
 exact λhk=>hk.elim
 exact λhk=>hk.elim
theorem Dm {o:Oper} {ρ:Operand->PV} {m:Hp} (hok:(aop P o ρ m).ok):Foot P o ρ m (aop P o ρ m).v (aop P o ρ m).m:=by
 have nm:Wa (aop P o ρ)->fp o.op= {}->Foot P o ρ m (aop P o ρ m).v (aop P o ρ m).m:=λh hf=>Foot.noMem h (by rw[hf]) (by rw[hf]) (by rw[hf]) (by rw[hf]) (by rw[hf]) (by rw[hf]) hok
 obtain⟨dst,op,ty,pos,af,guard⟩:=o;cases op with
 |move x=>exact nm (Zm) rfl
 |assign x=>exact nm (Zm) rfl
 |pick c x y=>exact nm (Za0) rfl
 |alloc t=>
  cases dst with
  |none=>exact hok.elim
  |some d=>
   cases hz:X8 P t with
   |none=>simp only[aop,hz]at hok;exact hok.elim
   |some z=>exact Foot.newB (d:=d) (v:= .ptr d 0) (cs:=z) (ok:=True) rfl (λm=>by simp only[aop,hz,and_true]) rfl hok
 |box t x=>
  cases dst with
  |none=>exact hok.elim
  |some d=>exact Foot.newB (d:=d) rfl (λm=>rfl) rfl hok
 |build t parts=>exact nm (Fk) rfl
 |buildSlice t len parts=>
  cases dst with
  |none=>exact hok.elim
  |some d=>
   cases he:X2 P t with
   |none=>simp only[aop,YL,he]at hok;exact hok.elim
   |some ei=>exact Foot.newQ (d:=d) rfl (λm=>by simp only[aop,YL,he];rfl) rfl hok
 |load t x=>exact Zjv rfl hok
 |store t x y=>exact ZhI rfl hok
 |nilCheck x=>exact nm (TN) rfl
 |binOp op t x y yt=>exact nm (Zdt) rfl
 |unOp op t x=>exact nm (ZgC) rfl
 |convert a b x=>exact Zjt rfl hok
 |makeFunc fn first caps=>
  cases fn with
  |func f=>exact ZbH rfl hok
  |_=>exact hok.elim
 |makeSlice t l c=>
  cases dst with
  |none=>exact hok.elim
  |some d=>
   by_cases hl:∃k,l= .const (.int k 0)
   ·obtain⟨k,rfl⟩:=hl;have hop:∀m,aop P ⟨Hs d,.makeSlice t (.const (.int k 0)) c,ty,pos,af,guard⟩ ρ m=XT P d t (ρ c) m:=λm=>rfl
    rw[hop]at hok;unfold XT at hok;split at hok
    ·rename_i ei kc n h1 h2;exact Foot.newQ (d:=d) rfl (λm=>by rw[hop];simp only[XT,h1,h2];rfl) rfl (by rw[hop];unfold XT;rw[h1,h2];exact hok)
    ·exact hok.elim
   ·have hop:∀m,aop P ⟨Hs d,.makeSlice t l c,ty,pos,af,guard⟩ ρ m=aMakeFull P d t (ρ l) (ρ c) m:=λm=>by
     unfold aop;simp only;split
     ·rename_i k;exact absurd ⟨k,rfl⟩ hl
     ·rfl
    rw[hop]at hok;unfold aMakeFull at hok;split at hok
    ·rename_i ei kl n kc n' h1 h2 h3;split at hok
     ·rename_i z hz;exact Foot.newQ (d:=d) rfl (λm=>by rw[hop];simp only[aMakeFull,h1,h2,h3,hz];rfl) rfl (by rw[hop];unfold aMakeFull;rw[h1,h2,h3];simp only[hz];exact hok)
     ·exact hok.elim
    ·exact hok.elim
 |slice t x lo hi mx=>
  refine nm (λm m2 h=> ?_) rfl
  revert h
  unfold aop;simp only;split
  ·exact Fn m m2
  ·exact Zo m m2
 |fieldAddr t x f=>exact nm (UX) rfl
 |field t x f=>exact nm (Fl) rfl
 |indexAddr t x i=>exact nm (UY) rfl
 |index t x i=>exact nm (Fm) rfl
 |extract x i=>exact nm (SD) rfl
 |lookup t x k ok=>
  have hop:∀m,aop P ⟨dst,.lookup t x k ok,ty,pos,af,guard⟩ ρ m=XC P t (ρ x) (ρ k) ok m:=λm=>rfl
  refine Dn (wo:=Hf) rfl (λm h=> ?_) (λm2 h1 h2 h=> ?_) hok
  ·rw[hop]at h ⊢;have:=(UV m m rfl h).1;exact⟨by rw[this],λ_=>by rw[this]⟩
  ·rw[hop]at h ⊢;rw[hop];obtain⟨a1,a2,a3,a4⟩:=UV _ m2 h1 h;exact⟨a2,a3,by rw[a4,a1];exact h1⟩
 |entry x=>
  have hop:∀m,aop P ⟨dst,.entry x,ty,pos,af,guard⟩ ρ m=W0 (ρ x) m:=λm=>rfl
  refine Dn (wo:=Hf) rfl (λm h=> ?_) (λm2 h1 h2 h=> ?_) hok
  ·rw[hop]at h ⊢;have:=(TU m m rfl rfl h).1;exact⟨by rw[this],λ_=>by rw[this]⟩
  ·rw[hop]at h ⊢;rw[hop];obtain⟨a1,a2,a3,a4⟩:=TU _ m2 h1 h2 h;exact⟨a2,a3,by rw[a4,a1];exact h1⟩
 |mapUpdate t x k v=>
  exact Dn (wo:=Ht) rfl (λm h=>⟨(U9 m m rfl h).1,λh=>by cases h⟩) (λm2 h1 h2 h=>(U9 _ m2 h1 h).2) hok
 |call c=>
  obtain⟨callee,args,ts⟩:=c;cases callee with
  |builtin b=>
   by_cases hb:b= .append
   ·subst hb;exact Ze2 rfl hok
   by_cases hb2:b= .len
   ·subst hb2;have hop:∀m,aop P ⟨dst,.call ⟨.builtin .len,args,ts⟩,ty,pos,af,guard⟩ ρ m=ZU P .len ts.toList dst (args.toList.map ρ) m:=λm=>rfl
    have key:∀m m2:Hp,m2.o=m.o->(ZU P .len ts.toList dst (args.toList.map ρ) m).ok->(ZU P .len ts.toList dst (args.toList.map ρ) m).m=m/\(ZU P .len ts.toList dst (args.toList.map ρ) m2).ok/\(ZU P .len ts.toList dst (args.toList.map ρ) m2).v=(ZU P .len ts.toList dst (args.toList.map ρ) m).v/\(ZU P .len ts.toList dst (args.toList.map ρ) m2).m=m2:=by
     intro m m2 h;unfold ZU;split
     ·split
      ·exact GY m m2 h
      ·exact Zdv m m2
     all_goals first|contradiction|exact Zo m m2
    refine Dn (wo:=Hf) rfl (λm h=> ?_) (λm2 h1 h2 h=> ?_) hok
    ·rw[hop]at h ⊢;have:=(key m m rfl h).1;exact⟨by rw[this],λ_=>by rw[this]⟩
    ·rw[hop]at h ⊢;rw[hop];obtain⟨a1,a2,a3,a4⟩:=key m m2 h1 h;exact⟨a2,a3,by rw[a4,a1];exact h1⟩
   ·refine nm (λm m2 h=> ?_) (by cases b<;>first|rfl|exact absurd rfl hb|exact absurd rfl hb2)
    revert h
    show(ZU P b ts.toList dst (args.toList.map ρ) m).ok->(ZU P b ts.toList dst (args.toList.map ρ) m).m=m/\(ZU P b ts.toList dst (args.toList.map ρ) m2).ok/\(ZU P b ts.toList dst (args.toList.map ρ) m2).v=(ZU P b ts.toList dst (args.toList.map ρ) m).v/\(ZU P b ts.toList dst (args.toList.map ρ) m2).m=m2;unfold ZU;split
    ·exact absurd rfl hb2
    ·exact absurd rfl hb
    ·exact Zdw m m2
    ·exact Zdx m m2
    ·exact Zdu m m2
    ·exact Za1 m m2
    ·exact ZaZ m m2
    ·exact Zo m m2
  |_=>exact hok.elim
 |_=>exact hok.elim
theorem D4 {o:Oper} {ρ:Operand->PV} {m m':Hp} {v:PV} (h:XR P o ρ m v m'):Foot P o ρ m v m':=by
 rcases h with ⟨h1,rfl,rfl⟩|⟨c,g,args,ho,hc,⟨hg,hp⟩|hp,rfl⟩;exact Dm h1;exact Zjs ho hc hg hp;exact Zju ho hc hp
end
open Go.RowKit
def compat (a b:Op):Bool:=
 let x:=fp a
 let y:=fp b
 !(x.wh&&(y.rh||y.wh))&& !(y.wh&&(x.rh||x.wh))&& !(x.wz&&(y.rz||y.wz))&& !(y.wz&&(x.rz||x.wz))&& !(x.wq&&(y.rq||y.wq))&& !(y.wq&&(x.rq||x.wq))&& !(x.wo&&(y.ro||y.wo))&& !(y.wo&&(x.ro||x.wo))
section
variable {P:Program} {ops:Array Oper}
theorem ZiV {ρ ρ':Operand->PV} (o:Oper) (m:Hp) (h:∀x∈o.op.operands,ρ x=ρ' x):aop P o ρ m=aop P o ρ' m:=by
 obtain⟨dst,op,ty,pos,af,guard⟩:=o;have pairs:∀ps:Array (Nat×Operand),(∀x∈(ps.toList.map (·.2)).toArray,ρ x=ρ' x)->(ps.toList.map λx=>(x.1,ρ x.2))=(ps.toList.map λx=>(x.1,ρ' x.2)):=λps hp=>
  JW λp hm=>by rw[hp p.2 (by simp only[List.mem_toArray,Je];exact⟨p,hm,rfl⟩)]
 cases op with
 |build t ps=>simp only[aop];rw[pairs ps h]
 |buildSlice t n ps=>simp only[aop];rw[pairs ps h]
 |makeFunc fn first caps=>
  have:caps.toList.map ρ=caps.toList.map ρ':=JW λx hx=>h x (by simp[Ja];right;simpa using hx)
  cases fn<;>simp only[aop,this]
 |makeSlice t l c=>
  have h1:ρ l=ρ' l:=h l (by simp[Ja]);have h2:ρ c=ρ' c:=h c (by simp[Ja]);simp only[aop,h1,h2]
 |slice t x lo hi mx=>
  have h1:ρ x=ρ' x:=h x (by simp[Ja]);have h2:lo.map ρ=lo.map ρ':=by cases lo with|none=>rfl|some y=>simp[h y (by simp[Ja])]
  have h3:hi.map ρ=hi.map ρ':=by cases hi with|none=>rfl|some y=>simp[h y (by simp[Ja])]
  simp only[aop,h1,h2,h3]
 |call c=>
  obtain⟨callee,args,ts⟩:=c;cases callee with
  |builtin b=>
   have:args.toList.map ρ=args.toList.map ρ':=JW λx hx=>h x (by simp[Ja,Call.operands];simpa using hx)
   simp only[aop,this]
  |_=>rfl
 |pick c x y=>
  simp only[aop,h c (by simp[Ja]),h x (by simp[Ja]),h y (by simp[Ja])]
 |alloc t=>rfl
 |move x=>simp only[aop,h x (by simp[Ja])]
 |assign x=>simp only[aop,h x (by simp[Ja])]
 |box t x=>simp only[aop,h x (by simp[Ja])]
 |load t x=>simp only[aop,h x (by simp[Ja])]
 |store t x y=>simp only[aop,h x (by simp[Ja]),h y (by simp[Ja])]
 |nilCheck x=>simp only[aop,h x (by simp[Ja])]
 |binOp op t x y yt=>simp only[aop,h x (by simp[Ja]),h y (by simp[Ja])]
 |unOp op t x=>simp only[aop,h x (by simp[Ja])]
 |convert a b x=>simp only[aop,h x (by simp[Ja])]
 |fieldAddr t x f=>simp only[aop,h x (by simp[Ja])]
 |field t x f=>simp only[aop,h x (by simp[Ja])]
 |indexAddr t x i=>simp only[aop,h x (by simp[Ja]),h i (by simp[Ja])]
 |index t x i=>simp only[aop,h x (by simp[Ja]),h i (by simp[Ja])]
 |extract x i=>simp only[aop,h x (by simp[Ja])]
 |lookup t x k ok=>simp only[aop,h x (by simp[Ja]),h k (by simp[Ja])]
 |mapUpdate t x k v=>simp only[aop,h x (by simp[Ja]),h k (by simp[Ja]),h v (by simp[Ja])]
 |entry x=>simp only[aop,h x (by simp[Ja])]
 |_=>rfl
theorem Y5 {ρ ρ':Operand->PV} {o:Oper} {m m':Hp} {v:PV} (h:∀x∈o.op.operands,ρ x=ρ' x) (hs:XR P o ρ m v m'):XR P o ρ' m v m':=by
 rcases hs with ⟨h1,h2,h3⟩|⟨c,g,args,ho,hc,hp,rfl⟩;rw[ZiV o m h]at h1 h2 h3;exact .inl ⟨h1,h2,h3⟩;refine .inr ⟨c,g,args,ho,?_,hp,rfl⟩;rw[<-hc];rw[ho]at h;unfold ZV;cases hcal:c.callee with
 |value f=>
  have e1:ρ f=ρ' f:=h f (by simp[Ja,Call.operands,hcal]);have e2:c.args.toList.map ρ'=c.args.toList.map ρ:=JW λx hx=>(h x (by simp[Ja,Call.operands];right;simpa using hx)).symm
  simp only[e1,e2]
 |_=>rfl
def WZ (P:Program) (ops:Array Oper) (o:Oper) (s s':St):Prop:=
 DU s.n o.dst/\((gd ops s o=Hs Ht/\ ∃v m',XR P o s.eval s.m v m'/\s'=(s.with m').put o.dst v)\/(gd ops s o=Hs Hf/\s'=s.put o.dst (.tup [])))
theorem Ft (s:St) (d:Option Nat) (v:PV):(s.put d v).n=s.n:=by cases d<;>rfl
theorem SF (s:St) (d:Option Nat) (v:PV):(s.put d v).m=s.m:=by cases d<;>rfl
theorem VI (s:St) (d:Option Nat) (v:PV) (m:Hp):(s.put d v).with m=(s.with m).put d v:=by cases d<;>rfl
theorem ZdJ {s:St} {d:Option Nat} {v:PV} {i:Nat} (h:d≠Hs i):(s.put d v).fr i=s.fr i:=by
 cases d with
 |none=>rfl
 |some d=>exact Zg _ _ (λe=>h (by rw[e]))
theorem VH {s:St} {d:Option Nat} {v:PV} {x:Operand} (h:∀t,d=Hs t->x≠ .tmp t):(s.put d v).eval x=s.eval x:=by
 cases x with
 |tmp t=>exact ZdJ (λe=>h t e rfl)
 |_=>rfl
theorem SY (s:St) (m:Hp):(s.with m).eval=s.eval:=by
 funext x;cases x<;>rfl
theorem VG (s:St) {x y:Option Nat} (u v:PV) (h:∀d,x=Hs d->y≠Hs d):(s.put x u).put y v=(s.put y v).put x u:=by
 cases x with
 |none=>rfl
 |some d=>
  cases y with
  |none=>rfl
  |some e=>
   have hne:d≠e:=λhe=>h d rfl (he▸rfl)
   simp only[St.put];congr 1;funext i;simp only[upd];by_cases h1:e=i;by_cases h2:d=i;exact absurd (h2.trans h1.symm) hne;simp[h1,h2];simp[h1]
theorem UA {s:St} {o:Oper} {d:Option Nat} {v:PV} {m:Hp} (h:∀t,d=Hs t->t∉o.looksAt ops):gd ops ((s.with m).put d v) o=gd ops s o:=by
 unfold gd;cases hg:o.guard with
 |none=>rfl
 |some jw=>
  obtain⟨j,want⟩:=jw;simp only;cases hd:(ops[j]?).bind (·.dst)with
  |none=>rfl
  |some t=>
   simp only[Ft];have:d≠Hs t:=λe=>h t e (by unfold Oper.looksAt;rw[hg];simp[hd])
   rw[ZdJ this];rfl
theorem Ws {o:Oper} {d:Option Nat} (h:∀t,d=Hs t->t∉o.looksAt ops):∀x∈o.op.operands,∀t,d=Hs t->x≠ .tmp t:=λx hx t ht e=>by
 refine h t ht ?_;subst e;unfold Oper.looksAt;exact List.mem_append_left _ (List.mem_filterMap.2 ⟨.tmp t,by simpa using hx,rfl⟩)
theorem ZdP {s:St} (hr:Refs s) (o:Oper):∀r∈Z8 o s.eval,Live s.m r:=λr h=>by
 unfold Z8 at h;obtain⟨x,_,hx⟩:=Jp.1 h;cases x with
 |tmp t=>exact hr.fr t r hx
 |const v=>simp[St.eval,Ve]at hx
 |func f=>simp[St.eval,Jb,Jr]at hx
 |_=>simp[St.eval,Jb]at hx
theorem Zqd {a b:Hp} (h1:∀i,a.hv i=b.hv i) (h2:∀i,a.z i=b.z i) (h3:∀i,a.q i=b.q i) (h4:a.o=b.o) (h5:a.io=b.io):a=b:=by
 cases a;cases b;simp only[Hp.mk.injEq];exact⟨funext λi=>h1 (.b i),funext h2,funext h3,h4,congrArg (λx=>x.1) h5,congrArg (λx=>x.2.1) h5,funext λi=>h1 (.r i),congrArg (λx=>x.2.2.1) h5,congrArg (λx=>x.2.2.2.1) h5,congrArg (λx=>x.2.2.2.2) h5⟩
theorem Zbo {s s1 s2:St} {oi oj:Oper} (hr:Refs s) (hap:oi.apart ops oj=Ht) (hcp:compat oi.op oj.op=Ht) (h1:WZ P ops oi s s1) (h2:WZ P ops oj s1 s2):
  ∃s1',WZ P ops oj s s1'/\WZ P ops oi s1' s2:=by
 obtain⟨a1,a2,a3⟩:=Oper.apart_spec hap;obtain⟨d1,h1⟩:=h1;obtain⟨d2,h2⟩:=h2;have n1:s1.n=s.n:=by rcases h1 with ⟨_,v,m',_,rfl⟩|⟨_,rfl⟩<;>simp[Ft,St.with]
 rw[n1]at d2;have ej:∀x∈oj.op.operands,s1.eval x=s.eval x:=λx hx=>by
  rcases h1 with ⟨_,v,m',_,rfl⟩|⟨_,rfl⟩;rw[VH (Ws a1 x hx),SY];rw[VH (Ws a1 x hx)]
 have gj:gd ops s1 oj=gd ops s oj:=by
  rcases h1 with ⟨_,v,m',_,rfl⟩|⟨_,rfl⟩;exact UA a1;exact UA (m:=s.m) a1
 have a2':∀d,oj.dst=Hs d->oi.dst≠Hs d:=λd hd e=>a2 d e hd
 rcases h1 with ⟨g1,vi,mi,st1,rfl⟩|⟨g1,rfl⟩;rcases h2 with ⟨g2,vj,mj,st2,rfl⟩|⟨g2,rfl⟩
 -- both are carried out
 rw[SF]at st2;have st2':XR P oj s.eval mi vj mj:=Y5 ej st2;have F1:=D4 st1;have F2:=D4 st2';have Li:=ZdP hr oi;have Lj:=ZdP hr oj;simp only[compat,JG,Bool.not_eq_true',Bool.and_eq_false_imp,Kr]at hcp;obtain⟨⟨⟨⟨⟨⟨⟨c1,c2⟩,c3⟩,c4⟩,c5⟩,c6⟩,c7⟩,c8⟩:=hcp;have dne:∀i,oi.dst=Hs i->oj.dst=Hs i->False:=λi h h'=>a2 i h h'
 -- what the second one makes anew was not there before the first one
 have nbj:(fp oj.op).nb=Ht-> ∀i,oj.dst=Hs i->s.m.h i=none:=λhb i hi=>by
  have h0:=F2.hn hb i hi;refine JV λhne=> ?_
  exact F1.hl i hne h0
 have nqj:(fp oj.op).nq=Ht-> ∀i,oj.dst=Hs i->s.m.q i=none:=λhb i hi=>by
  have h0:=F2.qn hb i hi;refine JV λhne=> ?_
  exact F1.ql i hne h0
 obtain⟨ma,sta,ah,az,aq,ao,ai⟩:=F2.re s.m
  (λhrh i hi=>by
   refine(F1.h1 i ?_).symm
   rintro (⟨w,_⟩|⟨nb,d,hd,rfl⟩)
   ·have:=(c1 w).1;rw[hrh]at this;cases this
   ·exact Lj _ hi (F1.hn nb d hd))
  (λhrz i hi=>by
   refine(F1.z1 i ?_).symm
   rintro (⟨w,_⟩|⟨nb,hd⟩)
   ·have:=(c3 w).1;rw[hrz]at this;cases this
   ·exact Lj _ hi (F1.hn nb i hd))
  (λhrq i hi=>by
   refine(F1.q1 i ?_).symm
   rintro (⟨w,_⟩|⟨nq,hd⟩)
   ·have:=(c5 w).1;rw[hrq]at this;cases this
   ·rcases hi with hi|hi
    ·exact Lj _ hi (F1.qn nq i hd)
    ·exact dne i hd hi)
  nbj nqj
  (λhro=>by
   refine(F1.o1 ?_).symm;cases hw:(fp oi.op).wo with
   |false=>rfl
   |true=>have:=(c7 hw).1;rw[hro]at this;cases this) F1.i1.symm
 obtain⟨mb,stb,bh,bz,bq,bo,bi⟩:=F1.re ma
  (λhrh i hi=>by
   refine(ah i).2 ?_
   rintro (⟨w,_⟩|⟨nb,d,hd,rfl⟩)
   ·have:=(c2 w).1;rw[hrh]at this;cases this
   ·exact Li _ hi (nbj nb d hd))
  (λhrz i hi=>by
   refine(az i).2 ?_
   rintro (⟨w,_⟩|⟨nb,hd⟩)
   ·have:=(c4 w).1;rw[hrz]at this;cases this
   ·exact Li _ hi (nbj nb i hd))
  (λhrq i hi=>by
   refine(aq i).2 ?_
   rintro (⟨w,_⟩|⟨nq,hd⟩)
   ·have:=(c6 w).1;rw[hrq]at this;cases this
   ·rcases hi with hi|hi
    ·exact Li _ hi (nqj nq i hd)
    ·exact dne i hi hd)
  (λnb i hd=>by
   refine((ah (.b i)).2 ?_).trans (F1.hn nb i hd)
   rintro (⟨_,hi⟩|⟨_,d,hd',e⟩)
   ·exact Lj _ hi (F1.hn nb i hd)
   ·cases e;exact dne i hd hd')
  (λnq i hd=>by
   refine((aq i).2 ?_).trans (F1.qn nq i hd)
   rintro (⟨w,hi⟩|⟨_,hd'⟩)
   ·rcases hi with hi|hi
    ·exact Lj _ hi (F1.qn nq i hd)
    ·exact dne i hd hi
   ·exact dne i hd hd')
  (λhro=>by
   refine ao.2 ?_;cases hw:(fp oj.op).wo with
   |false=>rfl
   |true=>have:=(c8 hw).1;rw[hro]at this;cases this) ai
 have em:mb=mj:=by
  refine Zqd (λi=> ?_) (λi=> ?_) (λi=> ?_) ?_ (by rw[bi,ai,F2.i1,F1.i1]);by_cases wi:Wh oi s.eval i;rw[(bh i).1 wi];refine(F2.h1 i ?_).symm;rintro (⟨w,hi⟩|⟨nb,d,hd,e⟩);rcases wi with ⟨w',_⟩|⟨nb',d',hd',e'⟩;have:=(c1 w').2;rw[w]at this;cases this;subst e';exact Lj _ hi (F1.hn nb' d' hd');subst e;rcases wi with ⟨_,hi'⟩|⟨_,d',hd',e'⟩;exact Li _ hi' (nbj nb d hd);cases e';exact dne d hd' hd;rw[(bh i).2 wi];by_cases wj:Wh oj s.eval i;exact(ah i).1 wj;rw[(ah i).2 wj,F2.h1 i wj,F1.h1 i wi];by_cases wi:Wz oi s.eval i;rw[(bz i).1 wi];refine(F2.z1 i ?_).symm;rintro (⟨w,hi⟩|⟨nb,hd⟩);rcases wi with ⟨w',_⟩|⟨nb',hd'⟩;have:=(c3 w').2;rw[w]at this;cases this;exact Lj _ hi (F1.hn nb' i hd');rcases wi with ⟨_,hi'⟩|⟨_,hd'⟩;exact Li _ hi' (nbj nb i hd);exact dne i hd' hd;rw[(bz i).2 wi];by_cases wj:Wz oj s.eval i;exact(az i).1 wj;rw[(az i).2 wj,F2.z1 i wj,F1.z1 i wi];by_cases wi:Wq oi s.eval i;rw[(bq i).1 wi];refine(F2.q1 i ?_).symm;rintro (⟨w,hi⟩|⟨nq,hd⟩);rcases wi with ⟨w',_⟩|⟨nq',hd'⟩;have:=(c5 w').2;rw[w]at this;cases this;rcases hi with hi|hi;exact Lj _ hi (F1.qn nq' i hd');exact dne i hd' hi;rcases wi with ⟨_,hi'⟩|⟨_,hd'⟩;rcases hi' with hi'|hi';exact Li _ hi' (nqj nq i hd);exact dne i hi' hd;exact dne i hd' hd;rw[(bq i).2 wi];by_cases wj:Wq oj s.eval i;exact(aq i).1 wj;rw[(aq i).2 wj,F2.q1 i wj,F1.q1 i wi];cases hwi:(fp oi.op).wo with
  |true=>
   rw[bo.1 hwi];refine(F2.o1 ?_).symm;cases hwj:(fp oj.op).wo with
   |false=>rfl
   |true=>have:=(c7 hwi).2;rw[hwj]at this;cases this
  |false=>
   rw[bo.2 hwi];cases hwj:(fp oj.op).wo with
   |true=>exact ao.1 hwj
   |false=>rw[ao.2 hwj,F2.o1 hwj,F1.o1 hwi]
 subst em;refine⟨(s.with ma).put oj.dst vj,⟨d2,.inl ⟨by rw[<-gj];exact g2,vj,ma,sta,rfl⟩⟩,by rw[Ft];exact d1,.inl ⟨by rw[UA a3];exact g1,vi,mb,?_,?_⟩⟩;rw[SF];refine Y5 (λx hx=> ?_) stb;rw[VH (Ws a3 x hx),SY];rw[VI,VI,VG _ _ _ a2];rfl;refine⟨s.put oj.dst (.tup []),⟨d2,.inr ⟨by rw[<-gj];exact g2,rfl⟩⟩,by rw[Ft];exact d1,.inl ⟨by rw[show s.put oj.dst (.tup [])=(s.with s.m).put oj.dst (.tup [])from rfl,UA a3];exact g1,vi,mi,?_,?_⟩⟩;rw[SF];exact Y5 (λx hx=>by rw[VH (Ws a3 x hx)]) st1;rw[VI,VG _ _ _ a2];rcases h2 with ⟨g2,vj,mj,st2,rfl⟩|⟨g2,rfl⟩;rw[SF]at st2;refine⟨(s.with mj).put oj.dst vj,⟨d2,.inl ⟨by rw[<-gj];exact g2,vj,mj,Y5 ej st2,rfl⟩⟩,by rw[Ft];exact d1,.inr ⟨by rw[UA a3];exact g1,?_⟩⟩;rw[VI,VG _ _ _ a2];refine⟨s.put oj.dst (.tup []),⟨d2,.inr ⟨by rw[<-gj];exact g2,rfl⟩⟩,by rw[Ft];exact d1,.inr ⟨by rw[show s.put oj.dst (.tup [])=(s.with s.m).put oj.dst (.tup [])from rfl,UA a3];exact g1,?_⟩⟩;rw[VG _ _ _ a2]
end
open Go.RowKit
section
variable {P:Program} {ops:Array Oper}
theorem PV.mem_didsL {id:Ref}:∀ {cs:List PV},id∈PV.didsL cs↔ ∃c∈cs,id∈c.dids
 | []=>by simp[PV.didsL]
 |c::cs=>by simp[PV.didsL,PV.mem_didsL (cs:=cs)]
theorem DS {l l':List PV} (h:∀c∈l,c∈l') {i:Ref} (hi:i∈PV.didsL l):i∈PV.didsL l':=by
 obtain⟨c,hc,hr⟩:=PV.mem_didsL.1 hi;exact PV.mem_didsL.2 ⟨c,h c hc,hr⟩
mutual
theorem VD:∀(p:PV) {r:Ref},r∈p.ids->r∈p.dids
 | .ptr _ _,r,h=>h
 | .osl _ _ _ _,r,h=>h
 | .sl t es,r,h=>by cases t<;>simp[Jb]at h;subst h;simp[PV.dids]
 | .agg cs,r,h=>by simp only[Jb,PV.dids]at *;exact Ts cs h
 | .tup cs,r,h=>by simp only[Jb,PV.dids]at *;exact Ts cs h
 | .fn _ cs,r,h=>by simp only[Jb,PV.dids]at *;exact Ts cs h
 | .any,r,h=>by simp[Jb]at h
 | .int _ _,r,h=>by simp[Jb]at h
 | .bool _,r,h=>by simp[Jb]at h
 | .str _,r,h=>by simp[Jb]at h
 | .flt _ _,r,h=>by simp[Jb]at h
 | .cpx _ _ _,r,h=>by simp[Jb]at h
 | .rptr _,r,h=>by simp[Jb]at h
 | .nilp,r,h=>by simp[Jb]at h
 | .nilfn,r,h=>by simp[Jb]at h
 | .nilmap,r,h=>by simp[Jb]at h
 | .mref _,r,h=>by simp[Jb]at h
 | .rmap _ _,r,h=>by simp[Jb]at h
 | .vsl _ _ _,r,h=>h
 | .vptr _ _ _ _ _,r,h=>h
 | .iptr _,r,h=>by simp[Jb]at h
theorem Ts:∀(cs:List PV) {r:Ref},r∈Jr cs->r∈PV.didsL cs
 | [],r,h=>by simp[Jr]at h
 |c::cs,r,h=>by
  simp only[Jr,PV.didsL,Jj]at *;exact h.imp (VD c) (Ts cs)
end
theorem DT (v:Value):(UZ v).dids= []:=by unfold UZ;split<;>rfl
theorem Zc3 (l:List Value):PV.didsL (l.map UZ)= []:=by
 induction l with
 |nil=>rfl
 |cons a l ih=>simp[PV.didsL,DT,ih]
theorem VT (v:Value):(Xp v).dids= []:=by
 unfold Xp;split;simp[PV.dids,Zc3];split<;>rfl
 exact DT _
theorem FF {t:Tok} {es:List PV} {r:Ref} (h:r∈PV.didsL es):r∈(PV.sl t es).dids:=by
 cases t<;>simp[PV.dids,h]
theorem VS {p c:PV} (hc:c∈p.cells) {k:Ref} (hk:k∈c.dids):k∈p.dids:=by
 cases p with
 |agg cs=>simp only[J9]at hc;simp only[PV.dids];exact PV.mem_didsL.2 ⟨c,hc,hk⟩
 |_=>simp only[J9,Jo]at hc;subst hc;exact hk
theorem XX {cs:List PV} {o:Nat} {r:Ref} (h:r∈(cs.getD o .any).dids):r∈PV.didsL cs:=by
 rw[List.getD_eq_getElem?_getD]at h;cases hg:cs[o]? with
 |none=>rw[hg]at h;simp[PV.dids]at h
 |some c=>rw[hg]at h;exact PV.mem_didsL.2 ⟨c,List.mem_of_getElem? hg,h⟩
theorem V2 {ag:Bool} {sz:Nat} {cs:List PV} {o:Nat} {r:Ref} (h:r∈(Wu ag sz cs o).dids):r∈PV.didsL cs:=by
 unfold Wu at h;split at h;simp only[PV.dids]at h;exact DS (λc hc=>JL (JT hc)) h;exact XX h
theorem Zbe {cs ns:List PV} {o:Nat} {r:Ref} (h:r∈PV.didsL (Yu cs o ns)):r∈PV.didsL cs\/r∈PV.didsL ns:=by
 obtain⟨c,hc,hr⟩:=PV.mem_didsL.1 h;unfold Yu at hc;rw[Jj,Jj]at hc;rcases hc with (hc|hc)|hc;exact .inl (PV.mem_didsL.2 ⟨c,JT hc,hr⟩);exact .inr (PV.mem_didsL.2 ⟨c,hc,hr⟩);exact .inl (PV.mem_didsL.2 ⟨c,JL hc,hr⟩)
theorem WR {p:PV} {r:Ref} (h:r∈PV.didsL p.cells):r∈p.dids:=by
 obtain⟨c,hc,hr⟩:=PV.mem_didsL.1 h;exact VS hc hr
theorem Zge {place:Nat->Option (Nat×Nat)}:∀(l:List (Nat×PV)) (cs cs':List PV),UN place cs l=Hs cs'-> ∀r∈PV.didsL cs',r∈PV.didsL cs\/ ∃x∈l,r∈x.2.dids
 | [],cs,cs',h,r,hr=>by
  simp only[UN,Jm.injEq]at h;subst h;exact .inl hr
 |(i,p)::rest,cs,cs',h,r,hr=>by
  simp only[UN]at h;split at h;cases h;split at h;rcases Zge rest _ _ h r hr with h1|⟨x,hx,h1⟩;rcases Zbe h1 with h2|h2;exact .inl h2;exact .inr ⟨(i,p),by simp,WR h2⟩;exact .inr ⟨x,by simp[hx],h1⟩;cases h
theorem Znr {t:TypeId} {z:List PV} (h:X8 P t=Hs z):PV.didsL z= []:=by
 unfold X8 aMakeFull.tbdz at h;split at h;split at h;split at h;simp only[Jm.injEq]at h;subst h;rw[JA];intro r hr;have:=WR hr;rw[VT]at this;cases this;cases h;cases h;cases h
theorem ZrA {t:TypeId} {z:PV} (h:aMakeFull.tz P t=Hs z):z.dids= []:=by
 unfold aMakeFull.tz at h;split at h;split at h;split at h;simp only[Jm.injEq]at h;subst h;exact VT _;cases h;cases h;cases h
theorem U0 (v:Value):PV.didsL (Xp v).cells= []:=by
 rw[JA];intro r hr;have:=WR hr;rw[VT]at this;cases this
def ZbF (o:Oper) (ρ:Operand->PV):List Ref:=o.op.operands.toList.flatMap λx=>(ρ x).dids
theorem Z0 {o:Oper} {ρ:Operand->PV} {x:Operand} {r:Ref} (hx:x∈o.op.operands.toList) (h:r∈(ρ x).dids):r∈ZbF o ρ:=Jp.2 ⟨x,hx,h⟩
theorem XW {r:Ref}:r∉(ARes.fail).v.dids:=by simp[ARes.fail,PV.dids]
theorem Zpl {t:TypeId} {x:PV} {f:Nat} {m:Hp}:∀r∈(Sd P t x f m).v.dids,r∈x.dids:=by
 intro r;unfold Sd;split;exact λh=>by simpa[PV.dids]using V2 h
 exact λh=>absurd h XW
theorem Zga {cs:List PV} {n:Nat} {r:Ref} (h:r∈PV.didsL (cs.drop n)):r∈PV.didsL cs:=DS (λc hc=>JL hc) h
theorem FR {t:TypeId} {x:PV} {f:Nat} {m:Hp}:∀r∈(YR P t x f m).v.dids,r∈x.dids:=by
 intro r;unfold YR;split;exact λh=>h
 exact λh=>by simp only[PV.dids]at *;exact Zga h
 exact λh=>h
 exact λh=>absurd h XW
theorem Zpm {t:TypeId} {x i:PV} {m:Hp}:∀r∈(Se P t x i m).v.dids,r∈x.dids:=by
 intro r;unfold Se;split;exact λh=>by simpa[PV.dids]using V2 h
 exact λh=>by simp[PV.dids]at h
 exact λh=>absurd h XW
theorem FS0 {t:TypeId} {x i:PV} {m:Hp}:∀r∈(YS P t x i m).v.dids,r∈x.dids:=by
 intro r;unfold YS;split;exact λh=>by simp only[PV.dids]at h;exact FF (XX (WR h))
 exact λh=>h
 exact λh=>h
 exact λh=>by simp only[PV.dids]at *;exact Zga h
 exact λh=>h
 exact λh=>h
 exact λh=>absurd h XW
theorem v_none {a:ARes} (h:a.v.dids= []) {r:Ref}:r∉a.v.dids:=by rw[h];simp
theorem ZtV {op:BinOp} {k k':IntKind} {x y:Int} {m:Hp}:(ZlD op k k' x y m).v.dids= []:=by
 unfold ZlD;split<;>rfl
theorem ZtZ {op:BinOp} {x y:List UInt8} {m:Hp}:(ZlI op x y m).v.dids= []:=by
 unfold ZlI;split<;>rfl
theorem ZtU {op:BinOp} {k k':FloatKind} {x y:Nat} {m:Hp}:(ZlC op k k' x y m).v.dids= []:=by
 unfold ZlC;split<;>rfl
theorem Zvz {b:Bool} {r:Option Bool} {m:Hp}:(aEq b r m).v.dids= []:=by
 unfold aEq;split<;>rfl
theorem ZtT {b:Bool} {t:TypeId} {x y:PV} {m:Hp}:(Zlp P b t x y m).v.dids= []:=by
 unfold Zlp;repeat' split
 all_goals first|rfl|exact Zvz
theorem ZtR {op:BinOp} {t:TypeId} {x y:PV} {m:Hp}:(ZlA P op t x y m).v.dids= []:=by
 unfold ZlA;repeat' split
 all_goals first|rfl|exact ZtV|exact ZtZ|exact ZtU|exact ZtT
theorem ZvA {op:UnOp} {x:PV} {m:Hp}:(aUn op x m).v.dids= []:=by
 unfold aUn;split<;>rfl
theorem ZrR {a b:TypeId} {x:PV} {m:Hp}:(UD P a b x m).v.dids= []:=by
 unfold UD;split<;>first|rfl|(split<;>first|rfl|(split<;>rfl))
theorem ZtW {t:TypeId} {x:PV} {m:Hp}:(ZlE P t x m).v.dids= []:=by
 unfold ZlE;split<;>rfl
theorem ZtX {x y:PV} {m:Hp}:(ZlF x y m).v.dids= []:=by
 unfold ZlF;split<;>rfl
theorem ZtY {x y:PV} {m:Hp}:(ZlG x y m).v.dids= []:=by
 unfold ZlG;split<;>rfl
theorem ZtS {x y:PV} {m:Hp}:(ZlB x y m).v.dids= []:=by
 unfold ZlB;split<;>rfl
theorem ZrV {x:PV} {m:Hp}:(Zbt x m).v.dids= []:=by
 unfold Zbt;split<;>rfl
theorem ZrS {x:PV} {m:Hp}:(Zbs x m).v.dids= []:=by
 unfold Zbs;split<;>rfl
theorem Zk9 {x:PV} {i:Nat} {m:Hp}:∀r∈(WL x i m).v.dids,r∈x.dids:=by
 intro r;unfold WL;split;exact λh=>by simpa[PV.dids]using XX h
 exact λh=>absurd h XW
theorem Ziv {x:PV} {m:Hp}:∀r∈(W4 x m).v.dids,r∈x.dids:=by
 intro r;unfold W4;split<;>first|exact λh=>h|exact λh=>absurd h XW
theorem ZrU {c x y:PV} {m:Hp}:∀r∈(FZ c x y m).v.dids,r∈x.dids\/r∈y.dids:=by
 intro r;unfold FZ;split<;>first|exact λh=> .inl h|exact λh=> .inr h|exact λh=>absurd h XW
theorem Zpk {t:TypeId} {l:List (Nat×PV)} {m:Hp}:∀r∈(Sc P t l m).v.dids,∃x∈l,r∈x.2.dids:=by
 intro r;have key:∀ {z:List PV} {pl cs},PV.didsL z= []->UN pl z l=Hs cs->r∈PV.didsL cs-> ∃x∈l,r∈x.2.dids:=λhz hf hr=>by
  rcases Zge _ _ _ hf r hr with h|h;rw[hz]at h;cases h;exact h
 have tz:∀fs z,tbd P t= .str fs z->PV.didsL z= []:=λfs z h=>by
  unfold tbd at h;repeat' split at h
  all_goals first|(cases h;exact U0 _)|cases h
 have tz2:∀n z,tbd P t= .arr n z->PV.didsL z= []:=λfs z h=>by
  unfold tbd at h;repeat' split at h
  all_goals first|(cases h;exact U0 _)|cases h
 unfold Sc;split;rename_i fs z hz;split;rename_i cs hf;exact λh=>key (tz _ _ hz) hf (by simpa[PV.dids]using h)
 exact λh=>absurd h XW
 rename_i fs z hz;split;rename_i cs hf;exact λh=>key (tz2 _ _ hz) hf (by simpa[PV.dids]using h)
 exact λh=>absurd h XW
 exact λh=>absurd h XW
theorem Zpn {t:TypeId} {x:PV} {lo hi:Option PV} {m:Hp}:∀r∈(Sf P t x lo hi m).v.dids,r∈x.dids:=by
 intro r;unfold Sf;repeat' split
 all_goals first|exact λh=>h|exact λh=>absurd h XW|(exact λh=>FF (DS (λc hc=>JL (JT hc)) h))|exact λh=>by simp[PV.dids]at h
end
open Go.RowKit
section
variable {P:Program} {ops:Array Oper}
structure RefsD (s:St):Prop where
 fr:∀i r,r∈(s.fr i).dids->Live s.m r
 h:∀i cs,s.m.h i=Hs cs-> ∀c∈cs,∀r∈c.dids,Live s.m r
 o:∀b c,s.m.o b=Hs c-> ∀r,(r∈PV.didsL c.ks\/r∈PV.didsL c.vs)->Live s.m r
 it:∀b x c,s.m.it b=Hs x->x.c=Hs c-> ∀r,¬(r∈PV.didsL c.ks\/r∈PV.didsL c.vs)
 v:∀i es,s.m.v i=Hs es-> ∀r∈PV.didsL es,Live s.m r
 om:∀b c,s.m.om b=Hs c-> ∀r∈PV.didsL c.vs,Live s.m r
theorem RefsD.refs {s:St} (h:RefsD s):Refs s:=⟨λi r hr=>h.fr i r (VD _ hr),λi cs hi c hc r hr=>h.h i cs hi c hc r (VD _ hr),λi es hi p hp r hr=>h.v i es hi r (PV.mem_didsL.2 ⟨p,hp,VD _ hr⟩),λb c hb p hp r hr=>h.om b c hb r (PV.mem_didsL.2 ⟨p,hp,VD _ hr⟩)⟩
theorem Rep.clean_dids {S:Stable} {v:Value} {p:PV} (r:Rep S v p):∀k,k∉p.dids:=by
 have go:∀(cs:List PV),(∀i,i<cs.length-> ∀k,k∉(cs.getD i .any).dids)-> ∀k,k∉PV.didsL cs:=λcs h k hk=>by
  obtain⟨c,hc,hkc⟩:=PV.mem_didsL.1 hk;obtain⟨j,hj,rfl⟩:=Jg hc;have:=h j hj k;rw[getD_lt hj]at this;exact this hkc
 induction r with
 |agg vs cs hl _ ih=>intro k hk;exact go cs ih k (by simpa[PV.dids]using hk)
 |tup vs cs hl _ ih=>intro k hk;exact go cs ih k (by simpa[PV.dids]using hk)
 |fn f vs cs hl _ ih=>intro k hk;exact go cs ih k (by simpa[PV.dids]using hk)
 |slf v es r hz ih=>intro k hk;exact ih k (by simpa[PV.dids]using hk)
 |rptr b o cs vals hS _ ih=>intro k hk;exact go cs ih k (by simpa[PV.dids]using hk)
 |rmap b es ks vs h1 h2 h3 h4 h5 h6 ihK ihV=>
  intro k hk;simp only[PV.dids,Jj]at hk;rcases hk with hk|hk;exact go ks ihK k hk;exact go vs (λi hi=>ihV i (by omega)) k hk
 |sl b o cap sz es vals hsz hcap hS _ ih=>
  intro k hk;refine go es (λi hi k hk=> ?_) k (by simpa[PV.dids]using hk);have hc:=go (es.getD i .any).cells (λj hj=>ih i j hi (by rw[hsz i hi]at hj;exact hj)) k;refine hc ?_;cases hp:es.getD i .any with
  |agg cs=>rw[hp]at hk;simpa[J9,PV.dids]using hk
  |_=>rw[hp]at hk;simpa[J9,PV.didsL]using hk
 |_=>intro k hk;simp[PV.dids,PV.didsL]at hk
theorem RepS.dids_ids {S:Stable} {M:Maps} {q:Rows} {v:Value} {p:PV} (r:RepS S M q v p):∀k∈p.dids,k∈p.ids:=by
 have go:∀(cs:List PV),(∀i,i<cs.length-> ∀k∈(cs.getD i .any).dids,k∈(cs.getD i .any).ids)-> ∀k∈PV.didsL cs,k∈Jr cs:=λcs h k hk=>by
  obtain⟨c,hc,hkc⟩:=PV.mem_didsL.1 hk;obtain⟨j,hj,rfl⟩:=Jg hc;have:=h j hj k;rw[getD_lt hj]at this;exact Js.2 ⟨_,hc,this hkc⟩
 induction r with
 |clean r=>exact λk hk=>absurd hk (r.clean_dids k)
 |ptr id off=>exact λk hk=>hk
 |osl id off len cap sz hc=>exact λk hk=>hk
 |vsl id len sz v hv t=>exact λk hk=>hk
 |vptr id n sz i off v hv hi t=>exact λk hk=>hk
 |row id v es r t=>
  intro k hk;simp only[PV.dids,JN]at hk;rcases hk with rfl|hk;simp[Jb];exact absurd (by simpa[PV.dids]using hk) (r.clean_dids k)
 |agg vs cs hl _ ih=>intro k hk;simp only[PV.dids,Jb]at *;exact go cs ih k hk
 |tup vs cs hl _ ih=>intro k hk;simp only[PV.dids,Jb]at *;exact go cs ih k hk
 |fn f vs cs hl _ ih=>intro k hk;simp only[PV.dids,Jb]at *;exact go cs ih k hk
theorem Sim.refsD {B:Frm} {S:Stable} {M:Maps} {s:St} {a:Act} {w:World} (hs:Sim B S M s a w):RefsD s:=by
 have clean:∀(ks vs:List PV) (es:List MapEntry),vs.length=ks.length->(∀i,i<ks.length->Rep S (es.getD i Jd).key (ks.getD i .any))->(∀i,i<ks.length->Rep S (es.getD i Jd).val (vs.getD i .any))-> ∀r,¬(r∈PV.didsL ks\/r∈PV.didsL vs):=λks vs es e3 e5 e6 r hr=>by
  rcases hr with hr|hr;obtain⟨x,hx,hxr⟩:=PV.mem_didsL.1 hr;obtain⟨j,hj,rfl⟩:=Jg hx;have:=(e5 j hj).clean_dids r;rw[getD_lt hj]at this;exact this hxr;obtain⟨x,hx,hxr⟩:=PV.mem_didsL.1 hr;obtain⟨j,hj,rfl⟩:=Jg hx;have:=(e6 j (by omega)).clean_dids r;rw[getD_lt hj]at this;exact this hxr
 refine⟨λi r hr=>hs.ids i r ((hs.fr i).dids_ids r hr),λi cs hi c hc r hr=> ?_,λb c hc r hr=> ?_,λb x c hx hc r hr=> ?_,λi es hi r hr=> ?_,λb c hc r hr=> ?_⟩
 rotate_left
 obtain⟨_,_,es,e1,e2,e3,e4,e5,e6⟩:=hs.stable.o b c hc;exact absurd hr (clean _ _ es e3 e5 e6 r);obtain⟨es,e1,e2,e3,e4,e5,e6⟩:=(hs.stable.i b x hx).2.2 c hc;exact clean _ _ es e3 e5 e6 r hr;obtain⟨sz,e,q1,k1,k2,k3⟩:=hs.vc i es hi;obtain⟨p,hp,hpr⟩:=PV.mem_didsL.1 hr;obtain⟨j,hj,rfl⟩:=Jg hp;obtain⟨o1,o2⟩:=hs.row i _ q1;cases hκ:M.κ i with
 |zero=>have:=o1 hκ;omega
 |succ c=>
  obtain⟨_,_,_,⟨vs,g5,g6⟩,_⟩:=o2 c hκ;have g7:=k3 c hκ vs e (0,0) g5
  -- the element's cells
  have hx:=k1 _ hp;have hin:∃x∈es[j].cells,r∈x.dids:=by
   cases hp2:es[j]with
   |agg cs=>rw[hp2]at hpr;simp only[PV.dids]at hpr;exact PV.mem_didsL.1 hpr
   |_=>rw[hp2]at hpr;exact⟨_,Jo.2 rfl,hpr⟩
  obtain⟨x,hx1,hx2⟩:=hin;obtain⟨l,hl,rfl⟩:=Jg hx1;have hr2:=g7 j l hj (by rw[<-hx.1];exact hl);rw[getD_lt hj,getD_lt hl]at hr2;exact k2 _ hp r (Yn hx1 (hr2.dids_ids r hx2))
 obtain⟨_,_,_,⟨es,e1,e2,e3,e4,e5,e6⟩,e7⟩:=hs.rm b c hc;obtain⟨p,hp,hpr⟩:=PV.mem_didsL.1 hr;obtain⟨j,hj,rfl⟩:=Jg hp;have:=(e6 j (by omega)).dids_ids r;rw[getD_lt hj]at this;exact e7 _ hp r (this hpr);have hb:=hs.blk i cs hi;obtain⟨j,hj,rfl⟩:=Jg hc;cases hz:s.m.z i with
 |false=>
  rw[hz]at hb;obtain⟨_,_,⟨vs,ty,h3,h4,h5⟩,h6⟩:=hb;have:=(h5 j hj).dids_ids r;rw[getD_lt hj]at this;exact h6 _ (Jw hj) r (this hr)
 |true=>
  rw[hz]at hb;obtain⟨vals,hv⟩:=hb;have:=(hv j hj).2;rw[getD_lt hj]at this;exact absurd hr (this.clean_dids r)
theorem Gi {s:St} (hr:RefsD s) (o:Oper):∀r∈ZbF o s.eval,Live s.m r:=λr h=>by
 unfold ZbF at h;obtain⟨x,_,hx⟩:=Jp.1 h;cases x with
 |tmp t=>exact hr.fr t r hx
 |const v=>simp[St.eval,VT]at hx
 |func f=>simp[St.eval,PV.dids,PV.didsL]at hx
 |_=>simp[St.eval,PV.dids]at hx
mutual
theorem TF:∀(p:PV) {r:Ref},r∈p.share.dids->r∈p.dids
 | .ptr _ _,r,h=>h
 | .osl _ _ _ _,r,h=>h
 | .sl t es,r,h=>by cases t<;>(simp only[Kd,Tok.sh,PV.dids]at h;exact FF h)
 | .agg cs,r,h=>by simp only[Kd,PV.dids]at *;exact Vm cs h
 | .tup cs,r,h=>by simp only[Kd,PV.dids]at *;exact Vm cs h
 | .fn _ cs,r,h=>by simp only[Kd,PV.dids]at *;exact Vm cs h
 | .any,r,h=>h
 | .int _ _,r,h=>h
 | .bool _,r,h=>h
 | .str _,r,h=>h
 | .flt _ _,r,h=>h
 | .cpx _ _ _,r,h=>h
 | .rptr _,r,h=>h
 | .nilp,r,h=>h
 | .nilfn,r,h=>h
 | .nilmap,r,h=>h
 | .mref _,r,h=>h
 | .rmap _ _,r,h=>h
 | .iptr _,r,h=>h
 | .vsl _ _ _,r,h=>h
 | .vptr _ _ _ _ _,r,h=>h
theorem Vm:∀(cs:List PV) {r:Ref},r∈PV.didsL (JQ cs)->r∈PV.didsL cs
 | [],r,h=>h
 |c::cs,r,h=>by
  simp only[JQ,PV.didsL,Jj]at *;exact h.imp (TF c) (Vm cs)
end
def Keeps (m:Hp) (a:ARes):Prop:=(∀r∈a.v.dids,Live a.m r)/\ ∀i cs,a.m.h i=Hs cs->m.h i=Hs cs\/ ∀r∈PV.didsL cs,Live a.m r
theorem Keeps.same {m:Hp} {a:ARes} (he:a.m=m) (h:∀r∈a.v.dids,Live m r):Keeps m a:=⟨by rw[he];exact h,λi cs hi=> .inl (by rw[he]at hi;exact hi)⟩
theorem Sz {m:Hp} {d:Nat} {x:List PV} {r:Ref} (h:Live m r):Live (m.new d x) r:=by
 cases r with
 |r i=>exact h
 |b i=>
  simp only[Live,Hp.new]at *;unfold upd;split<;>simp_all
theorem Xn {m:Hp} {d:Nat} {x:Row}:Live (m.setq d x) (.r d):=by simp[Live,Hp.setq,upd]
theorem ZbS {m:Hp} {d:Nat} {x:List PV}:Live (m.new d x) (.b d):=by simp[Live,Hp.new,upd]
theorem Zdo {ok:Prop} {m:Hp} {d:Nat} {cs:List PV} {v:PV} (hv:v.dids= [.b d]) (h:∀r∈PV.didsL cs,Live m r):Keeps m ⟨ok,v,m.new d cs⟩:=by
 refine⟨λr hr=> ?_,λi ds hi=> ?_⟩;rw[hv]at hr;simp only[Jo]at hr;subst hr;exact ZbS;by_cases hd:d=i;subst hd;simp[Hp.new,upd]at hi;subst hi;exact .inr λr hr=>Sz (h r hr)
 left;simpa[Hp.new,upd,hd]using hi
theorem ZrT {z:PV} {vs:List PV} {ok:Bool} {i:Option Nat} {r:Ref} (hz:z.dids= []) (h:r∈(Zmy z vs ok i).dids):r∈PV.didsL vs:=by
 unfold Zmy at h;split at h;split at h;simp only[PV.dids,PV.didsL,JK]at h;exact XX h;exact XX h;split at h;simp only[PV.dids,PV.didsL,JK,hz]at h;cases h;rw[hz]at h;cases h
theorem ZhW {s:St} (hr:RefsD s) {x:PV} (hx:∀r∈x.dids,Live s.m r) {c:MapC} (h:Gu s.m x=Hs c):∀r,(r∈PV.didsL c.ks\/r∈PV.didsL c.vs)->Live s.m r:=by
 cases x with
 |rmap ks vs=>
  simp only[Gu,Jm.injEq]at h;subst h;intro r hh;exact hx r (by simp only[PV.dids,Jj];exact hh)
 |mref b=>exact hr.o b c h
 |_=>simp[Gu]at h
theorem ZjR {s:St} (hr:RefsD s) {o:Oper} (hok:(aop P o s.eval s.m).ok):∀b c,(aop P o s.eval s.m).m.o b=Hs c->s.m.o b=Hs c\/ ∀r,(r∈PV.didsL c.ks\/r∈PV.didsL c.vs)->Live s.m r:=by
 intro b c hb;have hF:=Dm hok;have L:=Gi hr o;cases hw:(fp o.op).wo with
 |false=>rw[hF.o1 hw]at hb;exact .inl hb
 |true=>
  obtain⟨dst,op,ty,pos,af,guard⟩:=o;cases op with
  |mapUpdate t x k v=>
   have hv:∀r∈(s.eval v).dids,Live s.m r:=λr h=>L r (Z0 (x:=v) (by simp[Ja]) h)
   have hk:∀r∈(s.eval k).dids,Live s.m r:=λr h=>L r (Z0 (x:=k) (by simp[Ja]) h)
   revert hok hb
   show(ZP P t (s.eval x) (s.eval k) (s.eval v) s.m).ok->(ZP P t (s.eval x) (s.eval k) (s.eval v) s.m).m.o b=Hs c->_;unfold ZP;split
   ·rename_i b0 _;split
    ·rename_i ls zz c0 cs h1 h2 h3;rw[h3]at hk;split
     ·intro _ hb;simp only at hb
      by_cases e:b0=b
      ·subst e;rw[Za]at hb;cases hb;refine .inr λr hh=> ?_
       rcases hh with hh|hh
       ·exact hr.o b0 c0 h2 r (.inl hh)
       ·obtain⟨y,hy,hyr⟩:=PV.mem_didsL.1 hh;rcases JU hy with hy|rfl
        ·exact hr.o b0 c0 h2 r (.inr (PV.mem_didsL.2 ⟨y,hy,hyr⟩))
        ·exact hv r (TF _ hyr)
      ·rw[Zg _ _ e]at hb;exact .inl hb
     ·intro _ hb;simp only at hb
      by_cases e:b0=b
      ·subst e;rw[Za]at hb;cases hb;refine .inr λr hh=> ?_
       rcases hh with hh|hh
       ·obtain⟨y,hy,hyr⟩:=PV.mem_didsL.1 hh;rcases Jj.1 hy with hy|hy
        ·exact hr.o b0 c0 h2 r (.inl (PV.mem_didsL.2 ⟨y,hy,hyr⟩))
        ·simp only[Jo]at hy;subst hy;simp only[PV.dids]at hyr;exact hk r (by simp only[PV.dids];exact Vm _ hyr)
       ·obtain⟨y,hy,hyr⟩:=PV.mem_didsL.1 hh;rcases Jj.1 hy with hy|hy
        ·exact hr.o b0 c0 h2 r (.inr (PV.mem_didsL.2 ⟨y,hy,hyr⟩))
        ·simp only[Jo]at hy;subst hy;exact hv r (TF _ hyr)
      ·rw[Zg _ _ e]at hb;exact .inl hb
     ·exact λh=>h.elim
    ·exact λh=>h.elim
   ·exact λh=>h.elim
  |makeSlice t l c=>cases hw
  |makeFunc f g h=>unfold fp at hw;simp only at hw;split at hw<;>cases hw
  |call cc=>
   obtain⟨cal,ar,ts⟩:=cc;cases cal with
   |builtin bb=>unfold fp at hw;simp only at hw;split at hw<;>cases hw
   |_=>cases hw
  |_=>cases hw
theorem ZjQ {s:St} (hr:RefsD s) {o:Oper} (hok:(aop P o s.eval s.m).ok):Keeps s.m (aop P o s.eval s.m):=by
 have hF:=Dm hok;have L:=Gi hr o;have nm:Wa (aop P o s.eval)->(∀r∈(aop P o s.eval s.m).v.dids,r∈ZbF o s.eval)->Keeps s.m (aop P o s.eval s.m):=λh hf=> .same (h s.m s.m hok).1 λr h=>L r (hf r h)
 obtain⟨dst,op,ty,pos,af,guard⟩:=o;cases op with
 |move x=>exact nm Zm λr h=>Z0 (x:=x) (by simp[Ja]) h
 |assign x=>exact nm Zm λr h=>Z0 (x:=x) (by simp[Ja]) h
 |pick c x y=>exact nm Za0 λr h=>(ZrU r h).elim (Z0 (x:=x) (by simp[Ja])) (Z0 (x:=y) (by simp[Ja]))
 |nilCheck x=>exact nm TN λr h=>Z0 (x:=x) (by simp[Ja]) (Ziv r h)
 |binOp op t x y yt=>exact nm Zdt λr h=>absurd h (v_none ZtR)
 |unOp op t x=>exact nm ZgC λr h=>absurd h (v_none ZvA)
 |convert a b x=>exact .same (Znw hok) λr h=>absurd h (v_none ZrR)
 |field t x f=>exact nm Fl λr h=>Z0 (x:=x) (by simp[Ja]) (Zpl r h)
 |fieldAddr t x f=>exact nm UX λr h=>Z0 (x:=x) (by simp[Ja]) (FR r h)
 |index t x i=>exact nm Fm λr h=>Z0 (x:=x) (by simp[Ja]) (Zpm r h)
 |indexAddr t x i=>exact nm UY λr h=>Z0 (x:=x) (by simp[Ja]) (FS0 r h)
 |extract x i=>exact nm SD λr h=>Z0 (x:=x) (by simp[Ja]) (Zk9 r h)
 |lookup t x k ok=>
  have hop:aop P ⟨dst,.lookup t x k ok,ty,pos,af,guard⟩ s.eval s.m=XC P t (s.eval x) (s.eval k) ok s.m:=rfl;rw[hop]at hok ⊢;refine .same (UV s.m s.m rfl hok).1 λr h=> ?_
  revert hok h
  unfold XC;split
  ·rename_i ls z c cs h1 h2 h3;split
   ·intro _ h;obtain⟨kt,et,fs,i,zv,t1,t2,t3,t4,t5,rfl,t6⟩:=SW h1;exact ZhW hr (λr h=>L r (Z0 (x:=x) (by simp[Ja]) h)) h2 r (.inr (ZrT (VT _) h))
   ·exact λh=>h.elim
  ·exact λh=>h.elim
 |entry x=>
  have hop:aop P ⟨dst,.entry x,ty,pos,af,guard⟩ s.eval s.m=W0 (s.eval x) s.m:=rfl;rw[hop]at hok ⊢;refine .same (TU s.m s.m rfl rfl hok).1 λr h=> ?_
  revert hok h
  unfold W0;split
  ·split
   ·rename_i itc hit;split
    ·rename_i c i h2 h3;intro _ h;simp only[PV.dids,PV.didsL,JK,Jj]at h;unfold mapIt at h2;cases hc:itc.c with
     |some d=>
      rw[hc]at h2;simp only[Jm.injEq]at h2;subst h2;exact absurd (h.imp XX XX) (hr.it _ itc d hit hc r)
     |none=>
      rw[hc]at h2;exact hr.o _ c h2 r (h.imp XX XX)
    ·exact λh=>h.elim
   ·exact λh=>h.elim
  ·exact λh=>h.elim
 |mapUpdate t x k v=>
  have hop:aop P ⟨dst,.mapUpdate t x k v,ty,pos,af,guard⟩ s.eval s.m=ZP P t (s.eval x) (s.eval k) (s.eval v) s.m:=rfl;rw[hop]at hok ⊢;obtain⟨e,_⟩:=U9 s.m s.m rfl hok;refine⟨λr h=> ?_,λi cs hi=> .inl (by rw[e]at hi;exact hi)⟩
  revert hok h
  unfold ZP;split
  ·split
   ·split
    ·exact λ_ h=>by simp[PV.dids,PV.didsL]at h
    ·exact λ_ h=>by simp[PV.dids,PV.didsL]at h
    ·exact λh=>h.elim
   ·exact λh=>h.elim
  ·exact λh=>h.elim
 |build t parts=>
  refine nm Fk λr h=> ?_
  obtain⟨x,hx,hr⟩:=Zpk r h;obtain⟨y,hy,rfl⟩:=Je.1 hx;exact Z0 (x:=y.2) (by simp[Ja];exact⟨y.1,JM.1 hy⟩) hr
 |slice t x lo hi mx=>
  cases mx with
  |some _=>exact hok.elim
  |none=>exact nm Fn λr h=>Z0 (x:=x) (by simp[Ja]) (Zpn r h)
 |alloc t=>
  cases dst with
  |none=>exact hok.elim
  |some d=>
   cases hz:X8 P t with
   |none=>simp only[aop,hz]at hok;exact hok.elim
   |some z=>simp only[aop,hz];exact Zdo rfl (by rw[Znr hz];simp)
 |box t x=>
  cases dst with
  |none=>exact hok.elim
  |some d=>exact Zdo rfl λr h=>L r (Z0 (x:=x) (by simp[Ja]) (WR h))
 |load t x=>
  simp only[aop]at hok ⊢;split at hok
  ·rename_i ht;rw[if_pos ht]
   revert hok
   unfold VP;split
   ·rename_i cs hx;exact λ_=> .same rfl λr h=>L r (Z0 (x:=x) (by simp[Ja]) (by rw[hx];simp only[PV.dids];exact V2 h))
   ·split
    ·rename_i cs hh;exact λ_=> .same rfl λr h=>by
      obtain⟨c,hc,hcr⟩:=PV.mem_didsL.1 (V2 h);exact hr.h _ cs hh c hc r hcr
    ·exact λh=>h.elim
   ·rename_i id n z k off hx;split
    ·rename_i es hh;exact λ_=> .same rfl λr h=>hr.v _ es hh r (by
      obtain⟨c,hc,hcr⟩:=PV.mem_didsL.1 (V2 h);exact XX (VS hc hcr))
    ·exact λh=>h.elim
   ·exact λh=>h.elim
  ·exact hok.elim
 |store t x y=>
  simp only[aop]at hok ⊢;split at hok
  ·rename_i ht;rw[if_pos ht]
   revert hok
   unfold Wl;split
   ·rename_i id off hx;split
    ·rename_i cs hh;intro hok;refine⟨λr h=>by simp[PV.dids,PV.didsL]at h,λi ds hi=> ?_⟩;have lv:∀r,Live s.m r->Live { s.m with h:=upd s.m.h id (Hs (Yu cs off (s.eval y).cells)) } r:=λr h=>by
      cases r with
      |r i=>exact h
      |b i=>simp only[Live]at *;unfold upd;split<;>simp_all
     by_cases hd:id=i
     ·subst hd;simp[upd]at hi;subst hi;refine .inr λr h=>lv r ?_
      rcases Zbe h with h|h
      ·obtain⟨c,hc,hcr⟩:=PV.mem_didsL.1 h;exact hr.h id cs hh c hc r hcr
      ·exact L r (Z0 (x:=y) (by simp[Ja]) (WR h))
     ·left;simpa[upd,hd]using hi
    ·exact λh=>h.elim
   ·split
    ·exact λ_=>⟨λr h=>by simp[PV.dids,PV.didsL]at h,λi ds hi=> .inl hi⟩
    ·exact λh=>h.elim
   ·exact λh=>h.elim
  ·exact hok.elim
 |makeFunc fn first caps=>
  cases fn with
  |func f=>
   simp only[aop]at hok ⊢;split at hok
   ·rename_i hf;rw[if_pos hf];refine⟨λr h=> ?_,λi cs hi=> .inl (by simpa[Wd]using hi)⟩;have:Live s.m r:=by
     obtain⟨c,hc,hcr⟩:=PV.mem_didsL.1 (by simpa[PV.dids]using h);obtain⟨x,hx,rfl⟩:=Je.1 hc;exact L r (Z0 (x:=x) (by simp[Ja];right;exact JM.1 hx) hcr)
    cases r with
    |b i=>simpa[Live,Wd]using this
    |r i=>simpa[Live,XK]using this
   ·exact hok.elim
  |_=>exact hok.elim
 |buildSlice t len parts=>
  cases dst with
  |none=>exact hok.elim
  |some d=>
   cases he:X2 P t with
   |none=>simp only[aop,YL,he]at hok;exact hok.elim
   |some ei=>
    simp only[aop,YL,he];refine⟨λr h=> ?_,λi cs hi=> .inl hi⟩;simp only[PV.dids,JN]at h;rcases h with rfl|h
    ·exact Xn
    ·obtain⟨c,hc,hcr⟩:=PV.mem_didsL.1 h;obtain⟨x,hx,rfl⟩:=Je.1 hc;obtain⟨y,hy,rfl⟩:=Je.1 hx;exact Xm _ (L r (Z0 (x:=y.2) (by simp[Ja];exact⟨y.1,JM.1 hy⟩) (TF _ hcr)))
 |makeSlice t l c=>
  cases dst with
  |none=>exact hok.elim
  |some d=>
   by_cases hl:∃k,l= .const (.int k 0)
   ·obtain⟨k,rfl⟩:=hl;have hop:aop P ⟨Hs d,.makeSlice t (.const (.int k 0)) c,ty,pos,af,guard⟩ s.eval s.m=XT P d t (s.eval c) s.m:=rfl;rw[hop]at hok ⊢
    revert hok
    unfold XT;split
    ·exact λ_=>⟨λr h=>by simp[PV.dids,PV.didsL]at h;subst h;exact Xn,λi cs hi=> .inl hi⟩
    ·exact λh=>h.elim
   ·have hop:aop P ⟨Hs d,.makeSlice t l c,ty,pos,af,guard⟩ s.eval s.m=aMakeFull P d t (s.eval l) (s.eval c) s.m:=by
     unfold aop;simp only;split
     ·rename_i k;exact absurd ⟨_,rfl⟩ hl
     ·rfl
    rw[hop]at hok ⊢
    revert hok
    unfold aMakeFull;split
    ·split
     ·rename_i z hz;refine λ_=>⟨λr h=> ?_,λi cs hi=> .inl hi⟩
      simp only[PV.dids,JN]at h;rcases h with rfl|h
      ·exact Xn
      ·obtain⟨c',hc,hcr⟩:=PV.mem_didsL.1 h;rw[List.eq_of_mem_replicate hc,ZrA hz]at hcr;cases hcr
     ·exact λh=>h.elim
    ·exact λh=>h.elim
 |call c=>
  obtain⟨callee,args,ts⟩:=c;cases callee with
  |builtin b=>
   simp only[aop]at hok ⊢
   revert hok
   unfold ZU;split
   ·split
    ·exact λhok=> .same (GY s.m s.m rfl hok).1 λr h=>absurd h (v_none (by unfold Wb;split<;>rfl))
    ·exact λhok=> .same (Zdv s.m s.m hok).1 λr h=>absurd h (v_none ZtW)
   ·rename_i t tx x y hts hxs;have hx:∀r∈x.dids,Live s.m r:=λr h=>by
     have:x∈args.toList.map s.eval:=by rw[hxs];simp
     obtain⟨z,hz,rfl⟩:=Je.1 this;exact L r (Z0 (x:=z) (by simp[Ja,Call.operands];exact JM.1 hz) h)
    have hy:∀r∈y.dids,Live s.m r:=λr h=>by
     have:y∈args.toList.map s.eval:=by rw[hxs];simp
     obtain⟨z,hz,rfl⟩:=Je.1 this;exact L r (Z0 (x:=z) (by simp[Ja,Call.operands];exact JM.1 hz) h)
    have hys:∀ys,Wi P tx y=Hs ys-> ∀r∈PV.didsL ys,Live s.m r:=λys h r hr=>by
     unfold Wi at h;split at h
     ·cases h;exact hy r (FF hr)
     ·cases h;obtain⟨c,hc,hcr⟩:=PV.mem_didsL.1 hr;unfold YN at hc;obtain⟨z,hz,rfl⟩:=Je.1 hc;simp[PV.dids]at hcr
     ·cases h
    split
    ·unfold Ub;split
     ·rename_i ys _ _ hyy;refine λ_=>⟨λr h=> ?_,λi cs hi=> .inl hi⟩
      simp only[PV.dids,JN]at h;rcases h with rfl|h
      ·exact Xn
      ·exact Xm _ (hys _ (by assumption) r h)
     ·split
      ·refine λ_=>⟨λr h=> ?_,λi cs hi=> .inl ?_⟩
       ·simp only[PV.dids,JN]at h;rcases h with rfl|h
        ·simp only;split<;>exact Xn
        ·have:Live s.m r:=by
          obtain⟨c,hc,hcr⟩:=PV.mem_didsL.1 h;rcases Jj.1 hc with hc|hc
          ·exact hx r (FF (PV.mem_didsL.2 ⟨c,hc,hcr⟩))
          ·exact hys _ (by assumption) r (PV.mem_didsL.2 ⟨c,hc,hcr⟩)
         simp only;split
         ·exact Xm _ this
         ·exact Xm _ (Xm _ this)
       ·simp only at hi;split at hi<;>exact hi
      ·exact λh=>h.elim
     ·exact λh=>h.elim
    ·exact λh=>h.elim
   ·exact λhok=> .same (Zdw s.m s.m hok).1 λr h=>absurd h (v_none ZtX)
   ·exact λhok=> .same (Zdx s.m s.m hok).1 λr h=>absurd h (v_none ZtY)
   ·exact λhok=> .same (Zdu s.m s.m hok).1 λr h=>absurd h (v_none ZtS)
   ·exact λhok=> .same (Za1 s.m s.m hok).1 λr h=>absurd h (v_none ZrV)
   ·exact λhok=> .same (ZaZ s.m s.m hok).1 λr h=>absurd h (v_none ZrS)
   ·exact λh=>h.elim
  |_=>exact hok.elim
 |_=>exact hok.elim
theorem Zh4 {x v:PV} {off:Nat} {r:Ref} (h:r∈(Fs x off v).dids):r∈x.dids\/r∈v.dids:=by
 unfold Fs at h;split at h;exact .inr h;simp only[PV.dids]at h;obtain⟨c,hc,hcr⟩:=PV.mem_didsL.1 h;simp only[Yu,Jj]at hc;rcases hc with (hc|hc)|hc;exact .inl (VS (JT hc) hcr);exact .inr (VS hc hcr);exact .inl (VS (JL hc) hcr)
theorem ZjS {s:St} (hr:RefsD s) {o:Oper} (hok:(aop P o s.eval s.m).ok):∀i es,(aop P o s.eval s.m).m.v i=Hs es-> ∀r∈PV.didsL es,Live s.m r:=by
 intro i es hi;have hF:=Dm hok;have L:=Gi hr o;by_cases hw:Wh o s.eval (.r i);obtain⟨dst,op,ty,pos,af,guard⟩:=o;have hwh:(fp op).wh=true:=by
  rcases hw with ⟨w,_⟩|⟨_,_,_,e⟩;exact w;cases e
 cases op with
 |store t x y=>
  have hy:∀r∈(s.eval y).dids,Live s.m r:=λr h=>L r (Z0 (x:=y) (by simp[Ja]) h)
  revert hok hi;show((if tkn P t then Wl P t (s.eval x) (s.eval y) s.m else .fail).ok)->((if tkn P t then Wl P t (s.eval x) (s.eval y) s.m else .fail).m.v i=Hs es)->_;split;unfold Wl;split;split;exact λ_ hi=>hr.v i es hi
  exact λh=>h.elim
  rename_i id n z k off hxe;split;rename_i es0 hv0;intro _ hi;by_cases e:id=i;subst e;simp only[Za,Jm.injEq]at hi;subst hi;intro r h;obtain⟨c,hc,hcr⟩:=PV.mem_didsL.1 h;rcases JU hc with hc|rfl;exact hr.v _ _ hv0 r (PV.mem_didsL.2 ⟨c,hc,hcr⟩);rcases Zh4 hcr with h1|h1;exact hr.v _ _ hv0 r (XX h1);exact hy r h1;simp only[Zg _ _ e]at hi;exact hr.v i es hi;exact λh=>h.elim
  exact λh=>h.elim
  exact λh=>h.elim
 |makeSlice t l c=>cases hwh
 |makeFunc f g h=>unfold fp at hwh;simp only at hwh;split at hwh<;>cases hwh
 |call cc=>
  obtain⟨cal,ar,ts⟩:=cc;cases cal with
  |builtin bb=>unfold fp at hwh;simp only at hwh;split at hwh<;>cases hwh
  |_=>cases hwh
 |_=>cases hwh
 have:(aop P o s.eval s.m).m.v i=s.m.v i:=hF.h1 (.r i) hw;rw[this]at hi;exact hr.v i es hi
theorem WV {s s':St} {o:Oper} (hr:RefsD s) (h:WZ P ops o s s'):RefsD s':=by
 have put:∀(m':Hp) (v:PV),(∀r,Live s.m r->Live m' r)->(∀r∈v.dids,Live m' r)->(∀i cs,m'.h i=Hs cs->s.m.h i=Hs cs\/ ∀r∈PV.didsL cs,Live m' r)->(∀b c,m'.o b=Hs c->s.m.o b=Hs c\/ ∀r,(r∈PV.didsL c.ks\/r∈PV.didsL c.vs)->Live s.m r)->m'.io=s.m.io->(∀i es,m'.v i=Hs es-> ∀r∈PV.didsL es,Live s.m r)->RefsD ((s.with m').put o.dst v):=λm' v hl hv hh ho hio hvv=>by
  have hit:m'.it=s.m.it:=congrArg (λx=>x.1) hio;have hom:m'.om=s.m.om:=congrArg (λx=>x.2.1) hio;refine⟨λi r h=> ?_,λi cs hi c hc r h=> ?_,λb c hc r h=> ?_,λb x c hx hc r h=> ?_,λi es hi r h=> ?_,λb c hc r h=> ?_⟩;rw[SF];by_cases hd:o.dst=Hs i;rw[hd]at h;simp only[St.put,upd,if_true]at h;exact hv r h;rw[ZdJ hd]at h;exact hl r (hr.fr i r h);rw[SF]at hi ⊢;rcases hh i cs hi with h1|h1;exact hl r (hr.h i cs h1 c hc r h);exact h1 r (PV.mem_didsL.2 ⟨c,hc,h⟩);rw[SF]at hc ⊢;rcases ho b c hc with h1|h1;exact hl r (hr.o b c h1 r h);exact hl r (h1 r h);rw[SF]at hx;have hx:m'.it b=Hs x:=hx;rw[hit]at hx;exact hr.it b x c hx hc r h;rw[SF]at hi ⊢;exact hl r (hvv i es hi r h);rw[SF]at hc ⊢;have hc:m'.om b=Hs c:=hc;rw[hom]at hc;exact hl r (hr.om b c hc r h)
 obtain⟨_,h⟩:=h;rcases h with ⟨_,v,m',hs,rfl⟩|⟨_,rfl⟩;have F:=D4 hs;have hl:∀r,Live s.m r->Live m' r:=λr h=>by
  cases r with
  |b i=>exact F.hl i h
  |r i=>exact F.ql i h
 rcases hs with ⟨h1,rfl,rfl⟩|⟨c,g,args,ho,hc,hp,rfl⟩;have K:=ZjQ hr h1;exact put _ _ hl K.1 K.2 (ZjR hr h1) F.i1 (ZjS hr h1);exact put _ _ hl (by
  have e:v.dids= []:=by rcases hp with ⟨_,hp⟩|⟨_,_,_,_,_,_,_,_,_,hp,_⟩<;>exact hp.2.1
  rw[e];simp) (λi cs hi=> .inl hi) (λb c hc=> .inl hc) rfl hr.v
 exact put s.m (.tup []) (λr h=>h) (by simp[PV.dids,PV.didsL]) (λi cs hi=> .inl hi) (λb c hc=> .inl hc) rfl hr.v
end
open Go.RowKit
section
variable {P:Program} {ops:Array Oper} {md:Ks}
def Znt (P:Program) (md:Ks) (ops:Array Oper) (K:St->Prop):Nat->Array Bool->St->Prop
 |0,listed,s=>J3 md ops listed= []/\K s
 |fuel+1,listed,s=>(J3 md ops listed= []->K s)/\ ∀i∈J3 md ops listed,∃o s',ops[i]? = Hs o/\WZ P ops o s s'/\Znt P md ops K fuel (listed.setIfInBounds i Ht) s'
theorem Zay {K:St->Prop} {i:Nat} {oi:Oper} (hi:ops[i]? = Hs oi):
  ∀(fuel:Nat) (listed:Array Bool) (s s1:St),RefsD s->
   (∀j oj,ops[j]? = Hs oj->j≠i->listed.getD j Ht=Hf->(∀e∈oj.after,Ka md e=Ht->e.on≠i)->oi.apart ops oj=Ht/\compat oi.op oj.op=Ht)->
   i∈J3 md ops listed->WZ P ops oi s s1->
   Znt P md ops K fuel (listed.setIfInBounds i Ht) s1->Znt P md ops K (fuel+1) listed s:=by
 intro fuel;induction fuel with
 |zero=>
  intro listed s s1 hR _ hr hy H;refine⟨λh=>(by rw[h]at hr;cases hr),λj hj=> ?_⟩;by_cases hji:j=i;subst hji;exact⟨oi,s1,hi,hy,H⟩;have:=ready_mono hj hji;rw[H.1]at this;cases this
 |succ fuel ih=>
  intro listed s s1 hR hfree hr hy H;refine⟨λh=>(by rw[h]at hr;cases hr),λj hj=> ?_⟩;by_cases hji:j=i;subst hji;exact⟨oi,s1,hi,hy,H⟩;obtain⟨oj,s2,hoj,hy2,h1⟩:=H.2 j (ready_mono hj hji);obtain⟨hjun,oj',hoj',hall⟩:=mem_ready.1 hj;rw[hoj]at hoj';cases hoj';have hnot:∀e∈oj.after,Ka md e=Ht->e.on≠i:=λe he hb heq=>by
   have h1:=hall e he hb;have h0:=(mem_ready.1 hr).1;rw[heq]at h1;rcases Nat.lt_or_ge i listed.size with h'|h';simp[h']at h0 h1;rw[h0]at h1;cases h1;simp[Array.getElem?_eq_none h']at h1
  obtain⟨hap,hcp⟩:=hfree j oj hoj hji hjun hnot;obtain⟨s1',hya,hyb⟩:=Zbo hR.refs hap hcp hy hy2;have hfree':∀k ok,ops[k]? = Hs ok->k≠i->(listed.setIfInBounds j Ht).getD k Ht=Hf->
    (∀e∈ok.after,Ka md e=Ht->e.on≠i)->oi.apart ops ok=Ht/\compat oi.op ok.op=true:=λk ok hk hki hun hno=>by
   refine hfree k ok hk hki ?_ hno
   by_cases hjk:j=k
   ·subst hjk;exact hjun
   ·rw[getD_set_ne Ht hjk]at hun;exact hun
  refine⟨oj,s1',hoj,hya,ih (listed.setIfInBounds j Ht) s1' s2 (WV hR hya) hfree' (ready_mono hr (Jz hji)) hyb ?_⟩;rw[Array.setIfInBounds_comm _ _ hji];exact h1
def Zol (md:Ks) (ops:Array Oper) (listed:Array Bool) (i:Nat):Bool:=
 match ops[i]? with
 |none=>Hf
 |some oi=>(List.range ops.size).all λj=>j==i||listed.getD j Ht||match ops[j]? with
   |some oj=>oj.after.any (λe=>Ka md e&&e.on==i)||(oi.apart ops oj&&compat oi.op oj.op)
   |none=>Ht
theorem ZaM {i:Nat} {oi:Oper} {listed:Array Bool} (hi:ops[i]? = Hs oi) (h:Zol md ops listed i=Ht) (j:Nat) (oj:Oper)
  (hj:ops[j]? = Hs oj) (hne:j≠i) (hun:listed.getD j Ht=Hf) (hno:∀e∈oj.after,Ka md e=Ht->e.on≠i):
  oi.apart ops oj=Ht/\compat oi.op oj.op=true:=by
 simp only[Zol,hi,Jv,List.mem_range]at h;have h1:=h j (Jt.1 hj).1;simp only[hj,Kn,beq_iff_eq,hne,false_or,hun,Kc]at h1;rcases h1 with h1|h1;obtain⟨e,he,hb⟩:=Array.any_eq_true'.1 h1;simp only[JG,beq_iff_eq]at hb;exact absurd hb.2 (hno e he hb.1);simpa using h1
def Sw (md:Ks) (ops:Array Oper):Nat->Nat->Array Bool->Bool
 |0,_,listed=>(J3 md ops listed).isEmpty
 |fuel+1,k,listed=>(J3 md ops listed).contains k&&Zol md ops listed k&&Sw md ops fuel (k+1) (listed.setIfInBounds k Ht)
def Zjk (ops:Array Oper):Bool:=Sw .any ops ops.size 0 (JP ops.size Hf)
theorem Zbu {K:St->Prop}:∀(l:List Oper) (k:Nat) (listed:Array Bool) (s:St),RefsD s->(∀j,l[j]? = ops[k+j]?)->
  Sw md ops l.length k listed=Ht->Zmu P ops K l s->Znt P md ops K l.length listed s
 | [],_,_,_,_,_,hB,h=>⟨by simpa[Sw]using hB,h⟩
 |o::l,k,listed,s,hR,hl,hB,h=>by
  have h0:ops[k]? = Hs o:=by simpa using(hl 0).symm
  simp only[JB,Sw,JG]at hB;obtain⟨⟨hr,hf⟩,hB'⟩:=hB;obtain⟨hd,h⟩:=h;have hl':∀j,l[j]? = ops[(k+1)+j]? :=λj=>by have:=hl (j+1);simpa[KP,KY 1 j]using this
  rcases h with ⟨hg,v,m',hst,hrest⟩|⟨hg,hrest⟩;have hy:WZ P ops o s ((s.with m').put o.dst v):=⟨hd,.inl ⟨hg,v,m',hst,rfl⟩⟩;exact Zay h0 l.length listed s _ hR (ZaM h0 hf) (by simpa using hr) hy (Zbu l (k+1) _ _ (WV hR hy) hl' hB' hrest);have hy:WZ P ops o s (s.put o.dst (.tup [])):=⟨hd,.inr ⟨hg,rfl⟩⟩;exact Zay h0 l.length listed s _ hR (ZaM h0 hf) (by simpa using hr) hy (Zbu l (k+1) _ _ (WV hR hy) hl' hB' hrest)
theorem Sg {K:St->Prop} {B:Frm} {Qc:Exit->Act->World->Prop} {S0:Stable} {w0:World} (hQ:∀s' S' M' a' w',K s'->Sim B S' M' s' a' w'->Ext B S0 S' w0 w'->Qc .normal a' w'):
  ∀(fuel:Nat) (listed:Array Bool) (s:St),Znt P md ops K fuel listed s-> ∀S M a w,Sim B S M s a w->Ext B S0 S w0 w->wpAny P md ops Qc fuel listed a w
 |0,_,s,h,S,M,a,w,hs,he=>⟨h.1,hQ s S M a w h.2 hs he⟩
 |fuel+1,listed,s,h,S,M,a,w,hs,he=>⟨λh0=>hQ s S M a w (h.1 h0) hs he,λi hi=>by
   obtain⟨o,s',ho,hy,hn⟩:=h.2 i hi;unfold wpOp;simp only[ho];obtain⟨hd,hy⟩:=hy;rcases hy with ⟨hg,v,m',hst,rfl⟩|⟨hg,rfl⟩;rw[Zdi hs hg,if_pos rfl];exact .inl (GJ hs (WT hd) hst _ _ λu w' S' M' hs' he'=>Sg hQ fuel _ _ hn S' M' _ w' hs' (he.trans he'));rw[Zdi hs hg,if_neg (by simp)];exact Sg hQ fuel _ _ hn S M _ w (Zb7 hs hd) he⟩
theorem ZlW {id:Nat} {Q:Exit->St->Prop} {s:St} (hm:P.follows .mixedOrders=Ht) (hB:Zjk ops=Ht) (h:Zmu P ops (Q .normal) ops.toList s):awp P (.region id ops Ht) Q s:=λB S M a w hs=>by
 refine wp_region_any hm ?_;have he:Ext B S S w { w with drawn:=w.drawn+1 }:=⟨JH _,λ_ _=>⟨λ_=>rfl,rfl⟩,(BelowF.refl B w).drew⟩;have hs':Sim B S M s a { w with drawn:=w.drawn+1 }:=hs.world rfl;have:=Zbu (P:=P) (K:=Q .normal) (md:= .any) ops.toList 0 (JP ops.size Hf) s hs.refsD (by simp) (by simpa[Zjk]using hB) h;have:=Sg (B:=B) (S0:=S) (w0:=w) (Qc:=λe a' w'=>∃s' S' M',Q e s'/\Sim B S' M' s' a' w'/\Ext B S S' w w') (λs' S' M' a' w' h1 h2 h3=>⟨s',S',M',h1,h2,h3⟩) _ _ s this S M a _ hs' he;simpa using this
theorem ZtP {id:Nat} {l:List Oper} {Q:Exit->St->Prop} {s:St} (hm:P.follows .mixedOrders=Ht) (hB:Zjk l.toArray=Ht) (h:@vA P Hf ⟨Q .normal⟩ ⟨l⟩ ⟨l⟩ s):awp P (.region id l.toArray Ht) Q s:=
 ZlW hm hB (by simpa using T7 l s h)
end
end Go.PL
