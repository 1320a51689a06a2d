/- Lemmas of the proof. -/
import Derived.Test.YtadgngamdofhiaaGreatPlA
import Derived.WideKeyRuns
import Derived.Scope
import Derived.ScopeJumps
import Derived.Orders
import Derived.LoopN
import Derived.Maps.RangeRun
import Derived.Still
set_option maxHeartbeats 64000000
set_option maxRecDepth 20000
set_option linter.unusedVariables false
set_option linter.unusedSimpArgs false
open Inhabited renaming default→Jd
open Go Go.PL
open _root_.Array renaming getElem?_eq_some_iff→Jr,mem_toList_iff→JL,replicate→JP,getD_eq_getD_getElem?→JS,getElem?_toList→J4,getElem?_modify→J5,toList_filter→Kt,ext'→KJ
open BelowF renaming of→KC
open Bool renaming and_eq_true→JN,false_eq_true→Kb,or_eq_true→Kk,or_eq_false_iff→Kn,true_and→KL
open Builtin renaming len_→Kh,append_→KG
open Decidable renaming byContradiction→JV
open Ext renaming refl→JO
open Instr renaming checkKey→Jh,sameBits→JD,mapUpdate→JE,keyThatStays→JZ,mapEntry→J2,findAsking→J6,findKey→J8,entryStore→Kg,lookup→Ki,entry→KD,makeSlice→KF,loadAt→KQ,range→KY
open List renaming mem_map→Jf,getElem_of_mem→Jg,mem_append→Jj,length_map→Jl,mem_singleton→Jn,getElem_map→Jo,mem_flatMap→Js,getElem_mem→Ju,eq_nil_iff_forall_not_mem→Jz,all_eq_true→JA,length_cons→JB,length_append→JG,length_nil→JH,append_nil→JI,mem_of_mem_drop→JK,mem_cons→JM,mem_of_mem_take→JT,mem_or_eq_of_mem_set→JU,map_congr_left→JW,map_cons→JX,getElem_set→J7,ext_getElem?→Kd,nil_append→Kl,getElem_zipWith→Km,getD_cons_succ→Kr,zip_eq_zipWith→Ks,contains_cons→Kv,getElem?_set→Ky,push_toArray→Kz,forIn_cons→KE,mem_filter→KI,map→KK,all_map→KT,map_nil→KW
open Nat renaming le_refl→JJ,sub_zero→Kj,lt_of_lt_of_le→Kw,add_assoc→KN,add_comm→KU
open Ne renaming symm→Jy
open Op renaming operands→Ja,equal→KX,equalIn→K0
open Option renaming some→Jm,map_some→JY,getD_some→KB
open PV renaming ids→Jb,giveL_length→Je,givable→Jk,givableL→Jp,idsL→Jq,giveL→Jt,give→Jv,mem_idsL→Jw,shareL→JQ,giveL_getD→JR,cells→J9,share→Kc,cleanL→Ke,givableL_getD→Kf,atom→KO,agg→KP,ptr→KZ,tup→K1
open Prod renaming mk→Kx
open Region renaming ready→J3,binds→Ka,Mode→Ko,wanted→KM
open RepS renaming clean→Ku,agg→K2
open Result renaming andThen_ok→Jc
open SLe renaming refl→JF
open Sem renaming run_bind→Ji,run_pure→JC,run→Kq
open Snd renaming clean→KA
namespace Go.PL
open Go.RowKit
mutual
def PV.ren (f g:Nat->Nat):PV->PV
 | .ptr id off=> .ptr (g id) off
 | .osl id off len sz=> .osl (g id) off len sz
 | .sl (.row id) es=> .sl (.row (f id)) es
 | .vsl id len sz=> .vsl (f id) len sz
 | .vptr id n sz i off=> .vptr (f id) n sz i off
 | .agg cs=> .agg (PV.renL f g cs)
 | .tup cs=> .tup (PV.renL f g cs)
 | .fn h cs=> .fn h (PV.renL f g cs)
 |p=>p
def PV.renL (f g:Nat->Nat):List PV->List PV
 | []=> []
 |c::cs=>PV.ren f g c::PV.renL f g cs
end
def Ref.ren (f g:Nat->Nat):Ref->Ref
 | .b i=> .b (g i)
 | .r i=> .r (f i)
variable {f g:Nat->Nat}
theorem PV.renL_map:∀(cs:List PV),PV.renL f g cs=cs.map (PV.ren f g)
 | []=>rfl
 |c::cs=>by simp[PV.renL,PV.renL_map cs]
theorem PV.renL_length (cs:List PV):(PV.renL f g cs).length=cs.length:=by rw[PV.renL_map];simp
theorem PV.renL_getD (cs:List PV) (i:Nat) (hi:i<cs.length):(PV.renL f g cs).getD i .any=(cs.getD i .any).ren f g:=by
 rw[PV.renL_map,getD_lt (by simpa using hi),getD_lt hi,Jo]
theorem TI (p:PV):(p.ren f g).cells=p.cells.map (PV.ren f g):=by
 cases p with
 |agg cs=>simp[PV.ren,J9,PV.renL_map]
 |sl t es=>cases t<;>simp[PV.ren,J9]
 |_=>simp[PV.ren,J9]
theorem Ziw (p:PV):(p.ren f g).atom=p.atom:=by
 cases p with
 |sl t es=>cases t<;>simp[PV.ren,KO]
 |_=>simp[PV.ren,KO]
mutual
theorem ZaB:∀(p:PV),(p.ren f g).ids=p.ids.map (Ref.ren f g)
 | .ptr _ _=>by simp[PV.ren,Jb,Ref.ren]
 | .osl _ _ _ _=>by simp[PV.ren,Jb,Ref.ren]
 | .sl t es=>by cases t<;>simp[PV.ren,Jb,Ref.ren]
 | .vsl _ _ _=>by simp[PV.ren,Jb,Ref.ren]
 | .vptr _ _ _ _ _=>by simp[PV.ren,Jb,Ref.ren]
 | .agg cs=>by simp only[PV.ren,Jb];exact Fl cs
 | .tup cs=>by simp only[PV.ren,Jb];exact Fl cs
 | .fn _ cs=>by simp only[PV.ren,Jb];exact Fl cs
 | .any=>by simp[PV.ren,Jb]
 | .int _ _=>by simp[PV.ren,Jb]
 | .bool _=>by simp[PV.ren,Jb]
 | .str _=>by simp[PV.ren,Jb]
 | .flt _ _=>by simp[PV.ren,Jb]
 | .cpx _ _ _=>by simp[PV.ren,Jb]
 | .rptr _=>by simp[PV.ren,Jb]
 | .nilp=>by simp[PV.ren,Jb]
 | .nilfn=>by simp[PV.ren,Jb]
 | .nilmap=>by simp[PV.ren,Jb]
 | .mref _=>by simp[PV.ren,Jb]
 | .rmap _ _=>by simp[PV.ren,Jb]
 | .iptr _=>by simp[PV.ren,Jb]
theorem Fl:∀(cs:List PV),Jq (PV.renL f g cs)=(Jq cs).map (Ref.ren f g)
 | []=>rfl
 |c::cs=>by simp only[PV.renL,Jq,List.map_append,ZaB c,Fl cs]
end
mutual
theorem GH:∀(p:PV),p.ids= []->p.ren f g=p
 | .ptr _ _,h=>by simp[Jb]at h
 | .osl _ _ _ _,h=>by simp[Jb]at h
 | .sl t es,h=>by cases t<;>simp[Jb]at h<;>simp[PV.ren]
 | .vsl _ _ _,h=>by simp[Jb]at h
 | .vptr _ _ _ _ _,h=>by simp[Jb]at h
 | .agg cs,h=>by simp only[PV.ren];rw[UB cs (by simpa[Jb]using h)]
 | .tup cs,h=>by simp only[PV.ren];rw[UB cs (by simpa[Jb]using h)]
 | .fn _ cs,h=>by simp only[PV.ren];rw[UB cs (by simpa[Jb]using h)]
 | .any,_=>by simp[PV.ren]
 | .int _ _,_=>by simp[PV.ren]
 | .bool _,_=>by simp[PV.ren]
 | .str _,_=>by simp[PV.ren]
 | .flt _ _,_=>by simp[PV.ren]
 | .cpx _ _ _,_=>by simp[PV.ren]
 | .rptr _,_=>by simp[PV.ren]
 | .nilp,_=>by simp[PV.ren]
 | .nilfn,_=>by simp[PV.ren]
 | .nilmap,_=>by simp[PV.ren]
 | .mref _,_=>by simp[PV.ren]
 | .rmap _ _,_=>by simp[PV.ren]
 | .iptr _,_=>by simp[PV.ren]
theorem UB:∀(cs:List PV),Jq cs= []->PV.renL f g cs=cs
 | [],_=>rfl
 |c::cs,h=>by
  simp only[Jq,List.append_eq_nil_iff]at h;simp only[PV.renL,GH c h.1,UB cs h.2]
end
variable {S:Stable} {M M':Maps} {q q':Rows}
theorem RepS.ren {v:Value} {p:PV} (r:RepS S M q v p) (hb:∀i,.b i∈p.ids->M'.φ (g i)=M.φ i) (hr:∀i,.r i∈p.ids->q' (f i)=q i/\M'.κ (f i)=M.κ i/\M'.ψ (f i)=M.ψ i):RepS S M' q' v (p.ren f g):=by
 induction r with
 |clean r=>
  rw[GH _ (Jz.2 r.clean_ids)];exact .clean r
 |ptr id off=>simp only[PV.ren];rw[<-hb id (by simp[Jb])];exact .ptr _ _
 |osl id off len cap sz hc=>simp only[PV.ren];rw[<-hb id (by simp[Jb])];exact .osl _ _ _ _ _ hc
 |row id v es r t=>
  obtain⟨h1,h2,h3⟩:=hr id (by simp[Jb]);simp only[PV.ren];exact .row _ v es r λn sz e hn=>by rw[h1]at hn;rw[h2,h3];exact t n sz e hn
 |vsl id len sz v hv t=>
  obtain⟨h1,h2,h3⟩:=hr id (by simp[Jb]);simp only[PV.ren];exact .vsl _ len sz v hv λn sz' e hn=>by rw[h1]at hn;rw[h2,h3];exact t n sz' e hn
 |vptr id n sz i off v hv hi t=>
  obtain⟨h1,h2,h3⟩:=hr id (by simp[Jb]);simp only[PV.ren];exact .vptr _ n sz i off v hv hi λn' sz' e hn=>by rw[h1]at hn;rw[h3];exact t n' sz' e hn
 |agg vs cs hl _ ih=>
  simp only[PV.ren];refine .agg vs _ (by rw[PV.renL_length];exact hl) λi hi=> ?_
  rw[PV.renL_length]at hi;rw[PV.renL_getD cs i hi];have sub:∀k,k∈(cs.getD i .any).ids->k∈(KP cs).ids:=λk hk=>by simp only[Jb,Jw];exact⟨_,Ze hi,hk⟩
  exact ih i hi (λk hk=>hb k (sub _ hk)) (λk hk=>hr k (sub _ hk))
 |tup vs cs hl _ ih=>
  simp only[PV.ren];refine .tup vs _ (by rw[PV.renL_length];exact hl) λi hi=> ?_
  rw[PV.renL_length]at hi;rw[PV.renL_getD cs i hi];have sub:∀k,k∈(cs.getD i .any).ids->k∈(K1 cs).ids:=λk hk=>by simp only[Jb,Jw];exact⟨_,Ze hi,hk⟩
  exact ih i hi (λk hk=>hb k (sub _ hk)) (λk hk=>hr k (sub _ hk))
 |fn h vs cs hl _ ih=>
  simp only[PV.ren];refine .fn h vs _ (by rw[PV.renL_length];exact hl) λi hi=> ?_
  rw[PV.renL_length]at hi;rw[PV.renL_getD cs i hi];have sub:∀k,k∈(cs.getD i .any).ids->k∈(PV.fn h cs).ids:=λk hk=>by simp only[Jb,Jw];exact⟨_,Ze hi,hk⟩
  exact ih i hi (λk hk=>hb k (sub _ hk)) (λk hk=>hr k (sub _ hk))
theorem RepS.unren {v:Value} {p':PV} (r:RepS S M' q' v p'):∀p:PV,p.ren f g=p'->(∀i,.b i∈p.ids->M'.φ (g i)=M.φ i)->(∀i,.r i∈p.ids->q' (f i)=q i/\M'.κ (f i)=M.κ i/\M'.ψ (f i)=M.ψ i)->RepS S M q v p:=by
 induction r with
 |clean r=>
  intro p hp hb hr;have hc:p.ids= []:=by
   have h:=ZaB (f:=f) (g:=g) p;rw[hp,Jz.2 r.clean_ids]at h;simpa using h.symm
  rw[GH _ hc]at hp;subst hp;exact .clean r
 |ptr id off=>
  intro p hp hb hr;cases p with
  |ptr i o=>simp only[PV.ren,KZ.injEq]at hp;obtain⟨rfl,rfl⟩:=hp;rw[hb i (by simp[Jb])];exact .ptr _ _
  |sl t es=>cases t<;>simp[PV.ren]at hp
  |_=>simp[PV.ren]at hp
 |osl id off len cap sz hc=>
  intro p hp hb hr;cases p with
  |osl i o l z=>simp only[PV.ren,PV.osl.injEq]at hp;obtain⟨rfl,rfl,rfl,rfl⟩:=hp;rw[hb i (by simp[Jb])];exact .osl _ _ _ _ _ hc
  |sl t es=>cases t<;>simp[PV.ren]at hp
  |_=>simp[PV.ren]at hp
 |row id v es r t=>
  intro p hp hb hr;cases p with
  |sl t' es'=>
   cases t' with
   |row i=>
    simp only[PV.ren,PV.sl.injEq,Tok.row.injEq]at hp;obtain⟨rfl,rfl⟩:=hp;obtain⟨h1,h2,h3⟩:=hr i (by simp[Jb]);exact .row _ v _ r λn sz e hn=>by rw[<-h1]at hn;rw[<-h2,<-h3];exact t n sz e hn
   |_=>simp[PV.ren]at hp
  |_=>simp[PV.ren]at hp
 |vsl id len sz v hv t=>
  intro p hp hb hr;cases p with
  |vsl i l z=>
   simp only[PV.ren,PV.vsl.injEq]at hp;obtain⟨rfl,rfl,rfl⟩:=hp;obtain⟨h1,h2,h3⟩:=hr i (by simp[Jb]);exact .vsl _ _ _ v hv λn sz' e hn=>by rw[<-h1]at hn;rw[<-h2,<-h3];exact t n sz' e hn
  |sl t es=>cases t<;>simp[PV.ren]at hp
  |_=>simp[PV.ren]at hp
 |vptr id n sz i off v hv hi t=>
  intro p hp hb hr;cases p with
  |vptr j n' sz' i' off'=>
   simp only[PV.ren,PV.vptr.injEq]at hp;obtain⟨rfl,rfl,rfl,rfl,rfl⟩:=hp;obtain⟨h1,h2,h3⟩:=hr j (by simp[Jb]);exact .vptr _ _ _ _ _ v hv hi λn' sz' e hn=>by rw[<-h1]at hn;rw[<-h3];exact t n' sz' e hn
  |sl t es=>cases t<;>simp[PV.ren]at hp
  |_=>simp[PV.ren]at hp
 |agg vs cs' hl _ ih=>
  intro p hp hb hr;cases p with
  |agg cs=>
   simp only[PV.ren,KP.injEq]at hp;subst hp;rw[PV.renL_length]at hl;refine .agg vs cs hl λi hi=> ?_
   have sub:∀k,k∈(cs.getD i .any).ids->k∈(KP cs).ids:=λk hk=>by simp only[Jb,Jw];exact⟨_,Ze hi,hk⟩
   exact ih i (by rw[PV.renL_length];exact hi) _ (PV.renL_getD cs i hi).symm (λk hk=>hb k (sub _ hk)) (λk hk=>hr k (sub _ hk))
  |sl t es=>cases t<;>simp[PV.ren]at hp
  |_=>simp[PV.ren]at hp
 |tup vs cs' hl _ ih=>
  intro p hp hb hr;cases p with
  |tup cs=>
   simp only[PV.ren,K1.injEq]at hp;subst hp;rw[PV.renL_length]at hl;refine .tup vs cs hl λi hi=> ?_
   have sub:∀k,k∈(cs.getD i .any).ids->k∈(K1 cs).ids:=λk hk=>by simp only[Jb,Jw];exact⟨_,Ze hi,hk⟩
   exact ih i (by rw[PV.renL_length];exact hi) _ (PV.renL_getD cs i hi).symm (λk hk=>hb k (sub _ hk)) (λk hk=>hr k (sub _ hk))
  |sl t es=>cases t<;>simp[PV.ren]at hp
  |_=>simp[PV.ren]at hp
 |fn h vs cs' hl _ ih=>
  intro p hp hb hr;cases p with
  |fn h' cs=>
   simp only[PV.ren,PV.fn.injEq]at hp;obtain⟨rfl,hp⟩:=hp;subst hp;rw[PV.renL_length]at hl;refine .fn _ vs cs hl λi hi=> ?_
   have sub:∀k,k∈(cs.getD i .any).ids->k∈(PV.fn h' cs).ids:=λk hk=>by simp only[Jb,Jw];exact⟨_,Ze hi,hk⟩
   exact ih i (by rw[PV.renL_length];exact hi) _ (PV.renL_getD cs i hi).symm (λk hk=>hb k (sub _ hk)) (λk hk=>hr k (sub _ hk))
  |sl t es=>cases t<;>simp[PV.ren]at hp
  |_=>simp[PV.ren]at hp
open Go.RowKit
def Zey (P:Program) (t:TypeId):Bool:=match P.underlying t with|some (.int _)|some .string|some .bool=>true|_=>false
def Zur (P:Program) (n:Nat) (f:Field):Bool:=
 (Zey P f.type&&(decide (f.offset<n)&&decide (tsz P f.type=1)))||
 (match P.underlying f.type with
  |some (.struct gs)=>decide (f.offset+tsz P f.type<=n)&&gs.toList.all λg=>Zey P g.type&&(decide (g.offset<tsz P f.type)&&decide (tsz P g.type=1))
  |_=>false)
def ZpH (P:Program) (t:TypeId):Option (List Leaf×PV):=
 match P.underlying t with
 |some (.map kt et)=>match P.underlying kt with
  |some (.struct fs)=>match Te P Dh kt,P.info? et with
   |some ls,some i=>match i.zero with
    |some z=>if fs.toList.all (Zur P ls.length)then some (ls,XR z)else none
    |none=>none
   |_,_=>none
  |_=>none
 |_=>none
def Do (m:Hp):PV->Option MapC
 | .rmap ks vs=>some ⟨ks,vs⟩
 | .mref b=>m.o b
 |_=>none
def UW (ls:List Leaf) (a:List PV):List PV->Nat->Option (Option Nat)
 | [],_=>some none
 | .agg b::xs,i=>match ZO ls a b with
  |some true=>some (some i)
  |some false=>UW ls a xs (i+1)
  |none=>none
 |_::_,_=>none
def Zo3 (z:PV) (vs:List PV) (ok:Bool):Option Nat->PV
 |some i=>if ok then .tup [vs.getD i .any,.bool true]else vs.getD i .any
 |none=>if ok then .tup [z,.bool false]else z
def X1 (P:Program) (t:TypeId) (x k:PV) (ok:Bool) (m:Hp):ARes:=
 match ZpH P t,Do m x,k with
 |some (ls,z),some c,.agg a=>match UW ls a c.ks 0 with
  |some r=>⟨a.length=ls.length,Zo3 z c.vs ok r,m⟩
  |none=> .fail
 |_,_,_=> .fail
def Z9 (P:Program) (t:TypeId) (x k v:PV) (m:Hp):ARes:=
 match x with
 | .mref b=>match ZpH P t,m.o b,k with
  |some (ls,_),some c,.agg a=>match UW ls a c.ks 0 with
   |some (some i)=>⟨a.length=ls.length/\Ke a=true/\v.clean=true,.tup [],{ m with o:=upd m.o b (some ⟨c.ks,c.vs.set i v.share⟩) }⟩
   |some none=>⟨a.length=ls.length/\Ke a=true/\v.clean=true,.tup [],{ m with o:=upd m.o b (some ⟨c.ks++ [.agg (JQ a)],c.vs++ [v.share]⟩) }⟩
   |none=> .fail
  |_,_,_=> .fail
 |_=> .fail
def mapIt (m:Hp) (it:IterC):Option MapC:=match it.c with
 |some c=>some c
 |none=>m.o it.b
def VD (x:PV) (m:Hp):ARes:=
 match x with
 | .iptr b=>match m.it b with
  |some it=>match mapIt m it,it.seen.getLast? with
   |some c,some i=>⟨c.ks.length=it.n/\i<c.ks.length,.tup [c.ks.getD i .any,c.vs.getD i .any],m⟩
   |_,_=> .fail
  |none=> .fail
 |_=> .fail
def ZlV:PV->Bool
 | .mref _=>true
 | .rmap _ _=>true
 |_=>false
def ZhA (P:Program) (t:TypeId):Bool:=match P.underlying t with|some (.map _ _)=>true|_=>false
def WL (P:Program) (t:TypeId) (x:PV) (m:Hp):ARes:=
 match Do m x with
 |some c=>⟨ZhA P t=true,.int .i64 c.ks.length,m⟩
 |none=> .fail
section
variable {P:Program} {B:Frm} {S:Stable} {M:Maps} {s:St} {a:Act} {w:World}
theorem GQ {t:TypeId} {ls:List Leaf} {z:PV} (h:ZpH P t=some (ls,z)):∃kt et fs i zv,P.underlying t=some (.map kt et)/\P.underlying kt=some (.struct fs)/\Te P Dh kt=some ls/\P.info? et=some i/\i.zero=some zv/\z=XR zv/\
  ∀f∈fs.toList,Zur P ls.length f=true:=by
 unfold ZpH at h;split at h;rename_i kt et h1;split at h;rename_i fs h2;split at h;rename_i l i h3 h4;split at h;rename_i zv h5;split at h;rename_i h6;simp only[Jm.injEq,Kx.injEq]at h;obtain⟨rfl,rfl⟩:=h;exact⟨kt,et,fs,i,zv,h1,h2,h3,h4,h5,rfl,λf hf=>JA.1 h6 f hf⟩;cases h;cases h;cases h;cases h;cases h
theorem Zcb (hs:Sim B S M s a w) {v:Value} {x:PV} {c:MapC} (hr:RepS S M s.m.q v x) (hm:Do s.m x=some c):
  ∃b es,v= .map (some b)/\w.heap[b]? = some (.map ⟨es⟩ es.length)/\es.length=c.ks.length/\c.vs.length=c.ks.length/\
   (∀i,i<c.ks.length->(es.getD i Jd).born=i)/\(∀i,i<c.ks.length->Rep S (es.getD i Jd).key (c.ks.getD i .any))/\(∀i,i<c.ks.length->Rep S (es.getD i Jd).val (c.vs.getD i .any)):=by
 cases x with
 |rmap ks vs=>
  simp only[Do,Jm.injEq]at hm;subst hm;cases hr with
  |clean r=>
   cases r with
   |rmap b es _ _ hS hk hv hb hK hV=>exact⟨b,es,rfl,hs.stable.s.m b es hS,hk,hv,hb,hK,hV⟩
 |mref b=>
  simp only[Do]at hm;obtain⟨_,_,es,h1,h2,h3,h4,h5,h6⟩:=hs.stable.o b c hm;have e:v= .map (some b):=by cases hr with|clean r=>cases r;rfl
  exact⟨b,es,e,h1,h2,h3,h4,h5,h6⟩
 |_=>simp[Do]at hm
theorem ZfN (hs:Sim B S M s a w) {t ty:TypeId} {u:Value} {p:PV} (hu:RepS S M s.m.q u p) (hok:(WL P t p s.m).ok):Snd P B S s a w (Kh #[t] ty #[u]) (WL P t p s.m):=by
 revert hok;unfold WL;split;rename_i c hm;intro hk;simp only at hk;obtain⟨b,es,rfl,e1,e2,_⟩:=Zcb hs hu hm;unfold ZhA at hk;split at hk;rename_i k e h1;have hg:=MapKept.run_getObj_map (P:=P) e1;refine KA hs (v:= .int .i64 c.ks.length) ?_ (.int _ _);simp[Kh,run_underlying h1,hg,goInt,e2];cases hk;exact λh=>h.elim
theorem Du {kt:TypeId} {fs:Array Field} {vs:List Value} (hu:P.underlying kt=some (.struct fs)) (hf:∀f∈fs.toList,Zey P f.type=true/\f.offset<vs.length/\tsz P f.type=1) (em:Bool) (n:Nat) (w:World):
  (Jh em (n+2) kt (.agg ⟨vs⟩)).run P w= .ok () w:=by
 obtain⟨fs⟩:=fs;have step:∀f∈fs,∃v,(part f.type ⟨vs⟩ f.offset).run P w= .ok v w/\(Jh em (n+1) f.type v).run P w= .ok () w:=λf hm=>by
  obtain⟨h1,h2,h3⟩:=hf f hm;have hb:∃d,P.underlying f.type=some d/\Yo P f.type=false/\ ∀v,(Jh em (n+1) f.type v).run P w= .ok () w:=by
   unfold Zey at h1;split at h1;rename_i k hk;exact⟨_,hk,by simp[Yo,hk],λv=>by simp[Jh,run_underlying hk]⟩;rename_i hk;exact⟨_,hk,by simp[Yo,hk],λv=>by simp[Jh,run_underlying hk]⟩;rename_i hk;exact⟨_,hk,by simp[Yo,hk],λv=>by simp[Jh,run_underlying hk]⟩;cases h1
  obtain⟨d,hd,ht,hc⟩:=hb;exact⟨_,XA hd (by omega) (λ_=>h3) w,hc _⟩
 have loop:∀(l:List Field),(∀f∈l,f∈fs)->(forIn l PUnit.unit (λf (_:PUnit)=>(if f.name≠ "_" then(do let x <-part f.type ⟨vs⟩ f.offset;Jh em (n+1) f.type x;Pure.pure (ForInStep.yield PUnit.unit))else Pure.pure (ForInStep.yield PUnit.unit):Sem (ForInStep PUnit)))).run P w= .ok PUnit.unit w:=by
  intro l;induction l with
  |nil=>intro _;simp
  |cons f l ih=>
   intro hl;obtain⟨v,h1,h2⟩:=step f (hl f (by simp));rw[KE];by_cases hn:f.name≠ "_";simp only[hn,ne_eq,not_false_eq_true,if_true,Ji,h1,h2,Jc,JC];simpa using ih (λg hg=>hl g (by simp[hg]));simp only[hn,if_false,Ji,Jc,JC];simpa using ih (λg hg=>hl g (by simp[hg]))
 have:=loop fs (λ_ h=>h);unfold Jh;simp only[Ji,run_underlying hu,Jc];simp at this ⊢;rw[this];rfl
theorem Vj {kt:TypeId} {fs:Array Field} {vs:List Value} (hu:P.underlying kt=some (.struct fs)) (hf:∀f∈fs.toList,Zur P vs.length f=true) (em:Bool) (n:Nat) (w:World):
  (Jh em (n+3) kt (.agg ⟨vs⟩)).run P w= .ok () w:=by
 obtain⟨fs⟩:=fs;have step:∀f∈fs,∃v,(part f.type ⟨vs⟩ f.offset).run P w= .ok v w/\(Jh em (n+2) f.type v).run P w= .ok () w:=λf hm=>by
  have h:=hf f hm;unfold Zur at h;simp only[Kk,JN,decide_eq_true_eq]at h;rcases h with ⟨h1,h2,h3⟩|h;have hb:∃d,P.underlying f.type=some d/\Yo P f.type=false/\ ∀v,(Jh em (n+2) f.type v).run P w= .ok () w:=by
   unfold Zey at h1;split at h1;rename_i k hk;exact⟨_,hk,by simp[Yo,hk],λv=>by simp[Jh,run_underlying hk]⟩;rename_i hk;exact⟨_,hk,by simp[Yo,hk],λv=>by simp[Jh,run_underlying hk]⟩;rename_i hk;exact⟨_,hk,by simp[Yo,hk],λv=>by simp[Jh,run_underlying hk]⟩;cases h1
  obtain⟨d,hd,ht,hc⟩:=hb;exact⟨_,XA hd (by omega) (λ_=>h3) w,hc _⟩;split at h;rename_i gs hg;simp only[JN,decide_eq_true_eq,JA]at h;obtain⟨h1,h2⟩:=h;have ht:Yo P f.type=true:=by simp[Yo,hg]
  refine⟨_,XA hg h1 (λe=>by rw[ht]at e;cases e) w,?_⟩;rw[show XD P f.type ((vs.drop f.offset).take (tsz P f.type))= .agg ⟨(vs.drop f.offset).take (tsz P f.type)⟩by simp[XD,ht]];refine Du hg (λg hgm=> ?_) em n w;obtain⟨k1,k2,k3⟩:=h2 g hgm;exact⟨k1,by rw[List.length_take,List.length_drop];omega,k3⟩;cases h
 have loop:∀(l:List Field),(∀f∈l,f∈fs)->(forIn l PUnit.unit (λf (_:PUnit)=>(if f.name≠ "_" then(do let x <-part f.type ⟨vs⟩ f.offset;Jh em (n+2) f.type x;Pure.pure (ForInStep.yield PUnit.unit))else Pure.pure (ForInStep.yield PUnit.unit):Sem (ForInStep PUnit)))).run P w= .ok PUnit.unit w:=by
  intro l;induction l with
  |nil=>intro _;simp
  |cons f l ih=>
   intro hl;obtain⟨v,h1,h2⟩:=step f (hl f (by simp));rw[KE];by_cases hn:f.name≠ "_";simp only[hn,ne_eq,not_false_eq_true,if_true,Ji,h1,h2,Jc,JC];simpa using ih (λg hg=>hl g (by simp[hg]));simp only[hn,if_false,Ji,Jc,JC];simpa using ih (λg hg=>hl g (by simp[hg]))
 have:=loop fs (λ_ h=>h);unfold Jh;simp only[Ji,run_underlying hu,Jc];simp at this ⊢;rw[this];rfl
theorem FT {kt:TypeId} {ls:List Leaf} {vs:List Value} {cs:List PV} {q:Rows} (hl:Te P Dh kt=some ls) (ht:Yo P kt=true) (hk:RepL S M q vs cs) (w:World):
  ∀(es:List MapEntry) (ks:List PV) (i:Nat) (r:Option Nat),es.length=ks.length->(∀j,j<ks.length->Rep S (es.getD j Jd).key (ks.getD j .any))->UW ls cs ks i=some r->
   (J6 kt (.agg ⟨vs⟩) es i).run P w= .ok (r.map λj=>(j,(es.getD (j-i) Jd).val)) w/\(∀j,r=some j->i<=j/\j<i+ks.length/\ ∃ds,ks.getD (j-i) .any= .agg ds/\ZO ls cs ds=some true)
 | [],[],i,r,_,_,h=>by
  simp only[UW,Jm.injEq]at h;subst h;exact⟨by simp[J6],by simp⟩
 |e::es,k::ks,i,r,hlen,hK,h=>by
  have hk0:=hK 0 (by simp);simp only[List.getD_cons_zero]at hk0;cases k with
  |agg ds=>
   simp only[UW]at h;obtain⟨us,hus,hl2,hru⟩:=(Ku (S:=S) (M:=M) (q:=q) hk0).agg_inv;have heq:∀ {b},ZO ls cs ds=some b->(KX kt (.agg ⟨vs⟩) e.key).run P w= .ok b w:=λ{b} hb=>by
    have:=ZoF (S:=S) (M:=M) (h:=q) Dh kt ls hl Op.maxDepth (by decide) vs us cs ds b hk ⟨hl2,hru⟩ hb w;rw[hus];simpa[XD,ht,KX]using this
   cases hb:ZO ls cs ds with
   |none=>rw[hb]at h;cases h
   |some b=>
    rw[hb]at h;cases b with
    |true=>
     simp only[Jm.injEq]at h;subst h;refine⟨by simp[J6,heq hb],λj hj=> ?_⟩;cases hj;exact⟨JJ _,by simp,ds,by simp,hb⟩
    |false=>
     simp only at h;obtain⟨h1,h2⟩:=FT hl ht hk w es ks (i+1) r (by simpa using hlen) (λj hj=>by simpa using hK (j+1) (by simpa using hj)) h;refine⟨?_,λj hj=> ?_⟩
     ·simp only[J6,Ji,heq hb,Jc,Kb,if_false,h1];cases r with
      |none=>rfl
      |some j=>
       obtain⟨g1,g2,_⟩:=h2 j rfl;have:j-i=(j-(i+1))+1:=by omega
       simp only[JY,this,Kr]
     ·obtain⟨g1,g2,ds',g3,g4⟩:=h2 j hj;have:j-i=(j-(i+1))+1:=by omega
      exact⟨by omega,by simp;omega,ds',by rw[this,Kr];exact g3,g4⟩
  |_=>simp[UW]at h
 | [],_::_,_,_,hlen,_,_=>by simp at hlen
 |_::_,[],_,_,hlen,_,_=>by simp at hlen
theorem ZfM (hs:Sim B S M s a w) {t:TypeId} {u v:Value} {x k:PV} {ok:Bool} (hu:RepS S M s.m.q u x) (hv:RepS S M s.m.q v k) (hok:(X1 P t x k ok s.m).ok):Snd P B S s a w (Ki t u v ok) (X1 P t x k ok s.m):=by
 revert hok;unfold X1;split;rename_i ls z c cs h1 h2;split;rename_i r hr;intro hlen;obtain⟨kt,et,fs,i,zv,t1,t2,t3,t4,t5,rfl,t6⟩:=GQ h1;obtain⟨b,es,rfl,e1,e2,e3,e4,e5,e6⟩:=Zcb hs hu h2;obtain⟨vs,rfl,hl,hrv⟩:=hv.agg_inv;have ht:Yo P kt=true:=by simp[Yo,t2]
 obtain⟨f1,f2⟩:=FT (S:=S) (M:=M) (q:=s.m.q) t3 ht ⟨hl,hrv⟩ w es c.ks 0 r e2 e5 hr;have hck:=Vj (vs:=vs) t2 (λf hf=>by rw[hl,hlen];exact t6 f hf) (⟨es⟩:Array MapEntry).isEmpty 9997 w;have hfk:(J8 kt (.agg ⟨vs⟩) es).run P w= .ok (r.map λj=>(j,(es.getD (j-0) Jd).val)) w:=by
  rw[run_findKey_eq w (by rw[t2]) (.agg ⟨vs⟩) es];exact f1
 have hz:(zeroValue et).run P w= .ok zv w:=by simp[zeroValue,SV t4,t5]
 have hg:=MapKept.run_getObj_map (P:=P) e1;cases r with
 |none=>
  refine KA hs (v:=if ok then .tuple #[zv,.bool false]else zv) ?_ ?_
  ·simp only[Ki,Ji,run_underlying t1,Jc,hg,JC,hck,hfk,Option.map_none,hz]
  ·cases ok
   ·exact Vb S zv
   ·refine .tup [zv,.bool false] [XR zv,.bool false] rfl (λi hi=> ?_)
    match i,hi with
    |0,_=>exact Vb S zv
    |1,_=>exact .bool _
 |some j=>
  obtain⟨_,g2,_⟩:=f2 j rfl;have hval:=e6 j (by omega);refine KA hs (v:=if ok then .tuple #[(es.getD j Jd).val,.bool true]else(es.getD j Jd).val) ?_ ?_
  ·simp only[Ki,Ji,run_underlying t1,Jc,hg,JC,hck,hfk,JY,Kj]
  ·cases ok
   ·exact hval
   ·refine .tup [_,.bool true] [_,.bool true] rfl (λi hi=> ?_)
    match i,hi with
    |0,_=>exact hval
    |1,_=>exact .bool _
 exact λh=>h.elim
 exact λh=>h.elim
theorem Sim.special (hs:Sim B S M s a w) {w':World} {b:Nat} (hb:∀vs t f,w.heap[b]? ≠ some (.cells vs t f)) (hw:∀k,k≠b->w'.heap[k]? = w.heap[k]?) (hsz:w'.heap.size=w.heap.size)
  {o':Nat->Option MapC} {it':Nat->Option IterC} (hst:Stab B S w' o' it') (hom:∀k d,s.m.om k=some d->k≠b/\o' k=none):Sim B S M (s.with { s.m with o:=o',it:=it' }) a w':=by
 have live:∀i,ZX s.m i->ZX { s.m with o:=o',it:=it' } i:=λi h=>by cases i<;>exact h
 refine⟨hs.defers,hs.hn,λk hk=>by rw[hsz];exact hs.hB k hk,hst,hs.fr,λi k hk=>live k (hs.ids i k hk),λi cs hi=> ?_,λi r hi=> ?_,hs.inj,hs.injq,hs.injx,λk d hk=> ?_,λi es he=> ?_,⟨hs.pn.h,hs.pn.q⟩,hs.hz⟩;have h':=hs.blk i cs hi;show GX _ _ _ _ _ _ _ (s.m.z i);cases hz:s.m.z i with
 |false=>
  rw[hz]at h';obtain⟨g1,g2,⟨us,t',g3,g4,g5⟩,g6⟩:=h';exact⟨g1,g2,⟨us,t',by rw[hw _ (λe=>hb _ _ _ (e▸g3))];exact g3,g4,g5⟩,λc hc k hk=>live k (g6 c hc k hk)⟩
 |true=>rw[hz]at h';exact h'
 have h':=hs.row i r hi;cases r with
 |live n sz e=>
  obtain⟨g1,g2⟩:=h';refine⟨g1,λc hc=> ?_⟩;obtain⟨k0,k1,k2,⟨us,k3,k4⟩,k5⟩:=g2 c hc;exact⟨k0,k1,k2,⟨us,by rw[hw _ (λe=>hb _ _ _ (e▸k3))];exact k3,k4⟩,k5⟩
 |vec n sz e=>
  obtain⟨g1,g2⟩:=h';refine⟨g1,λc hc=> ?_⟩;obtain⟨k0,k1,k2,⟨us,k3,k4⟩,k5⟩:=g2 c hc;exact⟨k0,k1,k2,⟨us,by rw[hw _ (λe=>hb _ _ _ (e▸k3))];exact k3,k4⟩,k5⟩
 |dead=>trivial
 obtain⟨g1,g2,g3,g4⟩:=hs.rm k d hk;exact⟨g1,g2,(hom k d hk).2,g4.move (JF _) (hw k (hom k d hk).1) (λv p r _=>r) live⟩;refine(hs.vc i es he).move (λ_ _ _ h=>h) rfl rfl (λhk=>hw _ λee=> ?_) (λv p r _=>r) live;obtain⟨sz,e,q1⟩:=hs.vec_q he;obtain⟨_,h2⟩:=hs.row i _ q1;obtain⟨_,_,_,⟨vs,k5,_⟩,_⟩:=h2 (M.κ i-1) (by omega);exact hb _ _ _ (ee▸k5)
theorem Sim.om_ne (hs:Sim B S M s a w) {k b:Nat} {d c:MapC} (hk:s.m.om k=some d) (h2:s.m.o b=some c) {x:Option MapC}:k≠b/\upd s.m.o b x k=none:=by
 have g3:=(hs.rm k d hk).2.2.1;have hne:k≠b:=λe=>by subst e;rw[h2]at g3;cases g3
 exact⟨hne,by rw[Zk _ _ (Jy hne)];exact g3⟩
theorem ZfG {w:World} {b:Nat} {o o':Obj} (h:w.heap[b]? = some o):({ w with heap:=w.heap.setIfInBounds b o' }:World).heap[b]? = some o'/\ ∀k,k≠b->({ w with heap:=w.heap.setIfInBounds b o' }:World).heap[k]? = w.heap[k]? :=
 MapKept.heap_set h
theorem U6 {w':World} {b:Nat} (hs:StabS S w) (hb:∀vs t f,w.heap[b]? ≠ some (.cells vs t f)) (hm:S.m b=none) (hw:∀k,k≠b->w'.heap[k]? = w.heap[k]?):StabS S w':=by
 refine⟨λk o v h=> ?_,λk es h=> ?_,λk h=> ?_⟩
 rotate_right
 obtain⟨vs,t,e⟩:=hs.y k h;exact⟨vs,t,by rw[hw k (λe'=>by subst e';exact hb _ _ _ e)];exact e⟩;have h':=hs.c k o v h;have hk:k≠b:=λe=>by
  subst e;unfold World.cell? at h';simp only at h';cases h'
 rw[<-h'];exact World.cell?_of_block (hw k hk);rw[hw k (λe=>by subst e;rw[hm]at h;cases h)];exact hs.m k es h
theorem ZgR {l:Leaf} {c d:PV} {q:Rows} {u v:Value} (h:Uw l c d=some true) (hu:RepS S M q u c) (hv:RepS S M q v d):u=v/\ ∀n,JD n v v=true:=by
 cases l with
 |int=>
  obtain⟨k,x,y,rfl,rfl,e⟩:=ZbN h;have e:x=y:=by simpa using e.symm
  subst e;exact⟨by rw[hu.int_inv,hv.int_inv],λn=>by rw[hv.int_inv];simp[JD]⟩
 |bool=>
  obtain⟨x,y,rfl,rfl,e⟩:=FS0 h;have e:x=y:=by simpa using e.symm
  subst e;exact⟨by rw[hu.bool_inv,hv.bool_inv],λn=>by rw[hv.bool_inv];simp[JD]⟩
 |str=>
  obtain⟨x,y,rfl,rfl,e⟩:=ZbO h;have e:x=y:=by simpa using e.symm
  subst e;exact⟨by rw[hu.str_inv,hv.str_inv],λn=>by rw[hv.str_inv];simp only[JD];exact(MapKept.bytes_beq _ _).2 rfl⟩
theorem UU {q:Rows}:∀ {ls:List Leaf} {cs ds:List PV} {us vs:List Value},ZO ls cs ds=some true->RepL S M q us cs->RepL S M q vs ds->us=vs/\ ∀v∈vs,∀n,JD n v v=true
 | [],[],[],us,vs,_,hu,hv=>by
  have e1:us= []:=by have:=hu.1;simpa using this
  have e2:vs= []:=by have:=hv.1;simpa using this
  subst e1;subst e2;exact⟨rfl,λv hv=>by cases hv⟩
 |l::ls,c::cs,d::ds,u::us,v::vs,h,hu,hv=>by
  simp only[ZO]at h;split at h;rename_i x y h1 h2;simp only[Jm.injEq,JN]at h;obtain⟨rfl,rfl⟩:=h;obtain⟨a1,a2⟩:=hu.cons;obtain⟨b1,b2⟩:=hv.cons;obtain⟨rfl,e1⟩:=ZgR h1 a1 b1;obtain⟨rfl,e2⟩:=UU h2 a2 b2;refine⟨rfl,λx hx=> ?_⟩;rcases JM.1 hx with rfl|hx;exact e1;exact e2 x hx;cases h
 | [],c::cs,_,_,_,h,_,_=>by simp[ZO]at h
 | [],[],d::ds,_,_,h,_,_=>by simp[ZO]at h
 |l::ls,[],_,_,_,h,_,_=>by simp[ZO]at h
 |l::ls,c::cs,[],_,_,h,_,_=>by simp[ZO]at h
 |l::ls,c::cs,d::ds,[],_,_,hu,_=>by have:=hu.1;simp at this
 |l::ls,c::cs,d::ds,_::_,[],_,_,hv=>by have:=hv.1;simp at this
theorem ZaN (hs:Sim B S M s a w) {t:TypeId} {u v z:Value} {x k y:PV} (hu:RepS S M s.m.q u x) (hv:RepS S M s.m.q v k) (hy:RepS S M s.m.q z y) (hok:(Z9 P t x k y s.m).ok):
  Zuo P B S s a w (JE t u v z) (Z9 P t x k y s.m):=by
 revert hok;unfold Z9;split;rename_i b;split;rename_i ls zz c cs h1 h2;obtain⟨kt,et,fs,i,zv,t1,t2,t3,t4,t5,rfl,t6⟩:=GQ h1;have hu':u= .map (some b):=by cases hu with|clean r=>cases r;rfl
 subst hu';obtain⟨o1,o2,es,e1,e2,e3,e4,e5,e6⟩:=hs.stable.o b c h2;obtain⟨vs,rfl,hl,hrv⟩:=hv.agg_inv;have ht:Yo P kt=true:=by simp[Yo,t2]
 have hg:=MapKept.run_getObj_map (P:=P) e1;have hnc:∀vs t f,w.heap[b]? ≠ some (.cells vs t f):=λvs t f h=>by rw[e1]at h;cases h
 have hck:∀(hlen:cs.length=ls.length),(Jh false 10000 kt (.agg ⟨vs⟩)).run P w= .ok () w:=λhlen=>Vj (vs:=vs) t2 (λf hf=>by rw[hl,hlen];exact t6 f hf) false 9997 w
 have main:∀(es':List MapEntry) (c':MapC),(JE t (.map (some b)) (.agg ⟨vs⟩) z).run P w= .ok () { w with heap:=w.heap.setIfInBounds b (.map ⟨es'⟩ es'.length) }->
   es'.length=c'.ks.length->c'.vs.length=c'.ks.length->(∀i,i<c'.ks.length->(es'.getD i Jd).born=i)->(∀i,i<c'.ks.length->Rep S (es'.getD i Jd).key (c'.ks.getD i .any))->(∀i,i<c'.ks.length->Rep S (es'.getD i Jd).val (c'.vs.getD i .any))->
   Zuo P B S s a w (JE t (.map (some b)) (.agg ⟨vs⟩) z) ⟨cs.length=ls.length/\Ke cs=true/\y.clean=true,.tup [],{ s.m with o:=upd s.m.o b (some c') }⟩:=by
  intro es' c' hrun g1 g2 g3 g4 g5;obtain⟨w1,w2⟩:=ZfG (o':= .map ⟨es'⟩ es'.length) e1;refine⟨_,S,M,hrun,hs.special hnc w2 (by simp) ⟨U6 hs.stable.s hnc o2 w2,λb2 c2 hc2=> ?_,λb2 x2 hx2=> ?_⟩ (λk d hk=>hs.om_ne hk h2),rfl,JF _,λ_ _=>⟨λ_=>rfl,rfl⟩,⟨rfl,rfl,rfl,by simp,λk hk=>w2 k (λe=>o1 (e▸hk))⟩⟩
  ·by_cases e:b=b2
   ·subst e;rw[Za]at hc2;cases hc2;exact⟨o1,o2,es',w1,g1,g2,g3,g4,g5⟩
   ·rw[Zk _ _ e]at hc2;obtain⟨q1,q2,q3⟩:=hs.stable.o b2 c2 hc2;exact⟨q1,q2,q3.move (JF _) (w2 b2 (Jy e))⟩
  ·obtain⟨q1,q2⟩:=hs.stable.i b2 x2 hx2;refine⟨q1,?_⟩;unfold IterAt at q2 ⊢;rw[w2 b2 (λe=>by subst e;have q3:=q2.1;rw[e1]at q3;cases q3)];exact q2
 split;rename_i j hf;rintro ⟨hlen,hc1,hc2⟩;obtain⟨f1,f2⟩:=FT (S:=S) (M:=M) (q:=s.m.q) t3 ht ⟨hl,hrv⟩ w es c.ks 0 _ e2 e5 hf;obtain⟨_,g2,ds,g3,g4⟩:=f2 j rfl;have hj:j<c.ks.length:=by omega
 rw[Kj]at g3;have hkj:=e5 j hj;rw[g3]at hkj;obtain⟨us,hus,hul,hru⟩:=(Ku (S:=S) (M:=M) (q:=s.m.q) hkj).agg_inv;obtain⟨hsame,hbits⟩:=UU g4 ⟨hl,hrv⟩ ⟨hul,hru⟩;subst hsame;have hjl:j<es.length:=by omega
 have hkey:(es.getD j Jd).key= .agg ⟨vs⟩:=hus;have hsb:JD 10000 (.agg ⟨vs⟩) (.agg ⟨vs⟩)=true:=by
  simp only[JD,BEq.rfl,KL];rw[JA];rintro ⟨p,q⟩ hpq;rw[Ks]at hpq;simp only at hpq ⊢;obtain⟨n,hn,hpn⟩:=Jg hpq;simp only[Km]at hpn;cases hpn;exact hbits _ (Ju _) _
 have hfk:(J8 kt (.agg ⟨vs⟩) es).run P w= .ok (some (j,(es.getD j Jd).val)) w:=by
  rw[run_findKey_eq w (by rw[t2]) (.agg ⟨vs⟩) es];simpa using f1
 have hej:(⟨es⟩:Array MapEntry)[j]? = some (es.getD j Jd):=by
  rw[getD_lt hjl];simp[hjl]
 have hmod:(⟨es⟩:Array MapEntry).modify j (λe=> { e with key:= .agg ⟨vs⟩,val:=z })=⟨es.set j { es.getD j Jd with key:= .agg ⟨vs⟩,val:=z }⟩:=by
  apply KJ;apply Kd;intro n;rw[J4,J5];simp only[Ky];by_cases e:j=n;subst e;simp[hjl,getD_lt hjl];simp[e]
 have hrun:(JE t (.map (some b)) (.agg ⟨vs⟩) z).run P w= .ok () { w with heap:=w.heap.setIfInBounds b (.map ⟨es.set j { es.getD j Jd with key:= .agg ⟨vs⟩,val:=z }⟩ es.length) }:=by
  have hks:(JZ (.agg ⟨vs⟩) (.agg ⟨vs⟩)).run P w= .ok (.agg ⟨vs⟩) w:=by simp[JZ,hsb]
  simp only[JE,Ji,run_underlying t1,Jc,hg,hck hlen,hfk,hej,JY,KB,hkey,hks,hmod];exact MapKept.run_setObj_map _ e1
 have hsetlen:(es.set j { es.getD j Jd with key:= .agg ⟨vs⟩,val:=z }).length=es.length:=by simp
 have hget:∀i,i<c.ks.length->(es.set j { es.getD j Jd with key:= .agg ⟨vs⟩,val:=z }).getD i Jd=if i=j then { es.getD j Jd with key:= .agg ⟨vs⟩,val:=z } else es.getD i Jd:=λi hi=>by
  rw[getD_lt (by simp;omega),J7];by_cases e:j=i;subst e;simp;rw[if_neg e,if_neg (Jy e)];exact(getD_lt (by omega)).symm
 refine main (es.set j { es.getD j Jd with key:= .agg ⟨vs⟩,val:=z }) ⟨c.ks,c.vs.set j y.share⟩ (by rw[hsetlen];exact hrun) (by rw[hsetlen];exact e2) (by simp[e3]) (λi hi=> ?_) (λi hi=> ?_) (λi hi=> ?_);rw[hget i hi];split;rename_i e;subst e;exact e4 i hi;exact e4 i hi;rw[hget i hi];split;rename_i e;subst e;rw[<-hkey];exact e5 i hi;exact e5 i hi;rw[hget i hi];have hgv:(c.vs.set j y.share).getD i .any=if i=j then y.share else c.vs.getD i .any:=by
  simp only at hi;rw[getD_lt (by simp;omega),J7];by_cases e:j=i;subst e;simp;rw[if_neg e,if_neg (Jy e)];exact(getD_lt (by omega)).symm
 show Rep S _ ((c.vs.set j y.share).getD i .any);rw[hgv];split;exact hy.share hc2;exact e6 i hi;rename_i hf;rintro ⟨hlen,hc1,hc2⟩;obtain⟨f1,f2⟩:=FT (S:=S) (M:=M) (q:=s.m.q) t3 ht ⟨hl,hrv⟩ w es c.ks 0 _ e2 e5 hf;have hfk:(J8 kt (.agg ⟨vs⟩) es).run P w= .ok none w:=by
  rw[run_findKey_eq w (by rw[t2]) (.agg ⟨vs⟩) es];simpa using f1
 have hrun:(JE t (.map (some b)) (.agg ⟨vs⟩) z).run P w= .ok () { w with heap:=w.heap.setIfInBounds b (.map ⟨es++ [{ key:= .agg ⟨vs⟩,val:=z,born:=es.length }]⟩ (es.length+1)) }:=by
  simp only[JE,Ji,run_underlying t1,Jc,hg,hck hlen,hfk,Kz];exact MapKept.run_setObj_map _ e1
 have hget:∀i,i<c.ks.length+1->(es++ [({ key:= .agg ⟨vs⟩,val:=z,born:=es.length }:MapEntry)]).getD i Jd=if i<c.ks.length then es.getD i Jd else { key:= .agg ⟨vs⟩,val:=z,born:=es.length }:=λi hi=>by
  by_cases e:i<c.ks.length;rw[if_pos e,Zg (by omega)];rw[if_neg e,Zj (by omega)];have:i-es.length=0:=by omega
  simp[this]
 have hkc:Rep S (.agg ⟨vs⟩) (.agg (JQ cs)):=(K2 (S:=S) (M:=M) (q:=s.m.q) vs cs hl hrv).share hc1;refine main (es++ [{ key:= .agg ⟨vs⟩,val:=z,born:=es.length }]) ⟨c.ks++ [.agg (JQ cs)],c.vs++ [y.share]⟩ (by simpa using hrun) (by simp[e2]) (by simp[e3]) (λi hi=> ?_) (λi hi=> ?_) (λi hi=> ?_);simp only[JG,JB,JH]at hi;rw[hget i (by omega)];split;rename_i e;exact e4 i e;show es.length=i;omega;simp only[JG,JB,JH]at hi;rw[hget i (by omega)];show Rep S _ ((c.ks++ [KP (JQ cs)]).getD i .any);split;rename_i e;rw[Zg e];exact e5 i e;rename_i e;rw[Zj (by omega)];have:i-c.ks.length=0:=by omega
 simpa[this]using hkc;simp only[JG,JB,JH]at hi;rw[hget i (by omega)];show Rep S _ ((c.vs++ [y.share]).getD i .any);split;rename_i e;rw[Zg (by omega)];exact e6 i e;rename_i e;rw[Zj (by omega)];have:i-c.vs.length=0:=by omega
 simpa[this]using hy.share hc2;exact λh=>h.elim
 exact λh=>h.elim
 exact λh=>h.elim
theorem Sim.mapIt (hs:Sim B S M s a w) {ib:Nat} {it:IterC} {c:MapC} (h1:s.m.it ib=some it) (h2:mapIt s.m it=some c):MapAt S w it.b c:=by
 unfold PL.mapIt at h2;cases hc:it.c with
 |some d=>
  rw[hc]at h2;simp only[Jm.injEq]at h2;subst h2;obtain⟨es,e1,e2,e3,e4,e5,e6⟩:=(hs.stable.i ib it h1).2.2 d hc;exact⟨es,hs.stable.s.m _ _ e1,e2,e3,e4,e5,e6⟩
 |none=>
  rw[hc]at h2;exact(hs.stable.o it.b c h2).2.2
theorem Zhr (hs:Sim B S M s a w) {u:Value} {x:PV} (hu:RepS S M s.m.q u x) (hok:(VD x s.m).ok):Snd P B S s a w (KD u) (VD x s.m):=by
 revert hok;unfold VD;split;rename_i b;split;rename_i it h1;split;rename_i c i h2 h3;rintro ⟨g1,g2⟩;have hu':u= .pointer (some ⟨b,0,none⟩):=by cases hu with|clean r=>cases r;rfl
 subst hu';obtain⟨_,i2,_⟩:=hs.stable.i b it h1;obtain⟨es,e1,e2,e3,e4,e5,e6⟩:=hs.mapIt h1 h2;unfold IterAt at i2;have hgi:(getObj b).run P w= .ok (.mapIter (some it.b) it.n ⟨it.seen⟩ it.n) w:=by simp[getObj,Kq,i2]
 have hg:=MapKept.run_getObj_map (P:=P) e1;have hlast:(⟨it.seen⟩:Array Nat).back? = some i:=by rw[List.getLast?_eq_getElem?]at h3;simpa[Array.back?]using h3
 have hfind:(⟨es⟩:Array MapEntry).find? (λe=>e.born==i)=some (es.getD i Jd):=by
  simp only[List.find?_toArray];have hle:i<es.length:=by omega
  rw[List.find?_eq_some_iff_getElem];refine⟨by simpa using e4 i g2,i,hle,(getD_lt hle).symm,λj hj=> ?_⟩;have:=e4 j (by omega);rw[getD_lt (by omega)]at this;simp[this];omega
 refine KA hs (v:= .tuple #[(es.getD i Jd).key,(es.getD i Jd).val]) ?_ ?_;have hcl:(es.length !=it.n)=false:=by simp;omega
 simp only[KD,Ji,hgi,Jc,hlast,hg,hcl,Kb,if_false,hfind,JC];refine .tup [_,_] [_,_] rfl (λj hj=> ?_);match j,hj with
 |0,_=>exact e5 i g2
 |1,_=>exact e6 i g2
 exact λh=>h.elim
 exact λh=>h.elim
 exact λh=>h.elim
end
open Go.RowKit
def tkn (P:Program) (t:TypeId):Bool:=(P.underlying t).isSome
def Wy (P:Program) (t:TypeId):Option (List PV):=aMakeFull.tbdz P t
def Ye (P:Program) (b:Builtin) (ts:List TypeId) (d:Option Nat) (xs:List PV) (m:Hp):ARes:=
 match b,ts,xs with
 | .len,[t],[x]=>if ZlV x then WL P t x m else Zn4 P t x m
 | .append,[t,tx],[x,y]=>match d with
  |some d=>UP P d t tx x y m
  |none=> .fail
 | .max,_,[x,y]=>Zn5 x y m
 | .min,_,[x,y]=>Zn6 x y m
 | .complex,_,[x,y]=>Zn1 x y m
 | .real,_,[x]=>ZcY x m
 | .imag,_,[x]=>ZcX x m
 |_,_,_=> .fail
def aop (P:Program) (o:Oper) (ρ:Operand->PV) (m:Hp):ARes:=
 match o.op with
 | .move x=>⟨True,ρ x,m⟩
 | .assign x=>⟨True,ρ x,m⟩
 | .pick c x y=>Za6 (ρ c) (ρ x) (ρ y) m
 | .alloc t=>match o.dst,Wy P t with
  |some d,some z=>⟨m.h d=none,.ptr d 0,m.new d z⟩
  |_,_=> .fail
 | .box _ x=>match o.dst with
  |some d=>⟨m.h d=none/\(ρ x).known=true,.ptr d 0,m.new d (ρ x).cells⟩
  |none=> .fail
 | .build t parts=>Ga P t (parts.toList.map λx=>(x.1,ρ x.2)) m
 | .buildSlice t len parts=>match o.dst with
  |some d=>Xc P d t len (parts.toList.map λx=>(x.1,ρ x.2)) m
  |none=> .fail
 | .load t x=>if tkn P t then Un P t (ρ x) m else .fail
 | .store t x y=>if tkn P t then W0 P t (ρ x) (ρ y) m else .fail
 | .nilCheck x=>VE (ρ x) m
 | .binOp op t x y _=>Zn0 P op t (ρ x) (ρ y) m
 | .unOp op _ x=>aUn op (ρ x) m
 | .convert src dst x=>Ti P src dst (ρ x) m
 | .makeFunc (.func f) first caps=>if first.isEmpty then⟨Uq m (caps.toList.map ρ),.fn f (caps.toList.map ρ),frozenBy m (caps.toList.map ρ)⟩else .fail
 | .makeSlice t l c=>match o.dst with
  |some d=>match l with
   | .const (.int _ 0)=>Wg P d t (ρ c) m
   |_=>aMakeFull P d t (ρ l) (ρ c) m
  |none=> .fail
 | .slice t x lo hi mx=>if mx.isNone then Gd P t (ρ x) (lo.map ρ) (hi.map ρ) m else .fail
 | .fieldAddr t x f=>Xp P t (ρ x) f m
 | .field t x f=>Gb P t (ρ x) f m
 | .indexAddr t x i=>Xq P t (ρ x) (ρ i) m
 | .index t x i=>Gc P t (ρ x) (ρ i) m
 | .extract x i=>Vo (ρ x) i m
 | .lookup t x k ok=>X1 P t (ρ x) (ρ k) ok m
 | .mapUpdate t x k v=>Z9 P t (ρ x) (ρ k) (ρ v) m
 | .entry x=>VD (ρ x) m
 | .call { callee:= .builtin b,args,argTypes }=>Ye P b argTypes.toList o.dst (args.toList.map ρ) m
 |_=> .fail
mutual
def PV.dids:PV->List Ref
 | .ptr id _=> [.b id]
 | .osl id _ _ _=> [.b id]
 | .sl (.row id) es=> .r id::PV.didsL es
 | .vsl id _ _=> [.r id]
 | .vptr id _ _ _ _=> [.r id]
 | .sl _ es=>PV.didsL es
 | .rptr cs=>PV.didsL cs
 | .rmap ks vs=>PV.didsL ks++PV.didsL vs
 | .agg cs=>PV.didsL cs
 | .tup cs=>PV.didsL cs
 | .fn _ cs=>PV.didsL cs
 |_=> []
def PV.didsL:List PV->List Ref
 | []=> []
 |c::cs=>PV.dids c++PV.didsL cs
end
def VZ (P:Program) (f:FuncId):Prop:=∃fn,P.funcs[f]? = some fn/\fn.name≠ "runtime.NumGoroutine" /\ fn.body.isSome=true
def Pure (P:Program) (f:FuncId) (args:List PV) (r:PV):Prop:=
 VZ P f/\r.dids= []/\ ∀(w:World) (S:Stable) (vs:List Value),StabS S w->ZkX S w->vs.length=args.length->(∀i,i<args.length->Rep S (vs.getD i undef) (args.getD i .any))->
  Calls P f ⟨vs⟩ w λe w'=>∃v S',e= .returned v/\Rep S' v r/\StabS S' w'/\SLe S S'/\(∀b,b<w.heap.size->(∀o,S' b o=S b o)/\S'.m b=S.m b)/\Below w.heap.size w w'
def Yt (ρ:Operand->PV) (c:Call):Option (FuncId×List PV):=
 match c.callee with
 | .value f=>match ρ f with
  | .fn g caps=>some (g,c.args.toList.map ρ++caps)
  |_=>none
 |_=>none
def Wc (P:Program) (o:Oper) (ρ:Operand->PV) (m:Hp) (v:PV) (m':Hp):Prop:=
 ((aop P o ρ m).ok/\v=(aop P o ρ m).v/\m'=(aop P o ρ m).m)\/
 (∃c g args,o.op= .call c/\Yt ρ c=some (g,args)/\Jp m args/\Pure P g (Jt m args) v/\m'=m)
section
variable {P:Program} {B:Frm} {S:Stable} {M:Maps} {s:St} {a:Act} {w:World}
def Done (P:Program) (B:Frm) (S:Stable) (s:St) (a:Act) (w:World) (o:Oper) (p:PV) (m':Hp):Prop:=
 ∀(next:Act->World->Prop) (Q:Exit->Act->World->Prop),(∀v w' S' M',Sim B S' M' ((s.with m').put o.dst p) (a.put o.dst v) w'->Ext B S S' w w'->next (a.put o.dst v) w')->o.wp P a w next Q
theorem Done.of_snd {o:Oper} {sm:Sem Value} {r:ARes} (he:(execOp a.eval o).run P w=(sm.run P w).andThen λv w'=> .ok (.value v) w') (hd:∀x,o.dst=some x->x<s.n) (h:Snd P B S s a w sm r):Done P B S s a w o r.v r.m:=by
 intro next Q hn
 obtain⟨v,w',S',M',h1,h2,h3,h4,h5⟩:=h;unfold Oper.wp;rw[he,h1];exact hn v w' S' M' (h2.put hd h3 h4) h5
theorem Done.of_sndU {o:Oper} {sm:Sem Unit} {r:ARes} (he:(execOp a.eval o).run P w=(sm.run P w).andThen λ_ w'=> .ok .skip w') (hd:∀x,o.dst=some x->x<s.n) (h:Zuo P B S s a w sm r):Done P B S s a w o r.v r.m:=by
 intro next Q hn
 obtain⟨w',S',M',h1,h2,h3,h4⟩:=h;unfold Oper.wp;rw[he,h1];refine hn undef w' S' M' (h2.put hd ?_ ?_) h4;rw[h3];exact .clean (.tup [] [] rfl (λi hi=>by simp at hi));rw[h3];simp[Jb,Jq]
theorem GB {f:Operand->PV} {g:Operand->Value} {l:List Operand} (h:∀x,RepS S M s.m.q (g x) (f x)):∀i,i<(l.map f).length->RepS S M s.m.q ((l.map g).getD i undef) ((l.map f).getD i .any):=by
 intro i hi;simp only[Jl]at hi;rw[getD_lt (by simpa using hi),getD_lt (by simpa using hi)];simp only[Jo];exact h _
theorem TM {sm:Sem Value}:(do Pure.pure (Next.value (<-sm)):Sem Next).run P w=(sm.run P w).andThen λv w'=> .ok (.value v) w':=by
 simp
theorem Zs4 {sm:Sem Unit}:(do sm;Pure.pure Next.skip:Sem Next).run P w=(sm.run P w).andThen λ_ w'=> .ok .skip w':=by
 simp
theorem Zdw (hs:Sim B S M s a w) (parts:List (Nat×Operand)):(parts.map λx=>(x.1,a.eval x.2)).length=(parts.map λx=>(x.1,s.eval x.2)).length/\
  (∀i,i<(parts.map λx=>(x.1,s.eval x.2)).length->((parts.map λx=>(x.1,a.eval x.2)).getD i (0,undef)).1=((parts.map λx=>(x.1,s.eval x.2)).getD i (0,.any)).1/\
   RepS S M s.m.q ((parts.map λx=>(x.1,a.eval x.2)).getD i (0,undef)).2 ((parts.map λx=>(x.1,s.eval x.2)).getD i (0,.any)).2)/\
  ∀x∈(parts.map λx=>(x.1,s.eval x.2)),∀i∈x.2.ids,ZX s.m i:=by
 refine⟨by simp,λi hi=> ?_,λx hx i hi=> ?_⟩;simp only[Jl]at hi;rw[getD_lt (by simpa using hi),getD_lt (by simpa using hi)];simp only[Jo];exact⟨trivial,hs.eval _⟩;obtain⟨y,hy,rfl⟩:=Jf.1 hx;exact hs.eval_ids _ i hi
theorem Zk1 (hs:Sim B S M s a w) {o:Oper} (hd:∀x,o.dst=some x->x<s.n) (hok:(aop P o s.eval s.m).ok):Done P B S s a w o (aop P o s.eval s.m).v (aop P o s.eval s.m).m:=by
 have E:=hs.eval;have I:=hs.eval_ids;obtain⟨dst,op,ty,pos,after,guard⟩:=o;unfold aop at hok ⊢;simp only at hok ⊢ hd;have mv:∀x:Operand,op= .move x\/op= .assign x->Done P B S s a w ⟨dst,op,ty,pos,after,guard⟩ (s.eval x) s.m:=by
  intro x hx next Q hn
  unfold Oper.wp;have:(execOp a.eval ⟨dst,op,ty,pos,after,guard⟩).run P w= .ok (.value (a.eval x)) w:=by rcases hx with rfl|rfl<;>rfl
  rw[this];exact hn _ w S M (hs.put hd (E x) (I x)) (JO _ _ _)
 cases op with
 |move x=>exact mv x (.inl rfl)
 |assign x=>exact mv x (.inr rfl)
 |pick c x y=>
  have ec:=E c;revert hok;show(Za6 (s.eval c) (s.eval x) (s.eval y) s.m).ok->Done P B S s a w _ (Za6 (s.eval c) (s.eval x) (s.eval y) s.m).v (Za6 (s.eval c) (s.eval x) (s.eval y) s.m).m;unfold Za6;split
  ·rename_i hc;intro _ next Q hn
   rw[hc]at ec;unfold Oper.wp;have:(execOp a.eval ⟨dst,.pick c x y,ty,pos,after,guard⟩).run P w= .ok (.value (a.eval x)) w:=by simp[execOp,ec.bool_inv,asBool]
   rw[this];exact hn _ w S M (hs.put hd (E x) (I x)) (JO _ _ _)
  ·rename_i hc;intro _ next Q hn
   rw[hc]at ec;unfold Oper.wp;have:(execOp a.eval ⟨dst,.pick c x y,ty,pos,after,guard⟩).run P w= .ok (.value (a.eval y)) w:=by simp[execOp,ec.bool_inv,asBool]
   rw[this];exact hn _ w S M (hs.put hd (E y) (I y)) (JO _ _ _)
  exact λh=>h.elim
 |alloc t=>
  simp only at hok ⊢;cases dst with
  |none=>exact hok.elim
  |some d=>
   cases hz:Wy P t with
   |none=>simp only[hz]at hok;exact hok.elim
   |some z=>
    simp only[hz]at hok ⊢;unfold Wy aMakeFull.tbdz at hz;split at hz
    ·rename_i i hi;split at hz
     ·rename_i zv hzv;split at hz
      ·rename_i hk;cases hz;exact Done.of_snd (sm:=Instr.alloc t true (.tuple #[])) TM hd (Zhp hs hi hzv hok hk (s.m.h d=none))
      ·cases hz
     ·cases hz
    ·cases hz
 |box t x=>
  simp only at hok ⊢;cases dst with
  |none=>exact hok.elim
  |some d=>exact Done.of_snd (sm:=Instr.box t (a.eval x)) TM hd (ZfK hs (E x) (I x) hok.1 hok.2 _)
 |build t parts=>
  obtain⟨parts⟩:=parts;simp only at hok ⊢;obtain⟨p1,p2,p3⟩:=Zdw hs parts;exact Done.of_snd (sm:=Instr.build t ⟨parts.map λx=>(x.1,a.eval x.2)⟩) (by simp[execOp]) hd (Zhq hs p1 p2 p3 hok)
 |buildSlice t len parts=>
  obtain⟨parts⟩:=parts;simp only at hok ⊢;cases dst with
  |none=>exact hok.elim
  |some d=>
   obtain⟨p1,p2,p3⟩:=Zdw hs parts;exact Done.of_snd (sm:=Instr.buildSlice t len ⟨parts.map λx=>(x.1,a.eval x.2)⟩) (by simp[execOp]) hd (D9 hs p1 p2 hok)
 |load t x=>
  simp only at hok ⊢;split at hok;rename_i hk;rw[if_pos hk];exact Done.of_snd (sm:=KQ t (a.eval x)) TM hd (Zki hs (E x) (by intro h;simp[tkn,h]at hk) hok);exact hok.elim
 |store t x y=>
  simp only at hok ⊢;split at hok;rename_i hk;rw[if_pos hk];exact Done.of_sndU (sm:=Instr.storeAt t (a.eval x) (a.eval y)) Zs4 hd (Zhv hs (E x) (E y) (I y) (by intro h;simp[tkn,h]at hk) hok);exact hok.elim
 |nilCheck x=>
  simp only at hok ⊢;revert hok;have ex:=E x;have ix:=I x;unfold VE;have fin:∀ {p:PV},s.eval x=p->(execOp a.eval ⟨dst,.nilCheck x,ty,pos,after,guard⟩).run P w= .ok (.value (a.eval x)) w->Done P B S s a w ⟨dst,.nilCheck x,ty,pos,after,guard⟩ p s.m:=by
   intro p hp hrun next Q hn
   unfold Oper.wp;rw[hrun];exact hn _ w S M (hs.put hd (hp▸E x) (hp▸I x)) (JO _ _ _)
  split;rename_i id off hx;intro _;rw[hx]at ex;exact fin hx (by simp[execOp,ex.ptr_inv]);rename_i cs hx;intro _;rw[hx]at ex;obtain⟨b,o,vals,e,_⟩:=ex.rptr_inv;exact fin hx (by simp[execOp,e]);rename_i f cs hx;intro _;rw[hx]at ex;obtain⟨vs,e,_⟩:=ex.fn_inv;exact fin hx (by simp[execOp,e]);exact λh=>h.elim
 |binOp op t x y yt=>exact Done.of_snd (sm:=do eqGuard op t x y (a.eval x) (a.eval y);binOp op t (a.eval x) (a.eval y)) TM hd (ZmX hs (E x) (E y) hok)
 |unOp op t x=>exact Done.of_snd (sm:=Op.unary op (a.eval x)) TM hd (Zpx hs (E x) hok)
 |convert src d x=>exact Done.of_snd (sm:=convert src d (a.eval x)) TM hd (Zkg hs (E x) hok)
 |makeFunc fn first caps=>
  obtain⟨caps⟩:=caps;cases fn with
  |func f=>
   simp only at hok ⊢;split at hok
   ·rename_i hf;rw[if_pos hf];simp only at hok ⊢;obtain⟨S',hs',he⟩:=hs.frozenBy _ hok;intro next Q hn
    unfold Oper.wp;have hfe:first= #[]:=by simpa using hf
    have:(execOp a.eval ⟨dst,.makeFunc (.func f) first ⟨caps⟩,ty,pos,after,guard⟩).run P w= .ok (.value (.func (.func f) #[] ⟨caps.map a.eval⟩)) w:=by
     subst hfe;simp[execOp,Instr.makeFunc]
    rw[this];refine hn _ w S' M (hs'.put hd ?_ ?_) he
    ·refine .fn f _ _ (by simp) (λi hi=> ?_);have:=GB (s:=s) (S:=S) (M:=M) (l:=caps) E i hi;refine this.heap he.1 (λ_ _=>rfl) (λk hk=> .of_eq ?_ rfl rfl);simp[St.with,X8]
    ·intro i hi;obtain⟨c,hc,hic⟩:=Jw.1 (by simpa[Jb]using hi);obtain⟨x,hx,rfl⟩:=Jf.1 hc;have:=I x i hic;cases i with
     |b k=>show(frozenBy s.m _).h k≠none;rw[WP];exact this
     |r k=>show(frozenBy s.m _).q k≠none;rw[X8];exact this
   ·exact hok.elim
  |_=>exact hok.elim
 |makeSlice t l c=>
  simp only at hok ⊢;cases dst with
  |none=>exact hok.elim
  |some d=>
   simp only at hok ⊢;split at hok
   ·rename_i k;exact Done.of_snd (sm:=KF t (.int k 0) (a.eval c)) TM hd (ZdF hs (E c) hok)
   ·exact Done.of_snd (sm:=KF t (a.eval l) (a.eval c)) TM hd (Zbg hs (E l) (E c) hok)
 |slice t x lo hi mx=>
  simp only at hok ⊢;split at hok;rename_i hm;rw[if_pos hm];cases mx with
  |some _=>simp at hm
  |none=>
   refine Done.of_snd (sm:=Instr.sliceAt t (a.eval x) (lo.map a.eval) (hi.map a.eval) none) TM hd (Zhu hs (E x) (I x) ?_ ?_ (by simp) (by simp) hok)
   ·intro v p h1 h2;cases lo with
    |none=>cases h1
    |some y=>cases h1;cases h2;exact E y
   ·intro v p h1 h2;cases hi with
    |none=>cases h1
    |some y=>cases h1;cases h2;exact E y
  exact hok.elim
 |fieldAddr t x f=>exact Done.of_snd (sm:=Instr.fieldAt t (a.eval x) f) TM hd (ZaL hs (E x) (I x) hok)
 |field t x f=>exact Done.of_snd (sm:=Instr.field t (a.eval x) f) TM hd (Zhs hs (E x) (I x) hok)
 |indexAddr t x i=>exact Done.of_snd (sm:=Instr.indexAt t (a.eval x) (a.eval i)) TM hd (ZaM hs (E x) (I x) (E i) hok)
 |index t x i=>exact Done.of_snd (sm:=Instr.index t (a.eval x) (a.eval i)) TM hd (Zht hs (E x) (I x) (E i) hok)
 |lookup t x k ok=>exact Done.of_snd (sm:=Ki t (a.eval x) (a.eval k) ok) TM hd (ZfM hs (E x) (E k) hok)
 |mapUpdate t x k v=>exact Done.of_sndU (sm:=JE t (a.eval x) (a.eval k) (a.eval v)) Zs4 hd (ZaN hs (E x) (E k) (E v) hok)
 |entry x=>exact Done.of_snd (sm:=KD (a.eval x)) TM hd (Zhr hs (E x) hok)
 |extract x i=>exact Done.of_snd (sm:=Instr.extract (a.eval x) i) TM hd (ZdE hs (E x) (I x) hok)
 |call c=>
  obtain⟨callee,args,argTypes⟩:=c;cases callee with
  |builtin b=>
   obtain⟨args⟩:=args;obtain⟨tys⟩:=argTypes;simp only at hok ⊢
   revert hok
   unfold Ye;split
   ·rename_i t p hx;intro hok;obtain⟨x,rfl,rfl⟩:∃x,args= [x]/\p=s.eval x:=by
     match args,hx with
     | [x],hx=>exact⟨x,rfl,by simpa using hx.symm⟩
    split at hok
    ·rename_i hmx;rw[if_pos hmx];exact Done.of_snd (sm:=Kh #[t] ty #[a.eval x]) (by simp[execOp,resolve,invoke,builtin]) hd (ZfN hs (E x) hok)
    ·rename_i hmx;rw[if_neg hmx];exact Done.of_snd (sm:=Kh #[t] ty #[a.eval x]) (by simp[execOp,resolve,invoke,builtin]) hd (Zm1 hs (E x) hok)
   ·rename_i t tx p p' hx;obtain⟨x,y,rfl,rfl,rfl⟩:∃x y,args= [x,y]/\p=s.eval x/\p'=s.eval y:=by
     match args,hx with
     | [x,y],hx=>simp at hx;exact⟨x,y,rfl,hx.1.symm,hx.2.symm⟩
    split
    ·rename_i d;intro hok;exact Done.of_snd (sm:=KG #[t,tx] ty #[a.eval x,a.eval y]) (by simp[execOp,resolve,invoke,builtin]) hd (ZfJ hs (E x) (I x) (E y) hok)
    ·exact λh=>h.elim
   ·rename_i tys b0 ts0 xs0 p p' hx;intro hok;obtain⟨x,y,rfl,rfl,rfl⟩:∃x y,args= [x,y]/\p=s.eval x/\p'=s.eval y:=by
     match args,hx with
     | [x,y],hx=>simp at hx;exact⟨x,y,rfl,hx.1.symm,hx.2.symm⟩
    exact Done.of_snd (sm:=Builtin.max_ ⟨tys⟩ ty #[a.eval x,a.eval y]) (by simp[execOp,resolve,invoke,builtin]) hd (Zm2 hs (E x) (E y) hok)
   ·rename_i tys b0 ts0 xs0 p p' hx;intro hok;obtain⟨x,y,rfl,rfl,rfl⟩:∃x y,args= [x,y]/\p=s.eval x/\p'=s.eval y:=by
     match args,hx with
     | [x,y],hx=>simp at hx;exact⟨x,y,rfl,hx.1.symm,hx.2.symm⟩
    exact Done.of_snd (sm:=Builtin.min_ ⟨tys⟩ ty #[a.eval x,a.eval y]) (by simp[execOp,resolve,invoke,builtin]) hd (Zm3 hs (E x) (E y) hok)
   ·rename_i tys b0 ts0 xs0 p p' hx;intro hok;obtain⟨x,y,rfl,rfl,rfl⟩:∃x y,args= [x,y]/\p=s.eval x/\p'=s.eval y:=by
     match args,hx with
     | [x,y],hx=>simp at hx;exact⟨x,y,rfl,hx.1.symm,hx.2.symm⟩
    exact Done.of_snd (sm:=Builtin.complex_ ⟨tys⟩ ty #[a.eval x,a.eval y]) (by simp[execOp,resolve,invoke,builtin]) hd (ZmY hs (E x) (E y) hok)
   ·rename_i tys b0 ts0 xs0 p hx;intro hok;obtain⟨x,rfl,rfl⟩:∃x,args= [x]/\p=s.eval x:=by
     match args,hx with
     | [x],hx=>exact⟨x,rfl,by simpa using hx.symm⟩
    exact Done.of_snd (sm:=Builtin.real_ ⟨tys⟩ ty #[a.eval x]) (by simp[execOp,resolve,invoke,builtin]) hd (Zkj hs (E x) hok)
   ·rename_i tys b0 ts0 xs0 p hx;intro hok;obtain⟨x,rfl,rfl⟩:∃x,args= [x]/\p=s.eval x:=by
     match args,hx with
     | [x],hx=>exact⟨x,rfl,by simpa using hx.symm⟩
    exact Done.of_snd (sm:=Builtin.imag_ ⟨tys⟩ ty #[a.eval x]) (by simp[execOp,resolve,invoke,builtin]) hd (Zkh hs (E x) hok)
   ·exact λh=>h.elim
  |_=>exact hok.elim
 |_=>exact hok.elim
theorem Zjx (hs:Sim B S M s a w) {o:Oper} {c:Call} {g:FuncId} {args:List PV} {r:PV} (hd:∀x,o.dst=some x->x<s.n) (ho:o.op= .call c) (hc:Yt s.eval c=some (g,args)) (hg:Jp s.m args)
  (hp:Pure P g (Jt s.m args) r):Done P B S s a w o r s.m:=by
 intro next Q hn
 obtain⟨dst,op,ty,pos,after,guard⟩:=o;simp only at ho hd;subst ho;obtain⟨callee,cargs,ts⟩:=c;obtain⟨cargs⟩:=cargs;unfold Yt at hc;cases callee with
 |value f=>
  simp only at hc;split at hc
  ·rename_i g' caps hf;simp only[Jm.injEq,Kx.injEq]at hc;obtain⟨rfl,rfl⟩:=hc;have ef:=hs.eval f;rw[hf]at ef;obtain⟨vs,hv,hl,hr⟩:=ef.fn_inv;obtain⟨⟨fn,c1,c2,c3⟩,_,hcalls⟩:=hp;have hargs:∀i,i<(cargs.map s.eval++caps).length->RepS S M s.m.q ((cargs.map a.eval++vs).getD i undef) ((cargs.map s.eval++caps).getD i .any):=by
    intro i hi
    by_cases h1:i<cargs.length
    ·rw[Zg (by simpa using h1),Zg (by simpa using h1)];exact GB (s:=s) hs.eval i (by simpa using h1)
    ·rw[Zj (by simp;omega),Zj (by simp;omega)];simp only[Jl];exact hr _ (by simp at hi;omega)
   have hrun:(execOp a.eval ⟨dst,.call ⟨.value f,⟨cargs⟩,ts⟩,ty,pos,after,guard⟩).run P w= .ok (.enter g' ⟨cargs.map a.eval++vs⟩) w:=by
    have hb:¬fn.body=none:=by intro h;simp[h]at c3
    simp[execOp,resolve,Deferred.ofValue,hv,invoke,callFunc,program,Kq,c1,hb,c2]
   unfold Oper.wp;rw[hrun];show Calls P g' ⟨cargs.map a.eval++vs⟩ w _;have hcl:=hcalls w S (cargs.map a.eval++vs) hs.stable.s hs.young (by simp[Je,hl]) (λi hi=>by
    rw[Je]at hi;rw[JR _ _ i hi];exact(hargs i hi).give hs (Kf hg i hi))
   refine hcl.mono λe w' h=> ?_
   obtain⟨v,S',rfl,h2,h3,h4,h5,h6⟩:=h;have hs':=hs.grow h4 h5 h3 h6.block h6.size;exact hn v w' S' M (hs'.put hd (.clean h2) (λi hi=>absurd hi (h2.clean_ids i))) ⟨h4,λb hb=>h5 b (hs.hB b hb),(KC h6).mono hs.hB⟩
  ·cases hc
 |_=>simp at hc
theorem Sn (hs:Sim B S M s a w) {o:Oper} {v:PV} {m':Hp} (hd:∀x,o.dst=some x->x<s.n) (h:Wc P o s.eval s.m v m'):Done P B S s a w o v m':=by
 rcases h with ⟨h1,rfl,rfl⟩|⟨c,g,args,ho,hc,hg,hp,rfl⟩;exact Zk1 hs hd h1;exact Zjx hs hd ho hc hg hp
end
open Go.RowKit
def gdOf (want:Bool):PV->Option Bool
 | .bool b=>some (b==want)
 | .tup _=>some false
 |_=>none
def gd (ops:Array Oper) (s:St) (o:Oper):Option Bool:=
 match o.guard with
 |none=>some true
 |some (j,want)=>match(ops[j]?).bind (·.dst)with
  |some d=>if d<s.n then gdOf want (s.fr d)else none
  |none=>some false
def FR (n:Nat):Option Nat->Prop
 |some d=>d<n
 |none=>True
def ZoZ (P:Program) (ops:Array Oper) (K:St->Prop):List Oper->St->Prop
 | [],s=>K s
 |o::rest,s=>FR s.n o.dst/\((gd ops s o=some true/\ ∃v m',Wc P o s.eval s.m v m'/\ZoZ P ops K rest ((s.with m').put o.dst v))\/(gd ops s o=some false/\ZoZ P ops K rest (s.put o.dst (.tup []))))
def awp (P:Program) (c:Code) (Q:Exit->St->Prop) (s:St):Prop:=
 ∀B S M a w,Sim B S M s a w->c.wp P (λe a' w'=>∃s' S' M',Q e s'/\Sim B S' M' s' a' w'/\Ext B S S' w w') a w
section
variable {P:Program} {B:Frm} {S:Stable} {M:Maps} {s:St} {a:Act} {w:World} {Q Q':Exit->St->Prop}
theorem X6 {n:Nat} {d:Option Nat} (h:FR n d):∀x,d=some x->x<n:=λx e=>by subst e;exact h
def asB:Value->Option Bool
 | .bool b=>some b
 |_=>none
theorem RepS.gdOf {q:Rows} {v:Value} {p:PV} {want c:Bool} (r:RepS S M q v p) (h:PL.gdOf want p=some c):(asB v==some want)=c:=by
 cases p<;>simp[PL.gdOf]at h
 rw[r.bool_inv];simpa[asB]using h;obtain⟨vs,rfl,_⟩:=r.tup_inv;simpa[asB]using h
theorem F5 (hs:Sim B S M s a w) {ops:Array Oper} {o:Oper} {b:Bool} (h:gd ops s o=some b):KM o (yielded ops a.tmps)=b:=by
 unfold gd at h;unfold KM;cases hg:o.guard with
 |none=>rw[hg]at h;simpa using h
 |some jw=>
  obtain⟨j,want⟩:=jw;rw[hg]at h;simp only at h ⊢;unfold yielded;cases hd:(ops[j]?).bind (·.dst)with
  |none=>rw[hd]at h;simpa using h
  |some d=>
   rw[hd]at h;simp only at h;split at h
   ·rename_i hlt;have hsz:d<a.tmps.size:=by rw[hs.hn];exact hlt
    have hr:=hs.fr d;have he:a.tmps[d]? = some (a.tmps.getD d undef):=by
     rw[JS,Array.getElem?_eq_getElem hsz];rfl
    have hb:=hr.gdOf h;simp only[Option.bind_some,he];rw[<-hb];cases a.tmps.getD d undef<;>rfl
   ·cases h
theorem Fn (hs:Sim B S M s a w) {d:Option Nat} (hd:FR s.n d):Sim B S M (s.put d (.tup [])) (a.put d undef) w:=
 hs.put (X6 hd) (.clean (.tup [] [] rfl (λi hi=>by simp at hi))) (by simp[Jb,Jq])
theorem YR {c:Code} (h:∀e s,Q e s->Q' e s) (hh:awp P c Q s):awp P c Q' s:=λB S M a w hs=>
 wp_mono (hh B S M a w hs) λe a' w' ⟨s',S',M',h1,h2,h3⟩=>⟨s',S',M',h _ _ h1,h2,h3⟩
theorem Fe (h:Q .normal s):awp P .skip Q s:=λB S M a w hs=>wp_skip ⟨s,S,M,h,hs,JO _ _ _⟩
theorem Zex {l:Nat} (h:Q .normal s):awp P (.label l) Q s:=λB S M a w hs=>wp_label ⟨s,S,M,h,hs,JO _ _ _⟩
theorem Zor {id:Nat} (h:Q (.exit id) s):awp P (.exit id) Q s:=λB S M a w hs=>wp_exit ⟨s,S,M,h,hs,JO _ _ _⟩
theorem Zos {l:Nat} (h:Q (.goto l) s):awp P (.goto l) Q s:=λB S M a w hs=>wp_goto ⟨s,S,M,h,hs,JO _ _ _⟩
theorem ZqH (h:Q .ret s):awp P .ret Q s:=λB S M a w hs=>wp_ret ⟨s,S,M,h,hs,JO _ _ _⟩
def Xj (K:St->Prop) (Q:Exit->St->Prop):Exit->St->Prop
 | .normal,s=>K s
 |e,s=>Q e s
theorem FK {x y:Code} (h:awp P x (Xj (awp P y Q) Q) s):awp P (.seq x y) Q s:=λB S M a w hs=>by
 refine wp_seq (wp_mono (h B S M a w hs) λe a' w' hq=> ?_);obtain⟨s',S',M',h1,h2,h3⟩:=hq;cases e with
 |normal=>
  refine wp_mono (h1 B S' M' a' w' h2) λe a'' w'' hq'=> ?_
  obtain⟨s'',S'',M'',g1,g2,g3⟩:=hq';exact⟨s'',S'',M'',g1,g2,h3.trans g3⟩
 |_=>exact⟨s',S',M',h1,h2,h3⟩
theorem Zop {c:Operand} {x y:Code} {b:Bool} (hc:s.eval c= .bool b) (h:awp P (if b then x else y) Q s):awp P (.cond c x y) Q s:=λB S M a w hs=>by
 have he:=hs.eval c;rw[hc]at he;exact wp_cond he.bool_inv (h B S M a w hs)
def Td (id:Nat) (Q:Exit->St->Prop):Exit->St->Prop
 | .exit j,s=>if j=id then Q .normal s else Q (.exit j) s
 |e,s=>Q e s
theorem Zlf {id:Nat} {c:Code} (h:awp P c (Td id Q) s):awp P (.block id c) Q s:=λB S M a w hs=>by
 refine wp_block (wp_mono (h B S M a w hs) λe a' w' hq=> ?_);obtain⟨s',S',M',h1,h2,h3⟩:=hq;cases e with
 |exit j=>
  simp only[Exit.inBlock,Td]at h1 ⊢;split at h1
  ·rename_i hj;simp only[hj,if_true];exact⟨s',S',M',h1,h2,h3⟩
  ·rename_i hj;simp only[hj,if_false];exact⟨s',S',M',h1,h2,h3⟩
 |_=>exact⟨s',S',M',h1,h2,h3⟩
end
open Go.RowKit
def Yz {α:Type} (L:List (Nat×α)) (f:Nat->α):Nat->α:=L.foldr (λx g=>upd g x.1 x.2) f
def Ze7 (ws:List Nat) (f:Nat->PV):Nat->PV:=λi=>if ws.contains i then .any else f i
structure Weak (s' s:St):Prop where
 n:s'.n=s.n
 fr:∀i,s'.fr i= .any\/s'.fr i=s.fr i
 h:∀i,s'.m.h i=none\/(s'.m.h i=s.m.h i/\s'.m.z i=s.m.z i)
 q:∀i,s'.m.q i=none\/s'.m.q i=s.m.q i
 o:∀i,s'.m.o i=none\/s'.m.o i=s.m.o i
 it:∀i,s'.m.it i=none\/s'.m.it i=s.m.it i
 om:∀i,s'.m.om i=none\/s'.m.om i=s.m.om i
 v:∀i,s'.m.v i=none\/(s'.m.v i=s.m.v i/\s'.m.q i=s.m.q i)
 ph:∀i,s'.m.ph i=none\/(s'.m.ph i=s.m.ph i/\s'.m.h i=s.m.h i)
 pq:∀i,s'.m.pq i=none\/(s'.m.pq i=s.m.pq i/\s'.m.q i=s.m.q i)
structure Refs (s:St):Prop where
 fr:∀i r,r∈(s.fr i).ids->ZX s.m r
 h:∀i cs,s.m.h i=some cs-> ∀c∈cs,∀r∈c.ids,ZX s.m r
 v:∀i es,s.m.v i=some es-> ∀p∈es,∀r∈p.ids,ZX s.m r
 om:∀b c,s.m.om b=some c-> ∀p∈c.vs,∀r∈p.ids,ZX s.m r
section
variable {P:Program} {B:Frm} {S:Stable} {M:Maps} {s s':St} {a:Act} {w:World} {Q Q':Exit->St->Prop}
theorem Sim.refs (hs:Sim B S M s a w):Refs s:=by
 refine⟨hs.ids,λi cs hi c hc r hr=> ?_,λi es h=>(by obtain⟨_,_,_,_,h3,_⟩:=hs.vc i es h;exact h3),λb c h=>(hs.rm b c h).2.2.2.2⟩;have hb:=hs.blk i cs hi;cases hz:s.m.z i with
 |false=>rw[hz]at hb;exact hb.2.2.2 c hc r hr
 |true=>
  rw[hz]at hb;obtain⟨vals,hv⟩:=hb;obtain⟨j,hj,rfl⟩:=Jg hc;have:=(hv j hj).2;rw[getD_lt hj]at this;exact absurd hr (this.clean_ids r)
theorem Sim.weak (hs:Sim B S M s a w) (hw:Weak s' s) (hr:Refs s'):Sim B S M s' a w:=by
 have rep:∀ {v p},RepS S M s.m.q v p->(∀r∈p.ids,ZX s'.m r)->RepS S M s'.m.q v p:=λr _=>
  r.heap (JF _) (λ_ _=>rfl) (λi hi=>by
   rcases hw.q i with h|h
   ·rw[h];exact .none
   ·exact .of_eq h rfl rfl)
 have hh:∀ {i cs},s'.m.h i=some cs->s.m.h i=some cs/\s'.m.z i=s.m.z i:=λ{i cs} hi=>by
  rcases hw.h i with h|⟨h,hz⟩;rw[h]at hi;cases hi;exact⟨by rw[<-h];exact hi,hz⟩
 have hq:∀ {i r},s'.m.q i=some r->s.m.q i=some r:=λ{i r} hi=>by
  rcases hw.q i with h|h;rw[h]at hi;cases hi;rw[<-h];exact hi
 refine⟨hs.defers,by rw[hs.hn,hw.n],hs.hB,⟨hs.stable.s,λb c hc=>hs.stable.o b c ?_,λb x hx=>hs.stable.i b x ?_⟩,λi=> ?_,hr.fr,λi cs hi=> ?_,λi r hi=>hs.row i r (hq hi),?_,?_,?_,λb c hc=> ?_,λi es he=> ?_,⟨λi b hb=> ?_,λi n k b hb=> ?_⟩,hs.hz⟩;rcases hw.o b with h|h;rw[h]at hc;cases hc;rw[<-h];exact hc;rcases hw.it b with h|h;rw[h]at hx;cases hx;rw[<-h];exact hx;rcases hw.fr i with h|h;rw[h];exact .clean (.any _);rw[h];exact rep (hs.fr i) (by rw[<-h];exact hr.fr i);obtain⟨h1,hz⟩:=hh hi;have hb:=hs.blk i cs h1;rw[hz];cases hzi:s.m.z i with
 |false=>
  rw[hzi]at hb;obtain⟨g1,g2,⟨us,t',g3,g4,g5⟩,g6⟩:=hb;exact⟨g1,g2,⟨us,t',g3,g4,λk hk=>rep (g5 k hk) (λr hr'=>hr.h i cs hi _ (Ze hk) r hr')⟩,hr.h i cs hi⟩
 |true=>rw[hzi]at hb;exact hb
 intro i j cs cs' hi hj zi zj hij;obtain⟨h1,e1⟩:=hh hi;obtain⟨h2,e2⟩:=hh hj;exact hs.inj i j _ _ h1 h2 (by rw[<-e1];exact zi) (by rw[<-e2];exact zj) hij;intro i j r1 r2 hi hj oi oj ki kj hij;exact hs.injq i j _ _ (hq hi) (hq hj) oi oj ki kj hij;intro i j cs r1 hi zi hj oj kj;obtain⟨h1,e1⟩:=hh hi;exact hs.injx i j _ _ h1 (by rw[<-e1];exact zi) (hq hj) oj kj;have hc':s.m.om b=some c:=by
  rcases hw.om b with h|h;rw[h]at hc;cases hc;rw[<-h];exact hc
 obtain⟨g1,g2,g3,⟨es,e1,e2,e3,e4,e5,e6⟩,_⟩:=hs.rm b c hc';have hro:=hr.om b c hc;refine⟨g1,g2,?_,⟨es,e1,e2,e3,e4,e5,λi hi=>rep (e6 i hi) λr hr'=>hro (c.vs.getD i .any) (Ze (by omega)) r hr'⟩,hro⟩;rcases hw.o b with h|h;exact h;rw[h];exact g3;rcases hw.v i with h|⟨h,hqi⟩;rw[h]at he;cases he;rw[h]at he;obtain⟨sz,e,q1,k1,k2,k3⟩:=hs.vc i es he;have hrv:=hr.v i es (by rw[h];exact he);refine⟨sz,e,by rw[hqi];exact q1,k1,hrv,λc hc vs t f hvs i' j hi' hj=>rep (k3 c hc vs t f hvs i' j hi' hj) λr hr'=>hrv (es.getD i' .any) (Ze hi') r ?_⟩;have hlen:=(k1 _ (Ze (d:= .any) hi')).1;exact YB (Ze (by omega)) hr';rcases hw.ph i with h|⟨h,h2⟩;rw[h]at hb;cases hb;rw[h]at hb;rw[h2];exact hs.pn.h i b hb;rcases hw.pq i with h|⟨h,h2⟩;rw[h]at hb;cases hb;rw[h]at hb;rw[h2];exact hs.pn.q i n k b hb
theorem Ff {c:Code} (hw:Weak s' s) (hr:Refs s->Refs s') (h:awp P c Q s'):awp P c Q s:=λB S M a w hs=>h B S M a w (hs.weak hw (hr hs.refs))
theorem Tp {c:Code} {ι:Type} (I:ι->St) (μ:ι->Nat) (i0:ι) (h0:Weak (I i0) s) (hr:Refs s-> ∀i,Refs (I i))
  (round:∀i,awp P c (Xj (λs'=>∃j,μ j<μ i/\Weak (I j) s') Q) (I i)):awp P (.loop c) Q s:=λB S M a w hs=>by
 have hrefs:=hr hs.refs;have key:∀(k:Nat) (i:ι),μ i<k-> ∀S1 M1 a1 w1,Sim B S1 M1 (I i) a1 w1->Ext B S S1 w w1->
   Code.rounds P c (λe a' w'=>∃s' S' M',Q e s'/\Sim B S' M' s' a' w'/\Ext B S S' w w') k a1 w1:=by
  intro k
  induction k with
  |zero=>intro i hi;omega
  |succ k ih=>
   intro i hi S1 M1 a1 w1 hs1 he1;rw[rounds_succ];refine wp_mono (round i B S1 M1 a1 w1 hs1) λe a' w' hq=> ?_
   obtain⟨s',S',M',h1,h2,h3⟩:=hq;cases e with
   |normal=>
    obtain⟨j,hj,hwk⟩:=h1;exact ih j (by omega) S' M' a' w' (h2.weak hwk (hrefs j)) (he1.trans h3)
   |_=>exact⟨s',S',M',h1,h2,he1.trans h3⟩
 exact wp_loop_rounds (μ i0+1) (key _ i0 (Nat.lt_succ_self _) S M a w (hs.weak h0 (hrefs i0)) (JO _ _ _))
def FrEq (X:List Nat) (f g:Nat->PV):Prop:=∀i,X.contains i=false->f i=g i
theorem FrEq.refl (X:List Nat) (f:Nat->PV):FrEq X f f:=λ_ _=>rfl
theorem FrEq.upd {X:List Nat} {f g:Nat->PV} {d:Nat} {v:PV} (hd:X.contains d=true) (h:FrEq X f g):FrEq X (upd f d v) g:=λi hi=>by
 by_cases e:d=i;subst e;rw[hd]at hi;cases hi;rw[Zk _ _ e];exact h i hi
def HWeak {α:Type} (f g:Nat->Option α):Prop:=∀i,f i=none\/f i=g i
theorem HWeak.refl {α:Type} (f:Nat->Option α):HWeak f f:=λ_=> .inr rfl
theorem HWeak.upd {α:Type} {f g:Nat->Option α} {d:Nat} {v:Option α} (hd:f d=none\/f d=v) (h:HWeak f g):HWeak f (PL.upd g d v):=λi=>by
 by_cases e:d=i;subst e;rw[Za];exact hd;rw[Zk _ _ e];exact h i
theorem X5 {α:Type} {L:List (Nat×α)} {f:Nat->α} {i:Nat} (h:(L.map (·.1)).contains i=false):Yz L f i=f i:=by
 induction L with
 |nil=>rfl
 |cons x L ih=>
  simp only[JX,Kv,Kn,beq_eq_false_iff_ne]at h;show upd (Yz L f) x.1 x.2 i=f i;rw[Zk _ _ (Jy h.1)];exact ih h.2
theorem Yg {α:Type} {L:List (Nat×α)} {f:Nat->α} {i:Nat} {R:Nat->α->Prop} (hL:∀x∈L,R x.1 x.2) (h:(L.map (·.1)).contains i=true):R i (Yz L f i):=by
 induction L with
 |nil=>simp at h
 |cons x L ih=>
  show R i (upd (Yz L f) x.1 x.2 i);by_cases e:x.1=i;subst e;rw[Za];exact hL x (by simp);rw[Zk _ _ e];refine ih (λy hy=>hL y (by simp[hy])) ?_;simp only[JX,Kv,Kk,beq_iff_eq]at h;exact h.resolve_left (Jy e)
def St.inv (s:St) (ws:List Nat) (L:List (Nat×PV)) (H:List (Nat×List PV)) (R:List (Nat×Row)):St:=
 { fr:=Yz L (Ze7 ws s.fr),m:= { h:=Yz (H.map λx=>(x.1,some x.2)) s.m.h,z:=Yz (H.map λx=>(x.1,false)) s.m.z,q:=Yz (R.map λx=>(x.1,some x.2)) s.m.q,o:=λ_=>none,it:=λ_=>none,om:=λ_=>none,v:=λ_=>none,ph:=λ_=>none,pq:=λ_=>none,vm:=λ_=>false },n:=s.n }
structure Meets (s:St) (ws:List Nat) (L:List (Nat×PV)) (H:List (Nat×List PV)) (R:List (Nat×Row)) (s':St):Prop where
 n:s'.n=s.n
 fr:∀x∈L,s'.fr x.1=x.2
 rest:FrEq (ws++L.map (·.1)) s'.fr s.fr
 h:∀x∈H,s'.m.h x.1=some x.2/\s'.m.z x.1=false
 q:∀x∈R,s'.m.q x.1=some x.2
 hrest:∀i,(H.map (·.1)).contains i=false->s.m.h i=none\/(s.m.h i=s'.m.h i/\s.m.z i=s'.m.z i)
 qrest:∀i,(R.map (·.1)).contains i=false->s.m.q i=none\/s.m.q i=s'.m.q i
theorem ZnT {α β:Type} (L:List (Nat×α)) (f:α->β):(L.map λx=>(x.1,f x.2)).map (·.1)=L.map (·.1):=by simp
def Zu6 (s:St) (L:List (Nat×PV)) (H:List (Nat×List PV)) (R:List (Nat×Row)):Prop:=
 (∀x∈L,∀r∈x.2.ids,ZX (s.inv [] L H R).m r)/\ ∀x∈H,∀c∈x.2,∀r∈c.ids,ZX (s.inv [] L H R).m r
theorem Refs.inv {ws:List Nat} {L:List (Nat×PV)} {H:List (Nat×List PV)} {R:List (Nat×Row)} (h:Refs s) (hl:Zu6 s L H R):Refs (s.inv ws L H R):=by
 have up:∀r,ZX s.m r->ZX (s.inv ws L H R).m r:=λr hr=>by
  cases r with
  |b i=>
   show Yz (H.map λx=>(x.1,some x.2)) s.m.h i≠none;by_cases hi:(H.map (·.1)).contains i=true;exact Yg (R:=λi v=>v≠none) (λx hx=>by obtain⟨y,hy,rfl⟩:=Jf.1 hx;simp) (by rw[ZnT H some];exact hi);rw[X5 (by rw[ZnT H some];simpa using hi)];exact hr
  |r i=>
   show Yz (R.map λx=>(x.1,some x.2)) s.m.q i≠none;by_cases hi:(R.map (·.1)).contains i=true;exact Yg (R:=λi v=>v≠none) (λx hx=>by obtain⟨y,hy,rfl⟩:=Jf.1 hx;simp) (by rw[ZnT R some];exact hi);rw[X5 (by rw[ZnT R some];simpa using hi)];exact hr
 refine⟨λi r hr=> ?_,λi cs hi c hc r hr=> ?_,λi es hi=>(by cases hi),λb c hc=>(by cases hc)⟩;by_cases hi:(L.map (·.1)).contains i=true;exact Yg (R:=λi v=>∀r∈v.ids,ZX (s.inv ws L H R).m r) (λx hx=>hl.1 x hx) hi r hr;have hi':(L.map (·.1)).contains i=false:=by simpa using hi
 have hr':r∈(Yz L (Ze7 ws s.fr) i).ids:=hr;rw[X5 hi']at hr';unfold Ze7 at hr';split at hr';simp[Jb]at hr';exact up r (h.fr i r hr');by_cases hi':(H.map (·.1)).contains i=true;have hR:=Yg (R:=λi v=>∀cs,v=some cs-> ∀c∈cs,∀r∈c.ids,ZX (s.inv ws L H R).m r) (f:=s.m.h) (L:=H.map λx=>(x.1,some x.2)) (i:=i)
  (λx hx cs hcs=>by obtain⟨y,hy,rfl⟩:=Jf.1 hx;cases hcs;exact hl.2 y hy) (by rw[ZnT H some];exact hi')
 exact hR cs hi c hc r hr;have hi2:Yz (H.map λx=>(x.1,some x.2)) s.m.h i=some cs:=hi;rw[X5 (by rw[ZnT H some];simpa using hi')]at hi2;exact up r (h.h i cs hi2 c hc r hr)
theorem YO {c:Code} (i d sz:Nat) (e:TypeId) (hi:s.fr i= .sl .nil []) (hd:s.m.q d=none) (h:awp P c Q ({ s with fr:=upd s.fr i (.sl (.row d) []) }.with (s.m.setq d (.live 0 sz e)))):awp P c Q s:=λB S M a w hs=>by
 have hs1:=hs.nilRow (sz:=sz) (e:=e) hd;have hv:a.tmps.getD i undef= .slice none 0 0:=by
  have:=hs.fr i;rw[hi]at this;exact this.slnil_inv
 refine h B S _ a w ⟨hs1.defers,hs1.hn,hs1.hB,hs1.stable,λk=> ?_,λk r hr=> ?_,hs1.blk,hs1.row,hs1.inj,hs1.injq,hs1.injx,hs1.rm,hs1.vc,⟨hs1.pn.h,hs1.pn.q⟩,hs1.hz⟩;show RepS _ _ _ _ (upd s.fr i (.sl (.row d) []) k);by_cases e:i=k;subst e;rw[Za,hv];refine .row d _ [] (.sl0 none 0) λn' sz' e' hq=> ?_
 simp only[St.with,Hp.setq,Za]at hq;cases hq;exact⟨JJ _,λ_=>⟨λ_=>rfl,λc hc=>by simp[Za]at hc⟩⟩;rw[Zk _ _ e];exact hs1.fr k;have hr':r∈(upd s.fr i (.sl (.row d) []) k).ids:=hr;by_cases e:i=k;subst e;rw[Za]at hr';simp only[Jb,Jn]at hr';subst hr';simp[ZX,St.with,Hp.setq,Za];rw[Zk _ _ e]at hr';exact hs1.ids k r hr'
end
open Go.RowKit
def VN:Nat->List PV->Nat->PV
 |_,[]=>λ_=> .tup []
 |k,p::ps=>upd (VN (k+1) ps) k p
def St.init (args:List PV) (n:Nat):St:=⟨VN 0 args,Hp.empty,n⟩
def DU (P:Program) (s:St):ResultVar->ARes
 | .tmp t=>⟨True,s.fr t,s.m⟩
 | .cell t ty=>if tkn P ty then Un P ty (s.fr t) s.m else .fail
def Za7:List ARes->Prop
 | []=>True
 |r::rs=>r.ok/\Za7 rs
def ZnU:List PV->PV
 | [p]=>p
 |ps=> .tup ps
def Zqp (P:Program) (fn:Func) (r:PV) (s:St):Prop:=
 Za7 (fn.results.toList.map (DU P s))/\(ZnU (fn.results.toList.map λx=>(DU P s x).v)).givable s.m/\r=(ZnU (fn.results.toList.map λx=>(DU P s x).v)).give s.m
def Zwx (P:Program) (fn:Func) (r:PV):Exit->St->Prop
 | .normal,s=>Zqp P fn r s
 | .ret,s=>Zqp P fn r s
 |_,_=>False
section
variable {P:Program} {B:Frm} {S:Stable} {M:Maps} {s:St} {a:Act} {w:World}
theorem VO:∀(args:List PV) (k i:Nat),k<=i->VN k args i=args.getD (i-k) (.tup [])
 | [],k,i,_=>by simp[VN]
 |p::ps,k,i,h=>by
  unfold VN;by_cases e:k=i;subst e;rw[Za];simp;rw[Zk _ _ e,VO ps (k+1) i (by omega)];have:i-k=(i-(k+1))+1:=by omega
  rw[this];simp
def ZfC (tmps:Array Value):ResultVar->Sem Value
 | .tmp t=>Pure.pure (tmps.getD t undef)
 | .cell b t=>do loadVar t (<-asAddr (tmps.getD b undef))
theorem ZmG (hs:Sim B S M s a w) (x:ResultVar) (hok:(DU P s x).ok):∃v,(ZfC a.tmps x).run P w= .ok v w/\RepS S M s.m.q v (DU P s x).v:=by
 cases x with
 |tmp t=>exact⟨_,rfl,hs.fr t⟩
 |cell t ty=>
  unfold DU at hok ⊢;simp only at hok ⊢;split at hok;rename_i hk;rw[if_pos hk];have hr:=hs.fr t;have hp:∃ad,a.tmps.getD t undef= .pointer (some ad):=by
   unfold Un at hok;split at hok;rename_i cs hx;rw[hx]at hr;obtain⟨b,o,vals,e,_⟩:=hr.rptr_inv;exact⟨_,e⟩;rename_i id off hx;rw[hx]at hr;exact⟨_,hr.ptr_inv⟩;rename_i id n sz i off hx;rw[hx]at hr;obtain⟨⟨b,o,e⟩,_⟩:=hr.vptr_inv;exact⟨_,e⟩;exact hok.elim
  obtain⟨ad,had⟩:=hp;obtain⟨v,h1,h2,_⟩:=Zin hs hr (by intro h;simp[tkn,h]at hk) hok;refine⟨v,?_,?_⟩;rw[had]at h1;simp only[KQ,Instr.sureAddr,Ji,JC,Jc]at h1;simp only[ZfC,had,asAddr,Ji,JC,Jc];exact h1;exact h2;exact hok.elim
theorem Vr (hs:Sim B S M s a w) {fn:Func} (hok:Za7 (fn.results.toList.map (DU P s))):
  ∃v,(results fn a.tmps).run P w= .ok v w/\RepS S M s.m.q v (ZnU (fn.results.toList.map λx=>(DU P s x).v)):=by
 have key:∀(l:List ResultVar),Za7 (l.map (DU P s))-> ∃vs:List Value,(l.mapM (ZfC a.tmps)).run P w= .ok vs w/\RepL S M s.m.q vs (l.map λx=>(DU P s x).v):=by
  intro l;induction l with
  |nil=>intro _;exact⟨[],by simp,rfl,λi hi=>by simp at hi⟩
  |cons x l ih=>
   intro h;obtain⟨v,e1,e2⟩:=ZmG hs x h.1;obtain⟨vs,e3,e4,e5⟩:=ih h.2;refine⟨v::vs,?_,by simp[e4],λi hi=> ?_⟩;rw[List.mapM_cons];simp only[Ji,e1,e3,Jc,JC];cases i with
   |zero=>exact e2
   |succ i=>simpa using e5 i (by simpa using hi)
 obtain⟨vs,h1,h2⟩:=key fn.results.toList hok;have hm:(fn.results.mapM (ZfC a.tmps)).run P w= .ok ⟨vs⟩ w:=by
  rw[Array.mapM_eq_mapM_toList];simp only[Sem.run_map,h1,Jc]
 have hres:(results fn a.tmps).run P w= .ok (if h:(⟨vs⟩:Array Value).size=1 then(⟨vs⟩:Array Value)[0]else .tuple ⟨vs⟩) w:=by
  have e:results fn a.tmps=(do
    let vs <-fn.results.mapM (ZfC a.tmps)
    Pure.pure (if h:vs.size=1 then vs[0]else .tuple vs)):=rfl
  rw[e];simp only[Ji,hm,Jc,JC]
 refine⟨_,hres,?_⟩;generalize (fn.results.toList.map λx=>(DU P s x).v)=ps at h2;obtain⟨hl,hr⟩:=h2;match vs,ps,hl,hr with
 | [v],[p],_,hr=>exact hr 0 (by simp)
 | [],[],_,_=>exact .tup [] [] rfl (λi hi=>by simp at hi)
 |v::v'::vs,p::p'::ps,hl,hr=>exact .tup _ _ hl hr
theorem Pure.intro {f:FuncId} {fn:Func} {c:Code} {args:List PV} {r:PV} (hf:P.funcs[f]? = some fn) (hname:fn.name≠ "runtime.NumGoroutine") (hb:fn.body=some c) (hn:args.length<=fn.ntmps) (hi:r.dids= [])
  (h:awp P c (Zwx P fn r) (St.init args fn.ntmps)):Pure P f args r:=by
 refine⟨⟨fn,hf,hname,by rw[hb];rfl⟩,hi,λw S vs hst hyo hl hr=> ?_⟩;refine calls_of_wp hf hb ?_;have hs:Sim (λk=>k<w.heap.size) S ⟨id,id,id⟩ (St.init args fn.ntmps) { tmps:=⟨vs⟩++JP (fn.ntmps-vs.length) undef,defers:= [] } w:=by
  have rep:∀i,Rep S (((⟨vs⟩:Array Value)++JP (fn.ntmps-vs.length) undef).getD i undef) (VN 0 args i):=λi=>by
   rw[VO args 0 i (Nat.zero_le _),Kj];by_cases hi:i<args.length;have:=hr i hi;rw[getD_lt hi]at this ⊢;rw[getD_lt (by omega)]at this;have e:((⟨vs⟩:Array Value)++JP (fn.ntmps-vs.length) undef).getD i undef=vs[i]'(by omega):=by
    rw[JS,Array.getElem?_append_left (by simp;omega)];simp[show i<vs.length by omega]
   rw[e];exact this;rw[VJ (by omega)];have e:((⟨vs⟩:Array Value)++JP (fn.ntmps-vs.length) undef).getD i undef=undef:=by
    rw[JS,Array.getElem?_append_right (by simp;omega)];simp only[Array.getElem?_replicate];split<;>rfl
   rw[e];exact .tup [] [] rfl (λi hi=>by simp at hi)
  refine⟨rfl,?_,λ_ h=>h,⟨hst,λb c hc=>by simp[St.init,Hp.empty]at hc,λb x hx=>by simp[St.init,Hp.empty]at hx⟩,λi=> .clean (rep i),λi id hid=>absurd hid ((rep i).clean_ids id),λid cs hid=> ?_,λid r hid=> ?_,λid id' cs cs' hid=> ?_,λid id' r r' hid=> ?_,λid id' cs r hid=> ?_,λb c hid=> ?_,λi es hid=> ?_,⟨λ_ _ h=>by simp[St.init,Hp.empty]at h,λ_ _ _ _ h=>by simp[St.init,Hp.empty]at h⟩,λb hb=>hyo b (Nat.le_of_not_lt hb)⟩;simp[St.init];omega;simp[St.init,Hp.empty]at hid;simp[St.init,Hp.empty]at hid;simp[St.init,Hp.empty]at hid;simp[St.init,Hp.empty]at hid;simp[St.init,Hp.empty]at hid;simp[St.init,Hp.empty]at hid;simp[St.init,Hp.empty]at hid
 have hw:=h (λk=>k<w.heap.size) S _ _ w hs;have hsz:(⟨vs⟩:Array Value).size=vs.length:=by simp
 rw[hsz];refine wp_mono hw λe a' w' hq=> ?_
 obtain⟨s',S',M',h1,h2,h3⟩:=hq;have fin:Zqp P fn r s'->a'.defers= []/\ ∃v,(results fn a'.tmps).run P w'= .ok v w'/\ ∃v' S',Ending.returned v= .returned v'/\Rep S' v' r/\StabS S' w'/\SLe S S'/\(∀b,b<w.heap.size->(∀o,S' b o=S b o)/\S'.m b=S.m b)/\Below w.heap.size w w':=by
  rintro ⟨g1,g2,rfl⟩;obtain⟨v,hv,hrv⟩:=Vr h2 g1;exact⟨h2.defers,v,hv,v,S',rfl,hrv.give h2 g2,h2.stable.s,h3.1,h3.2.1,h3.2.2.to⟩
 cases e with
 |normal=>exact fin h1
 |ret=>exact fin h1
 |_=>exact h1.elim
end
end Go.PL
namespace Go.PL
open Go.RowKit
structure MemL where
 H:List (Nat×List PV)
 R:List (Nat×Row)
 V:List (Nat×List PV)
def MemL.hp (m:MemL):Hp:=
 { h:=Yz (m.H.map λx=>(x.1,some x.2)) λ_=>none,z:=λ_=>false,q:=Yz (m.R.map λx=>(x.1,some x.2)) λ_=>none,o:=λ_=>none,it:=λ_=>none,om:=λ_=>none,v:=Yz (m.V.map λx=>(x.1,some x.2)) λ_=>none,ph:=λ_=>none,pq:=λ_=>none,vm:=λ_=>false }
def MemL.has (m:MemL):Ref->Prop
 | .b i=>∃y∈m.H,y.1=i
 | .r i=>∃y∈m.R,y.1=i
structure MemL.Ok (m:MemL):Prop where
 nh:(m.H.map (·.1)).Nodup
 nr:(m.R.map (·.1)).Nodup
 nv:(m.V.map (·.1)).Nodup
 vr:∀x∈m.V,∃y∈m.R,y.1=x.1
 ch:∀x∈m.H,∀c∈x.2,∀i∈c.ids,m.has i
 cv:∀x∈m.V,∀c∈x.2,∀i∈c.ids,m.has i
def Zn9:Act:= { tmps:= #[],defers:= [] }
def Zsf (m:Hp):St:=⟨λ_=> .any,m,0⟩
structure Eff (P:Program) (f:FuncId) (args:List PV) (m0:MemL) (r:PV) (m1:MemL):Prop where
 cal:VZ P f
 ok0:m0.Ok
 ok1:m1.Ok
 ca:∀p∈args,∀i∈p.ids,m0.has i
 cr:∀i∈r.ids,m1.has i
 kh:∀i,m0.has i->m1.has i
 run:∀(B:Frm) (S:Stable) (M:Maps) (w:World) (vs:List Value),Sim B S M (Zsf m0.hp) Zn9 w->vs.length=args.length->(∀i,i<args.length->RepS S M m0.hp.q (vs.getD i undef) (args.getD i .any))->
  Calls P f ⟨vs⟩ w λen w'=>∃v S' M',en= .returned v/\RepS S' M' m1.hp.q v r/\Sim B S' M' (Zsf m1.hp) Zn9 w'/\Ext B S S' w w'/\(∀x∈m0.H,M'.φ x.1=M.φ x.1)/\ ∀x∈m0.R,RowLe M M' x.1 (m0.hp.q x.1) (m1.hp.q x.1)
theorem VW {α:Type} {L:List (Nat×α)} {f:Nat->Option α} {i:Nat} {y:α} (h:Yz (L.map λx=>(x.1,some x.2)) f i=some y):(i,y)∈L\/f i=some y:=by
 induction L with
 |nil=>exact .inr h
 |cons x L ih=>
  have h':upd (Yz (L.map λx=>(x.1,some x.2)) f) x.1 (some x.2) i=some y:=h;by_cases e:x.1=i;rw[e,Za]at h';cases h';exact .inl (by subst e;simp);rw[Zk _ _ e]at h';exact(ih h').imp (λh=>List.mem_cons_of_mem _ h) id
theorem Dz {α β:Type} {L:List (Nat×α)} {k:Nat->Nat} {F:Nat×α->β} {f:Nat->β} {x:Nat×α} (hx:x∈L) (hn:(L.map (·.1)).Nodup) (hk:∀y∈L,∀z∈L,k y.1=k z.1->y.1=z.1):Yz (L.map λx=>(k x.1,F x)) f (k x.1)=F x:=by
 induction L with
 |nil=>cases hx
 |cons y L ih=>
  show upd (Yz (L.map λx=>(k x.1,F x)) f) (k y.1) (F y) (k x.1)=F x;simp only[JX,List.nodup_cons]at hn;rcases JM.1 hx with rfl|hx';rw[Za];have hne:y.1≠x.1:=λe=>hn.1 (Jf.2 ⟨x,hx',e.symm⟩)
  rw[Zk _ _ λe=>hne (hk y (by simp) x (by simp[hx']) e)];exact ih hx' hn.2 (λa ha b hb=>hk a (by simp[ha]) b (by simp[hb]))
theorem Fr {α β:Type} {L:List (Nat×α)} {k:Nat->Nat} {F:Nat×α->β} {f:Nat->β} {i:Nat} (h:∀x∈L,k x.1≠i):Yz (L.map λx=>(k x.1,F x)) f i=f i:=by
 induction L with
 |nil=>rfl
 |cons y L ih=>
  show upd (Yz (L.map λx=>(k x.1,F x)) f) (k y.1) (F y) i=f i;rw[Zk _ _ (h y (by simp))];exact ih λx hx=>h x (by simp[hx])
section
variable {m:MemL}
theorem MemL.h_mem {i:Nat} {cs:List PV} (h:m.hp.h i=some cs):(i,cs)∈m.H:=(VW h).resolve_right (by simp)
theorem MemL.q_mem {i:Nat} {r:Row} (h:m.hp.q i=some r):(i,r)∈m.R:=(VW h).resolve_right (by simp)
theorem MemL.v_mem {i:Nat} {es:List PV} (h:m.hp.v i=some es):(i,es)∈m.V:=(VW h).resolve_right (by simp)
theorem MemL.Ok.h_at (ok:m.Ok) {x:Nat×List PV} (hx:x∈m.H):m.hp.h x.1=some x.2:=Dz (k:=λi=>i) (F:=λx=>some x.2) hx ok.nh (λ_ _ _ _ h=>h)
theorem MemL.Ok.q_at (ok:m.Ok) {x:Nat×Row} (hx:x∈m.R):m.hp.q x.1=some x.2:=Dz (k:=λi=>i) (F:=λx=>some x.2) hx ok.nr (λ_ _ _ _ h=>h)
theorem MemL.Ok.live (ok:m.Ok) {i:Ref} (h:m.has i):ZX m.hp i:=by
 cases i with
 |b i=>obtain⟨y,hy,rfl⟩:=h;show m.hp.h y.1≠none;rw[ok.h_at hy];simp
 |r i=>obtain⟨y,hy,rfl⟩:=h;show m.hp.q y.1≠none;rw[ok.q_at hy];simp
theorem MemL.has_of {i:Ref} (h:ZX m.hp i):m.has i:=by
 cases i with
 |b i=>cases e:m.hp.h i with
  |none=>exact absurd e h
  |some cs=>exact⟨_,MemL.h_mem e,rfl⟩
 |r i=>cases e:m.hp.q i with
  |none=>exact absurd e h
  |some cs=>exact⟨_,MemL.q_mem e,rfl⟩
end
def ZkG (m1:MemL) (f g:Nat->Nat) (m:Hp):Hp:=
 { m with h:=Yz (m1.H.map λx=>(g x.1,some (x.2.map (PV.ren f g)))) m.h,z:=Yz (m1.H.map λx=>(g x.1,false)) m.z,q:=Yz (m1.R.map λx=>(f x.1,some x.2)) m.q,v:=Yz (m1.R.map λx=>(f x.1,(m1.hp.v x.1).map (KK (PV.ren f g)))) m.v }
structure FitsM (m0 m1:MemL) (f g:Nat->Nat) (m:Hp):Prop where
 h:∀x∈m0.H,m.h (g x.1)=some (x.2.map (PV.ren f g))/\m.z (g x.1)=false
 q:∀x∈m0.R,m.q (f x.1)=some x.2
 v:∀x∈m0.V,m.v (f x.1)=some (x.2.map (PV.ren f g))
 nh:∀x∈m1.H,(∃y∈m0.H,y.1=x.1)\/m.h (g x.1)=none
 nr:∀x∈m1.R,(∃y∈m0.R,y.1=x.1)\/m.q (f x.1)=none
 ig:∀x∈m1.H,∀y∈m1.H,g x.1=g y.1->x.1=y.1
 jf:∀x∈m1.R,∀y∈m1.R,f x.1=f y.1->x.1=y.1
section
variable {P:Program} {B:Frm} {S:Stable} {M:Maps} {s:St} {a:Act} {w:World} {fn:FuncId} {args:List PV} {m0 m1:MemL} {r:PV} {f g:Nat->Nat}
def ZoD (B:Frm) (M:Maps) (m:Hp) (m0:MemL) (f g:Nat->Nat):Frm:=λk=>
 B k\/(∃id cs,m.h id=some cs/\m.z id=false/\(∀x∈m0.H,g x.1≠id)/\M.φ id=k)\/(∃id r,m.q id=some r/\r.own=true/\0<M.κ id/\(∀x∈m0.R,f x.1≠id)/\M.ψ id=k)\/(∃c,m.o k=some c)\/(∃x,m.it k=some x)\/ ∃c,m.om k=some c
theorem Sim.small (hs:Sim B S M s a w) (ok:m0.Ok) (hf:FitsM m0 m1 f g s.m) (ig:∀x∈m0.H,∀y∈m0.H,g x.1=g y.1->x.1=y.1) (jf:∀x∈m0.R,∀y∈m0.R,f x.1=f y.1->x.1=y.1):
  Sim (ZoD B M s.m m0 f g) S ⟨λi=>M.φ (g i),λi=>M.ψ (f i),λi=>M.κ (f i)⟩ (Zsf m0.hp) Zn9 w:=by
 have hq:∀ {i r},m0.hp.q i=some r->s.m.q (f i)=some r:=λh=>hf.q _ (MemL.q_mem h)
 have un:∀ {v p},RepS S M s.m.q v (p.ren f g)->(∀i∈p.ids,m0.has i)->RepS S ⟨λi=>M.φ (g i),λi=>M.ψ (f i),λi=>M.κ (f i)⟩ m0.hp.q v p:=λrr hids=>
  rr.unren _ rfl (λi _=>rfl) λi hi=>⟨by obtain⟨y,hy,rfl⟩:=hids _ hi;rw[hf.q y hy,ok.q_at hy],rfl,rfl⟩
 have cell_nomap:∀ {k vs t fz},w.heap[k]? = some (.cells vs t fz)-> ¬((∃c,s.m.o k=some c)\/(∃x,s.m.it k=some x)\/ ∃c,s.m.om k=some c):=λ{k vs t fz} h0 h=>by
  rcases h with ⟨c,hc⟩|⟨x,hx⟩|⟨c,hc⟩;obtain⟨_,_,es,h1,_⟩:=hs.stable.o k c hc;rw[h0]at h1;cases h1;have h1:=(hs.stable.i k x hx).2.1;unfold IterAt at h1;rw[h0]at h1;cases h1;obtain⟨_,_,_,⟨es,h1,_⟩,_⟩:=hs.rm k c hc;rw[h0]at h1;cases h1
 have nb:∀ {id cs},m0.hp.h id=some cs-> ¬ZoD B M s.m m0 f g (M.φ (g id)):=λ{id cs} h hB=>by
  have hx:=MemL.h_mem h;obtain⟨k1,k2⟩:=hf.h _ hx;obtain⟨g1,g2,⟨vs,t,g3,_⟩,_⟩:=hs.own k1 k2;rcases hB with hB|⟨id',cs',e1,e2,e3,e4⟩|⟨id',r',e1,e2,e3,e4,e5⟩|hB;exact g1 hB;exact hs.inj id' (g id) _ _ e1 k1 e2 k2 (λe=>e3 _ hx e.symm) e4;exact hs.injx (g id) id' _ _ k1 k2 e1 e2 e3 e5.symm;exact cell_nomap g3 hB
 have nr:∀ {id r},m0.hp.q id=some r->r.own=true->0<M.κ (f id)-> ¬ZoD B M s.m m0 f g (M.ψ (f id)):=λ{id r} h ho hk hB=>by
  have hx:=MemL.q_mem h;have k1:=hq h;have hrow:=hs.row _ _ k1;obtain⟨c,hc⟩:∃c,M.κ (f id)=c+1:=⟨M.κ (f id)-1,by omega⟩;have hcell:∃vs e,w.heap[M.ψ (f id)]? = some (.cells ⟨vs⟩ e (0,0))/\ ¬B (M.ψ (f id)):=by
   cases r with
   |dead=>cases ho
   |live n sz e=>obtain⟨_,h2⟩:=hrow;obtain⟨_,_,g1,⟨vs,g2,_⟩,_⟩:=h2 c hc;exact⟨vs,e,g2,g1⟩
   |vec n sz e=>obtain⟨_,h2⟩:=hrow;obtain⟨_,_,g1,⟨vs,g2,_⟩,_⟩:=h2 c hc;exact⟨vs,e,g2,g1⟩
  obtain⟨vs,e,g3,g1⟩:=hcell;rcases hB with hB|⟨id',cs',e1,e2,e3,e4⟩|⟨id',r',e1,e2,e3,e4,e5⟩|hB;exact g1 hB;exact hs.injx id' (f id) _ _ e1 e2 k1 ho hk e4;exact hs.injq id' (f id) _ _ e1 k1 e2 ho e3 hk (λe=>e4 _ hx e.symm) e5;exact cell_nomap g3 hB
 refine⟨rfl,rfl,λk hB=> ?_,⟨hs.stable.s,λb c hc=>(by cases hc),λb x hx=>(by cases hx)⟩,λi=> .clean (.any _),λi id h=>(by simp[Zsf,Jb]at h),λid cs h=> ?_,λid r h=> ?_,λid id' cs cs' h h' _ _ hne=> ?_,λid id' r r' h h' o o' k k' hne=> ?_,λid id' cs r h _ h' o k=> ?_,λb c hc=>(by cases hc),λid es h=> ?_,⟨λ_ _ h=>(by cases h),λ_ _ _ _ h=>(by cases h)⟩,λk hk=>hs.hz k λh=>hk (.inl h)⟩;rcases hB with hB|⟨id',cs',e1,e2,e3,e4⟩|⟨id',r',e1,e2,e3,e4,e5⟩|⟨c,hc⟩|⟨x,hx⟩|⟨c,hc⟩;exact hs.hB k hB;rw[<-e4];exact hs.blk_lt e1 e2;rw[<-e5];exact hs.row_lt e1 e2 e3;exact(hs.stable.o k c hc).2.2.lt;exact(hs.stable.i k x hx).2.1.lt;exact(hs.rm k c hc).2.2.2.lt;have hx:=MemL.h_mem h;obtain⟨k1,k2⟩:=hf.h _ hx;obtain⟨g1,g2,⟨vs,t,g3,g4,g5⟩,g6⟩:=hs.own k1 k2;have hcl:∀c∈cs,∀i∈c.ids,m0.has i:=ok.ch _ hx;refine⟨nb h,g2,⟨vs,t,g3,by simpa using g4,λj hj=>un ?_ (hcl _ (Ze hj))⟩,λc hc i hi=>ok.live (hcl c hc i hi)⟩;have:=g5 j (by simpa using hj);rw[getD_lt (l:=cs.map _) (by simpa using hj),Jo]at this;rw[getD_lt hj];exact this;have k1:=hq h;have hrow:=hs.row _ _ k1;cases r with
 |dead=>trivial
 |live n sz e=>
  obtain⟨h1,h2⟩:=hrow;refine⟨h1,λc hc=> ?_⟩;obtain⟨g1,g2,g3,g4,g5⟩:=h2 c hc;exact⟨g1,g2,nr h rfl (by show 0<M.κ (f id);have:M.κ (f id)=c+1:=hc;omega),g4,g5⟩
 |vec n sz e=>
  obtain⟨h1,h2⟩:=hrow;refine⟨h1,λc hc=> ?_⟩;obtain⟨g1,g2,g3,g4,g5⟩:=h2 c hc;exact⟨g1,g2,nr h rfl (by show 0<M.κ (f id);have:M.κ (f id)=c+1:=hc;omega),g4,g5⟩
 have hx:=MemL.h_mem h;have hx':=MemL.h_mem h';obtain⟨k1,k2⟩:=hf.h _ hx;obtain⟨k3,k4⟩:=hf.h _ hx';exact hs.inj _ _ _ _ k1 k3 k2 k4 λe=>hne (ig _ hx _ hx' e)
 have hx:=MemL.q_mem h;have hx':=MemL.q_mem h';exact hs.injq _ _ _ _ (hq h) (hq h') o o' k k' λe=>hne (jf _ hx _ hx' e)
 obtain⟨k1,k2⟩:=hf.h _ (MemL.h_mem h);exact hs.injx _ _ _ _ k1 k2 (hq h') o k;have hx:=MemL.v_mem h;obtain⟨sz,e,q1,r1,r2,r4⟩:=hs.vc _ _ (hf.v _ hx);obtain⟨y,hy,hyx⟩:=ok.vr _ hx;have hyx':y.1=id:=hyx;have hqy:=hf.q y hy;rw[hyx']at hqy;rw[hqy,Jl]at q1;have hy2:y.2= .vec es.length sz e:=by simpa using q1
 have hcl:∀c∈es,∀i∈c.ids,m0.has i:=ok.cv _ hx;refine⟨sz,e,?_,λp hp=> ?_,λp hp i hi=>ok.live (hcl p hp i hi),λc hc vs t fz hvs i j hi hj=> ?_⟩;have:=ok.q_at hy;rw[hyx',hy2]at this;exact this;have:=r1 (p.ren f g) (Jf.2 ⟨p,hp,rfl⟩);rw[TI]at this;refine⟨by simpa using this.1,?_⟩;have h2:=this.2;rw[KT]at h2;rw[JA]at h2 ⊢;intro x hx;have:=h2 x hx;simpa[Ziw]using this;have hg:=r4 c hc vs t fz hvs i j (by simpa using hi) hj;rw[getD_lt (l:=es.map _) (by simpa using hi),Jo,TI]at hg;have hlen:=(r1 ((es.getD i .any).ren f g) (Jf.2 ⟨_,Ze hi,rfl⟩)).1;rw[TI,Jl]at hlen;rw[getD_lt hi]at hlen ⊢;have hjl:j<es[i].cells.length:=by omega
 rw[getD_lt (l:=es[i].cells.map _) (by simpa using hjl),Jo]at hg;rw[getD_lt (l:=es[i].cells) hjl];exact un hg λk hk=>hcl _ (Ju hi) k (YB (Ju _) hk)
open Classical in
noncomputable def effM (M M1:Maps) (m1:MemL) (f g:Nat->Nat):Maps where
 φ:=λid=>if h:∃x∈m1.H,g x.1=id then M1.φ h.choose.1 else M.φ id
 ψ:=λid=>if h:∃x∈m1.R,f x.1=id then M1.ψ h.choose.1 else M.ψ id
 κ:=λid=>if h:∃x∈m1.R,f x.1=id then M1.κ h.choose.1 else M.κ id
theorem effM_φ {M M1:Maps} {x:Nat×List PV} (hx:x∈m1.H) (ig:∀x∈m1.H,∀y∈m1.H,g x.1=g y.1->x.1=y.1):(effM M M1 m1 f g).φ (g x.1)=M1.φ x.1:=by
 have h:∃y∈m1.H,g y.1=g x.1:=⟨x,hx,rfl⟩;show(if h:∃y∈m1.H,g y.1=g x.1 then M1.φ h.choose.1 else M.φ (g x.1))=_;rw[dif_pos h,ig _ h.choose_spec.1 _ hx h.choose_spec.2]
theorem effM_φn {M M1:Maps} {id:Nat} (h:¬ ∃x∈m1.H,g x.1=id):(effM M M1 m1 f g).φ id=M.φ id:=dif_neg h
theorem effM_ψ {M M1:Maps} {x:Nat×Row} (hx:x∈m1.R) (jf:∀x∈m1.R,∀y∈m1.R,f x.1=f y.1->x.1=y.1):(effM M M1 m1 f g).ψ (f x.1)=M1.ψ x.1/\(effM M M1 m1 f g).κ (f x.1)=M1.κ x.1:=by
 have h:∃y∈m1.R,f y.1=f x.1:=⟨x,hx,rfl⟩;constructor;show(if h:∃y∈m1.R,f y.1=f x.1 then M1.ψ h.choose.1 else M.ψ (f x.1))=_;rw[dif_pos h,jf _ h.choose_spec.1 _ hx h.choose_spec.2];show(if h:∃y∈m1.R,f y.1=f x.1 then M1.κ h.choose.1 else M.κ (f x.1))=_;rw[dif_pos h,jf _ h.choose_spec.1 _ hx h.choose_spec.2]
theorem effM_ψn {M M1:Maps} {id:Nat} (h:¬ ∃x∈m1.R,f x.1=id):(effM M M1 m1 f g).ψ id=M.ψ id/\(effM M M1 m1 f g).κ id=M.κ id:=⟨dif_neg h,dif_neg h⟩
theorem Eff.call (hs:Sim B S M s a w) (he:Eff P fn args m0 r m1) (hf:FitsM m0 m1 f g s.m) {vs:List Value} (hl:vs.length=args.length) (hr:∀i,i<args.length->RepS S M s.m.q (vs.getD i undef) ((args.getD i .any).ren f g)):
  Calls P fn ⟨vs⟩ w λen w'=>∃v S' M',en= .returned v/\Sim B S' M' (s.with (ZkG m1 f g s.m)) a w'/\RepS S' M' (ZkG m1 f g s.m).q v (r.ren f g)/\(∀i∈(r.ren f g).ids,ZX (ZkG m1 f g s.m) i)/\Ext B S S' w w':=by
 have h01:∀x∈m0.H,∃y∈m1.H,y.1=x.1:=λx hx=>he.kh (.b x.1) ⟨x,hx,rfl⟩
 have r01:∀x∈m0.R,∃y∈m1.R,y.1=x.1:=λx hx=>he.kh (.r x.1) ⟨x,hx,rfl⟩
 have ig0:∀x∈m0.H,∀y∈m0.H,g x.1=g y.1->x.1=y.1:=λx hx y hy e=>by
  obtain⟨x',hx',ex⟩:=h01 x hx;obtain⟨y',hy',ey⟩:=h01 y hy;rw[<-ex,<-ey]at e ⊢;exact hf.ig _ hx' _ hy' e
 have jf0:∀x∈m0.R,∀y∈m0.R,f x.1=f y.1->x.1=y.1:=λx hx y hy e=>by
  obtain⟨x',hx',ex⟩:=r01 x hx;obtain⟨y',hy',ey⟩:=r01 y hy;rw[<-ex,<-ey]at e ⊢;exact hf.jf _ hx' _ hy' e
 have hs0:=hs.small he.ok0 hf ig0 jf0;refine(he.run _ S _ w vs hs0 hl λi hi=> ?_).mono λen w' ⟨v,S',M1,e1,e2,hs1,hext,e5,e6⟩=> ?_
 refine(hr i hi).unren _ rfl (λk _=>rfl) λk hk=>⟨?_,rfl,rfl⟩
 obtain⟨y,hy,rfl⟩:=he.ca _ (Ze hi) _ hk;rw[hf.q y hy,he.ok0.q_at hy];obtain⟨hle,hag,hbel⟩:=hext;let M':=effM M M1 m1 f g;let m':=ZkG m1 f g s.m;have lh:∀x∈m1.H,m'.h (g x.1)=some (x.2.map (PV.ren f g))/\m'.z (g x.1)=false:=λx hx=>
  ⟨Dz (α:=List PV) (β:=Option (List PV)) (k:=g) (F:=λx=>some (x.2.map (PV.ren f g))) hx he.ok1.nh hf.ig,Dz (α:=List PV) (β:=Bool) (k:=g) (F:=λ_=>false) hx he.ok1.nh hf.ig⟩
 have lhn:∀ {id},(¬ ∃x∈m1.H,g x.1=id)->m'.h id=s.m.h id/\m'.z id=s.m.z id:=λ{id} h=>
  ⟨Fr (α:=List PV) (β:=Option (List PV)) (k:=g) (F:=λx=>some (x.2.map (PV.ren f g))) λx hx e=>h ⟨x,hx,e⟩,Fr (α:=List PV) (β:=Bool) (k:=g) (F:=λ_=>false) λx hx e=>h ⟨x,hx,e⟩⟩
 have lq:∀x∈m1.R,m'.q (f x.1)=some x.2/\m'.v (f x.1)=(m1.hp.v x.1).map (KK (PV.ren f g)):=λx hx=>
  ⟨Dz (α:=Row) (β:=Option Row) (k:=f) (F:=λx=>some x.2) hx he.ok1.nr hf.jf,Dz (α:=Row) (β:=Option (List PV)) (k:=f) (F:=λx=>(m1.hp.v x.1).map (KK (PV.ren f g))) hx he.ok1.nr hf.jf⟩
 have lqn:∀ {id},(¬ ∃x∈m1.R,f x.1=id)->m'.q id=s.m.q id/\m'.v id=s.m.v id:=λ{id} h=>
  ⟨Fr (α:=Row) (β:=Option Row) (k:=f) (F:=λx=>some x.2) λx hx e=>h ⟨x,hx,e⟩,Fr (α:=Row) (β:=Option (List PV)) (k:=f) (F:=λx=>(m1.hp.v x.1).map (KK (PV.ren f g))) λx hx e=>h ⟨x,hx,e⟩⟩
 have live_old:∀i,ZX s.m i->ZX m' i:=λi hi=>by
  cases i with
  |b i=>
   show m'.h i≠none;by_cases h:∃x∈m1.H,g x.1=i;obtain⟨x,hx,rfl⟩:=h;rw[(lh x hx).1];simp;rw[(lhn h).1];exact hi
  |r i=>
   show m'.q i≠none;by_cases h:∃x∈m1.R,f x.1=i;obtain⟨x,hx,rfl⟩:=h;rw[(lq x hx).1];simp;rw[(lqn h).1];exact hi
 have Gx:∀i,m1.has i->ZX m' (i.ren f g):=λi hi=>by
  cases i with
  |b i=>obtain⟨y,hy,rfl⟩:=hi;show m'.h (g y.1)≠none;rw[(lh y hy).1];simp
  |r i=>obtain⟨y,hy,rfl⟩:=hi;show m'.q (f y.1)≠none;rw[(lq y hy).1];simp
 have φ_old:∀id,s.m.h id≠none->M'.φ id=M.φ id:=λid hid=>by
  by_cases h:∃x∈m1.H,g x.1=id;obtain⟨x,hx,rfl⟩:=h;refine(effM_φ hx hf.ig).trans ?_;rcases hf.nh x hx with ⟨y,hy,e⟩|h0;have:=e5 y hy;rw[e]at this;exact this;exact absurd h0 hid;exact effM_φn h
 have row_old:∀id,s.m.q id≠none->RowLe M M' id (s.m.q id) (m'.q id):=λid hid=>by
  by_cases h:∃x∈m1.R,f x.1=id;obtain⟨x,hx,rfl⟩:=h;rcases hf.nr x hx with ⟨y,hy,e⟩|h0;have h6:=e6 y hy;rw[e]at h6;have hqy:=hf.q y hy;have h0q:=he.ok0.q_at hy;rw[e]at hqy h0q;rw[(lq x hx).1,hqy];rw[he.ok1.q_at hx,h0q]at h6;obtain⟨k1,k2⟩:=effM_ψ (M:=M) (M1:=M1) hx hf.jf;exact⟨λn sz e' h=>(h6.l n sz e' h).imp (λ⟨a1,a2,a3⟩=>⟨a1,k2.trans a2,k1.trans a3⟩) id,λn sz e' h=>(h6.v n sz e' h).imp (λ⟨e0,a1,a2,a3⟩=>⟨e0,a1,k2.trans a2,k1.trans a3⟩) id⟩;exact absurd h0 hid;obtain⟨k1,k2⟩:=effM_ψn (M:=M) (M1:=M1) h;exact .of_eq (lqn h).1 k2 k1
 have rep_old:∀v p,RepS S M s.m.q v p->(∀i∈p.ids,ZX s.m i)->RepS S' M' m'.q v p:=λv p rr hids=>
  rr.heap hle (λid hid=>φ_old id (hids _ hid)) (λid hid=>row_old id (hids _ hid))
 have rep_new:∀v p,RepS S' M1 m1.hp.q v p->(∀i∈p.ids,m1.has i)->RepS S' M' m'.q v (p.ren f g):=λv p rr hids=>
  rr.ren (λi hi=>by obtain⟨y,hy,rfl⟩:=hids _ hi;exact effM_φ hy hf.ig) (λi hi=>by
   obtain⟨y,hy,rfl⟩:=hids _ hi;obtain⟨k1,k2⟩:=effM_ψ (M:=M) (M1:=M1) hy hf.jf;exact⟨by rw[(lq y hy).1,he.ok1.q_at hy],k2,k1⟩)
 have inB:∀ {id cs},s.m.h id=some cs->s.m.z id=false->(¬ ∃x∈m1.H,g x.1=id)->ZoD B M s.m m0 f g (M.φ id):=λ{id cs} h1 h2 h=> .inr (.inl ⟨id,cs,h1,h2,λx hx e=>by
  obtain⟨y,hy,ey⟩:=h01 x hx;exact h ⟨y,hy,by rw[ey];exact e⟩,rfl⟩)
 have inR:∀ {id r},s.m.q id=some r->r.own=true->0<M.κ id->(¬ ∃x∈m1.R,f x.1=id)->ZoD B M s.m m0 f g (M.ψ id):=λ{id r} h1 h2 h3 h=> .inr (.inr (.inl ⟨id,r,h1,h2,h3,λx hx e=>by
  obtain⟨y,hy,ey⟩:=r01 x hx;exact h ⟨y,hy,by rw[ey];exact e⟩,rfl⟩))
 have toB:∀ {k},B k->ZoD B M s.m m0 f g k:=λh=> .inl h
 have nbk:∀ {x},x∈m1.H-> ¬ZoD B M s.m m0 f g (M1.φ x.1):=λ{x} hx=>by
  have:=hs1.blk x.1 x.2 (he.ok1.h_at hx);exact this.1
 have nrw:∀ {x:Nat×Row},x∈m1.R->x.2.own=true->0<M1.κ x.1-> ¬ZoD B M s.m m0 f g (M1.ψ x.1):=λ{x} hx ho hk=>by
  have hrow:=hs1.row x.1 x.2 (he.ok1.q_at hx);obtain⟨i,r⟩:=x;cases r with
  |dead=>cases ho
  |live n sz e=>obtain⟨_,h2⟩:=hrow;exact(h2 (M1.κ i-1) (by show M1.κ i=_;simp only at hk;omega)).2.2.1
  |vec n sz e=>obtain⟨_,h2⟩:=hrow;exact(h2 (M1.κ i-1) (by show M1.κ i=_;simp only at hk;omega)).2.2.1
 have hm':∀ {b c},s.m.o b=some c->S'.m b=none:=λ{b c} h=>by rw[(hag b (.inr (.inr (.inr (.inl ⟨c,h⟩))))).2];exact(hs.stable.o b c h).2.1
 refine⟨v,S',M',e1,⟨hs.defers,hs.hn,λk hk=>Kw (hs.hB k hk) hbel.size,?_,λi=>rep_old _ _ (hs.fr i) (hs.ids i),λi k hk=>live_old k (hs.ids i k hk),λid cs h=> ?_,λid r h=> ?_,λid id' cs cs' h h' z z' hne=> ?_,λid id' q1 q2 h h' o o' k k' hne=> ?_,λid id' cs q1 h z h' o k=> ?_,λb c hc=> ?_,λid es h=> ?_,hs.pn.move rfl rfl live_old φ_old row_old,hs.zle hle⟩,rep_new _ _ e2 he.cr,λi hi=> ?_,hle,λb hb=>hag b (toB hb),hbel.mono λk hk=>toB hk⟩;exact hs.stable.move hle (λb c hc=>hm' hc) hs1.stable.s (λb c hc=>hbel.block b (.inr (.inr (.inr (.inl ⟨c,hc⟩))))) (λb x hx=>hbel.block b (.inr (.inr (.inr (.inr (.inl ⟨x,hx⟩))))));have h:m'.h id=some cs:=h;show GX B S' M' m' w' id cs (m'.z id);by_cases hg:∃x∈m1.H,g x.1=id;obtain⟨x,hx,rfl⟩:=hg;rw[(lh x hx).1]at h;cases h;rw[(lh x hx).2];have hb1:=hs1.blk x.1 x.2 (he.ok1.h_at hx);obtain⟨g1,g2,⟨us,t,g3,g4,g5⟩,g6⟩:=hb1;have hφ:M'.φ (g x.1)=M1.φ x.1:=effM_φ hx hf.ig;refine⟨by rw[hφ];exact λhB=>g1 (toB hB),λo=>by rw[hφ];exact g2 o,⟨us,t,by rw[hφ];exact g3,by simpa using g4,λj hj=> ?_⟩,λc hc i hi=> ?_⟩;simp only[Jl]at hj;rw[getD_lt (l:=x.2.map _) (by simpa using hj),Jo];have:=g5 j hj;rw[getD_lt (l:=x.2) hj]at this;exact rep_new _ _ this (he.ok1.ch x hx _ (Ju hj));obtain⟨c0,hc0,rfl⟩:=Jf.1 hc;rw[ZaB]at hi;obtain⟨i0,hi0,rfl⟩:=Jf.1 hi;exact Gx i0 (he.ok1.ch x hx c0 hc0 i0 hi0);rw[(lhn hg).1]at h;rw[(lhn hg).2];have hb:=hs.blk id cs h;have hφ:M'.φ id=M.φ id:=effM_φn hg;cases hz:s.m.z id with
 |true=>
  rw[hz]at hb;obtain⟨vals,hv⟩:=hb;exact⟨vals,λj hj=>⟨by rw[hφ];exact hle _ _ _ (hv j hj).1,(hv j hj).2.mono hle⟩⟩
 |false=>
  rw[hz]at hb;obtain⟨g1,g2,⟨us,t,g3,g4,g5⟩,g6⟩:=hb;have hin:=inB h hz hg;exact⟨by rw[hφ];exact g1,λo=>by rw[hφ,(hag _ hin).1];exact g2 o,⟨us,t,by rw[hφ,hbel.block _ hin];exact g3,g4,λj hj=>rep_old _ _ (g5 j hj) (λk hk=>g6 _ (Ze hj) k hk)⟩,λc hc k hk=>live_old k (g6 c hc k hk)⟩
 have h:m'.q id=some r:=h;by_cases hg:∃x∈m1.R,f x.1=id;obtain⟨x,hx,rfl⟩:=hg;rw[(lq x hx).1]at h;cases h;obtain⟨k1,k2⟩:=effM_ψ (M:=M) (M1:=M1) hx hf.jf;have hrow:=hs1.row x.1 x.2 (he.ok1.q_at hx);obtain⟨i,rw0⟩:=x;cases rw0 with
 |dead=>trivial
 |live n sz e=>
  obtain⟨h1,h2⟩:=hrow;refine⟨λh0=>h1 (by rw[<-k2];exact h0),λc hc=> ?_⟩;obtain⟨g1,g2,g3,g4,g5⟩:=h2 c (by rw[<-k2];exact hc);simp only[M',k1];exact⟨g1,g2,λhB=>g3 (toB hB),g4,g5⟩
 |vec n sz e=>
  obtain⟨h1,h2⟩:=hrow;refine⟨λh0=>h1 (by rw[<-k2];exact h0),λc hc=> ?_⟩;obtain⟨g1,g2,g3,g4,g5⟩:=h2 c (by rw[<-k2];exact hc);simp only[M',k1];exact⟨g1,g2,λhB=>g3 (toB hB),g4,g5⟩
 rw[(lqn hg).1]at h;obtain⟨k1,k2⟩:=effM_ψn (M:=M) (M1:=M1) hg;have hrow:=hs.row id r h;cases r with
 |dead=>trivial
 |live n sz e=>
  obtain⟨h1,h2⟩:=hrow;refine⟨λh0=>h1 (by rw[<-k2];exact h0),λc hc=> ?_⟩;have hc':M.κ id=c+1:=by rw[<-k2];exact hc
  obtain⟨g1,g2,g3,g4,g5⟩:=h2 c hc';have hin:=inR h rfl (by omega) hg;simp only[M',k1,hbel.block _ hin];exact⟨g1,g2,g3,g4,λo ho=>by rw[(hag _ hin).1];exact g5 o ho⟩
 |vec n sz e=>
  obtain⟨h1,h2⟩:=hrow;refine⟨λh0=>h1 (by rw[<-k2];exact h0),λc hc=> ?_⟩;have hc':M.κ id=c+1:=by rw[<-k2];exact hc
  obtain⟨g1,g2,g3,g4,g5⟩:=h2 c hc';have hin:=inR h rfl (by omega) hg;simp only[M',k1,hbel.block _ hin];exact⟨g1,g2,g3,g4,λo=>by rw[(hag _ hin).1];exact g5 o⟩
 have h:m'.h id=some cs:=h;have h':m'.h id'=some cs':=h';have z:m'.z id=false:=z;have z':m'.z id'=false:=z';by_cases hg:∃x∈m1.H,g x.1=id;obtain⟨x,hx,rfl⟩:=hg;have hφ:M'.φ (g x.1)=M1.φ x.1:=effM_φ hx hf.ig;by_cases hg':∃x∈m1.H,g x.1=id';obtain⟨y,hy,rfl⟩:=hg';have hφ':M'.φ (g y.1)=M1.φ y.1:=effM_φ hy hf.ig;rw[hφ,hφ'];exact hs1.inj _ _ _ _ (he.ok1.h_at hx) (he.ok1.h_at hy) rfl rfl λe=>hne (by rw[e])
 rw[(lhn hg').1]at h';rw[(lhn hg').2]at z';have hφ':M'.φ id'=M.φ id':=effM_φn hg';rw[hφ,hφ'];exact λe=>nbk hx (by rw[e];exact inB h' z' hg')
 rw[(lhn hg).1]at h;rw[(lhn hg).2]at z;have hφ:M'.φ id=M.φ id:=effM_φn hg;by_cases hg':∃x∈m1.H,g x.1=id';obtain⟨y,hy,rfl⟩:=hg';have hφ':M'.φ (g y.1)=M1.φ y.1:=effM_φ hy hf.ig;rw[hφ,hφ'];exact λe=>nbk hy (by rw[<-e];exact inB h z hg)
 rw[(lhn hg').1]at h';rw[(lhn hg').2]at z';have hφ':M'.φ id'=M.φ id':=effM_φn hg';rw[hφ,hφ'];exact hs.inj _ _ _ _ h h' z z' hne;have h:m'.q id=some q1:=h;have h':m'.q id'=some q2:=h';by_cases hg:∃x∈m1.R,f x.1=id;obtain⟨x,hx,rfl⟩:=hg;rw[(lq x hx).1]at h;cases h;obtain⟨k1,k2⟩:=effM_ψ (M:=M) (M1:=M1) hx hf.jf;have k:0<M1.κ x.1:=by rw[<-k2];exact k
 by_cases hg':∃x∈m1.R,f x.1=id';obtain⟨y,hy,rfl⟩:=hg';rw[(lq y hy).1]at h';cases h';obtain⟨k3,k4⟩:=effM_ψ (M:=M) (M1:=M1) hy hf.jf;have k':0<M1.κ y.1:=by rw[<-k4];exact k'
 simp only[M',k1,k3];exact hs1.injq _ _ _ _ (he.ok1.q_at hx) (he.ok1.q_at hy) o o' k k' λe=>hne (by rw[e])
 rw[(lqn hg').1]at h';obtain⟨k3,k4⟩:=effM_ψn (M:=M) (M1:=M1) hg';have k':0<M.κ id':=by rw[<-k4];exact k'
 simp only[M',k1,k3];exact λe=>nrw hx o k (by rw[e];exact inR h' o' k' hg')
 rw[(lqn hg).1]at h;obtain⟨k1,k2⟩:=effM_ψn (M:=M) (M1:=M1) hg;have k:0<M.κ id:=by rw[<-k2];exact k
 by_cases hg':∃x∈m1.R,f x.1=id';obtain⟨y,hy,rfl⟩:=hg';rw[(lq y hy).1]at h';cases h';obtain⟨k3,k4⟩:=effM_ψ (M:=M) (M1:=M1) hy hf.jf;have k':0<M1.κ y.1:=by rw[<-k4];exact k'
 simp only[M',k1,k3];exact λe=>nrw hy o' k' (by rw[<-e];exact inR h o k hg)
 rw[(lqn hg').1]at h';obtain⟨k3,k4⟩:=effM_ψn (M:=M) (M1:=M1) hg';have k':0<M.κ id':=by rw[<-k4];exact k'
 simp only[M',k1,k3];exact hs.injq _ _ _ _ h h' o o' k k' hne;have h:m'.h id=some cs:=h;have z:m'.z id=false:=z;have h':m'.q id'=some q1:=h';by_cases hg':∃x∈m1.R,f x.1=id';obtain⟨y,hy,rfl⟩:=hg';rw[(lq y hy).1]at h';cases h';obtain⟨k3,k4⟩:=effM_ψ (M:=M) (M1:=M1) hy hf.jf;have k:0<M1.κ y.1:=by rw[<-k4];exact k
 by_cases hg:∃x∈m1.H,g x.1=id;obtain⟨x,hx,rfl⟩:=hg;have hφ:M'.φ (g x.1)=M1.φ x.1:=effM_φ hx hf.ig;rw[hφ];simp only[M',k3];exact hs1.injx _ _ _ _ (he.ok1.h_at hx) rfl (he.ok1.q_at hy) o k;rw[(lhn hg).1]at h;rw[(lhn hg).2]at z;have hφ:M'.φ id=M.φ id:=effM_φn hg;rw[hφ];simp only[M',k3];exact λe=>nrw hy o k (by rw[<-e];exact inB h z hg)
 rw[(lqn hg').1]at h';obtain⟨k3,k4⟩:=effM_ψn (M:=M) (M1:=M1) hg';have k:0<M.κ id':=by rw[<-k4];exact k
 by_cases hg:∃x∈m1.H,g x.1=id;obtain⟨x,hx,rfl⟩:=hg;have hφ:M'.φ (g x.1)=M1.φ x.1:=effM_φ hx hf.ig;rw[hφ];simp only[M',k3];exact λe=>nbk hx (by rw[e];exact inR h' o k hg')
 rw[(lhn hg).1]at h;rw[(lhn hg).2]at z;have hφ:M'.φ id=M.φ id:=effM_φn hg;rw[hφ];simp only[M',k3];exact hs.injx _ _ _ _ h z h' o k;have hc:s.m.om b=some c:=hc;obtain⟨g1,g2,g3,g4⟩:=hs.rm b c hc;have hin:ZoD B M s.m m0 f g b:= .inr (.inr (.inr (.inr (.inr ⟨c,hc⟩))));exact⟨g1,by rw[(hag b hin).2];exact g2,g3,g4.move hle (hbel.block b hin) rep_old live_old⟩;have h:m'.v id=some es:=h;by_cases hg:∃x∈m1.R,f x.1=id;obtain⟨x,hx,rfl⟩:=hg;rw[(lq x hx).2]at h;cases hv:m1.hp.v x.1 with
 |none=>rw[hv]at h;cases h
 |some es0=>
  rw[hv]at h;simp only[JY,Jm.injEq]at h;subst h;have hxv:=MemL.v_mem hv;obtain⟨k1,k2⟩:=effM_ψ (M:=M) (M1:=M1) hx hf.jf;obtain⟨sz,e,q1,r1,r2,r4⟩:=hs1.vc x.1 es0 hv;refine⟨sz,e,?_,λp hp=> ?_,λp hp i hi=> ?_,λc hc us t fz hus i j hi hj=> ?_⟩
  ·have:m1.hp.q x.1=some x.2:=he.ok1.q_at hx;have q1':m1.hp.q x.1=some (.vec es0.length sz e):=q1;rw[this]at q1';have hq2:m'.q (f x.1)=some x.2:=(lq x hx).1;rw[Jl];exact hq2.trans q1'
  ·obtain⟨p0,hp0,rfl⟩:=Jf.1 hp;obtain⟨c1,c2⟩:=r1 p0 hp0;rw[TI];refine⟨by simpa using c1,?_⟩;rw[KT,JA];rw[JA]at c2;intro y hy;simpa[Ziw]using c2 y hy
  ·obtain⟨p0,hp0,rfl⟩:=Jf.1 hp;rw[ZaB]at hi;obtain⟨i0,hi0,rfl⟩:=Jf.1 hi;exact Gx i0 (MemL.has_of (r2 p0 hp0 i0 hi0))
  ·have hc':M1.κ x.1=c+1:=by rw[<-k2];exact hc
   have hus':w'.heap[M1.ψ x.1]? = some (.cells ⟨us⟩ t fz):=by rw[<-k1];exact hus
   simp only[Jl]at hi;have hlen:=(r1 _ (Ze (d:= .any) hi)).1;have:=r4 c hc' us t fz hus' i j hi hj;rw[getD_lt (l:=es0.map _) (by simpa using hi),Jo,TI];rw[getD_lt hi]at hlen;rw[getD_lt (l:=es0) hi]at this;have hjl:j<es0[i].cells.length:=by omega
   rw[getD_lt (l:=es0[i].cells.map _) (by simpa using hjl),Jo];rw[getD_lt (l:=es0[i].cells) hjl]at this;exact rep_new _ _ this λk hk=>MemL.has_of (r2 _ (Ju hi) k (YB (Ju hjl) hk))
 rw[(lqn hg).2]at h;obtain⟨k1,k2⟩:=effM_ψn (M:=M) (M1:=M1) hg;obtain⟨sz1,e1',q1⟩:=hs.vec_q h;refine(hs.vc id es h).move (λn sz e hq=> ?_) k2 k1 (λhk=>hbel.block _ (inR q1 rfl hk hg)) rep_old live_old;show m'.q id=_;rw[(lqn hg).1];exact hq;rw[ZaB]at hi;obtain⟨i0,hi0,rfl⟩:=Jf.1 hi;exact Gx i0 (he.cr i0 hi0)
end
open Go.RowKit
section
variable {P:Program} {B:Frm} {S:Stable} {M:Maps} {s:St} {a:Act} {w:World}
theorem Sim.reOm (hs:Sim B S M s a w) {om':Nat->Option MapC} (h:∀b c,om' b=some c-> ¬B b/\S.m b=none/\s.m.o b=none/\MapAtR S M s.m w b c):Sim B S M (s.with { s.m with om:=om' }) a w:=by
 have live:∀i,ZX s.m i->ZX { s.m with om:=om' } i:=λi h=>by cases i<;>exact h
 refine⟨hs.defers,hs.hn,hs.hB,hs.stable,hs.fr,λi k hk=>live k (hs.ids i k hk),λi cs hi=> ?_,hs.row,hs.inj,hs.injq,hs.injx,λb c hc=> ?_,λi es he=> ?_,⟨hs.pn.h,hs.pn.q⟩,hs.hz⟩;have h':=hs.blk i cs hi;show GX _ _ _ _ _ _ _ (s.m.z i);cases hz:s.m.z i with
 |false=>
  rw[hz]at h';obtain⟨g1,g2,g3,g6⟩:=h';exact⟨g1,g2,g3,λc hc k hk=>live k (g6 c hc k hk)⟩
 |true=>rw[hz]at h';exact h'
 obtain⟨g1,g2,g3,g4⟩:=h b c hc;exact⟨g1,g2,g3,g4.move (JF _) rfl (λv p r _=>r) live⟩;exact(hs.vc i es he).move (λ_ _ _ h=>h) rfl rfl (λ_=>rfl) (λv p r _=>r) live
theorem Sim.setOm (hs:Sim B S M s a w) {b:Nat} {c c':MapC} {es':List MapEntry} (hb:s.m.om b=some c) (g1:es'.length=c'.ks.length) (g2:c'.vs.length=c'.ks.length) (g3:∀i,i<c'.ks.length->(es'.getD i Jd).born=i)
  (g4:∀i,i<c'.ks.length->Rep S (es'.getD i Jd).key (c'.ks.getD i .any)) (g5:∀i,i<c'.ks.length->RepS S M s.m.q (es'.getD i Jd).val (c'.vs.getD i .any)) (lv:∀p∈c'.vs,∀i∈p.ids,ZX s.m i):
  Sim B S M (s.with { s.m with om:=upd s.m.om b (some c') }) a { w with heap:=w.heap.setIfInBounds b (.map ⟨es'⟩ es'.length) }/\Ext B S S w { w with heap:=w.heap.setIfInBounds b (.map ⟨es'⟩ es'.length) }:=by
 obtain⟨o1,o2,o3,⟨es,e1,_⟩,_⟩:=hs.rm b c hb;have hnc:∀vs t f,w.heap[b]? ≠ some (.cells vs t f):=λvs t f h=>by rw[e1]at h;cases h
 obtain⟨w1,w2⟩:=ZfG (o':= .map ⟨es'⟩ es'.length) e1;have h1:=hs.reOm (om':=upd s.m.om b none) (λk d hd=>by
  by_cases e:b=k;subst e;rw[Za]at hd;cases hd;rw[Zk _ _ e]at hd;exact hs.rm k d hd)
 have h2:=h1.special (w':= { w with heap:=w.heap.setIfInBounds b (.map ⟨es'⟩ es'.length) }) (o':=s.m.o) (it':=s.m.it) hnc w2 (by simp) ⟨U6 hs.stable.s hnc o2 w2,λk d hd=>by
  obtain⟨q1,q2,q3⟩:=hs.stable.o k d hd;exact⟨q1,q2,q3.move (JF _) (w2 k (λe=>by subst e;rw[o3]at hd;cases hd))⟩,λk x hx=>by
  obtain⟨q1,q2⟩:=hs.stable.i k x hx;refine⟨q1,?_⟩;unfold IterAt at q2 ⊢;rw[w2 k (λe=>by subst e;have q3:=q2.1;rw[e1]at q3;cases q3)];exact q2⟩ (λk d hd=>by
  have hd:upd s.m.om b none k=some d:=hd;by_cases e:b=k;subst e;rw[Za]at hd;cases hd;rw[Zk _ _ e]at hd;exact⟨Jy e,(hs.rm k d hd).2.2.1⟩)
 have h3:=h2.reOm (om':=upd s.m.om b (some c')) (λk d hd=>by
  by_cases e:b=k;subst e;rw[Za]at hd;cases hd;exact⟨o1,o2,o3,⟨es',w1,g1,g2,g3,g4,g5⟩,lv⟩;rw[Zk _ _ e]at hd;exact h2.rm k d (by show upd s.m.om b none k=_;rw[Zk _ _ e];exact hd))
 exact⟨h3,JF _,λ_ _=>⟨λ_=>rfl,rfl⟩,⟨rfl,rfl,rfl,by simp,λk hk=>w2 k (λe=>o1 (e▸hk))⟩⟩
theorem Sim.oToOm (hs:Sim B S M s a w) {b:Nat} {c:MapC} (hb:s.m.o b=some c):Sim B S M (s.with { s.m with o:=upd s.m.o b none,om:=upd s.m.om b (some c) }) a w:=by
 obtain⟨o1,o2,es,e1,e2,e3,e4,e5,e6⟩:=hs.stable.o b c hb;have hnc:∀vs t f,w.heap[b]? ≠ some (.cells vs t f):=λvs t f h=>by rw[e1]at h;cases h
 have h1:=hs.special (w':=w) (o':=upd s.m.o b none) (it':=s.m.it) hnc (λ_ _=>rfl) rfl ⟨hs.stable.s,λk d hd=>by
  by_cases e:b=k;subst e;rw[Za]at hd;cases hd;rw[Zk _ _ e]at hd;exact hs.stable.o k d hd,hs.stable.i⟩ (λk d hk=>hs.om_ne hk hb)
 exact h1.reOm (om':=upd s.m.om b (some c)) (λk d hd=>by
  by_cases e:b=k;subst e;rw[Za]at hd;cases hd;refine⟨o1,o2,Za _ _ _,⟨es,e1,e2,e3,e4,e5,λi hi=> .clean (e6 i hi)⟩,λp hp i hi=> ?_⟩;obtain⟨j,hj,rfl⟩:=Jg hp;have:=e6 j (by omega);rw[getD_lt hj]at this;exact absurd hi (this.clean_ids i);rw[Zk _ _ e]at hd;exact h1.rm k d hd)
theorem Sim.omToO (hs:Sim B S M s a w) {b:Nat} {c:MapC} (hb:s.m.om b=some c) (hc:∀p∈c.vs,p.clean=true):Sim B S M (s.with { s.m with o:=upd s.m.o b (some ⟨c.ks,c.vs.map Kc⟩),om:=upd s.m.om b none }) a w:=by
 obtain⟨o1,o2,o3,⟨es,e1,e2,e3,e4,e5,e6⟩,lv⟩:=hs.rm b c hb;have hnc:∀vs t f,w.heap[b]? ≠ some (.cells vs t f):=λvs t f h=>by rw[e1]at h;cases h
 have h1:=hs.reOm (om':=upd s.m.om b none) (λk d hd=>by
  by_cases e:b=k;subst e;rw[Za]at hd;cases hd;rw[Zk _ _ e]at hd;exact hs.rm k d hd)
 exact h1.special (w':=w) (o':=upd s.m.o b (some ⟨c.ks,c.vs.map Kc⟩)) (it':=s.m.it) hnc (λ_ _=>rfl) rfl ⟨hs.stable.s,λk d hd=>by
  by_cases e:b=k;subst e;rw[Za]at hd;cases hd;refine⟨o1,o2,es,e1,e2,by simpa using e3,e4,e5,λi hi=> ?_⟩;have hi':i<c.vs.length:=by rw[e3];exact hi
  have:=(e6 i hi).share (hc _ (Ze hi'));rw[getD_lt (l:=c.vs.map Kc) (by simpa using hi'),Jo];rwa[getD_lt hi']at this;rw[Zk _ _ e]at hd;exact hs.stable.o k d hd,hs.stable.i⟩ (λk d hd=>by
  have hd:upd s.m.om b none k=some d:=hd;by_cases e:b=k;subst e;rw[Za]at hd;cases hd;rw[Zk _ _ e]at hd;exact⟨Jy e,by rw[Zk _ _ e];exact(hs.rm k d hd).2.2.1⟩)
def Zr9 (z:PV) (c:MapC):Option Nat->PV
 |some j=> .tup [c.vs.getD j .any,.int .i64 (j:Int)]
 |none=> .tup [z,.int .i64 (c.ks.length:Int)]
def Zup (z:PV) (cs:List PV) (c:MapC):Option Nat->MapC
 |some _=>c
 |none=>⟨c.ks++ [.agg (JQ cs)],c.vs++ [z]⟩
theorem Zo9 (hs:Sim B S M s a w) {t:TypeId} {b:Nat} {c:MapC} {ls:List Leaf} {z:PV} {v:Value} {cs:List PV} {r:Option Nat} (hb:s.m.om b=some c) (h1:ZpH P t=some (ls,z)) (hv:RepS S M s.m.q v (.agg cs)) (hf:UW ls cs c.ks 0=some r) (hlen:cs.length=ls.length) (hc1:Ke cs=true):
  ∃u w',(J2 t (.map (some b)) v).run P w= .ok u w'/\Sim B S M (s.with { s.m with om:=upd s.m.om b (some (Zup z cs c r)) }) a w'/\RepS S M s.m.q u (Zr9 z c r)/\Ext B S S w w'/\ ∀i∈(Zr9 z c r).ids,ZX s.m i:=by
 obtain⟨kt,et,fs,i,zv,t1,t2,t3,t4,t5,rfl,t6⟩:=GQ h1;obtain⟨o1,o2,o3,⟨es,e1,e2,e3,e4,e5,e6⟩,lv⟩:=hs.rm b c hb;obtain⟨vs,rfl,hl,hrv⟩:=hv.agg_inv;have ht:Yo P kt=true:=by simp[Yo,t2]
 have hg:=MapKept.run_getObj_map (P:=P) e1;have hck:(Jh false 10000 kt (.agg ⟨vs⟩)).run P w= .ok () w:=Vj (vs:=vs) t2 (λf hf=>by rw[hl,hlen];exact t6 f hf) false 9997 w;obtain⟨f1,f2⟩:=FT (S:=S) (M:=M) (q:=s.m.q) t3 ht ⟨hl,hrv⟩ w es c.ks 0 _ e2 e5 hf;cases r with
 |some j=>
  obtain⟨_,g2,ds,g3,g4⟩:=f2 j rfl;have hj:j<c.ks.length:=by omega
  rw[Kj]at g3;have hkj:=e5 j hj;rw[g3]at hkj;obtain⟨us,hus,hul,hru⟩:=(Ku (S:=S) (M:=M) (q:=s.m.q) hkj).agg_inv;obtain⟨hsame,hbits⟩:=UU g4 ⟨hl,hrv⟩ ⟨hul,hru⟩;subst hsame;have hjl:j<es.length:=by omega
  have hkey:(es.getD j Jd).key= .agg ⟨vs⟩:=hus;have hsb:JD 10000 (.agg ⟨vs⟩) (.agg ⟨vs⟩)=true:=by
   simp only[JD,BEq.rfl,KL];rw[JA]
   rintro ⟨p,q⟩ hpq
   rw[Ks]at hpq;simp only at hpq ⊢;obtain⟨n,hn,hpn⟩:=Jg hpq;simp only[Km]at hpn;cases hpn;exact hbits _ (Ju _) _
  have hfk:(J8 kt (.agg ⟨vs⟩) es).run P w= .ok (some (j,(es.getD j Jd).val)) w:=by
   rw[run_findKey_eq w (by rw[t2]) (.agg ⟨vs⟩) es];simpa using f1
  have hej:(⟨es⟩:Array MapEntry)[j]? = some (es.getD j Jd):=by
   rw[getD_lt hjl];simp[hjl]
  have hmod:(⟨es⟩:Array MapEntry).modify j (λe=> { e with key:= .agg ⟨vs⟩ })=⟨es⟩:=by
   apply KJ;apply Kd;intro n;rw[J4,J5]
   by_cases e:j=n
   ·subst e;have hk2:(es[j]).key= .agg ⟨vs⟩:=by rw[getD_lt hjl]at hkey;exact hkey
    simp[hjl,<-hk2]
   ·simp[e]
  have hborn:=e4 j hj;have hrun:(J2 t (.map (some b)) (.agg ⟨vs⟩)).run P w= .ok (.tuple #[(es.getD j Jd).val,.int .i64 (j:Int)]) { w with heap:=w.heap.setIfInBounds b (.map ⟨es⟩ es.length) }:=by
   have hks:(JZ (.agg ⟨vs⟩) (.agg ⟨vs⟩)).run P w= .ok (.agg ⟨vs⟩) w:=by simp[JZ,hsb]
   simp only[J2,Ji,run_underlying t1,Jc,hg,hck,hfk,hej,JY,KB,hkey,hks,hmod,hborn,MapKept.run_setObj_map _ e1];simp[goInt]
  obtain⟨k1,k2⟩:=hs.setOm (c':=c) hb e2 e3 e4 e5 e6 lv;have hjv:j<c.vs.length:=by omega
  refine⟨_,_,hrun,k1,.tup [_,_] [_,_] rfl (λi hi=> ?_),k2,λi hi=> ?_⟩
  ·match i,hi with
   |0,_=>exact e6 j hj
   |1,_=>exact .clean (.int _ _)
  ·simp only[Zr9,Jb,Jq,JI]at hi;exact lv _ (Ze hjv) i hi
 |none=>
  have hfk:(J8 kt (.agg ⟨vs⟩) es).run P w= .ok none w:=by
   rw[run_findKey_eq w (by rw[t2]) (.agg ⟨vs⟩) es];simpa using f1
  have hz:(zeroValue et).run P w= .ok zv w:=by simp[zeroValue,SV t4,t5]
  have hrun:(J2 t (.map (some b)) (.agg ⟨vs⟩)).run P w= .ok (.tuple #[zv,.int .i64 (es.length:Int)]) { w with heap:=w.heap.setIfInBounds b (.map ⟨es++ [{ key:= .agg ⟨vs⟩,val:=zv,born:=es.length }]⟩ (es.length+1)) }:=by
   simp only[J2,Ji,run_underlying t1,Jc,hg,hck,hfk,hz,Kz,MapKept.run_setObj_map _ e1];simp[goInt]
  have hget:∀i,i<c.ks.length+1->(es++ [({ key:= .agg ⟨vs⟩,val:=zv,born:=es.length }:MapEntry)]).getD i Jd=if i<c.ks.length then es.getD i Jd else { key:= .agg ⟨vs⟩,val:=zv,born:=es.length }:=λi hi=>by
   by_cases e:i<c.ks.length
   ·rw[if_pos e,Zg (by omega)]
   ·rw[if_neg e,Zj (by omega)];have:i-es.length=0:=by omega
    simp[this]
  have hkc:Rep S (.agg ⟨vs⟩) (.agg (JQ cs)):=(K2 (S:=S) (M:=M) (q:=s.m.q) vs cs hl hrv).share hc1;obtain⟨k1,k2⟩:=hs.setOm (b:=b) (c:=c) (c':=⟨c.ks++ [.agg (JQ cs)],c.vs++ [XR zv]⟩) (es':=es++ [{ key:= .agg ⟨vs⟩,val:=zv,born:=es.length }]) hb (by simp[e2]) (by simp[e3]) (λi hi=>by
    simp only[JG,JB,JH]at hi;rw[hget i (by omega)];split
    ·rename_i e;exact e4 i e
    ·show es.length=i;omega) (λi hi=>by
    simp only[JG,JB,JH]at hi;rw[hget i (by omega)];show Rep S _ ((c.ks++ [KP (JQ cs)]).getD i .any);split
    ·rename_i e;rw[Zg e];exact e5 i e
    ·rename_i e;rw[Zj (by omega)];have:i-c.ks.length=0:=by omega
     simpa[this]using hkc) (λi hi=>by
    simp only[JG,JB,JH]at hi;rw[hget i (by omega)];show RepS S M s.m.q _ ((c.vs++ [XR zv]).getD i .any);split
    ·rename_i e;rw[Zg (by omega)];exact e6 i e
    ·rename_i e;rw[Zj (by omega)];have:i-c.vs.length=0:=by omega
     simpa[this]using Ku (Vb S zv)) (λp hp i hi=>by
    rcases Jj.1 hp with hp|hp
    ·exact lv p hp i hi
    ·simp only[Jn]at hp;subst hp;rw[VM]at hi;cases hi)
  refine⟨_,_,hrun,by simpa[Zup]using k1,.tup [_,_] [_,_] rfl (λi hi=> ?_),by simpa using k2,λi hi=> ?_⟩
  ·match i,hi with
   |0,_=>exact .clean (Vb S zv)
   |1,_=>rw[<-e2];exact .clean (.int _ _)
  ·simp only[Zr9,Jb,Jq,JI,VM]at hi;cases hi
theorem Zpa (hs:Sim B S M s a w) {t:TypeId} {b:Nat} {c:MapC} {v:Value} {p:PV} {k:Nat} (hb:s.m.om b=some c) (hv:RepS S M s.m.q v p) (hid:∀i∈p.ids,ZX s.m i) (hk:k<c.ks.length):
  ∃w',(Kg t (.map (some b)) (.int .i64 (k:Int)) v).run P w= .ok () w'/\Sim B S M (s.with { s.m with om:=upd s.m.om b (some ⟨c.ks,c.vs.set k p⟩) }) a w'/\Ext B S S w w':=by
 obtain⟨o1,o2,o3,⟨es,e1,e2,e3,e4,e5,e6⟩,lv⟩:=hs.rm b c hb;have hg:=MapKept.run_getObj_map (P:=P) e1;have hkl:k<es.length:=by omega
 have hfind:(⟨es⟩:Array MapEntry).findIdx? (λe=>(e.born:Int)==(k:Int))=some k:=by
  rw[List.findIdx?_toArray,List.findIdx?_eq_some_iff_getElem];refine⟨hkl,?_,λj hj=> ?_⟩;have:=e4 k hk;rw[getD_lt hkl]at this;simp[this];have:=e4 j (by omega);rw[getD_lt (by omega)]at this;simp only[this,beq_iff_eq];omega
 have hmod:(⟨es⟩:Array MapEntry).modify k (λe=> { e with val:=v })=⟨es.set k { es.getD k Jd with val:=v }⟩:=by
  apply KJ;apply Kd;intro n;rw[J4,J5];simp only[Ky];by_cases e:k=n;subst e;simp[hkl,getD_lt hkl];simp[e]
 have hrun:(Kg t (.map (some b)) (.int .i64 (k:Int)) v).run P w= .ok () { w with heap:=w.heap.setIfInBounds b (.map ⟨es.set k { es.getD k Jd with val:=v }⟩ es.length) }:=by
  simp only[Kg,Ji,Jc,hg];have ha:(asInt (.int .i64 (k:Int))).run P w= .ok (k:Int) w:=by simp[asInt,asIntOf]
  simp only[ha,Jc,hfind,hmod];exact MapKept.run_setObj_map _ e1
 have hget:∀i,i<c.ks.length->(es.set k { es.getD k Jd with val:=v }).getD i Jd=if i=k then { es.getD k Jd with val:=v } else es.getD i Jd:=λi hi=>by
  rw[getD_lt (by simp;omega),J7];by_cases e:k=i;subst e;simp;rw[if_neg e,if_neg (Jy e)];exact(getD_lt (by omega)).symm
 obtain⟨k1,k2⟩:=hs.setOm (b:=b) (c:=c) (c':=⟨c.ks,c.vs.set k p⟩) (es':=es.set k { es.getD k Jd with val:=v }) hb (by simpa using e2) (by simp[e3]) (λi hi=>by
  rw[hget i hi];split;rename_i e;subst e;exact e4 i hi;exact e4 i hi) (λi hi=>by
  rw[hget i hi];split;rename_i e;subst e;exact e5 i hi;exact e5 i hi) (λi hi=>by
  rw[hget i hi];have hi:i<c.ks.length:=hi;have hgv:(c.vs.set k p).getD i .any=if i=k then p else c.vs.getD i .any:=by
   rw[getD_lt (by simp;omega),J7];by_cases e:k=i;subst e;simp;rw[if_neg e,if_neg (Jy e)];exact(getD_lt (by omega)).symm
  show RepS S M s.m.q _ ((c.vs.set k p).getD i .any);rw[hgv];split;exact hv;exact e6 i hi) (λx hx i hi=>by
  rcases JU hx with hx|rfl;exact lv x hx i hi;exact hid i hi)
 rw[List.length_set]at k1 k2;exact⟨_,hrun,k1,k2⟩
end
open Go.RowKit
mutual
def PV.nomap:PV->Bool
 | .rmap _ _=>false
 | .sl _ es=>PV.nomapL es
 | .rptr cs=>PV.nomapL cs
 | .agg cs=>PV.nomapL cs
 | .tup cs=>PV.nomapL cs
 | .fn _ cs=>PV.nomapL cs
 |_=>true
def PV.nomapL:List PV->Bool
 | []=>true
 |c::cs=>PV.nomap c&&PV.nomapL cs
end
mutual
def PV.shut (o:Nat->Option MapC):PV->PV
 | .mref b=>match o b with
  |some c=> .rmap c.ks c.vs
  |none=> .mref b
 | .rptr cs=> .rptr (PV.sealL o cs)
 | .agg cs=> .agg (PV.sealL o cs)
 | .tup cs=> .tup (PV.sealL o cs)
 | .fn f cs=> .fn f (PV.sealL o cs)
 |p=>p
def PV.sealL (o:Nat->Option MapC):List PV->List PV
 | []=> []
 |c::cs=>PV.shut o c::PV.sealL o cs
end
theorem Dr:∀ {cs:List PV},PV.nomapL cs=true↔ ∀c∈cs,c.nomap=true
 | []=>by simp[PV.nomapL]
 |c::cs=>by simp[PV.nomapL,Dr (cs:=cs)]
theorem WR {cs:List PV} (h:PV.nomapL cs=true) (i:Nat):(cs.getD i .any).nomap=true:=by
 by_cases hi:i<cs.length;exact Dr.1 h _ (Ze hi);rw[VJ (by omega)];rfl
theorem Zhc {p:PV} (h:p.nomap=true) (j:Nat):(p.cells.getD j .any).nomap=true:=by
 cases p with
 |agg cs=>exact WR (cs:=cs) (by simpa[PV.nomap]using h) j
 |_=>
  simp only[J9];cases j with
  |zero=>simpa using h
  |succ j=>simp[PV.nomap]
theorem Yv (o:Nat->Option MapC):∀(cs:List PV),(PV.sealL o cs).length=cs.length
 | []=>rfl
 |c::cs=>by simp[PV.sealL,Yv o cs]
theorem Vy (o:Nat->Option MapC):∀(cs:List PV) (i:Nat),i<cs.length->(PV.sealL o cs).getD i .any=(cs.getD i .any).shut o
 | [],i,h=>by simp at h
 |c::cs,0,_=>by simp[PV.sealL]
 |c::cs,i+1,h=>by simpa[PV.sealL]using Vy o cs i (by simpa using h)
theorem Rep.cells_only {S S':Stable} (h:S'.c=S.c) (hz:S'.z=S.z) (hy:∀b,S.y b->S'.y b) {v:Value} {p:PV} (r:Rep S v p) (hn:p.nomap=true):Rep S' v p:=by
 induction r with
 |any v=>exact .any v
 |int k n=>exact .int k n
 |bool b=>exact .bool b
 |str l=>exact .str l
 |flt k b=>exact .flt k b
 |cpx k a b=>exact .cpx k a b
 |agg vs cs hl _ ih=>exact .agg vs cs hl (λi hi=>ih i hi (WR hn i))
 |tup vs cs hl _ ih=>exact .tup vs cs hl (λi hi=>ih i hi (WR hn i))
 |sl0 a cap=>exact .sl0 a cap
 |slnil=>exact .slnil
 |sl b o cap sz es vals hsz hcap hS _ ih=>exact .sl b o cap sz es vals hsz hcap (λi j hi hj=>by rw[h];exact hS i j hi hj) (λi j hi hj=>ih i j hi hj (Zhc (WR hn i) j))
 |slf v es _ hz' ih=>exact .slf v es (ih hn) λb o n c e hn=>⟨by rw[hz];exact(hz' b o n c e hn).1,hy _ (hz' b o n c e hn).2⟩
 |rptr b o cs vals hS _ ih=>exact .rptr b o cs vals (λj hj=>by rw[h];exact hS j hj) (λj hj=>ih j hj (WR hn j))
 |nilp=>exact .nilp
 |nilfn=>exact .nilfn
 |nilmap=>exact .nilmap
 |mref b=>exact .mref b
 |iptr b=>exact .iptr b
 |rmap b es ks vs hS hk hv hb _ _ ihK ihV=>simp[PV.nomap]at hn
 |fn f vs cs hl _ ih=>exact .fn f vs cs hl (λi hi=>ih i hi (WR hn i))
def D8 (S:Stable) (w:World) (o:Nat->Option MapC):Stable:=
 ⟨S.c,λb=>match o b with
  |some _=>(match w.heap[b]? with|some (.map es _)=>some es.toList|_=>none)
  |none=>S.m b,S.z,S.y⟩
section
variable {P:Program} {B:Frm} {S:Stable} {M:Maps} {s:St} {a:Act} {w:World} {o:Nat->Option MapC} {it:Nat->Option IterC}
theorem Ziz (hs:Stab B S w o it) {b:Nat} {c:MapC} (h:o b=some c):∃es,(D8 S w o).m b=some es/\w.heap[b]? = some (.map ⟨es⟩ es.length)/\es.length=c.ks.length/\c.vs.length=c.ks.length/\(∀i,i<c.ks.length->(es.getD i Jd).born=i)/\
  (∀i,i<c.ks.length->Rep S (es.getD i Jd).key (c.ks.getD i .any))/\(∀i,i<c.ks.length->Rep S (es.getD i Jd).val (c.vs.getD i .any)):=by
 obtain⟨_,_,es,h1,h2⟩:=hs.o b c h;exact⟨es,by simp[D8,h,h1],h1,h2⟩
theorem ZiA (hs:Stab B S w o it):SLe S (D8 S w o):=by
 refine⟨λ_ _ _ h=>h,λb es h=> ?_,rfl,λ_ h=>h⟩;cases ho:o b with
 |some c=>rw[(hs.o b c ho).2.1]at h;cases h
 |none=>simpa[D8,ho]using h
theorem Zcr (hs:Stab B S w o it):StabS (D8 S w o) w:=by
 refine⟨hs.s.c,λb es h=> ?_,hs.s.y⟩;cases ho:o b with
 |some c=>
  obtain⟨es',h1,h2,_⟩:=Ziz hs ho;rw[h1]at h;cases h;exact h2
 |none=>simp[D8,ho]at h;exact hs.s.m b es h
theorem Rep.shut (hs:Stab B S w o it) {v:Value} {p:PV} (r:Rep S v p):Rep (D8 S w o) v (p.shut o):=by
 have hle:=ZiA hs;induction r with
 |agg vs cs hl _ ih=>exact .agg vs _ (by rw[Yv];exact hl) (λi hi=>by rw[Yv]at hi;rw[Vy o cs i hi];exact ih i hi)
 |tup vs cs hl _ ih=>exact .tup vs _ (by rw[Yv];exact hl) (λi hi=>by rw[Yv]at hi;rw[Vy o cs i hi];exact ih i hi)
 |fn f vs cs hl _ ih=>exact .fn f vs _ (by rw[Yv];exact hl) (λi hi=>by rw[Yv]at hi;rw[Vy o cs i hi];exact ih i hi)
 |any v=>exact .any v
 |int k n=>exact .int k n
 |bool b=>exact .bool b
 |str l=>exact .str l
 |flt k b=>exact .flt k b
 |cpx k a b=>exact .cpx k a b
 |sl0 a cap=>exact .sl0 a cap
 |slnil=>exact .slnil
 |sl b o' cap sz es vals h1 h2 h3 h4 _=>exact(Rep.sl b o' cap sz es vals h1 h2 h3 h4).mono hle
 |slf v es r hz _=>exact(Rep.slf v es r hz).mono hle
 |rptr b o' cs vals h1 h2 ih=>
  refine .rptr b o' _ vals (λj hj=> ?_) (λj hj=> ?_);rw[Yv]at hj;exact h1 j hj;rw[Yv]at hj;rw[Vy o cs j hj];exact ih j hj
 |nilp=>exact .nilp
 |nilfn=>exact .nilfn
 |nilmap=>exact .nilmap
 |iptr b=>exact .iptr b
 |mref b=>
  unfold PV.shut;cases ho:o b with
  |none=>exact .mref b
  |some c=>
   obtain⟨es,h1,h2,h3,h4,h5,h6,h7⟩:=Ziz hs ho;exact .rmap b es c.ks c.vs h1 h3 h4 h5 (λi hi=>(h6 i hi).mono hle) (λi hi=>(h7 i hi).mono hle)
 |rmap b es ks vs h1 h2 h3 h4 h5 h6 _ _=>exact(Rep.rmap b es ks vs h1 h2 h3 h4 h5 h6).mono hle
end
def Wr (P:Program) (f:FuncId) (args:Nat->List PV) (c:MapC) (r:PV) (c':MapC):Prop:=
 VZ P f/\r.dids= []/\ ∀(b:Nat) (w:World) (S:Stable) (vs:List Value),StabS S w->ZkX S w->S.z b->S.m b=none->MapAt S w b c->vs.length=(args b).length->(∀i,i<(args b).length->Rep S (vs.getD i undef) ((args b).getD i .any))->
  Calls P f ⟨vs⟩ w λe w'=>∃v S',e= .returned v/\Rep S' v r/\StabS S' w'/\SLe S S'/\(∀k,k<w.heap.size->k≠b->(∀o,S' k o=S k o)/\S'.m k=S.m k)/\S'.m b=none/\MapAt S' w' b c'/\BelowF (λk=>k<w.heap.size/\k≠b) w w'
def Mk (P:Program) (f:FuncId) (args:List PV) (r:Nat->PV) (c:MapC):Prop:=
 VZ P f/\(∀b,(r b).dids= [])/\ ∀(w:World) (S:Stable) (vs:List Value),StabS S w->ZkX S w->vs.length=args.length->(∀i,i<args.length->Rep S (vs.getD i undef) (args.getD i .any))->
  Calls P f ⟨vs⟩ w λe w'=>∃v S' b,e= .returned v/\w.heap.size<=b/\Rep S' v (r b)/\StabS S' w'/\SLe S S'/\(∀k,k<w.heap.size->(∀o,S' k o=S k o)/\S'.m k=S.m k)/\S'.m b=none/\MapAt S' w' b c/\Below w.heap.size w w'
def Xt (P:Program) (f:FuncId) (args:List PV) (r:PV):Prop:=
 ∀(w:World) (S:Stable) (vs:List Value),vs.length=args.length->(∀i,i<args.length->Rep S (vs.getD i undef) (args.getD i .any))-> ∃v,Rep S v r/\(callFunc f ⟨vs⟩).run P w= .ok (.value v) w
def Rw (P:Program) (f:FuncId) (args:List PV) (r:Nat->PV) (n sz:Nat) (e:TypeId):Prop:=
 VZ P f/\(∀d,∀i∈(r d).ids,i= .r d)/\ ∀(w:World) (S:Stable) (vs:List Value),StabS S w->ZkX S w->vs.length=args.length->(∀i,i<args.length->Rep S (vs.getD i undef) (args.getD i .any))->
  Calls P f ⟨vs⟩ w λen w'=>∃v S' κ ψ,en= .returned v/\(∀(d:Nat) (M:Maps) (q:Rows),M.κ d=κ->M.ψ d=ψ->q d=some (.live n sz e)->RepS S' M q v (r d))/\
   ZcW (λk=>k<w.heap.size) S' ⟨id,λ_=>ψ,λ_=>κ⟩ w' 0 (.live n sz e)/\StabS S' w'/\SLe S S'/\(∀k,k<w.heap.size->(∀o,S' k o=S k o)/\S'.m k=S.m k)/\Below w.heap.size w w'
def ZsD (P:Program) (g:FuncId) (args:List PV) (m:Hp) (K:PV->Hp->Prop):Prop:=
 (∃r,Pure P g (PV.sealL m.o args) r/\r.nomap=true/\K r m)\/
 (∃b c A r c',m.o b=some c/\args=A b/\Wr P g A c r c'/\K r { m with o:=upd m.o b (some c') })\/
 (∃r c,Mk P g args r c/\ ∀b,m.o b=none->K (r b) { m with o:=upd m.o b (some c) })\/
 (∃r,Xt P g args r/\K r m)\/
 (∃r n sz e d,Rw P g args r n sz e/\m.q d=none/\K (r d) (m.setq d (.live n sz e)))
def ZsC (P:Program) (g:FuncId) (args:List PV) (m:Hp) (K:PV->Hp->Prop):Prop:=
 ∃args0 m0 r m1 f' g',Eff P g args0 m0 r m1/\FitsM m0 m1 f' g' m/\args=args0.map (PV.ren f' g')/\K (r.ren f' g') (ZkG m1 f' g' m)
def Zqb:List PV->Bool
 | .vsl _ _ _::_=>true
 |_=>false
def vmB (dst:Option Nat) (m:Hp):Bool:=
 match dst with
 |some d=>m.vm d
 |none=>false
def ZpO (x y:PV) (d:Nat) (ei:EInfo) (ys:List PV) (m:Hp) (K:PV->Hp->Prop):Prop:=
 match x with
 | .vsl id n sz=>match m.v id with
  |some es=>es.length=n/\sz=ei.size/\m.q id=some (.vec n sz ei.e)/\(d=id\/m.q d=none)/\ZcG y m ys ei.size [id,d]/\(∀p∈es++ys,.r id∉p.ids)/\Zjl (n+ys.length) ei.bytes/\
    K (.vsl d (n+ys.length) sz) (Zoh m id d (n+ys.length) sz ei.e (es++ys))
  |none=>False
 | .sl .nil []=>m.q d=none/\ZcG y m ys ei.size [d]/\(∀p∈ys,.r d∉p.ids)/\Zjl ys.length ei.bytes/\K (.vsl d ys.length ei.size) { m.setq d (.vec ys.length ei.size ei.e)with v:=upd m.v d (some ys) }
 |_=>False
def Zt7 (P:Program) (dst:Option Nat) (ts:List TypeId) (xs:List PV) (m:Hp) (K:PV->Hp->Prop):Prop:=
 match dst,ts,xs with
 |some d,[t,tx],[x,y]=>match We P t,VF P tx y m with
  |some ei,some ys=>(∀p∈ys,p.cells.length=ei.size/\p.cells.all KO=true)/\ZpO x y d ei ys m K
  |_,_=>False
 |_,_,_=>False
def Zt8 (P:Program) (dst:Option Nat) (t:TypeId) (len:Nat) (parts:List (Nat×PV)) (m:Hp) (K:PV->Hp->Prop):Prop:=
 match dst,We P t with
 |some d,some ei=>m.q d=none/\len=parts.length/\len*ei.size<=16777216/\Zfq ei.size d 0 parts/\K (.vsl d len ei.size) { m.setq d (.vec len ei.size ei.e)with v:=upd m.v d (some (parts.map (·.2))) }
 |_,_=>False
def Zfz (x:PV) (m:Hp) (K:PV->Hp->Prop):Prop:=
 match x with
 | .mref b=>match m.o b with
  |some c=>∀ib,m.it ib=none->K (.iptr ib) { m with it:=upd m.it ib (some ⟨b,c.ks.length,[],none⟩) }
  |none=>False
 | .rmap ks vs=>∀ib b,m.it ib=none->K (.iptr ib) { m with it:=upd m.it ib (some ⟨b,ks.length,[],some ⟨ks,vs⟩⟩) }
 |_=>False
def Zmd (x:PV) (m:Hp) (K:PV->Hp->Prop):Prop:=
 match x with
 | .iptr ib=>match m.it ib with
  |some it=>match mapIt m it with
   |some c=>c.ks.length=it.n/\((∀i,i<it.n->i∈it.seen)->K (.tup [.bool false]) m)/\
     ∀i,i<it.n->i∉it.seen->K (.tup [.bool true,c.ks.getD i .any,c.vs.getD i .any]) { m with it:=upd m.it ib (some ⟨it.b,it.n,it.seen++ [i],it.c⟩) }
   |none=>False
  |none=>False
 |_=>False
def ZqY (m:Hp) (K:PV->Hp->Prop):Prop:=∀b,m.o b=none->K (.mref b) { m with o:=upd m.o b (some ⟨[],[]⟩) }
def ZeM (P:Program) (t:TypeId) (x k:PV) (m:Hp) (K:PV->Hp->Prop):Prop:=
 match x,ZpH P t,k with
 | .mref b,some (ls,z),.agg cs=>match m.om b with
  |some c=>match UW ls cs c.ks 0 with
   |some r=>cs.length=ls.length/\Ke cs=true/\K (Zr9 z c r) { m with om:=upd m.om b (some (Zup z cs c r)) }
   |none=>False
  |none=>False
 |_,_,_=>False
def ZfR (x st v:PV) (m:Hp) (K:PV->Hp->Prop):Prop:=
 match x,st with
 | .mref b,.int .i64 k=>match m.om b with
  |some c=>0<=k/\k.toNat<c.ks.length/\K (.tup []) { m with om:=upd m.om b (some ⟨c.ks,c.vs.set k.toNat v⟩) }
  |none=>False
 |_,_=>False
def ZhT:PV->Bool
 | .sl .no es=>es.isEmpty
 |_=>false
def ZdZ (P:Program) (o:Oper) (s:St) (K:St->Prop):Prop:=
 match o.op with
 | .call c=>match Yt s.eval c with
  |some (g,args)=>(Jp s.m args/\ZsD P g (Jt s.m args) s.m λr m=>K ((s.with m).put o.dst r))\/ZsC P g (Jt s.m args) s.m λr m=>K ((s.with m).put o.dst r)
  |none=>match c.callee with
   | .builtin .append=>Zt7 P o.dst c.argTypes.toList (c.args.toList.map s.eval) s.m λr m=>K ((s.with m).put o.dst r)
   |_=>False
 | .buildSlice t len parts=>Zt8 P o.dst t len (parts.toList.map λx=>(x.1,s.eval x.2)) s.m λr m=>K ((s.with m).put o.dst r)
 | .makeMap _ none=>ZqY s.m λr m=>K ((s.with m).put o.dst r)
 | .mapEntry t x k=>ZeM P t (s.eval x) (s.eval k) s.m λr m=>K ((s.with m).put o.dst r)
 | .entryStore t x st v=>o.dst=none/\ZfR (s.eval x) (s.eval st) (s.eval v) s.m λr m=>K ((s.with m).put o.dst r)
 | .range t x=>ZhA P t=true/\Zfz (s.eval x) s.m λr m=>K ((s.with m).put o.dst r)
 | .next x false=>Zmd (s.eval x) s.m λr m=>K ((s.with m).put o.dst r)
 | .binOp .eql t x (.const (.slice none 0 0)) _=>(Zd0 P t= .slc/\ZhT (s.eval x)=true)/\ ∀b,K ((s.with s.m).put o.dst (.bool b))
 |_=>False
end Go.PL
namespace Go.PL
open Go.RowKit
section
variable {P:Program} {B:Frm} {S:Stable} {M:Maps} {s:St} {a:Act} {w:World}
theorem RepS.iptr_inv {v:Value} {qq:Rows} {b:Nat} (r:RepS S M qq v (.iptr b)):v= .pointer (some ⟨b,0,none⟩):=by
 cases r with|clean r=>cases r;rfl
theorem Sim.growX (hs:Sim B S M s a w) {b:Nat} (hb:∀vs t f,w.heap[b]? ≠ some (.cells vs t f)) {S':Stable} {w':World} (hle:SLe S S') (hag:∀k,k<w.heap.size->k≠b-> ∀o,S' k o=S k o)
  (hw:∀k,k<w.heap.size->k≠b->w'.heap[k]? = w.heap[k]?) (hsz:w.heap.size<=w'.heap.size) {o':Nat->Option MapC} {it':Nat->Option IterC} (hst:Stab B S' w' o' it') (hom:∀k d,s.m.om k=some d->k≠b/\o' k=none/\S'.m k=none):Sim B S' M (s.with { s.m with o:=o',it:=it' }) a w':=by
 have rep:∀ {v p},RepS S M s.m.q v p->RepS S' M s.m.q v p:=λr=>r.heap hle (λ_ _=>rfl) (λ_ _=> .refl _ _ _)
 have live:∀i,ZX s.m i->ZX { s.m with o:=o',it:=it' } i:=λi h=>by cases i<;>exact h
 refine⟨hs.defers,hs.hn,λk hk=>Kw (hs.hB k hk) hsz,hst,λi=>rep (hs.fr i),λi k hk=>live k (hs.ids i k hk),λid cs hc=> ?_,λid r hr=> ?_,hs.inj,hs.injq,hs.injx,λk d hk=> ?_,λi es he=> ?_,⟨hs.pn.h,hs.pn.q⟩,hs.zle hle⟩;have hb':=hs.blk id cs hc;show GX _ _ _ _ _ _ _ (s.m.z id);cases hz:s.m.z id with
 |false=>
  rw[hz]at hb';have hlt:=hs.blk_lt hc hz;obtain⟨h1,h2,⟨vs,t,h3,h4,h5⟩,h6⟩:=hb';have hne:M.φ id≠b:=λe=>hb _ _ _ (e▸h3)
  exact⟨h1,λo=>by rw[hag _ hlt hne];exact h2 o,⟨vs,t,by rw[hw _ hlt hne];exact h3,h4,λj hj=>rep (h5 j hj)⟩,λc hc k hk=>live k (h6 c hc k hk)⟩
 |true=>
  rw[hz]at hb';obtain⟨vals,hv⟩:=hb';exact⟨vals,λj hj=>⟨hle _ _ _ (hv j hj).1,(hv j hj).2.mono hle⟩⟩
 have hr':=hs.row id r hr;cases r with
 |live n sz e=>
  obtain⟨h1,h2⟩:=hr';refine⟨h1,λc hk=> ?_⟩;have hlt:=hs.row_lt hr rfl (by omega);obtain⟨g0,g0',g1,⟨vs,g2,g3⟩,g4⟩:=h2 c hk;have hne:M.ψ id≠b:=λe=>hb _ _ _ (e▸g2)
  exact⟨g0,g0',g1,⟨vs,by rw[hw _ hlt hne];exact g2,g3⟩,λo ho=>by rw[hag _ hlt hne];exact g4 o ho⟩
 |vec n sz e=>
  obtain⟨h1,h2⟩:=hr';refine⟨h1,λc hk=> ?_⟩;have hlt:=hs.row_lt hr rfl (by omega);obtain⟨g0,g0',g1,⟨vs,g2,g3⟩,g4⟩:=h2 c hk;have hne:M.ψ id≠b:=λe=>hb _ _ _ (e▸g2)
  exact⟨g0,g0',g1,⟨vs,by rw[hw _ hlt hne];exact g2,g3⟩,λo=>by rw[hag _ hlt hne];exact g4 o⟩
 |dead=>trivial
 obtain⟨g1,g2,g3,g4⟩:=hs.rm k d hk;obtain⟨e1,e2,e3⟩:=hom k d hk;exact⟨g1,e3,e2,g4.move hle (hw k g4.lt e1) (λv p r _=>rep r) live⟩;refine(hs.vc i es he).move (λ_ _ _ h=>h) rfl rfl (λhk=>hw _ (hs.vec_lt he hk) λee=> ?_) (λv p r _=>rep r) live;obtain⟨sz,e,q1⟩:=hs.vec_q he;obtain⟨_,h2⟩:=hs.row i _ q1;obtain⟨_,_,_,⟨vs,k5,_⟩,_⟩:=h2 (M.κ i-1) (by omega);exact hb _ _ _ (ee▸k5)
theorem T3 (hs:Sim B S M s a w) {f:Operand} {cargs:List Operand} {ts:Array TypeId} {g:FuncId} {args:List PV} (hc:Yt s.eval ⟨.value f,⟨cargs⟩,ts⟩=some (g,args)) (hg:Jp s.m args) (hcal:VZ P g)
  {dst:Option Tmp} {ty:TypeId} {pos:String} {after:Array Edge} {guard:Option (Nat×Bool)}:
  ∃vs:List Value,vs.length=args.length/\(∀i,i<args.length->Rep S (vs.getD i undef) ((Jt s.m args).getD i .any))/\(execOp a.eval ⟨dst,.call ⟨.value f,⟨cargs⟩,ts⟩,ty,pos,after,guard⟩).run P w= .ok (.enter g ⟨vs⟩) w:=by
 unfold Yt at hc;simp only at hc;split at hc;rename_i g' caps hf;simp only[Jm.injEq,Kx.injEq]at hc;obtain⟨rfl,rfl⟩:=hc;have ef:=hs.eval f;rw[hf]at ef;obtain⟨vs,hv,hl,hr⟩:=ef.fn_inv;obtain⟨fn,c1,c2,c3⟩:=hcal;have hargs:∀i,i<(cargs.map s.eval++caps).length->RepS S M s.m.q ((cargs.map a.eval++vs).getD i undef) ((cargs.map s.eval++caps).getD i .any):=by
  intro i hi;by_cases h1:i<cargs.length;rw[Zg (by simpa using h1),Zg (by simpa using h1)];exact GB (s:=s) hs.eval i (by simpa using h1);rw[Zj (by simp;omega),Zj (by simp;omega)];simp only[Jl];exact hr _ (by simp at hi;omega)
 refine⟨cargs.map a.eval++vs,by simp[hl],λi hi=> ?_,?_⟩;rw[JR _ _ i hi];exact(hargs i hi).give hs (Kf hg i hi);have hb:¬fn.body=none:=by intro h;simp[h]at c3
 simp[execOp,resolve,Deferred.ofValue,hv,invoke,callFunc,program,Kq,c1,hb,c2];cases hc
theorem RepS.giveE (hs:Sim B S M s a w) {v:Value} {p:PV} (r:RepS S M s.m.q v p):RepS S M s.m.q v (p.give s.m):=by
 induction r with
 |clean r=>exact .clean (r.give s.m)
 |ptr id off=>
  cases hz:s.m.z id with
  |false=>simp only[Jv,hz];exact .ptr id off
  |true=>
   cases hh:s.m.h id with
   |none=>simp only[Jv,hz,hh];exact .ptr id off
   |some cs=>exact .clean ((RepS.ptr (S:=S) (M:=M) (q:=s.m.q) id off).give hs ⟨hz,by rw[hh];simp⟩)
 |osl id off len cap sz hc=>exact .osl id off len cap sz hc
 |row id v es r _=>exact .clean r
 |vsl id len sz v hv t=>exact .vsl id len sz v hv t
 |vptr id n sz i off v hv hi t=>exact .vptr id n sz i off v hv hi t
 |agg vs cs hl _ ih=>exact .agg vs _ (by rw[Je];exact hl) (λi hi=>by rw[Je]at hi;rw[JR s.m cs i hi];exact ih i hi)
 |tup vs cs hl _ ih=>exact .tup vs _ (by rw[Je];exact hl) (λi hi=>by rw[Je]at hi;rw[JR s.m cs i hi];exact ih i hi)
 |fn f vs cs hl _ ih=>exact .fn f vs _ (by rw[Je];exact hl) (λi hi=>by rw[Je]at hi;rw[JR s.m cs i hi];exact ih i hi)
theorem ZgI (hs:Sim B S M s a w) {f:Operand} {cargs:List Operand} {ts:Array TypeId} {g:FuncId} {args:List PV} (hc:Yt s.eval ⟨.value f,⟨cargs⟩,ts⟩=some (g,args)) (hcal:VZ P g)
  {dst:Option Tmp} {ty:TypeId} {pos:String} {after:Array Edge} {guard:Option (Nat×Bool)}:
  ∃vs:List Value,vs.length=args.length/\(∀i,i<args.length->RepS S M s.m.q (vs.getD i undef) ((Jt s.m args).getD i .any))/\(execOp a.eval ⟨dst,.call ⟨.value f,⟨cargs⟩,ts⟩,ty,pos,after,guard⟩).run P w= .ok (.enter g ⟨vs⟩) w:=by
 unfold Yt at hc;simp only at hc;split at hc;rename_i g' caps hf;simp only[Jm.injEq,Kx.injEq]at hc;obtain⟨rfl,rfl⟩:=hc;have ef:=hs.eval f;rw[hf]at ef;obtain⟨vs,hv,hl,hr⟩:=ef.fn_inv;obtain⟨fn,c1,c2,c3⟩:=hcal;have hargs:∀i,i<(cargs.map s.eval++caps).length->RepS S M s.m.q ((cargs.map a.eval++vs).getD i undef) ((cargs.map s.eval++caps).getD i .any):=by
  intro i hi;by_cases h1:i<cargs.length;rw[Zg (by simpa using h1),Zg (by simpa using h1)];exact GB (s:=s) hs.eval i (by simpa using h1);rw[Zj (by simp;omega),Zj (by simp;omega)];simp only[Jl];exact hr _ (by simp at hi;omega)
 refine⟨cargs.map a.eval++vs,by simp[hl],λi hi=> ?_,?_⟩;rw[JR _ _ i hi];exact(hargs i hi).giveE hs;have hb:¬fn.body=none:=by intro h;simp[h]at c3
 simp[execOp,resolve,Deferred.ofValue,hv,invoke,callFunc,program,Kq,c1,hb,c2];cases hc
theorem Stab.turn {S':Stable} {w':World} {o:Nat->Option MapC} {it:Nat->Option IterC} (hs:Stab B S w o it) {b:Nat} {c:MapC} (hle:SLe S S') (hst:StabS S' w') (hm:∀k,k<w.heap.size->k≠b->S'.m k=S.m k)
  (hw:∀k,k<w.heap.size->k≠b->w'.heap[k]? = w.heap[k]?) (hB:¬B b) (hb:S'.m b=none) (hc:MapAt S' w' b c) (hit:∀x,it b≠some x):Stab B S' w' (upd o b (some c)) it:=by
 refine⟨hst,λk d hd=> ?_,λk x hx=> ?_⟩;by_cases e:b=k;subst e;rw[Za]at hd;cases hd;exact⟨hB,hb,hc⟩;rw[Zk _ _ e]at hd;obtain⟨q1,q2,q3⟩:=hs.o k d hd;exact⟨q1,by rw[hm k q3.lt (Jy e)];exact q2,q3.move hle (hw k q3.lt (Jy e))⟩;obtain⟨q1,q2,q3⟩:=hs.i k x hx;refine⟨q1,?_,q3.mono hle⟩;have hlt:=q2.lt;unfold IterAt at q2 ⊢;rw[hw k hlt (λe=>by subst e;exact hit x hx)];exact q2
theorem ZoG (hs:Sim B S M s a w) {f:Operand} {cargs:List Operand} {ts:Array TypeId} {g:FuncId} {args:List PV} (hc:Yt s.eval ⟨.value f,⟨cargs⟩,ts⟩=some (g,args)) (hg:Jp s.m args)
  {dst:Option Tmp} {ty:TypeId} {pos:String} {after:Array Edge} {guard:Option (Nat×Bool)}:
  ∃vs:List Value,vs.length=args.length/\(∀i,i<args.length->Rep S (vs.getD i undef) ((Jt s.m args).getD i .any))/\(execOp a.eval ⟨dst,.call ⟨.value f,⟨cargs⟩,ts⟩,ty,pos,after,guard⟩).run P w=(callFunc g ⟨vs⟩).run P w:=by
 unfold Yt at hc;simp only at hc;split at hc;rename_i g' caps hf;simp only[Jm.injEq,Kx.injEq]at hc;obtain⟨rfl,rfl⟩:=hc;have ef:=hs.eval f;rw[hf]at ef;obtain⟨vs,hv,hl,hr⟩:=ef.fn_inv;have hargs:∀i,i<(cargs.map s.eval++caps).length->RepS S M s.m.q ((cargs.map a.eval++vs).getD i undef) ((cargs.map s.eval++caps).getD i .any):=by
  intro i hi;by_cases h1:i<cargs.length;rw[Zg (by simpa using h1),Zg (by simpa using h1)];exact GB (s:=s) hs.eval i (by simpa using h1);rw[Zj (by simp;omega),Zj (by simp;omega)];simp only[Jl];exact hr _ (by simp at hi;omega)
 refine⟨cargs.map a.eval++vs,by simp[hl],λi hi=> ?_,?_⟩;rw[JR _ _ i hi];exact(hargs i hi).give hs (Kf hg i hi);simp[execOp,resolve,Deferred.ofValue,hv,invoke];cases hc
theorem Sim.addRow (hs:Sim B S M s a w) {d κ ψ n sz:Nat} {e:TypeId} (hd:s.m.q d=none) (hrow:ZcW B S ⟨id,λ_=>ψ,λ_=>κ⟩ w 0 (.live n sz e))
  (hnq:∀i r,s.m.q i=some r->r.own=true->0<M.κ i->0<κ->M.ψ i≠ψ) (hnh:∀i cs,s.m.h i=some cs->s.m.z i=false->0<κ->M.φ i≠ψ):
  Sim B S { M with ψ:=upd M.ψ d ψ,κ:=upd M.κ d κ } (s.with (s.m.setq d (.live n sz e))) a w:=
 hs.layRow (.inl hd) (by simpa only[ZcW,Za]using hrow) (hs.v_none λ_ _ _ h=>by rw[hd]at h;cases h) (λi r _ hi oi ki _ k=>hnq i r hi oi ki k) (λi cs hi zi _ k=>hnh i cs hi zi k)
theorem Sim.om_new (hs:Sim B S M s a w) {b:Nat} (hb:w.heap.size<=b) {S':Stable} (hS:∀k,k<w.heap.size->S'.m k=S.m k) {o':Nat->Option MapC} (ho:∀k,k≠b->o' k=s.m.o k) (k:Nat) (d:MapC) (h:s.m.om k=some d):k≠b/\o' k=none/\S'.m k=none:=by
 obtain⟨g1,g2,g3,g4⟩:=hs.rm k d h;have hlt:=g4.lt;have hne:k≠b:=by omega
 exact⟨hne,by rw[ho k hne];exact g3,by rw[hS k hlt];exact g2⟩
theorem Dx (hs:Sim B S M s a w) {o:Oper} {K:St->Prop} (hd:∀x,o.dst=some x->x<s.n) (h:ZdZ P o s K) (next:Act->World->Prop) (Q:Exit->Act->World->Prop)
  (hn:∀s' v w' S' M',K s'->Sim B S' M' s' (a.put o.dst v) w'->Ext B S S' w w'->next (a.put o.dst v) w'):o.wp P a w next Q:=by
 obtain⟨dst,op,ty,pos,after,guard⟩:=o;unfold ZdZ at h;simp only at h hd hn ⊢;cases op with
 |call c=>
  obtain⟨callee,cargs,ts⟩:=c;obtain⟨cargs⟩:=cargs;cases callee with
  |value f=>
   simp only at h;cases hc:Yt s.eval ⟨.value f,⟨cargs⟩,ts⟩with
   |none=>rw[hc]at h;exact h.elim
   |some ga=>
    obtain⟨g,args⟩:=ga;rw[hc]at h;unfold Oper.wp;rcases h with ⟨hg,hx⟩|⟨args0,m0,r,m1,f',g',heff,hfit,hargs,hk⟩
    rotate_left
    ·obtain⟨vs,hl,hrep,hrun⟩:=ZgI (dst:=dst) (ty:=ty) (pos:=pos) (after:=after) (guard:=guard) hs hc heff.cal;rw[hrun];show Calls P g ⟨vs⟩ w _;have hlen:args.length=args0.length:=by rw[<-Je s.m args,hargs];simp
     refine(heff.call hs hfit (vs:=vs) (by omega) (λi hi=> ?_)).mono λen w' hq=> ?_
     ·have:=hrep i (by omega);rw[hargs,getD_lt (l:=args0.map _) (by simpa using hi),Jo]at this;rw[getD_lt hi];exact this
     ·obtain⟨v,S',M',rfl,h2,h3,h4,h5⟩:=hq;exact hn _ v w' S' M' hk (h2.put hd h3 h4) h5
    rcases hx with ⟨r,⟨hcal,_,hcalls⟩,hno,hk⟩|⟨b,c,A,r,c',hob,hA,⟨hcal,_,hcalls⟩,hk⟩|⟨r,c,⟨hcal,_,hcalls⟩,hk⟩|⟨r,hxt,hk⟩|⟨r,n,sz,e,d,⟨hcal,hri,hcalls⟩,hqd,hk⟩
    ·obtain⟨vs,hl,hrep,hrun⟩:=T3 (dst:=dst) (ty:=ty) (pos:=pos) (after:=after) (guard:=guard) hs hc hg hcal;rw[hrun];show Calls P g ⟨vs⟩ w _;refine(hcalls w (D8 S w s.m.o) vs (Zcr hs.stable) hs.young (by rw[Yv,Je];exact hl) (λi hi=> ?_)).mono λe w' hq=> ?_
     ·rw[Yv,Je]at hi;rw[Vy _ _ i (by rw[Je];exact hi)];exact(hrep i hi).shut hs.stable
     ·obtain⟨v,S1,rfl,h2,h3,h4,h5,h6⟩:=hq
      let S':Stable:=⟨S1.c,λk=>match s.m.o k with|some _=>none|none=>S1.m k,S1.z,S1.y⟩
      have m1:∀k c,s.m.o k=some c->S'.m k=none:=λk c hc=>by simp[S',hc]
      have m2:∀k,s.m.o k=none->S'.m k=S1.m k:=λk hc=>by simp[S',hc]
      have m3:∀k,s.m.o k=none->(D8 S w s.m.o).m k=S.m k:=λk hc=>by simp[D8,hc]
      have l1:SLe S S':=⟨λk o v hv=>h4.c k o v hv,λk es he=>by
       cases ho:s.m.o k with
       |some c=>rw[(hs.stable.o k c ho).2.1]at he;cases he
       |none=>rw[m2 k ho];exact h4.m k es (by rw[m3 k ho];exact he),h4.z,h4.y⟩
      have l2:∀k,k<w.heap.size->(∀o,S' k o=S k o)/\S'.m k=S.m k:=λk hk=>by
       obtain⟨a1,a2⟩:=h5 k hk;refine⟨a1,?_⟩;cases ho:s.m.o k with
       |some c=>rw[m1 k c ho,(hs.stable.o k c ho).2.1]
       |none=>rw[m2 k ho,a2,m3 k ho]
      have l3:StabS S' w':=⟨h3.c,λk es he=>by
       cases ho:s.m.o k with
       |some c=>rw[m1 k c ho]at he;cases he
       |none=>rw[m2 k ho]at he;exact h3.m k es he,h3.y⟩
      have hs':=hs.grow l1 l2 l3 h6.block h6.size;have hr':Rep S' v r:=Rep.cells_only (S:=S1) (S':=S') rfl rfl (λ_ h=>h) h2 hno;exact hn _ v w' S' M hk (hs'.put hd (.clean hr') (λi hi=>absurd hi (hr'.clean_ids i))) ⟨l1,λk hk=>l2 k (hs.hB k hk),(KC h6).mono hs.hB⟩
    ·obtain⟨vs,hl,hrep,hrun⟩:=T3 (dst:=dst) (ty:=ty) (pos:=pos) (after:=after) (guard:=guard) hs hc hg hcal;rw[hrun];show Calls P g ⟨vs⟩ w _;obtain⟨q1,q2,q3⟩:=hs.stable.o b c hob;rw[hA]at hrep;refine(hcalls b w S vs hs.stable.s hs.young (hs.hz b q1) q2 q3 (by rw[<-hA,Je];exact hl) (λi hi=>hrep i (by rw[<-hA,Je]at hi;exact hi))).mono λe w' hq=> ?_
     obtain⟨v,S',rfl,h2,h3,h4,h5,h5',h6,h7⟩:=hq;have hnc:∀vs t f,w.heap[b]? ≠ some (.cells vs t f):=λvs t f hh=>by obtain⟨es,e1,_⟩:=q3;rw[e1]at hh;cases hh
     have hit:∀x,s.m.it b≠some x:=λx hx=>by
      have h1:=(hs.stable.i b x hx).2.1;obtain⟨es,e1,_⟩:=q3;unfold IterAt at h1;rw[e1]at h1;cases h1
     have hst:Stab B S' w' (upd s.m.o b (some c')) s.m.it:=hs.stable.turn h4 h3 (λk hk hkb=>(h5 k hk hkb).2) (λk hk hkb=>h7.block k ⟨hk,hkb⟩) q1 h5' h6 hit;have hs':=hs.growX hnc h4 (λk hk hkb=>(h5 k hk hkb).1) (λk hk hkb=>h7.block k ⟨hk,hkb⟩) h7.size hst (λk d hk=>⟨(hs.om_ne hk hob (x:=none)).1,(hs.om_ne hk hob).2,by rw[(h5 k (hs.rm k d hk).2.2.2.lt (hs.om_ne hk hob (x:=none)).1).2];exact(hs.rm k d hk).2.1⟩);exact hn _ v w' S' M hk (hs'.put hd (.clean h2) (λi hi=>absurd hi (h2.clean_ids i))) ⟨h4,λk hk=>h5 k (hs.hB k hk) (λe=>q1 (e▸hk)),h7.mono (λk hk=>⟨hs.hB k hk,λe=>q1 (e▸hk)⟩)⟩
    ·obtain⟨vs,hl,hrep,hrun⟩:=T3 (dst:=dst) (ty:=ty) (pos:=pos) (after:=after) (guard:=guard) hs hc hg hcal;rw[hrun];show Calls P g ⟨vs⟩ w _;refine(hcalls w S vs hs.stable.s hs.young (by rw[Je];exact hl) (λi hi=>hrep i (by rw[Je]at hi;exact hi))).mono λe w' hq=> ?_
     obtain⟨v,S',b,rfl,hbl,h2,h3,h4,h5,h5',h6,h7⟩:=hq;have hnb:s.m.o b=none:=by
      cases ho:s.m.o b with
      |none=>rfl
      |some d=>have:=(hs.stable.o b d ho).2.2.lt;omega
     have hBb:¬B b:=λhh=>by have:=hs.hB b hh;omega
     have hnc:∀vs t f,w.heap[b]? ≠ some (.cells vs t f):=λvs t f hh=>by have:=(Jr.1 hh).1;omega
     have hit:∀x,s.m.it b≠some x:=λx hx=>by have:=(hs.stable.i b x hx).2.1.lt;omega
     have hst:Stab B S' w' (upd s.m.o b (some c)) s.m.it:=hs.stable.turn h4 h3 (λk hk _=>(h5 k hk).2) (λk hk _=>h7.block k hk) hBb h5' h6 hit;have hs':=hs.growX hnc h4 (λk hk _=>(h5 k hk).1) (λk hk _=>h7.block k hk) h7.size hst (hs.om_new hbl (λk hk=>(h5 k hk).2) λk hk=>Zk _ _ (Jy hk));exact hn _ v w' S' M (hk b hnb) (hs'.put hd (.clean h2) (λi hi=>absurd hi (h2.clean_ids i))) ⟨h4,λk hk=>h5 k (hs.hB k hk),(KC h7).mono hs.hB⟩
    ·obtain⟨vs,hl,hrep,hrun⟩:=ZoG (dst:=dst) (ty:=ty) (pos:=pos) (after:=after) (guard:=guard) hs hc hg;obtain⟨v,hv,hrun2⟩:=hxt w S vs (by rw[Je];exact hl) (λi hi=>hrep i (by rw[Je]at hi;exact hi));rw[hrun,hrun2];exact hn _ v w S M hk (hs.put hd (.clean hv) (λi hi=>absurd hi (hv.clean_ids i))) (JO _ _ _)
    ·obtain⟨vs,hl,hrep,hrun⟩:=T3 (dst:=dst) (ty:=ty) (pos:=pos) (after:=after) (guard:=guard) hs hc hg hcal;rw[hrun];show Calls P g ⟨vs⟩ w _;refine(hcalls w S vs hs.stable.s hs.young (by rw[Je];exact hl) (λi hi=>hrep i (by rw[Je]at hi;exact hi))).mono λen w' hq=> ?_
     obtain⟨v,S',κ,ψ,rfl,h1,h2,h3,h4,h5,h6⟩:=hq;have hs1:=hs.grow h4 h5 h3 h6.block h6.size;have hψ:0<κ->w.heap.size<=ψ:=λh0=>by
      obtain⟨_,g2⟩:=h2;obtain⟨_,_,g3,_⟩:=g2 (κ-1) (by show κ=_;omega);exact Nat.not_lt.1 g3
     have hs2:=hs1.addRow (d:=d) (κ:=κ) (ψ:=ψ) (n:=n) (sz:=sz) (e:=e) hqd
      (by
       obtain⟨g1,g2⟩:=h2;refine⟨g1,λc hc=> ?_⟩;obtain⟨k1,k2,k3,k4,k5⟩:=g2 c hc;exact⟨k1,k2,λhB=>k3 (hs.hB _ hB),k4,k5⟩)
      (λi r1 hi oi ki k0=>by have:=hs.row_lt hi oi ki;have:=hψ k0;omega)
      (λi cs hi zi k0=>by have:=hs.blk_lt hi zi;have:=hψ k0;omega)
     have hrv:=h1 d { M with ψ:=upd M.ψ d ψ,κ:=upd M.κ d κ } (s.m.setq d (.live n sz e)).q (Za _ _ _) (Za _ _ _) (Za _ _ _);exact hn _ v w' S' _ hk (hs2.put hd hrv (λi hi=>by
      rw[hri d i hi];show upd s.m.q d _ d≠none;rw[Za];simp)) ⟨h4,λk hk=>h5 k (hs.hB k hk),(KC h6).mono hs.hB⟩
  |builtin b=>
   cases b with
   |append=>
    simp only[Yt]at h;unfold Zt7 at h;split at h
    ·rename_i d t tx x y hts hxs;split at h
     ·rename_i ei ys h1 h2;obtain⟨g4,h⟩:=h;obtain⟨x1,x2,rfl,e1,e2⟩:∃x1 x2,cargs= [x1,x2]/\s.eval x1=x/\s.eval x2=y:=by
       have hxs:cargs.map s.eval= [x,y]:=hxs;clear hts;rcases cargs with _|⟨x1,_|⟨x2,_|⟨x3,l⟩⟩⟩
       ·simp at hxs
       ·simp at hxs
       ·simp at hxs;exact⟨x1,x2,rfl,hxs.1,hxs.2⟩
       ·simp at hxs
      obtain⟨tys⟩:=ts;have hts':tys= [t,tx]:=hts;subst hts';unfold Oper.wp;have hrun:∀ {rr w'},(KG #[t,tx] ty #[a.eval x1,a.eval x2]).run P w= .ok rr w'->(execOp a.eval ⟨some d,.call ⟨.builtin .append,⟨[x1,x2]⟩,⟨[t,tx]⟩⟩,ty,pos,after,guard⟩).run P w= .ok (.value rr) w':=λk1=>by
       simp[execOp,resolve,invoke,builtin,k1]
      unfold ZpO at h;split at h
      ·rename_i id n sz;split at h
       ·rename_i es h3;obtain⟨g0,g1,g2,g3,g5,g6,g7,hk⟩:=h;subst g0;subst g1;have r1:=hs.eval x1;rw[e1]at r1;have r2:=hs.eval x2;rw[e2]at r2;obtain⟨rr,w',S',M',k1,k2,k3,k4⟩:=DY hs (d:=d) (ty:=ty) h1 r1 h3 g2 r2 h2 g5 g3 g4 g6 g7;rw[hrun k1];refine hn _ rr w' S' M' hk (k2.put hd k3 λi hi=> ?_) k4;simp only[Jb,Jn]at hi;subst hi;show(Zoh _ _ _ _ _ _ _).q d≠none;unfold Zoh;split<;>simp[Hp.setq,Za]
       ·exact h.elim
      ·obtain⟨g0,g5,g6,g7,hk⟩:=h;have hs1:=hs.nilVec (sz:=ei.size) (e:=ei.e) g0;have r1:=hs.eval x1;rw[e1]at r1;have hu:a.eval x1= .slice none 0 0:=r1.slnil_inv;have r1':RepS S { M with κ:=upd M.κ d 0 } (upd s.m.q d (some (.vec 0 ei.size ei.e))) (a.eval x1) (.vsl d ([]:List PV).length ei.size):=by
        rw[hu];refine .vsl d 0 ei.size _ ⟨none,0,rfl,JJ _,λh=>absurd h (Nat.lt_irrefl _)⟩ λn' sz' e' hq=> ?_
        rw[Za]at hq;cases hq;exact⟨JJ _,λ_=>⟨rfl,λ_=>rfl,λc hc=>by simp[Za]at hc⟩⟩
       have r2:=hs1.eval x2;have r2':RepS S { M with κ:=upd M.κ d 0 } (upd s.m.q d (some (.vec 0 ei.size ei.e))) (a.eval x2) y:=by rw[<-e2];exact r2
       have hav:VF P tx y { s.m.setq d (.vec 0 ei.size ei.e)with v:=upd s.m.v d (some []) }=some ys:=by
        cases y<;>first|exact h2|skip
        rename_i id n sz;have hne:d≠id:=λe=>g5.2.2.2 (by simp[e])
        simp only[VF]at h2 ⊢;split at h2
        ·rw[Zk _ _ hne];exact h2
        ·cases h2
       have hso:ZcG y { s.m.setq d (.vec 0 ei.size ei.e)with v:=upd s.m.v d (some []) } ys ei.size [d,d]:=by
        cases y<;>first|exact g5|skip
        rename_i id n sz;obtain⟨q1,q2,⟨e,q3⟩,q4⟩:=g5;have hne:d≠id:=λe=>q4 (by simp[e])
        refine⟨q1,q2,⟨e,?_⟩,by simpa using q4⟩;show upd s.m.q d _ id=_;rw[Zk _ _ hne];exact q3
       obtain⟨rr,w',S',M',k1,k2,k3,k4⟩:=DY hs1 (id:=d) (d:=d) (ty:=ty) (es:= []) h1 r1' (Za _ _ _) (Za _ _ _) r2' hav hso (.inl rfl) g4 (by simpa using g6) (by simpa using g7);rw[hrun k1];simp only[Zoh,if_true,St.with,Hp.setq,ZaV,JH,Nat.zero_add,Kl]at k2 k3;refine hn _ rr w' S' M' hk (k2.put hd k3 λi hi=> ?_) k4;simp only[Jb,Jn]at hi;subst hi;simp[ZX,Za]
      ·exact h.elim
     ·exact h.elim
    ·exact h.elim
   |_=>simp[Yt]at h
  |_=>simp[Yt]at h
 |buildSlice t len parts=>
  obtain⟨parts⟩:=parts;simp only at h;unfold Zt8 at h;split at h
  ·rename_i d ei hx;obtain⟨g1,g2,g3,g4,hk⟩:=h;obtain⟨p1,p2,p3⟩:=Zdw hs parts;subst g2;obtain⟨v,w',M',k1,k2,k3,k4⟩:=Zny hs (d:=d) hx p1 p2 p3 g1 g3 g4;unfold Oper.wp;have hrun:(execOp a.eval ⟨some d,.buildSlice t (parts.map λx=>(x.1,s.eval x.2)).length ⟨parts⟩,ty,pos,after,guard⟩).run P w= .ok (.value v) w':=by
    simp only[Jl]at k1;simp only[execOp,Jl];have e:(Array.map (λx:Nat×Operand=>(x.fst,a.eval x.snd)) ⟨parts⟩)=⟨parts.map λx=>(x.fst,a.eval x.snd)⟩:=by simp
    first|rw[e]|skip
    simp[k1]
   rw[hrun];refine hn _ v w' S M' hk (k2.put hd k3 λi hi=> ?_) k4;simp only[Jb,Jn]at hi;subst hi;show upd s.m.q d _ d≠none;rw[Za];simp
  ·exact h.elim
 |makeMap t r=>
  cases r with
  |some _=>exact h.elim
  |none=>
   simp only at h;unfold Oper.wp;have hrun:(execOp a.eval ⟨dst,.makeMap t none,ty,pos,after,guard⟩).run P w= .ok (.value (.map (some w.heap.size))) (w.alloc (.map #[] 0)):=by
    simp[execOp,Instr.makeMap,newObj,Kq]
   rw[hrun];have hnb:s.m.o w.heap.size=none:=by
    cases ho:s.m.o w.heap.size with
    |none=>rfl
    |some d=>have:=(hs.stable.o _ d ho).2.2.lt;omega
   have hold:∀k,k<w.heap.size->(w.alloc (.map #[] 0)).heap[k]? = w.heap[k]? :=λk hk=>ZZ w _ hk
   have hnew:(w.alloc (.map #[] 0)).heap[w.heap.size]? = some (.map #[] 0):=alloc_heap_new w _;have hst:Stab B S (w.alloc (.map #[] 0)) (upd s.m.o w.heap.size (some ⟨[],[]⟩)) s.m.it:=
    hs.stable.turn (JF _) (hs.stable.s.old hold) (λ_ _ _=>rfl) (λk hk _=>hold k hk) hs.new_ok (hs.S_m (JJ _)) ⟨[],hnew,rfl,rfl,λi hi=>by simp at hi,λi hi=>by simp at hi,λi hi=>by simp at hi⟩
     (λx hx=>by have:=(hs.stable.i _ x hx).2.1.lt;omega)
   have hs':=hs.growX (b:=w.heap.size) (λvs t f hh=>by have:=(Jr.1 hh).1;omega) (JF _) (λ_ _ _ _=>rfl) (λk hk _=>hold k hk) (by rw[T1];omega) hst (hs.om_new (JJ _) (λ_ _=>rfl) λk hk=>by first|rfl|exact Zk _ _ (Jy hk));exact hn _ _ _ S M (h w.heap.size hnb) (hs'.put hd (.clean (.mref _)) (by simp[Jb])) (hs.ext_alloc _)
 |mapEntry t x k=>
  simp only at h;unfold ZeM at h;split at h
  ·rename_i b ls z cs hxb htm hkc;split at h
   ·rename_i c hob;split at h
    ·rename_i r hf;obtain⟨g1,g2,hk⟩:=h;have ex:=hs.eval x;rw[hxb]at ex;have ek:=hs.eval k;rw[hkc]at ek;obtain⟨u,w',k1,k2,k3,k4,k5⟩:=Zo9 hs hob htm ek hf g1 g2;unfold Oper.wp;have hrun:(execOp a.eval ⟨dst,.mapEntry t x k,ty,pos,after,guard⟩).run P w= .ok (.value u) w':=by
      simp[execOp,ex.mref_inv,k1]
     rw[hrun];exact hn _ _ _ S M hk (k2.put hd k3 λi hi=>by have:=k5 i hi;cases i<;>exact this) k4
    ·exact h.elim
   ·exact h.elim
  ·exact h.elim
 |entryStore t x st v=>
  simp only at h;obtain⟨hdn,h⟩:=h;subst hdn;unfold ZfR at h;split at h
  ·rename_i b k hxb hst;split at h
   ·rename_i c hob;obtain⟨g1,g2,hk⟩:=h;have ex:=hs.eval x;rw[hxb]at ex;have es:=hs.eval st;rw[hst]at es;obtain⟨w',k1,k2,k3⟩:=Zpa (P:=P) (t:=t) hs hob (hs.eval v) (hs.eval_ids v) g2;unfold Oper.wp;have hrun:(execOp a.eval ⟨none,.entryStore t x st v,ty,pos,after,guard⟩).run P w= .ok .skip w':=by
     rw[Int.toNat_of_nonneg g1]at k1;simp[execOp,ex.mref_inv,es.int_inv,k1]
    rw[hrun];exact hn _ (.tuple #[]) w' S M hk (k2.put hd (.clean (.tup [] [] rfl λi hi=>by cases hi)) (by simp[Jb,Jq])) k3
   ·exact h.elim
  ·exact h.elim
 |range t x=>
  simp only at h;obtain⟨htm,h⟩:=h;have ex:=hs.eval x;unfold Zfz at h;split at h
  ·rename_i b hxb;split at h
   ·rename_i c hob;rw[hxb]at ex;obtain⟨q1,q2,es,e1,e2,e3,e4,e5,e6⟩:=hs.stable.o b c hob;unfold ZhA at htm;split at htm
    ·rename_i kt et hu;unfold Oper.wp;have hg:=MapKept.run_getObj_map (P:=P) e1;have hrun:(execOp a.eval ⟨dst,.range t x,ty,pos,after,guard⟩).run P w= .ok (.value (.pointer (some ⟨w.heap.size,0,none⟩))) (w.alloc (.mapIter (some b) es.length #[] es.length)):=by
      simp[execOp,KY,run_underlying hu,ex.mref_inv,hg,newObj,Kq]
     rw[hrun];have hold:∀k,k<w.heap.size->(w.alloc (.mapIter (some b) es.length #[] es.length)).heap[k]? = w.heap[k]? :=λk hk=>ZZ w _ hk
     have hnew:=alloc_heap_new w (.mapIter (some b) es.length #[] es.length);have hni:s.m.it w.heap.size=none:=by
      cases ho:s.m.it w.heap.size with
      |none=>rfl
      |some d=>have:=(hs.stable.i _ d ho).2.1.lt;omega
     have hst:Stab B S (w.alloc (.mapIter (some b) es.length #[] es.length)) s.m.o (upd s.m.it w.heap.size (some ⟨b,c.ks.length,[],none⟩)):=by
      refine⟨hs.stable.s.old hold,λk d hd=> ?_,λk y hy=> ?_⟩
      ·obtain⟨g1,g2,g3⟩:=hs.stable.o k d hd;exact⟨g1,g2,g3.move (JF _) (hold k g3.lt)⟩
      ·by_cases e:w.heap.size=k
       ·subst e;rw[Za]at hy;cases hy;refine⟨hs.new_ok,?_,λc hc=>by cases hc⟩;unfold IterAt;rw[hnew,e2]
       ·rw[Zk _ _ e]at hy;obtain⟨g1,g2⟩:=hs.stable.i k y hy;refine⟨g1,?_⟩;have:=g2.1.lt;unfold IterAt at g2 ⊢;rw[hold k this];exact g2
     have hs':=hs.growX (b:=w.heap.size) (λvs t f hh=>by have:=(Jr.1 hh).1;omega) (JF _) (λ_ _ _ _=>rfl) (λk hk _=>hold k hk) (by rw[T1];omega) hst (hs.om_new (JJ _) (λ_ _=>rfl) λk hk=>by first|rfl|exact Zk _ _ (Jy hk));exact hn _ _ _ S M (h w.heap.size hni) (hs'.put hd (.clean (.iptr _)) (by simp[Jb])) (hs.ext_alloc _)
    ·cases htm
   ·exact h.elim
  ·rename_i ks vs hxb;rw[hxb]at ex;generalize hval:a.eval x=u at ex;obtain⟨b,es,hu2,hS,e2,e3,e4,e5,e6⟩:∃b es,u= .map (some b)/\S.m b=some es/\es.length=ks.length/\vs.length=ks.length/\(∀i,i<ks.length->(es.getD i Jd).born=i)/\
     (∀i,i<ks.length->Rep S (es.getD i Jd).key (ks.getD i .any))/\(∀i,i<ks.length->Rep S (es.getD i Jd).val (vs.getD i .any)):=by
    cases ex with
    |clean r=>cases r with
     |rmap b es _ _ hS hk hv hb hK hV=>exact⟨b,es,rfl,hS,hk,hv,hb,hK,hV⟩
   subst hu2;have e1:=hs.stable.s.m b es hS;unfold ZhA at htm;split at htm
   ·rename_i kt et hu;unfold Oper.wp;have hg:=MapKept.run_getObj_map (P:=P) e1;have hrun:(execOp a.eval ⟨dst,.range t x,ty,pos,after,guard⟩).run P w= .ok (.value (.pointer (some ⟨w.heap.size,0,none⟩))) (w.alloc (.mapIter (some b) es.length #[] es.length)):=by
     simp[execOp,KY,run_underlying hu,hval,hg,newObj,Kq]
    rw[hrun];have hold:∀k,k<w.heap.size->(w.alloc (.mapIter (some b) es.length #[] es.length)).heap[k]? = w.heap[k]? :=λk hk=>ZZ w _ hk
    have hnew:=alloc_heap_new w (.mapIter (some b) es.length #[] es.length);have hni:s.m.it w.heap.size=none:=by
     cases ho:s.m.it w.heap.size with
     |none=>rfl
     |some d=>have:=(hs.stable.i _ d ho).2.1.lt;omega
    have hst:Stab B S (w.alloc (.mapIter (some b) es.length #[] es.length)) s.m.o (upd s.m.it w.heap.size (some ⟨b,ks.length,[],some ⟨ks,vs⟩⟩)):=by
     refine⟨hs.stable.s.old hold,λk d hd=> ?_,λk y hy=> ?_⟩
     ·obtain⟨g1,g2,g3⟩:=hs.stable.o k d hd;exact⟨g1,g2,g3.move (JF _) (hold k g3.lt)⟩
     ·by_cases e:w.heap.size=k
      ·subst e;rw[Za]at hy;cases hy;refine⟨hs.new_ok,?_,λc hc=>by cases hc;exact⟨es,hS,e2,e3,e4,e5,e6⟩⟩;unfold IterAt;rw[hnew,e2]
      ·rw[Zk _ _ e]at hy;obtain⟨g1,g2⟩:=hs.stable.i k y hy;refine⟨g1,?_⟩;have:=g2.1.lt;unfold IterAt at g2 ⊢;rw[hold k this];exact g2
    have hs':=hs.growX (b:=w.heap.size) (λvs t f hh=>by have:=(Jr.1 hh).1;omega) (JF _) (λ_ _ _ _=>rfl) (λk hk _=>hold k hk) (by rw[T1];omega) hst (hs.om_new (JJ _) (λ_ _=>rfl) λk hk=>by first|rfl|exact Zk _ _ (Jy hk));exact hn _ _ _ S M (h w.heap.size b hni) (hs'.put hd (.clean (.iptr _)) (by simp[Jb])) (hs.ext_alloc _)
   ·cases htm
  ·exact h.elim
 |next x isS=>
  cases isS with
  |true=>exact h.elim
  |false=>
   simp only at h;have ex:=hs.eval x;unfold Zmd at h;split at h
   ·rename_i ib hxb;split at h
    ·rename_i itc hib;split at h
     ·rename_i c hob;obtain⟨hlen,hover,hgo⟩:=h;rw[hxb]at ex;have hxv:a.eval x= .pointer (some ⟨ib,0,none⟩):=ex.iptr_inv;obtain⟨i1,i2,i3⟩:=hs.stable.i ib itc hib;obtain⟨es,e1,e2,e3,e4,e5,e6⟩:=hs.mapIt hib hob;unfold IterAt at i2;have hborn:∀y∈es,y.born<itc.n:=λy hy=>by
       obtain⟨j,hj,rfl⟩:=Jg hy;have:=e4 j (by omega);rw[getD_lt hj]at this;omega
      unfold Oper.wp;have he:∀v w',(Instr.next (.pointer (some ⟨ib,0,none⟩)) false ty).run P w= .ok v w'->(execOp a.eval ⟨dst,.next x false,ty,pos,after,guard⟩).run P w= .ok (.value v) w':=λv w' hh=>by
       simp[execOp,hxv,hh]
      rcases run_next_at (P:=P) w ty ib itc.b itc.n itc.n ⟨itc.seen⟩ ⟨es⟩ es.length i2 e1 (by simpa using hborn) (JJ _)with ⟨hz,hrun⟩|⟨e,he1,w1,hw1,hrun⟩
      ·rw[he _ _ hrun];refine hn _ _ _ S M (hover λi hi=> ?_) (hs.put hd (.clean (.tup [.bool false] [.bool false] rfl (λi hi=>by
        match i,hi with
        |0,_=>exact .bool _))) (by simp[Jb,Jq])) (JO _ _ _)
       have hil:i<es.length:=by omega
       refine JV λhno=> ?_
       have hmem:es[i]∈(leftOf ⟨es⟩ ⟨itc.seen⟩).toList:=by
        unfold leftOf;simp only[Kt,KI];have hb:=e4 i (by omega);rw[getD_lt hil]at hb;refine⟨Ju hil,?_⟩;rw[hb];simpa using hno
       have h0:(leftOf ⟨es⟩ ⟨itc.seen⟩).toList= []:=by
        apply List.eq_nil_of_length_eq_zero;simpa using hz
       rw[h0]at hmem;cases hmem
      ·rw[he _ _ hrun];unfold leftOf at he1;simp only[Kt,KI]at he1;obtain⟨hm,hns⟩:=he1;obtain⟨j,hj,rfl⟩:=Jg hm;have hb:=e4 j (by omega);have k5:=e5 j (by omega);have k6:=e6 j (by omega);rw[getD_lt hj]at hb k5 k6;rw[hb]at hns ⊢;have hns':j∉itc.seen:=by simpa using hns
       have hw1':w1.heap=w.heap:=by rcases hw1 with rfl|rfl<;>rfl
       have hw2:∀k,k≠ib->(ChangeMaps.setBlock w1 ib (.mapIter (some itc.b) itc.n ((⟨itc.seen⟩:Array Nat).push j) es.length)).heap[k]? = w.heap[k]? :=λk hk=>by
        show(w1.heap.setIfInBounds ib _)[k]? = _;rw[hw1',Array.getElem?_setIfInBounds_ne (Jy hk)]
       have hlt:ib<w.heap.size:=(Jr.1 i2).1;have hw3:(ChangeMaps.setBlock w1 ib (.mapIter (some itc.b) itc.n ((⟨itc.seen⟩:Array Nat).push j) es.length)).heap[ib]? = some (.mapIter (some itc.b) itc.n ⟨itc.seen++ [j]⟩ itc.n):=by
        show(w1.heap.setIfInBounds ib _)[ib]? = _;rw[hw1',Array.getElem?_setIfInBounds_self_of_lt hlt];have:es.length=itc.n:=by omega
        rw[this];simp
       have hnc:∀vs t f,w.heap[ib]? ≠ some (.cells vs t f):=λvs t f hh=>by rw[i2]at hh;cases hh
       have hSm:S.m ib=none:=by
        cases hm:S.m ib with
        |none=>rfl
        |some l=>have:=hs.stable.s.m ib l hm;rw[i2]at this;cases this
       have hsz:(ChangeMaps.setBlock w1 ib (.mapIter (some itc.b) itc.n ((⟨itc.seen⟩:Array Nat).push j) es.length)).heap.size=w.heap.size:=by
        show(w1.heap.setIfInBounds ib _).size=_;rw[hw1'];simp
       have hst:Stab B S (ChangeMaps.setBlock w1 ib (.mapIter (some itc.b) itc.n ((⟨itc.seen⟩:Array Nat).push j) es.length)) s.m.o (upd s.m.it ib (some ⟨itc.b,itc.n,itc.seen++ [j],itc.c⟩)):=by
        refine⟨U6 hs.stable.s hnc hSm hw2,λk d hd=> ?_,λk y hy=> ?_⟩
        ·obtain⟨g1,g2,g3⟩:=hs.stable.o k d hd;refine⟨g1,g2,g3.move (JF _) (hw2 k (λe=> ?_))⟩;subst e;obtain⟨es',f1,_⟩:=g3;rw[i2]at f1;cases f1
        ·by_cases e:ib=k
         ·subst e;rw[Za]at hy;cases hy;exact⟨i1,hw3,i3⟩
         ·rw[Zk _ _ e]at hy;obtain⟨g1,g2⟩:=hs.stable.i k y hy;refine⟨g1,?_⟩;unfold IterAt at g2 ⊢;rw[hw2 k (Jy e)];exact g2
       have hs':=hs.special hnc hw2 hsz hst (λk d hk=>⟨λe=>(by subst e;obtain⟨⟨es,k1,_⟩,_⟩:=(hs.rm _ d hk).2.2.2;rw[i2]at k1;cases k1),(hs.rm k d hk).2.2.1⟩);have ht:w1.os=w.os/\w1.tape=w.tape/\w1.output=w.output:=by rcases hw1 with rfl|rfl<;>exact⟨rfl,rfl,rfl⟩
       refine hn _ _ _ S M (hgo j (by omega) hns') (hs'.put hd (.clean (.tup [.bool true,_,_] [.bool true,_,_] rfl (λi hi=>by
        match i,hi with
        |0,_=>exact .bool _
        |1,_=>exact k5
        |2,_=>exact k6))) (λi hi=> ?_)) ⟨JF _,λ_ _=>⟨λ_=>rfl,rfl⟩,⟨ht.1,ht.2.1,ht.2.2,by rw[hsz];exact JJ _,λk hk=>hw2 k (λe=>i1 (e▸hk))⟩⟩
       simp only[Jb,Jq,Kl,JI,Jj]at hi;rcases hi with hi|hi
       ·exact absurd hi (k5.clean_ids i)
       ·exact absurd hi (k6.clean_ids i)
     ·exact h.elim
    ·exact h.elim
   ·exact h.elim
 |binOp bop t x y yt=>
  split at h<;>try(exact h.elim)
  all_goals rename_i heq
  all_goals cases heq
  obtain⟨⟨hk,hask⟩,h⟩:=h;have hE:=hs.eval x;have hp:s.eval x= .sl .no []:=by
   revert hask
   unfold ZhT;split
   ·rename_i es he;intro hem;rw[he,List.isEmpty_iff.1 hem]
   ·intro hf;cases hf
  rw[hp]at hE;obtain⟨ad,cap,e,_⟩:=hE.sl_inv.sl_len;obtain⟨e',he⟩:=ZiG hk;have hrun:(KX t (.slice ad 0 cap) (.slice none 0 0)).run P w= .ok ad.isNone w:=by
   have r2:∀d:Nat,(K0 (d+1) t (.slice none 0 cap) (.slice none 0 0)).run P w= .ok true w:=λd=>by simp[K0,ZR he]
   cases ad with
   |none=>exact r2 _
   |some b=>exact Y5 _ t e' b 0 cap he
  have hS:Snd P B S s a w (do eqGuard .eql t x (.const (.slice none 0 0)) (a.eval x) (a.eval (.const (.slice none 0 0)));binOp .eql t (a.eval x) (a.eval (.const (.slice none 0 0)))) ⟨True,.bool ad.isNone,s.m⟩:=by
   rw[show a.eval x= .slice ad 0 cap from e,show a.eval (.const (.slice none 0 0))= .slice none 0 0 from rfl];refine Snd.pure hs (v:= .bool ad.isNone) ?_ (.clean (.bool _)) (by simp[Jb]);have hg:(eqGuard .eql t x (.const (.slice none 0 0)) (.slice ad 0 cap) (.slice none 0 0)).run P w= .ok () w:=Vk (by simp) (by simp);simp only[Ji,hg,Jc];have:=Tq (op:= .eql) (.inl rfl) (by simp) (by simp) (by simp) (by simp) hrun;simpa using this
  exact Done.of_snd TM hd hS next Q λv w' S' M' hs' he'=>hn _ v w' S' M' (h _) hs' he'
 |_=>exact h.elim
end
open Go.RowKit
def Ta (want:Bool) (p:PV) (A B:Prop):Prop:=
 match p with
 | .bool b=>(b=want->A)/\(b= !want->B)
 | .tup _=>B
 |_=>False
def Znx (P:Program) (x:Bool) (m:Hp) (c:Option (FuncId×List PV)) (K:PV->Hp->Prop):Prop:=
 match c with
 |some (g,args)=>(Jp m args/\((∃r,Pure P g (Jt m args) r/\K r m)\/(x=true/\ZsD P g (Jt m args) m K)))\/(x=true/\ZsC P g (Jt m args) m K)
 |none=>False
def Zky (r:ARes) (K:PV->Hp->Prop):Prop:=r.ok/\K r.v r.m
def ZiR (P:Program) (x:Bool) (o:Oper) (s:St) (K:St->Prop):Prop:=
 match o.op with
 | .call { callee:= .value f,args,argTypes }=>Znx P x s.m (Yt s.eval { callee:= .value f,args,argTypes }) λr m=>K ((s.with m).put o.dst r)
 | .call { callee:= .builtin .append,args,argTypes }=>if Zqb (args.toList.map s.eval)||vmB o.dst s.m then x=true/\Zt7 P o.dst argTypes.toList (args.toList.map s.eval) s.m λr m=>K ((s.with m).put o.dst r)else Zky (aop P o s.eval s.m) λv m=>K ((s.with m).put o.dst v)
 | .buildSlice t len parts=>if vmB o.dst s.m then x=true/\Zt8 P o.dst t len (parts.toList.map λy=>(y.1,s.eval y.2)) s.m λr m=>K ((s.with m).put o.dst r)else Zky (aop P o s.eval s.m) λv m=>K ((s.with m).put o.dst v)
 | .makeMap _ none=>x=true/\ZqY s.m λr m=>K ((s.with m).put o.dst r)
 | .mapEntry t y k=>x=true/\ZeM P t (s.eval y) (s.eval k) s.m λr m=>K ((s.with m).put o.dst r)
 | .entryStore t y st v=>x=true/\o.dst=none/\ZfR (s.eval y) (s.eval st) (s.eval v) s.m λr m=>K ((s.with m).put o.dst r)
 | .range t y=>x=true/\ZhA P t=true/\Zfz (s.eval y) s.m λr m=>K ((s.with m).put o.dst r)
 | .next y false=>x=true/\Zmd (s.eval y) s.m λr m=>K ((s.with m).put o.dst r)
 | .binOp .eql t y (.const (.slice none 0 0)) _=>if ZhT (s.eval y)then x=true/\Zd0 P t= .slc/\ ∀b,K ((s.with s.m).put o.dst (.bool b))else Zky (aop P o s.eval s.m) λv m=>K ((s.with m).put o.dst v)
 |_=>Zky (aop P o s.eval s.m) λv m=>K ((s.with m).put o.dst v)
def vcA (P:Program) (x:Bool) (ops:Array Oper) (K:St->Prop):List Oper->St->Prop
 | [],s=>K s
 |o::rest,s=>FR s.n o.dst/\match o.guard with
  |none=>ZiR P x o s (vcA P x ops K rest)
  |some (j,want)=>match(ops[j]?).bind (·.dst)with
   |none=>vcA P x ops K rest (s.put o.dst (.tup []))
   |some d=>d<s.n/\Ta want (s.fr d) (ZiR P x o s (vcA P x ops K rest)) (vcA P x ops K rest (s.put o.dst (.tup [])))
def ZkH (P:Program) (ops:Array Oper) (K:St->Prop):List Oper->St->Prop
 | [],s=>K s
 |o::rest,s=>FR s.n o.dst/\((gd ops s o=some true/\((∃v m',Wc P o s.eval s.m v m'/\ZkH P ops K rest ((s.with m').put o.dst v))\/ZdZ P o s (ZkH P ops K rest)))\/(gd ops s o=some false/\ZkH P ops K rest (s.put o.dst (.tup []))))
def GT (p:PV) (A B:Prop):Prop:=
 match p with
 | .bool b=>(b=true->A)/\(b=false->B)
 |_=>False
section
variable {P:Program} {s:St}
theorem Zm5 {o:Oper} {K K':St->Prop} (hK:∀s,K s->K' s) (h:ZdZ P o s K):ZdZ P o s K':=by
 obtain⟨dst,op,ty,pos,after,guard⟩:=o;unfold ZdZ at h ⊢;simp only at h ⊢;split at h;rename_i c;split at h
 ·rename_i g args hc;rcases h with ⟨h1,h2⟩|⟨args0,m0,r,m1,f',g',a1,a2,a3,a4⟩
  rotate_left
  exact .inr ⟨args0,m0,r,m1,f',g',a1,a2,a3,hK _ a4⟩;refine .inl ⟨h1,?_⟩;rcases h2 with ⟨r,a1,a2,a3⟩|⟨b,c,A,r,c',a1,a2,a3,a4⟩|⟨r,c,a1,a2⟩|⟨r,a1,a2⟩|⟨r,n,sz,e,d,a1,a2,a3⟩;exact .inl ⟨r,a1,a2,hK _ a3⟩;exact .inr (.inl ⟨b,c,A,r,c',a1,a2,a3,hK _ a4⟩);exact .inr (.inr (.inl ⟨r,c,a1,λb hb=>hK _ (a2 b hb)⟩));exact .inr (.inr (.inr (.inl ⟨r,a1,hK _ a2⟩)));exact .inr (.inr (.inr (.inr ⟨r,n,sz,e,d,a1,a2,hK _ a3⟩)))
 split at h;unfold Zt7 at h ⊢;split at h;split at h;obtain⟨g,h⟩:=h;refine⟨g,?_⟩;unfold ZpO at h ⊢;split at h;split at h;obtain⟨g0,g1,g2,g3,g4,g5,g6,hk⟩:=h;exact⟨g0,g1,g2,g3,g4,g5,g6,hK _ hk⟩;exact h.elim;obtain⟨g0,g1,g2,g3,hk⟩:=h;exact⟨g0,g1,g2,g3,hK _ hk⟩;exact h.elim;exact h.elim;exact h.elim;exact h.elim;unfold Zt8 at h ⊢;split at h;obtain⟨g0,g1,g2,g3,hk⟩:=h;exact⟨g0,g1,g2,g3,hK _ hk⟩;exact h.elim;exact λb hb=>hK _ (h b hb)
 unfold ZeM at h ⊢;split at h;split at h;split at h;exact⟨h.1,h.2.1,hK _ h.2.2⟩;exact h.elim;exact h.elim;exact h.elim;obtain⟨hd,h⟩:=h;refine⟨hd,?_⟩;unfold ZfR at h ⊢;split at h;split at h;exact⟨h.1,h.2.1,hK _ h.2.2⟩;exact h.elim;exact h.elim;rename_i t x;obtain⟨h1,h2⟩:=h;refine⟨h1,?_⟩;unfold Zfz at h2 ⊢;split at h2;split at h2;exact λib hib=>hK _ (h2 ib hib)
 exact h2.elim;exact λib b hib=>hK _ (h2 ib b hib)
 exact h2.elim;rename_i x;unfold Zmd at h ⊢;split at h;split at h;split at h;exact⟨h.1,λhh=>hK _ (h.2.1 hh),λi h1 h2=>hK _ (h.2.2 i h1 h2)⟩;exact h.elim;exact h.elim;exact h.elim;exact⟨h.1,λb=>hK _ (h.2 b)⟩;exact h.elim
theorem Zf8 {x:Bool} {o:Oper} {K:St->Prop} (h:ZiR P x o s K):(∃v m',Wc P o s.eval s.m v m'/\K ((s.with m').put o.dst v))\/(x=true/\ZdZ P o s K):=by
 unfold ZiR at h;split at h;rename_i f args ts heq;unfold Znx at h;split at h;rename_i g xs hc;rcases h with ⟨h1,⟨r,h2,h3⟩|⟨hx,h2⟩⟩|⟨hx,h2⟩;exact .inl ⟨r,s.m,.inr ⟨_,g,xs,heq,hc,h1,h2,rfl⟩,h3⟩;refine .inr ⟨hx,?_⟩;unfold ZdZ;rw[heq];simp only[hc];exact .inl ⟨h1,h2⟩;refine .inr ⟨hx,?_⟩;unfold ZdZ;rw[heq];simp only[hc];exact .inr h2;exact h.elim;rename_i xs ts heq;split at h;obtain⟨hx,h2⟩:=h;refine .inr ⟨hx,?_⟩;unfold ZdZ;rw[heq];simp only[Yt];exact h2;exact .inl ⟨_,_,.inl ⟨h.1,rfl,rfl⟩,h.2⟩;rename_i t len parts heq;split at h;obtain⟨hx,h2⟩:=h;refine .inr ⟨hx,?_⟩;unfold ZdZ;rw[heq];exact h2;exact .inl ⟨_,_,.inl ⟨h.1,rfl,rfl⟩,h.2⟩;rename_i heq;exact .inr ⟨h.1,by unfold ZdZ;rw[heq];exact h.2⟩;rename_i heq;exact .inr ⟨h.1,by unfold ZdZ;rw[heq];exact h.2⟩;rename_i heq;exact .inr ⟨h.1,by unfold ZdZ;rw[heq];exact h.2⟩;rename_i heq;exact .inr ⟨h.1,by unfold ZdZ;rw[heq];exact h.2⟩;rename_i heq;exact .inr ⟨h.1,by unfold ZdZ;rw[heq];exact h.2⟩;rename_i heq;split at h;rename_i hask;exact .inr ⟨h.1,by unfold ZdZ;rw[heq];exact⟨⟨h.2.1,hask⟩,h.2.2⟩⟩;exact .inl ⟨_,_,.inl ⟨h.1,rfl,rfl⟩,h.2⟩;exact .inl ⟨_,_,.inl ⟨h.1,rfl,rfl⟩,h.2⟩
theorem Ue {x:Bool} {ops:Array Oper} {K:St->Prop}:∀(l:List Oper) (s:St),vcA P x ops K l s->ZkH P ops K l s
 | [],s,h=>h
 |o::rest,s,h=>by
  obtain⟨hd,h⟩:=h;refine⟨hd,?_⟩;have op:∀ {s},ZiR P x o s (vcA P x ops K rest)->(∃v m',Wc P o s.eval s.m v m'/\ZkH P ops K rest ((s.with m').put o.dst v))\/ZdZ P o s (ZkH P ops K rest):=λh=>by
   rcases Zf8 h with ⟨v,m',h1,h2⟩|⟨_,h1⟩;exact .inl ⟨v,m',h1,Ue rest _ h2⟩;exact .inr (Zm5 (λs' hs'=>Ue rest s' hs') h1)
  unfold gd;cases hg:o.guard with
  |none=>
   rw[hg]at h;exact .inl ⟨rfl,op h⟩
  |some jw=>
   obtain⟨j,want⟩:=jw;rw[hg]at h;simp only at h ⊢;cases hd':(ops[j]?).bind (·.dst)with
   |none=>rw[hd']at h;exact .inr ⟨rfl,Ue rest _ h⟩
   |some d=>
    rw[hd']at h;simp only at h ⊢;obtain⟨hlt,h⟩:=h;rw[if_pos hlt];unfold Ta at h;split at h
    ·rename_i b hb;rw[hb]
     by_cases hbw:b=want
     ·left;subst hbw;exact⟨by simp[gdOf],op (h.1 rfl)⟩
     ·right;refine⟨by simp[gdOf,hbw],Ue rest _ (h.2 ?_)⟩;cases b<;>cases want<;>simp_all
    ·rename_i l hb;rw[hb];exact .inr ⟨rfl,Ue rest _ h⟩
    ·exact h.elim
theorem DC {ops:Array Oper} {K:St->Prop}:∀(l:List Oper) (s:St),vcA P false ops K l s->ZoZ P ops K l s
 | [],s,h=>h
 |o::rest,s,h=>by
  obtain⟨hd,h⟩:=h;refine⟨hd,?_⟩;have op:∀ {s},ZiR P false o s (vcA P false ops K rest)-> ∃v m',Wc P o s.eval s.m v m'/\ZoZ P ops K rest ((s.with m').put o.dst v):=λh=>by
   rcases Zf8 h with ⟨v,m',h1,h2⟩|⟨h1,_⟩;exact⟨v,m',h1,DC rest _ h2⟩;cases h1
  unfold gd;cases hg:o.guard with
  |none=>
   rw[hg]at h;exact .inl ⟨rfl,op h⟩
  |some jw=>
   obtain⟨j,want⟩:=jw;rw[hg]at h;simp only at h ⊢;cases hd':(ops[j]?).bind (·.dst)with
   |none=>rw[hd']at h;exact .inr ⟨rfl,DC rest _ h⟩
   |some d=>
    rw[hd']at h;simp only at h ⊢;obtain⟨hlt,h⟩:=h;rw[if_pos hlt];unfold Ta at h;split at h
    ·rename_i b hb;rw[hb]
     by_cases hbw:b=want
     ·left;subst hbw;exact⟨by simp[gdOf],op (h.1 rfl)⟩
     ·right;refine⟨by simp[gdOf,hbw],DC rest _ (h.2 ?_)⟩;cases b<;>cases want<;>simp_all
    ·rename_i l hb;rw[hb];exact .inr ⟨rfl,DC rest _ h⟩
    ·exact h.elim
theorem Sc {B:Frm} {ops:Array Oper} {K:St->Prop} {Qc:Exit->Act->World->Prop} {S0:Stable} {w0:World} (hQ:∀s' S' M' a' w',K s'->Sim B S' M' s' a' w'->Ext B S0 S' w0 w'->Qc .normal a' w'):
  ∀(l:List Oper) (k:Nat) (s:St),(∀j,l[j]? = ops[k+j]?)->ZkH P ops K l s-> ∀S M a w,Sim B S M s a w->Ext B S0 S w0 w->wpOps P ops Qc (List.range' k l.length) a w
 | [],k,s,_,h,S,M,a,w,hs,he=>hQ s S M a w h hs he
 |o::rest,k,s,hl,h,S,M,a,w,hs,he=>by
  have h0:ops[k]? = some o:=by simpa using(hl 0).symm
  have hl':∀j,rest[j]? = ops[(k+1)+j]? :=λj=>by have:=hl (j+1);simpa[KN,KU 1 j]using this
  obtain⟨hd,h⟩:=h;simp only[JB,List.range'_succ,wpOps,h0];rcases h with ⟨hg,⟨v,m',hst,hrest⟩|hsp⟩|⟨hg,hrest⟩;rw[F5 hs hg,if_pos rfl];exact .inl (Sn hs (X6 hd) hst _ _ λu w' S' M' hs' he'=>Sc hQ rest (k+1) _ hl' hrest S' M' _ w' hs' (he.trans he'));rw[F5 hs hg,if_pos rfl];exact .inl (Dx hs (X6 hd) hsp _ _ λs' u w' S' M' hk hs' he'=>Sc hQ rest (k+1) s' hl' hk S' M' _ w' hs' (he.trans he'));rw[F5 hs hg,if_neg (by simp)];exact Sc hQ rest (k+1) _ hl' hrest S M _ w (Fn hs hd) he
theorem ZgG {id:Nat} {ops:Array Oper} {Q:Exit->St->Prop} (h:ZkH P ops (Q .normal) ops.toList s):awp P (.region id ops false) Q s:=λB S M a w hs=>by
 refine wp_region ?_;have:=Sc (B:=B) (S0:=S) (w0:=w) (Qc:=λe a' w'=>∃s' S' M',Q e s'/\Sim B S' M' s' a' w'/\Ext B S S' w w') (λs' S' M' a' w' h1 h2 h3=>⟨s',S',M',h1,h2,h3⟩) ops.toList 0 s (by simp) h S M a w hs (JO _ _ _);rw[<-List.range_eq_range']at this;simpa using this
def vc (P:Program):Code->(Exit->St->Prop)->St->Prop
 | .skip,Q,s=>Q .normal s
 | .label _,Q,s=>Q .normal s
 | .ret,Q,s=>Q .ret s
 | .exit id,Q,s=>Q (.exit id) s
 | .goto l,Q,s=>Q (.goto l) s
 | .seq (.label l) y,Q,s=>awp P (.seq (.label l) y) Q s
 | .seq x y,Q,s=>vc P x (Xj (vc P y Q) Q) s
 | .cond c x y,Q,s=>GT (s.eval c) (vc P x Q s) (vc P y Q s)
 | .block id c,Q,s=>vc P c (Td id Q) s
 | .region _ ops false,Q,s=>vcA P true ops (Q .normal) ops.toList s
 |c,Q,s=>awp P c Q s
theorem Zjw {x y:Code} {Q:Exit->St->Prop} {s:St} (hx:∀Q s,vc P x Q s->awp P x Q s) (hy:∀Q s,vc P y Q s->awp P y Q s) (h:vc P x (Xj (vc P y Q) Q) s):awp P (.seq x y) Q s:=
 FK (YR (λe s' h'=>by
     cases e with
     |normal=>exact hy Q s' h'
     |_=>exact h') (hx _ s h))
theorem Z3:∀(c:Code) (Q:Exit->St->Prop) (s:St),vc P c Q s->awp P c Q s
 | .skip,Q,s,h=>Fe h
 | .label _,Q,s,h=>Zex h
 | .ret,Q,s,h=>ZqH h
 | .exit id,Q,s,h=>Zor h
 | .goto l,Q,s,h=>Zos h
 | .seq x y,Q,s,h=>by
  cases x with
  |label l=>exact h
  |_=>exact Zjw (Z3 _) (Z3 y) h
 | .cond c x y,Q,s,h=>by
  unfold vc GT at h;split at h;rename_i b hb;refine Zop hb ?_;cases b;exact Z3 y Q s (h.2 rfl);exact Z3 x Q s (h.1 rfl);exact h.elim
 | .block id c,Q,s,h=>Zlf (Z3 c _ s h)
 | .region _ ops false,Q,s,h=>ZgG (Ue _ _ h)
 | .region _ ops true,Q,s,h=>h
 | .loop c,Q,s,h=>h
 | .rangeFunc ..,Q,s,h=>h
 | .scope c,Q,s,h=>h
 | .refuse _,Q,s,h=>h
end
class KS where
 k:St->Prop
class LST where
 l:List Oper
class COD where
 c:Code
class QS where
 q:Exit->St->Prop
class PR where
 p:Prop
class KR where
 k:PV->Hp->Prop
class KV where
 k:PV->Prop
class KH where
 m:Hp
def Zx3 (r:ARes) [K:KR]:Prop:=Zky r K.k
def Th (want:Bool) (p:PV) [A:PR] [B:PR]:Prop:=Ta want p A.p B.p
def Zf0 (p:PV) [A:PR] [B:PR]:Prop:=GT p A.p B.p
def UJ (P:Program) (x:Bool) [M:KH] (c:Option (FuncId×List PV)) [K:KR]:Prop:=Znx P x M.m c K.k
def vA (P:Program) (x:Bool) [K:KS] [G:LST] [L:LST] (s:St):Prop:=vcA P x G.l.toArray K.k L.l s
def Zwk (P:Program) (x:Bool) [K:KS] [G:LST] [L:LST] (o:Oper) (s:St):Prop:=vcA P x G.l.toArray K.k (o::L.l) s
def vOp (P:Program) (x:Bool) [K:KS] (o:Oper) (s:St):Prop:=ZiR P x o s K.k
def ZjJ [G:LST] (j:Nat):Option Nat:=(G.l[j]?).bind (·.dst)
def vC (P:Program) [C:COD] [Q:QS] (s:St):Prop:=vc P C.c Q.q s
def vQ [Q:QS] (e:Exit) (s:St):Prop:=Q.q e s
section
variable {P:Program} {x:Bool}
theorem ZrR (ok:Prop) (v:PV) (m:Hp) (K:KR):@Zx3 ⟨ok,v,m⟩ K=(ok/\K.k v m):=rfl
theorem Znt (A B:PR):@Th true (.bool true) A B=A.p:=by simp[Th,Ta]
theorem Zns (A B:PR):@Th true (.bool false) A B=B.p:=by simp[Th,Ta]
theorem Znr (A B:PR):@Th false (.bool true) A B=B.p:=by simp[Th,Ta]
theorem Znq (A B:PR):@Th false (.bool false) A B=A.p:=by simp[Th,Ta]
theorem Zkt (w:Bool) (l:List PV) (A B:PR):@Th w (.tup l) A B=B.p:=rfl
theorem ZrG (A B:PR):@Zf0 (.bool true) A B=A.p:=by simp[Zf0,GT]
theorem ZrF (A B:PR):@Zf0 (.bool false) A B=B.p:=by simp[Zf0,GT]
theorem ZjL (o:Oper) (l:List Oper):@ZjJ ⟨o::l⟩ 0=o.dst:=rfl
theorem ZjK (o:Oper) (l:List Oper) (j:Nat):@ZjJ ⟨o::l⟩ (j+1)= @ZjJ ⟨l⟩ j:=by simp[ZjJ]
theorem Zt6 (K:KS) (G:LST) (s:St):@vA P x K G ⟨[]⟩ s=K.k s:=rfl
theorem Zry (K:KS) (G:LST) (o:Oper) (l:List Oper) (s:St):@vA P x K G ⟨o::l⟩ s= @Zwk P x K G ⟨l⟩ o s:=rfl
theorem Zkv (K:KS) (G L:LST) (d:Option Tmp) (op:Op) (ty:TypeId) (pos:String) (af:Array Edge) (s:St):
  @Zwk P x K G L ⟨d,op,ty,pos,af,none⟩ s=(FR s.n d/\ @vOp P x ⟨@vA P x K G L⟩ ⟨d,op,ty, "",#[],none⟩ s):=by
 have h:ZiR P x ⟨d,op,ty,pos,af,none⟩ s=ZiR P x ⟨d,op,ty, "",#[],none⟩ s:=by
  funext K;cases op<;>rfl
 show(FR s.n d/\ZiR P x ⟨d,op,ty,pos,af,none⟩ s (vcA P x G.l.toArray K.k L.l))=_;rw[h];rfl
theorem Zku (K:KS) (G L:LST) (d:Option Tmp) (op:Op) (ty:TypeId) (pos:String) (af:Array Edge) (j:Nat) (want:Bool) (s:St) (d':Nat) (h:@ZjJ G j=some d'):
  @Zwk P x K G L ⟨d,op,ty,pos,af,some (j,want)⟩ s=(FR s.n d/\d'<s.n/\ @Th want (s.fr d') ⟨@vOp P x ⟨@vA P x K G L⟩ ⟨d,op,ty, "",#[],none⟩ s⟩ ⟨@vA P x K G L (s.put d (.tup []))⟩):=by
 have h':(G.l.toArray[j]?).bind (·.dst)=some d':=by simpa[ZjJ]using h
 have e:ZiR P x ⟨d,op,ty,pos,af,some (j,want)⟩ s=ZiR P x ⟨d,op,ty, "",#[],none⟩ s:=by
  funext K;cases op<;>rfl
 show(FR s.n d/\(match(G.l.toArray[j]?).bind (·.dst)with
   |none=>vcA P x G.l.toArray K.k L.l (s.put d (.tup []))
   |some d=>d<s.n/\Ta want (s.fr d) (ZiR P x ⟨_,op,ty,pos,af,some (j,want)⟩ s (vcA P x G.l.toArray K.k L.l)) (vcA P x G.l.toArray K.k L.l (s.put _ (.tup [])))))=_
 rw[h',e];rfl
theorem ZpU (K:KS) (d:Option Tmp) (f:Operand) (args:Array Operand) (ts:Array TypeId) (ty:TypeId) (s:St):
  @vOp P x K ⟨d,.call ⟨.value f,args,ts⟩,ty, "",#[],none⟩ s= @UJ P x ⟨s.m⟩ (Yt s.eval ⟨.value f,args,ts⟩) ⟨λr m=>K.k ((s.with m).put d r)⟩:=rfl
theorem ZrE (Q:QS) (s:St):@vC P ⟨.skip⟩ Q s= @vQ Q .normal s:=rfl
theorem ZpQ (l:Nat) (Q:QS) (s:St):@vC P ⟨.label l⟩ Q s= @vQ Q .normal s:=rfl
theorem Zt9 (Q:QS) (s:St):@vC P ⟨.ret⟩ Q s= @vQ Q .ret s:=rfl
theorem ZrB (id:Nat) (Q:QS) (s:St):@vC P ⟨.exit id⟩ Q s= @vQ Q (.exit id) s:=rfl
theorem ZrC (l:Nat) (Q:QS) (s:St):@vC P ⟨.goto l⟩ Q s= @vQ Q (.goto l) s:=rfl
theorem ZhH (y:Code) (Q:QS) (s:St):@vC P ⟨.seq (.skip) y⟩ Q s= @vC P ⟨.skip⟩ ⟨Xj (@vC P ⟨y⟩ Q) Q.q⟩ s:=rfl
theorem Zkr (y:Code) (Q:QS) (s:St):@vC P ⟨.seq (.ret) y⟩ Q s= @vC P ⟨.ret⟩ ⟨Xj (@vC P ⟨y⟩ Q) Q.q⟩ s:=rfl
theorem ZhE (id:Nat) (y:Code) (Q:QS) (s:St):@vC P ⟨.seq (.exit id) y⟩ Q s= @vC P ⟨.exit id⟩ ⟨Xj (@vC P ⟨y⟩ Q) Q.q⟩ s:=rfl
theorem ZhF (l:Nat) (y:Code) (Q:QS) (s:St):@vC P ⟨.seq (.goto l) y⟩ Q s= @vC P ⟨.goto l⟩ ⟨Xj (@vC P ⟨y⟩ Q) Q.q⟩ s:=rfl
theorem Zks (a b:Code) (y:Code) (Q:QS) (s:St):@vC P ⟨.seq (.seq a b) y⟩ Q s= @vC P ⟨.seq a b⟩ ⟨Xj (@vC P ⟨y⟩ Q) Q.q⟩ s:=rfl
theorem ZhD (c:Operand) (a b:Code) (y:Code) (Q:QS) (s:St):@vC P ⟨.seq (.cond c a b) y⟩ Q s= @vC P ⟨.cond c a b⟩ ⟨Xj (@vC P ⟨y⟩ Q) Q.q⟩ s:=rfl
theorem ZfX (id:Nat) (c:Code) (y:Code) (Q:QS) (s:St):@vC P ⟨.seq (.block id c) y⟩ Q s= @vC P ⟨.block id c⟩ ⟨Xj (@vC P ⟨y⟩ Q) Q.q⟩ s:=rfl
theorem ZdQ (id:Nat) (l:Array Oper) (d:Bool) (y:Code) (Q:QS) (s:St):@vC P ⟨.seq (.region id l d) y⟩ Q s= @vC P ⟨.region id l d⟩ ⟨Xj (@vC P ⟨y⟩ Q) Q.q⟩ s:=rfl
theorem ZhG (c:Code) (y:Code) (Q:QS) (s:St):@vC P ⟨.seq (.loop c) y⟩ Q s= @vC P ⟨.loop c⟩ ⟨Xj (@vC P ⟨y⟩ Q) Q.q⟩ s:=rfl
theorem ZfZ (c:Code) (y:Code) (Q:QS) (s:St):@vC P ⟨.seq (.scope c) y⟩ Q s= @vC P ⟨.scope c⟩ ⟨Xj (@vC P ⟨y⟩ Q) Q.q⟩ s:=rfl
theorem ZfY (l:Nat) (y:Code) (Q:QS) (s:St):@vC P ⟨.seq (.label l) y⟩ Q s=awp P (.seq (.label l) y) Q.q s:=rfl
theorem Zrz (c:Operand) (x y:Code) (Q:QS) (s:St):@vC P ⟨.cond c x y⟩ Q s= @Zf0 (s.eval c) ⟨@vC P ⟨x⟩ Q s⟩ ⟨@vC P ⟨y⟩ Q s⟩:=rfl
theorem ZpP (id:Nat) (c:Code) (Q:QS) (s:St):@vC P ⟨.block id c⟩ Q s= @vC P ⟨c⟩ ⟨Td id Q.q⟩ s:=rfl
theorem Zno (id:Nat) (l:List Oper) (Q:QS) (s:St):@vC P ⟨.region id l.toArray false⟩ Q s= @vA P true ⟨@vQ Q .normal⟩ ⟨l⟩ ⟨l⟩ s:=rfl
theorem ZpR (c:Code) (Q:QS) (s:St):@vC P ⟨.scope c⟩ Q s=awp P (.scope c) Q.q s:=rfl
theorem ZrD (c:Code) (Q:QS) (s:St):@vC P ⟨.loop c⟩ Q s=awp P (.loop c) Q.q s:=rfl
theorem ZrA (id:Nat) (l:Array Oper) (Q:QS) (s:St):@vC P ⟨.region id l true⟩ Q s=awp P (.region id l true) Q.q s:=rfl
theorem Zbl (K:St->Prop) (Q:Exit->St->Prop) (s:St):@vQ ⟨Xj K Q⟩ .normal s=K s:=rfl
theorem ZhM (K:St->Prop) (Q:Exit->St->Prop) (s:St):@vQ ⟨Xj K Q⟩ .ret s= @vQ ⟨Q⟩ .ret s:=rfl
theorem Zf4 (K:St->Prop) (Q:Exit->St->Prop) (id:Nat) (s:St):@vQ ⟨Xj K Q⟩ (.exit id) s= @vQ ⟨Q⟩ (.exit id) s:=rfl
theorem Zf5 (K:St->Prop) (Q:Exit->St->Prop) (id:Nat) (s:St):@vQ ⟨Xj K Q⟩ (.goto id) s= @vQ ⟨Q⟩ (.goto id) s:=rfl
theorem ZaX (id:Nat) (Q:Exit->St->Prop) (s:St):@vQ ⟨Td id Q⟩ .normal s= @vQ ⟨Q⟩ .normal s:=rfl
theorem Zf2 (id:Nat) (Q:Exit->St->Prop) (s:St):@vQ ⟨Td id Q⟩ .ret s= @vQ ⟨Q⟩ .ret s:=rfl
theorem ZdS (id l:Nat) (Q:Exit->St->Prop) (s:St):@vQ ⟨Td id Q⟩ (.goto l) s= @vQ ⟨Q⟩ (.goto l) s:=rfl
theorem ZdR (id j:Nat) (Q:Exit->St->Prop) (s:St):@vQ ⟨Td id Q⟩ (.exit j) s=(if j=id then @vQ ⟨Q⟩ .normal s else @vQ ⟨Q⟩ (.exit j) s):=rfl
theorem Zw {b:Bool} {A B:PR} (h1:b=true->A.p) (h2:b=false->B.p):@Th true (.bool b) A B:=⟨h1,h2⟩
theorem Zu {b:Bool} {A B:PR} (h1:b=true->B.p) (h2:b=false->A.p):@Th false (.bool b) A B:=⟨h2,h1⟩
theorem ZF {b:Bool} {A B:PR} (h1:b=true->A.p) (h2:b=false->B.p):@Zf0 (.bool b) A B:=⟨h1,h2⟩
theorem Yh {M:KH} {g:FuncId} {args args':List PV} {K:KR} {r:PV} (h1:Pure P g args' r) (h0:Jp M.m args) (he:Jt M.m args=args') (h2:K.k r M.m):@UJ P x M (some (g,args)) K:=
 .inl ⟨h0,.inl ⟨r,by rw[he];exact h1,h2⟩⟩
theorem Fs {M:KH} {g:FuncId} {args args':List PV} {K:KR} {r:PV} (h1:Pure P g args' r) (hn:r.nomap=true) (h0:Jp M.m args) (he:PV.sealL M.m.o (Jt M.m args)=args') (h2:K.k r M.m):@UJ P true M (some (g,args)) K:=
 .inl ⟨h0,.inr ⟨rfl,.inl ⟨r,by rw[he];exact h1,hn,h2⟩⟩⟩
theorem ZiP {M:KH} {g:FuncId} {args:List PV} {K:KR} {A:Nat->List PV} {c c':MapC} {r:PV} (b:Nat) (h1:Wr P g A c r c') (h0:Jp M.m args) (he:Jt M.m args=A b) (hc:M.m.o b=some c) (h2:K.k r { M.m with o:=upd M.m.o b (some c') }):@UJ P true M (some (g,args)) K:=
 .inl ⟨h0,.inr ⟨rfl,.inr (.inl ⟨b,c,A,r,c',hc,he,h1,h2⟩)⟩⟩
theorem ZiO {M:KH} {g:FuncId} {args args':List PV} {K:KR} {c:MapC} {r:Nat->PV} (h1:Mk P g args' r c) (h0:Jp M.m args) (he:Jt M.m args=args') (h2:∀b,M.m.o b=none->K.k (r b) { M.m with o:=upd M.m.o b (some c) }):@UJ P true M (some (g,args)) K:=
 .inl ⟨h0,.inr ⟨rfl,.inr (.inr (.inl ⟨r,c,by rw[he];exact h1,h2⟩))⟩⟩
theorem ZpT {M:KH} {g:FuncId} {args args':List PV} {K:KR} {r:PV} (h1:Xt P g args' r) (h0:Jp M.m args) (he:Jt M.m args=args') (h2:K.k r M.m):@UJ P true M (some (g,args)) K:=
 .inl ⟨h0,.inr ⟨rfl,.inr (.inr (.inr (.inl ⟨r,by rw[he];exact h1,h2⟩)))⟩⟩
theorem ZaW {M:KH} {g:FuncId} {args args0:List PV} {K:KR} {m0 m1:MemL} {r:PV} (f' g':Nat->Nat) (h1:Eff P g args0 m0 r m1) (hf:FitsM m0 m1 f' g' M.m) (he:Jt M.m args=args0.map (PV.ren f' g')) (h2:K.k (r.ren f' g') (ZkG m1 f' g' M.m)):@UJ P true M (some (g,args)) K:=
 .inr ⟨rfl,args0,m0,r,m1,f',g',h1,hf,he,h2⟩
def ZaY (P:Program) (r:PV) (s:St):List PV->List ResultVar->Prop
 |acc,[]=>(ZnU acc.reverse).givable s.m/\r=(ZnU acc.reverse).give s.m
 |acc,.tmp t::rs=>ZaY P r s (s.fr t::acc) rs
 |acc,.cell t ty::rs=>tkn P ty=true/\(Un P ty (s.fr t) s.m).ok/\ZaY P r s ((Un P ty (s.fr t) s.m).v::acc) rs
theorem TU {fn:Func} {r:PV} {s:St}:∀(rs:List ResultVar) (acc:List PV),ZaY P r s acc rs->
  Za7 (rs.map (DU P s))/\(ZnU (acc.reverse++rs.map λx=>(DU P s x).v)).givable s.m/\r=(ZnU (acc.reverse++rs.map λx=>(DU P s x).v)).give s.m
 | [],acc,h=>by simpa[ZaY,Za7]using h
 | .tmp t::rs,acc,h=>by
  obtain⟨h1,h2,h3⟩:=TU (fn:=fn) rs _ h;refine⟨⟨trivial,h1⟩,?_,?_⟩;simpa[DU]using h2;simpa[DU]using h3
 | .cell t ty::rs,acc,h=>by
  obtain⟨h0,h0',h⟩:=h;obtain⟨h1,h2,h3⟩:=TU (fn:=fn) rs _ h;refine⟨⟨?_,h1⟩,?_,?_⟩;simpa[DU,h0]using h0';simpa[DU,h0]using h2;simpa[DU,h0]using h3
def Zf7 (P:Program) (rs:List ResultVar) (r:PV):Exit->St->Prop
 | .normal,s=>ZaY P r s [] rs
 | .ret,s=>ZaY P r s [] rs
 |_,_=>False
theorem ZhN (rs:List ResultVar) (r:PV) (s:St):@vQ ⟨Zf7 P rs r⟩ .ret s=ZaY P r s [] rs:=rfl
theorem Zbm (rs:List ResultVar) (r:PV) (s:St):@vQ ⟨Zf7 P rs r⟩ .normal s=ZaY P r s [] rs:=rfl
theorem pov {f:FuncId} {fn:Func} {c:Code} {args:List PV} {r:PV} {n:Nat} {rs:List ResultVar} (hf:P.funcs[f]? = some fn) (hname:fn.name≠ "runtime.NumGoroutine") (hb:fn.body=some c) (hn:fn.ntmps=n) (hrs:fn.results=rs.toArray) (hl:args.length<=n) (hi:r.dids= [])
  (h:@vC P ⟨c⟩ ⟨Zf7 P rs r⟩ (St.init args n)):Pure P f args r:=by
 subst hn;refine Pure.intro hf hname hb hl hi (YR (λe s hq=> ?_) (Z3 _ _ _ h));have key:ZaY P r s [] rs->Zqp P fn r s:=λhv=>by
  unfold Zqp;rw[hrs];simpa using TU (fn:=fn) rs [] hv
 cases e with
 |normal=>exact key hq
 |ret=>exact key hq
 |_=>exact hq
end
attribute [go_sem] ZhH Zkr ZhE ZhF Zks ZhD ZfX ZdQ ZhG ZfZ ZfY ZpR Zno Zt9 Zrz ZpP ZrE ZpQ ZrB ZrC ZrD ZrA Zry Zt6 Zkv Zku ZjL ZjK Zbl ZhM Zf4 Zf5
 ZaX Zf2 ZdS ZdR ZhN Zbm Znt Zns Znr Znq Zkt ZrG ZrF ZrR
attribute [go_sem] vOp ZiR Zky FR aop St.eval St.init VN St.put St.with Gb Xp Gc Xq Un W0 YT Hp.new Hp.empty Hp.setq Hp.freeze J9 Zn0 Zn3 Zn2 Zn8 ZnQ aEq XR TF W7 PV.known KO
 Za6 VE Zn1 ZcY ZcX aUn Ti Vo Zn4 Zn5 Zn6 Ga Tv Xc Zas Gd Zqd Zp9 Wg aMakeFull Ye UP WW Yt Jv Jt Jk Jp Kc JQ Tok.sh PV.clean Ke
 ZaY ZnU frozenBy Uq Jb Jq Uw ZO Ziu Zpw Zio ARes.fail X1 Z9 VD WL ZlV Do mapIt Zo3 ZqY Zfz Zmd PV.shut PV.sealL Zqb vmB ZhT List.isEmpty_nil List.isEmpty_cons Zt7 ZpO Zt8 Zfq VF ZcG Zoh ZeM ZfR Zr9 Zup UW Zax
attribute [go_sem ↓ high] ZpU
attribute [go_sem] JI Kl List.cons_append
@[go_sem] theorem Zwi {α:Type} (f:Nat->α) (i j:Nat) (v:α):upd f i v j=if i=j then v else f j:=rfl
open Go.RowKit
structure Fp where
 rh:Bool:=false
 rz:Bool:=false
 rq:Bool:=false
 wh:Bool:=false
 wz:Bool:=false
 wq:Bool:=false
 nb:Bool:=false
 nq:Bool:=false
 ro:Bool:=false
 wo:Bool:=false
def fp:Op->Fp
 | .load _ _=> { rh:=true }
 | .convert _ _ _=> { rh:=true }
 | .store _ _ _=> { rh:=true,rz:=true,wh:=true }
 | .alloc _=> { nb:=true }
 | .box _ _=> { nb:=true }
 | .makeSlice _ _ _=> { nq:=true }
 | .buildSlice _ _ _=> { nq:=true }
 | .makeFunc _ _ caps=>if caps.isEmpty then {} else { rh:=true,wz:=true }
 | .lookup _ _ _ _=> { ro:=true }
 | .mapUpdate _ _ _ _=> { ro:=true,wo:=true }
 | .entry _=> { ro:=true }
 | .call { callee:= .builtin b,.. }=>match b with| .append=> { rq:=true,wq:=true }| .len=> { ro:=true }|_=> {}
 | .call _=> { rh:=true,rz:=true }
 |_=> {}
def Hp.hv (m:Hp):Ref->Option (List PV)
 | .b i=>m.h i
 | .r i=>m.v i
def Hp.io (m:Hp):(Nat->Option IterC)×(Nat->Option MapC)×(Nat->Option Nat)×(Nat->Option (Nat×Nat×Nat))×(Nat->Bool):=(m.it,m.om,m.ph,m.pq,m.vm)
theorem ZgZ (m:Hp) (d:Nat) (r:Row) (x:Ref):(m.setq d r).hv x=m.hv x:=by cases x<;>rfl
theorem ZoQ {a b:Hp} (h1:a.h=b.h) (h2:a.v=b.v) (x:Ref):a.hv x=b.hv x:=by cases x<;>simp[Hp.hv,h1,h2]
def YF (o:Oper) (ρ:Operand->PV):List Ref:=o.op.operands.toList.flatMap λx=>(ρ x).ids
def Wh (o:Oper) (ρ:Operand->PV) (r:Ref):Prop:=((fp o.op).wh=true/\r∈YF o ρ)\/((fp o.op).nb=true/\ ∃i,o.dst=some i/\r= .b i)
def Wz (o:Oper) (ρ:Operand->PV) (i:Nat):Prop:=((fp o.op).wz=true/\ .b i∈YF o ρ)\/((fp o.op).nb=true/\o.dst=some i)
def Wq (o:Oper) (ρ:Operand->PV) (i:Nat):Prop:=((fp o.op).wq=true/\(.r i∈YF o ρ\/o.dst=some i))\/((fp o.op).nq=true/\o.dst=some i)
structure Foot (P:Program) (o:Oper) (ρ:Operand->PV) (m:Hp) (v:PV) (m':Hp):Prop where
 h1:∀r,¬Wh o ρ r->m'.hv r=m.hv r
 z1:∀i,¬Wz o ρ i->m'.z i=m.z i
 q1:∀i,¬Wq o ρ i->m'.q i=m.q i
 hn:(fp o.op).nb=true-> ∀i,o.dst=some i->m.h i=none
 qn:(fp o.op).nq=true-> ∀i,o.dst=some i->m.q i=none
 hl:∀i,m.h i≠none->m'.h i≠none
 ql:∀i,m.q i≠none->m'.q i≠none
 o1:(fp o.op).wo=false->m'.o=m.o
 i1:m'.io=m.io
 re:∀m2:Hp,((fp o.op).rh=true-> ∀r,r∈YF o ρ->m2.hv r=m.hv r)->((fp o.op).rz=true-> ∀i,.b i∈YF o ρ->m2.z i=m.z i)->
  ((fp o.op).rq=true-> ∀i,(.r i∈YF o ρ\/o.dst=some i)->m2.q i=m.q i)->((fp o.op).nb=true-> ∀i,o.dst=some i->m2.h i=none)->((fp o.op).nq=true-> ∀i,o.dst=some i->m2.q i=none)->
  ((fp o.op).ro=true->m2.o=m.o)->m2.io=m.io->
  ∃m2',Wc P o ρ m2 v m2'/\(∀r,(Wh o ρ r->m2'.hv r=m'.hv r)/\(¬Wh o ρ r->m2'.hv r=m2.hv r))/\(∀i,(Wz o ρ i->m2'.z i=m'.z i)/\(¬Wz o ρ i->m2'.z i=m2.z i))/\
   (∀i,(Wq o ρ i->m2'.q i=m'.q i)/\(¬Wq o ρ i->m2'.q i=m2.q i))/\(((fp o.op).wo=true->m2'.o=m'.o)/\((fp o.op).wo=false->m2'.o=m2.o))/\m2'.io=m2.io
def WK (f:Hp->ARes):Prop:=∀m m2,(f m).ok->(f m).m=m/\(f m2).ok/\(f m2).v=(f m).v/\(f m2).m=m2
section
variable {P:Program}
theorem ZC {ok:Prop} {v:PV}:WK λm=>⟨ok,v,m⟩:=λm m2 h=>⟨rfl,h,rfl,rfl⟩
theorem ZD:WK λ_=>ARes.fail:=λm m2 h=>h.elim
theorem Zce {c x y:PV}:WK (Za6 c x y):=λm m2 h=>by
 revert h;unfold Za6;split;exact ZC m m2;exact ZC m m2;exact ZD m m2
theorem Zan {t:TypeId} {x:PV} {f:Nat}:WK (Gb P t x f):=λm m2 h=>by
 revert h;unfold Gb;split;exact ZC m m2;exact ZD m m2
theorem TD {t:TypeId} {x:PV} {f:Nat}:WK (Xp P t x f):=λm m2 h=>by
 revert h;unfold Xp;split<;>first|exact ZC m m2|exact ZD m m2
theorem Zao {t:TypeId} {x y:PV}:WK (Gc P t x y):=λm m2 h=>by
 revert h;unfold Gc;split<;>first|exact ZC m m2|exact ZD m m2
theorem TE {t:TypeId} {x y:PV}:WK (Xq P t x y):=λm m2 h=>by
 revert h;unfold Xq;split<;>first|exact ZC m m2|exact ZD m m2
theorem Zmg {op:BinOp} {k k':IntKind} {x y:Int}:WK (Zn3 op k k' x y):=λm m2 h=>by
 revert h;unfold Zn3;split<;>first|exact ZC m m2|exact ZD m m2
theorem Zmh {op:BinOp} {x y:List UInt8}:WK (Zn8 op x y):=λm m2 h=>by
 revert h;unfold Zn8;split<;>first|exact ZC m m2|exact ZD m m2
theorem Zmf {op:BinOp} {k k':FloatKind} {x y:Nat}:WK (Zn2 op k k' x y):=λm m2 h=>by
 revert h;unfold Zn2;split<;>first|exact ZC m m2|exact ZD m m2
theorem Zdq {b:Bool} {r:Option Bool}:WK (aEq b r):=λm m2 h=>by
 revert h;unfold aEq;split<;>first|exact ZC m m2|exact ZD m m2
theorem Zme {b:Bool} {t:TypeId} {x y:PV}:WK (ZnQ P b t x y):=λm m2 h=>by
 revert h;unfold ZnQ;split;split<;>first|exact Zdq m m2|exact ZD m m2
 split<;>first|exact Zdq m m2|exact ZD m m2
 split<;>first|exact Zdq m m2|exact ZD m m2
theorem Zfc {op:BinOp} {t:TypeId} {x y:PV}:WK (Zn0 P op t x y):=λm m2 h=>by
 revert h;unfold Zn0;split;exact Zmg m m2;exact Zmh m m2;exact Zmf m m2;split<;>first|exact Zme m m2|exact ZD m m2
theorem Zir {op:UnOp} {x:PV}:WK (aUn op x):=λm m2 h=>by
 revert h;unfold aUn;split<;>first|exact ZC m m2|exact ZD m m2
theorem Zfd {x y:PV}:WK (Zn1 x y):=λm m2 h=>by
 revert h;unfold Zn1;split<;>first|exact ZC m m2|exact ZD m m2
theorem Zcf {x:PV}:WK (ZcY x):=λm m2 h=>by
 revert h;unfold ZcY;split<;>first|exact ZC m m2|exact ZD m m2
theorem Zcd {x:PV}:WK (ZcX x):=λm m2 h=>by
 revert h;unfold ZcX;split<;>first|exact ZC m m2|exact ZD m m2
theorem Zp3 {a b:TypeId} {x:PV} {m:Hp} (h:(Ti P a b x m).ok):(Ti P a b x m).m=m:=by
 revert h;unfold Ti;split;exact λ_=>rfl
 exact λ_=>rfl
 split;exact λ_=>rfl
 exact λh=>h.elim
 exact λ_=>rfl
 split;exact λ_=>rfl
 exact λh=>h.elim
 split;split;exact λ_=>rfl
 exact λh=>h.elim
 exact λh=>h.elim
 exact λh=>h.elim
theorem ZjB {a b:TypeId} {x:PV} {m m2:Hp} (hm:∀i,.b i∈x.ids->m2.h i=m.h i) (h:(Ti P a b x m).ok):(Ti P a b x m2).ok/\(Ti P a b x m2).v=(Ti P a b x m).v/\(Ti P a b x m2).m=m2:=by
 revert h;unfold Ti;split;exact λ_=>⟨trivial,rfl,rfl⟩
 exact λ_=>⟨trivial,rfl,rfl⟩
 split;exact λh=>⟨h,rfl,rfl⟩
 exact λh=>h.elim
 exact λ_=>⟨trivial,rfl,rfl⟩
 split;exact λ_=>⟨trivial,rfl,rfl⟩
 exact λh=>h.elim
 rename_i id off len sz _;have e:=hm id (by simp[Jb]);simp only[e];split;split;exact λh=>⟨h,rfl,rfl⟩
 exact λh=>h.elim
 exact λh=>h.elim
 exact λh=>h.elim
theorem GC {x:PV} {i:Nat}:WK (Vo x i):=λm m2 h=>by
 revert h;unfold Vo;split<;>first|exact ZC m m2|exact ZD m m2
theorem Sy {x:PV}:WK (VE x):=λm m2 h=>by
 revert h;unfold VE;split<;>first|exact ZC m m2|exact ZD m m2
theorem Zfe {t:TypeId} {x:PV}:WK (Zn4 P t x):=λm m2 h=>by
 revert h;unfold Zn4;split<;>first|exact ZC m m2|exact ZD m m2
theorem Zff {x y:PV}:WK (Zn5 x y):=λm m2 h=>by
 revert h;unfold Zn5;split<;>first|exact ZC m m2|exact ZD m m2
theorem Zfg {x y:PV}:WK (Zn6 x y):=λm m2 h=>by
 revert h;unfold Zn6;split<;>first|exact ZC m m2|exact ZD m m2
theorem Zam {t:TypeId} {l:List (Nat×PV)}:WK (Ga P t l):=λm m2 h=>by
 revert h;unfold Ga;split;split<;>first|exact ZC m m2|exact ZD m m2
 split<;>first|exact ZC m m2|exact ZD m m2
 exact ZD m m2
theorem Zap {t:TypeId} {x:PV} {lo hi:Option PV}:WK (Gd P t x lo hi):=λm m2 h=>by
 revert h;unfold Gd;split;split<;>first|exact ZC m m2|exact ZD m m2
 split<;>first|exact ZC m m2|exact ZD m m2
 split<;>first|exact ZC m m2|exact ZD m m2
 split<;>first|exact ZC m m2|exact ZD m m2
 exact ZD m m2
theorem Foot.noMem {o:Oper} {ρ:Operand->PV} {m:Hp} (hn:WK (aop P o ρ)) (hf1:(fp o.op).nb=false) (hf2:(fp o.op).nq=false) (hf3:(fp o.op).wh=false) (hf4:(fp o.op).wz=false) (hf5:(fp o.op).wq=false) (hf6:(fp o.op).wo=false) (hok:(aop P o ρ m).ok):
  Foot P o ρ m (aop P o ρ m).v (aop P o ρ m).m:=by
 obtain⟨e,_⟩:=hn m m hok;rw[e];refine⟨λ_ _=>rfl,λ_ _=>rfl,λ_ _=>rfl,λh=>(by rw[hf1]at h;cases h),λh=>(by rw[hf2]at h;cases h),λ_ h=>h,λ_ h=>h,λ_=>rfl,rfl,λm2 _ _ _ _ _ _ _=> ?_⟩;obtain⟨_,g1,g2,g3⟩:=hn m m2 hok;refine⟨m2,.inl ⟨g1,g2.symm,g3.symm⟩,λi=>⟨λh=> ?_,λ_=>rfl⟩,λi=>⟨λh=> ?_,λ_=>rfl⟩,λi=>⟨λh=> ?_,λ_=>rfl⟩,⟨λh=>(by rw[hf6]at h;cases h),λ_=>rfl⟩,rfl⟩;simp[Wh,hf1,hf3]at h;simp[Wz,hf1,hf4]at h;simp[Wq,hf2,hf5]at h
theorem Foot.newB {o:Oper} {ρ:Operand->PV} {m:Hp} {d:Nat} {v:PV} {cs:List PV} {ok:Prop} (hd:o.dst=some d) (hop:∀m:Hp,aop P o ρ m=⟨m.h d=none/\ok,v,m.new d cs⟩)
  (hf:fp o.op= { nb:=true }) (hok:(aop P o ρ m).ok):Foot P o ρ m (aop P o ρ m).v (aop P o ρ m).m:=by
 rw[hop]at hok ⊢;simp only at hok ⊢;have W1:∀r,Wh o ρ r↔r= .b d:=λr=>by simp[Wh,hf,hd]
 have W2:∀i,Wz o ρ i↔i=d:=λi=>by simp[Wz,hf,hd,eq_comm]
 have W3:∀i,¬Wq o ρ i:=λi=>by simp[Wq,hf]
 have n0:∀(m:Hp) i,i≠d->(m.new d cs).h i=m.h i:=λm i h=>Zk _ _ (Jy h)
 have n1:∀(m:Hp) r,r≠ .b d->(m.new d cs).hv r=m.hv r:=λm r h=>by cases r with|b i=>exact n0 m i (λe=>h (by rw[e]))|r i=>rfl
 have n2:∀(m:Hp) i,i≠d->(m.new d cs).z i=m.z i:=λm i h=>Zk _ _ (Jy h)
 have n3':∀(m:Hp),(m.new d cs).h d=some cs:=λm=>Za _ _ _
 have n3:∀(m:Hp),(m.new d cs).hv (.b d)=some cs:=λm=>Za _ _ _
 have n4:∀(m:Hp),(m.new d cs).z d=false:=λm=>Za _ _ _
 refine⟨λi h=>n1 m i (λe=>h ((W1 i).2 e)),λi h=>n2 m i (λe=>h ((W2 i).2 e)),λ_ _=>rfl,λ_ i hi=> ?_,λh=> ?_,λi h=> ?_,λ_ h=>h,λ_=>rfl,rfl,λm2 _ _ _ h4 _ _ _=> ?_⟩;rw[hd]at hi;cases hi;exact hok.1;rw[hf]at h;cases h;by_cases e:i=d;subst e;rw[n3'];simp;rw[n0 m i e];exact h;refine⟨m2.new d cs,.inl ?_,λi=>⟨λh=> ?_,λh=>n1 m2 i (λe=>h ((W1 i).2 e))⟩,λi=>⟨λh=> ?_,λh=>n2 m2 i (λe=>h ((W2 i).2 e))⟩,λi=>⟨λh=>absurd h (W3 i),λ_=>rfl⟩,⟨λh=>(by rw[hf]at h;cases h),λ_=>rfl⟩,rfl⟩;rw[hop];exact⟨⟨h4 (by rw[hf]) d hd,hok.2⟩,rfl,rfl⟩;obtain rfl:=(W1 i).1 h;rw[n3,n3];obtain rfl:=(W2 i).1 h;rw[n4,n4]
theorem Foot.newQ {o:Oper} {ρ:Operand->PV} {m:Hp} {d:Nat} {v:PV} {r:Row} {ok:Prop} (hd:o.dst=some d) (hop:∀m:Hp,aop P o ρ m=⟨m.q d=none/\ok,v,m.setq d r⟩)
  (hf:fp o.op= { nq:=true }) (hok:(aop P o ρ m).ok):Foot P o ρ m (aop P o ρ m).v (aop P o ρ m).m:=by
 rw[hop]at hok ⊢;simp only at hok ⊢;have W1:∀i,¬Wh o ρ i:=λi=>by simp[Wh,hf]
 have W2:∀i,¬Wz o ρ i:=λi=>by simp[Wz,hf]
 have W3:∀i,Wq o ρ i↔i=d:=λi=>by simp[Wq,hf,hd,eq_comm]
 have n1:∀(m:Hp) i,i≠d->(m.setq d r).q i=m.q i:=λm i h=>Zk _ _ (Jy h)
 have n3:∀(m:Hp),(m.setq d r).q d=some r:=λm=>Za _ _ _
 refine⟨λx _=>ZgZ _ _ _ x,λ_ _=>rfl,λi h=>n1 m i (λe=>h ((W3 i).2 e)),λh=> ?_,λ_ i hi=> ?_,λ_ h=>h,λi h=> ?_,λ_=>rfl,rfl,λm2 _ _ _ _ h5 _ _=> ?_⟩;rw[hf]at h;cases h;rw[hd]at hi;cases hi;exact hok.1;by_cases e:i=d;subst e;rw[n3];simp;rw[n1 m i e];exact h;refine⟨m2.setq d r,.inl ?_,λi=>⟨λh=>absurd h (W1 i),λ_=>ZgZ _ _ _ i⟩,λi=>⟨λh=>absurd h (W2 i),λ_=>rfl⟩,λi=>⟨λh=> ?_,λh=>n1 m2 i (λe=>h ((W3 i).2 e))⟩,⟨λh=>(by rw[hf]at h;cases h),λ_=>rfl⟩,rfl⟩;rw[hop];exact⟨⟨h5 (by rw[hf]) d hd,hok.2⟩,rfl,rfl⟩;obtain rfl:=(W3 i).1 h;rw[n3,n3]
end
end Go.PL
namespace Go.PL
open Go.RowKit
section
variable {P:Program}
mutual
theorem ZjN {m m2:Hp}:∀(p:PV),(∀i,.b i∈p.ids->m2.h i=m.h i/\m2.z i=m.z i)->p.give m2=p.give m/\(p.givable m->p.givable m2)
 | .ptr id off,h=>by
  obtain⟨h1,h2⟩:=h id (by simp[Jb]);simp[Jv,Jk,h1,h2]
 | .osl _ _ _ _,_=>by simp[Jv,Jk]
 | .agg cs,h=>by
  obtain⟨h1,h2⟩:=VK cs (λi hi=>h i (by simpa[Jb]using hi));simp only[Jv,Jk,h1];exact⟨trivial,h2⟩
 | .tup cs,h=>by
  obtain⟨h1,h2⟩:=VK cs (λi hi=>h i (by simpa[Jb]using hi));simp only[Jv,Jk,h1];exact⟨trivial,h2⟩
 | .fn f cs,h=>by
  obtain⟨h1,h2⟩:=VK cs (λi hi=>h i (by simpa[Jb]using hi));simp only[Jv,Jk,h1];exact⟨trivial,h2⟩
 | .any,_=>by simp[Jv,Jk]
 | .int _ _,_=>by simp[Jv,Jk]
 | .bool _,_=>by simp[Jv,Jk]
 | .str _,_=>by simp[Jv,Jk]
 | .flt _ _,_=>by simp[Jv,Jk]
 | .cpx _ _ _,_=>by simp[Jv,Jk]
 | .sl _ _,_=>by simp[Jv,Jk]
 | .rptr _,_=>by simp[Jv,Jk]
 | .nilp,_=>by simp[Jv,Jk]
 | .nilfn,_=>by simp[Jv,Jk]
 | .nilmap,_=>by simp[Jv,Jk]
 | .mref _,_=>by simp[Jv,Jk]
 | .iptr _,_=>by simp[Jv,Jk]
 | .rmap _ _,_=>by simp[Jv,Jk]
 | .vsl _ _ _,_=>by simp[Jv,Jk]
 | .vptr _ _ _ _ _,_=>by simp[Jv,Jk]
theorem VK {m m2:Hp}:∀(cs:List PV),(∀i,.b i∈Jq cs->m2.h i=m.h i/\m2.z i=m.z i)->Jt m2 cs=Jt m cs/\(Jp m cs->Jp m2 cs)
 | [],_=>by simp[Jt,Jp]
 |c::cs,h=>by
  obtain⟨h1,h2⟩:=ZjN c (λi hi=>h i (by simp[Jq,hi]));obtain⟨h3,h4⟩:=VK cs (λi hi=>h i (by simp[Jq,hi]));simp only[Jt,Jp,h1,h3];exact⟨trivial,λh=>⟨h2 h.1,h4 h.2⟩⟩
end
theorem ZlF {o:Oper} {ρ:Operand->PV} {m:Hp} {v:PV} {c:Call} {g:FuncId} {args:List PV} (ho:o.op= .call c) (hc:Yt ρ c=some (g,args)) (hg:Jp m args) (hp:Pure P g (Jt m args) v):Foot P o ρ m v m:=by
 have hval:∃f,c.callee= .value f/\ ∃caps,ρ f= .fn g caps/\args=c.args.toList.map ρ++caps:=by
  unfold Yt at hc;split at hc;rename_i f hf;split at hc;rename_i g' caps hcap;simp only[Jm.injEq,Kx.injEq]at hc;obtain⟨rfl,rfl⟩:=hc;exact⟨f,hf,caps,hcap,rfl⟩;cases hc;cases hc
 obtain⟨f,hf,caps,hcap,rfl⟩:=hval;obtain⟨callee,cargs,ts⟩:=c;simp only at hf;subst hf;have hfp:fp o.op= { rh:=true,rz:=true }:=by rw[ho];rfl
 have W1:∀i,¬Wh o ρ i:=λi=>by simp[Wh,hfp]
 have W2:∀i,¬Wz o ρ i:=λi=>by simp[Wz,hfp]
 have W3:∀i,¬Wq o ρ i:=λi=>by simp[Wq,hfp]
 refine⟨λ_ _=>rfl,λ_ _=>rfl,λ_ _=>rfl,λh=>(by rw[hfp]at h;cases h),λh=>(by rw[hfp]at h;cases h),λ_ h=>h,λ_ h=>h,λ_=>rfl,rfl,λm2 a1 a2 _ _ _ _ _=> ?_⟩;have hrefs:∀i,.b i∈Jq (cargs.toList.map ρ++caps)-> .b i∈YF o ρ:=λi hi=>by
  unfold YF;rw[ho];obtain⟨x,hx,hix⟩:=Jw.1 hi;rw[Js];rcases Jj.1 hx with hx|hx;obtain⟨y,hy,rfl⟩:=Jf.1 hx;exact⟨y,by simp only[Ja,Call.operands];simp;right;simpa using hy,hix⟩;exact⟨f,by simp[Ja,Call.operands],by rw[hcap];exact Jw.2 ⟨x,hx,hix⟩⟩
 obtain⟨g1,g2⟩:=VK (m:=m) (m2:=m2) (cargs.toList.map ρ++caps) (λi hi=>⟨a1 (by rw[hfp]) (.b i) (hrefs i hi),a2 (by rw[hfp]) i (hrefs i hi)⟩);refine⟨m2,.inr ⟨_,g,_,ho,hc,g2 hg,by rw[g1];exact hp,rfl⟩,λi=>⟨λh=>absurd h (W1 i),λ_=>rfl⟩,λi=>⟨λh=>absurd h (W2 i),λ_=>rfl⟩,λi=>⟨λh=>absurd h (W3 i),λ_=>rfl⟩,⟨λh=>(by rw[hfp]at h;cases h),λ_=>rfl⟩,rfl⟩
theorem ZlH {o:Oper} {ρ:Operand->PV} {m:Hp} {t:TypeId} {x:Operand} (ho:o.op= .load t x) (hok:(aop P o ρ m).ok):Foot P o ρ m (aop P o ρ m).v (aop P o ρ m).m:=by
 have hfp:fp o.op= { rh:=true }:=by rw[ho];rfl
 have W1:∀i,¬Wh o ρ i:=λi=>by simp[Wh,hfp]
 have W2:∀i,¬Wz o ρ i:=λi=>by simp[Wz,hfp]
 have W3:∀i,¬Wq o ρ i:=λi=>by simp[Wq,hfp]
 have hop:∀m,aop P o ρ m=if tkn P t then Un P t (ρ x) m else .fail:=λm=>by unfold aop;rw[ho]
 have hrefs:∀r,r∈(ρ x).ids->r∈YF o ρ:=λi hi=>by
  unfold YF;rw[ho];exact Js.2 ⟨x,by simp[Ja],hi⟩
 have key:∀m2:Hp,(∀r,r∈(ρ x).ids->m2.hv r=m.hv r)->(aop P o ρ m).m=m/\(aop P o ρ m2).ok/\(aop P o ρ m2).v=(aop P o ρ m).v/\(aop P o ρ m2).m=m2:=by
  intro m2 h2;rw[hop]at hok ⊢;rw[hop];split at hok;rename_i hk;simp only[hk,if_true];revert hok;unfold Un;cases hx:ρ x with
  |rptr cs=>exact λh=>⟨rfl,h,rfl,rfl⟩
  |ptr id off=>
   have:m2.h id=m.h id:=h2 (.b id) (by rw[hx];simp[Jb]);simp only[this];cases m.h id with
   |none=>exact λh=>h.elim
   |some cs=>exact λh=>⟨rfl,h,rfl,rfl⟩
  |vptr id n z i off=>
   have:m2.v id=m.v id:=h2 (.r id) (by rw[hx];simp[Jb]);simp only[this];cases m.v id with
   |none=>exact λh=>h.elim
   |some es=>exact λh=>⟨rfl,h,rfl,rfl⟩
  |_=>exact λh=>h.elim
  exact hok.elim
 obtain⟨e,_⟩:=key m (λ_ _=>rfl);rw[e];refine⟨λ_ _=>rfl,λ_ _=>rfl,λ_ _=>rfl,λh=>(by rw[hfp]at h;cases h),λh=>(by rw[hfp]at h;cases h),λ_ h=>h,λ_ h=>h,λ_=>rfl,rfl,λm2 a1 _ _ _ _ _ _=> ?_⟩;obtain⟨_,g1,g2,g3⟩:=key m2 (λi hi=>a1 (by rw[hfp]) i (hrefs i hi));exact⟨m2,.inl ⟨g1,g2.symm,g3.symm⟩,λi=>⟨λh=>absurd h (W1 i),λ_=>rfl⟩,λi=>⟨λh=>absurd h (W2 i),λ_=>rfl⟩,λi=>⟨λh=>absurd h (W3 i),λ_=>rfl⟩,⟨λh=>(by rw[hfp]at h;cases h),λ_=>rfl⟩,rfl⟩
theorem ZlG {o:Oper} {ρ:Operand->PV} {m:Hp} {t u:TypeId} {x:Operand} (ho:o.op= .convert t u x) (hok:(aop P o ρ m).ok):Foot P o ρ m (aop P o ρ m).v (aop P o ρ m).m:=by
 have hfp:fp o.op= { rh:=true }:=by rw[ho];rfl
 have W1:∀i,¬Wh o ρ i:=λi=>by simp[Wh,hfp]
 have W2:∀i,¬Wz o ρ i:=λi=>by simp[Wz,hfp]
 have W3:∀i,¬Wq o ρ i:=λi=>by simp[Wq,hfp]
 have hop:∀m,aop P o ρ m=Ti P t u (ρ x) m:=λm=>by unfold aop;rw[ho]
 have hrefs:∀i,.b i∈(ρ x).ids-> .b i∈YF o ρ:=λi hi=>by
  unfold YF;rw[ho];exact Js.2 ⟨x,by simp[Ja],hi⟩
 have e:(aop P o ρ m).m=m:=by rw[hop]at hok ⊢;exact Zp3 hok
 rw[e];refine⟨λ_ _=>rfl,λ_ _=>rfl,λ_ _=>rfl,λh=>(by rw[hfp]at h;cases h),λh=>(by rw[hfp]at h;cases h),λ_ h=>h,λ_ h=>h,λ_=>rfl,rfl,λm2 a1 _ _ _ _ _ _=> ?_⟩;have hok':(Ti P t u (ρ x) m).ok:=by rw[<-hop];exact hok
 obtain⟨g1,g2,g3⟩:=ZjB (m2:=m2) (λi hi=>a1 (by rw[hfp]) (.b i) (hrefs i hi)) hok';exact⟨m2,.inl ⟨by rw[hop];exact g1,by rw[hop,hop];exact g2.symm,by rw[hop];exact g3.symm⟩,λi=>⟨λh=>absurd h (W1 i),λ_=>rfl⟩,λi=>⟨λh=>absurd h (W2 i),λ_=>rfl⟩,λi=>⟨λh=>absurd h (W3 i),λ_=>rfl⟩,⟨λh=>(by rw[hfp]at h;cases h),λ_=>rfl⟩,rfl⟩
theorem ZjI {o:Oper} {ρ:Operand->PV} {m:Hp} {t:TypeId} {x y:Operand} (ho:o.op= .store t x y) (hok:(aop P o ρ m).ok):Foot P o ρ m (aop P o ρ m).v (aop P o ρ m).m:=by
 have hfp:fp o.op= { rh:=true,rz:=true,wh:=true }:=by rw[ho];rfl
 have W2:∀i,¬Wz o ρ i:=λi=>by simp[Wz,hfp]
 have W3:∀i,¬Wq o ρ i:=λi=>by simp[Wq,hfp]
 have hop:∀m,aop P o ρ m=if tkn P t then W0 P t (ρ x) (ρ y) m else .fail:=λm=>by unfold aop;rw[ho]
 have hrefs:∀r,r∈(ρ x).ids->r∈YF o ρ:=λi hi=>by
  unfold YF;rw[ho];exact Js.2 ⟨x,by simp[Ja],hi⟩
 have W1:∀r,Wh o ρ r↔r∈YF o ρ:=λi=>by simp[Wh,hfp]
 rw[hop]at hok ⊢;split at hok;rename_i hk;simp only[hk,if_true];revert hok;unfold W0;cases hx:ρ x with
 |ptr id off=>
  simp only;cases hid:m.h id with
  |none=>exact λh=>h.elim
  |some cs=>
   rintro ⟨g0,g1,g2,g3,g4⟩
   have hin: .b id∈YF o ρ:=hrefs (.b id) (by rw[hx];simp[Jb]);have n0:∀(m:Hp) i,i≠id->(upd m.h id (some (YT cs off (ρ y).cells))) i=m.h i:=λm i h=>Zk _ _ (Jy h)
   have n1:∀(m:Hp) r,r≠ .b id->({ m with h:=upd m.h id (some (YT cs off (ρ y).cells)) }:Hp).hv r=m.hv r:=λm r h=>by cases r with|b i=>exact n0 m i (λe=>h (by rw[e]))|r i=>rfl
   refine⟨λi h=>n1 m i (λe=>h ((W1 i).2 (e▸hin))),λ_ _=>rfl,λ_ _=>rfl,λh=>(by rw[hfp]at h;cases h),λh=>(by rw[hfp]at h;cases h),λi h=> ?_,λ_ h=>h,λ_=>rfl,rfl,λm2 a1 a2 _ _ _ _ _=> ?_⟩
   ·show upd m.h id _ i≠none
    by_cases e:i=id
    ·subst e;rw[Za];simp
    ·rw[n0 m i e];exact h
   ·have hid2:m2.h id=some cs:=(a1 (by rw[hfp]) (.b id) hin).trans hid;have hz2:=(a2 (by rw[hfp]) id hin).trans g0;refine⟨{ m2 with h:=upd m2.h id (some (YT cs off (ρ y).cells)) },.inl ?_,λi=>⟨λh=> ?_,λh=>n1 m2 i (λe=>h ((W1 i).2 (e▸hin)))⟩,λi=>⟨λh=>absurd h (W2 i),λ_=>rfl⟩,λi=>⟨λh=>absurd h (W3 i),λ_=>rfl⟩,⟨λh=>(by rw[hfp]at h;cases h),λ_=>rfl⟩,rfl⟩
    ·rw[hop];simp only[hk,if_true,W0,hx,hid2];exact⟨⟨hz2,g1,g2,g3,g4⟩,trivial,trivial⟩
    ·by_cases e:i= .b id
     ·subst e;show upd m2.h id _ id=upd m.h id _ id;rw[Za,Za]
     ·rw[n1 m2 i e,n1 m i e];exact a1 (by rw[hfp]) i ((W1 i).1 h)
 |vptr id n z k off=>
  simp only;cases hid:m.v id with
  |none=>exact λh=>h.elim
  |some es=>
   intro g0;have hin: .r id∈YF o ρ:=hrefs (.r id) (by rw[hx];simp[Jb]);have n1:∀(m:Hp) (x:List PV) r,r≠ .r id->({ m with v:=upd m.v id (some x) }:Hp).hv r=m.hv r:=λm x r h=>by cases r with|r i=>exact Zk _ _ (λe=>h (by rw[e]))|b i=>rfl
   refine⟨λi h=>n1 m _ i (λe=>h ((W1 i).2 (e▸hin))),λ_ _=>rfl,λ_ _=>rfl,λh=>(by rw[hfp]at h;cases h),λh=>(by rw[hfp]at h;cases h),λi h=>h,λ_ h=>h,λ_=>rfl,rfl,λm2 a1 a2 _ _ _ _ _=> ?_⟩;have hid2:m2.v id=some es:=(a1 (by rw[hfp]) (.r id) hin).trans hid;refine⟨{ m2 with v:=upd m2.v id (some (es.set k (Zax (es.getD k .any) off (ρ y)))) },.inl ?_,λi=>⟨λh=> ?_,λh=>n1 m2 _ i (λe=>h ((W1 i).2 (e▸hin)))⟩,λi=>⟨λh=>absurd h (W2 i),λ_=>rfl⟩,λi=>⟨λh=>absurd h (W3 i),λ_=>rfl⟩,⟨λh=>(by rw[hfp]at h;cases h),λ_=>rfl⟩,rfl⟩
   ·rw[hop];simp only[hk,if_true,W0,hx,hid2];exact⟨g0,trivial,trivial⟩
   ·by_cases e:i= .r id
    ·subst e;show upd m2.v id _ id=upd m.v id _ id;rw[Za,Za]
    ·rw[n1 m2 _ i e,n1 m _ i e];exact a1 (by rw[hfp]) i ((W1 i).1 h)
 |_=>exact λh=>h.elim
 exact hok.elim
theorem T7 (m:Hp):∀cs,(frozenBy m cs).o=m.o
 | []=>rfl
 |c::cs=>by
  cases c<;>first|exact T7 m cs|exact T7 (m.freeze _) cs
theorem SK (m:Hp):∀cs,(frozenBy m cs).it=m.it
 | []=>rfl
 |c::cs=>by
  cases c<;>first|exact SK m cs|exact SK (m.freeze _) cs
theorem SL (m:Hp):∀cs,(frozenBy m cs).om=m.om
 | []=>rfl
 |c::cs=>by
  cases c<;>first|exact SL m cs|exact SL (m.freeze _) cs
theorem Dl (m:Hp):∀cs,(frozenBy m cs).v=m.v
 | []=>rfl
 |c::cs=>by
  cases c<;>first|exact Dl m cs|exact Dl (m.freeze _) cs
theorem F0 (m:Hp) (cs:List PV) (x:Ref):(frozenBy m cs).hv x=m.hv x:=ZoQ (WP m cs) (Dl m cs) x
theorem VI (m:Hp):∀cs,(frozenBy m cs).ph=m.ph/\(frozenBy m cs).pq=m.pq/\(frozenBy m cs).vm=m.vm
 | []=>⟨rfl,rfl,rfl⟩
 |c::cs=>by
  cases c<;>first|exact VI m cs|exact VI (m.freeze _) cs
theorem F3 (m:Hp) (cs:List PV):(frozenBy m cs).io=m.io:=by unfold Hp.io;rw[SK,SL,(VI m cs).1,(VI m cs).2.1,(VI m cs).2.2]
theorem SM (m:Hp):∀(cs:List PV) (i:Nat),m.z i=true->(frozenBy m cs).z i=true
 | [],i,h=>h
 |c::cs,i,h=>by
  cases c with
  |ptr id off=>
   refine SM (m.freeze id) cs i ?_;show upd m.z id true i=true;by_cases e:id=i;subst e;exact Za _ _ _;rw[Zk _ _ e];exact h
  |_=>exact SM m cs i h
theorem SN (m:Hp):∀(cs:List PV) (i off:Nat),KZ i off∈cs->(frozenBy m cs).z i=true
 | [],i,off,h=>by cases h
 |c::cs,i,off,h=>by
  rcases JM.1 h with rfl|h';exact SM (m.freeze i) cs i (Za _ _ _);cases c with
  |ptr id o=>exact SN (m.freeze id) cs i off h'
  |_=>exact SN m cs i off h'
theorem F4 (m:Hp):∀(cs:List PV) (i:Nat),(∀off,KZ i off∉cs)->(frozenBy m cs).z i=m.z i
 | [],i,h=>rfl
 |c::cs,i,h=>by
  have ih:=λm=>F4 m cs i (λoff ho=>h off (by simp[ho]))
  cases c with
  |ptr id o=>
   refine(ih (m.freeze id)).trans (Zk _ _ λe=> ?_);subst e;exact h o (by simp)
  |_=>exact ih m
theorem DK {m m2:Hp}:∀(cs:List PV),(∀i,.b i∈Jq cs->m2.h i=m.h i)->Uq m cs->Uq m2 cs
 | [],_,_=>trivial
 |c::cs,h,hk=>by
  have ih:=DK (m:=m) (m2:=m2) cs (λi hi=>h i (by simp[Jq,hi]));cases c with
  |ptr id off=>
   obtain⟨h1,h2⟩:=hk;refine⟨?_,ih h2⟩;rw[h id (by simp[Jq,Jb])];exact h1
  |_=>exact⟨hk.1,ih hk.2⟩
theorem FL {m:Hp}:∀ {cs:List PV},Uq m cs-> ∀i,.b i∈Jq cs-> ∃off,KZ i off∈cs
 | [],_,i,hi=>by simp[Jq]at hi
 |c::cs,hk,i,hi=>by
  simp only[Jq,Jj]at hi;rcases hi with hi|hi;cases c with
  |ptr id off=>simp[Jb]at hi;subst hi;exact⟨off,by simp⟩
  |_=>obtain⟨h1,_⟩:=hk;rw[h1]at hi;cases hi
  have hk2:Uq m cs:=by cases c<;>exact hk.2
  obtain⟨off,ho⟩:=FL hk2 i hi;exact⟨off,by simp[ho]⟩
theorem Zdc {o:Oper} {ρ:Operand->PV} {m:Hp} {f:FuncId} {first caps:Array Operand} (ho:o.op= .makeFunc (.func f) first caps) (hok:(aop P o ρ m).ok):Foot P o ρ m (aop P o ρ m).v (aop P o ρ m).m:=by
 have hop:∀m,aop P o ρ m=if first.isEmpty then⟨Uq m (caps.toList.map ρ),.fn f (caps.toList.map ρ),frozenBy m (caps.toList.map ρ)⟩else .fail:=λm=>by unfold aop;rw[ho]
 rw[hop]at hok ⊢;split at hok;rename_i hfe;simp only[hfe,if_true];simp only at hok;by_cases hce:caps.isEmpty=true;have hc0:caps= #[]:=by simpa using hce
 subst hc0;have hfp:fp o.op= {}:=by rw[ho];rfl
 have W1:∀i,¬Wh o ρ i:=λi=>by simp[Wh,hfp]
 have W2:∀i,¬Wz o ρ i:=λi=>by simp[Wz,hfp]
 have W3:∀i,¬Wq o ρ i:=λi=>by simp[Wq,hfp]
 refine⟨λ_ _=>rfl,λ_ _=>rfl,λ_ _=>rfl,λh=>(by rw[hfp]at h;cases h),λh=>(by rw[hfp]at h;cases h),λ_ h=>h,λ_ h=>h,λ_=>rfl,rfl,λm2 _ _ _ _ _ _ _=> ?_⟩;refine⟨m2,.inl ?_,λi=>⟨λh=>absurd h (W1 i),λ_=>rfl⟩,λi=>⟨λh=>absurd h (W2 i),λ_=>rfl⟩,λi=>⟨λh=>absurd h (W3 i),λ_=>rfl⟩,⟨λh=>(by rw[hfp]at h;cases h),λ_=>rfl⟩,rfl⟩;rw[hop];simp only[hfe,if_true];exact⟨trivial,trivial,rfl⟩;have hfp:fp o.op= { rh:=true,wz:=true }:=by rw[ho];simp[fp,hce]
 have hrefs:∀i,.b i∈Jq (caps.toList.map ρ)↔ .b i∈YF o ρ:=λi=>by
  unfold YF;rw[ho];have hf0:first= #[]:=by simpa using hfe
  subst hf0;constructor;intro hi;obtain⟨x,hx,hix⟩:=Jw.1 hi;obtain⟨y,hy,rfl⟩:=Jf.1 hx;exact Js.2 ⟨y,by simpa[Ja]using hy,hix⟩;intro hi;obtain⟨y,hy,hiy⟩:=Js.1 hi;exact Jw.2 ⟨ρ y,Jf.2 ⟨y,by simpa[Ja]using hy,rfl⟩,hiy⟩
 have W1:∀i,¬Wh o ρ i:=λi=>by simp[Wh,hfp]
 have W2:∀i,Wz o ρ i↔ .b i∈YF o ρ:=λi=>by simp[Wz,hfp]
 have W3:∀i,¬Wq o ρ i:=λi=>by simp[Wq,hfp]
 have zz:∀(m:Hp) i,(.b i∈YF o ρ->(frozenBy m (caps.toList.map ρ)).z i=true)/\(.b i∉YF o ρ->(frozenBy m (caps.toList.map ρ)).z i=m.z i):=λm' i=>by
  constructor;intro hi;obtain⟨off,ho'⟩:=FL hok i ((hrefs i).2 hi);exact SN m' _ i off ho';intro hi;exact F4 m' _ i (λoff ho'=>hi ((hrefs i).1 (Jw.2 ⟨_,ho',by simp[Jb]⟩)))
 refine⟨λi _=>F0 m _ i,λi h=>(zz m i).2 (λhh=>h ((W2 i).2 hh)),λi _=>by rw[X8],λh=>(by rw[hfp]at h;cases h),λh=>(by rw[hfp]at h;cases h),λi h=>by rw[WP];exact h,λi h=>by rw[X8];exact h,λ_=>T7 m _,F3 m _,λm2 a1 _ _ _ _ _ _=> ?_⟩;refine⟨frozenBy m2 (caps.toList.map ρ),.inl ?_,λi=>⟨λh=>absurd h (W1 i),λ_=>F0 m2 _ i⟩,λi=>⟨λh=> ?_,λh=>(zz m2 i).2 (λhh=>h ((W2 i).2 hh))⟩,λi=>⟨λh=>absurd h (W3 i),λ_=>by rw[X8]⟩,⟨λh=>(by rw[hfp]at h;cases h),λ_=>T7 m2 _⟩,F3 m2 _⟩;rw[hop];simp only[hfe,if_true];exact⟨DK _ (λi hi=>a1 (by rw[hfp]) (.b i) ((hrefs i).1 hi)) hok,trivial,trivial⟩;rw[(zz m2 i).1 ((W2 i).1 h),(zz m i).1 ((W2 i).1 h)];exact hok.elim
end
open Go.RowKit
section
variable {P:Program}
theorem ZgV {o:Oper} {ρ:Operand->PV} {m:Hp} {args:Array Operand} {ts:Array TypeId} (ho:o.op= .call ⟨.builtin .append,args,ts⟩) (hok:(aop P o ρ m).ok):Foot P o ρ m (aop P o ρ m).v (aop P o ρ m).m:=by
 have hfp:fp o.op= { rq:=true,wq:=true }:=by rw[ho];rfl
 have W1:∀i,¬Wh o ρ i:=λi=>by simp[Wh,hfp]
 have W2:∀i,¬Wz o ρ i:=λi=>by simp[Wz,hfp]
 have W3:∀i,Wq o ρ i↔(.r i∈YF o ρ\/o.dst=some i):=λi=>by simp[Wq,hfp]
 have hop:∀m,aop P o ρ m=Ye P .append ts.toList o.dst (args.toList.map ρ) m:=λm=>by unfold aop;rw[ho]
 rw[hop]at hok ⊢;have refs:∀x∈args.toList,∀i,.r i∈(ρ x).ids-> .r i∈YF o ρ:=λx hx i hi=>by
  unfold YF;rw[ho];exact Js.2 ⟨x,by simpa[Ja,Call.operands]using hx,hi⟩
 -- what is done:rows Zh in a list are laid anew
 have fin:∀ {v:PV} {L:List (Nat×Row)} {ok:Hp->Prop},(∀x∈L,.r x.1∈YF o ρ\/o.dst=some x.1)->(∀m2:Hp,(∀i,(.r i∈YF o ρ\/o.dst=some i)->m2.q i=m.q i)->aop P o ρ m2=⟨ok m2,v,L.foldl (λm x=>m.setq x.1 x.2) m2⟩/\(ok m->ok m2))->ok m->
   Foot P o ρ m v (L.foldl (λm x=>m.setq x.1 x.2) m):=by
  intro v L ok hL hst hk;have hh:∀(L:List (Nat×Row)) (m:Hp),(L.foldl (λm x=>m.setq x.1 x.2) m).h=m.h/\(L.foldl (λm x=>m.setq x.1 x.2) m).z=m.z:=by
   intro L
   induction L with
   |nil=>intro m;exact⟨rfl,rfl⟩
   |cons x L ih=>intro m;exact⟨(ih _).1,(ih _).2⟩
  have hv:∀(L:List (Nat×Row)) (m:Hp) (x:Ref),(L.foldl (λm x=>m.setq x.1 x.2) m).hv x=m.hv x:=by
   intro L
   induction L with
   |nil=>intro m x;rfl
   |cons y L ih=>intro m x;exact(ih _ x).trans (ZgZ _ _ _ x)
  have ho:∀(L:List (Nat×Row)) (m:Hp),(L.foldl (λm x=>m.setq x.1 x.2) m).o=m.o/\(L.foldl (λm x=>m.setq x.1 x.2) m).io=m.io:=by
   intro L
   induction L with
   |nil=>intro m;exact⟨rfl,rfl⟩
   |cons x L ih=>intro m;exact⟨(ih _).1,(ih _).2⟩
  have qq:∀(L:List (Nat×Row)) (m:Hp) (i:Nat),(∀x∈L,x.1≠i)->(L.foldl (λm x=>m.setq x.1 x.2) m).q i=m.q i:=by
   intro L
   induction L with
   |nil=>intro m i _;rfl
   |cons x L ih=>
    intro m i h;refine(ih (m.setq x.1 x.2) i (λy hy=>h y (by simp[hy]))).trans ?_;exact Zk _ _ (h x (by simp))
  have qsame:∀(L:List (Nat×Row)) (m m2:Hp) (i:Nat),m2.q i=m.q i->(L.foldl (λm x=>m.setq x.1 x.2) m2).q i=(L.foldl (λm x=>m.setq x.1 x.2) m).q i:=by
   intro L
   induction L with
   |nil=>intro m m2 i h;exact h
   |cons x L ih=>
    intro m m2 i h;refine ih (m.setq x.1 x.2) (m2.setq x.1 x.2) i ?_;show upd m2.q x.1 _ i=upd m.q x.1 _ i
    by_cases e:x.1=i
    ·subst e;rw[Za,Za]
    ·rw[Zk _ _ e,Zk _ _ e];exact h
  have qlive:∀(L:List (Nat×Row)) (m:Hp) (i:Nat),m.q i≠none->(L.foldl (λm x=>m.setq x.1 x.2) m).q i≠none:=by
   intro L
   induction L with
   |nil=>intro m i h;exact h
   |cons x L ih=>
    intro m i h;refine ih (m.setq x.1 x.2) i ?_;show upd m.q x.1 _ i≠none
    by_cases e:x.1=i
    ·subst e;rw[Za];simp
    ·rw[Zk _ _ e];exact h
  refine⟨λi _=>hv L m i,λi _=>by rw[(hh L m).2],λi h=>qq L m i (λx hx e=>h ((W3 i).2 (e▸hL x hx))),λh=>(by rw[hfp]at h;cases h),λh=>(by rw[hfp]at h;cases h),λi h=>by rw[(hh L m).1];exact h,λi h=>qlive L m i h,λ_=>(ho L m).1,(ho L m).2,λm2 _ _ a3 _ _ _ _=> ?_⟩;have hag:∀i,(.r i∈YF o ρ\/o.dst=some i)->m2.q i=m.q i:=a3 (by rw[hfp]);obtain⟨e,hk2⟩:=hst m2 hag;refine⟨L.foldl (λm x=>m.setq x.1 x.2) m2,.inl ?_,λi=>⟨λh=>absurd h (W1 i),λ_=>hv L m2 i⟩,λi=>⟨λh=>absurd h (W2 i),λ_=>by rw[(hh L m2).2]⟩,λi=>⟨λh=>qsame L m m2 i (hag i ((W3 i).1 h)),λh=>qq L m2 i (λx hx e=>h ((W3 i).2 (e▸hL x hx)))⟩,⟨λh=>(by rw[hfp]at h;cases h),λ_=>(ho L m2).1⟩,(ho L m2).2⟩;rw[e];exact⟨hk2 hk,rfl,rfl⟩
 revert hok;match hts:ts.toList,has:args.toList with
 | [t,tx],[x,y]=>
  simp only[JX,KW,Ye];cases hd:o.dst with
  |none=>exact λh=>h.elim
  |some d=>
   have hop':∀m2,aop P o ρ m2=UP P d t tx (ρ x) (ρ y) m2:=λm2=>by
    rw[hop,hts,has,hd];rfl
   simp only;unfold UP;unfold UP at hop';have hxr:∀i,.r i∈(ρ x).ids-> .r i∈YF o ρ:=refs x (by rw[has];simp);split
   ·rename_i ei ys es h1 h2 h3;intro hok;exact fin (L:= [(d,_)]) (ok:=λm2=>m2.q d=none/\Sized ei.size ys/\Xw ys/\Zjl ys.length ei.bytes) (by intro z hz;simp at hz;subst hz;exact .inr hd)
     (λm2 hag=>⟨by rw[hop'];simp only[h1,h2,h3];rfl,λhk=>⟨by rw[hag d (.inr hd)];exact hk.1,hk.2⟩⟩) hok
   ·rename_i ei ys id es h1 h2 h3;have hin: .r id∈YF o ρ:=hxr id (by rw[h3];simp[Jb]);cases hq:m.q id with
    |none=>exact λh=>h.elim
    |some r=>
     cases r with
     |dead=>exact λh=>h.elim
     |vec n sz e=>exact λh=>h.elim
     |live n sz e=>
      simp only;intro hok
      by_cases hdi:d=id
      ·subst hdi;simp only[if_true];exact fin (L:= [(d,_)]) (ok:=λm2=>n=es.length/\sz=ei.size/\e=ei.e/\(d=d\/m2.q d=none)/\Sized ei.size es/\Sized ei.size ys/\Xw ys/\Zjl (es.length+ys.length) ei.bytes) (by intro z hz;simp at hz;subst hz;exact .inr hd)
        (λm2 hag=>⟨by rw[hop'];simp only[h1,h2,h3,hag d (.inr hd),hq,if_true];rfl,λhk=>⟨hk.1,hk.2.1,hk.2.2.1,.inl rfl,hk.2.2.2.2⟩⟩) hok
      ·simp only[if_neg hdi];exact fin (L:= [(id,.dead),(d,_)]) (ok:=λm2=>n=es.length/\sz=ei.size/\e=ei.e/\(d=id\/m2.q d=none)/\Sized ei.size es/\Sized ei.size ys/\Xw ys/\Zjl (es.length+ys.length) ei.bytes)
        (by intro z hz;simp at hz;rcases hz with rfl|rfl;exact .inl hin;exact .inr hd)
        (λm2 hag=>⟨by rw[hop'];simp only[h1,h2,h3,hag id (.inl hin),hq,if_neg hdi];rfl,λhk=>⟨hk.1,hk.2.1,hk.2.2.1,hk.2.2.2.1.imp (λh=>h) (λh=>by rw[hag d (.inr hd)];exact h),hk.2.2.2.2⟩⟩) hok
   ·exact λh=>h.elim
 | [],_=>exact λh=>h.elim
 | [_],_=>simp only[Ye];exact λh=>h.elim
 |_::_::_::_,_=>simp only[Ye];exact λh=>h.elim
 | [_,_],[]=>exact λh=>h.elim
 | [_,_],[_]=>simp only[JX,KW,Ye];exact λh=>h.elim
 | [_,_],_::_::_::_=>simp only[JX,Ye];exact λh=>h.elim
theorem Fh {o:Oper} {ρ:Operand->PV} {m:Hp} {wo:Bool} (hfp:fp o.op= { ro:=true,wo:=wo }) (h1:∀m:Hp,(aop P o ρ m).ok->(aop P o ρ m).m= { m with o:=(aop P o ρ m).m.o }/\(wo=false->(aop P o ρ m).m.o=m.o))
  (h2:∀m2:Hp,m2.o=m.o->m2.it=m.it->(aop P o ρ m).ok->(aop P o ρ m2).ok/\(aop P o ρ m2).v=(aop P o ρ m).v/\(aop P o ρ m2).m.o=(aop P o ρ m).m.o) (hok:(aop P o ρ m).ok):Foot P o ρ m (aop P o ρ m).v (aop P o ρ m).m:=by
 have W1:∀i,¬Wh o ρ i:=λi=>by simp[Wh,hfp]
 have W2:∀i,¬Wz o ρ i:=λi=>by simp[Wz,hfp]
 have W3:∀i,¬Wq o ρ i:=λi=>by simp[Wq,hfp]
 obtain⟨e,e'⟩:=h1 m hok;refine⟨λi _=>by rw[e];cases i<;>rfl,λi _=>by rw[e],λi _=>by rw[e],λh=>(by rw[hfp]at h;cases h),λh=>(by rw[hfp]at h;cases h),λi h=>by rw[e];exact h,λi h=>by rw[e];exact h,
  λh=>e' (by rw[hfp]at h;exact h),by rw[e];rfl,λm2 _ _ _ _ _ a1 a2=> ?_⟩
 obtain⟨g1,g2,g3⟩:=h2 m2 (a1 (by rw[hfp])) (congrArg (λx=>x.1) a2) hok;obtain⟨k,k'⟩:=h1 m2 g1;exact⟨(aop P o ρ m2).m,.inl ⟨g1,g2.symm,rfl⟩,λi=>⟨λh=>absurd h (W1 i),λ_=>by rw[k];cases i<;>rfl⟩,λi=>⟨λh=>absurd h (W2 i),λ_=>by rw[k]⟩,λi=>⟨λh=>absurd h (W3 i),λ_=>by rw[k]⟩,⟨λ_=>g3,λh=>k' (by rw[hfp]at h;exact h)⟩,by rw[k];rfl⟩
theorem Zai {m m2:Hp} (h:m2.o=m.o) (x:PV):Do m2 x=Do m x:=by cases x<;>simp[Do,h]
theorem TC {t:TypeId} {x k:PV} {ok:Bool} (m m2:Hp) (h:m2.o=m.o):(X1 P t x k ok m).ok->(X1 P t x k ok m).m=m/\(X1 P t x k ok m2).ok/\(X1 P t x k ok m2).v=(X1 P t x k ok m).v/\(X1 P t x k ok m2).m=m2:=by
 unfold X1;rw[Zai h];split;split;exact λhk=>⟨rfl,hk,rfl,rfl⟩
 exact λhk=>hk.elim
 exact λhk=>hk.elim
theorem DQ {t:TypeId} {x:PV} (m m2:Hp) (h:m2.o=m.o):(WL P t x m).ok->(WL P t x m).m=m/\(WL P t x m2).ok/\(WL P t x m2).v=(WL P t x m).v/\(WL P t x m2).m=m2:=by
 unfold WL;rw[Zai h];split;exact λhk=>⟨rfl,hk,rfl,rfl⟩
 exact λhk=>hk.elim
theorem SH {x:PV} (m m2:Hp) (h:m2.o=m.o) (h':m2.it=m.it):(VD x m).ok->(VD x m).m=m/\(VD x m2).ok/\(VD x m2).v=(VD x m).v/\(VD x m2).m=m2:=by
 have hm:∀it,mapIt m2 it=mapIt m it:=λit=>by unfold mapIt;rw[h]
 unfold VD;rw[h'];simp only[hm];split;split;split;exact λhk=>⟨rfl,hk,rfl,rfl⟩
 exact λhk=>hk.elim
 exact λhk=>hk.elim
 exact λhk=>hk.elim
theorem TR {t:TypeId} {x k v:PV} (m m2:Hp) (h:m2.o=m.o):(Z9 P t x k v m).ok->(Z9 P t x k v m).m= { m with o:=(Z9 P t x k v m).m.o }/\(Z9 P t x k v m2).ok/\(Z9 P t x k v m2).v=(Z9 P t x k v m).v/\(Z9 P t x k v m2).m.o=(Z9 P t x k v m).m.o:=by
 unfold Z9;rw[h];split;split;split;exact λhk=>⟨rfl,hk,rfl,rfl⟩
 exact λhk=>⟨rfl,hk,rfl,rfl⟩
 exact λhk=>hk.elim
 exact λhk=>hk.elim
 exact λhk=>hk.elim
theorem Fg {o:Oper} {ρ:Operand->PV} {m:Hp} (hok:(aop P o ρ m).ok):Foot P o ρ m (aop P o ρ m).v (aop P o ρ m).m:=by
 have nm:WK (aop P o ρ)->fp o.op= {}->Foot P o ρ m (aop P o ρ m).v (aop P o ρ m).m:=λh hf=>Foot.noMem h (by rw[hf]) (by rw[hf]) (by rw[hf]) (by rw[hf]) (by rw[hf]) (by rw[hf]) hok
 obtain⟨dst,op,ty,pos,af,guard⟩:=o;cases op with
 |move x=>exact nm (ZC) rfl
 |assign x=>exact nm (ZC) rfl
 |pick c x y=>exact nm (Zce) rfl
 |alloc t=>
  cases dst with
  |none=>exact hok.elim
  |some d=>
   cases hz:Wy P t with
   |none=>simp only[aop,hz]at hok;exact hok.elim
   |some z=>exact Foot.newB (d:=d) (v:= .ptr d 0) (cs:=z) (ok:=True) rfl (λm=>by simp only[aop,hz,and_true]) rfl hok
 |box t x=>
  cases dst with
  |none=>exact hok.elim
  |some d=>exact Foot.newB (d:=d) rfl (λm=>rfl) rfl hok
 |build t parts=>exact nm (Zam) rfl
 |buildSlice t len parts=>
  cases dst with
  |none=>exact hok.elim
  |some d=>
   cases he:We P t with
   |none=>simp only[aop,Xc,he]at hok;exact hok.elim
   |some ei=>exact Foot.newQ (d:=d) rfl (λm=>by simp only[aop,Xc,he];rfl) rfl hok
 |load t x=>exact ZlH rfl hok
 |store t x y=>exact ZjI rfl hok
 |nilCheck x=>exact nm (Sy) rfl
 |binOp op t x y yt=>exact nm (Zfc) rfl
 |unOp op t x=>exact nm (Zir) rfl
 |convert a b x=>exact ZlG rfl hok
 |makeFunc fn first caps=>
  cases fn with
  |func f=>exact Zdc rfl hok
  |_=>exact hok.elim
 |makeSlice t l c=>
  cases dst with
  |none=>exact hok.elim
  |some d=>
   by_cases hl:∃k,l= .const (.int k 0)
   ·obtain⟨k,rfl⟩:=hl;have hop:∀m,aop P ⟨some d,.makeSlice t (.const (.int k 0)) c,ty,pos,af,guard⟩ ρ m=Wg P d t (ρ c) m:=λm=>rfl
    rw[hop]at hok;unfold Wg at hok;split at hok
    ·rename_i ei kc n h1 h2;exact Foot.newQ (d:=d) rfl (λm=>by rw[hop];simp only[Wg,h1,h2];rfl) rfl (by rw[hop];unfold Wg;rw[h1,h2];exact hok)
    ·exact hok.elim
   ·have hop:∀m,aop P ⟨some d,.makeSlice t l c,ty,pos,af,guard⟩ ρ m=aMakeFull P d t (ρ l) (ρ c) m:=λm=>by
     unfold aop;simp only;split
     ·rename_i k;exact absurd ⟨k,rfl⟩ hl
     ·rfl
    rw[hop]at hok;unfold aMakeFull at hok;split at hok
    ·rename_i ei kl n kc n' h1 h2 h3;split at hok
     ·rename_i z hz;exact Foot.newQ (d:=d) rfl (λm=>by rw[hop];simp only[aMakeFull,h1,h2,h3,hz];rfl) rfl (by rw[hop];unfold aMakeFull;rw[h1,h2,h3];simp only[hz];exact hok)
     ·exact hok.elim
    ·exact hok.elim
 |slice t x lo hi mx=>
  refine nm (λm m2 h=> ?_) rfl
  revert h
  unfold aop;simp only;split
  ·exact Zap m m2
  ·exact ZD m m2
 |fieldAddr t x f=>exact nm (TD) rfl
 |field t x f=>exact nm (Zan) rfl
 |indexAddr t x i=>exact nm (TE) rfl
 |index t x i=>exact nm (Zao) rfl
 |extract x i=>exact nm (GC) rfl
 |lookup t x k ok=>
  have hop:∀m,aop P ⟨dst,.lookup t x k ok,ty,pos,af,guard⟩ ρ m=X1 P t (ρ x) (ρ k) ok m:=λm=>rfl
  refine Fh (wo:=false) rfl (λm h=> ?_) (λm2 h1 h2 h=> ?_) hok
  ·rw[hop]at h ⊢;have:=(TC m m rfl h).1;exact⟨by rw[this],λ_=>by rw[this]⟩
  ·rw[hop]at h ⊢;rw[hop];obtain⟨a1,a2,a3,a4⟩:=TC _ m2 h1 h;exact⟨a2,a3,by rw[a4,a1];exact h1⟩
 |entry x=>
  have hop:∀m,aop P ⟨dst,.entry x,ty,pos,af,guard⟩ ρ m=VD (ρ x) m:=λm=>rfl
  refine Fh (wo:=false) rfl (λm h=> ?_) (λm2 h1 h2 h=> ?_) hok
  ·rw[hop]at h ⊢;have:=(SH m m rfl rfl h).1;exact⟨by rw[this],λ_=>by rw[this]⟩
  ·rw[hop]at h ⊢;rw[hop];obtain⟨a1,a2,a3,a4⟩:=SH _ m2 h1 h2 h;exact⟨a2,a3,by rw[a4,a1];exact h1⟩
 |mapUpdate t x k v=>
  exact Fh (wo:=true) rfl (λm h=>⟨(TR m m rfl h).1,λh=>by cases h⟩) (λm2 h1 h2 h=>(TR _ m2 h1 h).2) hok
 |call c=>
  obtain⟨callee,args,ts⟩:=c;cases callee with
  |builtin b=>
   by_cases hb:b= .append
   ·subst hb;exact ZgV rfl hok
   by_cases hb2:b= .len
   ·subst hb2;have hop:∀m,aop P ⟨dst,.call ⟨.builtin .len,args,ts⟩,ty,pos,af,guard⟩ ρ m=Ye P .len ts.toList dst (args.toList.map ρ) m:=λm=>rfl
    have key:∀m m2:Hp,m2.o=m.o->(Ye P .len ts.toList dst (args.toList.map ρ) m).ok->(Ye P .len ts.toList dst (args.toList.map ρ) m).m=m/\(Ye P .len ts.toList dst (args.toList.map ρ) m2).ok/\(Ye P .len ts.toList dst (args.toList.map ρ) m2).v=(Ye P .len ts.toList dst (args.toList.map ρ) m).v/\(Ye P .len ts.toList dst (args.toList.map ρ) m2).m=m2:=by
     intro m m2 h;unfold Ye;split
     ·split
      ·exact DQ m m2 h
      ·exact Zfe m m2
     all_goals first|contradiction|exact ZD m m2
    refine Fh (wo:=false) rfl (λm h=> ?_) (λm2 h1 h2 h=> ?_) hok
    ·rw[hop]at h ⊢;have:=(key m m rfl h).1;exact⟨by rw[this],λ_=>by rw[this]⟩
    ·rw[hop]at h ⊢;rw[hop];obtain⟨a1,a2,a3,a4⟩:=key m m2 h1 h;exact⟨a2,a3,by rw[a4,a1];exact h1⟩
   ·refine nm (λm m2 h=> ?_) (by cases b<;>first|rfl|exact absurd rfl hb|exact absurd rfl hb2)
    revert h
    show(Ye P b ts.toList dst (args.toList.map ρ) m).ok->(Ye P b ts.toList dst (args.toList.map ρ) m).m=m/\(Ye P b ts.toList dst (args.toList.map ρ) m2).ok/\(Ye P b ts.toList dst (args.toList.map ρ) m2).v=(Ye P b ts.toList dst (args.toList.map ρ) m).v/\(Ye P b ts.toList dst (args.toList.map ρ) m2).m=m2;unfold Ye;split
    ·exact absurd rfl hb2
    ·exact absurd rfl hb
    ·exact Zff m m2
    ·exact Zfg m m2
    ·exact Zfd m m2
    ·exact Zcf m m2
    ·exact Zcd m m2
    ·exact ZD m m2
  |_=>exact hok.elim
 |_=>exact hok.elim
theorem FZ {o:Oper} {ρ:Operand->PV} {m m':Hp} {v:PV} (h:Wc P o ρ m v m'):Foot P o ρ m v m':=by
 rcases h with ⟨h1,rfl,rfl⟩|⟨c,g,args,ho,hc,hg,hp,rfl⟩;exact Fg h1;exact ZlF ho hc hg hp
end
open Go.RowKit
def compat (a b:Op):Bool:=
 let x:=fp a
 let y:=fp b
 !(x.wh&&(y.rh||y.wh))&& !(y.wh&&(x.rh||x.wh))&& !(x.wz&&(y.rz||y.wz))&& !(y.wz&&(x.rz||x.wz))&& !(x.wq&&(y.rq||y.wq))&& !(y.wq&&(x.rq||x.wq))&& !(x.wo&&(y.ro||y.wo))&& !(y.wo&&(x.ro||x.wo))
section
variable {P:Program} {ops:Array Oper}
theorem Zk0 {ρ ρ':Operand->PV} (o:Oper) (m:Hp) (h:∀x∈o.op.operands,ρ x=ρ' x):aop P o ρ m=aop P o ρ' m:=by
 obtain⟨dst,op,ty,pos,af,guard⟩:=o;have pairs:∀ps:Array (Nat×Operand),(∀x∈(ps.toList.map (·.2)).toArray,ρ x=ρ' x)->(ps.toList.map λx=>(x.1,ρ x.2))=(ps.toList.map λx=>(x.1,ρ' x.2)):=λps hp=>
  JW λp hm=>by rw[hp p.2 (by simp only[List.mem_toArray,Jf];exact⟨p,hm,rfl⟩)]
 cases op with
 |build t ps=>simp only[aop];rw[pairs ps h]
 |buildSlice t n ps=>simp only[aop];rw[pairs ps h]
 |makeFunc fn first caps=>
  have:caps.toList.map ρ=caps.toList.map ρ':=JW λx hx=>h x (by simp[Ja];right;simpa using hx)
  cases fn<;>simp only[aop,this]
 |makeSlice t l c=>
  have h1:ρ l=ρ' l:=h l (by simp[Ja]);have h2:ρ c=ρ' c:=h c (by simp[Ja]);simp only[aop,h1,h2]
 |slice t x lo hi mx=>
  have h1:ρ x=ρ' x:=h x (by simp[Ja]);have h2:lo.map ρ=lo.map ρ':=by cases lo with|none=>rfl|some y=>simp[h y (by simp[Ja])]
  have h3:hi.map ρ=hi.map ρ':=by cases hi with|none=>rfl|some y=>simp[h y (by simp[Ja])]
  simp only[aop,h1,h2,h3]
 |call c=>
  obtain⟨callee,args,ts⟩:=c;cases callee with
  |builtin b=>
   have:args.toList.map ρ=args.toList.map ρ':=JW λx hx=>h x (by simp[Ja,Call.operands];simpa using hx)
   simp only[aop,this]
  |_=>rfl
 |pick c x y=>
  simp only[aop,h c (by simp[Ja]),h x (by simp[Ja]),h y (by simp[Ja])]
 |alloc t=>rfl
 |move x=>simp only[aop,h x (by simp[Ja])]
 |assign x=>simp only[aop,h x (by simp[Ja])]
 |box t x=>simp only[aop,h x (by simp[Ja])]
 |load t x=>simp only[aop,h x (by simp[Ja])]
 |store t x y=>simp only[aop,h x (by simp[Ja]),h y (by simp[Ja])]
 |nilCheck x=>simp only[aop,h x (by simp[Ja])]
 |binOp op t x y yt=>simp only[aop,h x (by simp[Ja]),h y (by simp[Ja])]
 |unOp op t x=>simp only[aop,h x (by simp[Ja])]
 |convert a b x=>simp only[aop,h x (by simp[Ja])]
 |fieldAddr t x f=>simp only[aop,h x (by simp[Ja])]
 |field t x f=>simp only[aop,h x (by simp[Ja])]
 |indexAddr t x i=>simp only[aop,h x (by simp[Ja]),h i (by simp[Ja])]
 |index t x i=>simp only[aop,h x (by simp[Ja]),h i (by simp[Ja])]
 |extract x i=>simp only[aop,h x (by simp[Ja])]
 |lookup t x k ok=>simp only[aop,h x (by simp[Ja]),h k (by simp[Ja])]
 |mapUpdate t x k v=>simp only[aop,h x (by simp[Ja]),h k (by simp[Ja]),h v (by simp[Ja])]
 |entry x=>simp only[aop,h x (by simp[Ja])]
 |_=>rfl
theorem XB {ρ ρ':Operand->PV} {o:Oper} {m m':Hp} {v:PV} (h:∀x∈o.op.operands,ρ x=ρ' x) (hs:Wc P o ρ m v m'):Wc P o ρ' m v m':=by
 rcases hs with ⟨h1,h2,h3⟩|⟨c,g,args,ho,hc,hg,hp,rfl⟩;rw[Zk0 o m h]at h1 h2 h3;exact .inl ⟨h1,h2,h3⟩;refine .inr ⟨c,g,args,ho,?_,hg,hp,rfl⟩;rw[<-hc];rw[ho]at h;unfold Yt;cases hcal:c.callee with
 |value f=>
  have e1:ρ f=ρ' f:=h f (by simp[Ja,Call.operands,hcal]);have e2:c.args.toList.map ρ'=c.args.toList.map ρ:=JW λx hx=>(h x (by simp[Ja,Call.operands];right;simpa using hx)).symm
  simp only[e1,e2]
 |_=>rfl
def VC (P:Program) (ops:Array Oper) (o:Oper) (s s':St):Prop:=
 FR s.n o.dst/\((gd ops s o=some true/\ ∃v m',Wc P o s.eval s.m v m'/\s'=(s.with m').put o.dst v)\/(gd ops s o=some false/\s'=s.put o.dst (.tup [])))
theorem Zay (s:St) (d:Option Nat) (v:PV):(s.put d v).n=s.n:=by cases d<;>rfl
theorem GF (s:St) (d:Option Nat) (v:PV):(s.put d v).m=s.m:=by cases d<;>rfl
theorem Ub (s:St) (d:Option Nat) (v:PV) (m:Hp):(s.put d v).with m=(s.with m).put d v:=by cases d<;>rfl
theorem Zfx {s:St} {d:Option Nat} {v:PV} {i:Nat} (h:d≠some i):(s.put d v).fr i=s.fr i:=by
 cases d with
 |none=>rfl
 |some d=>exact Zk _ _ (λe=>h (by rw[e]))
theorem Ua {s:St} {d:Option Nat} {v:PV} {x:Operand} (h:∀t,d=some t->x≠ .tmp t):(s.put d v).eval x=s.eval x:=by
 cases x with
 |tmp t=>exact Zfx (λe=>h t e rfl)
 |_=>rfl
theorem GU (s:St) (m:Hp):(s.with m).eval=s.eval:=by
 funext x;cases x<;>rfl
theorem V9 (s:St) {x y:Option Nat} (u v:PV) (h:∀d,x=some d->y≠some d):(s.put x u).put y v=(s.put y v).put x u:=by
 cases x with
 |none=>rfl
 |some d=>
  cases y with
  |none=>rfl
  |some e=>
   have hne:d≠e:=λhe=>h d rfl (he▸rfl)
   simp only[St.put];congr 1;funext i;simp only[upd];by_cases h1:e=i;by_cases h2:d=i;exact absurd (h2.trans h1.symm) hne;simp[h1,h2];simp[h1]
theorem Tf {s:St} {o:Oper} {d:Option Nat} {v:PV} {m:Hp} (h:∀t,d=some t->t∉o.looksAt ops):gd ops ((s.with m).put d v) o=gd ops s o:=by
 unfold gd;cases hg:o.guard with
 |none=>rfl
 |some jw=>
  obtain⟨j,want⟩:=jw;simp only;cases hd:(ops[j]?).bind (·.dst)with
  |none=>rfl
  |some t=>
   simp only[Zay];have:d≠some t:=λe=>h t e (by unfold Oper.looksAt;rw[hg];simp[hd])
   rw[Zfx this];rfl
theorem W6 {o:Oper} {d:Option Nat} (h:∀t,d=some t->t∉o.looksAt ops):∀x∈o.op.operands,∀t,d=some t->x≠ .tmp t:=λx hx t ht e=>by
 refine h t ht ?_;subst e;unfold Oper.looksAt;exact List.mem_append_left _ (List.mem_filterMap.2 ⟨.tmp t,by simpa using hx,rfl⟩)
theorem ZfB {s:St} (hr:Refs s) (o:Oper):∀r∈YF o s.eval,ZX s.m r:=λr h=>by
 unfold YF at h;obtain⟨x,_,hx⟩:=Js.1 h;cases x with
 |tmp t=>exact hr.fr t r hx
 |const v=>simp[St.eval,VM]at hx
 |func f=>simp[St.eval,Jb,Jq]at hx
 |_=>simp[St.eval,Jb]at hx
theorem ZsI {a b:Hp} (h1:∀i,a.hv i=b.hv i) (h2:∀i,a.z i=b.z i) (h3:∀i,a.q i=b.q i) (h4:a.o=b.o) (h5:a.io=b.io):a=b:=by
 cases a;cases b;simp only[Hp.mk.injEq];exact⟨funext λi=>h1 (.b i),funext h2,funext h3,h4,congrArg (λx=>x.1) h5,congrArg (λx=>x.2.1) h5,funext λi=>h1 (.r i),congrArg (λx=>x.2.2.1) h5,congrArg (λx=>x.2.2.2.1) h5,congrArg (λx=>x.2.2.2.2) h5⟩
theorem ZcI {s s1 s2:St} {oi oj:Oper} (hr:Refs s) (hap:oi.apart ops oj=true) (hcp:compat oi.op oj.op=true) (h1:VC P ops oi s s1) (h2:VC P ops oj s1 s2):
  ∃s1',VC P ops oj s s1'/\VC P ops oi s1' s2:=by
 obtain⟨a1,a2,a3⟩:=Oper.apart_spec hap;obtain⟨d1,h1⟩:=h1;obtain⟨d2,h2⟩:=h2;have n1:s1.n=s.n:=by rcases h1 with ⟨_,v,m',_,rfl⟩|⟨_,rfl⟩<;>simp[Zay,St.with]
 rw[n1]at d2;have ej:∀x∈oj.op.operands,s1.eval x=s.eval x:=λx hx=>by
  rcases h1 with ⟨_,v,m',_,rfl⟩|⟨_,rfl⟩;rw[Ua (W6 a1 x hx),GU];rw[Ua (W6 a1 x hx)]
 have gj:gd ops s1 oj=gd ops s oj:=by
  rcases h1 with ⟨_,v,m',_,rfl⟩|⟨_,rfl⟩;exact Tf a1;exact Tf (m:=s.m) a1
 have a2':∀d,oj.dst=some d->oi.dst≠some d:=λd hd e=>a2 d e hd
 rcases h1 with ⟨g1,vi,mi,st1,rfl⟩|⟨g1,rfl⟩;rcases h2 with ⟨g2,vj,mj,st2,rfl⟩|⟨g2,rfl⟩
 -- both are carried out
 rw[GF]at st2;have st2':Wc P oj s.eval mi vj mj:=XB ej st2;have F1:=FZ st1;have F2:=FZ st2';have Li:=ZfB hr oi;have Lj:=ZfB hr oj;simp only[compat,JN,Bool.not_eq_true',Bool.and_eq_false_imp,Kn]at hcp;obtain⟨⟨⟨⟨⟨⟨⟨c1,c2⟩,c3⟩,c4⟩,c5⟩,c6⟩,c7⟩,c8⟩:=hcp;have dne:∀i,oi.dst=some i->oj.dst=some i->False:=λi h h'=>a2 i h h'
 -- what the second one makes anew was not there before the first one
 have nbj:(fp oj.op).nb=true-> ∀i,oj.dst=some i->s.m.h i=none:=λhb i hi=>by
  have h0:=F2.hn hb i hi;refine JV λhne=> ?_
  exact F1.hl i hne h0
 have nqj:(fp oj.op).nq=true-> ∀i,oj.dst=some i->s.m.q i=none:=λhb i hi=>by
  have h0:=F2.qn hb i hi;refine JV λhne=> ?_
  exact F1.ql i hne h0
 obtain⟨ma,sta,ah,az,aq,ao,ai⟩:=F2.re s.m
  (λhrh i hi=>by
   refine(F1.h1 i ?_).symm
   rintro (⟨w,_⟩|⟨nb,d,hd,rfl⟩)
   ·have:=(c1 w).1;rw[hrh]at this;cases this
   ·exact Lj _ hi (F1.hn nb d hd))
  (λhrz i hi=>by
   refine(F1.z1 i ?_).symm
   rintro (⟨w,_⟩|⟨nb,hd⟩)
   ·have:=(c3 w).1;rw[hrz]at this;cases this
   ·exact Lj _ hi (F1.hn nb i hd))
  (λhrq i hi=>by
   refine(F1.q1 i ?_).symm
   rintro (⟨w,_⟩|⟨nq,hd⟩)
   ·have:=(c5 w).1;rw[hrq]at this;cases this
   ·rcases hi with hi|hi
    ·exact Lj _ hi (F1.qn nq i hd)
    ·exact dne i hd hi)
  nbj nqj
  (λhro=>by
   refine(F1.o1 ?_).symm;cases hw:(fp oi.op).wo with
   |false=>rfl
   |true=>have:=(c7 hw).1;rw[hro]at this;cases this) F1.i1.symm
 obtain⟨mb,stb,bh,bz,bq,bo,bi⟩:=F1.re ma
  (λhrh i hi=>by
   refine(ah i).2 ?_
   rintro (⟨w,_⟩|⟨nb,d,hd,rfl⟩)
   ·have:=(c2 w).1;rw[hrh]at this;cases this
   ·exact Li _ hi (nbj nb d hd))
  (λhrz i hi=>by
   refine(az i).2 ?_
   rintro (⟨w,_⟩|⟨nb,hd⟩)
   ·have:=(c4 w).1;rw[hrz]at this;cases this
   ·exact Li _ hi (nbj nb i hd))
  (λhrq i hi=>by
   refine(aq i).2 ?_
   rintro (⟨w,_⟩|⟨nq,hd⟩)
   ·have:=(c6 w).1;rw[hrq]at this;cases this
   ·rcases hi with hi|hi
    ·exact Li _ hi (nqj nq i hd)
    ·exact dne i hi hd)
  (λnb i hd=>by
   refine((ah (.b i)).2 ?_).trans (F1.hn nb i hd)
   rintro (⟨_,hi⟩|⟨_,d,hd',e⟩)
   ·exact Lj _ hi (F1.hn nb i hd)
   ·cases e;exact dne i hd hd')
  (λnq i hd=>by
   refine((aq i).2 ?_).trans (F1.qn nq i hd)
   rintro (⟨w,hi⟩|⟨_,hd'⟩)
   ·rcases hi with hi|hi
    ·exact Lj _ hi (F1.qn nq i hd)
    ·exact dne i hd hi
   ·exact dne i hd hd')
  (λhro=>by
   refine ao.2 ?_;cases hw:(fp oj.op).wo with
   |false=>rfl
   |true=>have:=(c8 hw).1;rw[hro]at this;cases this) ai
 have em:mb=mj:=by
  refine ZsI (λi=> ?_) (λi=> ?_) (λi=> ?_) ?_ (by rw[bi,ai,F2.i1,F1.i1]);by_cases wi:Wh oi s.eval i;rw[(bh i).1 wi];refine(F2.h1 i ?_).symm;rintro (⟨w,hi⟩|⟨nb,d,hd,e⟩);rcases wi with ⟨w',_⟩|⟨nb',d',hd',e'⟩;have:=(c1 w').2;rw[w]at this;cases this;subst e';exact Lj _ hi (F1.hn nb' d' hd');subst e;rcases wi with ⟨_,hi'⟩|⟨_,d',hd',e'⟩;exact Li _ hi' (nbj nb d hd);cases e';exact dne d hd' hd;rw[(bh i).2 wi];by_cases wj:Wh oj s.eval i;exact(ah i).1 wj;rw[(ah i).2 wj,F2.h1 i wj,F1.h1 i wi];by_cases wi:Wz oi s.eval i;rw[(bz i).1 wi];refine(F2.z1 i ?_).symm;rintro (⟨w,hi⟩|⟨nb,hd⟩);rcases wi with ⟨w',_⟩|⟨nb',hd'⟩;have:=(c3 w').2;rw[w]at this;cases this;exact Lj _ hi (F1.hn nb' i hd');rcases wi with ⟨_,hi'⟩|⟨_,hd'⟩;exact Li _ hi' (nbj nb i hd);exact dne i hd' hd;rw[(bz i).2 wi];by_cases wj:Wz oj s.eval i;exact(az i).1 wj;rw[(az i).2 wj,F2.z1 i wj,F1.z1 i wi];by_cases wi:Wq oi s.eval i;rw[(bq i).1 wi];refine(F2.q1 i ?_).symm;rintro (⟨w,hi⟩|⟨nq,hd⟩);rcases wi with ⟨w',_⟩|⟨nq',hd'⟩;have:=(c5 w').2;rw[w]at this;cases this;rcases hi with hi|hi;exact Lj _ hi (F1.qn nq' i hd');exact dne i hd' hi;rcases wi with ⟨_,hi'⟩|⟨_,hd'⟩;rcases hi' with hi'|hi';exact Li _ hi' (nqj nq i hd);exact dne i hi' hd;exact dne i hd' hd;rw[(bq i).2 wi];by_cases wj:Wq oj s.eval i;exact(aq i).1 wj;rw[(aq i).2 wj,F2.q1 i wj,F1.q1 i wi];cases hwi:(fp oi.op).wo with
  |true=>
   rw[bo.1 hwi];refine(F2.o1 ?_).symm;cases hwj:(fp oj.op).wo with
   |false=>rfl
   |true=>have:=(c7 hwi).2;rw[hwj]at this;cases this
  |false=>
   rw[bo.2 hwi];cases hwj:(fp oj.op).wo with
   |true=>exact ao.1 hwj
   |false=>rw[ao.2 hwj,F2.o1 hwj,F1.o1 hwi]
 subst em;refine⟨(s.with ma).put oj.dst vj,⟨d2,.inl ⟨by rw[<-gj];exact g2,vj,ma,sta,rfl⟩⟩,by rw[Zay];exact d1,.inl ⟨by rw[Tf a3];exact g1,vi,mb,?_,?_⟩⟩;rw[GF];refine XB (λx hx=> ?_) stb;rw[Ua (W6 a3 x hx),GU];rw[Ub,Ub,V9 _ _ _ a2];rfl;refine⟨s.put oj.dst (.tup []),⟨d2,.inr ⟨by rw[<-gj];exact g2,rfl⟩⟩,by rw[Zay];exact d1,.inl ⟨by rw[show s.put oj.dst (.tup [])=(s.with s.m).put oj.dst (.tup [])from rfl,Tf a3];exact g1,vi,mi,?_,?_⟩⟩;rw[GF];exact XB (λx hx=>by rw[Ua (W6 a3 x hx)]) st1;rw[Ub,V9 _ _ _ a2];rcases h2 with ⟨g2,vj,mj,st2,rfl⟩|⟨g2,rfl⟩;rw[GF]at st2;refine⟨(s.with mj).put oj.dst vj,⟨d2,.inl ⟨by rw[<-gj];exact g2,vj,mj,XB ej st2,rfl⟩⟩,by rw[Zay];exact d1,.inr ⟨by rw[Tf a3];exact g1,?_⟩⟩;rw[Ub,V9 _ _ _ a2];refine⟨s.put oj.dst (.tup []),⟨d2,.inr ⟨by rw[<-gj];exact g2,rfl⟩⟩,by rw[Zay];exact d1,.inr ⟨by rw[show s.put oj.dst (.tup [])=(s.with s.m).put oj.dst (.tup [])from rfl,Tf a3];exact g1,?_⟩⟩;rw[V9 _ _ _ a2]
end
open Go.RowKit
section
variable {P:Program} {ops:Array Oper}
theorem PV.mem_didsL {id:Ref}:∀ {cs:List PV},id∈PV.didsL cs↔ ∃c∈cs,id∈c.dids
 | []=>by simp[PV.didsL]
 |c::cs=>by simp[PV.didsL,PV.mem_didsL (cs:=cs)]
theorem FO {l l':List PV} (h:∀c∈l,c∈l') {i:Ref} (hi:i∈PV.didsL l):i∈PV.didsL l':=by
 obtain⟨c,hc,hr⟩:=PV.mem_didsL.1 hi;exact PV.mem_didsL.2 ⟨c,h c hc,hr⟩
mutual
theorem UZ:∀(p:PV) {r:Ref},r∈p.ids->r∈p.dids
 | .ptr _ _,r,h=>h
 | .osl _ _ _ _,r,h=>h
 | .sl t es,r,h=>by cases t<;>simp[Jb]at h;subst h;simp[PV.dids]
 | .agg cs,r,h=>by simp only[Jb,PV.dids]at *;exact T8 cs h
 | .tup cs,r,h=>by simp only[Jb,PV.dids]at *;exact T8 cs h
 | .fn _ cs,r,h=>by simp only[Jb,PV.dids]at *;exact T8 cs h
 | .any,r,h=>by simp[Jb]at h
 | .int _ _,r,h=>by simp[Jb]at h
 | .bool _,r,h=>by simp[Jb]at h
 | .str _,r,h=>by simp[Jb]at h
 | .flt _ _,r,h=>by simp[Jb]at h
 | .cpx _ _ _,r,h=>by simp[Jb]at h
 | .rptr _,r,h=>by simp[Jb]at h
 | .nilp,r,h=>by simp[Jb]at h
 | .nilfn,r,h=>by simp[Jb]at h
 | .nilmap,r,h=>by simp[Jb]at h
 | .mref _,r,h=>by simp[Jb]at h
 | .rmap _ _,r,h=>by simp[Jb]at h
 | .vsl _ _ _,r,h=>h
 | .vptr _ _ _ _ _,r,h=>h
 | .iptr _,r,h=>by simp[Jb]at h
theorem T8:∀(cs:List PV) {r:Ref},r∈Jq cs->r∈PV.didsL cs
 | [],r,h=>by simp[Jq]at h
 |c::cs,r,h=>by
  simp only[Jq,PV.didsL,Jj]at *;exact h.imp (UZ c) (T8 cs)
end
theorem FP (v:Value):(TF v).dids= []:=by unfold TF;split<;>rfl
theorem ZeI (l:List Value):PV.didsL (l.map TF)= []:=by
 induction l with
 |nil=>rfl
 |cons a l ih=>simp[PV.didsL,FP,ih]
theorem Uu (v:Value):(XR v).dids= []:=by
 unfold XR;split;simp[PV.dids,ZeI];split<;>rfl
 exact FP _
theorem ZaK {t:Tok} {es:List PV} {r:Ref} (h:r∈PV.didsL es):r∈(PV.sl t es).dids:=by
 cases t<;>simp[PV.dids,h]
theorem Us {p c:PV} (hc:c∈p.cells) {k:Ref} (hk:k∈c.dids):k∈p.dids:=by
 cases p with
 |agg cs=>simp only[J9]at hc;simp only[PV.dids];exact PV.mem_didsL.2 ⟨c,hc,hk⟩
 |_=>simp only[J9,Jn]at hc;subst hc;exact hk
theorem Wn {cs:List PV} {o:Nat} {r:Ref} (h:r∈(cs.getD o .any).dids):r∈PV.didsL cs:=by
 rw[List.getD_eq_getElem?_getD]at h;cases hg:cs[o]? with
 |none=>rw[hg]at h;simp[PV.dids]at h
 |some c=>rw[hg]at h;exact PV.mem_didsL.2 ⟨c,List.mem_of_getElem? hg,h⟩
theorem UA {ag:Bool} {sz:Nat} {cs:List PV} {o:Nat} {r:Ref} (h:r∈(W7 ag sz cs o).dids):r∈PV.didsL cs:=by
 unfold W7 at h;split at h;simp only[PV.dids]at h;exact FO (λc hc=>JK (JT hc)) h;exact Wn h
theorem Zcw {cs ns:List PV} {o:Nat} {r:Ref} (h:r∈PV.didsL (YT cs o ns)):r∈PV.didsL cs\/r∈PV.didsL ns:=by
 obtain⟨c,hc,hr⟩:=PV.mem_didsL.1 h;unfold YT at hc;rw[Jj,Jj]at hc;rcases hc with (hc|hc)|hc;exact .inl (PV.mem_didsL.2 ⟨c,JT hc,hr⟩);exact .inr (PV.mem_didsL.2 ⟨c,hc,hr⟩);exact .inl (PV.mem_didsL.2 ⟨c,JK hc,hr⟩)
theorem Vt {p:PV} {r:Ref} (h:r∈PV.didsL p.cells):r∈p.dids:=by
 obtain⟨c,hc,hr⟩:=PV.mem_didsL.1 h;exact Us hc hr
theorem Zh9 {place:Nat->Option (Nat×Nat)}:∀(l:List (Nat×PV)) (cs cs':List PV),Tv place cs l=some cs'-> ∀r∈PV.didsL cs',r∈PV.didsL cs\/ ∃x∈l,r∈x.2.dids
 | [],cs,cs',h,r,hr=>by
  simp only[Tv,Jm.injEq]at h;subst h;exact .inl hr
 |(i,p)::rest,cs,cs',h,r,hr=>by
  simp only[Tv]at h;split at h;cases h;split at h;rcases Zh9 rest _ _ h r hr with h1|⟨x,hx,h1⟩;rcases Zcw h1 with h2|h2;exact .inl h2;exact .inr ⟨(i,p),by simp,Vt h2⟩;exact .inr ⟨x,by simp[hx],h1⟩;cases h
theorem ZpZ {t:TypeId} {z:List PV} (h:Wy P t=some z):PV.didsL z= []:=by
 unfold Wy aMakeFull.tbdz at h;split at h;split at h;split at h;simp only[Jm.injEq]at h;subst h;rw[Jz];intro r hr;have:=Vt hr;rw[Uu]at this;cases this;cases h;cases h;cases h
theorem ZtV {t:TypeId} {z:PV} (h:aMakeFull.tz P t=some z):z.dids= []:=by
 unfold aMakeFull.tz at h;split at h;split at h;split at h;simp only[Jm.injEq]at h;subst h;exact Uu _;cases h;cases h;cases h
theorem TG (v:Value):PV.didsL (XR v).cells= []:=by
 rw[Jz];intro r hr;have:=Vt hr;rw[Uu]at this;cases this
def Zc7 (o:Oper) (ρ:Operand->PV):List Ref:=o.op.operands.toList.flatMap λx=>(ρ x).dids
theorem Yl {o:Oper} {ρ:Operand->PV} {x:Operand} {r:Ref} (hx:x∈o.op.operands.toList) (h:r∈(ρ x).dids):r∈Zc7 o ρ:=Js.2 ⟨x,hx,h⟩
theorem Wl {r:Ref}:r∉(ARes.fail).v.dids:=by simp[ARes.fail,PV.dids]
theorem ZrW {t:TypeId} {x:PV} {f:Nat} {m:Hp}:∀r∈(Gb P t x f m).v.dids,r∈x.dids:=by
 intro r;unfold Gb;split;exact λh=>by simpa[PV.dids]using UA h
 exact λh=>absurd h Wl
theorem Zh4 {cs:List PV} {n:Nat} {r:Ref} (h:r∈PV.didsL (cs.drop n)):r∈PV.didsL cs:=FO (λc hc=>JK hc) h
theorem ZaZ {t:TypeId} {x:PV} {f:Nat} {m:Hp}:∀r∈(Xp P t x f m).v.dids,r∈x.dids:=by
 intro r;unfold Xp;split;exact λh=>h
 exact λh=>by simp only[PV.dids]at *;exact Zh4 h
 exact λh=>h
 exact λh=>absurd h Wl
theorem ZrX {t:TypeId} {x i:PV} {m:Hp}:∀r∈(Gc P t x i m).v.dids,r∈x.dids:=by
 intro r;unfold Gc;split;exact λh=>by simpa[PV.dids]using UA h
 exact λh=>by simp[PV.dids]at h
 exact λh=>absurd h Wl
theorem Za0 {t:TypeId} {x i:PV} {m:Hp}:∀r∈(Xq P t x i m).v.dids,r∈x.dids:=by
 intro r;unfold Xq;split;exact λh=>by simp only[PV.dids]at h;exact ZaK (Wn (Vt h))
 exact λh=>h
 exact λh=>h
 exact λh=>by simp only[PV.dids]at *;exact Zh4 h
 exact λh=>h
 exact λh=>h
 exact λh=>absurd h Wl
theorem v_none {a:ARes} (h:a.v.dids= []) {r:Ref}:r∉a.v.dids:=by rw[h];simp
theorem Zwp {op:BinOp} {k k':IntKind} {x y:Int} {m:Hp}:(Zn3 op k k' x y m).v.dids= []:=by
 unfold Zn3;split<;>rfl
theorem Zwt {op:BinOp} {x y:List UInt8} {m:Hp}:(Zn8 op x y m).v.dids= []:=by
 unfold Zn8;split<;>rfl
theorem Zwo {op:BinOp} {k k':FloatKind} {x y:Nat} {m:Hp}:(Zn2 op k k' x y m).v.dids= []:=by
 unfold Zn2;split<;>rfl
theorem Zx4 {b:Bool} {r:Option Bool} {m:Hp}:(aEq b r m).v.dids= []:=by
 unfold aEq;split<;>rfl
theorem Zwn {b:Bool} {t:TypeId} {x y:PV} {m:Hp}:(ZnQ P b t x y m).v.dids= []:=by
 unfold ZnQ;repeat' split
 all_goals first|rfl|exact Zx4
theorem Zwl {op:BinOp} {t:TypeId} {x y:PV} {m:Hp}:(Zn0 P op t x y m).v.dids= []:=by
 unfold Zn0;repeat' split
 all_goals first|rfl|exact Zwp|exact Zwt|exact Zwo|exact Zwn
theorem Zx5 {op:UnOp} {x:PV} {m:Hp}:(aUn op x m).v.dids= []:=by
 unfold aUn;split<;>rfl
theorem Zuh {a b:TypeId} {x:PV} {m:Hp}:(Ti P a b x m).v.dids= []:=by
 unfold Ti;split<;>first|rfl|(split<;>first|rfl|(split<;>rfl))
theorem Zwq {t:TypeId} {x:PV} {m:Hp}:(Zn4 P t x m).v.dids= []:=by
 unfold Zn4;split<;>rfl
theorem Zwr {x y:PV} {m:Hp}:(Zn5 x y m).v.dids= []:=by
 unfold Zn5;split<;>rfl
theorem Zws {x y:PV} {m:Hp}:(Zn6 x y m).v.dids= []:=by
 unfold Zn6;split<;>rfl
theorem Zwm {x y:PV} {m:Hp}:(Zn1 x y m).v.dids= []:=by
 unfold Zn1;split<;>rfl
theorem Zul {x:PV} {m:Hp}:(ZcY x m).v.dids= []:=by
 unfold ZcY;split<;>rfl
theorem Zui {x:PV} {m:Hp}:(ZcX x m).v.dids= []:=by
 unfold ZcX;split<;>rfl
theorem Znw {x:PV} {i:Nat} {m:Hp}:∀r∈(Vo x i m).v.dids,r∈x.dids:=by
 intro r;unfold Vo;split;exact λh=>by simpa[PV.dids]using Wn h
 exact λh=>absurd h Wl
theorem Zkw {x:PV} {m:Hp}:∀r∈(VE x m).v.dids,r∈x.dids:=by
 intro r;unfold VE;split<;>first|exact λh=>h|exact λh=>absurd h Wl
theorem Zuk {c x y:PV} {m:Hp}:∀r∈(Za6 c x y m).v.dids,r∈x.dids\/r∈y.dids:=by
 intro r;unfold Za6;split<;>first|exact λh=> .inl h|exact λh=> .inr h|exact λh=>absurd h Wl
theorem ZrV {t:TypeId} {l:List (Nat×PV)} {m:Hp}:∀r∈(Ga P t l m).v.dids,∃x∈l,r∈x.2.dids:=by
 intro r;have key:∀ {z:List PV} {pl cs},PV.didsL z= []->Tv pl z l=some cs->r∈PV.didsL cs-> ∃x∈l,r∈x.2.dids:=λhz hf hr=>by
  rcases Zh9 _ _ _ hf r hr with h|h;rw[hz]at h;cases h;exact h
 have tz:∀fs z,tbd P t= .str fs z->PV.didsL z= []:=λfs z h=>by
  unfold tbd at h;repeat' split at h
  all_goals first|(cases h;exact TG _)|cases h
 have tz2:∀n z,tbd P t= .arr n z->PV.didsL z= []:=λfs z h=>by
  unfold tbd at h;repeat' split at h
  all_goals first|(cases h;exact TG _)|cases h
 unfold Ga;split;rename_i fs z hz;split;rename_i cs hf;exact λh=>key (tz _ _ hz) hf (by simpa[PV.dids]using h)
 exact λh=>absurd h Wl
 rename_i fs z hz;split;rename_i cs hf;exact λh=>key (tz2 _ _ hz) hf (by simpa[PV.dids]using h)
 exact λh=>absurd h Wl
 exact λh=>absurd h Wl
theorem ZrY {t:TypeId} {x:PV} {lo hi:Option PV} {m:Hp}:∀r∈(Gd P t x lo hi m).v.dids,r∈x.dids:=by
 intro r;unfold Gd;repeat' split
 all_goals first|exact λh=>h|exact λh=>absurd h Wl|(exact λh=>ZaK (FO (λc hc=>JK (JT hc)) h))|exact λh=>by simp[PV.dids]at h
end
open Go.RowKit
section
variable {P:Program} {ops:Array Oper}
structure RefsD (s:St):Prop where
 fr:∀i r,r∈(s.fr i).dids->ZX s.m r
 h:∀i cs,s.m.h i=some cs-> ∀c∈cs,∀r∈c.dids,ZX s.m r
 o:∀b c,s.m.o b=some c-> ∀r,(r∈PV.didsL c.ks\/r∈PV.didsL c.vs)->ZX s.m r
 it:∀b x c,s.m.it b=some x->x.c=some c-> ∀r,¬(r∈PV.didsL c.ks\/r∈PV.didsL c.vs)
 v:∀i es,s.m.v i=some es-> ∀r∈PV.didsL es,ZX s.m r
 om:∀b c,s.m.om b=some c-> ∀r∈PV.didsL c.vs,ZX s.m r
theorem RefsD.refs {s:St} (h:RefsD s):Refs s:=⟨λi r hr=>h.fr i r (UZ _ hr),λi cs hi c hc r hr=>h.h i cs hi c hc r (UZ _ hr),λi es hi p hp r hr=>h.v i es hi r (PV.mem_didsL.2 ⟨p,hp,UZ _ hr⟩),λb c hb p hp r hr=>h.om b c hb r (PV.mem_didsL.2 ⟨p,hp,UZ _ hr⟩)⟩
theorem Rep.clean_dids {S:Stable} {v:Value} {p:PV} (r:Rep S v p):∀k,k∉p.dids:=by
 have go:∀(cs:List PV),(∀i,i<cs.length-> ∀k,k∉(cs.getD i .any).dids)-> ∀k,k∉PV.didsL cs:=λcs h k hk=>by
  obtain⟨c,hc,hkc⟩:=PV.mem_didsL.1 hk;obtain⟨j,hj,rfl⟩:=Jg hc;have:=h j hj k;rw[getD_lt hj]at this;exact this hkc
 induction r with
 |agg vs cs hl _ ih=>intro k hk;exact go cs ih k (by simpa[PV.dids]using hk)
 |tup vs cs hl _ ih=>intro k hk;exact go cs ih k (by simpa[PV.dids]using hk)
 |fn f vs cs hl _ ih=>intro k hk;exact go cs ih k (by simpa[PV.dids]using hk)
 |slf v es r hz ih=>intro k hk;exact ih k (by simpa[PV.dids]using hk)
 |rptr b o cs vals hS _ ih=>intro k hk;exact go cs ih k (by simpa[PV.dids]using hk)
 |rmap b es ks vs h1 h2 h3 h4 h5 h6 ihK ihV=>
  intro k hk;simp only[PV.dids,Jj]at hk;rcases hk with hk|hk;exact go ks ihK k hk;exact go vs (λi hi=>ihV i (by omega)) k hk
 |sl b o cap sz es vals hsz hcap hS _ ih=>
  intro k hk;refine go es (λi hi k hk=> ?_) k (by simpa[PV.dids]using hk);have hc:=go (es.getD i .any).cells (λj hj=>ih i j hi (by rw[hsz i hi]at hj;exact hj)) k;refine hc ?_;cases hp:es.getD i .any with
  |agg cs=>rw[hp]at hk;simpa[J9,PV.dids]using hk
  |_=>rw[hp]at hk;simpa[J9,PV.didsL]using hk
 |_=>intro k hk;simp[PV.dids,PV.didsL]at hk
theorem RepS.dids_ids {S:Stable} {M:Maps} {q:Rows} {v:Value} {p:PV} (r:RepS S M q v p):∀k∈p.dids,k∈p.ids:=by
 have go:∀(cs:List PV),(∀i,i<cs.length-> ∀k∈(cs.getD i .any).dids,k∈(cs.getD i .any).ids)-> ∀k∈PV.didsL cs,k∈Jq cs:=λcs h k hk=>by
  obtain⟨c,hc,hkc⟩:=PV.mem_didsL.1 hk;obtain⟨j,hj,rfl⟩:=Jg hc;have:=h j hj k;rw[getD_lt hj]at this;exact Jw.2 ⟨_,hc,this hkc⟩
 induction r with
 |clean r=>exact λk hk=>absurd hk (r.clean_dids k)
 |ptr id off=>exact λk hk=>hk
 |osl id off len cap sz hc=>exact λk hk=>hk
 |vsl id len sz v hv t=>exact λk hk=>hk
 |vptr id n sz i off v hv hi t=>exact λk hk=>hk
 |row id v es r t=>
  intro k hk;simp only[PV.dids,JM]at hk;rcases hk with rfl|hk;simp[Jb];exact absurd (by simpa[PV.dids]using hk) (r.clean_dids k)
 |agg vs cs hl _ ih=>intro k hk;simp only[PV.dids,Jb]at *;exact go cs ih k hk
 |tup vs cs hl _ ih=>intro k hk;simp only[PV.dids,Jb]at *;exact go cs ih k hk
 |fn f vs cs hl _ ih=>intro k hk;simp only[PV.dids,Jb]at *;exact go cs ih k hk
theorem Sim.refsD {B:Frm} {S:Stable} {M:Maps} {s:St} {a:Act} {w:World} (hs:Sim B S M s a w):RefsD s:=by
 have clean:∀(ks vs:List PV) (es:List MapEntry),vs.length=ks.length->(∀i,i<ks.length->Rep S (es.getD i Jd).key (ks.getD i .any))->(∀i,i<ks.length->Rep S (es.getD i Jd).val (vs.getD i .any))-> ∀r,¬(r∈PV.didsL ks\/r∈PV.didsL vs):=λks vs es e3 e5 e6 r hr=>by
  rcases hr with hr|hr;obtain⟨x,hx,hxr⟩:=PV.mem_didsL.1 hr;obtain⟨j,hj,rfl⟩:=Jg hx;have:=(e5 j hj).clean_dids r;rw[getD_lt hj]at this;exact this hxr;obtain⟨x,hx,hxr⟩:=PV.mem_didsL.1 hr;obtain⟨j,hj,rfl⟩:=Jg hx;have:=(e6 j (by omega)).clean_dids r;rw[getD_lt hj]at this;exact this hxr
 refine⟨λi r hr=>hs.ids i r ((hs.fr i).dids_ids r hr),λi cs hi c hc r hr=> ?_,λb c hc r hr=> ?_,λb x c hx hc r hr=> ?_,λi es hi r hr=> ?_,λb c hc r hr=> ?_⟩
 rotate_left
 obtain⟨_,_,es,e1,e2,e3,e4,e5,e6⟩:=hs.stable.o b c hc;exact absurd hr (clean _ _ es e3 e5 e6 r);obtain⟨es,e1,e2,e3,e4,e5,e6⟩:=(hs.stable.i b x hx).2.2 c hc;exact clean _ _ es e3 e5 e6 r hr;obtain⟨sz,e,q1,k1,k2,k3⟩:=hs.vc i es hi;obtain⟨p,hp,hpr⟩:=PV.mem_didsL.1 hr;obtain⟨j,hj,rfl⟩:=Jg hp;obtain⟨o1,o2⟩:=hs.row i _ q1;cases hκ:M.κ i with
 |zero=>have:=o1 hκ;omega
 |succ c=>
  obtain⟨_,_,_,⟨vs,g5,g6⟩,_⟩:=o2 c hκ;have g7:=k3 c hκ vs e (0,0) g5
  -- the element's cells
  have hx:=k1 _ hp;have hin:∃x∈es[j].cells,r∈x.dids:=by
   cases hp2:es[j]with
   |agg cs=>rw[hp2]at hpr;simp only[PV.dids]at hpr;exact PV.mem_didsL.1 hpr
   |_=>rw[hp2]at hpr;exact⟨_,Jn.2 rfl,hpr⟩
  obtain⟨x,hx1,hx2⟩:=hin;obtain⟨l,hl,rfl⟩:=Jg hx1;have hr2:=g7 j l hj (by rw[<-hx.1];exact hl);rw[getD_lt hj,getD_lt hl]at hr2;exact k2 _ hp r (YB hx1 (hr2.dids_ids r hx2))
 obtain⟨_,_,_,⟨es,e1,e2,e3,e4,e5,e6⟩,e7⟩:=hs.rm b c hc;obtain⟨p,hp,hpr⟩:=PV.mem_didsL.1 hr;obtain⟨j,hj,rfl⟩:=Jg hp;have:=(e6 j (by omega)).dids_ids r;rw[getD_lt hj]at this;exact e7 _ hp r (this hpr);have hb:=hs.blk i cs hi;obtain⟨j,hj,rfl⟩:=Jg hc;cases hz:s.m.z i with
 |false=>
  rw[hz]at hb;obtain⟨_,_,⟨vs,ty,h3,h4,h5⟩,h6⟩:=hb;have:=(h5 j hj).dids_ids r;rw[getD_lt hj]at this;exact h6 _ (Ju hj) r (this hr)
 |true=>
  rw[hz]at hb;obtain⟨vals,hv⟩:=hb;have:=(hv j hj).2;rw[getD_lt hj]at this;exact absurd hr (this.clean_dids r)
theorem Dg {s:St} (hr:RefsD s) (o:Oper):∀r∈Zc7 o s.eval,ZX s.m r:=λr h=>by
 unfold Zc7 at h;obtain⟨x,_,hx⟩:=Js.1 h;cases x with
 |tmp t=>exact hr.fr t r hx
 |const v=>simp[St.eval,Uu]at hx
 |func f=>simp[St.eval,PV.dids,PV.didsL]at hx
 |_=>simp[St.eval,PV.dids]at hx
mutual
theorem Sj:∀(p:PV) {r:Ref},r∈p.share.dids->r∈p.dids
 | .ptr _ _,r,h=>h
 | .osl _ _ _ _,r,h=>h
 | .sl t es,r,h=>by cases t<;>(simp only[Kc,Tok.sh,PV.dids]at h;exact ZaK h)
 | .agg cs,r,h=>by simp only[Kc,PV.dids]at *;exact VU cs h
 | .tup cs,r,h=>by simp only[Kc,PV.dids]at *;exact VU cs h
 | .fn _ cs,r,h=>by simp only[Kc,PV.dids]at *;exact VU cs h
 | .any,r,h=>h
 | .int _ _,r,h=>h
 | .bool _,r,h=>h
 | .str _,r,h=>h
 | .flt _ _,r,h=>h
 | .cpx _ _ _,r,h=>h
 | .rptr _,r,h=>h
 | .nilp,r,h=>h
 | .nilfn,r,h=>h
 | .nilmap,r,h=>h
 | .mref _,r,h=>h
 | .rmap _ _,r,h=>h
 | .iptr _,r,h=>h
 | .vsl _ _ _,r,h=>h
 | .vptr _ _ _ _ _,r,h=>h
theorem VU:∀(cs:List PV) {r:Ref},r∈PV.didsL (JQ cs)->r∈PV.didsL cs
 | [],r,h=>h
 |c::cs,r,h=>by
  simp only[JQ,PV.didsL,Jj]at *;exact h.imp (Sj c) (VU cs)
end
def Keeps (m:Hp) (a:ARes):Prop:=(∀r∈a.v.dids,ZX a.m r)/\ ∀i cs,a.m.h i=some cs->m.h i=some cs\/ ∀r∈PV.didsL cs,ZX a.m r
theorem Keeps.same {m:Hp} {a:ARes} (he:a.m=m) (h:∀r∈a.v.dids,ZX m r):Keeps m a:=⟨by rw[he];exact h,λi cs hi=> .inl (by rw[he]at hi;exact hi)⟩
theorem Gx {m:Hp} {d:Nat} {x:List PV} {r:Ref} (h:ZX m r):ZX (m.new d x) r:=by
 cases r with
 |r i=>exact h
 |b i=>
  simp only[ZX,Hp.new]at *;unfold upd;split<;>simp_all
theorem XQ {m:Hp} {d:Nat} {x:Row}:ZX (m.setq d x) (.r d):=by simp[ZX,Hp.setq,upd]
theorem Zdo {m:Hp} {d:Nat} {x:List PV}:ZX (m.new d x) (.b d):=by simp[ZX,Hp.new,upd]
theorem Ze6 {ok:Prop} {m:Hp} {d:Nat} {cs:List PV} {v:PV} (hv:v.dids= [.b d]) (h:∀r∈PV.didsL cs,ZX m r):Keeps m ⟨ok,v,m.new d cs⟩:=by
 refine⟨λr hr=> ?_,λi ds hi=> ?_⟩;rw[hv]at hr;simp only[Jn]at hr;subst hr;exact Zdo;by_cases hd:d=i;subst hd;simp[Hp.new,upd]at hi;subst hi;exact .inr λr hr=>Gx (h r hr)
 left;simpa[Hp.new,upd,hd]using hi
theorem Zuj {z:PV} {vs:List PV} {ok:Bool} {i:Option Nat} {r:Ref} (hz:z.dids= []) (h:r∈(Zo3 z vs ok i).dids):r∈PV.didsL vs:=by
 unfold Zo3 at h;split at h;split at h;simp only[PV.dids,PV.didsL,JI]at h;exact Wn h;exact Wn h;split at h;simp only[PV.dids,PV.didsL,JI,hz]at h;cases h;rw[hz]at h;cases h
theorem ZjX {s:St} (hr:RefsD s) {x:PV} (hx:∀r∈x.dids,ZX s.m r) {c:MapC} (h:Do s.m x=some c):∀r,(r∈PV.didsL c.ks\/r∈PV.didsL c.vs)->ZX s.m r:=by
 cases x with
 |rmap ks vs=>
  simp only[Do,Jm.injEq]at h;subst h;intro r hh;exact hx r (by simp only[PV.dids,Jj];exact hh)
 |mref b=>exact hr.o b c h
 |_=>simp[Do]at h
theorem ZlZ {s:St} (hr:RefsD s) {o:Oper} (hok:(aop P o s.eval s.m).ok):∀b c,(aop P o s.eval s.m).m.o b=some c->s.m.o b=some c\/ ∀r,(r∈PV.didsL c.ks\/r∈PV.didsL c.vs)->ZX s.m r:=by
 intro b c hb;have hF:=Fg hok;have L:=Dg hr o;cases hw:(fp o.op).wo with
 |false=>rw[hF.o1 hw]at hb;exact .inl hb
 |true=>
  obtain⟨dst,op,ty,pos,af,guard⟩:=o;cases op with
  |mapUpdate t x k v=>
   have hv:∀r∈(s.eval v).dids,ZX s.m r:=λr h=>L r (Yl (x:=v) (by simp[Ja]) h)
   have hk:∀r∈(s.eval k).dids,ZX s.m r:=λr h=>L r (Yl (x:=k) (by simp[Ja]) h)
   revert hok hb
   show(Z9 P t (s.eval x) (s.eval k) (s.eval v) s.m).ok->(Z9 P t (s.eval x) (s.eval k) (s.eval v) s.m).m.o b=some c->_;unfold Z9;split
   ·rename_i b0 _;split
    ·rename_i ls zz c0 cs h1 h2 h3;rw[h3]at hk;split
     ·intro _ hb;simp only at hb
      by_cases e:b0=b
      ·subst e;rw[Za]at hb;cases hb;refine .inr λr hh=> ?_
       rcases hh with hh|hh
       ·exact hr.o b0 c0 h2 r (.inl hh)
       ·obtain⟨y,hy,hyr⟩:=PV.mem_didsL.1 hh;rcases JU hy with hy|rfl
        ·exact hr.o b0 c0 h2 r (.inr (PV.mem_didsL.2 ⟨y,hy,hyr⟩))
        ·exact hv r (Sj _ hyr)
      ·rw[Zk _ _ e]at hb;exact .inl hb
     ·intro _ hb;simp only at hb
      by_cases e:b0=b
      ·subst e;rw[Za]at hb;cases hb;refine .inr λr hh=> ?_
       rcases hh with hh|hh
       ·obtain⟨y,hy,hyr⟩:=PV.mem_didsL.1 hh;rcases Jj.1 hy with hy|hy
        ·exact hr.o b0 c0 h2 r (.inl (PV.mem_didsL.2 ⟨y,hy,hyr⟩))
        ·simp only[Jn]at hy;subst hy;simp only[PV.dids]at hyr;exact hk r (by simp only[PV.dids];exact VU _ hyr)
       ·obtain⟨y,hy,hyr⟩:=PV.mem_didsL.1 hh;rcases Jj.1 hy with hy|hy
        ·exact hr.o b0 c0 h2 r (.inr (PV.mem_didsL.2 ⟨y,hy,hyr⟩))
        ·simp only[Jn]at hy;subst hy;exact hv r (Sj _ hyr)
      ·rw[Zk _ _ e]at hb;exact .inl hb
     ·exact λh=>h.elim
    ·exact λh=>h.elim
   ·exact λh=>h.elim
  |makeSlice t l c=>cases hw
  |makeFunc f g h=>unfold fp at hw;simp only at hw;split at hw<;>cases hw
  |call cc=>
   obtain⟨cal,ar,ts⟩:=cc;cases cal with
   |builtin bb=>unfold fp at hw;simp only at hw;split at hw<;>cases hw
   |_=>cases hw
  |_=>cases hw
theorem ZlY {s:St} (hr:RefsD s) {o:Oper} (hok:(aop P o s.eval s.m).ok):Keeps s.m (aop P o s.eval s.m):=by
 have hF:=Fg hok;have L:=Dg hr o;have nm:WK (aop P o s.eval)->(∀r∈(aop P o s.eval s.m).v.dids,r∈Zc7 o s.eval)->Keeps s.m (aop P o s.eval s.m):=λh hf=> .same (h s.m s.m hok).1 λr h=>L r (hf r h)
 obtain⟨dst,op,ty,pos,af,guard⟩:=o;cases op with
 |move x=>exact nm ZC λr h=>Yl (x:=x) (by simp[Ja]) h
 |assign x=>exact nm ZC λr h=>Yl (x:=x) (by simp[Ja]) h
 |pick c x y=>exact nm Zce λr h=>(Zuk r h).elim (Yl (x:=x) (by simp[Ja])) (Yl (x:=y) (by simp[Ja]))
 |nilCheck x=>exact nm Sy λr h=>Yl (x:=x) (by simp[Ja]) (Zkw r h)
 |binOp op t x y yt=>exact nm Zfc λr h=>absurd h (v_none Zwl)
 |unOp op t x=>exact nm Zir λr h=>absurd h (v_none Zx5)
 |convert a b x=>exact .same (Zp3 hok) λr h=>absurd h (v_none Zuh)
 |field t x f=>exact nm Zan λr h=>Yl (x:=x) (by simp[Ja]) (ZrW r h)
 |fieldAddr t x f=>exact nm TD λr h=>Yl (x:=x) (by simp[Ja]) (ZaZ r h)
 |index t x i=>exact nm Zao λr h=>Yl (x:=x) (by simp[Ja]) (ZrX r h)
 |indexAddr t x i=>exact nm TE λr h=>Yl (x:=x) (by simp[Ja]) (Za0 r h)
 |extract x i=>exact nm GC λr h=>Yl (x:=x) (by simp[Ja]) (Znw r h)
 |lookup t x k ok=>
  have hop:aop P ⟨dst,.lookup t x k ok,ty,pos,af,guard⟩ s.eval s.m=X1 P t (s.eval x) (s.eval k) ok s.m:=rfl;rw[hop]at hok ⊢;refine .same (TC s.m s.m rfl hok).1 λr h=> ?_
  revert hok h
  unfold X1;split
  ·rename_i ls z c cs h1 h2 h3;split
   ·intro _ h;obtain⟨kt,et,fs,i,zv,t1,t2,t3,t4,t5,rfl,t6⟩:=GQ h1;exact ZjX hr (λr h=>L r (Yl (x:=x) (by simp[Ja]) h)) h2 r (.inr (Zuj (Uu _) h))
   ·exact λh=>h.elim
  ·exact λh=>h.elim
 |entry x=>
  have hop:aop P ⟨dst,.entry x,ty,pos,af,guard⟩ s.eval s.m=VD (s.eval x) s.m:=rfl;rw[hop]at hok ⊢;refine .same (SH s.m s.m rfl rfl hok).1 λr h=> ?_
  revert hok h
  unfold VD;split
  ·split
   ·rename_i itc hit;split
    ·rename_i c i h2 h3;intro _ h;simp only[PV.dids,PV.didsL,JI,Jj]at h;unfold mapIt at h2;cases hc:itc.c with
     |some d=>
      rw[hc]at h2;simp only[Jm.injEq]at h2;subst h2;exact absurd (h.imp Wn Wn) (hr.it _ itc d hit hc r)
     |none=>
      rw[hc]at h2;exact hr.o _ c h2 r (h.imp Wn Wn)
    ·exact λh=>h.elim
   ·exact λh=>h.elim
  ·exact λh=>h.elim
 |mapUpdate t x k v=>
  have hop:aop P ⟨dst,.mapUpdate t x k v,ty,pos,af,guard⟩ s.eval s.m=Z9 P t (s.eval x) (s.eval k) (s.eval v) s.m:=rfl;rw[hop]at hok ⊢;obtain⟨e,_⟩:=TR s.m s.m rfl hok;refine⟨λr h=> ?_,λi cs hi=> .inl (by rw[e]at hi;exact hi)⟩
  revert hok h
  unfold Z9;split
  ·split
   ·split
    ·exact λ_ h=>by simp[PV.dids,PV.didsL]at h
    ·exact λ_ h=>by simp[PV.dids,PV.didsL]at h
    ·exact λh=>h.elim
   ·exact λh=>h.elim
  ·exact λh=>h.elim
 |build t parts=>
  refine nm Zam λr h=> ?_
  obtain⟨x,hx,hr⟩:=ZrV r h;obtain⟨y,hy,rfl⟩:=Jf.1 hx;exact Yl (x:=y.2) (by simp[Ja];exact⟨y.1,JL.1 hy⟩) hr
 |slice t x lo hi mx=>
  cases mx with
  |some _=>exact hok.elim
  |none=>exact nm Zap λr h=>Yl (x:=x) (by simp[Ja]) (ZrY r h)
 |alloc t=>
  cases dst with
  |none=>exact hok.elim
  |some d=>
   cases hz:Wy P t with
   |none=>simp only[aop,hz]at hok;exact hok.elim
   |some z=>simp only[aop,hz];exact Ze6 rfl (by rw[ZpZ hz];simp)
 |box t x=>
  cases dst with
  |none=>exact hok.elim
  |some d=>exact Ze6 rfl λr h=>L r (Yl (x:=x) (by simp[Ja]) (Vt h))
 |load t x=>
  simp only[aop]at hok ⊢;split at hok
  ·rename_i ht;rw[if_pos ht]
   revert hok
   unfold Un;split
   ·rename_i cs hx;exact λ_=> .same rfl λr h=>L r (Yl (x:=x) (by simp[Ja]) (by rw[hx];simp only[PV.dids];exact UA h))
   ·split
    ·rename_i cs hh;exact λ_=> .same rfl λr h=>by
      obtain⟨c,hc,hcr⟩:=PV.mem_didsL.1 (UA h);exact hr.h _ cs hh c hc r hcr
    ·exact λh=>h.elim
   ·rename_i id n z k off hx;split
    ·rename_i es hh;exact λ_=> .same rfl λr h=>hr.v _ es hh r (by
      obtain⟨c,hc,hcr⟩:=PV.mem_didsL.1 (UA h);exact Wn (Us hc hcr))
    ·exact λh=>h.elim
   ·exact λh=>h.elim
  ·exact hok.elim
 |store t x y=>
  simp only[aop]at hok ⊢;split at hok
  ·rename_i ht;rw[if_pos ht]
   revert hok
   unfold W0;split
   ·rename_i id off hx;split
    ·rename_i cs hh;intro hok;refine⟨λr h=>by simp[PV.dids,PV.didsL]at h,λi ds hi=> ?_⟩;have lv:∀r,ZX s.m r->ZX { s.m with h:=upd s.m.h id (some (YT cs off (s.eval y).cells)) } r:=λr h=>by
      cases r with
      |r i=>exact h
      |b i=>simp only[ZX]at *;unfold upd;split<;>simp_all
     by_cases hd:id=i
     ·subst hd;simp[upd]at hi;subst hi;refine .inr λr h=>lv r ?_
      rcases Zcw h with h|h
      ·obtain⟨c,hc,hcr⟩:=PV.mem_didsL.1 h;exact hr.h id cs hh c hc r hcr
      ·exact L r (Yl (x:=y) (by simp[Ja]) (Vt h))
     ·left;simpa[upd,hd]using hi
    ·exact λh=>h.elim
   ·split
    ·exact λ_=>⟨λr h=>by simp[PV.dids,PV.didsL]at h,λi ds hi=> .inl hi⟩
    ·exact λh=>h.elim
   ·exact λh=>h.elim
  ·exact hok.elim
 |makeFunc fn first caps=>
  cases fn with
  |func f=>
   simp only[aop]at hok ⊢;split at hok
   ·rename_i hf;rw[if_pos hf];refine⟨λr h=> ?_,λi cs hi=> .inl (by simpa[WP]using hi)⟩;have:ZX s.m r:=by
     obtain⟨c,hc,hcr⟩:=PV.mem_didsL.1 (by simpa[PV.dids]using h);obtain⟨x,hx,rfl⟩:=Jf.1 hc;exact L r (Yl (x:=x) (by simp[Ja];right;exact JL.1 hx) hcr)
    cases r with
    |b i=>simpa[ZX,WP]using this
    |r i=>simpa[ZX,X8]using this
   ·exact hok.elim
  |_=>exact hok.elim
 |buildSlice t len parts=>
  cases dst with
  |none=>exact hok.elim
  |some d=>
   cases he:We P t with
   |none=>simp only[aop,Xc,he]at hok;exact hok.elim
   |some ei=>
    simp only[aop,Xc,he];refine⟨λr h=> ?_,λi cs hi=> .inl hi⟩;simp only[PV.dids,JM]at h;rcases h with rfl|h
    ·exact XQ
    ·obtain⟨c,hc,hcr⟩:=PV.mem_didsL.1 h;obtain⟨x,hx,rfl⟩:=Jf.1 hc;obtain⟨y,hy,rfl⟩:=Jf.1 hx;exact XP _ (L r (Yl (x:=y.2) (by simp[Ja];exact⟨y.1,JL.1 hy⟩) (Sj _ hcr)))
 |makeSlice t l c=>
  cases dst with
  |none=>exact hok.elim
  |some d=>
   by_cases hl:∃k,l= .const (.int k 0)
   ·obtain⟨k,rfl⟩:=hl;have hop:aop P ⟨some d,.makeSlice t (.const (.int k 0)) c,ty,pos,af,guard⟩ s.eval s.m=Wg P d t (s.eval c) s.m:=rfl;rw[hop]at hok ⊢
    revert hok
    unfold Wg;split
    ·exact λ_=>⟨λr h=>by simp[PV.dids,PV.didsL]at h;subst h;exact XQ,λi cs hi=> .inl hi⟩
    ·exact λh=>h.elim
   ·have hop:aop P ⟨some d,.makeSlice t l c,ty,pos,af,guard⟩ s.eval s.m=aMakeFull P d t (s.eval l) (s.eval c) s.m:=by
     unfold aop;simp only;split
     ·rename_i k;exact absurd ⟨_,rfl⟩ hl
     ·rfl
    rw[hop]at hok ⊢
    revert hok
    unfold aMakeFull;split
    ·split
     ·rename_i z hz;refine λ_=>⟨λr h=> ?_,λi cs hi=> .inl hi⟩
      simp only[PV.dids,JM]at h;rcases h with rfl|h
      ·exact XQ
      ·obtain⟨c',hc,hcr⟩:=PV.mem_didsL.1 h;rw[List.eq_of_mem_replicate hc,ZtV hz]at hcr;cases hcr
     ·exact λh=>h.elim
    ·exact λh=>h.elim
 |call c=>
  obtain⟨callee,args,ts⟩:=c;cases callee with
  |builtin b=>
   simp only[aop]at hok ⊢
   revert hok
   unfold Ye;split
   ·split
    ·exact λhok=> .same (DQ s.m s.m rfl hok).1 λr h=>absurd h (v_none (by unfold WL;split<;>rfl))
    ·exact λhok=> .same (Zfe s.m s.m hok).1 λr h=>absurd h (v_none Zwq)
   ·rename_i t tx x y hts hxs;have hx:∀r∈x.dids,ZX s.m r:=λr h=>by
     have:x∈args.toList.map s.eval:=by rw[hxs];simp
     obtain⟨z,hz,rfl⟩:=Jf.1 this;exact L r (Yl (x:=z) (by simp[Ja,Call.operands];exact JL.1 hz) h)
    have hy:∀r∈y.dids,ZX s.m r:=λr h=>by
     have:y∈args.toList.map s.eval:=by rw[hxs];simp
     obtain⟨z,hz,rfl⟩:=Jf.1 this;exact L r (Yl (x:=z) (by simp[Ja,Call.operands];exact JL.1 hz) h)
    have hys:∀ys,WW P tx y=some ys-> ∀r∈PV.didsL ys,ZX s.m r:=λys h r hr=>by
     unfold WW at h;split at h
     ·cases h;exact hy r (ZaK hr)
     ·cases h;obtain⟨c,hc,hcr⟩:=PV.mem_didsL.1 hr;unfold Xd at hc;obtain⟨z,hz,rfl⟩:=Jf.1 hc;simp[PV.dids]at hcr
     ·cases h
    split
    ·unfold UP;split
     ·rename_i ys _ _ hyy;refine λ_=>⟨λr h=> ?_,λi cs hi=> .inl hi⟩
      simp only[PV.dids,JM]at h;rcases h with rfl|h
      ·exact XQ
      ·exact XP _ (hys _ (by assumption) r h)
     ·split
      ·refine λ_=>⟨λr h=> ?_,λi cs hi=> .inl ?_⟩
       ·simp only[PV.dids,JM]at h;rcases h with rfl|h
        ·simp only;split<;>exact XQ
        ·have:ZX s.m r:=by
          obtain⟨c,hc,hcr⟩:=PV.mem_didsL.1 h;rcases Jj.1 hc with hc|hc
          ·exact hx r (ZaK (PV.mem_didsL.2 ⟨c,hc,hcr⟩))
          ·exact hys _ (by assumption) r (PV.mem_didsL.2 ⟨c,hc,hcr⟩)
         simp only;split
         ·exact XP _ this
         ·exact XP _ (XP _ this)
       ·simp only at hi;split at hi<;>exact hi
      ·exact λh=>h.elim
     ·exact λh=>h.elim
    ·exact λh=>h.elim
   ·exact λhok=> .same (Zff s.m s.m hok).1 λr h=>absurd h (v_none Zwr)
   ·exact λhok=> .same (Zfg s.m s.m hok).1 λr h=>absurd h (v_none Zws)
   ·exact λhok=> .same (Zfd s.m s.m hok).1 λr h=>absurd h (v_none Zwm)
   ·exact λhok=> .same (Zcf s.m s.m hok).1 λr h=>absurd h (v_none Zul)
   ·exact λhok=> .same (Zcd s.m s.m hok).1 λr h=>absurd h (v_none Zui)
   ·exact λh=>h.elim
  |_=>exact hok.elim
 |_=>exact hok.elim
theorem Zj7 {x v:PV} {off:Nat} {r:Ref} (h:r∈(Zax x off v).dids):r∈x.dids\/r∈v.dids:=by
 unfold Zax at h;split at h;exact .inr h;simp only[PV.dids]at h;obtain⟨c,hc,hcr⟩:=PV.mem_didsL.1 h;simp only[YT,Jj]at hc;rcases hc with (hc|hc)|hc;exact .inl (Us (JT hc) hcr);exact .inr (Us hc hcr);exact .inl (Us (JK hc) hcr)
theorem Zl0 {s:St} (hr:RefsD s) {o:Oper} (hok:(aop P o s.eval s.m).ok):∀i es,(aop P o s.eval s.m).m.v i=some es-> ∀r∈PV.didsL es,ZX s.m r:=by
 intro i es hi;have hF:=Fg hok;have L:=Dg hr o;by_cases hw:Wh o s.eval (.r i);obtain⟨dst,op,ty,pos,af,guard⟩:=o;have hwh:(fp op).wh=true:=by
  rcases hw with ⟨w,_⟩|⟨_,_,_,e⟩;exact w;cases e
 cases op with
 |store t x y=>
  have hy:∀r∈(s.eval y).dids,ZX s.m r:=λr h=>L r (Yl (x:=y) (by simp[Ja]) h)
  revert hok hi;show((if tkn P t then W0 P t (s.eval x) (s.eval y) s.m else .fail).ok)->((if tkn P t then W0 P t (s.eval x) (s.eval y) s.m else .fail).m.v i=some es)->_;split;unfold W0;split;split;exact λ_ hi=>hr.v i es hi
  exact λh=>h.elim
  rename_i id n z k off hxe;split;rename_i es0 hv0;intro _ hi;by_cases e:id=i;subst e;simp only[Za,Jm.injEq]at hi;subst hi;intro r h;obtain⟨c,hc,hcr⟩:=PV.mem_didsL.1 h;rcases JU hc with hc|rfl;exact hr.v _ _ hv0 r (PV.mem_didsL.2 ⟨c,hc,hcr⟩);rcases Zj7 hcr with h1|h1;exact hr.v _ _ hv0 r (Wn h1);exact hy r h1;simp only[Zk _ _ e]at hi;exact hr.v i es hi;exact λh=>h.elim
  exact λh=>h.elim
  exact λh=>h.elim
 |makeSlice t l c=>cases hwh
 |makeFunc f g h=>unfold fp at hwh;simp only at hwh;split at hwh<;>cases hwh
 |call cc=>
  obtain⟨cal,ar,ts⟩:=cc;cases cal with
  |builtin bb=>unfold fp at hwh;simp only at hwh;split at hwh<;>cases hwh
  |_=>cases hwh
 |_=>cases hwh
 have:(aop P o s.eval s.m).m.v i=s.m.v i:=hF.h1 (.r i) hw;rw[this]at hi;exact hr.v i es hi
theorem Vx {s s':St} {o:Oper} (hr:RefsD s) (h:VC P ops o s s'):RefsD s':=by
 have put:∀(m':Hp) (v:PV),(∀r,ZX s.m r->ZX m' r)->(∀r∈v.dids,ZX m' r)->(∀i cs,m'.h i=some cs->s.m.h i=some cs\/ ∀r∈PV.didsL cs,ZX m' r)->(∀b c,m'.o b=some c->s.m.o b=some c\/ ∀r,(r∈PV.didsL c.ks\/r∈PV.didsL c.vs)->ZX s.m r)->m'.io=s.m.io->(∀i es,m'.v i=some es-> ∀r∈PV.didsL es,ZX s.m r)->RefsD ((s.with m').put o.dst v):=λm' v hl hv hh ho hio hvv=>by
  have hit:m'.it=s.m.it:=congrArg (λx=>x.1) hio;have hom:m'.om=s.m.om:=congrArg (λx=>x.2.1) hio;refine⟨λi r h=> ?_,λi cs hi c hc r h=> ?_,λb c hc r h=> ?_,λb x c hx hc r h=> ?_,λi es hi r h=> ?_,λb c hc r h=> ?_⟩;rw[GF];by_cases hd:o.dst=some i;rw[hd]at h;simp only[St.put,upd,if_true]at h;exact hv r h;rw[Zfx hd]at h;exact hl r (hr.fr i r h);rw[GF]at hi ⊢;rcases hh i cs hi with h1|h1;exact hl r (hr.h i cs h1 c hc r h);exact h1 r (PV.mem_didsL.2 ⟨c,hc,h⟩);rw[GF]at hc ⊢;rcases ho b c hc with h1|h1;exact hl r (hr.o b c h1 r h);exact hl r (h1 r h);rw[GF]at hx;have hx:m'.it b=some x:=hx;rw[hit]at hx;exact hr.it b x c hx hc r h;rw[GF]at hi ⊢;exact hl r (hvv i es hi r h);rw[GF]at hc ⊢;have hc:m'.om b=some c:=hc;rw[hom]at hc;exact hl r (hr.om b c hc r h)
 obtain⟨_,h⟩:=h;rcases h with ⟨_,v,m',hs,rfl⟩|⟨_,rfl⟩;have F:=FZ hs;have hl:∀r,ZX s.m r->ZX m' r:=λr h=>by
  cases r with
  |b i=>exact F.hl i h
  |r i=>exact F.ql i h
 rcases hs with ⟨h1,rfl,rfl⟩|⟨c,g,args,ho,hc,hg,hp,rfl⟩;have K:=ZlY hr h1;exact put _ _ hl K.1 K.2 (ZlZ hr h1) F.i1 (Zl0 hr h1);exact put _ _ hl (by rw[hp.2.1];simp) (λi cs hi=> .inl hi) (λb c hc=> .inl hc) rfl hr.v;exact put s.m (.tup []) (λr h=>h) (by simp[PV.dids,PV.didsL]) (λi cs hi=> .inl hi) (λb c hc=> .inl hc) rfl hr.v
end
open Go.RowKit
section
variable {P:Program} {ops:Array Oper} {md:Ko}
def Zp0 (P:Program) (md:Ko) (ops:Array Oper) (K:St->Prop):Nat->Array Bool->St->Prop
 |0,listed,s=>J3 md ops listed= []/\K s
 |fuel+1,listed,s=>(J3 md ops listed= []->K s)/\ ∀i∈J3 md ops listed,∃o s',ops[i]? = some o/\VC P ops o s s'/\Zp0 P md ops K fuel (listed.setIfInBounds i true) s'
theorem ZbF {K:St->Prop} {i:Nat} {oi:Oper} (hi:ops[i]? = some oi):
  ∀(fuel:Nat) (listed:Array Bool) (s s1:St),RefsD s->
   (∀j oj,ops[j]? = some oj->j≠i->listed.getD j true=false->(∀e∈oj.after,Ka md e=true->e.on≠i)->oi.apart ops oj=true/\compat oi.op oj.op=true)->
   i∈J3 md ops listed->VC P ops oi s s1->
   Zp0 P md ops K fuel (listed.setIfInBounds i true) s1->Zp0 P md ops K (fuel+1) listed s:=by
 intro fuel;induction fuel with
 |zero=>
  intro listed s s1 hR _ hr hy H;refine⟨λh=>(by rw[h]at hr;cases hr),λj hj=> ?_⟩;by_cases hji:j=i;subst hji;exact⟨oi,s1,hi,hy,H⟩;have:=ready_mono hj hji;rw[H.1]at this;cases this
 |succ fuel ih=>
  intro listed s s1 hR hfree hr hy H;refine⟨λh=>(by rw[h]at hr;cases hr),λj hj=> ?_⟩;by_cases hji:j=i;subst hji;exact⟨oi,s1,hi,hy,H⟩;obtain⟨oj,s2,hoj,hy2,h1⟩:=H.2 j (ready_mono hj hji);obtain⟨hjun,oj',hoj',hall⟩:=mem_ready.1 hj;rw[hoj]at hoj';cases hoj';have hnot:∀e∈oj.after,Ka md e=true->e.on≠i:=λe he hb heq=>by
   have h1:=hall e he hb;have h0:=(mem_ready.1 hr).1;rw[heq]at h1;rcases Nat.lt_or_ge i listed.size with h'|h';simp[h']at h0 h1;rw[h0]at h1;cases h1;simp[Array.getElem?_eq_none h']at h1
  obtain⟨hap,hcp⟩:=hfree j oj hoj hji hjun hnot;obtain⟨s1',hya,hyb⟩:=ZcI hR.refs hap hcp hy hy2;have hfree':∀k ok,ops[k]? = some ok->k≠i->(listed.setIfInBounds j true).getD k true=false->
    (∀e∈ok.after,Ka md e=true->e.on≠i)->oi.apart ops ok=true/\compat oi.op ok.op=true:=λk ok hk hki hun hno=>by
   refine hfree k ok hk hki ?_ hno
   by_cases hjk:j=k
   ·subst hjk;exact hjun
   ·rw[getD_set_ne true hjk]at hun;exact hun
  refine⟨oj,s1',hoj,hya,ih (listed.setIfInBounds j true) s1' s2 (Vx hR hya) hfree' (ready_mono hr (Jy hji)) hyb ?_⟩;rw[Array.setIfInBounds_comm _ _ hji];exact h1
def ZqM (md:Ko) (ops:Array Oper) (listed:Array Bool) (i:Nat):Bool:=
 match ops[i]? with
 |none=>false
 |some oi=>(List.range ops.size).all λj=>j==i||listed.getD j true||match ops[j]? with
   |some oj=>oj.after.any (λe=>Ka md e&&e.on==i)||(oi.apart ops oj&&compat oi.op oj.op)
   |none=>true
theorem ZbZ {i:Nat} {oi:Oper} {listed:Array Bool} (hi:ops[i]? = some oi) (h:ZqM md ops listed i=true) (j:Nat) (oj:Oper)
  (hj:ops[j]? = some oj) (hne:j≠i) (hun:listed.getD j true=false) (hno:∀e∈oj.after,Ka md e=true->e.on≠i):
  oi.apart ops oj=true/\compat oi.op oj.op=true:=by
 simp only[ZqM,hi,JA,List.mem_range]at h;have h1:=h j (Jr.1 hj).1;simp only[hj,Kk,beq_iff_eq,hne,false_or,hun,Kb]at h1;rcases h1 with h1|h1;obtain⟨e,he,hb⟩:=Array.any_eq_true'.1 h1;simp only[JN,beq_iff_eq]at hb;exact absurd hb.2 (hno e he hb.1);simpa using h1
def Gv (md:Ko) (ops:Array Oper):Nat->Nat->Array Bool->Bool
 |0,_,listed=>(J3 md ops listed).isEmpty
 |fuel+1,k,listed=>(J3 md ops listed).contains k&&ZqM md ops listed k&&Gv md ops fuel (k+1) (listed.setIfInBounds k true)
def Zlv (ops:Array Oper):Bool:=Gv .any ops ops.size 0 (JP ops.size false)
theorem ZcZ {K:St->Prop}:∀(l:List Oper) (k:Nat) (listed:Array Bool) (s:St),RefsD s->(∀j,l[j]? = ops[k+j]?)->
  Gv md ops l.length k listed=true->ZoZ P ops K l s->Zp0 P md ops K l.length listed s
 | [],_,_,_,_,_,hB,h=>⟨by simpa[Gv]using hB,h⟩
 |o::l,k,listed,s,hR,hl,hB,h=>by
  have h0:ops[k]? = some o:=by simpa using(hl 0).symm
  simp only[JB,Gv,JN]at hB;obtain⟨⟨hr,hf⟩,hB'⟩:=hB;obtain⟨hd,h⟩:=h;have hl':∀j,l[j]? = ops[(k+1)+j]? :=λj=>by have:=hl (j+1);simpa[KN,KU 1 j]using this
  rcases h with ⟨hg,v,m',hst,hrest⟩|⟨hg,hrest⟩;have hy:VC P ops o s ((s.with m').put o.dst v):=⟨hd,.inl ⟨hg,v,m',hst,rfl⟩⟩;exact ZbF h0 l.length listed s _ hR (ZbZ h0 hf) (by simpa using hr) hy (ZcZ l (k+1) _ _ (Vx hR hy) hl' hB' hrest);have hy:VC P ops o s (s.put o.dst (.tup [])):=⟨hd,.inr ⟨hg,rfl⟩⟩;exact ZbF h0 l.length listed s _ hR (ZbZ h0 hf) (by simpa using hr) hy (ZcZ l (k+1) _ _ (Vx hR hy) hl' hB' hrest)
theorem Gf {K:St->Prop} {B:Frm} {Qc:Exit->Act->World->Prop} {S0:Stable} {w0:World} (hQ:∀s' S' M' a' w',K s'->Sim B S' M' s' a' w'->Ext B S0 S' w0 w'->Qc .normal a' w'):
  ∀(fuel:Nat) (listed:Array Bool) (s:St),Zp0 P md ops K fuel listed s-> ∀S M a w,Sim B S M s a w->Ext B S0 S w0 w->wpAny P md ops Qc fuel listed a w
 |0,_,s,h,S,M,a,w,hs,he=>⟨h.1,hQ s S M a w h.2 hs he⟩
 |fuel+1,listed,s,h,S,M,a,w,hs,he=>⟨λh0=>hQ s S M a w (h.1 h0) hs he,λi hi=>by
   obtain⟨o,s',ho,hy,hn⟩:=h.2 i hi;unfold wpOp;simp only[ho];obtain⟨hd,hy⟩:=hy;rcases hy with ⟨hg,v,m',hst,rfl⟩|⟨hg,rfl⟩;rw[F5 hs hg,if_pos rfl];exact .inl (Sn hs (X6 hd) hst _ _ λu w' S' M' hs' he'=>Gf hQ fuel _ _ hn S' M' _ w' hs' (he.trans he'));rw[F5 hs hg,if_neg (by simp)];exact Gf hQ fuel _ _ hn S M _ w (Fn hs hd) he⟩
theorem Zoq {id:Nat} {Q:Exit->St->Prop} {s:St} (hm:P.follows .mixedOrders=true) (hB:Zlv ops=true) (h:ZoZ P ops (Q .normal) ops.toList s):awp P (.region id ops true) Q s:=λB S M a w hs=>by
 refine wp_region_any hm ?_;have he:Ext B S S w { w with drawn:=w.drawn+1 }:=⟨JF _,λ_ _=>⟨λ_=>rfl,rfl⟩,(BelowF.refl B w).drew⟩;have hs':Sim B S M s a { w with drawn:=w.drawn+1 }:=hs.world rfl;have:=ZcZ (P:=P) (K:=Q .normal) (md:= .any) ops.toList 0 (JP ops.size false) s hs.refsD (by simp) (by simpa[Zlv]using hB) h;have:=Gf (B:=B) (S0:=S) (w0:=w) (Qc:=λe a' w'=>∃s' S' M',Q e s'/\Sim B S' M' s' a' w'/\Ext B S S' w w') (λs' S' M' a' w' h1 h2 h3=>⟨s',S',M',h1,h2,h3⟩) _ _ s this S M a _ hs' he;simpa using this
theorem Zwj {id:Nat} {l:List Oper} {Q:Exit->St->Prop} {s:St} (hm:P.follows .mixedOrders=true) (hB:Zlv l.toArray=true) (h:@vA P false ⟨Q .normal⟩ ⟨l⟩ ⟨l⟩ s):awp P (.region id l.toArray true) Q s:=
 Zoq hm hB (by simpa using DC l s h)
end
end Go.PL
