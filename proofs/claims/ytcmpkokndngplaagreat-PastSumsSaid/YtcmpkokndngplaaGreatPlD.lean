/- Lemmas. -/
import Derived.Test.YtcmpkokndngplaaGreatPlA
import Derived.WideKeyRuns
import Derived.Scope
import Derived.ScopeJumps
import Derived.Orders
import Derived.LoopN
import Derived.Maps.RangeRun
import Derived.Still
set_option maxHeartbeats 64000000
set_option maxRecDepth 20000
set_option linter.unusedVariables false
set_option linter.unusedSimpArgs false
set_option linter.defProp false
open Inhabited renaming default→Jd
open Option renaming some→Hs,none→Hn
open Bool renaming true→Ht,false→Hf
open Go Go.PL
open _root_.Array renaming getElem?_eq_some_iff→Jt,mem_toList_iff→JM,replicate→JP,getD_eq_getD_getElem?→JS,getElem?_toList→J4,getElem?_modify→J5,toList_filter→Kw,ext'→KL
open BelowF renaming of→Kt
open Bool renaming and_eq_true→JG,false_eq_true→Kc,or_eq_true→Kn,or_eq_false_iff→Kr,true_and→KN
open Builtin renaming len_→Kj,append_→KJ
open Decidable renaming byContradiction→JV
open Ext renaming refl→JO
open Instr renaming checkKey→Jj,sameBits→JD,mapUpdate→JE,keyThatStays→JZ,mapEntry→J2,findAsking→J6,findKey→J8,entryStore→Ki,lookup→Kk,entry→KF,makeSlice→KI,loadAt→KU,range→K1
open List renaming mem_map→Je,getElem_of_mem→Jg,length_map→Jh,mem_append→Ji,getElem_map→Jl,mem_singleton→Jo,mem_flatMap→Jq,all_eq_true→Ju,getElem_mem→Jv,eq_nil_iff_forall_not_mem→JA,length_cons→JB,length_append→JI,length_nil→JJ,append_nil→JK,mem_of_mem_drop→JL,mem_cons→JN,mem_of_mem_take→JT,mem_or_eq_of_mem_set→JU,map_congr_left→JW,map_cons→JX,getElem_set→J7,ext_getElem?→Kf,nil_append→Ko,getElem_zipWith→Kq,getD_cons_succ→Ku,zip_eq_zipWith→Kv,contains_cons→Ky,getElem?_set→KA,push_toArray→KB,forIn_cons→KG,mem_filter→KK,map→KM,all_map→KX,map_nil→KZ
open Nat renaming le_refl→JF,sub_zero→Kl,lt_of_lt_of_le→Kz,add_assoc→KP,zero_add→KW,add_comm→KY
open Ne renaming symm→Jz
open Op renaming operands→Ja,equal→K0,equalIn→K2
open Option renaming some→Jm,map_some→JY,getD_some→KE
open PV renaming ids→Jb,giveL_length→Jf,givable→Jn,idsL→Jp,mem_idsL→Jr,givableL→Js,giveL→Jw,give→Jy,shareL→JQ,giveL_getD→JR,cells→J9,share→Kd,cleanL→Kg,givableL_getD→Kh,ptr→KC,atom→KQ,agg→KT,tup→K3
open Prod renaming mk→Ke
open Region renaming ready→J3,binds→Ka,Mode→Ks,wanted→KO
open RepS renaming clean→Kx,agg→K4
open Result renaming andThen_ok→Jc
open SLe renaming refl→JH
open Sem renaming run_bind→Jk,run_pure→JC,run→Km
open Snd renaming clean→KD
namespace Go.PL
open Go.RowKit
mutual
def PV.ren (f g:Nat->Nat):PV->PV
 | .ptr id off=> .ptr (g id) off
 | .osl id off len sz=> .osl (g id) off len sz
 | .sl (.row id) es=> .sl (.row (f id)) es
 | .vsl id len sz=> .vsl (f id) len sz
 | .vptr id n sz i off=> .vptr (f id) n sz i off
 | .agg cs=> .agg (PV.renL f g cs)
 | .tup cs=> .tup (PV.renL f g cs)
 | .fn h cs=> .fn h (PV.renL f g cs)
 |p=>p
def PV.renL (f g:Nat->Nat):List PV->List PV
 | []=> []
 |c::cs=>PV.ren f g c::PV.renL f g cs
end
def Ref.ren (f g:Nat->Nat):Ref->Ref
 | .b i=> .b (g i)
 | .r i=> .r (f i)
variable {f g:Nat->Nat}
theorem PV.renL_map:∀(cs:List PV),PV.renL f g cs=cs.map (PV.ren f g)
 | []=>rfl
 |c::cs=>by simp[PV.renL,PV.renL_map cs]
def PV.renL_length (cs:List PV):(PV.renL f g cs).length=cs.length:=by rw[PV.renL_map];simp
def PV.renL_getD (cs:List PV) (i:Nat) (b:i<cs.length):(PV.renL f g cs).getD i .any=(cs.getD i .any).ren f g:=by
 rw[PV.renL_map,getD_lt (by simpa using b),getD_lt b,Jl]
theorem T7 (p:PV):(p.ren f g).cells=p.cells.map (PV.ren f g):=by
 cases p with
 |agg cs=>simp[PV.ren,J9,PV.renL_map]
 |sl t es=>cases t<;>simp[PV.ren,J9]
 |_=>simp[PV.ren,J9]
theorem Zj9 (p:PV):(p.ren f g).atom=p.atom:=by
 cases p with
 |sl t es=>cases t<;>simp[PV.ren,KQ]
 |_=>simp[PV.ren,KQ]
mutual
theorem ZbC:∀(p:PV),(p.ren f g).ids=p.ids.map (Ref.ren f g)
 | .ptr _ _=>by simp[PV.ren,Jb,Ref.ren]
 | .osl _ _ _ _=>by simp[PV.ren,Jb,Ref.ren]
 | .sl t es=>by cases t<;>simp[PV.ren,Jb,Ref.ren]
 | .vsl _ _ _=>by simp[PV.ren,Jb,Ref.ren]
 | .vptr _ _ _ _ _=>by simp[PV.ren,Jb,Ref.ren]
 | .agg cs=>by simp only[PV.ren,Jb];exact Zah cs
 | .tup cs=>by simp only[PV.ren,Jb];exact Zah cs
 | .fn _ cs=>by simp only[PV.ren,Jb];exact Zah cs
 | .any=>by simp[PV.ren,Jb]
 | .int _ _=>by simp[PV.ren,Jb]
 | .bool _=>by simp[PV.ren,Jb]
 | .str _=>by simp[PV.ren,Jb]
 | .flt _ _=>by simp[PV.ren,Jb]
 | .cpx _ _ _=>by simp[PV.ren,Jb]
 | .rptr _=>by simp[PV.ren,Jb]
 | .nilp=>by simp[PV.ren,Jb]
 | .nilfn=>by simp[PV.ren,Jb]
 | .nilmap=>by simp[PV.ren,Jb]
 | .mref _=>by simp[PV.ren,Jb]
 | .rmap _ _=>by simp[PV.ren,Jb]
 | .iptr _=>by simp[PV.ren,Jb]
theorem Zah:∀(cs:List PV),Jp (PV.renL f g cs)=(Jp cs).map (Ref.ren f g)
 | []=>rfl
 |c::cs=>by simp only[PV.renL,Jp,List.map_append,ZbC c,Zah cs]
end
mutual
theorem Wp:∀(p:PV),p.ids= []->p.ren f g=p
 | .ptr _ _,h=>by simp[Jb]at h
 | .osl _ _ _ _,h=>by simp[Jb]at h
 | .sl t es,h=>by cases t<;>simp[Jb]at h<;>simp[PV.ren]
 | .vsl _ _ _,h=>by simp[Jb]at h
 | .vptr _ _ _ _ _,h=>by simp[Jb]at h
 | .agg cs,h=>by simp only[PV.ren];rw[UU cs (by simpa[Jb]using h)]
 | .tup cs,h=>by simp only[PV.ren];rw[UU cs (by simpa[Jb]using h)]
 | .fn _ cs,h=>by simp only[PV.ren];rw[UU cs (by simpa[Jb]using h)]
 | .any,_=>by simp[PV.ren]
 | .int _ _,_=>by simp[PV.ren]
 | .bool _,_=>by simp[PV.ren]
 | .str _,_=>by simp[PV.ren]
 | .flt _ _,_=>by simp[PV.ren]
 | .cpx _ _ _,_=>by simp[PV.ren]
 | .rptr _,_=>by simp[PV.ren]
 | .nilp,_=>by simp[PV.ren]
 | .nilfn,_=>by simp[PV.ren]
 | .nilmap,_=>by simp[PV.ren]
 | .mref _,_=>by simp[PV.ren]
 | .rmap _ _,_=>by simp[PV.ren]
 | .iptr _,_=>by simp[PV.ren]
theorem UU:∀(cs:List PV),Jp cs= []->PV.renL f g cs=cs
 | [],_=>rfl
 |c::cs,h=>by
  simp only[Jp,List.append_eq_nil_iff]at h;simp only[PV.renL,Wp c h.1,UU cs h.2]
end
variable {S:Stable} {M M':Maps} {q q':Rows}
theorem RepS.ren {v:Value} {p:PV} (r:RepS S M q v p) (A:∀i,.b i∈p.ids->M'.φ (g i)=M.φ i) (u:∀i,.r i∈p.ids->q' (f i)=q i/\M'.κ (f i)=M.κ i/\M'.ψ (f i)=M.ψ i):RepS S M' q' v (p.ren f g):=by
 induction r with
 |clean r=>
  rw[Wp _ (JA.2 r.clean_ids)];exact .clean r
 |ptr id off=>simp only[PV.ren];rw[<-A id (by simp[Jb])];exact .ptr _ _
 |osl id off len cap sz hc=>simp only[PV.ren];rw[<-A id (by simp[Jb])];exact .osl _ _ _ _ _ hc
 |row id v es r t=>
  obtain⟨y,C,z⟩:=u id (by simp[Jb]);simp only[PV.ren];exact .row _ v es r λn sz e j=>by rw[y]at j;rw[C,z];exact t n sz e j
 |vsl id len sz v hv t=>
  obtain⟨y,C,z⟩:=u id (by simp[Jb]);simp only[PV.ren];exact .vsl _ len sz v hv λn l e j=>by rw[y]at j;rw[C,z];exact t n l e j
 |vptr id n sz i off v hv d t=>
  obtain⟨y,C,z⟩:=u id (by simp[Jb]);simp only[PV.ren];exact .vptr _ n sz i off v hv d λn' l e j=>by rw[y]at j;rw[z];exact t n' l e j
 |agg vs cs hl _ ih=>
  simp only[PV.ren];refine .agg vs _ (by rw[PV.renL_length];exact hl) λi d=> ?_
  rw[PV.renL_length]at d;rw[PV.renL_getD cs i d];have b:∀k,k∈(cs.getD i .any).ids->k∈(KT cs).ids:=λk c=>by simp only[Jb,Jr];exact⟨_,Zc d,c⟩
  exact ih i d (λk c=>A k (b _ c)) (λk c=>u k (b _ c))
 |tup vs cs hl _ ih=>
  simp only[PV.ren];refine .tup vs _ (by rw[PV.renL_length];exact hl) λi d=> ?_
  rw[PV.renL_length]at d;rw[PV.renL_getD cs i d];have b:∀k,k∈(cs.getD i .any).ids->k∈(K3 cs).ids:=λk c=>by simp only[Jb,Jr];exact⟨_,Zc d,c⟩
  exact ih i d (λk c=>A k (b _ c)) (λk c=>u k (b _ c))
 |fn h vs cs hl _ ih=>
  simp only[PV.ren];refine .fn h vs _ (by rw[PV.renL_length];exact hl) λi d=> ?_
  rw[PV.renL_length]at d;rw[PV.renL_getD cs i d];have b:∀k,k∈(cs.getD i .any).ids->k∈(PV.fn h cs).ids:=λk c=>by simp only[Jb,Jr];exact⟨_,Zc d,c⟩
  exact ih i d (λk c=>A k (b _ c)) (λk c=>u k (b _ c))
theorem RepS.unren {v:Value} {I:PV} (r:RepS S M' q' v I):∀p:PV,p.ren f g=I->(∀i,.b i∈p.ids->M'.φ (g i)=M.φ i)->(∀i,.r i∈p.ids->q' (f i)=q i/\M'.κ (f i)=M.κ i/\M'.ψ (f i)=M.ψ i)->RepS S M q v p:=by
 induction r with
 |clean r=>
  intro p hp u d;have G:p.ids= []:=by
   have h:=ZbC (f:=f) (g:=g) p;rw[hp,JA.2 r.clean_ids]at h;simpa using h.symm
  rw[Wp _ G]at hp;subst hp;exact .clean r
 |ptr id off=>
  intro p hp u d;cases p with
  |ptr i o=>simp only[PV.ren,KC.injEq]at hp;obtain⟨rfl,rfl⟩:=hp;rw[u i (by simp[Jb])];exact .ptr _ _
  |sl t es=>cases t<;>simp[PV.ren]at hp
  |_=>simp[PV.ren]at hp
 |osl id off len cap sz G=>
  intro p hp u d;cases p with
  |osl i o l z=>simp only[PV.ren,PV.osl.injEq]at hp;obtain⟨rfl,rfl,rfl,rfl⟩:=hp;rw[u i (by simp[Jb])];exact .osl _ _ _ _ _ G
  |sl t es=>cases t<;>simp[PV.ren]at hp
  |_=>simp[PV.ren]at hp
 |row id v es r t=>
  intro p hp u d;cases p with
  |sl t' es'=>
   cases t' with
   |row i=>
    simp only[PV.ren,PV.sl.injEq,Tok.row.injEq]at hp;obtain⟨rfl,rfl⟩:=hp;obtain⟨D,F,E⟩:=d i (by simp[Jb]);exact .row _ v _ r λn sz e C=>by rw[<-D]at C;rw[<-F,<-E];exact t n sz e C
   |_=>simp[PV.ren]at hp
  |_=>simp[PV.ren]at hp
 |vsl id len sz v hv t=>
  intro p hp u d;cases p with
  |vsl i l z=>
   simp only[PV.ren,PV.vsl.injEq]at hp;obtain⟨rfl,rfl,rfl⟩:=hp;obtain⟨D,F,E⟩:=d i (by simp[Jb]);exact .vsl _ _ _ v hv λn A e C=>by rw[<-D]at C;rw[<-F,<-E];exact t n A e C
  |sl t es=>cases t<;>simp[PV.ren]at hp
  |_=>simp[PV.ren]at hp
 |vptr id n sz i off v hv y t=>
  intro p hp u d;cases p with
  |vptr j n' A i' off'=>
   simp only[PV.ren,PV.vptr.injEq]at hp;obtain⟨rfl,rfl,rfl,rfl,rfl⟩:=hp;obtain⟨D,F,E⟩:=d j (by simp[Jb]);exact .vptr _ _ _ _ _ v hv y λn' A e C=>by rw[<-D]at C;rw[<-E];exact t n' A e C
  |sl t es=>cases t<;>simp[PV.ren]at hp
  |_=>simp[PV.ren]at hp
 |agg vs cs' hl _ ih=>
  intro p hp u d;cases p with
  |agg cs=>
   simp only[PV.ren,KT.injEq]at hp;subst hp;rw[PV.renL_length]at hl;refine .agg vs cs hl λi y=> ?_
   have b:∀k,k∈(cs.getD i .any).ids->k∈(KT cs).ids:=λk c=>by simp only[Jb,Jr];exact⟨_,Zc y,c⟩
   exact ih i (by rw[PV.renL_length];exact y) _ (PV.renL_getD cs i y).symm (λk c=>u k (b _ c)) (λk c=>d k (b _ c))
  |sl t es=>cases t<;>simp[PV.ren]at hp
  |_=>simp[PV.ren]at hp
 |tup vs cs' hl _ ih=>
  intro p hp u d;cases p with
  |tup cs=>
   simp only[PV.ren,K3.injEq]at hp;subst hp;rw[PV.renL_length]at hl;refine .tup vs cs hl λi y=> ?_
   have b:∀k,k∈(cs.getD i .any).ids->k∈(K3 cs).ids:=λk c=>by simp only[Jb,Jr];exact⟨_,Zc y,c⟩
   exact ih i (by rw[PV.renL_length];exact y) _ (PV.renL_getD cs i y).symm (λk c=>u k (b _ c)) (λk c=>d k (b _ c))
  |sl t es=>cases t<;>simp[PV.ren]at hp
  |_=>simp[PV.ren]at hp
 |fn h vs cs' hl _ ih=>
  intro p hp u d;cases p with
  |fn h' cs=>
   simp only[PV.ren,PV.fn.injEq]at hp;obtain⟨rfl,hp⟩:=hp;subst hp;rw[PV.renL_length]at hl;refine .fn _ vs cs hl λi y=> ?_
   have b:∀k,k∈(cs.getD i .any).ids->k∈(PV.fn h' cs).ids:=λk c=>by simp only[Jb,Jr];exact⟨_,Zc y,c⟩
   exact ih i (by rw[PV.renL_length];exact y) _ (PV.renL_getD cs i y).symm (λk c=>u k (b _ c)) (λk c=>d k (b _ c))
  |sl t es=>cases t<;>simp[PV.ren]at hp
  |_=>simp[PV.ren]at hp
open Go.RowKit
def ZfB (P:Program) (t:TypeId):Bool:=match P.underlying t with|some (.int _)|some .string|some .bool=>Ht|_=>Hf
def Zxu (P:Program) (n:Nat) (f:Field):Bool:=
 (ZfB P f.type&&(decide (f.offset<n)&&decide (tsz P f.type=1)))||
 (match P.underlying f.type with
  |some (.struct gs)=>decide (f.offset+tsz P f.type<=n)&&gs.toList.all λg=>ZfB P g.type&&(decide (g.offset<tsz P f.type)&&decide (tsz P g.type=1))
  |_=>Hf)
def Zsj (P:Program) (t:TypeId):Option (List Leaf×PV):=
 match P.underlying t with
 |some (.map kt et)=>match P.underlying kt with
  |some (.struct fs)=>match Tz P DY kt,P.info? et with
   |some ls,Hs i=>match i.zero with
    |some z=>if fs.toList.all (Zxu P ls.length)then Hs (ls,XP z)else Hn
    |none=>Hn
   |_,_=>Hn
  |_=>Hn
 |_=>Hn
def Fa (m:Hp):PV->Option MapC
 | .rmap ks vs=>Hs ⟨ks,vs⟩
 | .mref b=>m.o b
 |_=>Hn
def Td (c:List Leaf) (a:List PV):List PV->Nat->Option (Option Nat)
 | [],_=>Hs Hn
 | .agg b::xs,i=>match ZC c a b with
  |some Ht=>Hs (Hs i)
  |some Hf=>Td c a xs (i+1)
  |none=>Hn
 |_::_,_=>Hn
def Zrw (z:PV) (vs:List PV) (ok:Bool):Option Nat->PV
 |some i=>if ok then .tup [vs.getD i .any,.bool Ht]else vs.getD i .any
 |none=>if ok then .tup [z,.bool Hf]else z
def XZ (P:Program) (t:TypeId) (x k:PV) (ok:Bool) (m:Hp):ARes:=
 match Zsj P t,Fa m x,k with
 |some (ls,z),Hs c,.agg a=>match Td ls a c.ks 0 with
  |some r=>⟨a.length=ls.length,Zrw z c.vs ok r,m⟩
  |none=> .fail
 |_,_,_=> .fail
def Z2 (P:Program) (t:TypeId) (x k v:PV) (m:Hp):ARes:=
 match x with
 | .mref b=>match Zsj P t,m.o b,k with
  |some (ls,_),Hs c,.agg a=>match Td ls a c.ks 0 with
   |some (Hs i)=>⟨a.length=ls.length/\Kg a=Ht/\v.clean=Ht,.tup [],{ m with o:=upd m.o b (Hs ⟨c.ks,c.vs.set i v.share⟩) }⟩
   |some Hn=>⟨a.length=ls.length/\Kg a=Ht/\v.clean=Ht,.tup [],{ m with o:=upd m.o b (Hs ⟨c.ks++ [.agg (JQ a)],c.vs++ [v.share]⟩) }⟩
   |none=> .fail
  |_,_,_=> .fail
 |_=> .fail
def mapIt (m:Hp) (it:IterC):Option MapC:=match it.c with
 |some c=>Hs c
 |none=>m.o it.b
def VN (x:PV) (m:Hp):ARes:=
 match x with
 | .iptr b=>match m.it b with
  |some it=>match mapIt m it,it.seen.getLast? with
   |some c,Hs i=>⟨c.ks.length=it.n/\i<c.ks.length,.tup [c.ks.getD i .any,c.vs.getD i .any],m⟩
   |_,_=> .fail
  |none=> .fail
 |_=> .fail
def Zn6:PV->Bool
 | .mref _=>Ht
 | .rmap _ _=>Ht
 |_=>Hf
def ZiX (P:Program) (t:TypeId):Bool:=match P.underlying t with|some (.map _ _)=>Ht|_=>Hf
def WL (P:Program) (t:TypeId) (x:PV) (m:Hp):ARes:=
 match Fa m x with
 |some c=>⟨ZiX P t=Ht,.int .i64 c.ks.length,m⟩
 |none=> .fail
section
variable {P:Program} {B:Frm} {S:Stable} {M:Maps} {s:St} {a:Act} {w:World}
def DA {t:TypeId} {e:List Leaf} {z:PV} (h:Zsj P t=Hs (e,z)):∃b c fs i d,P.underlying t=Hs (.map b c)/\P.underlying b=Hs (.struct fs)/\Tz P DY b=Hs e/\P.info? c=Hs i/\i.zero=Hs d/\z=XP d/\
  ∀f∈fs.toList,Zxu P e.length f=true:=by
 unfold Zsj at h;split at h;rename_i b c n;split at h;rename_i fs k;split at h;rename_i l i p v;split at h;rename_i d u;split at h;rename_i y;simp only[Jm.injEq,Ke.injEq]at h;obtain⟨rfl,rfl⟩:=h;exact⟨b,c,fs,i,d,n,k,p,v,u,rfl,λf j=>Ju.1 y f j⟩;cases h;cases h;cases h;cases h;cases h
theorem Zdj (h:Sim B S M s a w) {v:Value} {x:PV} {c:MapC} (j:RepS S M s.m.q v x) (d:Fa s.m x=Hs c):
  ∃b es,v= .map (Hs b)/\w.heap[b]? = Hs (.map ⟨es⟩ es.length)/\es.length=c.ks.length/\c.vs.length=c.ks.length/\
   (∀i,i<c.ks.length->(es.getD i Jd).born=i)/\(∀i,i<c.ks.length->Rep S (es.getD i Jd).key (c.ks.getD i .any))/\(∀i,i<c.ks.length->Rep S (es.getD i Jd).val (c.vs.getD i .any)):=by
 cases x with
 |rmap ks vs=>
  simp only[Fa,Jm.injEq]at d;subst d;cases j with
  |clean r=>
   cases r with
   |rmap b es _ _ hS hk hv hb hK hV=>exact⟨b,es,rfl,h.stable.s.m b es hS,hk,hv,hb,hK,hV⟩
 |mref b=>
  simp only[Fa]at d;obtain⟨_,_,es,l,k,n,u,t,p⟩:=h.stable.o b c d;have e:v= .map (Hs b):=by cases j with|clean r=>cases r;rfl
  exact⟨b,es,e,l,k,n,u,t,p⟩
 |_=>simp[Fa]at d
def Zg2 (j:Sim B S M s a w) {t ty:TypeId} {u:Value} {p:PV} (z:RepS S M s.m.q u p) (i:(WL P t p s.m).ok):Snd P B S s a w (Kj #[t] ty #[u]) (WL P t p s.m):=by
 revert i;unfold WL;split;rename_i c C;intro d;simp only at d;obtain⟨b,es,rfl,n,A,_⟩:=Zdj j z C;unfold ZiX at d;split at d;rename_i k e l;have y:=MapKept.run_getObj_map (P:=P) n;refine KD j (v:= .int .i64 c.ks.length) ?_ (.int _ _);simp[Kj,run_underlying l,y,goInt,A];cases d;exact λh=>h.elim
theorem Fk {t:TypeId} {fs:Array Field} {vs:List Value} (D:P.underlying t=Hs (.struct fs)) (y:∀f∈fs.toList,ZfB P f.type=Ht/\f.offset<vs.length/\tsz P f.type=1) (e:Bool) (n:Nat) (w:World):
  (Jj e (n+2) t (.agg ⟨vs⟩)).run P w= .ok () w:=by
 obtain⟨fs⟩:=fs;have step:∀f∈fs,∃v,(part f.type ⟨vs⟩ f.offset).run P w= .ok v w/\(Jj e (n+1) f.type v).run P w= .ok () w:=λf E=>by
  obtain⟨c,p,A⟩:=y f E;have C:∃d,P.underlying f.type=Hs d/\Yp P f.type=Hf/\ ∀v,(Jj e (n+1) f.type v).run P w= .ok () w:=by
   unfold ZfB at c;split at c;rename_i k b;exact⟨_,b,by simp[Yp,b],λv=>by simp[Jj,run_underlying b]⟩;rename_i b;exact⟨_,b,by simp[Yp,b],λv=>by simp[Jj,run_underlying b]⟩;rename_i b;exact⟨_,b,by simp[Yp,b],λv=>by simp[Jj,run_underlying b]⟩;cases c
  obtain⟨d,hd,F,z⟩:=C;exact⟨_,Xw hd (by omega) (λ_=>A) w,z _⟩
 have loop:∀(l:List Field),(∀f∈l,f∈fs)->(forIn l PUnit.unit (λf (_:PUnit)=>(if f.name≠ "_" then(do let x <-part f.type ⟨vs⟩ f.offset;Jj e (n+1) f.type x;Pure.pure (ForInStep.yield PUnit.unit))else Pure.pure (ForInStep.yield PUnit.unit):Sem (ForInStep PUnit)))).run P w= .ok PUnit.unit w:=by
  intro l;induction l with
  |nil=>intro _;simp
  |cons f l ih=>
   intro j;obtain⟨v,c,p⟩:=step f (j f (by simp));rw[KG];by_cases u:f.name≠ "_";simp only[u,ne_eq,not_false_eq_true,if_true,Jk,c,p,Jc,JC];simpa using ih (λg i=>j g (by simp[i]));simp only[u,if_false,Jk,Jc,JC];simpa using ih (λg i=>j g (by simp[i]))
 have:=loop fs (λ_ h=>h);unfold Jj;simp only[Jk,run_underlying D,Jc];simp at this ⊢;rw[this];rfl
theorem Vk {z:TypeId} {fs:Array Field} {vs:List Value} (K:P.underlying z=Hs (.struct fs)) (G:∀f∈fs.toList,Zxu P vs.length f=Ht) (j:Bool) (n:Nat) (w:World):
  (Jj j (n+3) z (.agg ⟨vs⟩)).run P w= .ok () w:=by
 obtain⟨fs⟩:=fs;have step:∀f∈fs,∃v,(part f.type ⟨vs⟩ f.offset).run P w= .ok v w/\(Jj j (n+2) f.type v).run P w= .ok () w:=λf J=>by
  have h:=G f J;unfold Zxu at h;simp only[Kn,JG,decide_eq_true_eq]at h;rcases h with ⟨i,p,I⟩|h;have D:∃d,P.underlying f.type=Hs d/\Yp P f.type=Hf/\ ∀v,(Jj j (n+2) f.type v).run P w= .ok () w:=by
   unfold ZfB at i;split at i;rename_i k b;exact⟨_,b,by simp[Yp,b],λv=>by simp[Jj,run_underlying b]⟩;rename_i b;exact⟨_,b,by simp[Yp,b],λv=>by simp[Jj,run_underlying b]⟩;rename_i b;exact⟨_,b,by simp[Yp,b],λv=>by simp[Jj,run_underlying b]⟩;cases i
  obtain⟨d,hd,t,C⟩:=D;exact⟨_,Xw hd (by omega) (λ_=>I) w,C _⟩;split at h;rename_i gs c;simp only[JG,decide_eq_true_eq,Ju]at h;obtain⟨i,p⟩:=h;have t:Yp P f.type=true:=by simp[Yp,c]
  refine⟨_,Xw c i (λe=>by rw[t]at e;cases e) w,?_⟩;rw[show Xy P f.type ((vs.drop f.offset).take (tsz P f.type))= .agg ⟨(vs.drop f.offset).take (tsz P f.type)⟩by simp[Xy,t]];refine Fk c (λg u=> ?_) j n w;obtain⟨F,L,E⟩:=p g u;exact⟨F,by rw[List.length_take,List.length_drop];omega,E⟩;cases h
 have loop:∀(l:List Field),(∀f∈l,f∈fs)->(forIn l PUnit.unit (λf (_:PUnit)=>(if f.name≠ "_" then(do let x <-part f.type ⟨vs⟩ f.offset;Jj j (n+2) f.type x;Pure.pure (ForInStep.yield PUnit.unit))else Pure.pure (ForInStep.yield PUnit.unit):Sem (ForInStep PUnit)))).run P w= .ok PUnit.unit w:=by
  intro l;induction l with
  |nil=>intro _;simp
  |cons f l ih=>
   intro y;obtain⟨v,i,p⟩:=step f (y f (by simp));rw[KG];by_cases A:f.name≠ "_";simp only[A,ne_eq,not_false_eq_true,if_true,Jk,i,p,Jc,JC];simpa using ih (λg c=>y g (by simp[c]));simp only[A,if_false,Jk,Jc,JC];simpa using ih (λg c=>y g (by simp[c]))
 have:=loop fs (λ_ h=>h);unfold Jj;simp only[Jk,run_underlying K,Jc];simp at this ⊢;rw[this];rfl
theorem ZaY {n:TypeId} {l:List Leaf} {vs:List Value} {cs:List PV} {q:Rows} (F:Tz P DY n=Hs l) (D:Yp P n=Ht) (E:RepL S M q vs cs) (w:World):
  ∀(es:List MapEntry) (ks:List PV) (i:Nat) (r:Option Nat),es.length=ks.length->(∀j,j<ks.length->Rep S (es.getD j Jd).key (ks.getD j .any))->Td l cs ks i=Hs r->
   (J6 n (.agg ⟨vs⟩) es i).run P w= .ok (r.map λj=>(j,(es.getD (j-i) Jd).val)) w/\(∀j,r=Hs j->i<=j/\j<i+ks.length/\ ∃d,ks.getD (j-i) .any= .agg d/\ZC l cs d=Hs Ht)
 | [],[],i,r,_,_,h=>by
  simp only[Td,Jm.injEq]at h;subst h;exact⟨by simp[J6],by simp⟩
 |e::es,k::ks,i,r,hlen,hK,h=>by
  have u:=hK 0 (by simp);simp only[List.getD_cons_zero]at u;cases k with
  |agg d=>
   simp only[Td]at h;obtain⟨us,v,z,y⟩:=(Kx (S:=S) (M:=M) (q:=q) u).agg_inv;have t:∀ {b},ZC l cs d=Hs b->(K0 n (.agg ⟨vs⟩) e.key).run P w= .ok b w:=λ{b} c=>by
    have:=Zq3 (S:=S) (M:=M) (h:=q) DY n l F Op.maxDepth (by decide) vs us cs d b E ⟨z,y⟩ c w;rw[v];simpa[Xy,D,K0]using this
   cases c:ZC l cs d with
   |none=>rw[c]at h;cases h
   |some b=>
    rw[c]at h;cases b with
    |true=>
     simp only[Jm.injEq]at h;subst h;refine⟨by simp[J6,t c],λj p=> ?_⟩;cases p;exact⟨JF _,by simp,d,by simp,c⟩
    |false=>
     simp only at h;obtain⟨I,C⟩:=ZaY F D E w es ks (i+1) r (by simpa using hlen) (λj p=>by simpa using hK (j+1) (by simpa using p)) h;refine⟨?_,λj p=> ?_⟩
     ·simp only[J6,Jk,t c,Jc,Kc,if_false,I];cases r with
      |none=>rfl
      |some j=>
       obtain⟨G,K,_⟩:=C j rfl;have:j-i=(j-(i+1))+1:=by omega
       simp only[JY,this,Ku]
     ·obtain⟨G,K,A,J,L⟩:=C j p;have:j-i=(j-(i+1))+1:=by omega
      exact⟨by omega,by simp;omega,A,by rw[this,Ku];exact J,L⟩
  |_=>simp[Td]at h
 | [],_::_,_,_,hlen,_,_=>by simp at hlen
 |_::_,[],_,_,hlen,_,_=>by simp at hlen
theorem Zg1 (y:Sim B S M s a w) {t:TypeId} {u v:Value} {x k:PV} {ok:Bool} (hu:RepS S M s.m.q u x) (hv:RepS S M s.m.q v k) (D:(XZ P t x k ok s.m).ok):Snd P B S s a w (Kk t u v ok) (XZ P t x k ok s.m):=by
 revert D;unfold XZ;split;rename_i ls z c cs X K;split;rename_i r W;intro p;obtain⟨F,T,fs,i,e,G,A,t3,t4,O,rfl,Z⟩:=DA X;obtain⟨b,es,rfl,Y,U,e3,e4,e5,e6⟩:=Zdj y hu K;obtain⟨vs,rfl,J,C⟩:=hv.agg_inv;have N:Yp P F=true:=by simp[Yp,A]
 obtain⟨V,f2⟩:=ZaY (S:=S) (M:=M) (q:=s.m.q) t3 N ⟨J,C⟩ w es c.ks 0 r U e5 W;have l:=Vk (vs:=vs) A (λf R=>by rw[J,p];exact Z f R) (⟨es⟩:Array MapEntry).isEmpty 9997 w;have n:(J8 F (.agg ⟨vs⟩) es).run P w= .ok (r.map λj=>(j,(es.getD (j-0) Jd).val)) w:=by
  rw[run_findKey_eq w (by rw[A]) (.agg ⟨vs⟩) es];exact V
 have L:(zeroValue T).run P w= .ok e w:=by simp[zeroValue,GF t4,O]
 have I:=MapKept.run_getObj_map (P:=P) Y;cases r with
 |none=>
  refine KD y (v:=if ok then .tuple #[e,.bool Hf]else e) ?_ ?_
  ·simp only[Kk,Jk,run_underlying G,Jc,I,JC,l,n,Option.map_none,L]
  ·cases ok
   ·exact Ve S e
   ·refine .tup [e,.bool Hf] [XP e,.bool Hf] rfl (λi E=> ?_)
    match i,E with
    |0,_=>exact Ve S e
    |1,_=>exact .bool _
 |some j=>
  obtain⟨_,g2,_⟩:=f2 j rfl;have d:=e6 j (by omega);refine KD y (v:=if ok then .tuple #[(es.getD j Jd).val,.bool Ht]else(es.getD j Jd).val) ?_ ?_
  ·simp only[Kk,Jk,run_underlying G,Jc,I,JC,l,n,JY,Kl]
  ·cases ok
   ·exact d
   ·refine .tup [_,.bool Ht] [_,.bool Ht] rfl (λi E=> ?_)
    match i,E with
    |0,_=>exact d
    |1,_=>exact .bool _
 exact λh=>h.elim
 exact λh=>h.elim
theorem Sim.special (j:Sim B S M s a w) {w':World} {b:Nat} (G:∀vs t f,w.heap[b]? ≠ Hs (.cells vs t f)) (A:∀k,k≠b->w'.heap[k]? = w.heap[k]?) (N:w'.heap.size=w.heap.size)
  {o':Nat->Option MapC} {it':Nat->Option IterC} (K:Stab B S w' o' it') (F:∀k d,s.m.om k=Hs d->k≠b/\o' k=Hn):Sim B S M (s.with { s.m with o:=o',it:=it' }) a w':=by
 have live:∀i,ZI s.m i->ZI { s.m with o:=o',it:=it' } i:=λi h=>by cases i<;>exact h
 refine⟨j.defers,j.hn,λk l=>by rw[N];exact j.hB k l,K,j.fr,λi k l=>live k (j.ids i k l),λi cs T=> ?_,λi r T=> ?_,j.inj,j.injq,j.injx,λk d l=> ?_,λi es W=> ?_,⟨j.pn.h,j.pn.q⟩,j.hz⟩;have z:=j.blk i cs T;show DJ _ _ _ _ _ _ _ (s.m.z i);cases V:s.m.z i with
 |false=>
  rw[V]at z;obtain⟨u,y,⟨us,Y,O,U,g5⟩,Z⟩:=z;exact⟨u,y,⟨us,Y,by rw[A _ (λe=>G _ _ _ (e▸O))];exact O,U,g5⟩,λc C k l=>live k (Z c C k l)⟩
 |true=>rw[V]at z;exact z
 have z:=j.row i r T;cases r with
 |live n sz e=>
  obtain⟨u,y⟩:=z;refine⟨u,λc C=> ?_⟩;obtain⟨R,J,I,⟨us,D,L⟩,E⟩:=y c C;exact⟨R,J,I,⟨us,by rw[A _ (λe=>G _ _ _ (e▸D))];exact D,L⟩,E⟩
 |vec n sz e=>
  obtain⟨u,y⟩:=z;refine⟨u,λc C=> ?_⟩;obtain⟨R,J,I,⟨us,D,L⟩,E⟩:=y c C;exact⟨R,J,I,⟨us,by rw[A _ (λe=>G _ _ _ (e▸D))];exact D,L⟩,E⟩
 |dead=>trivial
 obtain⟨u,y,O,U⟩:=j.rm k d l;exact⟨u,y,(F k d l).2,U.move (JH _) (A k (F k d l).1) (λv p r _=>r) live⟩;refine(j.vc i es W).move (λ_ _ _ h=>h) rfl rfl (λl=>A _ λee=> ?_) (λv p r _=>r) live;obtain⟨sz,e,q1⟩:=j.vec_q W;obtain⟨_,X⟩:=j.row i _ q1;obtain⟨_,_,_,⟨vs,E,_⟩,_⟩:=X (M.κ i-1) (by omega);exact G _ _ _ (ee▸E)
def Sim.om_ne (l:Sim B S M s a w) {k b:Nat} {d c:MapC} (n:s.m.om k=Hs d) (j:s.m.o b=Hs c) {x:Option MapC}:k≠b/\upd s.m.o b x k=none:=by
 have i:=(l.rm k d n).2.2.1;have h:k≠b:=λe=>by subst e;rw[j]at i;cases i
 exact⟨h,by rw[Zb _ _ (Jz h)];exact i⟩
def ZgV {w:World} {b:Nat} {o o':Obj} (h:w.heap[b]? = Hs o):({ w with heap:=w.heap.setIfInBounds b o' }:World).heap[b]? = Hs o'/\ ∀k,k≠b->({ w with heap:=w.heap.setIfInBounds b o' }:World).heap[k]? = w.heap[k]? :=
 MapKept.heap_set h
def Tq {w':World} {b:Nat} (i:StabS S w) (l:∀vs t f,w.heap[b]? ≠ Hs (.cells vs t f)) (p:S.m b=Hn) (d:∀k,k≠b->w'.heap[k]? = w.heap[k]?):StabS S w':=by
 refine⟨λk o v h=> ?_,λk es h=> ?_,λk h=> ?_⟩
 rotate_right
 obtain⟨vs,t,e⟩:=i.y k h;exact⟨vs,t,by rw[d k (λj=>by subst j;exact l _ _ _ e)];exact e⟩;have c:=i.c k o v h;have n:k≠b:=λe=>by
  subst e;unfold World.cell? at c;simp only at c;cases c
 rw[<-c];exact World.cell?_of_block (d k n);rw[d k (λe=>by subst e;rw[p]at h;cases h)];exact i.m k es h
theorem Zh8 {l:Leaf} {c d:PV} {q:Rows} {u v:Value} (h:UJ l c d=Hs Ht) (b:RepS S M q u c) (hv:RepS S M q v d):u=v/\ ∀n,JD n v v=true:=by
 cases l with
 |int=>
  obtain⟨k,x,y,rfl,rfl,e⟩:=ZcX h;have e:x=y:=by simpa using e.symm
  subst e;exact⟨by rw[b.int_inv,hv.int_inv],λn=>by rw[hv.int_inv];simp[JD]⟩
 |bool=>
  obtain⟨x,y,rfl,rfl,e⟩:=ZaV h;have e:x=y:=by simpa using e.symm
  subst e;exact⟨by rw[b.bool_inv,hv.bool_inv],λn=>by rw[hv.bool_inv];simp[JD]⟩
 |str=>
  obtain⟨x,y,rfl,rfl,e⟩:=ZcY h;have e:x=y:=by simpa using e.symm
  subst e;exact⟨by rw[b.str_inv,hv.str_inv],λn=>by rw[hv.str_inv];simp only[JD];exact(MapKept.bytes_beq _ _).2 rfl⟩
theorem Tb {q:Rows}:∀ {e:List Leaf} {cs b:List PV} {us vs:List Value},ZC e cs b=Hs Ht->RepL S M q us cs->RepL S M q vs b->us=vs/\ ∀v∈vs,∀n,JD n v v=Ht
 | [],[],[],us,vs,_,hu,hv=>by
  have i:us= []:=by have:=hu.1;simpa using this
  have k:vs= []:=by have:=hv.1;simpa using this
  subst i;subst k;exact⟨rfl,λv hv=>by cases hv⟩
 |l::e,c::cs,d::b,u::us,v::vs,h,hu,hv=>by
  simp only[ZC]at h;split at h;rename_i x y t p;simp only[Jm.injEq,JG]at h;obtain⟨rfl,rfl⟩:=h;obtain⟨D,A⟩:=hu.cons;obtain⟨z,C⟩:=hv.cons;obtain⟨rfl,i⟩:=Zh8 t D z;obtain⟨rfl,k⟩:=Tb p A C;refine⟨rfl,λx j=> ?_⟩;rcases JN.1 j with rfl|j;exact i;exact k x j;cases h
 | [],c::cs,_,_,_,h,_,_=>by simp[ZC]at h
 | [],[],d::b,_,_,h,_,_=>by simp[ZC]at h
 |l::e,[],_,_,_,h,_,_=>by simp[ZC]at h
 |l::e,c::cs,[],_,_,h,_,_=>by simp[ZC]at h
 |l::e,c::cs,d::b,[],_,_,hu,_=>by have:=hu.1;simp at this
 |l::e,c::cs,d::b,_::_,[],_,_,hv=>by have:=hv.1;simp at this
def ZbP (T:Sim B S M s a w) {t:TypeId} {u v z:Value} {x k y:PV} (hu:RepS S M s.m.q u x) (hv:RepS S M s.m.q v k) (hy:RepS S M s.m.q z y) (xm:(Z2 P t x k y s.m).ok):
  Zxq P B S s a w (JE t u v z) (Z2 P t x k y s.m):=by
 revert xm;unfold Z2;split;rename_i b;split;rename_i ls zz c cs h1 h2;obtain⟨kt,et,fs,i,zv,t1,t2,t3,t4,t5,rfl,t6⟩:=DA h1;have xe:u= .map (Hs b):=by cases hu with|clean r=>cases r;rfl
 subst xe;obtain⟨o1,o2,es,U,e2,e3,e4,R,e6⟩:=T.stable.o b c h2;obtain⟨vs,rfl,hl,I⟩:=hv.agg_inv;have ht:Yp P kt=true:=by simp[Yp,t2]
 have hg:=MapKept.run_getObj_map (P:=P) U;have xc:∀vs t f,w.heap[b]? ≠ Hs (.cells vs t f):=λvs t f h=>by rw[U]at h;cases h
 have W:∀(A:cs.length=ls.length),(Jj Hf 10000 kt (.agg ⟨vs⟩)).run P w= .ok () w:=λA=>Vk (vs:=vs) t2 (λf Z=>by rw[hl,A];exact t6 f Z) Hf 9997 w
 have main:∀(es':List MapEntry) (c':MapC),(JE t (.map (Hs b)) (.agg ⟨vs⟩) z).run P w= .ok () { w with heap:=w.heap.setIfInBounds b (.map ⟨es'⟩ es'.length) }->
   es'.length=c'.ks.length->c'.vs.length=c'.ks.length->(∀i,i<c'.ks.length->(es'.getD i Jd).born=i)->(∀i,i<c'.ks.length->Rep S (es'.getD i Jd).key (c'.ks.getD i .any))->(∀i,i<c'.ks.length->Rep S (es'.getD i Jd).val (c'.vs.getD i .any))->
   Zxq P B S s a w (JE t (.map (Hs b)) (.agg ⟨vs⟩) z) ⟨cs.length=ls.length/\Kg cs=Ht/\y.clean=Ht,.tup [],{ s.m with o:=upd s.m.o b (Hs c') }⟩:=by
  intro es' c' F g1 g2 g3 g4 g5;obtain⟨w1,w2⟩:=ZgV (o':= .map ⟨es'⟩ es'.length) U;refine⟨_,S,M,F,T.special xc w2 (by simp) ⟨Tq T.stable.s xc o2 w2,λV c2 E=> ?_,λV x2 xj=> ?_⟩ (λk d hk=>T.om_ne hk h2),rfl,JH _,λ_ _=>⟨λ_=>rfl,rfl⟩,⟨rfl,rfl,rfl,by simp,λk hk=>w2 k (λe=>o1 (e▸hk))⟩⟩
  ·by_cases e:b=V
   ·subst e;rw[Za]at E;cases E;exact⟨o1,o2,es',w1,g1,g2,g3,g4,g5⟩
   ·rw[Zb _ _ e]at E;obtain⟨q1,q2,q3⟩:=T.stable.o V c2 E;exact⟨q1,q2,q3.move (JH _) (w2 V (Jz e))⟩
  ·obtain⟨q1,q2⟩:=T.stable.i V x2 xj;refine⟨q1,?_⟩;unfold IterAt at q2 ⊢;rw[w2 V (λe=>by subst e;have q3:=q2.1;rw[U]at q3;cases q3)];exact q2
 split;rename_i j Z;rintro ⟨A,xb,E⟩;obtain⟨f1,f2⟩:=ZaY (S:=S) (M:=M) (q:=s.m.q) t3 ht ⟨hl,I⟩ w es c.ks 0 _ e2 R Z;obtain⟨_,g2,ds,g3,g4⟩:=f2 j rfl;have hj:j<c.ks.length:=by omega
 rw[Kl]at g3;have xa:=R j hj;rw[g3]at xa;obtain⟨us,xl,xd,xh⟩:=(Kx (S:=S) (M:=M) (q:=s.m.q) xa).agg_inv;obtain⟨L,N⟩:=Tb g4 ⟨hl,I⟩ ⟨xd,xh⟩;subst L;have G:j<es.length:=by omega
 have J:(es.getD j Jd).key= .agg ⟨vs⟩:=xl;have xk:JD 10000 (.agg ⟨vs⟩) (.agg ⟨vs⟩)=true:=by
  simp only[JD,BEq.rfl,KN];rw[Ju];rintro ⟨p,q⟩ K;rw[Kv]at K;simp only at K ⊢;obtain⟨n,hn,X⟩:=Jg K;simp only[Kq]at X;cases X;exact N _ (Jv _) _
 have O:(J8 kt (.agg ⟨vs⟩) es).run P w= .ok (Hs (j,(es.getD j Jd).val)) w:=by
  rw[run_findKey_eq w (by rw[t2]) (.agg ⟨vs⟩) es];simpa using f1
 have xi:(⟨es⟩:Array MapEntry)[j]? = Hs (es.getD j Jd):=by
  rw[getD_lt G];simp[G]
 have Y:(⟨es⟩:Array MapEntry).modify j (λe=> { e with key:= .agg ⟨vs⟩,val:=z })=⟨es.set j { es.getD j Jd with key:= .agg ⟨vs⟩,val:=z }⟩:=by
  apply KL;apply Kf;intro n;rw[J4,J5];simp only[KA];by_cases e:j=n;subst e;simp[G,getD_lt G];simp[e]
 have F:(JE t (.map (Hs b)) (.agg ⟨vs⟩) z).run P w= .ok () { w with heap:=w.heap.setIfInBounds b (.map ⟨es.set j { es.getD j Jd with key:= .agg ⟨vs⟩,val:=z }⟩ es.length) }:=by
  have xg:(JZ (.agg ⟨vs⟩) (.agg ⟨vs⟩)).run P w= .ok (.agg ⟨vs⟩) w:=by simp[JZ,xk]
  simp only[JE,Jk,run_underlying t1,Jc,hg,W A,O,xi,JY,KE,J,xg,Y];exact MapKept.run_setObj_map _ U
 have D:(es.set j { es.getD j Jd with key:= .agg ⟨vs⟩,val:=z }).length=es.length:=by simp
 have l:∀i,i<c.ks.length->(es.set j { es.getD j Jd with key:= .agg ⟨vs⟩,val:=z }).getD i Jd=if i=j then { es.getD j Jd with key:= .agg ⟨vs⟩,val:=z } else es.getD i Jd:=λi C=>by
  rw[getD_lt (by simp;omega),J7];by_cases e:j=i;subst e;simp;rw[if_neg e,if_neg (Jz e)];exact(getD_lt (by omega)).symm
 refine main (es.set j { es.getD j Jd with key:= .agg ⟨vs⟩,val:=z }) ⟨c.ks,c.vs.set j y.share⟩ (by rw[D];exact F) (by rw[D];exact e2) (by simp[e3]) (λi C=> ?_) (λi C=> ?_) (λi C=> ?_);rw[l i C];split;rename_i e;subst e;exact e4 i C;exact e4 i C;rw[l i C];split;rename_i e;subst e;rw[<-J];exact R i C;exact R i C;rw[l i C];have xn:(c.vs.set j y.share).getD i .any=if i=j then y.share else c.vs.getD i .any:=by
  simp only at C;rw[getD_lt (by simp;omega),J7];by_cases e:j=i;subst e;simp;rw[if_neg e,if_neg (Jz e)];exact(getD_lt (by omega)).symm
 show Rep S _ ((c.vs.set j y.share).getD i .any);rw[xn];split;exact hy.share E;exact e6 i C;rename_i Z;rintro ⟨A,xb,E⟩;obtain⟨f1,f2⟩:=ZaY (S:=S) (M:=M) (q:=s.m.q) t3 ht ⟨hl,I⟩ w es c.ks 0 _ e2 R Z;have O:(J8 kt (.agg ⟨vs⟩) es).run P w= .ok Hn w:=by
  rw[run_findKey_eq w (by rw[t2]) (.agg ⟨vs⟩) es];simpa using f1
 have F:(JE t (.map (Hs b)) (.agg ⟨vs⟩) z).run P w= .ok () { w with heap:=w.heap.setIfInBounds b (.map ⟨es++ [{ key:= .agg ⟨vs⟩,val:=z,born:=es.length }]⟩ (es.length+1)) }:=by
  simp only[JE,Jk,run_underlying t1,Jc,hg,W A,O,KB];exact MapKept.run_setObj_map _ U
 have l:∀i,i<c.ks.length+1->(es++ [({ key:= .agg ⟨vs⟩,val:=z,born:=es.length }:MapEntry)]).getD i Jd=if i<c.ks.length then es.getD i Jd else { key:= .agg ⟨vs⟩,val:=z,born:=es.length }:=λi C=>by
  by_cases e:i<c.ks.length;rw[if_pos e,Zf (by omega)];rw[if_neg e,Zg (by omega)];have:i-es.length=0:=by omega
  simp[this]
 have xf:Rep S (.agg ⟨vs⟩) (.agg (JQ cs)):=(K4 (S:=S) (M:=M) (q:=s.m.q) vs cs hl I).share xb;refine main (es++ [{ key:= .agg ⟨vs⟩,val:=z,born:=es.length }]) ⟨c.ks++ [.agg (JQ cs)],c.vs++ [y.share]⟩ (by simpa using F) (by simp[e2]) (by simp[e3]) (λi C=> ?_) (λi C=> ?_) (λi C=> ?_);simp only[JI,JB,JJ]at C;rw[l i (by omega)];split;rename_i e;exact e4 i e;show es.length=i;omega;simp only[JI,JB,JJ]at C;rw[l i (by omega)];show Rep S _ ((c.ks++ [KT (JQ cs)]).getD i .any);split;rename_i e;rw[Zf e];exact R i e;rename_i e;rw[Zg (by omega)];have:i-c.ks.length=0:=by omega
 simpa[this]using xf;simp only[JI,JB,JJ]at C;rw[l i (by omega)];show Rep S _ ((c.vs++ [y.share]).getD i .any);split;rename_i e;rw[Zf (by omega)];exact e6 i e;rename_i e;rw[Zg (by omega)];have:i-c.vs.length=0:=by omega
 simpa[this]using hy.share E;exact λh=>h.elim
 exact λh=>h.elim
 exact λh=>h.elim
theorem Sim.mapIt (e:Sim B S M s a w) {i:Nat} {it:IterC} {c:MapC} (j:s.m.it i=Hs it) (b:mapIt s.m it=Hs c):MapAt S w it.b c:=by
 unfold PL.mapIt at b;cases h:it.c with
 |some d=>
  rw[h]at b;simp only[Jm.injEq]at b;subst b;obtain⟨es,l,t,k,u,p,n⟩:=(e.stable.i i it j).2.2 d h;exact⟨es,e.stable.s.m _ _ l,t,k,u,p,n⟩
 |none=>
  rw[h]at b;exact(e.stable.o it.b c b).2.2
theorem ZiO (n:Sim B S M s a w) {u:Value} {x:PV} (O:RepS S M s.m.q u x) (y:(VN x s.m).ok):Snd P B S s a w (KF u) (VN x s.m):=by
 revert y;unfold VN;split;rename_i b;split;rename_i it E;split;rename_i c i I F;rintro ⟨R,A⟩;have t:u= .pointer (Hs ⟨b,0,Hn⟩):=by cases O with|clean r=>cases r;rfl
 subst t;obtain⟨_,G,_⟩:=n.stable.i b it E;obtain⟨es,K,T,U,D,N,L⟩:=n.mapIt E I;unfold IterAt at G;have z:(getObj b).run P w= .ok (.mapIter (Hs it.b) it.n ⟨it.seen⟩ it.n) w:=by simp[getObj,Km,G]
 have J:=MapKept.run_getObj_map (P:=P) K;have d:(⟨it.seen⟩:Array Nat).back? = Hs i:=by rw[List.getLast?_eq_getElem?]at F;simpa[Array.back?]using F
 have k:(⟨es⟩:Array MapEntry).find? (λe=>e.born==i)=Hs (es.getD i Jd):=by
  simp only[List.find?_toArray];have l:i<es.length:=by omega
  rw[List.find?_eq_some_iff_getElem];refine⟨by simpa using D i A,i,l,(getD_lt l).symm,λj C=> ?_⟩;have:=D j (by omega);rw[getD_lt (by omega)]at this;simp[this];omega
 refine KD n (v:= .tuple #[(es.getD i Jd).key,(es.getD i Jd).val]) ?_ ?_;have p:(es.length !=it.n)=false:=by simp;omega
 simp only[KF,Jk,z,Jc,d,J,p,Kc,if_false,k,JC];refine .tup [_,_] [_,_] rfl (λj C=> ?_);match j,C with
 |0,_=>exact N i A
 |1,_=>exact L i A
 exact λh=>h.elim
 exact λh=>h.elim
 exact λh=>h.elim
end
open Go.RowKit
def tkn (P:Program) (t:TypeId):Bool:=(P.underlying t).isSome
def XT (P:Program) (t:TypeId):Option (List PV):=aMakeFull.tbdz P t
def Yd (P:Program) (b:Builtin) (c:List TypeId) (d:Option Nat) (xs:List PV) (m:Hp):ARes:=
 match b,c,xs with
 | .len,[t],[x]=>if Zn6 x then WL P t x m else Zqk P t x m
 | .append,[t,tx],[x,y]=>match d with
  |some d=>U7 P d t tx x y m
  |none=> .fail
 | .max,_,[x,y]=>Zql x y m
 | .min,_,[x,y]=>Zqm x y m
 | .complex,_,[x,y]=>Zqh x y m
 | .real,_,[x]=>Zd4 x m
 | .imag,_,[x]=>Zd3 x m
 |_,_,_=> .fail
def aop (P:Program) (o:Oper) (ρ:Operand->PV) (m:Hp):ARes:=
 match o.op with
 | .move x=>⟨True,ρ x,m⟩
 | .assign x=>⟨True,ρ x,m⟩
 | .pick c x y=>Zca (ρ c) (ρ x) (ρ y) m
 | .alloc t=>match o.dst,XT P t with
  |some d,Hs z=>⟨m.h d=Hn,.ptr d 0,m.new d z⟩
  |_,_=> .fail
 | .box _ x=>match o.dst with
  |some d=>⟨m.h d=Hn/\(ρ x).known=Ht,.ptr d 0,m.new d (ρ x).cells⟩
  |none=> .fail
 | .build t parts=>S7 P t (parts.toList.map λx=>(x.1,ρ x.2)) m
 | .buildSlice t len parts=>match o.dst with
  |some d=>Y7 P d t len (parts.toList.map λx=>(x.1,ρ x.2)) m
  |none=> .fail
 | .load t x=>if tkn P t then VO P t (ρ x) m else .fail
 | .store t x y=>if tkn P t then W0 P t (ρ x) (ρ y) m else .fail
 | .nilCheck x=>XG (ρ x) m
 | .binOp op t x y _=>Zqg P op t (ρ x) (ρ y) m
 | .unOp op _ x=>aUn op (ρ x) m
 | .convert src dst x=>TC P src dst (ρ x) m
 | .makeFunc (.func f) first caps=>if first.isEmpty then⟨UD m (caps.toList.map ρ),.fn f (caps.toList.map ρ),frozenBy m (caps.toList.map ρ)⟩else .fail
 | .makeSlice t l c=>match o.dst with
  |some d=>match l with
   | .const (.int _ 0)=>Wc P d t (ρ c) m
   |_=>aMakeFull P d t (ρ l) (ρ c) m
  |none=> .fail
 | .slice t x lo hi mx=>if mx.isNone then GU P t (ρ x) (lo.map ρ) (hi.map ρ) m else .fail
 | .fieldAddr t x f=>YH P t (ρ x) f m
 | .field t x f=>GS P t (ρ x) f m
 | .indexAddr t x i=>YI P t (ρ x) (ρ i) m
 | .index t x i=>GT P t (ρ x) (ρ i) m
 | .extract x i=>Vo (ρ x) i m
 | .lookup t x k ok=>XZ P t (ρ x) (ρ k) ok m
 | .mapUpdate t x k v=>Z2 P t (ρ x) (ρ k) (ρ v) m
 | .entry x=>VN (ρ x) m
 | .call { callee:= .builtin b,args,argTypes }=>Yd P b argTypes.toList o.dst (args.toList.map ρ) m
 |_=> .fail
mutual
def PV.dids:PV->List Ref
 | .ptr id _=> [.b id]
 | .osl id _ _ _=> [.b id]
 | .sl (.row id) es=> .r id::PV.didsL es
 | .vsl id _ _=> [.r id]
 | .vptr id _ _ _ _=> [.r id]
 | .sl _ es=>PV.didsL es
 | .rptr cs=>PV.didsL cs
 | .rmap ks vs=>PV.didsL ks++PV.didsL vs
 | .agg cs=>PV.didsL cs
 | .tup cs=>PV.didsL cs
 | .fn _ cs=>PV.didsL cs
 |_=> []
def PV.didsL:List PV->List Ref
 | []=> []
 |c::cs=>PV.dids c++PV.didsL cs
end
def WS (P:Program) (f:FuncId):Prop:=∃fn,P.funcs[f]? = Hs fn/\fn.name≠ "runtime.NumGoroutine" /\ fn.body.isSome=Ht
def Pure (P:Program) (f:FuncId) (args:List PV) (r:PV):Prop:=
 WS P f/\r.dids= []/\ ∀(w:World) (S:Stable) (vs:List Value),StabS S w->ZmP S w->vs.length=args.length->(∀i,i<args.length->Rep S (vs.getD i undef) (args.getD i .any))->
  Calls P f ⟨vs⟩ w λe w'=>∃v S',e= .returned v/\Rep S' v r/\StabS S' w'/\SLe S S'/\(∀b,b<w.heap.size->(∀o,S' b o=S b o)/\S'.m b=S.m b)/\Below w.heap.size w w'
def ZJ (ρ:Operand->PV) (c:Call):Option (FuncId×List PV):=
 match c.callee with
 | .value f=>match ρ f with
  | .fn g caps=>Hs (g,c.args.toList.map ρ++caps)
  |_=>Hn
 |_=>Hn
def PV.leaf:PV->Bool
 | .int _ _=>Ht
 | .bool _=>Ht
 | .str _=>Ht
 |_=>Hf
mutual
def PV.flatS:PV->Bool
 | .int _ _=>Ht
 | .bool _=>Ht
 | .str _=>Ht
 | .sl .no es=>(es.all λe=>e.cells.any PV.leaf)&&PV.flatSL es
 | .agg cs=>PV.flatSL cs
 | .tup cs=>PV.flatSL cs
 |_=>Hf
def PV.flatSL:List PV->Bool
 | []=>Ht
 |c::cs=>PV.flatS c&&PV.flatSL cs
end
theorem VU:∀ {cs:List PV} {i:Nat},PV.flatSL cs=Ht->i<cs.length->(cs.getD i .any).flatS=Ht
 | [],_,_,h=>by simp at h
 |c::cs,0,h,_=>by simp[PV.flatSL]at h ⊢;exact h.1
 |c::cs,i+1,h,hi=>by simp[PV.flatSL]at h;simpa using VU h.2 (by simpa using hi)
def Zli {e:PV} (h:e.flatS=Ht) {j:Nat} (b:j<e.cells.length):(e.cells.getD j .any).flatS=true:=by
 have:e.cells= [e]\/ ∃cs,e= .agg cs:=by
  cases e<;>first|exact .inl rfl|exact .inr ⟨_,rfl⟩
 rcases this with c|⟨cs,rfl⟩;rw[c]at b ⊢;obtain rfl:j=0:=by simpa using b
 exact h;have d:PV.flatSL cs=true:=by simpa[PV.flatS]using h
 exact VU (cs:=cs) d b
theorem Rep.flatS {S S':Stable} {v:Value} {p:PV} (r:Rep S v p) (Kb:Nat->Prop) (y:∀b o x,S b o=Hs x-> ¬Kb b->S' b o=Hs x) (u:∀b o x q,Kb b->S b o=Hs x->q.leaf=Ht-> ¬Rep S x q):p.flatS=Ht->Rep S' v p:=by
 induction r with
 |int k n=>exact λ_=> .int k n
 |bool b=>exact λ_=> .bool b
 |str l=>exact λ_=> .str l
 |agg vs cs h _ ih=>exact λhp=> .agg vs cs h λi c=>ih i c (VU (by simpa[PV.flatS]using hp) c)
 |tup vs cs h _ ih=>exact λhp=> .tup vs cs h λi c=>ih i c (VU (by simpa[PV.flatS]using hp) c)
 |sl0 a cap=>exact λ_=> .sl0 a cap
 |sl b o cap sz es vals hsz hcap hS hR ih=>
  intro hp;simp only[PV.flatS,JG,Ju]at hp;have z:∀i,i<es.length-> ¬Kb b:=λi c C=>by
   obtain⟨q,A,h⟩:=List.any_eq_true.1 (hp.1 _ (Zc (d:= .any) c));obtain⟨j,e,rfl⟩:=Jg A;rw[<-getD_lt (d:= .any) e]at h;have t:j<sz:=by rw[<-hsz i c];exact e
   exact u _ _ _ _ C (hS i j c t) h (hR i j c t)
  exact .sl b o cap sz es vals hsz hcap (λi j c e=>y _ _ _ (hS i j c e) (z i c)) λi j c e=>ih i j c e (Zli (VU hp.2 c) (by rw[hsz i c];exact e))
 |_=>intro hp;simp[PV.flatS]at hp
def Zxp (P:Program) (m:Hp) (g:FuncId) (args:List PV) (v:PV):Prop:=
 ∃(pre post:List PV) (d:Nat) (L:List (Nat×List PV)),args=pre++ .ptr d 0::post/\(∀p∈pre,p.ids= [])/\(∀p∈post,p.ids= [])/\m.h d=Hs (L.map λx=> .sl (.row x.1) x.2)/\m.z d=Hf/\
  Pure P g (pre++ .rptr (L.map λx=> .sl .no x.2)::post) v/\v.flatS=Ht
def XY (P:Program) (o:Oper) (ρ:Operand->PV) (m:Hp) (v:PV) (m':Hp):Prop:=
 ((aop P o ρ m).ok/\v=(aop P o ρ m).v/\m'=(aop P o ρ m).m)\/
 (∃c g args,o.op= .call c/\ZJ ρ c=Hs (g,args)/\((Js m args/\Pure P g (Jw m args) v)\/Zxp P m g args v)/\m'=m)
section
variable {P:Program} {B:Frm} {S:Stable} {M:Maps} {s:St} {a:Act} {w:World}
def Done (P:Program) (B:Frm) (S:Stable) (s:St) (a:Act) (w:World) (o:Oper) (p:PV) (m':Hp):Prop:=
 ∀(next:Act->World->Prop) (Q:Exit->Act->World->Prop),(∀v w' S' M',Sim B S' M' ((s.with m').put o.dst p) (a.put o.dst v) w'->Ext B S S' w w'->next (a.put o.dst v) w')->o.wp P a w next Q
def Done.of_snd {o:Oper} {sm:Sem Value} {r:ARes} (j:(execOp a.eval o).run P w=(sm.run P w).andThen λv w'=> .ok (.value v) w') (hd:∀x,o.dst=Hs x->x<s.n) (h:Snd P B S s a w sm r):Done P B S s a w o r.v r.m:=by
 intro next Q k
 obtain⟨v,w',S',M',c,b,d,i,e⟩:=h;unfold Oper.wp;rw[j,c];exact k v w' S' M' (b.put hd d i) e
def Done.of_sndU {o:Oper} {sm:Sem Unit} {r:ARes} (k:(execOp a.eval o).run P w=(sm.run P w).andThen λ_ w'=> .ok .skip w') (hd:∀x,o.dst=Hs x->x<s.n) (h:Zxq P B S s a w sm r):Done P B S s a w o r.v r.m:=by
 intro next Q l
 obtain⟨w',S',M',d,c,b,e⟩:=h;unfold Oper.wp;rw[k,d];refine l undef w' S' M' (c.put hd ?_ ?_) e;rw[b];exact .clean (.tup [] [] rfl (λi j=>by simp at j));rw[b];simp[Jb,Jp]
def SI {f:Operand->PV} {g:Operand->Value} {l:List Operand} (h:∀x,RepS S M s.m.q (g x) (f x)):∀i,i<(l.map f).length->RepS S M s.m.q ((l.map g).getD i undef) ((l.map f).getD i .any):=by
 intro i b;simp only[Jh]at b;rw[getD_lt (by simpa using b),getD_lt (by simpa using b)];simp only[Jl];exact h _
def Sb {sm:Sem Value}:(do Pure.pure (Next.value (<-sm)):Sem Next).run P w=(sm.run P w).andThen λv w'=> .ok (.value v) w':=by
 simp
def Zv1 {sm:Sem Unit}:(do sm;Pure.pure Next.skip:Sem Next).run P w=(sm.run P w).andThen λ_ w'=> .ok .skip w':=by
 simp
def ZeG (c:Sim B S M s a w) (parts:List (Nat×Operand)):(parts.map λx=>(x.1,a.eval x.2)).length=(parts.map λx=>(x.1,s.eval x.2)).length/\
  (∀i,i<(parts.map λx=>(x.1,s.eval x.2)).length->((parts.map λx=>(x.1,a.eval x.2)).getD i (0,undef)).1=((parts.map λx=>(x.1,s.eval x.2)).getD i (0,.any)).1/\
   RepS S M s.m.q ((parts.map λx=>(x.1,a.eval x.2)).getD i (0,undef)).2 ((parts.map λx=>(x.1,s.eval x.2)).getD i (0,.any)).2)/\
  ∀x∈(parts.map λx=>(x.1,s.eval x.2)),∀i∈x.2.ids,ZI s.m i:=by
 refine⟨by simp,λi b=> ?_,λx d i b=> ?_⟩;simp only[Jh]at b;rw[getD_lt (by simpa using b),getD_lt (by simpa using b)];simp only[Jl];exact⟨trivial,c.eval _⟩;obtain⟨y,e,rfl⟩:=Je.1 d;exact c.eval_ids _ i b
theorem ZmS (u:Sim B S M s a w) {o:Oper} (hd:∀x,o.dst=Hs x->x<s.n) (j:(aop P o s.eval s.m).ok):Done P B S s a w o (aop P o s.eval s.m).v (aop P o s.eval s.m).m:=by
 have E:=u.eval;have I:=u.eval_ids;obtain⟨dst,op,ty,pos,after,guard⟩:=o;unfold aop at j ⊢;simp only at j ⊢ hd;have mv:∀x:Operand,op= .move x\/op= .assign x->Done P B S s a w ⟨dst,op,ty,pos,after,guard⟩ (s.eval x) s.m:=by
  intro x n next Q F
  unfold Oper.wp;have:(execOp a.eval ⟨dst,op,ty,pos,after,guard⟩).run P w= .ok (.value (a.eval x)) w:=by rcases n with rfl|rfl<;>rfl
  rw[this];exact F _ w S M (u.put hd (E x) (I x)) (JO _ _ _)
 cases op with
 |move x=>exact mv x (.inl rfl)
 |assign x=>exact mv x (.inr rfl)
 |pick c x y=>
  have W:=E c;revert j;show(Zca (s.eval c) (s.eval x) (s.eval y) s.m).ok->Done P B S s a w _ (Zca (s.eval c) (s.eval x) (s.eval y) s.m).v (Zca (s.eval c) (s.eval x) (s.eval y) s.m).m;unfold Zca;split
  ·rename_i T;intro _ next Q F
   rw[T]at W;unfold Oper.wp;have:(execOp a.eval ⟨dst,.pick c x y,ty,pos,after,guard⟩).run P w= .ok (.value (a.eval x)) w:=by simp[execOp,W.bool_inv,asBool]
   rw[this];exact F _ w S M (u.put hd (E x) (I x)) (JO _ _ _)
  ·rename_i T;intro _ next Q F
   rw[T]at W;unfold Oper.wp;have:(execOp a.eval ⟨dst,.pick c x y,ty,pos,after,guard⟩).run P w= .ok (.value (a.eval y)) w:=by simp[execOp,W.bool_inv,asBool]
   rw[this];exact F _ w S M (u.put hd (E y) (I y)) (JO _ _ _)
  exact λh=>h.elim
 |alloc t=>
  simp only at j ⊢;cases dst with
  |none=>exact j.elim
  |some d=>
   cases C:XT P t with
   |none=>simp only[C]at j;exact j.elim
   |some z=>
    simp only[C]at j ⊢;unfold XT aMakeFull.tbdz at C;split at C
    ·rename_i i K;split at C
     ·rename_i zv xd;split at C
      ·rename_i J;cases C;exact Done.of_snd (sm:=Instr.alloc t Ht (.tuple #[])) Sb hd (ZiM u K xd j J (s.m.h d=Hn))
      ·cases C
     ·cases C
    ·cases C
 |box t x=>
  simp only at j ⊢;cases dst with
  |none=>exact j.elim
  |some d=>exact Done.of_snd (sm:=Instr.box t (a.eval x)) Sb hd (ZgZ u (E x) (I x) j.1 j.2 _)
 |build t parts=>
  obtain⟨parts⟩:=parts;simp only at j ⊢;obtain⟨Z,p2,p3⟩:=ZeG u parts;exact Done.of_snd (sm:=Instr.build t ⟨parts.map λx=>(x.1,a.eval x.2)⟩) (by simp[execOp]) hd (ZiN u Z p2 p3 j)
 |buildSlice t len parts=>
  obtain⟨parts⟩:=parts;simp only at j ⊢;cases dst with
  |none=>exact j.elim
  |some d=>
   obtain⟨Z,p2,p3⟩:=ZeG u parts;exact Done.of_snd (sm:=Instr.buildSlice t len ⟨parts.map λx=>(x.1,a.eval x.2)⟩) (by simp[execOp]) hd (F0 u Z p2 j)
 |load t x=>
  simp only at j ⊢;split at j;rename_i J;rw[if_pos J];exact Done.of_snd (sm:=KU t (a.eval x)) Sb hd (Zl4 u (E x) (by intro h;simp[tkn,h]at J) j);exact j.elim
 |store t x y=>
  simp only at j ⊢;split at j;rename_i J;rw[if_pos J];exact Done.of_sndU (sm:=Instr.storeAt t (a.eval x) (a.eval y)) Zv1 hd (ZiS u (E x) (E y) (I y) (by intro h;simp[tkn,h]at J) j);exact j.elim
 |nilCheck x=>
  simp only at j ⊢;revert j;have R:=E x;have ix:=I x;unfold XG;have N:∀ {p:PV},s.eval x=p->(execOp a.eval ⟨dst,.nilCheck x,ty,pos,after,guard⟩).run P w= .ok (.value (a.eval x)) w->Done P B S s a w ⟨dst,.nilCheck x,ty,pos,after,guard⟩ p s.m:=by
   intro p hp V next Q F
   unfold Oper.wp;rw[V];exact F _ w S M (u.put hd (hp▸E x) (hp▸I x)) (JO _ _ _)
  split;rename_i id off n;intro _;rw[n]at R;exact N n (by simp[execOp,R.ptr_inv]);rename_i cs n;intro _;rw[n]at R;obtain⟨b,o,vals,e,_⟩:=R.rptr_inv;exact N n (by simp[execOp,e]);rename_i f cs n;intro _;rw[n]at R;obtain⟨vs,e,_⟩:=R.fn_inv;exact N n (by simp[execOp,e]);exact λh=>h.elim
 |binOp op t x y yt=>exact Done.of_snd (sm:=do eqGuard op t x y (a.eval x) (a.eval y);binOp op t (a.eval x) (a.eval y)) Sb hd (Zo5 u (E x) (E y) j)
 |unOp op t x=>exact Done.of_snd (sm:=Op.unary op (a.eval x)) Sb hd (Zsa u (E x) j)
 |convert src d x=>exact Done.of_snd (sm:=convert src d (a.eval x)) Sb hd (Zl2 u (E x) j)
 |makeFunc fn first caps=>
  obtain⟨caps⟩:=caps;cases fn with
  |func f=>
   simp only at j ⊢;split at j
   ·rename_i hf;rw[if_pos hf];simp only at j ⊢;obtain⟨S',xc,he⟩:=u.frozenBy _ j;intro next Q F
    unfold Oper.wp;have xb:first= #[]:=by simpa using hf
    have:(execOp a.eval ⟨dst,.makeFunc (.func f) first ⟨caps⟩,ty,pos,after,guard⟩).run P w= .ok (.value (.func (.func f) #[] ⟨caps.map a.eval⟩)) w:=by
     subst xb;simp[execOp,Instr.makeFunc]
    rw[this];refine F _ w S' M (xc.put hd ?_ ?_) he
    ·refine .fn f _ _ (by simp) (λi K=> ?_);have:=SI (s:=s) (S:=S) (M:=M) (l:=caps) E i K;refine this.heap he.1 (λ_ _=>rfl) (λk J=> .of_eq ?_ rfl rfl);simp[St.with,X5]
    ·intro i K;obtain⟨c,T,xa⟩:=Jr.1 (by simpa[Jb]using K);obtain⟨x,n,rfl⟩:=Je.1 T;have:=I x i xa;cases i with
     |b k=>show(frozenBy s.m _).h k≠Hn;rw[WN];exact this
     |r k=>show(frozenBy s.m _).q k≠Hn;rw[X5];exact this
   ·exact j.elim
  |_=>exact j.elim
 |makeSlice t l c=>
  simp only at j ⊢;cases dst with
  |none=>exact j.elim
  |some d=>
   simp only at j ⊢;split at j
   ·rename_i k;exact Done.of_snd (sm:=KI t (.int k 0) (a.eval c)) Sb hd (ZeP u (E c) j)
   ·exact Done.of_snd (sm:=KI t (a.eval l) (a.eval c)) Sb hd (Zco u (E l) (E c) j)
 |slice t x lo K mx=>
  simp only at j ⊢;split at j;rename_i hm;rw[if_pos hm];cases mx with
  |some _=>simp at hm
  |none=>
   refine Done.of_snd (sm:=Instr.sliceAt t (a.eval x) (lo.map a.eval) (K.map a.eval) Hn) Sb hd (ZiR u (E x) (I x) ?_ ?_ (by simp) (by simp) j)
   ·intro v p U Y;cases lo with
    |none=>cases U
    |some y=>cases U;cases Y;exact E y
   ·intro v p U Y;cases K with
    |none=>cases U
    |some y=>cases U;cases Y;exact E y
  exact j.elim
 |fieldAddr t x f=>exact Done.of_snd (sm:=Instr.fieldAt t (a.eval x) f) Sb hd (ZbN u (E x) (I x) j)
 |field t x f=>exact Done.of_snd (sm:=Instr.field t (a.eval x) f) Sb hd (ZiP u (E x) (I x) j)
 |indexAddr t x i=>exact Done.of_snd (sm:=Instr.indexAt t (a.eval x) (a.eval i)) Sb hd (ZbO u (E x) (I x) (E i) j)
 |index t x i=>exact Done.of_snd (sm:=Instr.index t (a.eval x) (a.eval i)) Sb hd (ZiQ u (E x) (I x) (E i) j)
 |lookup t x k ok=>exact Done.of_snd (sm:=Kk t (a.eval x) (a.eval k) ok) Sb hd (Zg1 u (E x) (E k) j)
 |mapUpdate t x k v=>exact Done.of_sndU (sm:=JE t (a.eval x) (a.eval k) (a.eval v)) Zv1 hd (ZbP u (E x) (E k) (E v) j)
 |entry x=>exact Done.of_snd (sm:=KF (a.eval x)) Sb hd (ZiO u (E x) j)
 |extract x i=>exact Done.of_snd (sm:=Instr.extract (a.eval x) i) Sb hd (ZeO u (E x) (I x) j)
 |call c=>
  obtain⟨callee,args,argTypes⟩:=c;cases callee with
  |builtin b=>
   obtain⟨args⟩:=args;obtain⟨A⟩:=argTypes;simp only at j ⊢
   revert j
   unfold Yd;split
   ·rename_i t p n;intro j;obtain⟨x,rfl,rfl⟩:∃x,args= [x]/\p=s.eval x:=by
     match args,n with
     | [x],n=>exact⟨x,rfl,by simpa using n.symm⟩
    split at j
    ·rename_i O;rw[if_pos O];exact Done.of_snd (sm:=Kj #[t] ty #[a.eval x]) (by simp[execOp,resolve,invoke,builtin]) hd (Zg2 u (E x) j)
    ·rename_i O;rw[if_neg O];exact Done.of_snd (sm:=Kj #[t] ty #[a.eval x]) (by simp[execOp,resolve,invoke,builtin]) hd (Zo9 u (E x) j)
   ·rename_i t tx p L n;obtain⟨x,y,rfl,rfl,rfl⟩:∃x y,args= [x,y]/\p=s.eval x/\L=s.eval y:=by
     match args,n with
     | [x,y],n=>simp at n;exact⟨x,y,rfl,n.1.symm,n.2.symm⟩
    split
    ·rename_i d;intro j;exact Done.of_snd (sm:=KJ #[t,tx] ty #[a.eval x,a.eval y]) (by simp[execOp,resolve,invoke,builtin]) hd (ZgY u (E x) (I x) (E y) j)
    ·exact λh=>h.elim
   ·rename_i A X D G p L n;intro j;obtain⟨x,y,rfl,rfl,rfl⟩:∃x y,args= [x,y]/\p=s.eval x/\L=s.eval y:=by
     match args,n with
     | [x,y],n=>simp at n;exact⟨x,y,rfl,n.1.symm,n.2.symm⟩
    exact Done.of_snd (sm:=Builtin.max_ ⟨A⟩ ty #[a.eval x,a.eval y]) (by simp[execOp,resolve,invoke,builtin]) hd (Zpa u (E x) (E y) j)
   ·rename_i A X D G p L n;intro j;obtain⟨x,y,rfl,rfl,rfl⟩:∃x y,args= [x,y]/\p=s.eval x/\L=s.eval y:=by
     match args,n with
     | [x,y],n=>simp at n;exact⟨x,y,rfl,n.1.symm,n.2.symm⟩
    exact Done.of_snd (sm:=Builtin.min_ ⟨A⟩ ty #[a.eval x,a.eval y]) (by simp[execOp,resolve,invoke,builtin]) hd (Zpb u (E x) (E y) j)
   ·rename_i A X D G p L n;intro j;obtain⟨x,y,rfl,rfl,rfl⟩:∃x y,args= [x,y]/\p=s.eval x/\L=s.eval y:=by
     match args,n with
     | [x,y],n=>simp at n;exact⟨x,y,rfl,n.1.symm,n.2.symm⟩
    exact Done.of_snd (sm:=Builtin.complex_ ⟨A⟩ ty #[a.eval x,a.eval y]) (by simp[execOp,resolve,invoke,builtin]) hd (Zo6 u (E x) (E y) j)
   ·rename_i A X D G p n;intro j;obtain⟨x,rfl,rfl⟩:∃x,args= [x]/\p=s.eval x:=by
     match args,n with
     | [x],n=>exact⟨x,rfl,by simpa using n.symm⟩
    exact Done.of_snd (sm:=Builtin.real_ ⟨A⟩ ty #[a.eval x]) (by simp[execOp,resolve,invoke,builtin]) hd (Zl5 u (E x) j)
   ·rename_i A X D G p n;intro j;obtain⟨x,rfl,rfl⟩:∃x,args= [x]/\p=s.eval x:=by
     match args,n with
     | [x],n=>exact⟨x,rfl,by simpa using n.symm⟩
    exact Done.of_snd (sm:=Builtin.imag_ ⟨A⟩ ty #[a.eval x]) (by simp[execOp,resolve,invoke,builtin]) hd (Zl3 u (E x) j)
   ·exact λh=>h.elim
  |_=>exact j.elim
 |_=>exact j.elim
theorem Zk5 (j:Sim B S M s a w) {o:Oper} {c:Call} {g:FuncId} {args:List PV} {r:PV} (hd:∀x,o.dst=Hs x->x<s.n) (F:o.op= .call c) (l:ZJ s.eval c=Hs (g,args)) (J:Js s.m args)
  (hp:Pure P g (Jw s.m args) r):Done P B S s a w o r s.m:=by
 intro next Q R
 obtain⟨dst,op,ty,pos,after,guard⟩:=o;simp only at F hd;subst F;obtain⟨callee,cargs,O⟩:=c;obtain⟨cargs⟩:=cargs;unfold ZJ at l;cases callee with
 |value f=>
  simp only at l;split at l
  ·rename_i D caps K;simp only[Jm.injEq,Ke.injEq]at l;obtain⟨rfl,rfl⟩:=l;have E:=j.eval f;rw[K]at E;obtain⟨vs,hv,U,L⟩:=E.fn_inv;obtain⟨⟨fn,c1,V,T⟩,_,d⟩:=hp;have n:∀i,i<(cargs.map s.eval++caps).length->RepS S M s.m.q ((cargs.map a.eval++vs).getD i undef) ((cargs.map s.eval++caps).getD i .any):=by
    intro i k
    by_cases z:i<cargs.length
    ·rw[Zf (by simpa using z),Zf (by simpa using z)];exact SI (s:=s) j.eval i (by simpa using z)
    ·rw[Zg (by simp;omega),Zg (by simp;omega)];simp only[Jh];exact L _ (by simp at k;omega)
   have p:(execOp a.eval ⟨dst,.call ⟨.value f,⟨cargs⟩,O⟩,ty,pos,after,guard⟩).run P w= .ok (.enter D ⟨cargs.map a.eval++vs⟩) w:=by
    have t:¬fn.body=none:=by intro h;simp[h]at T
    simp[execOp,resolve,Deferred.ofValue,hv,invoke,callFunc,program,Km,c1,t,V]
   unfold Oper.wp;rw[p];show Calls P D ⟨cargs.map a.eval++vs⟩ w _;have u:=d w S (cargs.map a.eval++vs) j.stable.s j.young (by simp[Jf,U]) (λi k=>by
    rw[Jf]at k;rw[JR _ _ i k];exact(n i k).give j (Kh J i k))
   refine u.mono λe w' h=> ?_
   obtain⟨v,S',rfl,C,N,I,G,A⟩:=h;have y:=j.grow I G N A.block A.size;exact R v w' S' M (y.put hd (.clean C) (λi k=>absurd k (C.clean_ids i))) ⟨I,λb t=>G b (j.hB b t),(Kt A).mono j.hB⟩
  ·cases l
 |_=>simp at l
theorem Zly (p:Sim B S M s a w) {o:Oper} {c:Call} {g:FuncId} {args:List PV} {r:PV} (hd:∀x,o.dst=Hs x->x<s.n) (ho:o.op= .call c) (G:ZJ s.eval c=Hs (g,args)) (hp:Zxp P s.m g args r):Done P B S s a w o r s.m:=by
 intro next Q hn
 obtain⟨dst,op,ty,pos,after,guard⟩:=o;simp only at ho hd;subst ho;obtain⟨callee,cargs,ts⟩:=c;obtain⟨cargs⟩:=cargs;unfold ZJ at G;cases callee with
 |value f=>
  simp only at G;split at G
  ·rename_i g' caps hf;simp only[Jm.injEq,Ke.injEq]at G;obtain⟨rfl,k⟩:=G;have ef:=p.eval f;rw[hf]at ef;obtain⟨vs,hv,hl,E⟩:=ef.fn_inv;obtain⟨pre,post,d,L,ha,xe,xd,hh,hz,⟨⟨fn,c1,c2,c3⟩,xh,C⟩,xg⟩:=hp;have J:∀i,i<(cargs.map s.eval++caps).length->RepS S M s.m.q ((cargs.map a.eval++vs).getD i undef) ((cargs.map s.eval++caps).getD i .any):=by
    intro i K
    by_cases h1:i<cargs.length
    ·rw[Zf (by simpa using h1),Zf (by simpa using h1)];exact SI (s:=s) p.eval i (by simpa using h1)
    ·rw[Zg (by simp;omega),Zg (by simp;omega)];simp only[Jh];exact E _ (by simp at K;omega)
   have R:(cargs.map a.eval++vs).length=(pre++KC d 0::post).length:=by rw[<-ha,<-k];simp[hl]
   have E:∀i,i<(pre++KC d 0::post).length->RepS S M s.m.q ((cargs.map a.eval++vs).getD i undef) ((pre++KC d 0::post).getD i .any):=by
    rw[<-ha,<-k];exact J
   have U:(execOp a.eval ⟨dst,.call ⟨.value f,⟨cargs⟩,ts⟩,ty,pos,after,guard⟩).run P w= .ok (.enter g' ⟨cargs.map a.eval++vs⟩) w:=by
    have I:¬fn.body=none:=by intro h;simp[h]at c3
    simp[execOp,resolve,Deferred.ofValue,hv,invoke,callFunc,program,Km,c1,I,c2]
   unfold Oper.wp;rw[U];show Calls P g' ⟨cargs.map a.eval++vs⟩ w _;generalize cargs.map a.eval++vs=xs at *;obtain⟨g1,g2,⟨us,t,g3,g4,g5⟩,g6⟩:=p.own hh hz;have xf:=p.blk_lt hh hz;rw[Jh]at g4 g5;have hu:∀j,j<L.length->Rep S (us.getD j undef) (.sl .no (L.getD j (0,[])).2):=λj u=>by
    have:=g5 j u;have e:(L.map λx=>PV.sl (.row x.1) x.2).getD j .any= .sl (.row (L.getD j (0,[])).1) (L.getD j (0,[])).2:=by
     rw[getD_lt (by simpa using u),Jl,getD_lt u]
    rw[e]at this;exact this.sl_inv
   generalize xa:M.φ d=bk at *
   let S1:Stable:=⟨λb o=>if b=bk then us[o]? else S b o,S.m,S.z,S.y⟩
   have X:∀o,S1 bk o=us[o]? :=λo=>if_pos rfl
   have s1n:∀b o,b≠bk->S1 b o=S b o:=λb o h=>if_neg h
   have D:SLe S S1:= .cells rfl λb o v hv=>by
    by_cases e:b=bk
    ·subst e;rw[g2 o]at hv;cases hv
    ·rw[s1n b o e];exact hv
   have Y:StabS S1 w:=⟨λb o v hv=>by
    by_cases e:b=bk
    ·subst e;rw[X o]at hv;rw[Yu g3];exact hv
    ·rw[s1n b o e]at hv;exact p.stable.s.c b o v hv,p.stable.s.m,p.stable.s.y⟩
   have Z:=C w S1 xs Y p.young (by rw[R];simp) (λi K=>by
    rcases Nat.lt_trichotomy i pre.length with h|h|h
    ·have A:=E i (by simp;omega);rw[Zf h]at A ⊢;exact(A.alone (xe _ (Zc h))).mono D
    ·subst h;have A:=E pre.length (by simp);rw[Zg (JF _),Nat.sub_self]at A ⊢;have A:=A.ptr_inv;rw[A,xa];refine .rptr bk 0 _ (λj=>us.getD j undef) (λj u=> ?_) (λj u=> ?_)
     ·rw[Jh]at u;rw[KW,X,List.getElem?_eq_getElem (by omega),getD_lt (by omega)]
     ·rw[Jh]at u;rw[getD_lt (l:=L.map _) (by simpa using u),Jl,<-getD_lt (d:=(0,[])) u];exact(hu j u).mono D
    ·have xc:i-pre.length-1<post.length:=by simp at K;omega
     have A:=E i (by simp at K ⊢;omega);rw[Zg (by omega),show i-pre.length=(i-pre.length-1)+1 by omega]at A ⊢;exact(A.alone (by simpa using xd _ (Zc (d:= .any) xc))).mono D)
   refine Z.mono λe w' h=> ?_
   obtain⟨v,S2,rfl,h2,h3,W,h5,h6⟩:=h
   let S3:Stable:=⟨λb o=>if b=bk then Hn else S2 b o,S2.m,S2.z,S2.y⟩
   have s3:∀o,S3 bk o=none:=λo=>if_pos rfl
   have s3n:∀b o,b≠bk->S3 b o=S2 b o:=λb o h=>if_neg h
   have T:∀b,b<w.heap.size->(∀o,S3 b o=S b o)/\S3.m b=S.m b:=λb I=>by
    obtain⟨k1,k2⟩:=h5 b I;refine⟨λo=> ?_,k2⟩
    by_cases e:b=bk
    ·subst e;rw[s3,g2]
    ·rw[s3n b o e,k1 o,s1n b o e]
   have F:SLe S S3:=⟨λb o v hv=>by
    by_cases e:b=bk
    ·subst e;rw[g2 o]at hv;cases hv
    ·rw[s3n b o e];exact W b o v (D b o v hv),λb es h=>W.m b es h,W.z,λb I=>W.y b I⟩
   have N:StabS S3 w':=⟨λb o v hv=>by
    by_cases e:b=bk
    ·subst e;rw[s3]at hv;cases hv
    ·rw[s3n b o e]at hv;exact h3.c b o v hv,h3.m,h3.y⟩
   have O:Rep S3 v r:=h2.flatS (λb=>b=bk) (λb o x V hk=>by rw[s3n b o hk];exact V) (λb o x q hk V hq E=>by
    subst hk;rw[(h5 b xf).1 o,X]at V;obtain⟨ho,rfl⟩:=List.getElem?_eq_some_iff.1 V;have:=hu o (by omega);rw[getD_lt (by omega)]at this;generalize us[o]=y at this E;generalize (L.getD o (0,[])).2=z at this;obtain⟨a,n,c,rfl⟩:∃a n c,y= .slice a n c:=by
     cases this with
     |sl0 a cap=>exact⟨_,_,_,rfl⟩
     |sl=>exact⟨_,_,_,rfl⟩
    cases q<;>first|(simp[PV.leaf]at hq;done)|cases E) xg
   have xb:=p.grow F T N h6.block h6.size;exact hn v w' S3 M (xb.put hd (.clean O) (λi K=>absurd K (O.clean_ids i))) ⟨F,λb I=>T b (p.hB b I),(Kt h6).mono p.hB⟩
  ·cases G
 |_=>simp at G
def X8 (b:Sim B S M s a w) {o:Oper} {v:PV} {m':Hp} (hd:∀x,o.dst=Hs x->x<s.n) (h:XY P o s.eval s.m v m'):Done P B S s a w o v m':=by
 rcases h with ⟨i,rfl,rfl⟩|⟨c,g,args,d,e,⟨j,hp⟩|hp,rfl⟩;exact ZmS b hd i;exact Zk5 b hd d e j hp;exact Zly b hd d e hp
end
open Go.RowKit
def gdOf (want:Bool):PV->Option Bool
 | .bool b=>Hs (b==want)
 | .tup _=>Hs Hf
 |_=>Hn
def gd (ops:Array Oper) (s:St) (o:Oper):Option Bool:=
 match o.guard with
 |none=>Hs Ht
 |some (j,want)=>match(ops[j]?).bind (·.dst)with
  |some d=>if d<s.n then gdOf want (s.fr d)else Hn
  |none=>Hs Hf
def Gk (n:Nat):Option Nat->Prop
 |some d=>d<n
 |none=>True
def Ze4 (P:Program) (ops:Array Oper) (K:St->Prop):List Oper->St->Prop
 | [],s=>K s
 |o::rest,s=>Gk s.n o.dst/\((gd ops s o=Hs Ht/\ ∃v m',XY P o s.eval s.m v m'/\Ze4 P ops K rest ((s.with m').put o.dst v))\/(gd ops s o=Hs Hf/\Ze4 P ops K rest (s.put o.dst (.tup []))))
def awp (P:Program) (c:Code) (Q:Exit->St->Prop) (s:St):Prop:=
 ∀B S M a w,Sim B S M s a w->c.wp P (λe b w'=>∃s' S' M',Q e s'/\Sim B S' M' s' b w'/\Ext B S S' w w') a w
section
variable {P:Program} {B:Frm} {S:Stable} {M:Maps} {s:St} {a:Act} {w:World} {Q Q':Exit->St->Prop}
def YD {n:Nat} {d:Option Nat} (h:Gk n d):∀x,d=Hs x->x<n:=λx e=>by subst e;exact h
def asB:Value->Option Bool
 | .bool b=>Hs b
 |_=>Hn
def RepS.gdOf {q:Rows} {v:Value} {p:PV} {want c:Bool} (r:RepS S M q v p) (h:PL.gdOf want p=Hs c):(asB v==Hs want)=c:=by
 cases p<;>simp[PL.gdOf]at h
 rw[r.bool_inv];simpa[asB]using h;obtain⟨vs,rfl,_⟩:=r.tup_inv;simpa[asB]using h
theorem Te (i:Sim B S M s a w) {ops:Array Oper} {o:Oper} {b:Bool} (h:gd ops s o=Hs b):KO o (yielded ops a.tmps)=b:=by
 unfold gd at h;unfold KO;cases k:o.guard with
 |none=>rw[k]at h;simpa using h
 |some jw=>
  obtain⟨j,want⟩:=jw;rw[k]at h;simp only at h ⊢;unfold yielded;cases hd:(ops[j]?).bind (·.dst)with
  |none=>rw[hd]at h;simpa using h
  |some d=>
   rw[hd]at h;simp only at h;split at h
   ·rename_i c;have e:d<a.tmps.size:=by rw[i.hn];exact c
    have p:=i.fr d;have n:a.tmps[d]? = Hs (a.tmps.getD d undef):=by
     rw[JS,Array.getElem?_eq_getElem e];rfl
    have l:=p.gdOf h;simp only[Option.bind_some,n];rw[<-l];cases a.tmps.getD d undef<;>rfl
   ·cases h
def Tp (c:Sim B S M s a w) {d:Option Nat} (hd:Gk s.n d):Sim B S M (s.put d (.tup [])) (a.put d undef) w:=
 c.put (YD hd) (.clean (.tup [] [] rfl (λi b=>by simp at b))) (by simp[Jb,Jp])
def YY {c:Code} (h:∀e s,Q e s->Q' e s) (b:awp P c Q s):awp P c Q' s:=λB S M a w d=>
 wp_mono (b B S M a w d) λe i w' ⟨s',S',M',h1,h2,h3⟩=>⟨s',S',M',h _ _ h1,h2,h3⟩
def F6 (h:Q .normal s):awp P .skip Q s:=λB S M a w b=>wp_skip ⟨s,S,M,h,b,JO _ _ _⟩
def Zfz {l:Nat} (h:Q .normal s):awp P (.label l) Q s:=λB S M a w b=>wp_label ⟨s,S,M,h,b,JO _ _ _⟩
def ZqJ {id:Nat} (h:Q (.exit id) s):awp P (.exit id) Q s:=λB S M a w b=>wp_exit ⟨s,S,M,h,b,JO _ _ _⟩
def ZqK {l:Nat} (h:Q (.goto l) s):awp P (.goto l) Q s:=λB S M a w b=>wp_goto ⟨s,S,M,h,b,JO _ _ _⟩
def Ztw (h:Q .ret s):awp P .ret Q s:=λB S M a w b=>wp_ret ⟨s,S,M,h,b,JO _ _ _⟩
def Xq (K:St->Prop) (Q:Exit->St->Prop):Exit->St->Prop
 | .normal,s=>K s
 |e,s=>Q e s
theorem ZaH {x y:Code} (h:awp P x (Xq (awp P y Q) Q) s):awp P (.seq x y) Q s:=λB S M a w n=>by
 refine wp_seq (wp_mono (h B S M a w n) λe z w' u=> ?_);obtain⟨s',S',M',k,j,l⟩:=u;cases e with
 |normal=>
  refine wp_mono (k B S' M' z w' j) λe t p d=> ?_
  obtain⟨i,c,b,v,C,A⟩:=d;exact⟨i,c,b,v,C,l.trans A⟩
 |_=>exact⟨s',S',M',k,j,l⟩
def ZqH {c:Operand} {x y:Code} {b:Bool} (i:s.eval c= .bool b) (h:awp P (if b then x else y) Q s):awp P (.cond c x y) Q s:=λB S M a w e=>by
 have d:=e.eval c;rw[i]at d;exact wp_cond d.bool_inv (h B S M a w e)
def Ty (id:Nat) (Q:Exit->St->Prop):Exit->St->Prop
 | .exit j,s=>if j=id then Q .normal s else Q (.exit j) s
 |e,s=>Q e s
theorem Zm6 {id:Nat} {c:Code} (h:awp P c (Ty id Q) s):awp P (.block id c) Q s:=λB S M a w l=>by
 refine wp_block (wp_mono (h B S M a w l) λe p w' n=> ?_);obtain⟨s',S',M',b,d,i⟩:=n;cases e with
 |exit j=>
  simp only[Exit.inBlock,Ty]at b ⊢;split at b
  ·rename_i k;simp only[k,if_true];exact⟨s',S',M',b,d,i⟩
  ·rename_i k;simp only[k,if_false];exact⟨s',S',M',b,d,i⟩
 |_=>exact⟨s',S',M',b,d,i⟩
end
open Go.RowKit
def Yq {α:Type} (L:List (Nat×α)) (f:Nat->α):Nat->α:=L.foldr (λx g=>upd g x.1 x.2) f
def Zgg (b:List Nat) (f:Nat->PV):Nat->PV:=λi=>if b.contains i then .any else f i
structure Weak (s' s:St):Prop where
 n:s'.n=s.n
 fr:∀i,s'.fr i= .any\/s'.fr i=s.fr i
 h:∀i,s'.m.h i=Hn\/(s'.m.h i=s.m.h i/\s'.m.z i=s.m.z i)
 q:∀i,s'.m.q i=Hn\/s'.m.q i=s.m.q i
 o:∀i,s'.m.o i=Hn\/s'.m.o i=s.m.o i
 it:∀i,s'.m.it i=Hn\/s'.m.it i=s.m.it i
 om:∀i,s'.m.om i=Hn\/s'.m.om i=s.m.om i
 v:∀i,s'.m.v i=Hn\/(s'.m.v i=s.m.v i/\s'.m.q i=s.m.q i)
 ph:∀i,s'.m.ph i=Hn\/(s'.m.ph i=s.m.ph i/\s'.m.h i=s.m.h i)
 pq:∀i,s'.m.pq i=Hn\/(s'.m.pq i=s.m.pq i/\s'.m.q i=s.m.q i)
structure Refs (s:St):Prop where
 fr:∀i r,r∈(s.fr i).ids->ZI s.m r
 h:∀i cs,s.m.h i=Hs cs-> ∀c∈cs,∀r∈c.ids,ZI s.m r
 v:∀i es,s.m.v i=Hs es-> ∀p∈es,∀r∈p.ids,ZI s.m r
 om:∀b c,s.m.om b=Hs c-> ∀p∈c.vs,∀r∈p.ids,ZI s.m r
section
variable {P:Program} {B:Frm} {S:Stable} {M:Maps} {s s':St} {a:Act} {w:World} {Q Q':Exit->St->Prop}
theorem Sim.refs (d:Sim B S M s a w):Refs s:=by
 refine⟨d.ids,λi cs u c l r p=> ?_,λi es h=>(by obtain⟨_,_,_,_,t,_⟩:=d.vc i es h;exact t),λb c h=>(d.rm b c h).2.2.2.2⟩;have e:=d.blk i cs u;cases k:s.m.z i with
 |false=>rw[k]at e;exact e.2.2.2 c l r p
 |true=>
  rw[k]at e;obtain⟨vals,hv⟩:=e;obtain⟨j,n,rfl⟩:=Jg l;have:=(hv j n).2;rw[getD_lt n]at this;exact absurd p (this.clean_ids r)
theorem Sim.weak (u:Sim B S M s a w) (z:Weak s' s) (G:Refs s'):Sim B S M s' a w:=by
 have rep:∀ {v p},RepS S M s.m.q v p->(∀r∈p.ids,ZI s'.m r)->RepS S M s'.m.q v p:=λr _=>
  r.heap (JH _) (λ_ _=>rfl) (λi l=>by
   rcases z.q i with h|h
   ·rw[h];exact .none
   ·exact .of_eq h rfl rfl)
 have U:∀ {i cs},s'.m.h i=Hs cs->s.m.h i=Hs cs/\s'.m.z i=s.m.z i:=λ{i cs} l=>by
  rcases z.h i with h|⟨h,V⟩;rw[h]at l;cases l;exact⟨by rw[<-h];exact l,V⟩
 have T:∀ {i r},s'.m.q i=Hs r->s.m.q i=Hs r:=λ{i r} l=>by
  rcases z.q i with h|h;rw[h]at l;cases l;rw[<-h];exact l
 refine⟨u.defers,by rw[u.hn,z.n],u.hB,⟨u.stable.s,λb c C=>u.stable.o b c ?_,λb x hx=>u.stable.i b x ?_⟩,λi=> ?_,G.fr,λi cs l=> ?_,λi r l=>u.row i r (T l),?_,?_,?_,λb c C=> ?_,λi es K=> ?_,⟨λi b y=> ?_,λi n k b y=> ?_⟩,u.hz⟩;rcases z.o b with h|h;rw[h]at C;cases C;rw[<-h];exact C;rcases z.it b with h|h;rw[h]at hx;cases hx;rw[<-h];exact hx;rcases z.fr i with h|h;rw[h];exact .clean (.any _);rw[h];exact rep (u.fr i) (by rw[<-h];exact G.fr i);obtain⟨L,V⟩:=U l;have y:=u.blk i cs L;rw[V];cases R:s.m.z i with
 |false=>
  rw[R]at y;obtain⟨Y,g2,⟨us,t',g3,g4,g5⟩,g6⟩:=y;exact⟨Y,g2,⟨us,t',g3,g4,λk hk=>rep (g5 k hk) (λr A=>G.h i cs l _ (Zc hk) r A)⟩,G.h i cs l⟩
 |true=>rw[R]at y;exact y
 intro i j cs cs' l D zi zj E;obtain⟨L,N⟩:=U l;obtain⟨I,Z⟩:=U D;exact u.inj i j _ _ L I (by rw[<-N];exact zi) (by rw[<-Z];exact zj) E;intro i j r1 r2 l D oi W ki X E;exact u.injq i j _ _ (T l) (T D) oi W ki X E;intro i j cs r1 l zi D W X;obtain⟨L,N⟩:=U l;exact u.injx i j _ _ L (by rw[<-N];exact zi) (T D) W X;have xa:s.m.om b=Hs c:=by
  rcases z.om b with h|h;rw[h]at C;cases C;rw[<-h];exact C
 obtain⟨Y,g2,g3,⟨es,N,Z,e3,e4,e5,e6⟩,_⟩:=u.rm b c xa;have O:=G.om b c C;refine⟨Y,g2,?_,⟨es,N,Z,e3,e4,e5,λi l=>rep (e6 i l) λr A=>O (c.vs.getD i .any) (Zc (by omega)) r A⟩,O⟩;rcases z.o b with h|h;exact h;rw[h];exact g3;rcases z.v i with h|⟨h,xc⟩;rw[h]at K;cases K;rw[h]at K;obtain⟨sz,e,q1,k1,k2,k3⟩:=u.vc i es K;have J:=G.v i es (by rw[h];exact K);refine⟨sz,e,by rw[xc];exact q1,k1,J,λc C vs t f xb i' j F D=>rep (k3 c C vs t f xb i' j F D) λr A=>J (es.getD i' .any) (Zc F) r ?_⟩;have xd:=(k1 _ (Zc (d:= .any) F)).1;exact Yv (Zc (by omega)) A;rcases z.ph i with h|⟨h,I⟩;rw[h]at y;cases y;rw[h]at y;rw[I];exact u.pn.h i b y;rcases z.pq i with h|⟨h,I⟩;rw[h]at y;cases y;rw[h]at y;rw[I];exact u.pn.q i n k b y
def F7 {c:Code} (d:Weak s' s) (e:Refs s->Refs s') (h:awp P c Q s'):awp P c Q s:=λB S M a w b=>h B S M a w (b.weak d (e b.refs))
theorem TG {c:Code} {ι:Type} (I:ι->St) (μ:ι->Nat) (h:ι) (D:Weak (I h) s) (E:Refs s-> ∀i,Refs (I i))
  (round:∀i,awp P c (Xq (λs'=>∃j,μ j<μ i/\Weak (I j) s') Q) (I i)):awp P (.loop c) Q s:=λB S M a w y=>by
 have b:=E y.refs;have key:∀(k:Nat) (i:ι),μ i<k-> ∀S1 M1 l w1,Sim B S1 M1 (I i) l w1->Ext B S S1 w w1->
   Code.rounds P c (λe t w'=>∃s' S' M',Q e s'/\Sim B S' M' s' t w'/\Ext B S S' w w') k l w1:=by
  intro k
  induction k with
  |zero=>intro i C;omega
  |succ k ih=>
   intro i C S1 M1 l w1 n d;rw[rounds_succ];refine wp_mono (round i B S1 M1 l w1 n) λe t w' A=> ?_
   obtain⟨s',S',M',v,u,z⟩:=A;cases e with
   |normal=>
    obtain⟨j,F,p⟩:=v;exact ih j (by omega) S' M' t w' (u.weak p (b j)) (d.trans z)
   |_=>exact⟨s',S',M',v,u,d.trans z⟩
 exact wp_loop_rounds (μ h+1) (key _ h (Nat.lt_succ_self _) S M a w (y.weak D (b h)) (JO _ _ _))
def FrEq (X:List Nat) (f g:Nat->PV):Prop:=∀i,X.contains i=Hf->f i=g i
def FrEq.refl (X:List Nat) (f:Nat->PV):FrEq X f f:=λ_ _=>rfl
def FrEq.upd {X:List Nat} {f g:Nat->PV} {d:Nat} {v:PV} (hd:X.contains d=Ht) (h:FrEq X f g):FrEq X (upd f d v) g:=λi b=>by
 by_cases e:d=i;subst e;rw[hd]at b;cases b;rw[Zb _ _ e];exact h i b
def HWeak {α:Type} (f g:Nat->Option α):Prop:=∀i,f i=Hn\/f i=g i
def HWeak.refl {α:Type} (f:Nat->Option α):HWeak f f:=λ_=> .inr rfl
def HWeak.upd {α:Type} {f g:Nat->Option α} {d:Nat} {v:Option α} (hd:f d=Hn\/f d=v) (h:HWeak f g):HWeak f (PL.upd g d v):=λi=>by
 by_cases e:d=i;subst e;rw[Za];exact hd;rw[Zb _ _ e];exact h i
theorem WC {α:Type} {L:List (Nat×α)} {f:Nat->α} {i:Nat} (h:(L.map (·.1)).contains i=Hf):Yq L f i=f i:=by
 induction L with
 |nil=>rfl
 |cons x L ih=>
  simp only[JX,Ky,Kr,beq_eq_false_iff_ne]at h;show upd (Yq L f) x.1 x.2 i=f i;rw[Zb _ _ (Jz h.1)];exact ih h.2
theorem Yh {α:Type} {L:List (Nat×α)} {f:Nat->α} {i:Nat} {R:Nat->α->Prop} (b:∀x∈L,R x.1 x.2) (h:(L.map (·.1)).contains i=Ht):R i (Yq L f i):=by
 induction L with
 |nil=>simp at h
 |cons x L ih=>
  show R i (upd (Yq L f) x.1 x.2 i);by_cases e:x.1=i;subst e;rw[Za];exact b x (by simp);rw[Zb _ _ e];refine ih (λy c=>b y (by simp[c])) ?_;simp only[JX,Ky,Kn,beq_iff_eq]at h;exact h.resolve_left (Jz e)
def St.inv (s:St) (b:List Nat) (L:List (Nat×PV)) (H:List (Nat×List PV)) (R:List (Nat×Row)):St:=
 { fr:=Yq L (Zgg b s.fr),m:= { h:=Yq (H.map λx=>(x.1,Hs x.2)) s.m.h,z:=Yq (H.map λx=>(x.1,Hf)) s.m.z,q:=Yq (R.map λx=>(x.1,Hs x.2)) s.m.q,o:=λ_=>Hn,it:=λ_=>Hn,om:=λ_=>Hn,v:=λ_=>Hn,ph:=λ_=>Hn,pq:=λ_=>Hn,vm:=λ_=>Hf },n:=s.n }
structure Meets (s:St) (ws:List Nat) (L:List (Nat×PV)) (H:List (Nat×List PV)) (R:List (Nat×Row)) (s':St):Prop where
 n:s'.n=s.n
 fr:∀x∈L,s'.fr x.1=x.2
 rest:FrEq (ws++L.map (·.1)) s'.fr s.fr
 h:∀x∈H,s'.m.h x.1=Hs x.2/\s'.m.z x.1=Hf
 q:∀x∈R,s'.m.q x.1=Hs x.2
 hrest:∀i,(H.map (·.1)).contains i=Hf->s.m.h i=Hn\/(s.m.h i=s'.m.h i/\s.m.z i=s'.m.z i)
 qrest:∀i,(R.map (·.1)).contains i=Hf->s.m.q i=Hn\/s.m.q i=s'.m.q i
def Zp1 {α β:Type} (L:List (Nat×α)) (f:α->β):(L.map λx=>(x.1,f x.2)).map (·.1)=L.map (·.1):=by simp
def Zyb (s:St) (L:List (Nat×PV)) (H:List (Nat×List PV)) (R:List (Nat×Row)):Prop:=
 (∀x∈L,∀r∈x.2.ids,ZI (s.inv [] L H R).m r)/\ ∀x∈H,∀c∈x.2,∀r∈c.ids,ZI (s.inv [] L H R).m r
theorem Refs.inv {n:List Nat} {L:List (Nat×PV)} {H:List (Nat×List PV)} {R:List (Nat×Row)} (h:Refs s) (C:Zyb s L H R):Refs (s.inv n L H R):=by
 have A:∀r,ZI s.m r->ZI (s.inv n L H R).m r:=λr k=>by
  cases r with
  |b i=>
   show Yq (H.map λx=>(x.1,Hs x.2)) s.m.h i≠Hn;by_cases d:(H.map (·.1)).contains i=Ht;exact Yh (R:=λi v=>v≠Hn) (λx l=>by obtain⟨y,u,rfl⟩:=Je.1 l;simp) (by rw[Zp1 H Hs];exact d);rw[WC (by rw[Zp1 H Hs];simpa using d)];exact k
  |r i=>
   show Yq (R.map λx=>(x.1,Hs x.2)) s.m.q i≠Hn;by_cases d:(R.map (·.1)).contains i=Ht;exact Yh (R:=λi v=>v≠Hn) (λx l=>by obtain⟨y,u,rfl⟩:=Je.1 l;simp) (by rw[Zp1 R Hs];exact d);rw[WC (by rw[Zp1 R Hs];simpa using d)];exact k
 refine⟨λi r k=> ?_,λi cs d c t r k=> ?_,λi es d=>(by cases d),λb c t=>(by cases t)⟩;by_cases d:(L.map (·.1)).contains i=Ht;exact Yh (R:=λi v=>∀r∈v.ids,ZI (s.inv n L H R).m r) (λx l=>C.1 x l) d r k;have j:(L.map (·.1)).contains i=false:=by simpa using d
 have e:r∈(Yq L (Zgg n s.fr) i).ids:=k;rw[WC j]at e;unfold Zgg at e;split at e;simp[Jb]at e;exact A r (h.fr i r e);by_cases j:(H.map (·.1)).contains i=Ht;have D:=Yh (R:=λi v=>∀cs,v=Hs cs-> ∀c∈cs,∀r∈c.ids,ZI (s.inv n L H R).m r) (f:=s.m.h) (L:=H.map λx=>(x.1,Hs x.2)) (i:=i)
  (λx l cs z=>by obtain⟨y,u,rfl⟩:=Je.1 l;cases z;exact C.2 y u) (by rw[Zp1 H Hs];exact j)
 exact D cs d c t r k;have p:Yq (H.map λx=>(x.1,Hs x.2)) s.m.h i=Hs cs:=d;rw[WC (by rw[Zp1 H Hs];simpa using j)]at p;exact A r (h.h i cs p c t r k)
def YJ {c:Code} (i d sz:Nat) (e:TypeId) (u:s.fr i= .sl .nil []) (hd:s.m.q d=Hn) (h:awp P c Q ({ s with fr:=upd s.fr i (.sl (.row d) []) }.with (s.m.setq d (.live 0 sz e)))):awp P c Q s:=λB S M a w l=>by
 have b:=l.nilRow (sz:=sz) (e:=e) hd;have hv:a.tmps.getD i undef= .slice Hn 0 0:=by
  have:=l.fr i;rw[u]at this;exact this.slnil_inv
 refine h B S _ a w ⟨b.defers,b.hn,b.hB,b.stable,λk=> ?_,λk r v=> ?_,b.blk,b.row,b.inj,b.injq,b.injx,b.rm,b.vc,⟨b.pn.h,b.pn.q⟩,b.hz⟩;show RepS _ _ _ _ (upd s.fr i (.sl (.row d) []) k);by_cases e:i=k;subst e;rw[Za,hv];refine .row d _ [] (.sl0 Hn 0) λn' t y n=> ?_
 simp only[St.with,Hp.setq,Za]at n;cases n;exact⟨JF _,λ_=>⟨λ_=>rfl,λc p=>by simp[Za]at p⟩⟩;rw[Zb _ _ e];exact b.fr k;have j:r∈(upd s.fr i (.sl (.row d) []) k).ids:=v;by_cases e:i=k;subst e;rw[Za]at j;simp only[Jb,Jo]at j;subst j;simp[ZI,St.with,Hp.setq,Za];rw[Zb _ _ e]at j;exact b.ids k r j
end
end Go.PL
namespace Go.PL
open Go.RowKit
def VY:Nat->List PV->Nat->PV
 |_,[]=>λ_=> .tup []
 |k,p::ps=>upd (VY (k+1) ps) k p
def St.init (args:List PV) (n:Nat):St:=⟨VY 0 args,Hp.empty,n⟩
def FH (P:Program) (s:St):ResultVar->ARes
 | .tmp t=>⟨True,s.fr t,s.m⟩
 | .cell t ty=>if tkn P ty then VO P ty (s.fr t) s.m else .fail
def Zcb:List ARes->Prop
 | []=>True
 |r::rs=>r.ok/\Zcb rs
def Zp2:List PV->PV
 | [p]=>p
 |ps=> .tup ps
def Zs4 (P:Program) (fn:Func) (r:PV) (s:St):Prop:=
 Zcb (fn.results.toList.map (FH P s))/\(Zp2 (fn.results.toList.map λx=>(FH P s x).v)).givable s.m/\r=(Zp2 (fn.results.toList.map λx=>(FH P s x).v)).give s.m
def ZzF (P:Program) (fn:Func) (r:PV):Exit->St->Prop
 | .normal,s=>Zs4 P fn r s
 | .ret,s=>Zs4 P fn r s
 |_,_=>False
section
variable {P:Program} {B:Frm} {S:Stable} {M:Maps} {s:St} {a:Act} {w:World}
theorem VZ:∀(args:List PV) (k i:Nat),k<=i->VY k args i=args.getD (i-k) (.tup [])
 | [],k,i,_=>by simp[VY]
 |p::ps,k,i,h=>by
  unfold VY;by_cases e:k=i;subst e;rw[Za];simp;rw[Zb _ _ e,VZ ps (k+1) i (by omega)];have:i-k=(i-(k+1))+1:=by omega
  rw[this];simp
def ZgP (tmps:Array Value):ResultVar->Sem Value
 | .tmp t=>Pure.pure (tmps.getD t undef)
 | .cell b t=>do loadVar t (<-asAddr (tmps.getD b undef))
theorem ZoV (p:Sim B S M s a w) (x:ResultVar) (c:(FH P s x).ok):∃v,(ZgP a.tmps x).run P w= .ok v w/\RepS S M s.m.q v (FH P s x).v:=by
 cases x with
 |tmp t=>exact⟨_,rfl,p.fr t⟩
 |cell t ty=>
  unfold FH at c ⊢;simp only at c ⊢;split at c;rename_i u;rw[if_pos u];have d:=p.fr t;have hp:∃y,a.tmps.getD t undef= .pointer (Hs y):=by
   unfold VO at c;split at c;rename_i cs k;rw[k]at d;obtain⟨b,o,vals,e,_⟩:=d.rptr_inv;exact⟨_,e⟩;rename_i id off k;rw[k]at d;exact⟨_,d.ptr_inv⟩;rename_i id n sz i off k;rw[k]at d;obtain⟨⟨b,o,e⟩,_⟩:=d.vptr_inv;exact⟨_,e⟩;exact c.elim
  obtain⟨y,j⟩:=hp;obtain⟨v,l,z,_⟩:=ZjV p d (by intro h;simp[tkn,h]at u) c;refine⟨v,?_,?_⟩;rw[j]at l;simp only[KU,Instr.sureAddr,Jk,JC,Jc]at l;simp only[ZgP,j,asAddr,Jk,JC,Jc];exact l;exact z;exact c.elim
theorem Vs (z:Sim B S M s a w) {fn:Func} (j:Zcb (fn.results.toList.map (FH P s))):
  ∃v,(results fn a.tmps).run P w= .ok v w/\RepS S M s.m.q v (Zp2 (fn.results.toList.map λx=>(FH P s x).v)):=by
 have key:∀(l:List ResultVar),Zcb (l.map (FH P s))-> ∃vs:List Value,(l.mapM (ZgP a.tmps)).run P w= .ok vs w/\RepL S M s.m.q vs (l.map λx=>(FH P s x).v):=by
  intro l;induction l with
  |nil=>intro _;exact⟨[],by simp,rfl,λi c=>by simp at c⟩
  |cons x l ih=>
   intro h;obtain⟨v,y,C⟩:=ZoV z x h.1;obtain⟨vs,u,E,A⟩:=ih h.2;refine⟨v::vs,?_,by simp[E],λi c=> ?_⟩;rw[List.mapM_cons];simp only[Jk,y,u,Jc,JC];cases i with
   |zero=>exact C
   |succ i=>simpa using A i (by simpa using c)
 obtain⟨vs,t,n⟩:=key fn.results.toList j;have D:(fn.results.mapM (ZgP a.tmps)).run P w= .ok ⟨vs⟩ w:=by
  rw[Array.mapM_eq_mapM_toList];simp only[Sem.run_map,t,Jc]
 have b:(results fn a.tmps).run P w= .ok (if h:(⟨vs⟩:Array Value).size=1 then(⟨vs⟩:Array Value)[0]else .tuple ⟨vs⟩) w:=by
  have e:results fn a.tmps=(do
    let vs <-fn.results.mapM (ZgP a.tmps)
    Pure.pure (if h:vs.size=1 then vs[0]else .tuple vs)):=rfl
  rw[e];simp only[Jk,D,Jc,JC]
 refine⟨_,b,?_⟩;generalize (fn.results.toList.map λx=>(FH P s x).v)=ps at n;obtain⟨k,d⟩:=n;match vs,ps,k,d with
 | [v],[p],_,d=>exact d 0 (by simp)
 | [],[],_,_=>exact .tup [] [] rfl (λi c=>by simp at c)
 |v::v'::vs,p::p'::ps,k,d=>exact .tup _ _ k d
theorem Pure.intro {f:FuncId} {fn:Func} {c:Code} {args:List PV} {r:PV} (F:P.funcs[f]? = Hs fn) (j:fn.name≠ "runtime.NumGoroutine") (u:fn.body=Hs c) (U:args.length<=fn.ntmps) (l:r.dids= [])
  (h:awp P c (ZzF P fn r) (St.init args fn.ntmps)):Pure P f args r:=by
 refine⟨⟨fn,F,j,by rw[u];rfl⟩,l,λw S vs y E W O=> ?_⟩;refine calls_of_wp F u ?_;have K:Sim (λk=>k<w.heap.size) S ⟨id,id,id⟩ (St.init args fn.ntmps) { tmps:=⟨vs⟩++JP (fn.ntmps-vs.length) undef,defers:= [] } w:=by
  have rep:∀i,Rep S (((⟨vs⟩:Array Value)++JP (fn.ntmps-vs.length) undef).getD i undef) (VY 0 args i):=λi=>by
   rw[VZ args 0 i (Nat.zero_le _),Kl];by_cases l:i<args.length;have:=O i l;rw[getD_lt l]at this ⊢;rw[getD_lt (by omega)]at this;have e:((⟨vs⟩:Array Value)++JP (fn.ntmps-vs.length) undef).getD i undef=vs[i]'(by omega):=by
    rw[JS,Array.getElem?_append_left (by simp;omega)];simp[show i<vs.length by omega]
   rw[e];exact this;rw[Vi (by omega)];have e:((⟨vs⟩:Array Value)++JP (fn.ntmps-vs.length) undef).getD i undef=undef:=by
    rw[JS,Array.getElem?_append_right (by simp;omega)];simp only[Array.getElem?_replicate];split<;>rfl
   rw[e];exact .tup [] [] rfl (λi l=>by simp at l)
  refine⟨rfl,?_,λ_ h=>h,⟨y,λb c J=>by simp[St.init,Hp.empty]at J,λb x R=>by simp[St.init,Hp.empty]at R⟩,λi=> .clean (rep i),λi id d=>absurd d ((rep i).clean_ids id),λid cs d=> ?_,λid r d=> ?_,λid n cs cs' d=> ?_,λid n r V d=> ?_,λid n cs r d=> ?_,λb c d=> ?_,λi es d=> ?_,⟨λ_ _ h=>by simp[St.init,Hp.empty]at h,λ_ _ _ _ h=>by simp[St.init,Hp.empty]at h⟩,λb u=>E b (Nat.le_of_not_lt u)⟩;simp[St.init];omega;simp[St.init,Hp.empty]at d;simp[St.init,Hp.empty]at d;simp[St.init,Hp.empty]at d;simp[St.init,Hp.empty]at d;simp[St.init,Hp.empty]at d;simp[St.init,Hp.empty]at d;simp[St.init,Hp.empty]at d
 have I:=h (λk=>k<w.heap.size) S _ _ w K;have A:(⟨vs⟩:Array Value).size=vs.length:=by simp
 rw[A];refine wp_mono I λe G w' L=> ?_
 obtain⟨s',S',M',C,t,D⟩:=L;have p:Zs4 P fn r s'->G.defers= []/\ ∃v,(results fn G.tmps).run P w'= .ok v w'/\ ∃v' S',Ending.returned v= .returned v'/\Rep S' v' r/\StabS S' w'/\SLe S S'/\(∀b,b<w.heap.size->(∀o,S' b o=S b o)/\S'.m b=S.m b)/\Below w.heap.size w w':=by
  rintro ⟨N,T,rfl⟩;obtain⟨v,hv,z⟩:=Vs t N;exact⟨t.defers,v,hv,v,S',rfl,z.give t T,t.stable.s,D.1,D.2.1,D.2.2.to⟩
 cases e with
 |normal=>exact p C
 |ret=>exact p C
 |_=>exact C.elim
end
open Go.RowKit
structure MemL where
 H:List (Nat×List PV)
 R:List (Nat×Row)
 V:List (Nat×List PV)
def MemL.hp (m:MemL):Hp:=
 { h:=Yq (m.H.map λx=>(x.1,Hs x.2)) λ_=>Hn,z:=λ_=>Hf,q:=Yq (m.R.map λx=>(x.1,Hs x.2)) λ_=>Hn,o:=λ_=>Hn,it:=λ_=>Hn,om:=λ_=>Hn,v:=Yq (m.V.map λx=>(x.1,Hs x.2)) λ_=>Hn,ph:=λ_=>Hn,pq:=λ_=>Hn,vm:=λ_=>Hf }
def MemL.has (m:MemL):Ref->Prop
 | .b i=>∃y∈m.H,y.1=i
 | .r i=>∃y∈m.R,y.1=i
structure MemL.Ok (m:MemL):Prop where
 nh:(m.H.map (·.1)).Nodup
 nr:(m.R.map (·.1)).Nodup
 nv:(m.V.map (·.1)).Nodup
 vr:∀x∈m.V,∃y∈m.R,y.1=x.1
 ch:∀x∈m.H,∀c∈x.2,∀i∈c.ids,m.has i
 cv:∀x∈m.V,∀c∈x.2,∀i∈c.ids,m.has i
def ZkX:Act:= { tmps:= #[],defers:= [] }
def Zsb (m:Hp):St:=⟨λ_=> .any,m,0⟩
structure Eff (P:Program) (f:FuncId) (args:List PV) (m0:MemL) (r:PV) (m1:MemL):Prop where
 cal:WS P f
 ok0:m0.Ok
 ok1:m1.Ok
 ca:∀p∈args,∀i∈p.ids,m0.has i
 cr:∀i∈r.ids,m1.has i
 kh:∀i,m0.has i->m1.has i
 run:∀(B:Frm) (S:Stable) (M:Maps) (w:World) (vs:List Value),Sim B S M (Zsb m0.hp) ZkX w->vs.length=args.length->(∀i,i<args.length->RepS S M m0.hp.q (vs.getD i undef) (args.getD i .any))->
  Calls P f ⟨vs⟩ w λen w'=>∃v S' M',en= .returned v/\RepS S' M' m1.hp.q v r/\Sim B S' M' (Zsb m1.hp) ZkX w'/\Ext B S S' w w'/\(∀x∈m0.H,M'.φ x.1=M.φ x.1)/\ ∀x∈m0.R,RowLe M M' x.1 (m0.hp.q x.1) (m1.hp.q x.1)
theorem V7 {α:Type} {L:List (Nat×α)} {f:Nat->Option α} {i:Nat} {y:α} (h:Yq (L.map λx=>(x.1,Hs x.2)) f i=Hs y):(i,y)∈L\/f i=Hs y:=by
 induction L with
 |nil=>exact .inr h
 |cons x L ih=>
  have b:upd (Yq (L.map λx=>(x.1,Hs x.2)) f) x.1 (Hs x.2) i=Hs y:=h;by_cases e:x.1=i;rw[e,Za]at b;cases b;exact .inl (by subst e;simp);rw[Zb _ _ e]at b;exact(ih b).imp (λh=>List.mem_cons_of_mem _ h) id
theorem Vn {α β:Type} {L:List (Nat×α)} {k:Nat->Nat} {F:Nat×α->β} {f:Nat->β} {x:Nat×α} (i:x∈L) (h:(L.map (·.1)).Nodup) (j:∀y∈L,∀z∈L,k y.1=k z.1->y.1=z.1):Yq (L.map λx=>(k x.1,F x)) f (k x.1)=F x:=by
 induction L with
 |nil=>cases i
 |cons y L ih=>
  show upd (Yq (L.map λx=>(k x.1,F x)) f) (k y.1) (F y) (k x.1)=F x;simp only[JX,List.nodup_cons]at h;rcases JN.1 i with rfl|c;rw[Za];have d:y.1≠x.1:=λe=>h.1 (Je.2 ⟨x,c,e.symm⟩)
  rw[Zb _ _ λe=>d (j y (by simp) x (by simp[c]) e)];exact ih c h.2 (λa l b n=>j a (by simp[l]) b (by simp[n]))
theorem DC {α β:Type} {L:List (Nat×α)} {k:Nat->Nat} {F:Nat×α->β} {f:Nat->β} {i:Nat} (h:∀x∈L,k x.1≠i):Yq (L.map λx=>(k x.1,F x)) f i=f i:=by
 induction L with
 |nil=>rfl
 |cons y L ih=>
  show upd (Yq (L.map λx=>(k x.1,F x)) f) (k y.1) (F y) i=f i;rw[Zb _ _ (h y (by simp))];exact ih λx b=>h x (by simp[b])
section
variable {m:MemL}
def MemL.h_mem {i:Nat} {cs:List PV} (h:m.hp.h i=Hs cs):(i,cs)∈m.H:=(V7 h).resolve_right (by simp)
def MemL.q_mem {i:Nat} {r:Row} (h:m.hp.q i=Hs r):(i,r)∈m.R:=(V7 h).resolve_right (by simp)
def MemL.v_mem {i:Nat} {es:List PV} (h:m.hp.v i=Hs es):(i,es)∈m.V:=(V7 h).resolve_right (by simp)
def MemL.Ok.h_at (ok:m.Ok) {x:Nat×List PV} (b:x∈m.H):m.hp.h x.1=Hs x.2:=Vn (k:=λi=>i) (F:=λx=>Hs x.2) b ok.nh (λ_ _ _ _ h=>h)
def MemL.Ok.q_at (ok:m.Ok) {x:Nat×Row} (b:x∈m.R):m.hp.q x.1=Hs x.2:=Vn (k:=λi=>i) (F:=λx=>Hs x.2) b ok.nr (λ_ _ _ _ h=>h)
def MemL.Ok.v_at (ok:m.Ok) {x:Nat×List PV} (b:x∈m.V):m.hp.v x.1=Hs x.2:=Vn (k:=λi=>i) (F:=λx=>Hs x.2) b ok.nv (λ_ _ _ _ h=>h)
theorem MemL.Ok.live (ok:m.Ok) {i:Ref} (h:m.has i):ZI m.hp i:=by
 cases i with
 |b i=>obtain⟨y,c,rfl⟩:=h;show m.hp.h y.1≠Hn;rw[ok.h_at c];simp
 |r i=>obtain⟨y,c,rfl⟩:=h;show m.hp.q y.1≠Hn;rw[ok.q_at c];simp
theorem MemL.has_of {i:Ref} (h:ZI m.hp i):m.has i:=by
 cases i with
 |b i=>cases e:m.hp.h i with
  |none=>exact absurd e h
  |some cs=>exact⟨_,MemL.h_mem e,rfl⟩
 |r i=>cases e:m.hp.q i with
  |none=>exact absurd e h
  |some cs=>exact⟨_,MemL.q_mem e,rfl⟩
end
def Zbg (m1:MemL) (f g:Nat->Nat) (m:Hp):Hp:=
 { m with h:=Yq (m1.H.map λx=>(g x.1,Hs (x.2.map (PV.ren f g)))) m.h,z:=Yq (m1.H.map λx=>(g x.1,Hf)) m.z,q:=Yq (m1.R.map λx=>(f x.1,Hs x.2)) m.q,v:=Yq (m1.R.map λx=>(f x.1,(m1.hp.v x.1).map (KM (PV.ren f g)))) m.v }
structure FitsM (m0 m1:MemL) (f g:Nat->Nat) (m:Hp):Prop where
 h:∀x∈m0.H,m.h (g x.1)=Hs (x.2.map (PV.ren f g))/\m.z (g x.1)=Hf
 q:∀x∈m0.R,m.q (f x.1)=Hs x.2
 v:∀x∈m0.V,m.v (f x.1)=Hs (x.2.map (PV.ren f g))
 nh:∀x∈m1.H,(∃y∈m0.H,y.1=x.1)\/m.h (g x.1)=Hn
 nr:∀x∈m1.R,(∃y∈m0.R,y.1=x.1)\/m.q (f x.1)=Hn
 ig:∀x∈m1.H,∀y∈m1.H,g x.1=g y.1->x.1=y.1
 jf:∀x∈m1.R,∀y∈m1.R,f x.1=f y.1->x.1=y.1
section
variable {P:Program} {B:Frm} {S:Stable} {M:Maps} {s:St} {a:Act} {w:World} {fn:FuncId} {args:List PV} {m0 m1:MemL} {r:PV} {f g:Nat->Nat}
def ZqY (B:Frm) (M:Maps) (m:Hp) (m0:MemL) (f g:Nat->Nat):Frm:=λk=>
 B k\/(∃id cs,m.h id=Hs cs/\m.z id=Hf/\(∀x∈m0.H,g x.1≠id)/\M.φ id=k)\/(∃id r,m.q id=Hs r/\r.own=Ht/\0<M.κ id/\(∀x∈m0.R,f x.1≠id)/\M.ψ id=k)\/(∃c,m.o k=Hs c)\/(∃x,m.it k=Hs x)\/ ∃c,m.om k=Hs c
theorem Sim.small (A:Sim B S M s a w) (ok:m0.Ok) (U:FitsM m0 m1 f g s.m) (ig:∀x∈m0.H,∀y∈m0.H,g x.1=g y.1->x.1=y.1) (jf:∀x∈m0.R,∀y∈m0.R,f x.1=f y.1->x.1=y.1):
  Sim (ZqY B M s.m m0 f g) S ⟨λi=>M.φ (g i),λi=>M.ψ (f i),λi=>M.κ (f i)⟩ (Zsb m0.hp) ZkX w:=by
 have hq:∀ {i r},m0.hp.q i=Hs r->s.m.q (f i)=Hs r:=λh=>U.q _ (MemL.q_mem h)
 have un:∀ {v p},RepS S M s.m.q v (p.ren f g)->(∀i∈p.ids,m0.has i)->RepS S ⟨λi=>M.φ (g i),λi=>M.ψ (f i),λi=>M.κ (f i)⟩ m0.hp.q v p:=λrr xc=>
  rr.unren _ rfl (λi _=>rfl) λi N=>⟨by obtain⟨y,hy,rfl⟩:=xc _ N;rw[U.q y hy,ok.q_at hy],rfl,rfl⟩
 have cell_nomap:∀ {k vs t fz},w.heap[k]? = Hs (.cells vs t fz)-> ¬((∃c,s.m.o k=Hs c)\/(∃x,s.m.it k=Hs x)\/ ∃c,s.m.om k=Hs c):=λ{k vs t fz} h0 h=>by
  rcases h with ⟨c,u⟩|⟨x,z⟩|⟨c,u⟩;obtain⟨_,_,es,F,_⟩:=A.stable.o k c u;rw[h0]at F;cases F;have F:=(A.stable.i k x z).2.1;unfold IterAt at F;rw[h0]at F;cases F;obtain⟨_,_,_,⟨es,F,_⟩,_⟩:=A.rm k c u;rw[h0]at F;cases F
 have nb:∀ {id cs},m0.hp.h id=Hs cs-> ¬ZqY B M s.m m0 f g (M.φ (g id)):=λ{id cs} h E=>by
  have z:=MemL.h_mem h;obtain⟨D,R⟩:=U.h _ z;obtain⟨G,O,⟨vs,t,g3,_⟩,_⟩:=A.own D R;rcases E with E|⟨d,cs',L,K,V,T⟩|⟨d,r',L,K,V,T,e5⟩|E;exact G E;exact A.inj d (g id) _ _ L D K R (λe=>V _ z e.symm) T;exact A.injx (g id) d _ _ D R L K V e5.symm;exact cell_nomap g3 E
 have nr:∀ {id r},m0.hp.q id=Hs r->r.own=Ht->0<M.κ (f id)-> ¬ZqY B M s.m m0 f g (M.ψ (f id)):=λ{id r} h ho hk E=>by
  have z:=MemL.q_mem h;have D:=hq h;have C:=A.row _ _ D;obtain⟨c,u⟩:∃c,M.κ (f id)=c+1:=⟨M.κ (f id)-1,by omega⟩;have xa:∃vs e,w.heap[M.ψ (f id)]? = Hs (.cells ⟨vs⟩ e (0,0))/\ ¬B (M.ψ (f id)):=by
   cases r with
   |dead=>cases ho
   |live n sz e=>obtain⟨_,I⟩:=C;obtain⟨_,_,G,⟨vs,O,_⟩,_⟩:=I c u;exact⟨vs,e,O,G⟩
   |vec n sz e=>obtain⟨_,I⟩:=C;obtain⟨_,_,G,⟨vs,O,_⟩,_⟩:=I c u;exact⟨vs,e,O,G⟩
  obtain⟨vs,e,g3,G⟩:=xa;rcases E with E|⟨d,cs',L,K,V,T⟩|⟨d,r',L,K,V,T,e5⟩|E;exact G E;exact A.injx d (f id) _ _ L K D ho hk T;exact A.injq d (f id) _ _ L D K ho V hk (λe=>T _ z e.symm) e5;exact cell_nomap g3 E
 refine⟨rfl,rfl,λk E=> ?_,⟨A.stable.s,λb c u=>(by cases u),λb x z=>(by cases z)⟩,λi=> .clean (.any _),λi id h=>(by simp[Zsb,Jb]at h),λid cs h=> ?_,λid r h=> ?_,λid d cs cs' h h' _ _ Z=> ?_,λid d r r' h h' o o' k k' Z=> ?_,λid d cs r h _ h' o k=> ?_,λb c u=>(by cases u),λid es h=> ?_,⟨λ_ _ h=>(by cases h),λ_ _ _ _ h=>(by cases h)⟩,λk hk=>A.hz k λh=>hk (.inl h)⟩;rcases E with E|⟨d,cs',L,K,V,T⟩|⟨d,r',L,K,V,T,e5⟩|⟨c,u⟩|⟨x,z⟩|⟨c,u⟩;exact A.hB k E;rw[<-T];exact A.blk_lt L K;rw[<-e5];exact A.row_lt L K V;exact(A.stable.o k c u).2.2.lt;exact(A.stable.i k x z).2.1.lt;exact(A.rm k c u).2.2.2.lt;have z:=MemL.h_mem h;obtain⟨D,R⟩:=U.h _ z;obtain⟨G,O,⟨vs,t,g3,g4,g5⟩,g6⟩:=A.own D R;have J:∀c∈cs,∀i∈c.ids,m0.has i:=ok.ch _ z;refine⟨nb h,O,⟨vs,t,g3,by simpa using g4,λj hj=>un ?_ (J _ (Zc hj))⟩,λc u i N=>ok.live (J c u i N)⟩;have:=g5 j (by simpa using hj);rw[getD_lt (l:=cs.map _) (by simpa using hj),Jl]at this;rw[getD_lt hj];exact this;have D:=hq h;have C:=A.row _ _ D;cases r with
 |dead=>trivial
 |live n sz e=>
  obtain⟨F,I⟩:=C;refine⟨F,λc u=> ?_⟩;obtain⟨G,O,g3,g4,g5⟩:=I c u;exact⟨G,O,nr h rfl (by show 0<M.κ (f id);have:M.κ (f id)=c+1:=u;omega),g4,g5⟩
 |vec n sz e=>
  obtain⟨F,I⟩:=C;refine⟨F,λc u=> ?_⟩;obtain⟨G,O,g3,g4,g5⟩:=I c u;exact⟨G,O,nr h rfl (by show 0<M.κ (f id);have:M.κ (f id)=c+1:=u;omega),g4,g5⟩
 have z:=MemL.h_mem h;have W:=MemL.h_mem h';obtain⟨D,R⟩:=U.h _ z;obtain⟨k3,k4⟩:=U.h _ W;exact A.inj _ _ _ _ D k3 R k4 λe=>Z (ig _ z _ W e)
 have z:=MemL.q_mem h;have W:=MemL.q_mem h';exact A.injq _ _ _ _ (hq h) (hq h') o o' k k' λe=>Z (jf _ z _ W e)
 obtain⟨D,R⟩:=U.h _ (MemL.h_mem h);exact A.injx _ _ _ _ D R (hq h') o k;have z:=MemL.v_mem h;obtain⟨sz,e,q1,r1,r2,r4⟩:=A.vc _ _ (U.v _ z);obtain⟨y,hy,xe⟩:=ok.vr _ z;have X:y.1=id:=xe;have xd:=U.q y hy;rw[X]at xd;rw[xd,Jh]at q1;have xf:y.2= .vec es.length sz e:=by simpa using q1
 have J:∀c∈es,∀i∈c.ids,m0.has i:=ok.cv _ z;refine⟨sz,e,?_,λp hp=> ?_,λp hp i N=>ok.live (J p hp i N),λc u vs t fz xg i j N hj=> ?_⟩;have:=ok.q_at hy;rw[X,xf]at this;exact this;have:=r1 (p.ren f g) (Je.2 ⟨p,hp,rfl⟩);rw[T7]at this;refine⟨by simpa using this.1,?_⟩;have I:=this.2;rw[KX]at I;rw[Ju]at I ⊢;intro x z;have:=I x z;simpa[Zj9]using this;have hg:=r4 c u vs t fz xg i j (by simpa using N) hj;rw[getD_lt (l:=es.map _) (by simpa using N),Jl,T7]at hg;have Y:=(r1 ((es.getD i .any).ren f g) (Je.2 ⟨_,Zc N,rfl⟩)).1;rw[T7,Jh]at Y;rw[getD_lt N]at Y ⊢;have xb:j<es[i].cells.length:=by omega
 rw[getD_lt (l:=es[i].cells.map _) (by simpa using xb),Jl]at hg;rw[getD_lt (l:=es[i].cells) xb];exact un hg λk hk=>J _ (Jv N) k (Yv (Jv _) hk)
open Classical in
noncomputable def effM (M M1:Maps) (m1:MemL) (f g:Nat->Nat):Maps where
 φ:=λid=>if h:∃x∈m1.H,g x.1=id then M1.φ h.choose.1 else M.φ id
 ψ:=λid=>if h:∃x∈m1.R,f x.1=id then M1.ψ h.choose.1 else M.ψ id
 κ:=λid=>if h:∃x∈m1.R,f x.1=id then M1.κ h.choose.1 else M.κ id
def effM_φ {M M1:Maps} {x:Nat×List PV} (b:x∈m1.H) (c:∀x∈m1.H,∀y∈m1.H,g x.1=g y.1->x.1=y.1):(effM M M1 m1 f g).φ (g x.1)=M1.φ x.1:=by
 have h:∃y∈m1.H,g y.1=g x.1:=⟨x,b,rfl⟩;show(if h:∃y∈m1.H,g y.1=g x.1 then M1.φ h.choose.1 else M.φ (g x.1))=_;rw[dif_pos h,c _ h.choose_spec.1 _ b h.choose_spec.2]
def effM_φn {M M1:Maps} {id:Nat} (h:¬ ∃x∈m1.H,g x.1=id):(effM M M1 m1 f g).φ id=M.φ id:=dif_neg h
def effM_ψ {M M1:Maps} {x:Nat×Row} (b:x∈m1.R) (c:∀x∈m1.R,∀y∈m1.R,f x.1=f y.1->x.1=y.1):(effM M M1 m1 f g).ψ (f x.1)=M1.ψ x.1/\(effM M M1 m1 f g).κ (f x.1)=M1.κ x.1:=by
 have h:∃y∈m1.R,f y.1=f x.1:=⟨x,b,rfl⟩;constructor;show(if h:∃y∈m1.R,f y.1=f x.1 then M1.ψ h.choose.1 else M.ψ (f x.1))=_;rw[dif_pos h,c _ h.choose_spec.1 _ b h.choose_spec.2];show(if h:∃y∈m1.R,f y.1=f x.1 then M1.κ h.choose.1 else M.κ (f x.1))=_;rw[dif_pos h,c _ h.choose_spec.1 _ b h.choose_spec.2]
def effM_ψn {M M1:Maps} {id:Nat} (h:¬ ∃x∈m1.R,f x.1=id):(effM M M1 m1 f g).ψ id=M.ψ id/\(effM M M1 m1 f g).κ id=M.κ id:=⟨dif_neg h,dif_neg h⟩
theorem Eff.call (W:Sim B S M s a w) (I:Eff P fn args m0 r m1) (K:FitsM m0 m1 f g s.m) {vs:List Value} (hl:vs.length=args.length) (hr:∀i,i<args.length->RepS S M s.m.q (vs.getD i undef) ((args.getD i .any).ren f g)):
  Calls P fn ⟨vs⟩ w λen w'=>∃v S' M',en= .returned v/\Sim B S' M' (s.with (Zbg m1 f g s.m)) a w'/\RepS S' M' (Zbg m1 f g s.m).q v (r.ren f g)/\(∀i∈(r.ren f g).ids,ZI (Zbg m1 f g s.m) i)/\Ext B S S' w w':=by
 have xn:∀x∈m0.H,∃y∈m1.H,y.1=x.1:=λx u=>I.kh (.b x.1) ⟨x,u,rfl⟩
 have xl:∀x∈m0.R,∃y∈m1.R,y.1=x.1:=λx u=>I.kh (.r x.1) ⟨x,u,rfl⟩
 have ya:∀x∈m0.H,∀y∈m0.H,g x.1=g y.1->x.1=y.1:=λx u y C e=>by
  obtain⟨x',xh,ex⟩:=xn x u;obtain⟨y',xj,ey⟩:=xn y C;rw[<-ex,<-ey]at e ⊢;exact K.ig _ xh _ xj e
 have xu:∀x∈m0.R,∀y∈m0.R,f x.1=f y.1->x.1=y.1:=λx u y C e=>by
  obtain⟨x',xh,ex⟩:=xl x u;obtain⟨y',xj,ey⟩:=xl y C;rw[<-ex,<-ey]at e ⊢;exact K.jf _ xh _ xj e
 have xx:=W.small I.ok0 K ya xu;refine(I.run _ S _ w vs xx hl λi E=> ?_).mono λen w' ⟨v,S',M1,e1,e2,hs1,hext,e5,e6⟩=> ?_
 refine(hr i E).unren _ rfl (λk _=>rfl) λk Y=>⟨?_,rfl,rfl⟩
 obtain⟨y,C,rfl⟩:=I.ca _ (Zc E) _ Y;rw[K.q y C,I.ok0.q_at C];obtain⟨xb,xd,G⟩:=hext;let M':=effM M M1 m1 f g;let m':=Zbg m1 f g s.m;have lh:∀x∈m1.H,m'.h (g x.1)=Hs (x.2.map (PV.ren f g))/\m'.z (g x.1)=false:=λx u=>
  ⟨Vn (α:=List PV) (β:=Option (List PV)) (k:=g) (F:=λx=>Hs (x.2.map (PV.ren f g))) u I.ok1.nh K.ig,Vn (α:=List PV) (β:=Bool) (k:=g) (F:=λ_=>Hf) u I.ok1.nh K.ig⟩
 have J:∀ {id},(¬ ∃x∈m1.H,g x.1=id)->m'.h id=s.m.h id/\m'.z id=s.m.z id:=λ{id} h=>
  ⟨DC (α:=List PV) (β:=Option (List PV)) (k:=g) (F:=λx=>Hs (x.2.map (PV.ren f g))) λx u e=>h ⟨x,u,e⟩,DC (α:=List PV) (β:=Bool) (k:=g) (F:=λ_=>Hf) λx u e=>h ⟨x,u,e⟩⟩
 have lq:∀x∈m1.R,m'.q (f x.1)=Hs x.2/\m'.v (f x.1)=(m1.hp.v x.1).map (KM (PV.ren f g)):=λx u=>
  ⟨Vn (α:=Row) (β:=Option Row) (k:=f) (F:=λx=>Hs x.2) u I.ok1.nr K.jf,Vn (α:=Row) (β:=Option (List PV)) (k:=f) (F:=λx=>(m1.hp.v x.1).map (KM (PV.ren f g))) u I.ok1.nr K.jf⟩
 have X:∀ {id},(¬ ∃x∈m1.R,f x.1=id)->m'.q id=s.m.q id/\m'.v id=s.m.v id:=λ{id} h=>
  ⟨DC (α:=Row) (β:=Option Row) (k:=f) (F:=λx=>Hs x.2) λx u e=>h ⟨x,u,e⟩,DC (α:=Row) (β:=Option (List PV)) (k:=f) (F:=λx=>(m1.hp.v x.1).map (KM (PV.ren f g))) λx u e=>h ⟨x,u,e⟩⟩
 have live_old:∀i,ZI s.m i->ZI m' i:=λi E=>by
  cases i with
  |b i=>
   show m'.h i≠Hn;by_cases h:∃x∈m1.H,g x.1=i;obtain⟨x,u,rfl⟩:=h;rw[(lh x u).1];simp;rw[(J h).1];exact E
  |r i=>
   show m'.q i≠Hn;by_cases h:∃x∈m1.R,f x.1=i;obtain⟨x,u,rfl⟩:=h;rw[(lq x u).1];simp;rw[(X h).1];exact E
 have Dh:∀i,m1.has i->ZI m' (i.ren f g):=λi E=>by
  cases i with
  |b i=>obtain⟨y,C,rfl⟩:=E;show m'.h (g y.1)≠Hn;rw[(lh y C).1];simp
  |r i=>obtain⟨y,C,rfl⟩:=E;show m'.q (f y.1)≠Hn;rw[(lq y C).1];simp
 have φ_old:∀id,s.m.h id≠Hn->M'.φ id=M.φ id:=λid xc=>by
  by_cases h:∃x∈m1.H,g x.1=id;obtain⟨x,u,rfl⟩:=h;refine(effM_φ u K.ig).trans ?_;rcases K.nh x u with ⟨y,C,e⟩|h0;have:=e5 y C;rw[e]at this;exact this;exact absurd h0 xc;exact effM_φn h
 have row_old:∀id,s.m.q id≠Hn->RowLe M M' id (s.m.q id) (m'.q id):=λid xc=>by
  by_cases h:∃x∈m1.R,f x.1=id;obtain⟨x,u,rfl⟩:=h;rcases K.nr x u with ⟨y,C,e⟩|h0;have h6:=e6 y C;rw[e]at h6;have xr:=K.q y C;have xt:=I.ok0.q_at C;rw[e]at xr xt;rw[(lq x u).1,xr];rw[I.ok1.q_at u,xt]at h6;obtain⟨V,O⟩:=effM_ψ (M:=M) (M1:=M1) u K.jf;exact⟨λn sz e' h=>(h6.l n sz e' h).imp (λ⟨a1,a2,a3⟩=>⟨a1,O.trans a2,V.trans a3⟩) id,λn sz e' h=>(h6.v n sz e' h).imp (λ⟨e0,a1,a2,a3⟩=>⟨e0,a1,O.trans a2,V.trans a3⟩) id⟩;exact absurd h0 xc;obtain⟨V,O⟩:=effM_ψn (M:=M) (M1:=M1) h;exact .of_eq (X h).1 O V
 have rep_old:∀v p,RepS S M s.m.q v p->(∀i∈p.ids,ZI s.m i)->RepS S' M' m'.q v p:=λv p rr Z=>
  rr.heap xb (λid xc=>φ_old id (Z _ xc)) (λid xc=>row_old id (Z _ xc))
 have rep_new:∀v p,RepS S' M1 m1.hp.q v p->(∀i∈p.ids,m1.has i)->RepS S' M' m'.q v (p.ren f g):=λv p rr Z=>
  rr.ren (λi E=>by obtain⟨y,C,rfl⟩:=Z _ E;exact effM_φ C K.ig) (λi E=>by
   obtain⟨y,C,rfl⟩:=Z _ E;obtain⟨V,O⟩:=effM_ψ (M:=M) (M1:=M1) C K.jf;exact⟨by rw[(lq y C).1,I.ok1.q_at C],O,V⟩)
 have inB:∀ {id cs},s.m.h id=Hs cs->s.m.z id=Hf->(¬ ∃x∈m1.H,g x.1=id)->ZqY B M s.m m0 f g (M.φ id):=λ{id cs} h1 h2 h=> .inr (.inl ⟨id,cs,h1,h2,λx u e=>by
  obtain⟨y,C,ey⟩:=xn x u;exact h ⟨y,C,by rw[ey];exact e⟩,rfl⟩)
 have inR:∀ {id r},s.m.q id=Hs r->r.own=Ht->0<M.κ id->(¬ ∃x∈m1.R,f x.1=id)->ZqY B M s.m m0 f g (M.ψ id):=λ{id r} h1 h2 h3 h=> .inr (.inr (.inl ⟨id,r,h1,h2,h3,λx u e=>by
  obtain⟨y,C,ey⟩:=xl x u;exact h ⟨y,C,by rw[ey];exact e⟩,rfl⟩))
 have toB:∀ {k},B k->ZqY B M s.m m0 f g k:=λh=> .inl h
 have xk:∀ {x},x∈m1.H-> ¬ZqY B M s.m m0 f g (M1.φ x.1):=λ{x} u=>by
  have:=hs1.blk x.1 x.2 (I.ok1.h_at u);exact this.1
 have xm:∀ {x:Nat×Row},x∈m1.R->x.2.own=Ht->0<M1.κ x.1-> ¬ZqY B M s.m m0 f g (M1.ψ x.1):=λ{x} u ho Y=>by
  have L:=hs1.row x.1 x.2 (I.ok1.q_at u);obtain⟨i,r⟩:=x;cases r with
  |dead=>cases ho
  |live n sz e=>obtain⟨_,h2⟩:=L;exact(h2 (M1.κ i-1) (by show M1.κ i=_;simp only at Y;omega)).2.2.1
  |vec n sz e=>obtain⟨_,h2⟩:=L;exact(h2 (M1.κ i-1) (by show M1.κ i=_;simp only at Y;omega)).2.2.1
 have xy:∀ {b c},s.m.o b=Hs c->S'.m b=none:=λ{b c} h=>by rw[(xd b (.inr (.inr (.inr (.inl ⟨c,h⟩))))).2];exact(W.stable.o b c h).2.1
 refine⟨v,S',M',e1,⟨W.defers,W.hn,λk Y=>Kz (W.hB k Y) G.size,?_,λi=>rep_old _ _ (W.fr i) (W.ids i),λi k Y=>live_old k (W.ids i k Y),λid cs h=> ?_,λid r h=> ?_,λid id' cs cs' h N z z' xe=> ?_,λid id' q1 q2 h N o o' k k' xe=> ?_,λid id' cs q1 h z N o k=> ?_,λb c U=> ?_,λid es h=> ?_,W.pn.move rfl rfl live_old φ_old row_old,W.zle xb⟩,rep_new _ _ e2 I.cr,λi E=> ?_,xb,λb hb=>xd b (toB hb),G.mono λk Y=>toB Y⟩;exact W.stable.move xb (λb c U=>xy U) hs1.stable.s (λb c U=>G.block b (.inr (.inr (.inr (.inl ⟨c,U⟩))))) (λb x u=>G.block b (.inr (.inr (.inr (.inr (.inl ⟨x,u⟩))))));have h:m'.h id=Hs cs:=h;show DJ B S' M' m' w' id cs (m'.z id);by_cases D:∃x∈m1.H,g x.1=id;obtain⟨x,u,rfl⟩:=D;rw[(lh x u).1]at h;cases h;rw[(lh x u).2];have yb:=hs1.blk x.1 x.2 (I.ok1.h_at u);obtain⟨g1,g2,⟨us,t,g3,g4,g5⟩,g6⟩:=yb;have T:M'.φ (g x.1)=M1.φ x.1:=effM_φ u K.ig;refine⟨by rw[T];exact λhB=>g1 (toB hB),λo=>by rw[T];exact g2 o,⟨us,t,by rw[T];exact g3,by simpa using g4,λj hj=> ?_⟩,λc U i E=> ?_⟩;simp only[Jh]at hj;rw[getD_lt (l:=x.2.map _) (by simpa using hj),Jl];have:=g5 j hj;rw[getD_lt (l:=x.2) hj]at this;exact rep_new _ _ this (I.ok1.ch x u _ (Jv hj));obtain⟨c0,xw,rfl⟩:=Je.1 U;rw[ZbC]at E;obtain⟨i0,xf,rfl⟩:=Je.1 E;exact Dh i0 (I.ok1.ch x u c0 xw i0 xf);rw[(J D).1]at h;rw[(J D).2];have hb:=W.blk id cs h;have T:M'.φ id=M.φ id:=effM_φn D;cases hz:s.m.z id with
 |true=>
  rw[hz]at hb;obtain⟨vals,hv⟩:=hb;exact⟨vals,λj hj=>⟨by rw[T];exact xb _ _ _ (hv j hj).1,(hv j hj).2.mono xb⟩⟩
 |false=>
  rw[hz]at hb;obtain⟨g1,g2,⟨us,t,g3,g4,g5⟩,g6⟩:=hb;have R:=inB h hz D;exact⟨by rw[T];exact g1,λo=>by rw[T,(xd _ R).1];exact g2 o,⟨us,t,by rw[T,G.block _ R];exact g3,g4,λj hj=>rep_old _ _ (g5 j hj) (λk Y=>g6 _ (Zc hj) k Y)⟩,λc U k Y=>live_old k (g6 c U k Y)⟩
 have h:m'.q id=Hs r:=h;by_cases D:∃x∈m1.R,f x.1=id;obtain⟨x,u,rfl⟩:=D;rw[(lq x u).1]at h;cases h;obtain⟨V,O⟩:=effM_ψ (M:=M) (M1:=M1) u K.jf;have L:=hs1.row x.1 x.2 (I.ok1.q_at u);obtain⟨i,xv⟩:=x;cases xv with
 |dead=>trivial
 |live n sz e=>
  obtain⟨h1,h2⟩:=L;refine⟨λh0=>h1 (by rw[<-O];exact h0),λc U=> ?_⟩;obtain⟨g1,g2,g3,g4,g5⟩:=h2 c (by rw[<-O];exact U);simp only[M',V];exact⟨g1,g2,λhB=>g3 (toB hB),g4,g5⟩
 |vec n sz e=>
  obtain⟨h1,h2⟩:=L;refine⟨λh0=>h1 (by rw[<-O];exact h0),λc U=> ?_⟩;obtain⟨g1,g2,g3,g4,g5⟩:=h2 c (by rw[<-O];exact U);simp only[M',V];exact⟨g1,g2,λhB=>g3 (toB hB),g4,g5⟩
 rw[(X D).1]at h;obtain⟨V,O⟩:=effM_ψn (M:=M) (M1:=M1) D;have L:=W.row id r h;cases r with
 |dead=>trivial
 |live n sz e=>
  obtain⟨h1,h2⟩:=L;refine⟨λh0=>h1 (by rw[<-O];exact h0),λc U=> ?_⟩;have xg:M.κ id=c+1:=by rw[<-O];exact U
  obtain⟨g1,g2,g3,g4,g5⟩:=h2 c xg;have R:=inR h rfl (by omega) D;simp only[M',V,G.block _ R];exact⟨g1,g2,g3,g4,λo ho=>by rw[(xd _ R).1];exact g5 o ho⟩
 |vec n sz e=>
  obtain⟨h1,h2⟩:=L;refine⟨λh0=>h1 (by rw[<-O];exact h0),λc U=> ?_⟩;have xg:M.κ id=c+1:=by rw[<-O];exact U
  obtain⟨g1,g2,g3,g4,g5⟩:=h2 c xg;have R:=inR h rfl (by omega) D;simp only[M',V,G.block _ R];exact⟨g1,g2,g3,g4,λo=>by rw[(xd _ R).1];exact g5 o⟩
 have h:m'.h id=Hs cs:=h;have N:m'.h id'=Hs cs':=N;have z:m'.z id=false:=z;have z':m'.z id'=false:=z';by_cases D:∃x∈m1.H,g x.1=id;obtain⟨x,u,rfl⟩:=D;have T:M'.φ (g x.1)=M1.φ x.1:=effM_φ u K.ig;by_cases A:∃x∈m1.H,g x.1=id';obtain⟨y,C,rfl⟩:=A;have xa:M'.φ (g y.1)=M1.φ y.1:=effM_φ C K.ig;rw[T,xa];exact hs1.inj _ _ _ _ (I.ok1.h_at u) (I.ok1.h_at C) rfl rfl λe=>xe (by rw[e])
 rw[(J A).1]at N;rw[(J A).2]at z';have xa:M'.φ id'=M.φ id':=effM_φn A;rw[T,xa];exact λe=>xk u (by rw[e];exact inB N z' A)
 rw[(J D).1]at h;rw[(J D).2]at z;have T:M'.φ id=M.φ id:=effM_φn D;by_cases A:∃x∈m1.H,g x.1=id';obtain⟨y,C,rfl⟩:=A;have xa:M'.φ (g y.1)=M1.φ y.1:=effM_φ C K.ig;rw[T,xa];exact λe=>xk C (by rw[<-e];exact inB h z D)
 rw[(J A).1]at N;rw[(J A).2]at z';have xa:M'.φ id'=M.φ id':=effM_φn A;rw[T,xa];exact W.inj _ _ _ _ h N z z' xe;have h:m'.q id=Hs q1:=h;have N:m'.q id'=Hs q2:=N;by_cases D:∃x∈m1.R,f x.1=id;obtain⟨x,u,rfl⟩:=D;rw[(lq x u).1]at h;cases h;obtain⟨V,O⟩:=effM_ψ (M:=M) (M1:=M1) u K.jf;have k:0<M1.κ x.1:=by rw[<-O];exact k
 by_cases A:∃x∈m1.R,f x.1=id';obtain⟨y,C,rfl⟩:=A;rw[(lq y C).1]at N;cases N;obtain⟨k3,k4⟩:=effM_ψ (M:=M) (M1:=M1) C K.jf;have k':0<M1.κ y.1:=by rw[<-k4];exact k'
 simp only[M',V,k3];exact hs1.injq _ _ _ _ (I.ok1.q_at u) (I.ok1.q_at C) o o' k k' λe=>xe (by rw[e])
 rw[(X A).1]at N;obtain⟨k3,k4⟩:=effM_ψn (M:=M) (M1:=M1) A;have k':0<M.κ id':=by rw[<-k4];exact k'
 simp only[M',V,k3];exact λe=>xm u o k (by rw[e];exact inR N o' k' A)
 rw[(X D).1]at h;obtain⟨V,O⟩:=effM_ψn (M:=M) (M1:=M1) D;have k:0<M.κ id:=by rw[<-O];exact k
 by_cases A:∃x∈m1.R,f x.1=id';obtain⟨y,C,rfl⟩:=A;rw[(lq y C).1]at N;cases N;obtain⟨k3,k4⟩:=effM_ψ (M:=M) (M1:=M1) C K.jf;have k':0<M1.κ y.1:=by rw[<-k4];exact k'
 simp only[M',V,k3];exact λe=>xm C o' k' (by rw[<-e];exact inR h o k D)
 rw[(X A).1]at N;obtain⟨k3,k4⟩:=effM_ψn (M:=M) (M1:=M1) A;have k':0<M.κ id':=by rw[<-k4];exact k'
 simp only[M',V,k3];exact W.injq _ _ _ _ h N o o' k k' xe;have h:m'.h id=Hs cs:=h;have z:m'.z id=false:=z;have N:m'.q id'=Hs q1:=N;by_cases A:∃x∈m1.R,f x.1=id';obtain⟨y,C,rfl⟩:=A;rw[(lq y C).1]at N;cases N;obtain⟨k3,k4⟩:=effM_ψ (M:=M) (M1:=M1) C K.jf;have k:0<M1.κ y.1:=by rw[<-k4];exact k
 by_cases D:∃x∈m1.H,g x.1=id;obtain⟨x,u,rfl⟩:=D;have T:M'.φ (g x.1)=M1.φ x.1:=effM_φ u K.ig;rw[T];simp only[M',k3];exact hs1.injx _ _ _ _ (I.ok1.h_at u) rfl (I.ok1.q_at C) o k;rw[(J D).1]at h;rw[(J D).2]at z;have T:M'.φ id=M.φ id:=effM_φn D;rw[T];simp only[M',k3];exact λe=>xm C o k (by rw[<-e];exact inB h z D)
 rw[(X A).1]at N;obtain⟨k3,k4⟩:=effM_ψn (M:=M) (M1:=M1) A;have k:0<M.κ id':=by rw[<-k4];exact k
 by_cases D:∃x∈m1.H,g x.1=id;obtain⟨x,u,rfl⟩:=D;have T:M'.φ (g x.1)=M1.φ x.1:=effM_φ u K.ig;rw[T];simp only[M',k3];exact λe=>xk u (by rw[e];exact inR N o k A)
 rw[(J D).1]at h;rw[(J D).2]at z;have T:M'.φ id=M.φ id:=effM_φn D;rw[T];simp only[M',k3];exact W.injx _ _ _ _ h z N o k;have U:s.m.om b=Hs c:=U;obtain⟨g1,g2,g3,g4⟩:=W.rm b c U;have R:ZqY B M s.m m0 f g b:= .inr (.inr (.inr (.inr (.inr ⟨c,U⟩))));exact⟨g1,by rw[(xd b R).2];exact g2,g3,g4.move xb (G.block b R) rep_old live_old⟩;have h:m'.v id=Hs es:=h;by_cases D:∃x∈m1.R,f x.1=id;obtain⟨x,u,rfl⟩:=D;rw[(lq x u).2]at h;cases hv:m1.hp.v x.1 with
 |none=>rw[hv]at h;cases h
 |some es0=>
  rw[hv]at h;simp only[JY,Jm.injEq]at h;subst h;have yd:=MemL.v_mem hv;obtain⟨V,O⟩:=effM_ψ (M:=M) (M1:=M1) u K.jf;obtain⟨sz,e,q1,r1,r2,r4⟩:=hs1.vc x.1 es0 hv;refine⟨sz,e,?_,λp hp=> ?_,λp hp i E=> ?_,λc U us t fz xz i j E hj=> ?_⟩
  ·have:m1.hp.q x.1=Hs x.2:=I.ok1.q_at u;have xp:m1.hp.q x.1=Hs (.vec es0.length sz e):=q1;rw[this]at xp;have yc:m'.q (f x.1)=Hs x.2:=(lq x u).1;rw[Jh];exact yc.trans xp
  ·obtain⟨p0,xo,rfl⟩:=Je.1 hp;obtain⟨c1,c2⟩:=r1 p0 xo;rw[T7];refine⟨by simpa using c1,?_⟩;rw[KX,Ju];rw[Ju]at c2;intro y C;simpa[Zj9]using c2 y C
  ·obtain⟨p0,xo,rfl⟩:=Je.1 hp;rw[ZbC]at E;obtain⟨i0,xf,rfl⟩:=Je.1 E;exact Dh i0 (MemL.has_of (r2 p0 xo i0 xf))
  ·have xg:M1.κ x.1=c+1:=by rw[<-O];exact U
   have xs:w'.heap[M1.ψ x.1]? = Hs (.cells ⟨us⟩ t fz):=by rw[<-V];exact xz
   simp only[Jh]at E;have xq:=(r1 _ (Zc (d:= .any) E)).1;have:=r4 c xg us t fz xs i j E hj;rw[getD_lt (l:=es0.map _) (by simpa using E),Jl,T7];rw[getD_lt E]at xq;rw[getD_lt (l:=es0) E]at this;have xi:j<es0[i].cells.length:=by omega
   rw[getD_lt (l:=es0[i].cells.map _) (by simpa using xi),Jl];rw[getD_lt (l:=es0[i].cells) xi]at this;exact rep_new _ _ this λk Y=>MemL.has_of (r2 _ (Jv E) k (Yv (Jv xi) Y))
 rw[(X D).2]at h;obtain⟨V,O⟩:=effM_ψn (M:=M) (M1:=M1) D;obtain⟨yf,ye,q1⟩:=W.vec_q h;refine(W.vc id es h).move (λn sz e hq=> ?_) O V (λY=>G.block _ (inR q1 rfl Y D)) rep_old live_old;show m'.q id=_;rw[(X D).1];exact hq;rw[ZbC]at E;obtain⟨i0,xf,rfl⟩:=Je.1 E;exact Dh i0 (I.cr i0 xf)
end
open Go.RowKit
section
variable {P:Program} {B:Frm} {S:Stable} {M:Maps} {s:St} {a:Act} {w:World}
theorem Sim.reOm (d:Sim B S M s a w) {om':Nat->Option MapC} (h:∀b c,om' b=Hs c-> ¬B b/\S.m b=Hn/\s.m.o b=Hn/\MapAtR S M s.m w b c):Sim B S M (s.with { s.m with om:=om' }) a w:=by
 have live:∀i,ZI s.m i->ZI { s.m with om:=om' } i:=λi h=>by cases i<;>exact h
 refine⟨d.defers,d.hn,d.hB,d.stable,d.fr,λi k t=>live k (d.ids i k t),λi cs A=> ?_,d.row,d.inj,d.injq,d.injx,λb c j=> ?_,λi es C=> ?_,⟨d.pn.h,d.pn.q⟩,d.hz⟩;have e:=d.blk i cs A;show DJ _ _ _ _ _ _ _ (s.m.z i);cases y:s.m.z i with
 |false=>
  rw[y]at e;obtain⟨n,l,u,z⟩:=e;exact⟨n,l,u,λc j k t=>live k (z c j k t)⟩
 |true=>rw[y]at e;exact e
 obtain⟨n,l,u,D⟩:=h b c j;exact⟨n,l,u,D.move (JH _) rfl (λv p r _=>r) live⟩;exact(d.vc i es C).move (λ_ _ _ h=>h) rfl rfl (λ_=>rfl) (λv p r _=>r) live
def Sim.setOm (j:Sim B S M s a w) {b:Nat} {c c':MapC} {es':List MapEntry} (F:s.m.om b=Hs c) (G:es'.length=c'.ks.length) (T:c'.vs.length=c'.ks.length) (O:∀i,i<c'.ks.length->(es'.getD i Jd).born=i)
  (U:∀i,i<c'.ks.length->Rep S (es'.getD i Jd).key (c'.ks.getD i .any)) (R:∀i,i<c'.ks.length->RepS S M s.m.q (es'.getD i Jd).val (c'.vs.getD i .any)) (V:∀p∈c'.vs,∀i∈p.ids,ZI s.m i):
  Sim B S M (s.with { s.m with om:=upd s.m.om b (Hs c') }) a { w with heap:=w.heap.setIfInBounds b (.map ⟨es'⟩ es'.length) }/\Ext B S S w { w with heap:=w.heap.setIfInBounds b (.map ⟨es'⟩ es'.length) }:=by
 obtain⟨D,E,C,⟨es,y,_⟩,_⟩:=j.rm b c F;have n:∀vs t f,w.heap[b]? ≠ Hs (.cells vs t f):=λvs t f h=>by rw[y]at h;cases h
 obtain⟨J,u⟩:=ZgV (o':= .map ⟨es'⟩ es'.length) y;have K:=j.reOm (om':=upd s.m.om b Hn) (λk d hd=>by
  by_cases e:b=k;subst e;rw[Za]at hd;cases hd;rw[Zb _ _ e]at hd;exact j.rm k d hd)
 have A:=K.special (w':= { w with heap:=w.heap.setIfInBounds b (.map ⟨es'⟩ es'.length) }) (o':=s.m.o) (it':=s.m.it) n u (by simp) ⟨Tq j.stable.s n E u,λk d hd=>by
  obtain⟨z,l,v⟩:=j.stable.o k d hd;exact⟨z,l,v.move (JH _) (u k (λe=>by subst e;rw[C]at hd;cases hd))⟩,λk x N=>by
  obtain⟨z,l⟩:=j.stable.i k x N;refine⟨z,?_⟩;unfold IterAt at l ⊢;rw[u k (λe=>by subst e;have v:=l.1;rw[y]at v;cases v)];exact l⟩ (λk d hd=>by
  have hd:upd s.m.om b Hn k=Hs d:=hd;by_cases e:b=k;subst e;rw[Za]at hd;cases hd;rw[Zb _ _ e]at hd;exact⟨Jz e,(j.rm k d hd).2.2.1⟩)
 have L:=A.reOm (om':=upd s.m.om b (Hs c')) (λk d hd=>by
  by_cases e:b=k;subst e;rw[Za]at hd;cases hd;exact⟨D,E,C,⟨es',J,G,T,O,U,R⟩,V⟩;rw[Zb _ _ e]at hd;exact A.rm k d (by show upd s.m.om b Hn k=_;rw[Zb _ _ e];exact hd))
 exact⟨L,JH _,λ_ _=>⟨λ_=>rfl,rfl⟩,⟨rfl,rfl,rfl,by simp,λk I=>u k (λe=>D (e▸I))⟩⟩
def Sim.oToOm (l:Sim B S M s a w) {b:Nat} {c:MapC} (A:s.m.o b=Hs c):Sim B S M (s.with { s.m with o:=upd s.m.o b Hn,om:=upd s.m.om b (Hs c) }) a w:=by
 obtain⟨J,I,es,y,G,C,K,E,z⟩:=l.stable.o b c A;have n:∀vs t f,w.heap[b]? ≠ Hs (.cells vs t f):=λvs t f h=>by rw[y]at h;cases h
 have v:=l.special (w':=w) (o':=upd s.m.o b Hn) (it':=s.m.it) n (λ_ _=>rfl) rfl ⟨l.stable.s,λk d hd=>by
  by_cases e:b=k;subst e;rw[Za]at hd;cases hd;rw[Zb _ _ e]at hd;exact l.stable.o k d hd,l.stable.i⟩ (λk d F=>l.om_ne F A)
 exact v.reOm (om':=upd s.m.om b (Hs c)) (λk d hd=>by
  by_cases e:b=k;subst e;rw[Za]at hd;cases hd;refine⟨J,I,Za _ _ _,⟨es,y,G,C,K,E,λi u=> .clean (z i u)⟩,λp hp i u=> ?_⟩;obtain⟨j,D,rfl⟩:=Jg hp;have:=z j (by omega);rw[getD_lt D]at this;exact absurd u (this.clean_ids i);rw[Zb _ _ e]at hd;exact v.rm k d hd)
def Sim.omToO (j:Sim B S M s a w) {b:Nat} {c:MapC} (E:s.m.om b=Hs c) (C:∀p∈c.vs,p.clean=Ht):Sim B S M (s.with { s.m with o:=upd s.m.o b (Hs ⟨c.ks,c.vs.map Kd⟩),om:=upd s.m.om b Hn }) a w:=by
 obtain⟨J,G,L,⟨es,y,I,v,K,F,D⟩,N⟩:=j.rm b c E;have u:∀vs t f,w.heap[b]? ≠ Hs (.cells vs t f):=λvs t f h=>by rw[y]at h;cases h
 have A:=j.reOm (om':=upd s.m.om b Hn) (λk d hd=>by
  by_cases e:b=k;subst e;rw[Za]at hd;cases hd;rw[Zb _ _ e]at hd;exact j.rm k d hd)
 exact A.special (w':=w) (o':=upd s.m.o b (Hs ⟨c.ks,c.vs.map Kd⟩)) (it':=s.m.it) u (λ_ _=>rfl) rfl ⟨j.stable.s,λk d hd=>by
  by_cases e:b=k;subst e;rw[Za]at hd;cases hd;refine⟨J,G,es,y,I,by simpa using v,K,F,λi z=> ?_⟩;have n:i<c.vs.length:=by rw[v];exact z
  have:=(D i z).share (C _ (Zc n));rw[getD_lt (l:=c.vs.map Kd) (by simpa using n),Jl];rwa[getD_lt n]at this;rw[Zb _ _ e]at hd;exact j.stable.o k d hd,j.stable.i⟩ (λk d hd=>by
  have hd:upd s.m.om b Hn k=Hs d:=hd;by_cases e:b=k;subst e;rw[Za]at hd;cases hd;rw[Zb _ _ e]at hd;exact⟨Jz e,by rw[Zb _ _ e];exact(j.rm k d hd).2.2.1⟩)
def ZuZ (z:PV) (c:MapC):Option Nat->PV
 |some j=> .tup [c.vs.getD j .any,.int .i64 (j:Int)]
 |none=> .tup [z,.int .i64 (c.ks.length:Int)]
def Zxr (z:PV) (cs:List PV) (c:MapC):Option Nat->MapC
 |some _=>c
 |none=>⟨c.ks++ [.agg (JQ cs)],c.vs++ [z]⟩
theorem ZrE (hs:Sim B S M s a w) {t:TypeId} {b:Nat} {c:MapC} {ls:List Leaf} {z:PV} {v:Value} {cs:List PV} {r:Option Nat} (hb:s.m.om b=Hs c) (h1:Zsj P t=Hs (ls,z)) (hv:RepS S M s.m.q v (.agg cs)) (hf:Td ls cs c.ks 0=Hs r) (N:cs.length=ls.length) (xc:Kg cs=Ht):
  ∃u w',(J2 t (.map (Hs b)) v).run P w= .ok u w'/\Sim B S M (s.with { s.m with om:=upd s.m.om b (Hs (Zxr z cs c r)) }) a w'/\RepS S M s.m.q u (ZuZ z c r)/\Ext B S S w w'/\ ∀i∈(ZuZ z c r).ids,ZI s.m i:=by
 obtain⟨R,et,fs,i,y,t1,T,t3,t4,t5,rfl,t6⟩:=DA h1;obtain⟨o1,o2,o3,⟨es,e1,U,e3,e4,W,e6⟩,lv⟩:=hs.rm b c hb;obtain⟨vs,rfl,V,D⟩:=hv.agg_inv;have ht:Yp P R=true:=by simp[Yp,T]
 have hg:=MapKept.run_getObj_map (P:=P) e1;have J:(Jj Hf 10000 R (.agg ⟨vs⟩)).run P w= .ok () w:=Vk (vs:=vs) T (λf hf=>by rw[V,N];exact t6 f hf) Hf 9997 w;obtain⟨f1,f2⟩:=ZaY (S:=S) (M:=M) (q:=s.m.q) t3 ht ⟨V,D⟩ w es c.ks 0 _ U W hf;cases r with
 |some j=>
  obtain⟨_,g2,ds,g3,g4⟩:=f2 j rfl;have hj:j<c.ks.length:=by omega
  rw[Kl]at g3;have K:=W j hj;rw[g3]at K;obtain⟨us,xa,Z,xd⟩:=(Kx (S:=S) (M:=M) (q:=s.m.q) K).agg_inv;obtain⟨E,I⟩:=Tb g4 ⟨V,D⟩ ⟨Z,xd⟩;subst E;have A:j<es.length:=by omega
  have h:(es.getD j Jd).key= .agg ⟨vs⟩:=xa;have xh:JD 10000 (.agg ⟨vs⟩) (.agg ⟨vs⟩)=true:=by
   simp only[JD,BEq.rfl,KN];rw[Ju]
   rintro ⟨p,q⟩ C
   rw[Kv]at C;simp only at C ⊢;obtain⟨n,hn,L⟩:=Jg C;simp only[Kq]at L;cases L;exact I _ (Jv _) _
  have G:(J8 R (.agg ⟨vs⟩) es).run P w= .ok (Hs (j,(es.getD j Jd).val)) w:=by
   rw[run_findKey_eq w (by rw[T]) (.agg ⟨vs⟩) es];simpa using f1
  have xg:(⟨es⟩:Array MapEntry)[j]? = Hs (es.getD j Jd):=by
   rw[getD_lt A];simp[A]
  have O:(⟨es⟩:Array MapEntry).modify j (λe=> { e with key:= .agg ⟨vs⟩ })=⟨es⟩:=by
   apply KL;apply Kf;intro n;rw[J4,J5]
   by_cases e:j=n
   ·subst e;have X:(es[j]).key= .agg ⟨vs⟩:=by rw[getD_lt A]at h;exact h
    simp[A,<-X]
   ·simp[e]
  have F:=e4 j hj;have l:(J2 t (.map (Hs b)) (.agg ⟨vs⟩)).run P w= .ok (.tuple #[(es.getD j Jd).val,.int .i64 (j:Int)]) { w with heap:=w.heap.setIfInBounds b (.map ⟨es⟩ es.length) }:=by
   have xf:(JZ (.agg ⟨vs⟩) (.agg ⟨vs⟩)).run P w= .ok (.agg ⟨vs⟩) w:=by simp[JZ,xh]
   simp only[J2,Jk,run_underlying t1,Jc,hg,J,G,xg,JY,KE,h,xf,O,F,MapKept.run_setObj_map _ e1];simp[goInt]
  obtain⟨k1,Y⟩:=hs.setOm (c':=c) hb U e3 e4 W e6 lv;have xb:j<c.vs.length:=by omega
  refine⟨_,_,l,k1,.tup [_,_] [_,_] rfl (λi d=> ?_),Y,λi d=> ?_⟩
  ·match i,d with
   |0,_=>exact e6 j hj
   |1,_=>exact .clean (.int _ _)
  ·simp only[ZuZ,Jb,Jp,JK]at d;exact lv _ (Zc xb) i d
 |none=>
  have G:(J8 R (.agg ⟨vs⟩) es).run P w= .ok Hn w:=by
   rw[run_findKey_eq w (by rw[T]) (.agg ⟨vs⟩) es];simpa using f1
  have hz:(zeroValue et).run P w= .ok y w:=by simp[zeroValue,GF t4,t5]
  have l:(J2 t (.map (Hs b)) (.agg ⟨vs⟩)).run P w= .ok (.tuple #[y,.int .i64 (es.length:Int)]) { w with heap:=w.heap.setIfInBounds b (.map ⟨es++ [{ key:= .agg ⟨vs⟩,val:=y,born:=es.length }]⟩ (es.length+1)) }:=by
   simp only[J2,Jk,run_underlying t1,Jc,hg,J,G,hz,KB,MapKept.run_setObj_map _ e1];simp[goInt]
  have k:∀i,i<c.ks.length+1->(es++ [({ key:= .agg ⟨vs⟩,val:=y,born:=es.length }:MapEntry)]).getD i Jd=if i<c.ks.length then es.getD i Jd else { key:= .agg ⟨vs⟩,val:=y,born:=es.length }:=λi d=>by
   by_cases e:i<c.ks.length
   ·rw[if_pos e,Zf (by omega)]
   ·rw[if_neg e,Zg (by omega)];have:i-es.length=0:=by omega
    simp[this]
  have xe:Rep S (.agg ⟨vs⟩) (.agg (JQ cs)):=(K4 (S:=S) (M:=M) (q:=s.m.q) vs cs V D).share xc;obtain⟨k1,Y⟩:=hs.setOm (b:=b) (c:=c) (c':=⟨c.ks++ [.agg (JQ cs)],c.vs++ [XP y]⟩) (es':=es++ [{ key:= .agg ⟨vs⟩,val:=y,born:=es.length }]) hb (by simp[U]) (by simp[e3]) (λi d=>by
    simp only[JI,JB,JJ]at d;rw[k i (by omega)];split
    ·rename_i e;exact e4 i e
    ·show es.length=i;omega) (λi d=>by
    simp only[JI,JB,JJ]at d;rw[k i (by omega)];show Rep S _ ((c.ks++ [KT (JQ cs)]).getD i .any);split
    ·rename_i e;rw[Zf e];exact W i e
    ·rename_i e;rw[Zg (by omega)];have:i-c.ks.length=0:=by omega
     simpa[this]using xe) (λi d=>by
    simp only[JI,JB,JJ]at d;rw[k i (by omega)];show RepS S M s.m.q _ ((c.vs++ [XP y]).getD i .any);split
    ·rename_i e;rw[Zf (by omega)];exact e6 i e
    ·rename_i e;rw[Zg (by omega)];have:i-c.vs.length=0:=by omega
     simpa[this]using Kx (Ve S y)) (λp hp i d=>by
    rcases Ji.1 hp with hp|hp
    ·exact lv p hp i d
    ·simp only[Jo]at hp;subst hp;rw[W7]at d;cases d)
  refine⟨_,_,l,by simpa[Zxr]using k1,.tup [_,_] [_,_] rfl (λi d=> ?_),by simpa using Y,λi d=> ?_⟩
  ·match i,d with
   |0,_=>exact .clean (Ve S y)
   |1,_=>rw[<-U];exact .clean (.int _ _)
  ·simp only[ZuZ,Jb,Jp,JK,W7]at d;cases d
def ZrF (G:Sim B S M s a w) {t:TypeId} {b:Nat} {c:MapC} {v:Value} {p:PV} {k:Nat} (I:s.m.om b=Hs c) (hv:RepS S M s.m.q v p) (E:∀i∈p.ids,ZI s.m i) (R:k<c.ks.length):
  ∃w',(Ki t (.map (Hs b)) (.int .i64 (k:Int)) v).run P w= .ok () w'/\Sim B S M (s.with { s.m with om:=upd s.m.om b (Hs ⟨c.ks,c.vs.set k p⟩) }) a w'/\Ext B S S w w':=by
 obtain⟨Z,o2,Y,⟨es,K,T,U,A,L,V⟩,W⟩:=G.rm b c I;have N:=MapKept.run_getObj_map (P:=P) K;have l:k<es.length:=by omega
 have u:(⟨es⟩:Array MapEntry).findIdx? (λe=>(e.born:Int)==(k:Int))=Hs k:=by
  rw[List.findIdx?_toArray,List.findIdx?_eq_some_iff_getElem];refine⟨l,?_,λj X=> ?_⟩;have:=A k R;rw[getD_lt l]at this;simp[this];have:=A j (by omega);rw[getD_lt (by omega)]at this;simp only[this,beq_iff_eq];omega
 have y:(⟨es⟩:Array MapEntry).modify k (λe=> { e with val:=v })=⟨es.set k { es.getD k Jd with val:=v }⟩:=by
  apply KL;apply Kf;intro n;rw[J4,J5];simp only[KA];by_cases e:k=n;subst e;simp[l,getD_lt l];simp[e]
 have z:(Ki t (.map (Hs b)) (.int .i64 (k:Int)) v).run P w= .ok () { w with heap:=w.heap.setIfInBounds b (.map ⟨es.set k { es.getD k Jd with val:=v }⟩ es.length) }:=by
  simp only[Ki,Jk,Jc,N];have O:(asInt (.int .i64 (k:Int))).run P w= .ok (k:Int) w:=by simp[asInt,asIntOf]
  simp only[O,Jc,u,y];exact MapKept.run_setObj_map _ K
 have h:∀i,i<c.ks.length->(es.set k { es.getD k Jd with val:=v }).getD i Jd=if i=k then { es.getD k Jd with val:=v } else es.getD i Jd:=λi d=>by
  rw[getD_lt (by simp;omega),J7];by_cases e:k=i;subst e;simp;rw[if_neg e,if_neg (Jz e)];exact(getD_lt (by omega)).symm
 obtain⟨J,F⟩:=G.setOm (b:=b) (c:=c) (c':=⟨c.ks,c.vs.set k p⟩) (es':=es.set k { es.getD k Jd with val:=v }) I (by simpa using T) (by simp[U]) (λi d=>by
  rw[h i d];split;rename_i e;subst e;exact A i d;exact A i d) (λi d=>by
  rw[h i d];split;rename_i e;subst e;exact L i d;exact L i d) (λi d=>by
  rw[h i d];have d:i<c.ks.length:=d;have D:(c.vs.set k p).getD i .any=if i=k then p else c.vs.getD i .any:=by
   rw[getD_lt (by simp;omega),J7];by_cases e:k=i;subst e;simp;rw[if_neg e,if_neg (Jz e)];exact(getD_lt (by omega)).symm
  show RepS S M s.m.q _ ((c.vs.set k p).getD i .any);rw[D];split;exact hv;exact V i d) (λx C i d=>by
  rcases JU C with C|rfl;exact W x C i d;exact E i d)
 rw[List.length_set]at J F;exact⟨_,z,J,F⟩
end
open Go.RowKit
mutual
def PV.nomap:PV->Bool
 | .rmap _ _=>Hf
 | .sl _ es=>PV.nomapL es
 | .rptr cs=>PV.nomapL cs
 | .agg cs=>PV.nomapL cs
 | .tup cs=>PV.nomapL cs
 | .fn _ cs=>PV.nomapL cs
 |_=>Ht
def PV.nomapL:List PV->Bool
 | []=>Ht
 |c::cs=>PV.nomap c&&PV.nomapL cs
end
mutual
def PV.shut (o:Nat->Option MapC):PV->PV
 | .mref b=>match o b with
  |some c=> .rmap c.ks c.vs
  |none=> .mref b
 | .rptr cs=> .rptr (PV.sealL o cs)
 | .agg cs=> .agg (PV.sealL o cs)
 | .tup cs=> .tup (PV.sealL o cs)
 | .fn f cs=> .fn f (PV.sealL o cs)
 |p=>p
def PV.sealL (o:Nat->Option MapC):List PV->List PV
 | []=> []
 |c::cs=>PV.shut o c::PV.sealL o cs
end
theorem Fc:∀ {cs:List PV},PV.nomapL cs=Ht↔ ∀c∈cs,c.nomap=Ht
 | []=>by simp[PV.nomapL]
 |c::cs=>by simp[PV.nomapL,Fc (cs:=cs)]
def WO {cs:List PV} (h:PV.nomapL cs=Ht) (i:Nat):(cs.getD i .any).nomap=true:=by
 by_cases b:i<cs.length;exact Fc.1 h _ (Zc b);rw[Vi (by omega)];rfl
theorem Ziw {p:PV} (h:p.nomap=Ht) (j:Nat):(p.cells.getD j .any).nomap=true:=by
 cases p with
 |agg cs=>exact WO (cs:=cs) (by simpa[PV.nomap]using h) j
 |_=>
  simp only[J9];cases j with
  |zero=>simpa using h
  |succ j=>simp[PV.nomap]
theorem YB (o:Nat->Option MapC):∀(cs:List PV),(PV.sealL o cs).length=cs.length
 | []=>rfl
 |c::cs=>by simp[PV.sealL,YB o cs]
theorem VH (o:Nat->Option MapC):∀(cs:List PV) (i:Nat),i<cs.length->(PV.sealL o cs).getD i .any=(cs.getD i .any).shut o
 | [],i,h=>by simp at h
 |c::cs,0,_=>by simp[PV.sealL]
 |c::cs,i+1,h=>by simpa[PV.sealL]using VH o cs i (by simpa using h)
theorem Rep.cells_only {S S':Stable} (h:S'.c=S.c) (y:S'.z=S.z) (z:∀b,S.y b->S'.y b) {v:Value} {p:PV} (r:Rep S v p) (d:p.nomap=Ht):Rep S' v p:=by
 induction r with
 |any v=>exact .any v
 |int k n=>exact .int k n
 |bool b=>exact .bool b
 |str l=>exact .str l
 |flt k b=>exact .flt k b
 |cpx k a b=>exact .cpx k a b
 |agg vs cs hl _ ih=>exact .agg vs cs hl (λi t=>ih i t (WO d i))
 |tup vs cs hl _ ih=>exact .tup vs cs hl (λi t=>ih i t (WO d i))
 |sl0 a cap=>exact .sl0 a cap
 |slnil=>exact .slnil
 |sl b o cap sz es vals hsz hcap hS _ ih=>exact .sl b o cap sz es vals hsz hcap (λi j t u=>by rw[h];exact hS i j t u) (λi j t u=>ih i j t u (Ziw (WO d i) j))
 |slf v es _ hz' ih=>exact .slf v es (ih d) λb o n c e d=>⟨by rw[y];exact(hz' b o n c e d).1,z _ (hz' b o n c e d).2⟩
 |rptr b o cs vals hS _ ih=>exact .rptr b o cs vals (λj u=>by rw[h];exact hS j u) (λj u=>ih j u (WO d j))
 |nilp=>exact .nilp
 |nilfn=>exact .nilfn
 |nilmap=>exact .nilmap
 |mref b=>exact .mref b
 |iptr b=>exact .iptr b
 |rmap b es ks vs hS hk hv hb _ _ ihK ihV=>simp[PV.nomap]at d
 |fn f vs cs hl _ ih=>exact .fn f vs cs hl (λi t=>ih i t (WO d i))
def FZ (S:Stable) (w:World) (o:Nat->Option MapC):Stable:=
 ⟨S.c,λb=>match o b with
  |some _=>(match w.heap[b]? with|some (.map es _)=>Hs es.toList|_=>Hn)
  |none=>S.m b,S.z,S.y⟩
section
variable {P:Program} {B:Frm} {S:Stable} {M:Maps} {s:St} {a:Act} {w:World} {o:Nat->Option MapC} {it:Nat->Option IterC}
def Zkc (j:Stab B S w o it) {b:Nat} {c:MapC} (h:o b=Hs c):∃es,(FZ S w o).m b=Hs es/\w.heap[b]? = Hs (.map ⟨es⟩ es.length)/\es.length=c.ks.length/\c.vs.length=c.ks.length/\(∀i,i<c.ks.length->(es.getD i Jd).born=i)/\
  (∀i,i<c.ks.length->Rep S (es.getD i Jd).key (c.ks.getD i .any))/\(∀i,i<c.ks.length->Rep S (es.getD i Jd).val (c.vs.getD i .any)):=by
 obtain⟨_,_,es,d,e⟩:=j.o b c h;exact⟨es,by simp[FZ,h,d],d,e⟩
theorem Zkd (e:Stab B S w o it):SLe S (FZ S w o):=by
 refine⟨λ_ _ _ h=>h,λb es h=> ?_,rfl,λ_ h=>h⟩;cases d:o b with
 |some c=>rw[(e.o b c d).2.1]at h;cases h
 |none=>simpa[FZ,d]using h
theorem ZdB (d:Stab B S w o it):StabS (FZ S w o) w:=by
 refine⟨d.s.c,λb es h=> ?_,d.s.y⟩;cases e:o b with
 |some c=>
  obtain⟨es',j,i,_⟩:=Zkc d e;rw[j]at h;cases h;exact i
 |none=>simp[FZ,e]at h;exact d.s.m b es h
theorem Rep.shut (D:Stab B S w o it) {v:Value} {p:PV} (r:Rep S v p):Rep (FZ S w o) v (p.shut o):=by
 have e:=Zkd D;induction r with
 |agg vs cs hl _ ih=>exact .agg vs _ (by rw[YB];exact hl) (λi d=>by rw[YB]at d;rw[VH o cs i d];exact ih i d)
 |tup vs cs hl _ ih=>exact .tup vs _ (by rw[YB];exact hl) (λi d=>by rw[YB]at d;rw[VH o cs i d];exact ih i d)
 |fn f vs cs hl _ ih=>exact .fn f vs _ (by rw[YB];exact hl) (λi d=>by rw[YB]at d;rw[VH o cs i d];exact ih i d)
 |any v=>exact .any v
 |int k n=>exact .int k n
 |bool b=>exact .bool b
 |str l=>exact .str l
 |flt k b=>exact .flt k b
 |cpx k a b=>exact .cpx k a b
 |sl0 a cap=>exact .sl0 a cap
 |slnil=>exact .slnil
 |sl b o' cap sz es vals h u y z _=>exact(Rep.sl b o' cap sz es vals h u y z).mono e
 |slf v es r hz _=>exact(Rep.slf v es r hz).mono e
 |rptr b o' cs vals h u ih=>
  refine .rptr b o' _ vals (λj t=> ?_) (λj t=> ?_);rw[YB]at t;exact h j t;rw[YB]at t;rw[VH o cs j t];exact ih j t
 |nilp=>exact .nilp
 |nilfn=>exact .nilfn
 |nilmap=>exact .nilmap
 |iptr b=>exact .iptr b
 |mref b=>
  unfold PV.shut;cases E:o b with
  |none=>exact .mref b
  |some c=>
   obtain⟨es,h,u,y,z,A,C,F⟩:=Zkc D E;exact .rmap b es c.ks c.vs h y z A (λi d=>(C i d).mono e) (λi d=>(F i d).mono e)
 |rmap b es ks vs h u y z A C _ _=>exact(Rep.rmap b es ks vs h u y z A C).mono e
end
def Wr (P:Program) (f:FuncId) (args:Nat->List PV) (c:MapC) (r:PV) (c':MapC):Prop:=
 WS P f/\r.dids= []/\ ∀(b:Nat) (w:World) (S:Stable) (vs:List Value),StabS S w->ZmP S w->S.z b->S.m b=Hn->MapAt S w b c->vs.length=(args b).length->(∀i,i<(args b).length->Rep S (vs.getD i undef) ((args b).getD i .any))->
  Calls P f ⟨vs⟩ w λe w'=>∃v S',e= .returned v/\Rep S' v r/\StabS S' w'/\SLe S S'/\(∀k,k<w.heap.size->k≠b->(∀o,S' k o=S k o)/\S'.m k=S.m k)/\S'.m b=Hn/\MapAt S' w' b c'/\BelowF (λk=>k<w.heap.size/\k≠b) w w'
def Mk (P:Program) (f:FuncId) (args:List PV) (r:Nat->PV) (c:MapC):Prop:=
 WS P f/\(∀b,(r b).dids= [])/\ ∀(w:World) (S:Stable) (vs:List Value),StabS S w->ZmP S w->vs.length=args.length->(∀i,i<args.length->Rep S (vs.getD i undef) (args.getD i .any))->
  Calls P f ⟨vs⟩ w λe w'=>∃v S' b,e= .returned v/\w.heap.size<=b/\Rep S' v (r b)/\StabS S' w'/\SLe S S'/\(∀k,k<w.heap.size->(∀o,S' k o=S k o)/\S'.m k=S.m k)/\S'.m b=Hn/\MapAt S' w' b c/\Below w.heap.size w w'
def Xt (P:Program) (f:FuncId) (args:List PV) (r:PV):Prop:=
 ∀(w:World) (S:Stable) (vs:List Value),vs.length=args.length->(∀i,i<args.length->Rep S (vs.getD i undef) (args.getD i .any))-> ∃v,Rep S v r/\(callFunc f ⟨vs⟩).run P w= .ok (.value v) w
def Rw (P:Program) (f:FuncId) (args:List PV) (r:Nat->PV) (n sz:Nat) (e:TypeId):Prop:=
 WS P f/\(∀d,∀i∈(r d).ids,i= .r d)/\ ∀(w:World) (S:Stable) (vs:List Value),StabS S w->ZmP S w->vs.length=args.length->(∀i,i<args.length->Rep S (vs.getD i undef) (args.getD i .any))->
  Calls P f ⟨vs⟩ w λb w'=>∃v S' κ ψ,b= .returned v/\(∀(d:Nat) (M:Maps) (q:Rows),M.κ d=κ->M.ψ d=ψ->q d=Hs (.live n sz e)->RepS S' M q v (r d))/\
   Zd2 (λk=>k<w.heap.size) S' ⟨id,λ_=>ψ,λ_=>κ⟩ w' 0 (.live n sz e)/\StabS S' w'/\SLe S S'/\(∀k,k<w.heap.size->(∀o,S' k o=S k o)/\S'.m k=S.m k)/\Below w.heap.size w w'
def Zvs (P:Program) (g:FuncId) (args:List PV) (m:Hp) (K:PV->Hp->Prop):Prop:=
 (∃r,Pure P g (PV.sealL m.o args) r/\r.nomap=Ht/\K r m)\/
 (∃b c A r c',m.o b=Hs c/\args=A b/\Wr P g A c r c'/\K r { m with o:=upd m.o b (Hs c') })\/
 (∃r c,Mk P g args r c/\ ∀b,m.o b=Hn->K (r b) { m with o:=upd m.o b (Hs c) })\/
 (∃r,Xt P g args r/\K r m)\/
 (∃r n sz e d,Rw P g args r n sz e/\m.q d=Hn/\K (r d) (m.setq d (.live n sz e)))
def CallS (P:Program) (g:FuncId) (args:List PV) (m:Hp) (r:PV) (m':Hp):Prop:=
 WS P g/\ ∀(B:Frm) (S:Stable) (M:Maps) (s:St) (a:Act) (w:World) (vs:List Value),s.m=m->Sim B S M s a w->vs.length=args.length->(∀i,i<args.length->RepS S M m.q (vs.getD i undef) (args.getD i .any))->(∀p∈args,∀i∈p.ids,ZI m i)->
  Calls P g ⟨vs⟩ w λb w'=>∃v S' M',b= .returned v/\Sim B S' M' (s.with m') a w'/\RepS S' M' m'.q v r/\(∀i∈r.ids,ZI m' i)/\Ext B S S' w w'
def Zvr (P:Program) (g:FuncId) (args:List PV) (m:Hp) (K:PV->Hp->Prop):Prop:=
 (∃args0 m0 r m1 b c,Eff P g args0 m0 r m1/\FitsM m0 m1 b c m/\(Jw m args=args0.map (PV.ren b c)\/args=args0.map (PV.ren b c))/\K (r.ren b c) (Zbg m1 b c m))\/
 ∃r m',CallS P g args m r m'/\K r m'
def ZsQ:List PV->Bool
 | .vsl _ _ _::_=>Ht
 |_=>Hf
def vmB (dst:Option Nat) (m:Hp):Bool:=
 match dst with
 |some d=>m.vm d
 |none=>Hf
def Zsq (x y:PV) (d:Nat) (ei:EInfo) (ys:List PV) (m:Hp) (K:PV->Hp->Prop):Prop:=
 match x with
 | .vsl id n sz=>match m.v id with
  |some es=>es.length=n/\sz=ei.size/\m.q id=Hs (.vec n sz ei.e)/\(d=id\/m.q d=Hn)/\ZdT y m ys ei.size [id,d]/\(∀p∈es++ys,.r id∉p.ids)/\ZkQ (n+ys.length) ei.bytes/\
    K (.vsl d (n+ys.length) sz) (Zqx m id d (n+ys.length) sz ei.e (es++ys))
  |none=>False
 | .sl .nil []=>m.q d=Hn/\ZdT y m ys ei.size [d]/\(∀p∈ys,.r d∉p.ids)/\ZkQ ys.length ei.bytes/\K (.vsl d ys.length ei.size) { m.setq d (.vec ys.length ei.size ei.e)with v:=upd m.v d (Hs ys) }
 |_=>False
def Zw6 (P:Program) (dst:Option Nat) (b:List TypeId) (xs:List PV) (m:Hp) (K:PV->Hp->Prop):Prop:=
 match dst,b,xs with
 |some d,[t,tx],[x,y]=>match XS P t,VQ P tx y m with
  |some ei,Hs ys=>(∀p∈ys,p.cells.length=ei.size/\p.cells.all KQ=Ht)/\Zsq x y d ei ys m K
  |_,_=>False
 |_,_,_=>False
def Zvh (P:Program) (dst:Option Nat) (t:TypeId) (len:Nat) (parts:List (Nat×PV)) (m:Hp) (K:PV->Hp->Prop):Prop:=
 match dst,XS P t with
 |some d,Hs ei=>m.q d=Hn/\len=parts.length/\len*ei.size<=16777216/\T5 ei.size d 0 parts/\K (.vsl d len ei.size) { m.setq d (.vec len ei.size ei.e)with v:=upd m.v d (Hs (parts.map (·.2))) }
 |_,_=>False
def ZgK (x:PV) (m:Hp) (K:PV->Hp->Prop):Prop:=
 match x with
 | .mref b=>match m.o b with
  |some c=>∀d,m.it d=Hn->K (.iptr d) { m with it:=upd m.it d (Hs ⟨b,c.ks.length,[],Hn⟩) }
  |none=>False
 | .rmap ks vs=>∀d b,m.it d=Hn->K (.iptr d) { m with it:=upd m.it d (Hs ⟨b,ks.length,[],Hs ⟨ks,vs⟩⟩) }
 |_=>False
def Zoq (x:PV) (m:Hp) (K:PV->Hp->Prop):Prop:=
 match x with
 | .iptr ib=>match m.it ib with
  |some it=>match mapIt m it with
   |some c=>c.ks.length=it.n/\((∀i,i<it.n->i∈it.seen)->K (.tup [.bool Hf]) m)/\
     ∀i,i<it.n->i∉it.seen->K (.tup [.bool Ht,c.ks.getD i .any,c.vs.getD i .any]) { m with it:=upd m.it ib (Hs ⟨it.b,it.n,it.seen++ [i],it.c⟩) }
   |none=>False
  |none=>False
 |_=>False
def ZtM (m:Hp) (K:PV->Hp->Prop):Prop:=∀b,m.o b=Hn->K (.mref b) { m with o:=upd m.o b (Hs ⟨[],[]⟩) }
def ZfM (P:Program) (t:TypeId) (x k:PV) (m:Hp) (K:PV->Hp->Prop):Prop:=
 match x,Zsj P t,k with
 | .mref b,Hs (ls,z),.agg cs=>match m.om b with
  |some c=>match Td ls cs c.ks 0 with
   |some r=>cs.length=ls.length/\Kg cs=Ht/\K (ZuZ z c r) { m with om:=upd m.om b (Hs (Zxr z cs c r)) }
   |none=>False
  |none=>False
 |_,_,_=>False
def Zg6 (x d v:PV) (m:Hp) (K:PV->Hp->Prop):Prop:=
 match x,d with
 | .mref b,.int .i64 k=>match m.om b with
  |some c=>0<=k/\k.toNat<c.ks.length/\K (.tup []) { m with om:=upd m.om b (Hs ⟨c.ks,c.vs.set k.toNat v⟩) }
  |none=>False
 |_,_=>False
def Zji:PV->Bool
 | .sl .no es=>es.isEmpty
 |_=>Hf
def spec (P:Program) (o:Oper) (s:St) (K:St->Prop):Prop:=
 match o.op with
 | .call c=>match ZJ s.eval c with
  |some (g,args)=>(Js s.m args/\Zvs P g (Jw s.m args) s.m λr m=>K ((s.with m).put o.dst r))\/Zvr P g args s.m λr m=>K ((s.with m).put o.dst r)
  |none=>match c.callee with
   | .builtin .append=>Zw6 P o.dst c.argTypes.toList (c.args.toList.map s.eval) s.m λr m=>K ((s.with m).put o.dst r)
   |_=>False
 | .buildSlice t len parts=>Zvh P o.dst t len (parts.toList.map λx=>(x.1,s.eval x.2)) s.m λr m=>K ((s.with m).put o.dst r)
 | .makeMap _ Hn=>ZtM s.m λr m=>K ((s.with m).put o.dst r)
 | .mapEntry t x k=>ZfM P t (s.eval x) (s.eval k) s.m λr m=>K ((s.with m).put o.dst r)
 | .entryStore t x st v=>o.dst=Hn/\Zg6 (s.eval x) (s.eval st) (s.eval v) s.m λr m=>K ((s.with m).put o.dst r)
 | .range t x=>ZiX P t=Ht/\ZgK (s.eval x) s.m λr m=>K ((s.with m).put o.dst r)
 | .next x Hf=>Zoq (s.eval x) s.m λr m=>K ((s.with m).put o.dst r)
 | .binOp .eql t x (.const (.slice Hn 0 0)) _=>(Ze8 P t= .slc/\Zji (s.eval x)=Ht)/\ ∀b,K ((s.with s.m).put o.dst (.bool b))
 |_=>False
end Go.PL
namespace Go.PL
open Go.RowKit
section
variable {P:Program} {B:Frm} {S:Stable} {M:Maps} {s:St} {a:Act} {w:World}
def RepS.iptr_inv {v:Value} {qq:Rows} {b:Nat} (r:RepS S M qq v (.iptr b)):v= .pointer (Hs ⟨b,0,Hn⟩):=by
 cases r with|clean r=>cases r;rfl
theorem Sim.growX (l:Sim B S M s a w) {b:Nat} (R:∀vs t f,w.heap[b]? ≠ Hs (.cells vs t f)) {S':Stable} {w':World} (A:SLe S S') (E:∀k,k<w.heap.size->k≠b-> ∀o,S' k o=S k o)
  (J:∀k,k<w.heap.size->k≠b->w'.heap[k]? = w.heap[k]?) (Y:w.heap.size<=w'.heap.size) {o':Nat->Option MapC} {it':Nat->Option IterC} (W:Stab B S' w' o' it') (xa:∀k d,s.m.om k=Hs d->k≠b/\o' k=Hn/\S'.m k=Hn):Sim B S' M (s.with { s.m with o:=o',it:=it' }) a w':=by
 have rep:∀ {v p},RepS S M s.m.q v p->RepS S' M s.m.q v p:=λr=>r.heap A (λ_ _=>rfl) (λ_ _=> .refl _ _ _)
 have live:∀i,ZI s.m i->ZI { s.m with o:=o',it:=it' } i:=λi h=>by cases i<;>exact h
 refine⟨l.defers,l.hn,λk z=>Kz (l.hB k z) Y,W,λi=>rep (l.fr i),λi k z=>live k (l.ids i k z),λid cs O=> ?_,λid r Z=> ?_,l.inj,l.injq,l.injx,λk d z=> ?_,λi es X=> ?_,⟨l.pn.h,l.pn.q⟩,l.zle A⟩;have C:=l.blk id cs O;show DJ _ _ _ _ _ _ _ (s.m.z id);cases V:s.m.z id with
 |false=>
  rw[V]at C;have y:=l.blk_lt O V;obtain⟨N,D,⟨vs,t,h3,h4,h5⟩,h6⟩:=C;have u:M.φ id≠b:=λe=>R _ _ _ (e▸h3)
  exact⟨N,λo=>by rw[E _ y u];exact D o,⟨vs,t,by rw[J _ y u];exact h3,h4,λj T=>rep (h5 j T)⟩,λc O k z=>live k (h6 c O k z)⟩
 |true=>
  rw[V]at C;obtain⟨vals,hv⟩:=C;exact⟨vals,λj T=>⟨A _ _ _ (hv j T).1,(hv j T).2.mono A⟩⟩
 have L:=l.row id r Z;cases r with
 |live n sz e=>
  obtain⟨N,D⟩:=L;refine⟨N,λc z=> ?_⟩;have y:=l.row_lt Z rfl (by omega);obtain⟨g0,F,K,⟨vs,G,U⟩,I⟩:=D c z;have u:M.ψ id≠b:=λe=>R _ _ _ (e▸G)
  exact⟨g0,F,K,⟨vs,by rw[J _ y u];exact G,U⟩,λo ho=>by rw[E _ y u];exact I o ho⟩
 |vec n sz e=>
  obtain⟨N,D⟩:=L;refine⟨N,λc z=> ?_⟩;have y:=l.row_lt Z rfl (by omega);obtain⟨g0,F,K,⟨vs,G,U⟩,I⟩:=D c z;have u:M.ψ id≠b:=λe=>R _ _ _ (e▸G)
  exact⟨g0,F,K,⟨vs,by rw[J _ y u];exact G,U⟩,λo=>by rw[E _ y u];exact I o⟩
 |dead=>trivial
 obtain⟨K,G,U,I⟩:=l.rm k d z;obtain⟨e1,e2,e3⟩:=xa k d z;exact⟨K,e3,e2,I.move A (J k I.lt e1) (λv p r _=>rep r) live⟩;refine(l.vc i es X).move (λ_ _ _ h=>h) rfl rfl (λz=>J _ (l.vec_lt X z) λee=> ?_) (λv p r _=>rep r) live;obtain⟨sz,e,q1⟩:=l.vec_q X;obtain⟨_,D⟩:=l.row i _ q1;obtain⟨_,_,_,⟨vs,k5,_⟩,_⟩:=D (M.κ i-1) (by omega);exact R _ _ _ (ee▸k5)
def Sx (k:Sim B S M s a w) {f:Operand} {cargs:List Operand} {l:Array TypeId} {g:FuncId} {args:List PV} (c:ZJ s.eval ⟨.value f,⟨cargs⟩,l⟩=Hs (g,args)) (v:Js s.m args) (d:WS P g)
  {dst:Option Tmp} {ty:TypeId} {pos:String} {after:Array Edge} {guard:Option (Nat×Bool)}:
  ∃vs:List Value,vs.length=args.length/\(∀i,i<args.length->Rep S (vs.getD i undef) ((Jw s.m args).getD i .any))/\(execOp a.eval ⟨dst,.call ⟨.value f,⟨cargs⟩,l⟩,ty,pos,after,guard⟩).run P w= .ok (.enter g ⟨vs⟩) w:=by
 unfold ZJ at c;simp only at c;split at c;rename_i C caps p;simp only[Jm.injEq,Ke.injEq]at c;obtain⟨rfl,rfl⟩:=c;have n:=k.eval f;rw[p]at n;obtain⟨vs,hv,y,A⟩:=n.fn_inv;obtain⟨fn,c1,z,t⟩:=d;have b:∀i,i<(cargs.map s.eval++caps).length->RepS S M s.m.q ((cargs.map a.eval++vs).getD i undef) ((cargs.map s.eval++caps).getD i .any):=by
  intro i e;by_cases j:i<cargs.length;rw[Zf (by simpa using j),Zf (by simpa using j)];exact SI (s:=s) k.eval i (by simpa using j);rw[Zg (by simp;omega),Zg (by simp;omega)];simp only[Jh];exact A _ (by simp at e;omega)
 refine⟨cargs.map a.eval++vs,by simp[y],λi e=> ?_,?_⟩;rw[JR _ _ i e];exact(b i e).give k (Kh v i e);have u:¬fn.body=none:=by intro h;simp[h]at t
 simp[execOp,resolve,Deferred.ofValue,hv,invoke,callFunc,program,Km,c1,u,z];cases c
theorem RepS.giveE (e:Sim B S M s a w) {v:Value} {p:PV} (r:RepS S M s.m.q v p):RepS S M s.m.q v (p.give s.m):=by
 induction r with
 |clean r=>exact .clean (r.give s.m)
 |ptr id off=>
  cases c:s.m.z id with
  |false=>simp only[Jy,c];exact .ptr id off
  |true=>
   cases d:s.m.h id with
   |none=>simp only[Jy,c,d];exact .ptr id off
   |some cs=>exact .clean ((RepS.ptr (S:=S) (M:=M) (q:=s.m.q) id off).give e ⟨c,by rw[d];simp⟩)
 |osl id off len cap sz hc=>exact .osl id off len cap sz hc
 |row id v es r _=>exact .clean r
 |vsl id len sz v hv t=>exact .vsl id len sz v hv t
 |vptr id n sz i off v hv b t=>exact .vptr id n sz i off v hv b t
 |agg vs cs hl _ ih=>exact .agg vs _ (by rw[Jf];exact hl) (λi b=>by rw[Jf]at b;rw[JR s.m cs i b];exact ih i b)
 |tup vs cs hl _ ih=>exact .tup vs _ (by rw[Jf];exact hl) (λi b=>by rw[Jf]at b;rw[JR s.m cs i b];exact ih i b)
 |fn f vs cs hl _ ih=>exact .fn f vs _ (by rw[Jf];exact hl) (λi b=>by rw[Jf]at b;rw[JR s.m cs i b];exact ih i b)
def ZaK (k:Sim B S M s a w) {f:Operand} {cargs:List Operand} {l:Array TypeId} {g:FuncId} {args:List PV} (c:ZJ s.eval ⟨.value f,⟨cargs⟩,l⟩=Hs (g,args)) (d:WS P g)
  {dst:Option Tmp} {ty:TypeId} {pos:String} {after:Array Edge} {guard:Option (Nat×Bool)}:
  ∃vs:List Value,vs.length=args.length/\(∀i,i<args.length->RepS S M s.m.q (vs.getD i undef) ((Jw s.m args).getD i .any))/\(∀i,i<args.length->RepS S M s.m.q (vs.getD i undef) (args.getD i .any))/\(execOp a.eval ⟨dst,.call ⟨.value f,⟨cargs⟩,l⟩,ty,pos,after,guard⟩).run P w= .ok (.enter g ⟨vs⟩) w:=by
 unfold ZJ at c;simp only at c;split at c;rename_i A caps p;simp only[Jm.injEq,Ke.injEq]at c;obtain⟨rfl,rfl⟩:=c;have n:=k.eval f;rw[p]at n;obtain⟨vs,hv,v,z⟩:=n.fn_inv;obtain⟨fn,c1,y,t⟩:=d;have b:∀i,i<(cargs.map s.eval++caps).length->RepS S M s.m.q ((cargs.map a.eval++vs).getD i undef) ((cargs.map s.eval++caps).getD i .any):=by
  intro i e;by_cases j:i<cargs.length;rw[Zf (by simpa using j),Zf (by simpa using j)];exact SI (s:=s) k.eval i (by simpa using j);rw[Zg (by simp;omega),Zg (by simp;omega)];simp only[Jh];exact z _ (by simp at e;omega)
 refine⟨cargs.map a.eval++vs,by simp[v],λi e=> ?_,b,?_⟩;rw[JR _ _ i e];exact(b i e).giveE k;have u:¬fn.body=none:=by intro h;simp[h]at t
 simp[execOp,resolve,Deferred.ofValue,hv,invoke,callFunc,program,Km,c1,u,y];cases c
def Stab.turn {S':Stable} {w':World} {o:Nat->Option MapC} {it:Nat->Option IterC} (v:Stab B S w o it) {b:Nat} {c:MapC} (j:SLe S S') (p:StabS S' w') (C:∀k,k<w.heap.size->k≠b->S'.m k=S.m k)
  (u:∀k,k<w.heap.size->k≠b->w'.heap[k]? = w.heap[k]?) (D:¬B b) (A:S'.m b=Hn) (z:MapAt S' w' b c) (n:∀x,it b≠Hs x):Stab B S' w' (upd o b (Hs c)) it:=by
 refine⟨p,λk d hd=> ?_,λk x y=> ?_⟩;by_cases e:b=k;subst e;rw[Za]at hd;cases hd;exact⟨D,A,z⟩;rw[Zb _ _ e]at hd;obtain⟨t,h,i⟩:=v.o k d hd;exact⟨t,by rw[C k i.lt (Jz e)];exact h,i.move j (u k i.lt (Jz e))⟩;obtain⟨t,h,i⟩:=v.i k x y;refine⟨t,?_,i.mono j⟩;have l:=h.lt;unfold IterAt at h ⊢;rw[u k l (λe=>by subst e;exact n x y)];exact h
def Zq4 (h:Sim B S M s a w) {f:Operand} {cargs:List Operand} {j:Array TypeId} {g:FuncId} {args:List PV} (c:ZJ s.eval ⟨.value f,⟨cargs⟩,j⟩=Hs (g,args)) (n:Js s.m args)
  {dst:Option Tmp} {ty:TypeId} {pos:String} {after:Array Edge} {guard:Option (Nat×Bool)}:
  ∃vs:List Value,vs.length=args.length/\(∀i,i<args.length->Rep S (vs.getD i undef) ((Jw s.m args).getD i .any))/\(execOp a.eval ⟨dst,.call ⟨.value f,⟨cargs⟩,j⟩,ty,pos,after,guard⟩).run P w=(callFunc g ⟨vs⟩).run P w:=by
 unfold ZJ at c;simp only at c;split at c;rename_i u caps l;simp only[Jm.injEq,Ke.injEq]at c;obtain⟨rfl,rfl⟩:=c;have k:=h.eval f;rw[l]at k;obtain⟨vs,hv,p,t⟩:=k.fn_inv;have b:∀i,i<(cargs.map s.eval++caps).length->RepS S M s.m.q ((cargs.map a.eval++vs).getD i undef) ((cargs.map s.eval++caps).getD i .any):=by
  intro i d;by_cases e:i<cargs.length;rw[Zf (by simpa using e),Zf (by simpa using e)];exact SI (s:=s) h.eval i (by simpa using e);rw[Zg (by simp;omega),Zg (by simp;omega)];simp only[Jh];exact t _ (by simp at d;omega)
 refine⟨cargs.map a.eval++vs,by simp[p],λi d=> ?_,?_⟩;rw[JR _ _ i d];exact(b i d).give h (Kh n i d);simp[execOp,resolve,Deferred.ofValue,hv,invoke];cases c
def Sim.addRow (p:Sim B S M s a w) {d κ ψ n sz:Nat} {e:TypeId} (hd:s.m.q d=Hn) (b:Zd2 B S ⟨id,λ_=>ψ,λ_=>κ⟩ w 0 (.live n sz e))
  (c:∀i r,s.m.q i=Hs r->r.own=Ht->0<M.κ i->0<κ->M.ψ i≠ψ) (j:∀i cs,s.m.h i=Hs cs->s.m.z i=Hf->0<κ->M.φ i≠ψ):
  Sim B S { M with ψ:=upd M.ψ d ψ,κ:=upd M.κ d κ } (s.with (s.m.setq d (.live n sz e))) a w:=
 p.layRow (.inl hd) (by simpa only[Zd2,Za]using b) (p.v_none λ_ _ _ h=>by rw[hd]at h;cases h) (λi r _ l u t _ k=>c i r l u t k) (λi cs l v _ k=>j i cs l v k)
def Sim.om_new (j:Sim B S M s a w) {b:Nat} (u:w.heap.size<=b) {S':Stable} (p:∀k,k<w.heap.size->S'.m k=S.m k) {o':Nat->Option MapC} (i:∀k,k≠b->o' k=s.m.o k) (k:Nat) (d:MapC) (h:s.m.om k=Hs d):k≠b/\o' k=Hn/\S'.m k=none:=by
 obtain⟨v,t,n,l⟩:=j.rm k d h;have e:=l.lt;have c:k≠b:=by omega
 exact⟨c,by rw[i k c];exact n,by rw[p k e];exact t⟩
theorem Zee (j:Sim B S M s a w) {c:Call} {g:FuncId} {args:List PV} (b:ZJ s.eval c=Hs (g,args)):∀p∈args,∀i∈p.ids,ZI s.m i:=by
 have e:∀x:Operand,∀i∈(s.eval x).ids,ZI s.m i:=λx i d=>by
  cases x with
  |tmp t=>exact j.ids t i d
  |const v=>simp[St.eval,W7]at d
  |_=>simp[St.eval,Jb,Jp]at d
 unfold ZJ at b;split at b;rename_i k l;split at b;rename_i f n caps h;simp only[Jm.injEq,Ke.injEq]at b;obtain⟨rfl,rfl⟩:=b;intro p hp i d;rcases Ji.1 hp with hp|hp;obtain⟨x,_,rfl⟩:=Je.1 hp;exact e x i d;refine e k i ?_;rw[h];simp only[Jb,Jr];exact⟨p,hp,d⟩;cases b;cases b
theorem U0 (p:Sim B S M s a w) {o:Oper} {K:St->Prop} (hd:∀x,o.dst=Hs x->x<s.n) (h:spec P o s K) (next:Act->World->Prop) (Q:Exit->Act->World->Prop)
  (hn:∀s' v w' S' M',K s'->Sim B S' M' s' (a.put o.dst v) w'->Ext B S S' w w'->next (a.put o.dst v) w'):o.wp P a w next Q:=by
 obtain⟨dst,op,ty,pos,after,guard⟩:=o;unfold spec at h;simp only at h hd hn ⊢;cases op with
 |call c=>
  obtain⟨callee,cargs,ts⟩:=c;obtain⟨cargs⟩:=cargs;cases callee with
  |value f=>
   simp only at h;cases U:ZJ s.eval ⟨.value f,⟨cargs⟩,ts⟩with
   |none=>rw[U]at h;exact h.elim
   |some ga=>
    obtain⟨g,args⟩:=ga;rw[U]at h;unfold Oper.wp;rcases h with ⟨hg,hx⟩|⟨args0,m0,r,m1,f',g',xl,yh,G,D⟩|⟨r,m',yg,D⟩
    rotate_left
    ·obtain⟨vs,hl,L,xe,C⟩:=ZaK (dst:=dst) (ty:=ty) (pos:=pos) (after:=after) (guard:=guard) p U xl.cal;rw[C];show Calls P g ⟨vs⟩ w _;have xx:args.length=args0.length:=by
      rcases G with G|G
      ·rw[<-Jf s.m args,G];simp
      ·rw[G];simp
     refine(xl.call p yh (vs:=vs) (by omega) (λi E=> ?_)).mono λen w' hq=> ?_
     ·rcases G with G|G
      ·have:=L i (by omega);rw[G,getD_lt (l:=args0.map _) (by simpa using E),Jl]at this;rw[getD_lt E];exact this
      ·have:=xe i (by omega);rw[G,getD_lt (l:=args0.map _) (by simpa using E),Jl]at this;rw[getD_lt E];exact this
     ·obtain⟨v,S',M',rfl,W,h3,h4,h5⟩:=hq;exact hn _ v w' S' M' D (W.put hd h3 h4) h5
    ·obtain⟨vs,hl,_,xe,C⟩:=ZaK (dst:=dst) (ty:=ty) (pos:=pos) (after:=after) (guard:=guard) p U yg.1;rw[C];show Calls P g ⟨vs⟩ w _;refine(yg.2 B S M s a w vs rfl p hl xe (Zee p U)).mono λen w' hq=> ?_
     obtain⟨v,S',M',rfl,W,h3,h4,h5⟩:=hq;exact hn _ v w' S' M' D (W.put hd h3 h4) h5
    rcases hx with ⟨r,⟨V,_,J⟩,xo,D⟩|⟨b,c,A,r,c',T,hA,⟨V,_,J⟩,D⟩|⟨r,c,⟨V,_,J⟩,D⟩|⟨r,yw,D⟩|⟨r,n,sz,e,d,⟨V,zg,J⟩,yi,D⟩
    ·obtain⟨vs,hl,L,C⟩:=Sx (dst:=dst) (ty:=ty) (pos:=pos) (after:=after) (guard:=guard) p U hg V;rw[C];show Calls P g ⟨vs⟩ w _;refine(J w (FZ S w s.m.o) vs (ZdB p.stable) p.young (by rw[YB,Jf];exact hl) (λi E=> ?_)).mono λe w' hq=> ?_
     ·rw[YB,Jf]at E;rw[VH _ _ i (by rw[Jf];exact E)];exact(L i E).shut p.stable
     ·obtain⟨v,S1,rfl,W,h3,h4,h5,h6⟩:=hq
      let S':Stable:=⟨S1.c,λk=>match s.m.o k with|some _=>Hn|none=>S1.m k,S1.z,S1.y⟩
      have m1:∀k c,s.m.o k=Hs c->S'.m k=none:=λk c U=>by simp[S',U]
      have m2:∀k,s.m.o k=Hn->S'.m k=S1.m k:=λk U=>by simp[S',U]
      have m3:∀k,s.m.o k=Hn->(FZ S w s.m.o).m k=S.m k:=λk U=>by simp[FZ,U]
      have l1:SLe S S':=⟨λk o v hv=>h4.c k o v hv,λk es he=>by
       cases Z:s.m.o k with
       |some c=>rw[(p.stable.o k c Z).2.1]at he;cases he
       |none=>rw[m2 k Z];exact h4.m k es (by rw[m3 k Z];exact he),h4.z,h4.y⟩
      have l2:∀k,k<w.heap.size->(∀o,S' k o=S k o)/\S'.m k=S.m k:=λk D=>by
       obtain⟨a1,a2⟩:=h5 k D;refine⟨a1,?_⟩;cases Z:s.m.o k with
       |some c=>rw[m1 k c Z,(p.stable.o k c Z).2.1]
       |none=>rw[m2 k Z,a2,m3 k Z]
      have l3:StabS S' w':=⟨h3.c,λk es he=>by
       cases Z:s.m.o k with
       |some c=>rw[m1 k c Z]at he;cases he
       |none=>rw[m2 k Z]at he;exact h3.m k es he,h3.y⟩
      have N:=p.grow l1 l2 l3 h6.block h6.size;have yf:Rep S' v r:=Rep.cells_only (S:=S1) (S':=S') rfl rfl (λ_ h=>h) W xo;exact hn _ v w' S' M D (N.put hd (.clean yf) (λi E=>absurd E (yf.clean_ids i))) ⟨l1,λk D=>l2 k (p.hB k D),(Kt h6).mono p.hB⟩
    ·obtain⟨vs,hl,L,C⟩:=Sx (dst:=dst) (ty:=ty) (pos:=pos) (after:=after) (guard:=guard) p U hg V;rw[C];show Calls P g ⟨vs⟩ w _;obtain⟨q1,q2,q3⟩:=p.stable.o b c T;rw[hA]at L;refine(J b w S vs p.stable.s p.young (p.hz b q1) q2 q3 (by rw[<-hA,Jf];exact hl) (λi E=>L i (by rw[<-hA,Jf]at E;exact E))).mono λe w' hq=> ?_
     obtain⟨v,S',rfl,W,h3,h4,h5,xn,h6,h7⟩:=hq;have xg:∀vs t f,w.heap[b]? ≠ Hs (.cells vs t f):=λvs t f hh=>by obtain⟨es,e1,_⟩:=q3;rw[e1]at hh;cases hh
     have xt:∀x,s.m.it b≠Hs x:=λx hx=>by
      have h1:=(p.stable.i b x hx).2.1;obtain⟨es,e1,_⟩:=q3;unfold IterAt at h1;rw[e1]at h1;cases h1
     have R:Stab B S' w' (upd s.m.o b (Hs c')) s.m.it:=p.stable.turn h4 h3 (λk D xf=>(h5 k D xf).2) (λk D xf=>h7.block k ⟨D,xf⟩) q1 xn h6 xt;have N:=p.growX xg h4 (λk D xf=>(h5 k D xf).1) (λk D xf=>h7.block k ⟨D,xf⟩) h7.size R (λk d D=>⟨(p.om_ne D T (x:=Hn)).1,(p.om_ne D T).2,by rw[(h5 k (p.rm k d D).2.2.2.lt (p.om_ne D T (x:=Hn)).1).2];exact(p.rm k d D).2.1⟩);exact hn _ v w' S' M D (N.put hd (.clean W) (λi E=>absurd E (W.clean_ids i))) ⟨h4,λk D=>h5 k (p.hB k D) (λe=>q1 (e▸D)),h7.mono (λk D=>⟨p.hB k D,λe=>q1 (e▸D)⟩)⟩
    ·obtain⟨vs,hl,L,C⟩:=Sx (dst:=dst) (ty:=ty) (pos:=pos) (after:=after) (guard:=guard) p U hg V;rw[C];show Calls P g ⟨vs⟩ w _;refine(J w S vs p.stable.s p.young (by rw[Jf];exact hl) (λi E=>L i (by rw[Jf]at E;exact E))).mono λe w' hq=> ?_
     obtain⟨v,S',b,rfl,yz,W,h3,h4,h5,xn,h6,h7⟩:=hq;have xm:s.m.o b=none:=by
      cases Z:s.m.o b with
      |none=>rfl
      |some d=>have:=(p.stable.o b d Z).2.2.lt;omega
     have ze:¬B b:=λhh=>by have:=p.hB b hh;omega
     have xg:∀vs t f,w.heap[b]? ≠ Hs (.cells vs t f):=λvs t f hh=>by have:=(Jt.1 hh).1;omega
     have xt:∀x,s.m.it b≠Hs x:=λx hx=>by have:=(p.stable.i b x hx).2.1.lt;omega
     have R:Stab B S' w' (upd s.m.o b (Hs c)) s.m.it:=p.stable.turn h4 h3 (λk D _=>(h5 k D).2) (λk D _=>h7.block k D) ze xn h6 xt;have N:=p.growX xg h4 (λk D _=>(h5 k D).1) (λk D _=>h7.block k D) h7.size R (p.om_new yz (λk D=>(h5 k D).2) λk D=>Zb _ _ (Jz D));exact hn _ v w' S' M (D b xm) (N.put hd (.clean W) (λi E=>absurd E (W.clean_ids i))) ⟨h4,λk D=>h5 k (p.hB k D),(Kt h7).mono p.hB⟩
    ·obtain⟨vs,hl,L,C⟩:=Zq4 (dst:=dst) (ty:=ty) (pos:=pos) (after:=after) (guard:=guard) p U hg;obtain⟨v,hv,xu⟩:=yw w S vs (by rw[Jf];exact hl) (λi E=>L i (by rw[Jf]at E;exact E));rw[C,xu];exact hn _ v w S M D (p.put hd (.clean hv) (λi E=>absurd E (hv.clean_ids i))) (JO _ _ _)
    ·obtain⟨vs,hl,L,C⟩:=Sx (dst:=dst) (ty:=ty) (pos:=pos) (after:=after) (guard:=guard) p U hg V;rw[C];show Calls P g ⟨vs⟩ w _;refine(J w S vs p.stable.s p.young (by rw[Jf];exact hl) (λi E=>L i (by rw[Jf]at E;exact E))).mono λen w' hq=> ?_
     obtain⟨v,S',κ,ψ,rfl,h1,W,h3,h4,h5,h6⟩:=hq;have xj:=p.grow h4 h5 h3 h6.block h6.size;have hψ:0<κ->w.heap.size<=ψ:=λh0=>by
      obtain⟨_,O⟩:=W;obtain⟨_,_,g3,_⟩:=O (κ-1) (by show κ=_;omega);exact Nat.not_lt.1 g3
     have yo:=xj.addRow (d:=d) (κ:=κ) (ψ:=ψ) (n:=n) (sz:=sz) (e:=e) yi
      (by
       obtain⟨X,O⟩:=W;refine⟨X,λc U=> ?_⟩;obtain⟨k1,k2,k3,k4,k5⟩:=O c U;exact⟨k1,k2,λhB=>k3 (p.hB _ hB),k4,k5⟩)
      (λi r1 E oi ki k0=>by have:=p.row_lt E oi ki;have:=hψ k0;omega)
      (λi cs E zi k0=>by have:=p.blk_lt E zi;have:=hψ k0;omega)
     have yr:=h1 d { M with ψ:=upd M.ψ d ψ,κ:=upd M.κ d κ } (s.m.setq d (.live n sz e)).q (Za _ _ _) (Za _ _ _) (Za _ _ _);exact hn _ v w' S' _ D (yo.put hd yr (λi E=>by
      rw[zg d i E];show upd s.m.q d _ d≠Hn;rw[Za];simp)) ⟨h4,λk D=>h5 k (p.hB k D),(Kt h6).mono p.hB⟩
  |builtin b=>
   cases b with
   |append=>
    simp only[ZJ]at h;unfold Zw6 at h;split at h
    ·rename_i d t tx x y yc xb;split at h
     ·rename_i ei ys h1 W;obtain⟨g4,h⟩:=h;obtain⟨x1,x2,rfl,e1,e2⟩:∃x1 x2,cargs= [x1,x2]/\s.eval x1=x/\s.eval x2=y:=by
       have xb:cargs.map s.eval= [x,y]:=xb;clear yc;rcases cargs with _|⟨x1,_|⟨x2,_|⟨x3,l⟩⟩⟩
       ·simp at xb
       ·simp at xb
       ·simp at xb;exact⟨x1,x2,rfl,xb.1,xb.2⟩
       ·simp at xb
      obtain⟨yq⟩:=ts;have ya:yq= [t,tx]:=yc;subst ya;unfold Oper.wp;have C:∀ {rr w'},(KJ #[t,tx] ty #[a.eval x1,a.eval x2]).run P w= .ok rr w'->(execOp a.eval ⟨Hs d,.call ⟨.builtin .append,⟨[x1,x2]⟩,⟨[t,tx]⟩⟩,ty,pos,after,guard⟩).run P w= .ok (.value rr) w':=λk1=>by
       simp[execOp,resolve,invoke,builtin,k1]
      unfold Zsq at h;split at h
      ·rename_i id n sz;split at h
       ·rename_i es h3;obtain⟨g0,X,O,g3,g5,g6,g7,D⟩:=h;subst g0;subst X;have r1:=p.eval x1;rw[e1]at r1;have r2:=p.eval x2;rw[e2]at r2;obtain⟨rr,w',S',M',k1,k2,k3,k4⟩:=FK p (d:=d) (ty:=ty) h1 r1 h3 O r2 W g5 g3 g4 g6 g7;rw[C k1];refine hn _ rr w' S' M' D (k2.put hd k3 λi E=> ?_) k4;simp only[Jb,Jo]at E;subst E;show(Zqx _ _ _ _ _ _ _).q d≠Hn;unfold Zqx;split<;>simp[Hp.setq,Za]
       ·exact h.elim
      ·obtain⟨g0,g5,g6,g7,D⟩:=h;have xj:=p.nilVec (sz:=ei.size) (e:=ei.e) g0;have r1:=p.eval x1;rw[e1]at r1;have hu:a.eval x1= .slice Hn 0 0:=r1.slnil_inv;have yk:RepS S { M with κ:=upd M.κ d 0 } (upd s.m.q d (Hs (.vec 0 ei.size ei.e))) (a.eval x1) (.vsl d ([]:List PV).length ei.size):=by
        rw[hu];refine .vsl d 0 ei.size _ ⟨Hn,0,rfl,JF _,λh=>absurd h (Nat.lt_irrefl _)⟩ λn' zh e' hq=> ?_
        rw[Za]at hq;cases hq;exact⟨JF _,λ_=>⟨rfl,λ_=>rfl,λc U=>by simp[Za]at U⟩⟩
       have r2:=xj.eval x2;have zf:RepS S { M with κ:=upd M.κ d 0 } (upd s.m.q d (Hs (.vec 0 ei.size ei.e))) (a.eval x2) y:=by rw[<-e2];exact r2
       have yl:VQ P tx y { s.m.setq d (.vec 0 ei.size ei.e)with v:=upd s.m.v d (Hs []) }=Hs ys:=by
        cases y<;>first|exact W|skip
        rename_i id n sz;have xp:d≠id:=λe=>g5.2.2.2 (by simp[e])
        simp only[VQ]at W ⊢;split at W
        ·rw[Zb _ _ xp];exact W
        ·cases W
       have yx:ZdT y { s.m.setq d (.vec 0 ei.size ei.e)with v:=upd s.m.v d (Hs []) } ys ei.size [d,d]:=by
        cases y<;>first|exact g5|skip
        rename_i id n sz;obtain⟨q1,q2,⟨e,q3⟩,q4⟩:=g5;have xp:d≠id:=λe=>q4 (by simp[e])
        refine⟨q1,q2,⟨e,?_⟩,by simpa using q4⟩;show upd s.m.q d _ id=_;rw[Zb _ _ xp];exact q3
       obtain⟨rr,w',S',M',k1,k2,k3,k4⟩:=FK xj (id:=d) (d:=d) (ty:=ty) (es:= []) h1 yk (Za _ _ _) (Za _ _ _) zf yl yx (.inl rfl) g4 (by simpa using g6) (by simpa using g7);rw[C k1];simp only[Zqx,if_true,St.with,Hp.setq,ZbV,JJ,KW,Ko]at k2 k3;refine hn _ rr w' S' M' D (k2.put hd k3 λi E=> ?_) k4;simp only[Jb,Jo]at E;subst E;simp[ZI,Za]
      ·exact h.elim
     ·exact h.elim
    ·exact h.elim
   |_=>simp[ZJ]at h
  |_=>simp[ZJ]at h
 |buildSlice t len parts=>
  obtain⟨parts⟩:=parts;simp only at h;unfold Zvh at h;split at h
  ·rename_i d ei hx;obtain⟨X,O,g3,g4,D⟩:=h;obtain⟨p1,p2,p3⟩:=ZeG p parts;subst O;obtain⟨v,w',M',k1,k2,k3,k4⟩:=ZpH p (d:=d) hx p1 p2 p3 X g3 g4;unfold Oper.wp;have C:(execOp a.eval ⟨Hs d,.buildSlice t (parts.map λx=>(x.1,s.eval x.2)).length ⟨parts⟩,ty,pos,after,guard⟩).run P w= .ok (.value v) w':=by
    simp only[Jh]at k1;simp only[execOp,Jh];have e:(Array.map (λx:Nat×Operand=>(x.fst,a.eval x.snd)) ⟨parts⟩)=⟨parts.map λx=>(x.fst,a.eval x.snd)⟩:=by simp
    first|rw[e]|skip
    simp[k1]
   rw[C];refine hn _ v w' S M' D (k2.put hd k3 λi E=> ?_) k4;simp only[Jb,Jo]at E;subst E;show upd s.m.q d _ d≠Hn;rw[Za];simp
  ·exact h.elim
 |makeMap t r=>
  cases r with
  |some _=>exact h.elim
  |none=>
   simp only at h;unfold Oper.wp;have C:(execOp a.eval ⟨dst,.makeMap t Hn,ty,pos,after,guard⟩).run P w= .ok (.value (.map (Hs w.heap.size))) (w.alloc (.map #[] 0)):=by
    simp[execOp,Instr.makeMap,newObj,Km]
   rw[C];have xm:s.m.o w.heap.size=none:=by
    cases Z:s.m.o w.heap.size with
    |none=>rfl
    |some d=>have:=(p.stable.o _ d Z).2.2.lt;omega
   have I:∀k,k<w.heap.size->(w.alloc (.map #[] 0)).heap[k]? = w.heap[k]? :=λk D=>ZU w _ D
   have xd:(w.alloc (.map #[] 0)).heap[w.heap.size]? = Hs (.map #[] 0):=alloc_heap_new w _;have R:Stab B S (w.alloc (.map #[] 0)) (upd s.m.o w.heap.size (Hs ⟨[],[]⟩)) s.m.it:=
    p.stable.turn (JH _) (p.stable.s.old I) (λ_ _ _=>rfl) (λk D _=>I k D) p.new_ok (p.S_m (JF _)) ⟨[],xd,rfl,rfl,λi E=>by simp at E,λi E=>by simp at E,λi E=>by simp at E⟩
     (λx hx=>by have:=(p.stable.i _ x hx).2.1.lt;omega)
   have N:=p.growX (b:=w.heap.size) (λvs t f hh=>by have:=(Jt.1 hh).1;omega) (JH _) (λ_ _ _ _=>rfl) (λk D _=>I k D) (by rw[Sr];omega) R (p.om_new (JF _) (λ_ _=>rfl) λk D=>by first|rfl|exact Zb _ _ (Jz D));exact hn _ _ _ S M (h w.heap.size xm) (N.put hd (.clean (.mref _)) (by simp[Jb])) (p.ext_alloc _)
 |mapEntry t x k=>
  simp only at h;unfold ZfM at h;split at h
  ·rename_i b ls z cs xa xc yn;split at h
   ·rename_i c T;split at h
    ·rename_i r hf;obtain⟨X,O,D⟩:=h;have ex:=p.eval x;rw[xa]at ex;have ek:=p.eval k;rw[yn]at ek;obtain⟨u,w',k1,k2,k3,k4,k5⟩:=ZrE p T xc ek hf X O;unfold Oper.wp;have C:(execOp a.eval ⟨dst,.mapEntry t x k,ty,pos,after,guard⟩).run P w= .ok (.value u) w':=by
      simp[execOp,ex.mref_inv,k1]
     rw[C];exact hn _ _ _ S M D (k2.put hd k3 λi E=>by have:=k5 i E;cases i<;>exact this) k4
    ·exact h.elim
   ·exact h.elim
  ·exact h.elim
 |entryStore t x st v=>
  simp only at h;obtain⟨yy,h⟩:=h;subst yy;unfold Zg6 at h;split at h
  ·rename_i b k xa R;split at h
   ·rename_i c T;obtain⟨X,O,D⟩:=h;have ex:=p.eval x;rw[xa]at ex;have es:=p.eval st;rw[R]at es;obtain⟨w',k1,k2,k3⟩:=ZrF (P:=P) (t:=t) p T (p.eval v) (p.eval_ids v) O;unfold Oper.wp;have C:(execOp a.eval ⟨Hn,.entryStore t x st v,ty,pos,after,guard⟩).run P w= .ok .skip w':=by
     rw[Int.toNat_of_nonneg X]at k1;simp[execOp,ex.mref_inv,es.int_inv,k1]
    rw[C];exact hn _ (.tuple #[]) w' S M D (k2.put hd (.clean (.tup [] [] rfl λi E=>by cases E)) (by simp[Jb,Jp])) k3
   ·exact h.elim
  ·exact h.elim
 |range t x=>
  simp only at h;obtain⟨xc,h⟩:=h;have ex:=p.eval x;unfold ZgK at h;split at h
  ·rename_i b xa;split at h
   ·rename_i c T;rw[xa]at ex;obtain⟨q1,q2,es,e1,e2,e3,e4,e5,e6⟩:=p.stable.o b c T;unfold ZiX at xc;split at xc
    ·rename_i kt et hu;unfold Oper.wp;have hg:=MapKept.run_getObj_map (P:=P) e1;have C:(execOp a.eval ⟨dst,.range t x,ty,pos,after,guard⟩).run P w= .ok (.value (.pointer (Hs ⟨w.heap.size,0,Hn⟩))) (w.alloc (.mapIter (Hs b) es.length #[] es.length)):=by
      simp[execOp,K1,run_underlying hu,ex.mref_inv,hg,newObj,Km]
     rw[C];have I:∀k,k<w.heap.size->(w.alloc (.mapIter (Hs b) es.length #[] es.length)).heap[k]? = w.heap[k]? :=λk D=>ZU w _ D
     have xd:=alloc_heap_new w (.mapIter (Hs b) es.length #[] es.length);have xr:s.m.it w.heap.size=none:=by
      cases Z:s.m.it w.heap.size with
      |none=>rfl
      |some d=>have:=(p.stable.i _ d Z).2.1.lt;omega
     have R:Stab B S (w.alloc (.mapIter (Hs b) es.length #[] es.length)) s.m.o (upd s.m.it w.heap.size (Hs ⟨b,c.ks.length,[],Hn⟩)):=by
      refine⟨p.stable.s.old I,λk d hd=> ?_,λk y hy=> ?_⟩
      ·obtain⟨X,O,g3⟩:=p.stable.o k d hd;exact⟨X,O,g3.move (JH _) (I k g3.lt)⟩
      ·by_cases e:w.heap.size=k
       ·subst e;rw[Za]at hy;cases hy;refine⟨p.new_ok,?_,λc U=>by cases U⟩;unfold IterAt;rw[xd,e2]
       ·rw[Zb _ _ e]at hy;obtain⟨X,O⟩:=p.stable.i k y hy;refine⟨X,?_⟩;have:=O.1.lt;unfold IterAt at O ⊢;rw[I k this];exact O
     have N:=p.growX (b:=w.heap.size) (λvs t f hh=>by have:=(Jt.1 hh).1;omega) (JH _) (λ_ _ _ _=>rfl) (λk D _=>I k D) (by rw[Sr];omega) R (p.om_new (JF _) (λ_ _=>rfl) λk D=>by first|rfl|exact Zb _ _ (Jz D));exact hn _ _ _ S M (h w.heap.size xr) (N.put hd (.clean (.iptr _)) (by simp[Jb])) (p.ext_alloc _)
    ·cases xc
   ·exact h.elim
  ·rename_i ks vs xa;rw[xa]at ex;generalize xw:a.eval x=u at ex;obtain⟨b,es,yu,hS,e2,e3,e4,e5,e6⟩:∃b es,u= .map (Hs b)/\S.m b=Hs es/\es.length=ks.length/\vs.length=ks.length/\(∀i,i<ks.length->(es.getD i Jd).born=i)/\
     (∀i,i<ks.length->Rep S (es.getD i Jd).key (ks.getD i .any))/\(∀i,i<ks.length->Rep S (es.getD i Jd).val (vs.getD i .any)):=by
    cases ex with
    |clean r=>cases r with
     |rmap b es _ _ hS D hv hb hK hV=>exact⟨b,es,rfl,hS,D,hv,hb,hK,hV⟩
   subst yu;have e1:=p.stable.s.m b es hS;unfold ZiX at xc;split at xc
   ·rename_i kt et hu;unfold Oper.wp;have hg:=MapKept.run_getObj_map (P:=P) e1;have C:(execOp a.eval ⟨dst,.range t x,ty,pos,after,guard⟩).run P w= .ok (.value (.pointer (Hs ⟨w.heap.size,0,Hn⟩))) (w.alloc (.mapIter (Hs b) es.length #[] es.length)):=by
     simp[execOp,K1,run_underlying hu,xw,hg,newObj,Km]
    rw[C];have I:∀k,k<w.heap.size->(w.alloc (.mapIter (Hs b) es.length #[] es.length)).heap[k]? = w.heap[k]? :=λk D=>ZU w _ D
    have xd:=alloc_heap_new w (.mapIter (Hs b) es.length #[] es.length);have xr:s.m.it w.heap.size=none:=by
     cases Z:s.m.it w.heap.size with
     |none=>rfl
     |some d=>have:=(p.stable.i _ d Z).2.1.lt;omega
    have R:Stab B S (w.alloc (.mapIter (Hs b) es.length #[] es.length)) s.m.o (upd s.m.it w.heap.size (Hs ⟨b,ks.length,[],Hs ⟨ks,vs⟩⟩)):=by
     refine⟨p.stable.s.old I,λk d hd=> ?_,λk y hy=> ?_⟩
     ·obtain⟨X,O,g3⟩:=p.stable.o k d hd;exact⟨X,O,g3.move (JH _) (I k g3.lt)⟩
     ·by_cases e:w.heap.size=k
      ·subst e;rw[Za]at hy;cases hy;refine⟨p.new_ok,?_,λc U=>by cases U;exact⟨es,hS,e2,e3,e4,e5,e6⟩⟩;unfold IterAt;rw[xd,e2]
      ·rw[Zb _ _ e]at hy;obtain⟨X,O⟩:=p.stable.i k y hy;refine⟨X,?_⟩;have:=O.1.lt;unfold IterAt at O ⊢;rw[I k this];exact O
    have N:=p.growX (b:=w.heap.size) (λvs t f hh=>by have:=(Jt.1 hh).1;omega) (JH _) (λ_ _ _ _=>rfl) (λk D _=>I k D) (by rw[Sr];omega) R (p.om_new (JF _) (λ_ _=>rfl) λk D=>by first|rfl|exact Zb _ _ (Jz D));exact hn _ _ _ S M (h w.heap.size b xr) (N.put hd (.clean (.iptr _)) (by simp[Jb])) (p.ext_alloc _)
   ·cases xc
  ·exact h.elim
 |next x isS=>
  cases isS with
  |true=>exact h.elim
  |false=>
   simp only at h;have ex:=p.eval x;unfold Zoq at h;split at h
   ·rename_i Y xa;split at h
    ·rename_i F xv;split at h
     ·rename_i c T;obtain⟨xx,xs,zb⟩:=h;rw[xa]at ex;have yv:a.eval x= .pointer (Hs ⟨Y,0,Hn⟩):=ex.iptr_inv;obtain⟨i1,i2,i3⟩:=p.stable.i Y F xv;obtain⟨es,e1,e2,e3,e4,e5,e6⟩:=p.mapIt xv T;unfold IterAt at i2;have xq:∀y∈es,y.born<F.n:=λy hy=>by
       obtain⟨j,hj,rfl⟩:=Jg hy;have:=e4 j (by omega);rw[getD_lt hj]at this;omega
      unfold Oper.wp;have he:∀v w',(Instr.next (.pointer (Hs ⟨Y,0,Hn⟩)) Hf ty).run P w= .ok v w'->(execOp a.eval ⟨dst,.next x Hf,ty,pos,after,guard⟩).run P w= .ok (.value v) w':=λv w' hh=>by
       simp[execOp,yv,hh]
      rcases run_next_at (P:=P) w ty Y F.b F.n F.n ⟨F.seen⟩ ⟨es⟩ es.length i2 e1 (by simpa using xq) (JF _)with ⟨hz,C⟩|⟨e,he1,w1,hw1,C⟩
      ·rw[he _ _ C];refine hn _ _ _ S M (xs λi E=> ?_) (p.put hd (.clean (.tup [.bool Hf] [.bool Hf] rfl (λi E=>by
        match i,E with
        |0,_=>exact .bool _))) (by simp[Jb,Jp])) (JO _ _ _)
       have xz:i<es.length:=by omega
       refine JV λxo=> ?_
       have xk:es[i]∈(leftOf ⟨es⟩ ⟨F.seen⟩).toList:=by
        unfold leftOf;simp only[Kw,KK];have hb:=e4 i (by omega);rw[getD_lt xz]at hb;refine⟨Jv xz,?_⟩;rw[hb];simpa using xo
       have h0:(leftOf ⟨es⟩ ⟨F.seen⟩).toList= []:=by
        apply List.eq_nil_of_length_eq_zero;simpa using hz
       rw[h0]at xk;cases xk
      ·rw[he _ _ C];unfold leftOf at he1;simp only[Kw,KK]at he1;obtain⟨hm,yd⟩:=he1;obtain⟨j,hj,rfl⟩:=Jg hm;have hb:=e4 j (by omega);have k5:=e5 j (by omega);have k6:=e6 j (by omega);rw[getD_lt hj]at hb k5 k6;rw[hb]at yd ⊢;have yb:j∉F.seen:=by simpa using yd
       have xi:w1.heap=w.heap:=by rcases hw1 with rfl|rfl<;>rfl
       have xh:∀k,k≠Y->(ChangeMaps.setBlock w1 Y (.mapIter (Hs F.b) F.n ((⟨F.seen⟩:Array Nat).push j) es.length)).heap[k]? = w.heap[k]? :=λk D=>by
        show(w1.heap.setIfInBounds Y _)[k]? = _;rw[xi,Array.getElem?_setIfInBounds_ne (Jz D)]
       have za:Y<w.heap.size:=(Jt.1 i2).1;have yp:(ChangeMaps.setBlock w1 Y (.mapIter (Hs F.b) F.n ((⟨F.seen⟩:Array Nat).push j) es.length)).heap[Y]? = Hs (.mapIter (Hs F.b) F.n ⟨F.seen++ [j]⟩ F.n):=by
        show(w1.heap.setIfInBounds Y _)[Y]? = _;rw[xi,Array.getElem?_setIfInBounds_self_of_lt za];have:es.length=F.n:=by omega
        rw[this];simp
       have xg:∀vs t f,w.heap[Y]? ≠ Hs (.cells vs t f):=λvs t f hh=>by rw[i2]at hh;cases hh
       have ym:S.m Y=none:=by
        cases hm:S.m Y with
        |none=>rfl
        |some l=>have:=p.stable.s.m Y l hm;rw[i2]at this;cases this
       have ye:(ChangeMaps.setBlock w1 Y (.mapIter (Hs F.b) F.n ((⟨F.seen⟩:Array Nat).push j) es.length)).heap.size=w.heap.size:=by
        show(w1.heap.setIfInBounds Y _).size=_;rw[xi];simp
       have R:Stab B S (ChangeMaps.setBlock w1 Y (.mapIter (Hs F.b) F.n ((⟨F.seen⟩:Array Nat).push j) es.length)) s.m.o (upd s.m.it Y (Hs ⟨F.b,F.n,F.seen++ [j],F.c⟩)):=by
        refine⟨Tq p.stable.s xg ym xh,λk d hd=> ?_,λk y hy=> ?_⟩
        ·obtain⟨X,O,g3⟩:=p.stable.o k d hd;refine⟨X,O,g3.move (JH _) (xh k (λe=> ?_))⟩;subst e;obtain⟨es',f1,_⟩:=g3;rw[i2]at f1;cases f1
        ·by_cases e:Y=k
         ·subst e;rw[Za]at hy;cases hy;exact⟨i1,yp,i3⟩
         ·rw[Zb _ _ e]at hy;obtain⟨X,O⟩:=p.stable.i k y hy;refine⟨X,?_⟩;unfold IterAt at O ⊢;rw[xh k (Jz e)];exact O
       have N:=p.special xg xh ye R (λk d D=>⟨λe=>(by subst e;obtain⟨⟨es,k1,_⟩,_⟩:=(p.rm _ d D).2.2.2;rw[i2]at k1;cases k1),(p.rm k d D).2.2.1⟩);have ht:w1.os=w.os/\w1.tape=w.tape/\w1.output=w.output:=by rcases hw1 with rfl|rfl<;>exact⟨rfl,rfl,rfl⟩
       refine hn _ _ _ S M (zb j (by omega) yb) (N.put hd (.clean (.tup [.bool Ht,_,_] [.bool Ht,_,_] rfl (λi E=>by
        match i,E with
        |0,_=>exact .bool _
        |1,_=>exact k5
        |2,_=>exact k6))) (λi E=> ?_)) ⟨JH _,λ_ _=>⟨λ_=>rfl,rfl⟩,⟨ht.1,ht.2.1,ht.2.2,by rw[ye];exact JF _,λk D=>xh k (λe=>i1 (e▸D))⟩⟩
       simp only[Jb,Jp,Ko,JK,Ji]at E;rcases E with E|E
       ·exact absurd E (k5.clean_ids i)
       ·exact absurd E (k6.clean_ids i)
     ·exact h.elim
    ·exact h.elim
   ·exact h.elim
 |binOp bop t x y yt=>
  split at h<;>try(exact h.elim)
  all_goals rename_i zc
  all_goals cases zc
  obtain⟨⟨D,xy⟩,h⟩:=h;have hE:=p.eval x;have hp:s.eval x= .sl .no []:=by
   revert xy
   unfold Zji;split
   ·rename_i es he;intro yj;rw[he,List.isEmpty_iff.1 yj]
   ·intro hf;cases hf
  rw[hp]at hE;obtain⟨ad,cap,e,_⟩:=hE.sl_inv.sl_len;obtain⟨e',he⟩:=Zkj D;have C:(K0 t (.slice ad 0 cap) (.slice Hn 0 0)).run P w= .ok ad.isNone w:=by
   have r2:∀d:Nat,(K2 (d+1) t (.slice Hn 0 cap) (.slice Hn 0 0)).run P w= .ok Ht w:=λd=>by simp[K2,ZH he]
   cases ad with
   |none=>exact r2 _
   |some b=>exact Y4 _ t e' b 0 cap he
  have hS:Snd P B S s a w (do eqGuard .eql t x (.const (.slice Hn 0 0)) (a.eval x) (a.eval (.const (.slice Hn 0 0)));binOp .eql t (a.eval x) (a.eval (.const (.slice Hn 0 0)))) ⟨True,.bool ad.isNone,s.m⟩:=by
   rw[show a.eval x= .slice ad 0 cap from e,show a.eval (.const (.slice Hn 0 0))= .slice Hn 0 0 from rfl];refine Snd.pure p (v:= .bool ad.isNone) ?_ (.clean (.bool _)) (by simp[Jb]);have hg:(eqGuard .eql t x (.const (.slice Hn 0 0)) (.slice ad 0 cap) (.slice Hn 0 0)).run P w= .ok () w:=Vl (by simp) (by simp);simp only[Jk,hg,Jc];have:=TH (op:= .eql) (.inl rfl) (by simp) (by simp) (by simp) (by simp) C;simpa using this
  exact Done.of_snd Sb hd hS next Q λv w' S' M' N zd=>hn _ v w' S' M' (h _) N zd
 |_=>exact h.elim
end
open Go.RowKit
def Tu (want:Bool) (p:PV) (A B:Prop):Prop:=
 match p with
 | .bool b=>(b=want->A)/\(b= !want->B)
 | .tup _=>B
 |_=>False
def ZpG (P:Program) (x:Bool) (m:Hp) (c:Option (FuncId×List PV)) (K:PV->Hp->Prop):Prop:=
 match c with
 |some (g,args)=>(Js m args/\((∃r,Pure P g (Jw m args) r/\K r m)\/(x=Ht/\Zvs P g (Jw m args) m K)))\/(x=Ht/\Zvr P g args m K)\/(∃r,Zxp P m g args r/\K r m)
 |none=>False
def Zmn (r:ARes) (K:PV->Hp->Prop):Prop:=r.ok/\K r.v r.m
def Zku (P:Program) (x:Bool) (o:Oper) (s:St) (K:St->Prop):Prop:=
 match o.op with
 | .call { callee:= .value f,args,argTypes }=>ZpG P x s.m (ZJ s.eval { callee:= .value f,args,argTypes }) λr m=>K ((s.with m).put o.dst r)
 | .call { callee:= .builtin .append,args,argTypes }=>if ZsQ (args.toList.map s.eval)||vmB o.dst s.m then x=Ht/\Zw6 P o.dst argTypes.toList (args.toList.map s.eval) s.m λr m=>K ((s.with m).put o.dst r)else Zmn (aop P o s.eval s.m) λv m=>K ((s.with m).put o.dst v)
 | .buildSlice t len parts=>if vmB o.dst s.m then x=Ht/\Zvh P o.dst t len (parts.toList.map λy=>(y.1,s.eval y.2)) s.m λr m=>K ((s.with m).put o.dst r)else Zmn (aop P o s.eval s.m) λv m=>K ((s.with m).put o.dst v)
 | .makeMap _ Hn=>x=Ht/\ZtM s.m λr m=>K ((s.with m).put o.dst r)
 | .mapEntry t y k=>x=Ht/\ZfM P t (s.eval y) (s.eval k) s.m λr m=>K ((s.with m).put o.dst r)
 | .entryStore t y st v=>x=Ht/\o.dst=Hn/\Zg6 (s.eval y) (s.eval st) (s.eval v) s.m λr m=>K ((s.with m).put o.dst r)
 | .range t y=>x=Ht/\ZiX P t=Ht/\ZgK (s.eval y) s.m λr m=>K ((s.with m).put o.dst r)
 | .next y Hf=>x=Ht/\Zoq (s.eval y) s.m λr m=>K ((s.with m).put o.dst r)
 | .binOp .eql t y (.const (.slice Hn 0 0)) _=>if Zji (s.eval y)then x=Ht/\Ze8 P t= .slc/\ ∀b,K ((s.with s.m).put o.dst (.bool b))else Zmn (aop P o s.eval s.m) λv m=>K ((s.with m).put o.dst v)
 |_=>Zmn (aop P o s.eval s.m) λv m=>K ((s.with m).put o.dst v)
def vcA (P:Program) (x:Bool) (ops:Array Oper) (K:St->Prop):List Oper->St->Prop
 | [],s=>K s
 |o::rest,s=>Gk s.n o.dst/\match o.guard with
  |none=>Zku P x o s (vcA P x ops K rest)
  |some (j,want)=>match(ops[j]?).bind (·.dst)with
   |none=>vcA P x ops K rest (s.put o.dst (.tup []))
   |some d=>d<s.n/\Tu want (s.fr d) (Zku P x o s (vcA P x ops K rest)) (vcA P x ops K rest (s.put o.dst (.tup [])))
def Ze5 (P:Program) (ops:Array Oper) (K:St->Prop):List Oper->St->Prop
 | [],s=>K s
 |o::rest,s=>Gk s.n o.dst/\((gd ops s o=Hs Ht/\((∃v m',XY P o s.eval s.m v m'/\Ze5 P ops K rest ((s.with m').put o.dst v))\/spec P o s (Ze5 P ops K rest)))\/(gd ops s o=Hs Hf/\Ze5 P ops K rest (s.put o.dst (.tup []))))
def DF (p:PV) (A B:Prop):Prop:=
 match p with
 | .bool b=>(b=Ht->A)/\(b=Hf->B)
 |_=>False
section
variable {P:Program} {s:St}
def Zg3 {o:Oper} {K K':St->Prop} (j:∀s,K s->K' s) (h:spec P o s K):spec P o s K':=by
 obtain⟨dst,op,ty,pos,after,guard⟩:=o;unfold spec at h ⊢;simp only at h ⊢;split at h;rename_i c;split at h
 ·rename_i g args V;rcases h with ⟨C,p⟩|⟨args0,m0,r,m1,O,L,k,l,v,I⟩|⟨r,m',k,l⟩
  rotate_left
  exact .inr (.inl ⟨args0,m0,r,m1,O,L,k,l,v,j _ I⟩);exact .inr (.inr ⟨r,m',k,j _ l⟩);refine .inl ⟨C,?_⟩;rcases p with ⟨r,k,l,v⟩|⟨b,c,A,r,c',k,l,v,I⟩|⟨r,c,k,l⟩|⟨r,k,l⟩|⟨r,n,sz,e,d,k,l,v⟩;exact .inl ⟨r,k,l,j _ v⟩;exact .inr (.inl ⟨b,c,A,r,c',k,l,v,j _ I⟩);exact .inr (.inr (.inl ⟨r,c,k,λb G=>j _ (l b G)⟩));exact .inr (.inr (.inr (.inl ⟨r,k,j _ l⟩)));exact .inr (.inr (.inr (.inr ⟨r,n,sz,e,d,k,l,j _ v⟩)))
 split at h;unfold Zw6 at h ⊢;split at h;split at h;obtain⟨g,h⟩:=h;refine⟨g,?_⟩;unfold Zsq at h ⊢;split at h;split at h;obtain⟨D,y,F,E,T,R,N,z⟩:=h;exact⟨D,y,F,E,T,R,N,j _ z⟩;exact h.elim;obtain⟨D,y,F,E,z⟩:=h;exact⟨D,y,F,E,j _ z⟩;exact h.elim;exact h.elim;exact h.elim;exact h.elim;unfold Zvh at h ⊢;split at h;obtain⟨D,y,F,E,z⟩:=h;exact⟨D,y,F,E,j _ z⟩;exact h.elim;exact λb G=>j _ (h b G)
 unfold ZfM at h ⊢;split at h;split at h;split at h;exact⟨h.1,h.2.1,j _ h.2.2⟩;exact h.elim;exact h.elim;exact h.elim;obtain⟨hd,h⟩:=h;refine⟨hd,?_⟩;unfold Zg6 at h ⊢;split at h;split at h;exact⟨h.1,h.2.1,j _ h.2.2⟩;exact h.elim;exact h.elim;rename_i t x;obtain⟨C,p⟩:=h;refine⟨C,?_⟩;unfold ZgK at p ⊢;split at p;split at p;exact λJ u=>j _ (p J u)
 exact p.elim;exact λJ b u=>j _ (p J b u)
 exact p.elim;rename_i x;unfold Zoq at h ⊢;split at h;split at h;split at h;exact⟨h.1,λU=>j _ (h.2.1 U),λi C p=>j _ (h.2.2 i C p)⟩;exact h.elim;exact h.elim;exact h.elim;exact⟨h.1,λb=>j _ (h.2 b)⟩;exact h.elim
def Zhr {x:Bool} {o:Oper} {K:St->Prop} (h:Zku P x o s K):(∃v m',XY P o s.eval s.m v m'/\K ((s.with m').put o.dst v))\/(x=Ht/\spec P o s K):=by
 unfold Zku at h;split at h;rename_i f args l b;unfold ZpG at h;split at h;rename_i g xs i;rcases h with ⟨k,⟨r,c,j⟩|⟨d,c⟩⟩|⟨d,c⟩|⟨r,c,j⟩;exact .inl ⟨r,s.m,.inr ⟨_,g,xs,b,i,.inl ⟨k,c⟩,rfl⟩,j⟩;refine .inr ⟨d,?_⟩;unfold spec;rw[b];simp only[i];exact .inl ⟨k,c⟩;refine .inr ⟨d,?_⟩;unfold spec;rw[b];simp only[i];exact .inr c;exact .inl ⟨r,s.m,.inr ⟨_,g,xs,b,i,.inr c,rfl⟩,j⟩;exact h.elim;rename_i xs l b;split at h;obtain⟨d,c⟩:=h;refine .inr ⟨d,?_⟩;unfold spec;rw[b];simp only[ZJ];exact c;exact .inl ⟨_,_,.inl ⟨h.1,rfl,rfl⟩,h.2⟩;rename_i t len parts b;split at h;obtain⟨d,c⟩:=h;refine .inr ⟨d,?_⟩;unfold spec;rw[b];exact c;exact .inl ⟨_,_,.inl ⟨h.1,rfl,rfl⟩,h.2⟩;rename_i b;exact .inr ⟨h.1,by unfold spec;rw[b];exact h.2⟩;rename_i b;exact .inr ⟨h.1,by unfold spec;rw[b];exact h.2⟩;rename_i b;exact .inr ⟨h.1,by unfold spec;rw[b];exact h.2⟩;rename_i b;exact .inr ⟨h.1,by unfold spec;rw[b];exact h.2⟩;rename_i b;exact .inr ⟨h.1,by unfold spec;rw[b];exact h.2⟩;rename_i b;split at h;rename_i e;exact .inr ⟨h.1,by unfold spec;rw[b];exact⟨⟨h.2.1,e⟩,h.2.2⟩⟩;exact .inl ⟨_,_,.inl ⟨h.1,rfl,rfl⟩,h.2⟩;exact .inl ⟨_,_,.inl ⟨h.1,rfl,rfl⟩,h.2⟩
theorem Vv {x:Bool} {ops:Array Oper} {K:St->Prop}:∀(l:List Oper) (s:St),vcA P x ops K l s->Ze5 P ops K l s
 | [],s,h=>h
 |o::rest,s,h=>by
  obtain⟨hd,h⟩:=h;refine⟨hd,?_⟩;have op:∀ {s},Zku P x o s (vcA P x ops K rest)->(∃v m',XY P o s.eval s.m v m'/\Ze5 P ops K rest ((s.with m').put o.dst v))\/spec P o s (Ze5 P ops K rest):=λh=>by
   rcases Zhr h with ⟨v,m',i,u⟩|⟨_,i⟩;exact .inl ⟨v,m',i,Vv rest _ u⟩;exact .inr (Zg3 (λs' p=>Vv rest s' p) i)
  unfold gd;cases t:o.guard with
  |none=>
   rw[t]at h;exact .inl ⟨rfl,op h⟩
  |some jw=>
   obtain⟨j,want⟩:=jw;rw[t]at h;simp only at h ⊢;cases c:(ops[j]?).bind (·.dst)with
   |none=>rw[c]at h;exact .inr ⟨rfl,Vv rest _ h⟩
   |some d=>
    rw[c]at h;simp only at h ⊢;obtain⟨n,h⟩:=h;rw[if_pos n];unfold Tu at h;split at h
    ·rename_i b k;rw[k]
     by_cases e:b=want
     ·left;subst e;exact⟨by simp[gdOf],op (h.1 rfl)⟩
     ·right;refine⟨by simp[gdOf,e],Vv rest _ (h.2 ?_)⟩;cases b<;>cases want<;>simp_all
    ·rename_i l k;rw[k];exact .inr ⟨rfl,Vv rest _ h⟩
    ·exact h.elim
theorem Uy {ops:Array Oper} {K:St->Prop}:∀(l:List Oper) (s:St),vcA P Hf ops K l s->Ze4 P ops K l s
 | [],s,h=>h
 |o::rest,s,h=>by
  obtain⟨hd,h⟩:=h;refine⟨hd,?_⟩;have op:∀ {s},Zku P Hf o s (vcA P Hf ops K rest)-> ∃v m',XY P o s.eval s.m v m'/\Ze4 P ops K rest ((s.with m').put o.dst v):=λh=>by
   rcases Zhr h with ⟨v,m',i,t⟩|⟨i,_⟩;exact⟨v,m',i,Uy rest _ t⟩;cases i
  unfold gd;cases p:o.guard with
  |none=>
   rw[p]at h;exact .inl ⟨rfl,op h⟩
  |some jw=>
   obtain⟨j,want⟩:=jw;rw[p]at h;simp only at h ⊢;cases c:(ops[j]?).bind (·.dst)with
   |none=>rw[c]at h;exact .inr ⟨rfl,Uy rest _ h⟩
   |some d=>
    rw[c]at h;simp only at h ⊢;obtain⟨n,h⟩:=h;rw[if_pos n];unfold Tu at h;split at h
    ·rename_i b k;rw[k]
     by_cases e:b=want
     ·left;subst e;exact⟨by simp[gdOf],op (h.1 rfl)⟩
     ·right;refine⟨by simp[gdOf,e],Uy rest _ (h.2 ?_)⟩;cases b<;>cases want<;>simp_all
    ·rename_i l k;rw[k];exact .inr ⟨rfl,Uy rest _ h⟩
    ·exact h.elim
theorem SH {B:Frm} {ops:Array Oper} {K:St->Prop} {Qc:Exit->Act->World->Prop} {S0:Stable} {w0:World} (n:∀s' S' M' y w',K s'->Sim B S' M' s' y w'->Ext B S0 S' w0 w'->Qc .normal y w'):
  ∀(l:List Oper) (k:Nat) (s:St),(∀j,l[j]? = ops[k+j]?)->Ze5 P ops K l s-> ∀S M a w,Sim B S M s a w->Ext B S0 S w0 w->wpOps P ops Qc (List.range' k l.length) a w
 | [],k,s,_,h,S,M,a,w,hs,he=>n s S M a w h hs he
 |o::rest,k,s,hl,h,S,M,a,w,hs,he=>by
  have z:ops[k]? = Hs o:=by simpa using(hl 0).symm
  have c:∀j,rest[j]? = ops[(k+1)+j]? :=λj=>by have:=hl (j+1);simpa[KP,KY 1 j]using this
  obtain⟨hd,h⟩:=h;simp only[JB,List.range'_succ,wpOps,z];rcases h with ⟨i,⟨v,m',t,b⟩|p⟩|⟨i,b⟩;rw[Te hs i,if_pos rfl];exact .inl (X8 hs (YD hd) t _ _ λu w' S' M' e d=>SH n rest (k+1) _ c b S' M' _ w' e (he.trans d));rw[Te hs i,if_pos rfl];exact .inl (U0 hs (YD hd) p _ _ λs' u w' S' M' A e d=>SH n rest (k+1) s' c A S' M' _ w' e (he.trans d));rw[Te hs i,if_neg (by simp)];exact SH n rest (k+1) _ c b S M _ w (Tp hs hd) he
def ZhU {id:Nat} {ops:Array Oper} {Q:Exit->St->Prop} (h:Ze5 P ops (Q .normal) ops.toList s):awp P (.region id ops Hf) Q s:=λB S M a w j=>by
 refine wp_region ?_;have:=SH (B:=B) (S0:=S) (w0:=w) (Qc:=λe b w'=>∃s' S' M',Q e s'/\Sim B S' M' s' b w'/\Ext B S S' w w') (λs' S' M' b w' d c i=>⟨s',S',M',d,c,i⟩) ops.toList 0 s (by simp) h S M a w j (JO _ _ _);rw[<-List.range_eq_range']at this;simpa using this
def vc (P:Program):Code->(Exit->St->Prop)->St->Prop
 | .skip,Q,s=>Q .normal s
 | .label _,Q,s=>Q .normal s
 | .ret,Q,s=>Q .ret s
 | .exit id,Q,s=>Q (.exit id) s
 | .goto l,Q,s=>Q (.goto l) s
 | .seq (.label l) y,Q,s=>awp P (.seq (.label l) y) Q s
 | .seq x y,Q,s=>vc P x (Xq (vc P y Q) Q) s
 | .cond c x y,Q,s=>DF (s.eval c) (vc P x Q s) (vc P y Q s)
 | .block id c,Q,s=>vc P c (Ty id Q) s
 | .region _ ops Hf,Q,s=>vcA P Ht ops (Q .normal) ops.toList s
 |c,Q,s=>awp P c Q s
theorem Zk3 {x y:Code} {Q:Exit->St->Prop} {s:St} (d:∀Q s,vc P x Q s->awp P x Q s) (c:∀Q s,vc P y Q s->awp P y Q s) (h:vc P x (Xq (vc P y Q) Q) s):awp P (.seq x y) Q s:=
 ZaH (YY (λe s' b=>by
   cases e with
   |normal=>exact c Q s' b
   |_=>exact b) (d _ s h))
theorem Z4:∀(c:Code) (Q:Exit->St->Prop) (s:St),vc P c Q s->awp P c Q s
 | .skip,Q,s,h=>F6 h
 | .label _,Q,s,h=>Zfz h
 | .ret,Q,s,h=>Ztw h
 | .exit id,Q,s,h=>ZqJ h
 | .goto l,Q,s,h=>ZqK h
 | .seq x y,Q,s,h=>by
  cases x with
  |label l=>exact h
  |_=>exact Zk3 (Z4 _) (Z4 y) h
 | .cond c x y,Q,s,h=>by
  unfold vc DF at h;split at h;rename_i b d;refine ZqH d ?_;cases b;exact Z4 y Q s (h.2 rfl);exact Z4 x Q s (h.1 rfl);exact h.elim
 | .block id c,Q,s,h=>Zm6 (Z4 c _ s h)
 | .region _ ops Hf,Q,s,h=>ZhU (Vv _ _ h)
 | .region _ ops Ht,Q,s,h=>h
 | .loop c,Q,s,h=>h
 | .rangeFunc ..,Q,s,h=>h
 | .scope c,Q,s,h=>h
 | .refuse _,Q,s,h=>h
end
class KS where
 k:St->Prop
class LST where
 l:List Oper
class COD where
 c:Code
class QS where
 q:Exit->St->Prop
class PR where
 p:Prop
class KR where
 k:PV->Hp->Prop
class KV where
 k:PV->Prop
class KH where
 m:Hp
def ZBj (r:ARes) [K:KR]:Prop:=Zmn r K.k
def TA (want:Bool) (p:PV) [A:PR] [B:PR]:Prop:=Tu want p A.p B.p
def Zhk (p:PV) [A:PR] [B:PR]:Prop:=DF p A.p B.p
def V8 (P:Program) (x:Bool) [M:KH] (c:Option (FuncId×List PV)) [K:KR]:Prop:=ZpG P x M.m c K.k
def vA (P:Program) (x:Bool) [K:KS] [G:LST] [L:LST] (s:St):Prop:=vcA P x G.l.toArray K.k L.l s
def Zzp (P:Program) (x:Bool) [K:KS] [G:LST] [L:LST] (o:Oper) (s:St):Prop:=vcA P x G.l.toArray K.k (o::L.l) s
def vOp (P:Program) (x:Bool) [K:KS] (o:Oper) (s:St):Prop:=Zku P x o s K.k
def Zln [G:LST] (j:Nat):Option Nat:=(G.l[j]?).bind (·.dst)
def vC (P:Program) [C:COD] [Q:QS] (s:St):Prop:=vc P C.c Q.q s
def vQ [Q:QS] (e:Exit) (s:St):Prop:=Q.q e s
section
variable {P:Program} {x:Bool}
theorem ZuH (ok:Prop) (v:PV) (m:Hp) (K:KR):@ZBj ⟨ok,v,m⟩ K=(ok/\K.k v m):=rfl
def ZpB (A B:PR):@TA Ht (.bool Ht) A B=A.p:=by simp[TA,Tu]
def ZpA (A B:PR):@TA Ht (.bool Hf) A B=B.p:=by simp[TA,Tu]
def Zpz (A B:PR):@TA Hf (.bool Ht) A B=B.p:=by simp[TA,Tu]
def Zpy (A B:PR):@TA Hf (.bool Hf) A B=A.p:=by simp[TA,Tu]
theorem Zmh (w:Bool) (l:List PV) (A B:PR):@TA w (.tup l) A B=B.p:=rfl
def Zuw (A B:PR):@Zhk (.bool Ht) A B=A.p:=by simp[Zhk,DF]
def Zuv (A B:PR):@Zhk (.bool Hf) A B=B.p:=by simp[Zhk,DF]
theorem Zlp (o:Oper) (l:List Oper):@Zln ⟨o::l⟩ 0=o.dst:=rfl
def Zlo (o:Oper) (l:List Oper) (j:Nat):@Zln ⟨o::l⟩ (j+1)= @Zln ⟨l⟩ j:=by simp[Zln]
theorem Zw5 (K:KS) (G:LST) (s:St):@vA P x K G ⟨[]⟩ s=K.k s:=rfl
theorem Zuo (K:KS) (G:LST) (o:Oper) (l:List Oper) (s:St):@vA P x K G ⟨o::l⟩ s= @Zzp P x K G ⟨l⟩ o s:=rfl
def Zmj (K:KS) (G L:LST) (d:Option Tmp) (op:Op) (ty:TypeId) (pos:String) (b:Array Edge) (s:St):
  @Zzp P x K G L ⟨d,op,ty,pos,b,Hn⟩ s=(Gk s.n d/\ @vOp P x ⟨@vA P x K G L⟩ ⟨d,op,ty, "",#[],Hn⟩ s):=by
 have h:Zku P x ⟨d,op,ty,pos,b,Hn⟩ s=Zku P x ⟨d,op,ty, "",#[],Hn⟩ s:=by
  funext K;cases op<;>rfl
 show(Gk s.n d/\Zku P x ⟨d,op,ty,pos,b,Hn⟩ s (vcA P x G.l.toArray K.k L.l))=_;rw[h];rfl
theorem Zmi (K:KS) (G L:LST) (d:Option Tmp) (op:Op) (ty:TypeId) (pos:String) (b:Array Edge) (j:Nat) (want:Bool) (s:St) (d':Nat) (h:@Zln G j=Hs d'):
  @Zzp P x K G L ⟨d,op,ty,pos,b,Hs (j,want)⟩ s=(Gk s.n d/\d'<s.n/\ @TA want (s.fr d') ⟨@vOp P x ⟨@vA P x K G L⟩ ⟨d,op,ty, "",#[],Hn⟩ s⟩ ⟨@vA P x K G L (s.put d (.tup []))⟩):=by
 have c:(G.l.toArray[j]?).bind (·.dst)=Hs d':=by simpa[Zln]using h
 have e:Zku P x ⟨d,op,ty,pos,b,Hs (j,want)⟩ s=Zku P x ⟨d,op,ty, "",#[],Hn⟩ s:=by
  funext K;cases op<;>rfl
 show(Gk s.n d/\(match(G.l.toArray[j]?).bind (·.dst)with
   |none=>vcA P x G.l.toArray K.k L.l (s.put d (.tup []))
   |some d=>d<s.n/\Tu want (s.fr d) (Zku P x ⟨_,op,ty,pos,b,Hs (j,want)⟩ s (vcA P x G.l.toArray K.k L.l)) (vcA P x G.l.toArray K.k L.l (s.put _ (.tup [])))))=_
 rw[c,e];rfl
theorem Zsx (K:KS) (d:Option Tmp) (f:Operand) (args:Array Operand) (b:Array TypeId) (ty:TypeId) (s:St):
  @vOp P x K ⟨d,.call ⟨.value f,args,b⟩,ty, "",#[],Hn⟩ s= @V8 P x ⟨s.m⟩ (ZJ s.eval ⟨.value f,args,b⟩) ⟨λr m=>K.k ((s.with m).put d r)⟩:=rfl
theorem Zuu (Q:QS) (s:St):@vC P ⟨.skip⟩ Q s= @vQ Q .normal s:=rfl
theorem Zss (l:Nat) (Q:QS) (s:St):@vC P ⟨.label l⟩ Q s= @vQ Q .normal s:=rfl
theorem Zw7 (Q:QS) (s:St):@vC P ⟨.ret⟩ Q s= @vQ Q .ret s:=rfl
theorem Zur (id:Nat) (Q:QS) (s:St):@vC P ⟨.exit id⟩ Q s= @vQ Q (.exit id) s:=rfl
theorem Zus (l:Nat) (Q:QS) (s:St):@vC P ⟨.goto l⟩ Q s= @vQ Q (.goto l) s:=rfl
theorem Zi5 (y:Code) (Q:QS) (s:St):@vC P ⟨.seq (.skip) y⟩ Q s= @vC P ⟨.skip⟩ ⟨Xq (@vC P ⟨y⟩ Q) Q.q⟩ s:=rfl
theorem Zmf (y:Code) (Q:QS) (s:St):@vC P ⟨.seq (.ret) y⟩ Q s= @vC P ⟨.ret⟩ ⟨Xq (@vC P ⟨y⟩ Q) Q.q⟩ s:=rfl
theorem Zi2 (id:Nat) (y:Code) (Q:QS) (s:St):@vC P ⟨.seq (.exit id) y⟩ Q s= @vC P ⟨.exit id⟩ ⟨Xq (@vC P ⟨y⟩ Q) Q.q⟩ s:=rfl
theorem Zi3 (l:Nat) (y:Code) (Q:QS) (s:St):@vC P ⟨.seq (.goto l) y⟩ Q s= @vC P ⟨.goto l⟩ ⟨Xq (@vC P ⟨y⟩ Q) Q.q⟩ s:=rfl
theorem Zmg (a b:Code) (y:Code) (Q:QS) (s:St):@vC P ⟨.seq (.seq a b) y⟩ Q s= @vC P ⟨.seq a b⟩ ⟨Xq (@vC P ⟨y⟩ Q) Q.q⟩ s:=rfl
theorem Zi1 (c:Operand) (a b:Code) (y:Code) (Q:QS) (s:St):@vC P ⟨.seq (.cond c a b) y⟩ Q s= @vC P ⟨.cond c a b⟩ ⟨Xq (@vC P ⟨y⟩ Q) Q.q⟩ s:=rfl
theorem Zhh (id:Nat) (c:Code) (y:Code) (Q:QS) (s:St):@vC P ⟨.seq (.block id c) y⟩ Q s= @vC P ⟨.block id c⟩ ⟨Xq (@vC P ⟨y⟩ Q) Q.q⟩ s:=rfl
theorem ZeW (id:Nat) (l:Array Oper) (d:Bool) (y:Code) (Q:QS) (s:St):@vC P ⟨.seq (.region id l d) y⟩ Q s= @vC P ⟨.region id l d⟩ ⟨Xq (@vC P ⟨y⟩ Q) Q.q⟩ s:=rfl
theorem Zi4 (c:Code) (y:Code) (Q:QS) (s:St):@vC P ⟨.seq (.loop c) y⟩ Q s= @vC P ⟨.loop c⟩ ⟨Xq (@vC P ⟨y⟩ Q) Q.q⟩ s:=rfl
theorem Zhj (c:Code) (y:Code) (Q:QS) (s:St):@vC P ⟨.seq (.scope c) y⟩ Q s= @vC P ⟨.scope c⟩ ⟨Xq (@vC P ⟨y⟩ Q) Q.q⟩ s:=rfl
theorem Zhi (l:Nat) (y:Code) (Q:QS) (s:St):@vC P ⟨.seq (.label l) y⟩ Q s=awp P (.seq (.label l) y) Q.q s:=rfl
theorem Zup (c:Operand) (x y:Code) (Q:QS) (s:St):@vC P ⟨.cond c x y⟩ Q s= @Zhk (s.eval c) ⟨@vC P ⟨x⟩ Q s⟩ ⟨@vC P ⟨y⟩ Q s⟩:=rfl
theorem Zsr (id:Nat) (c:Code) (Q:QS) (s:St):@vC P ⟨.block id c⟩ Q s= @vC P ⟨c⟩ ⟨Ty id Q.q⟩ s:=rfl
theorem Zpv (id:Nat) (l:List Oper) (Q:QS) (s:St):@vC P ⟨.region id l.toArray Hf⟩ Q s= @vA P Ht ⟨@vQ Q .normal⟩ ⟨l⟩ ⟨l⟩ s:=rfl
theorem Zst (c:Code) (Q:QS) (s:St):@vC P ⟨.scope c⟩ Q s=awp P (.scope c) Q.q s:=rfl
theorem Zut (c:Code) (Q:QS) (s:St):@vC P ⟨.loop c⟩ Q s=awp P (.loop c) Q.q s:=rfl
theorem Zuq (id:Nat) (l:Array Oper) (Q:QS) (s:St):@vC P ⟨.region id l Ht⟩ Q s=awp P (.region id l Ht) Q.q s:=rfl
theorem Zcu (K:St->Prop) (Q:Exit->St->Prop) (s:St):@vQ ⟨Xq K Q⟩ .normal s=K s:=rfl
theorem Zja (K:St->Prop) (Q:Exit->St->Prop) (s:St):@vQ ⟨Xq K Q⟩ .ret s= @vQ ⟨Q⟩ .ret s:=rfl
theorem Zhn (K:St->Prop) (Q:Exit->St->Prop) (id:Nat) (s:St):@vQ ⟨Xq K Q⟩ (.exit id) s= @vQ ⟨Q⟩ (.exit id) s:=rfl
theorem Zho (K:St->Prop) (Q:Exit->St->Prop) (id:Nat) (s:St):@vQ ⟨Xq K Q⟩ (.goto id) s= @vQ ⟨Q⟩ (.goto id) s:=rfl
theorem ZbX (id:Nat) (Q:Exit->St->Prop) (s:St):@vQ ⟨Ty id Q⟩ .normal s= @vQ ⟨Q⟩ .normal s:=rfl
theorem Zhl (id:Nat) (Q:Exit->St->Prop) (s:St):@vQ ⟨Ty id Q⟩ .ret s= @vQ ⟨Q⟩ .ret s:=rfl
theorem ZeZ (id l:Nat) (Q:Exit->St->Prop) (s:St):@vQ ⟨Ty id Q⟩ (.goto l) s= @vQ ⟨Q⟩ (.goto l) s:=rfl
theorem ZeY (id j:Nat) (Q:Exit->St->Prop) (s:St):@vQ ⟨Ty id Q⟩ (.exit j) s=(if j=id then @vQ ⟨Q⟩ .normal s else @vQ ⟨Q⟩ (.exit j) s):=rfl
def Zw {b:Bool} {A B:PR} (d:b=Ht->A.p) (c:b=Hf->B.p):@TA Ht (.bool b) A B:=⟨d,c⟩
def Zv {b:Bool} {A B:PR} (d:b=Ht->B.p) (c:b=Hf->A.p):@TA Hf (.bool b) A B:=⟨c,d⟩
def ZK {b:Bool} {A B:PR} (d:b=Ht->A.p) (c:b=Hf->B.p):@Zhk (.bool b) A B:=⟨d,c⟩
def YN {M:KH} {g:FuncId} {args args':List PV} {K:KR} {r:PV} (e:Pure P g args' r) (d:Js M.m args) (b:Jw M.m args=args') (c:K.k r M.m):@V8 P x M (Hs (g,args)) K:=
 .inl ⟨d,.inl ⟨r,by rw[b];exact e,c⟩⟩
def Zao {M:KH} {g:FuncId} {args args':List PV} {K:KR} {r:PV} (c:Pure P g args' r) (h:r.nomap=Ht) (e:Js M.m args) (d:PV.sealL M.m.o (Jw M.m args)=args') (b:K.k r M.m):@V8 P Ht M (Hs (g,args)) K:=
 .inl ⟨e,.inr ⟨rfl,.inl ⟨r,by rw[d];exact c,h,b⟩⟩⟩
def Zkr {M:KH} {g:FuncId} {args:List PV} {K:KR} {A:Nat->List PV} {c c':MapC} {r:PV} (b:Nat) (e:Wr P g A c r c') (j:Js M.m args) (i:Jw M.m args=A b) (h:M.m.o b=Hs c) (d:K.k r { M.m with o:=upd M.m.o b (Hs c') }):@V8 P Ht M (Hs (g,args)) K:=
 .inl ⟨j,.inr ⟨rfl,.inr (.inl ⟨b,c,A,r,c',h,i,e,d⟩)⟩⟩
def Zkq {M:KH} {g:FuncId} {args args':List PV} {K:KR} {c:MapC} {r:Nat->PV} (i:Mk P g args' r c) (h:Js M.m args) (d:Jw M.m args=args') (e:∀b,M.m.o b=Hn->K.k (r b) { M.m with o:=upd M.m.o b (Hs c) }):@V8 P Ht M (Hs (g,args)) K:=
 .inl ⟨h,.inr ⟨rfl,.inr (.inr (.inl ⟨r,c,by rw[d];exact i,e⟩))⟩⟩
def Zsw {M:KH} {g:FuncId} {args args':List PV} {K:KR} {r:PV} (e:Xt P g args' r) (d:Js M.m args) (b:Jw M.m args=args') (c:K.k r M.m):@V8 P Ht M (Hs (g,args)) K:=
 .inl ⟨d,.inr ⟨rfl,.inr (.inr (.inr (.inl ⟨r,by rw[b];exact e,c⟩)))⟩⟩
def ZbW {M:KH} {g:FuncId} {args args0:List PV} {K:KR} {m0 m1:MemL} {r:PV} (c b:Nat->Nat) (h:Eff P g args0 m0 r m1) (d:FitsM m0 m1 c b M.m) (i:Jw M.m args=args0.map (PV.ren c b)) (e:K.k (r.ren c b) (Zbg m1 c b M.m)):@V8 P Ht M (Hs (g,args)) K:=
 .inr (.inl ⟨rfl,.inl ⟨args0,m0,r,m1,c,b,h,d,.inl i,e⟩⟩)
def Ux {M:KH} {g:FuncId} {args:List PV} {K:KR} {r:PV} {m':Hp} (c:CallS P g args M.m r m') (b:K.k r m'):@V8 P Ht M (Hs (g,args)) K:= .inr (.inl ⟨rfl,.inr ⟨r,m',c,b⟩⟩)
def ZbY (P:Program) (r:PV) (s:St):List PV->List ResultVar->Prop
 |acc,[]=>(Zp2 acc.reverse).givable s.m/\r=(Zp2 acc.reverse).give s.m
 |acc,.tmp t::rs=>ZbY P r s (s.fr t::acc) rs
 |acc,.cell t ty::rs=>tkn P ty=Ht/\(VO P ty (s.fr t) s.m).ok/\ZbY P r s ((VO P ty (s.fr t) s.m).v::acc) rs
theorem Sh {fn:Func} {r:PV} {s:St}:∀(rs:List ResultVar) (b:List PV),ZbY P r s b rs->
  Zcb (rs.map (FH P s))/\(Zp2 (b.reverse++rs.map λx=>(FH P s x).v)).givable s.m/\r=(Zp2 (b.reverse++rs.map λx=>(FH P s x).v)).give s.m
 | [],b,h=>by simpa[ZbY,Zcb]using h
 | .tmp t::rs,b,h=>by
  obtain⟨d,c,e⟩:=Sh (fn:=fn) rs _ h;refine⟨⟨trivial,d⟩,?_,?_⟩;simpa[FH]using c;simpa[FH]using e
 | .cell t ty::rs,b,h=>by
  obtain⟨j,i,h⟩:=h;obtain⟨d,c,e⟩:=Sh (fn:=fn) rs _ h;refine⟨⟨?_,d⟩,?_,?_⟩;simpa[FH,j]using i;simpa[FH,j]using c;simpa[FH,j]using e
def Zhq (P:Program) (rs:List ResultVar) (r:PV):Exit->St->Prop
 | .normal,s=>ZbY P r s [] rs
 | .ret,s=>ZbY P r s [] rs
 |_,_=>False
theorem Zjb (rs:List ResultVar) (r:PV) (s:St):@vQ ⟨Zhq P rs r⟩ .ret s=ZbY P r s [] rs:=rfl
theorem Zcv (rs:List ResultVar) (r:PV) (s:St):@vQ ⟨Zhq P rs r⟩ .normal s=ZbY P r s [] rs:=rfl
theorem pov {f:FuncId} {fn:Func} {c:Code} {args:List PV} {r:PV} {n:Nat} {rs:List ResultVar} (j:P.funcs[f]? = Hs fn) (b:fn.name≠ "runtime.NumGoroutine") (k:fn.body=Hs c) (t:fn.ntmps=n) (d:fn.results=rs.toArray) (l:args.length<=n) (p:r.dids= [])
  (h:@vC P ⟨c⟩ ⟨Zhq P rs r⟩ (St.init args n)):Pure P f args r:=by
 subst t;refine Pure.intro j b k l p (YY (λe s i=> ?_) (Z4 _ _ _ h));have key:ZbY P r s [] rs->Zs4 P fn r s:=λhv=>by
  unfold Zs4;rw[d];simpa using Sh (fn:=fn) rs [] hv
 cases e with
 |normal=>exact key i
 |ret=>exact key i
 |_=>exact i
end
attribute [go_sem] Zi5 Zmf Zi2 Zi3 Zmg Zi1 Zhh ZeW Zi4 Zhj Zhi Zst Zpv Zw7 Zup Zsr Zuu Zss Zur Zus Zut Zuq Zuo Zw5 Zmj Zmi Zlp Zlo Zcu Zja Zhn Zho
 ZbX Zhl ZeZ ZeY Zjb Zcv ZpB ZpA Zpz Zpy Zmh Zuw Zuv ZuH
attribute [go_sem] vOp Zku Zmn Gk aop St.eval St.init VY St.put St.with GS YH GT YI VO W0 YT Hp.new Hp.empty Hp.setq Hp.freeze J9 Zqg Zqj Zqi Zqo ZpX aEq XP T2 Vb PV.known KQ
 Zca XG Zqh Zd4 Zd3 aUn TC Vo Zqk Zql Zqm S7 TO Y7 Zbu GU ZsT ZsP Wc aMakeFull Yd U7 WT ZJ Jy Jw Jn Js Kd JQ Tok.sh PV.clean Kg
 ZbY Zp2 frozenBy UD Jb Jp UJ ZC Zj6 Zr9 ZjW ARes.fail XZ Z2 VN WL Zn6 Fa mapIt Zrw ZtM ZgK Zoq PV.shut PV.sealL ZsQ vmB Zji List.isEmpty_nil List.isEmpty_cons Zw6 Zsq Zvh T5 VQ ZdT Zqx ZfM Zg6 ZuZ Zxr Td ZbA
attribute [go_sem ↓ high] Zsx
attribute [go_sem] JK Ko List.cons_append
@[go_sem] theorem Zzn {α:Type} (f:Nat->α) (i j:Nat) (v:α):upd f i v j=if i=j then v else f j:=rfl
open Go.RowKit
structure Fp where
 rh:Bool:=Hf
 rz:Bool:=Hf
 rq:Bool:=Hf
 wh:Bool:=Hf
 wz:Bool:=Hf
 wq:Bool:=Hf
 nb:Bool:=Hf
 nq:Bool:=Hf
 ro:Bool:=Hf
 wo:Bool:=Hf
def fp:Op->Fp
 | .load _ _=> { rh:=Ht }
 | .convert _ _ _=> { rh:=Ht }
 | .store _ _ _=> { rh:=Ht,rz:=Ht,wh:=Ht }
 | .alloc _=> { nb:=Ht }
 | .box _ _=> { nb:=Ht }
 | .makeSlice _ _ _=> { nq:=Ht }
 | .buildSlice _ _ _=> { nq:=Ht }
 | .makeFunc _ _ caps=>if caps.isEmpty then {} else { rh:=Ht,wz:=Ht }
 | .lookup _ _ _ _=> { ro:=Ht }
 | .mapUpdate _ _ _ _=> { ro:=Ht,wo:=Ht }
 | .entry _=> { ro:=Ht }
 | .call { callee:= .builtin b,.. }=>match b with| .append=> { rq:=Ht,wq:=Ht }| .len=> { ro:=Ht }|_=> {}
 | .call _=> { rh:=Ht,rz:=Ht }
 |_=> {}
def Hp.hv (m:Hp):Ref->Option (List PV)
 | .b i=>m.h i
 | .r i=>m.v i
def Hp.io (m:Hp):(Nat->Option IterC)×(Nat->Option MapC)×(Nat->Option Nat)×(Nat->Option (Nat×Nat×Nat))×(Nat->Bool):=(m.it,m.om,m.ph,m.pq,m.vm)
def Zig (m:Hp) (d:Nat) (r:Row) (x:Ref):(m.setq d r).hv x=m.hv x:=by cases x<;>rfl
def Zrf {a b:Hp} (d:a.h=b.h) (c:a.v=b.v) (x:Ref):a.hv x=b.hv x:=by cases x<;>simp[Hp.hv,d,c]
def Yy (o:Oper) (ρ:Operand->PV):List Ref:=o.op.operands.toList.flatMap λx=>(ρ x).ids
def Wh (o:Oper) (ρ:Operand->PV) (r:Ref):Prop:=((fp o.op).wh=Ht/\r∈Yy o ρ)\/((fp o.op).nb=Ht/\ ∃i,o.dst=Hs i/\r= .b i)
def Wz (o:Oper) (ρ:Operand->PV) (i:Nat):Prop:=((fp o.op).wz=Ht/\ .b i∈Yy o ρ)\/((fp o.op).nb=Ht/\o.dst=Hs i)
def Wq (o:Oper) (ρ:Operand->PV) (i:Nat):Prop:=((fp o.op).wq=Ht/\(.r i∈Yy o ρ\/o.dst=Hs i))\/((fp o.op).nq=Ht/\o.dst=Hs i)
structure Foot (P:Program) (o:Oper) (ρ:Operand->PV) (m:Hp) (v:PV) (m':Hp):Prop where
 h1:∀r,¬Wh o ρ r->m'.hv r=m.hv r
 z1:∀i,¬Wz o ρ i->m'.z i=m.z i
 q1:∀i,¬Wq o ρ i->m'.q i=m.q i
 hn:(fp o.op).nb=Ht-> ∀i,o.dst=Hs i->m.h i=Hn
 qn:(fp o.op).nq=Ht-> ∀i,o.dst=Hs i->m.q i=Hn
 hl:∀i,m.h i≠Hn->m'.h i≠Hn
 ql:∀i,m.q i≠Hn->m'.q i≠Hn
 o1:(fp o.op).wo=Hf->m'.o=m.o
 i1:m'.io=m.io
 re:∀m2:Hp,((fp o.op).rh=Ht-> ∀r,r∈Yy o ρ->m2.hv r=m.hv r)->((fp o.op).rz=Ht-> ∀i,.b i∈Yy o ρ->m2.z i=m.z i)->
  ((fp o.op).rq=Ht-> ∀i,(.r i∈Yy o ρ\/o.dst=Hs i)->m2.q i=m.q i)->((fp o.op).nb=Ht-> ∀i,o.dst=Hs i->m2.h i=Hn)->((fp o.op).nq=Ht-> ∀i,o.dst=Hs i->m2.q i=Hn)->
  ((fp o.op).ro=Ht->m2.o=m.o)->m2.io=m.io->
  ∃m2',XY P o ρ m2 v m2'/\(∀r,(Wh o ρ r->m2'.hv r=m'.hv r)/\(¬Wh o ρ r->m2'.hv r=m2.hv r))/\(∀i,(Wz o ρ i->m2'.z i=m'.z i)/\(¬Wz o ρ i->m2'.z i=m2.z i))/\
   (∀i,(Wq o ρ i->m2'.q i=m'.q i)/\(¬Wq o ρ i->m2'.q i=m2.q i))/\(((fp o.op).wo=Ht->m2'.o=m'.o)/\((fp o.op).wo=Hf->m2'.o=m2.o))/\m2'.io=m2.io
def WJ (f:Hp->ARes):Prop:=∀m m2,(f m).ok->(f m).m=m/\(f m2).ok/\(f m2).v=(f m).v/\(f m2).m=m2
section
variable {P:Program}
def Zs {ok:Prop} {v:PV}:WJ λm=>⟨ok,v,m⟩:=λm m2 h=>⟨rfl,h,rfl,rfl⟩
def Zu:WJ λ_=>ARes.fail:=λm m2 h=>h.elim
def Zdn {c x y:PV}:WJ (Zca c x y):=λm m2 h=>by
 revert h;unfold Zca;split;exact Zs m m2;exact Zs m m2;exact Zu m m2
def Zbn {t:TypeId} {x:PV} {f:Nat}:WJ (GS P t x f):=λm m2 h=>by
 revert h;unfold GS;split;exact Zs m m2;exact Zu m m2
def TZ {t:TypeId} {x:PV} {f:Nat}:WJ (YH P t x f):=λm m2 h=>by
 revert h;unfold YH;split<;>first|exact Zs m m2|exact Zu m m2
def Zbo {t:TypeId} {x y:PV}:WJ (GT P t x y):=λm m2 h=>by
 revert h;unfold GT;split<;>first|exact Zs m m2|exact Zu m m2
def T0 {t:TypeId} {x y:PV}:WJ (YI P t x y):=λm m2 h=>by
 revert h;unfold YI;split<;>first|exact Zs m m2|exact Zu m m2
def Zot {op:BinOp} {k b:IntKind} {x y:Int}:WJ (Zqj op k b x y):=λm m2 h=>by
 revert h;unfold Zqj;split<;>first|exact Zs m m2|exact Zu m m2
def Zou {op:BinOp} {x y:List UInt8}:WJ (Zqo op x y):=λm m2 h=>by
 revert h;unfold Zqo;split<;>first|exact Zs m m2|exact Zu m m2
def Zos {op:BinOp} {k b:FloatKind} {x y:Nat}:WJ (Zqi op k b x y):=λm m2 h=>by
 revert h;unfold Zqi;split<;>first|exact Zs m m2|exact Zu m m2
def ZeC {b:Bool} {r:Option Bool}:WJ (aEq b r):=λm m2 h=>by
 revert h;unfold aEq;split<;>first|exact Zs m m2|exact Zu m m2
def Zor {b:Bool} {t:TypeId} {x y:PV}:WJ (ZpX P b t x y):=λm m2 h=>by
 revert h;unfold ZpX;split;split<;>first|exact ZeC m m2|exact Zu m m2
 split<;>first|exact ZeC m m2|exact Zu m m2
 split<;>first|exact ZeC m m2|exact Zu m m2
def Zgq {op:BinOp} {t:TypeId} {x y:PV}:WJ (Zqg P op t x y):=λm m2 h=>by
 revert h;unfold Zqg;split;exact Zot m m2;exact Zou m m2;exact Zos m m2;split<;>first|exact Zor m m2|exact Zu m m2
def Zj1 {op:UnOp} {x:PV}:WJ (aUn op x):=λm m2 h=>by
 revert h;unfold aUn;split<;>first|exact Zs m m2|exact Zu m m2
def Zgr {x y:PV}:WJ (Zqh x y):=λm m2 h=>by
 revert h;unfold Zqh;split<;>first|exact Zs m m2|exact Zu m m2
def Zdo {x:PV}:WJ (Zd4 x):=λm m2 h=>by
 revert h;unfold Zd4;split<;>first|exact Zs m m2|exact Zu m m2
def Zdm {x:PV}:WJ (Zd3 x):=λm m2 h=>by
 revert h;unfold Zd3;split<;>first|exact Zs m m2|exact Zu m m2
def ZsJ {a b:TypeId} {x:PV} {m:Hp} (h:(TC P a b x m).ok):(TC P a b x m).m=m:=by
 revert h;unfold TC;split;exact λ_=>rfl
 exact λ_=>rfl
 split;exact λ_=>rfl
 exact λh=>h.elim
 exact λ_=>rfl
 split;exact λ_=>rfl
 exact λh=>h.elim
 split;split;exact λ_=>rfl
 exact λh=>h.elim
 exact λh=>h.elim
 exact λh=>h.elim
def Zla {a b:TypeId} {x:PV} {m m2:Hp} (c:∀i,.b i∈x.ids->m2.h i=m.h i) (h:(TC P a b x m).ok):(TC P a b x m2).ok/\(TC P a b x m2).v=(TC P a b x m).v/\(TC P a b x m2).m=m2:=by
 revert h;unfold TC;split;exact λ_=>⟨trivial,rfl,rfl⟩
 exact λ_=>⟨trivial,rfl,rfl⟩
 split;exact λh=>⟨h,rfl,rfl⟩
 exact λh=>h.elim
 exact λ_=>⟨trivial,rfl,rfl⟩
 split;exact λ_=>⟨trivial,rfl,rfl⟩
 exact λh=>h.elim
 rename_i id off len sz _;have e:=c id (by simp[Jb]);simp only[e];split;split;exact λh=>⟨h,rfl,rfl⟩
 exact λh=>h.elim
 exact λh=>h.elim
 exact λh=>h.elim
def Dn {x:PV} {i:Nat}:WJ (Vo x i):=λm m2 h=>by
 revert h;unfold Vo;split<;>first|exact Zs m m2|exact Zu m m2
def Gd {x:PV}:WJ (XG x):=λm m2 h=>by
 revert h;unfold XG;split<;>first|exact Zs m m2|exact Zu m m2
def Zgs {t:TypeId} {x:PV}:WJ (Zqk P t x):=λm m2 h=>by
 revert h;unfold Zqk;split<;>first|exact Zs m m2|exact Zu m m2
def Zgt {x y:PV}:WJ (Zql x y):=λm m2 h=>by
 revert h;unfold Zql;split<;>first|exact Zs m m2|exact Zu m m2
def Zgu {x y:PV}:WJ (Zqm x y):=λm m2 h=>by
 revert h;unfold Zqm;split<;>first|exact Zs m m2|exact Zu m m2
def Zbm {t:TypeId} {l:List (Nat×PV)}:WJ (S7 P t l):=λm m2 h=>by
 revert h;unfold S7;split;split<;>first|exact Zs m m2|exact Zu m m2
 split<;>first|exact Zs m m2|exact Zu m m2
 exact Zu m m2
def Zbp {t:TypeId} {x:PV} {lo b:Option PV}:WJ (GU P t x lo b):=λm m2 h=>by
 revert h;unfold GU;split;split<;>first|exact Zs m m2|exact Zu m m2
 split<;>first|exact Zs m m2|exact Zu m m2
 split<;>first|exact Zs m m2|exact Zu m m2
 split<;>first|exact Zs m m2|exact Zu m m2
 exact Zu m m2
def Foot.noMem {o:Oper} {ρ:Operand->PV} {m:Hp} (p:WJ (aop P o ρ)) (b:(fp o.op).nb=Hf) (c:(fp o.op).nq=Hf) (n:(fp o.op).wh=Hf) (l:(fp o.op).wz=Hf) (j:(fp o.op).wq=Hf) (k:(fp o.op).wo=Hf) (d:(aop P o ρ m).ok):
  Foot P o ρ m (aop P o ρ m).v (aop P o ρ m).m:=by
 obtain⟨e,_⟩:=p m m d;rw[e];refine⟨λ_ _=>rfl,λ_ _=>rfl,λ_ _=>rfl,λh=>(by rw[b]at h;cases h),λh=>(by rw[c]at h;cases h),λ_ h=>h,λ_ h=>h,λ_=>rfl,rfl,λm2 _ _ _ _ _ _ _=> ?_⟩;obtain⟨_,t,v,u⟩:=p m m2 d;refine⟨m2,.inl ⟨t,v.symm,u.symm⟩,λi=>⟨λh=> ?_,λ_=>rfl⟩,λi=>⟨λh=> ?_,λ_=>rfl⟩,λi=>⟨λh=> ?_,λ_=>rfl⟩,⟨λh=>(by rw[k]at h;cases h),λ_=>rfl⟩,rfl⟩;simp[Wh,b,n]at h;simp[Wz,b,l]at h;simp[Wq,c,j]at h
def Foot.newB {o:Oper} {ρ:Operand->PV} {m:Hp} {d:Nat} {v:PV} {cs:List PV} {ok:Prop} (hd:o.dst=Hs d) (k:∀m:Hp,aop P o ρ m=⟨m.h d=Hn/\ok,v,m.new d cs⟩)
  (j:fp o.op= { nb:=Ht }) (c:(aop P o ρ m).ok):Foot P o ρ m (aop P o ρ m).v (aop P o ρ m).m:=by
 rw[k]at c ⊢;simp only at c ⊢;have W1:∀r,Wh o ρ r↔r= .b d:=λr=>by simp[Wh,j,hd]
 have W2:∀i,Wz o ρ i↔i=d:=λi=>by simp[Wz,j,hd,eq_comm]
 have W3:∀i,¬Wq o ρ i:=λi=>by simp[Wq,j]
 have n:∀(m:Hp) i,i≠d->(m.new d cs).h i=m.h i:=λm i h=>Zb _ _ (Jz h)
 have y:∀(m:Hp) r,r≠ .b d->(m.new d cs).hv r=m.hv r:=λm r h=>by cases r with|b i=>exact n m i (λe=>h (by rw[e]))|r i=>rfl
 have z:∀(m:Hp) i,i≠d->(m.new d cs).z i=m.z i:=λm i h=>Zb _ _ (Jz h)
 have l:∀(m:Hp),(m.new d cs).h d=Hs cs:=λm=>Za _ _ _
 have p:∀(m:Hp),(m.new d cs).hv (.b d)=Hs cs:=λm=>Za _ _ _
 have t:∀(m:Hp),(m.new d cs).z d=false:=λm=>Za _ _ _
 refine⟨λi h=>y m i (λe=>h ((W1 i).2 e)),λi h=>z m i (λe=>h ((W2 i).2 e)),λ_ _=>rfl,λ_ i u=> ?_,λh=> ?_,λi h=> ?_,λ_ h=>h,λ_=>rfl,rfl,λm2 _ _ _ A _ _ _=> ?_⟩;rw[hd]at u;cases u;exact c.1;rw[j]at h;cases h;by_cases e:i=d;subst e;rw[l];simp;rw[n m i e];exact h;refine⟨m2.new d cs,.inl ?_,λi=>⟨λh=> ?_,λh=>y m2 i (λe=>h ((W1 i).2 e))⟩,λi=>⟨λh=> ?_,λh=>z m2 i (λe=>h ((W2 i).2 e))⟩,λi=>⟨λh=>absurd h (W3 i),λ_=>rfl⟩,⟨λh=>(by rw[j]at h;cases h),λ_=>rfl⟩,rfl⟩;rw[k];exact⟨⟨A (by rw[j]) d hd,c.2⟩,rfl,rfl⟩;obtain rfl:=(W1 i).1 h;rw[p,p];obtain rfl:=(W2 i).1 h;rw[t,t]
def Foot.newQ {o:Oper} {ρ:Operand->PV} {m:Hp} {d:Nat} {v:PV} {r:Row} {ok:Prop} (hd:o.dst=Hs d) (j:∀m:Hp,aop P o ρ m=⟨m.q d=Hn/\ok,v,m.setq d r⟩)
  (c:fp o.op= { nq:=Ht }) (b:(aop P o ρ m).ok):Foot P o ρ m (aop P o ρ m).v (aop P o ρ m).m:=by
 rw[j]at b ⊢;simp only at b ⊢;have W1:∀i,¬Wh o ρ i:=λi=>by simp[Wh,c]
 have W2:∀i,¬Wz o ρ i:=λi=>by simp[Wz,c]
 have W3:∀i,Wq o ρ i↔i=d:=λi=>by simp[Wq,c,hd,eq_comm]
 have l:∀(m:Hp) i,i≠d->(m.setq d r).q i=m.q i:=λm i h=>Zb _ _ (Jz h)
 have k:∀(m:Hp),(m.setq d r).q d=Hs r:=λm=>Za _ _ _
 refine⟨λx _=>Zig _ _ _ x,λ_ _=>rfl,λi h=>l m i (λe=>h ((W3 i).2 e)),λh=> ?_,λ_ i n=> ?_,λ_ h=>h,λi h=> ?_,λ_=>rfl,rfl,λm2 _ _ _ _ p _ _=> ?_⟩;rw[c]at h;cases h;rw[hd]at n;cases n;exact b.1;by_cases e:i=d;subst e;rw[k];simp;rw[l m i e];exact h;refine⟨m2.setq d r,.inl ?_,λi=>⟨λh=>absurd h (W1 i),λ_=>Zig _ _ _ i⟩,λi=>⟨λh=>absurd h (W2 i),λ_=>rfl⟩,λi=>⟨λh=> ?_,λh=>l m2 i (λe=>h ((W3 i).2 e))⟩,⟨λh=>(by rw[c]at h;cases h),λ_=>rfl⟩,rfl⟩;rw[j];exact⟨⟨p (by rw[c]) d hd,b.2⟩,rfl,rfl⟩;obtain rfl:=(W3 i).1 h;rw[k,k]
end
end Go.PL
namespace Go.PL
open Go.RowKit
section
variable {P:Program}
mutual
theorem Zlq {m m2:Hp}:∀(p:PV),(∀i,.b i∈p.ids->m2.h i=m.h i/\m2.z i=m.z i)->p.give m2=p.give m/\(p.givable m->p.givable m2)
 | .ptr id off,h=>by
  obtain⟨c,b⟩:=h id (by simp[Jb]);simp[Jy,Jn,c,b]
 | .osl _ _ _ _,_=>by simp[Jy,Jn]
 | .agg cs,h=>by
  obtain⟨c,b⟩:=VW cs (λi d=>h i (by simpa[Jb]using d));simp only[Jy,Jn,c];exact⟨trivial,b⟩
 | .tup cs,h=>by
  obtain⟨c,b⟩:=VW cs (λi d=>h i (by simpa[Jb]using d));simp only[Jy,Jn,c];exact⟨trivial,b⟩
 | .fn f cs,h=>by
  obtain⟨c,b⟩:=VW cs (λi d=>h i (by simpa[Jb]using d));simp only[Jy,Jn,c];exact⟨trivial,b⟩
 | .any,_=>by simp[Jy,Jn]
 | .int _ _,_=>by simp[Jy,Jn]
 | .bool _,_=>by simp[Jy,Jn]
 | .str _,_=>by simp[Jy,Jn]
 | .flt _ _,_=>by simp[Jy,Jn]
 | .cpx _ _ _,_=>by simp[Jy,Jn]
 | .sl _ _,_=>by simp[Jy,Jn]
 | .rptr _,_=>by simp[Jy,Jn]
 | .nilp,_=>by simp[Jy,Jn]
 | .nilfn,_=>by simp[Jy,Jn]
 | .nilmap,_=>by simp[Jy,Jn]
 | .mref _,_=>by simp[Jy,Jn]
 | .iptr _,_=>by simp[Jy,Jn]
 | .rmap _ _,_=>by simp[Jy,Jn]
 | .vsl _ _ _,_=>by simp[Jy,Jn]
 | .vptr _ _ _ _ _,_=>by simp[Jy,Jn]
theorem VW {m m2:Hp}:∀(cs:List PV),(∀i,.b i∈Jp cs->m2.h i=m.h i/\m2.z i=m.z i)->Jw m2 cs=Jw m cs/\(Js m cs->Js m2 cs)
 | [],_=>by simp[Jw,Js]
 |c::cs,h=>by
  obtain⟨e,d⟩:=Zlq c (λi b=>h i (by simp[Jp,b]));obtain⟨j,k⟩:=VW cs (λi b=>h i (by simp[Jp,b]));simp only[Jw,Js,e,j];exact⟨trivial,λh=>⟨d h.1,k h.2⟩⟩
end
def ZnG {o:Oper} {ρ:Operand->PV} {m:Hp} {v:PV} {c:Call} {g:FuncId} {args:List PV} (u:o.op= .call c) (j:ZJ ρ c=Hs (g,args)) (A:Js m args) (hp:Pure P g (Jw m args) v):Foot P o ρ m v m:=by
 have k:∃f,c.callee= .value f/\ ∃caps,ρ f= .fn g caps/\args=c.args.toList.map ρ++caps:=by
  unfold ZJ at j;split at j;rename_i f p;split at j;rename_i I caps e;simp only[Jm.injEq,Ke.injEq]at j;obtain⟨rfl,rfl⟩:=j;exact⟨f,p,caps,e,rfl⟩;cases j;cases j
 obtain⟨f,p,caps,e,rfl⟩:=k;obtain⟨callee,cargs,G⟩:=c;simp only at p;subst p;have b:fp o.op= { rh:=Ht,rz:=Ht }:=by rw[u];rfl
 have W1:∀i,¬Wh o ρ i:=λi=>by simp[Wh,b]
 have W2:∀i,¬Wz o ρ i:=λi=>by simp[Wz,b]
 have W3:∀i,¬Wq o ρ i:=λi=>by simp[Wq,b]
 refine⟨λ_ _=>rfl,λ_ _=>rfl,λ_ _=>rfl,λh=>(by rw[b]at h;cases h),λh=>(by rw[b]at h;cases h),λ_ h=>h,λ_ h=>h,λ_=>rfl,rfl,λm2 F E _ _ _ _ _=> ?_⟩;have d:∀i,.b i∈Jp (cargs.toList.map ρ++caps)-> .b i∈Yy o ρ:=λi t=>by
  unfold Yy;rw[u];obtain⟨x,l,n⟩:=Jr.1 t;rw[Jq];rcases Ji.1 l with l|l;obtain⟨y,z,rfl⟩:=Je.1 l;exact⟨y,by simp only[Ja,Call.operands];simp;right;simpa using z,n⟩;exact⟨f,by simp[Ja,Call.operands],by rw[e];exact Jr.2 ⟨x,l,n⟩⟩
 obtain⟨D,C⟩:=VW (m:=m) (m2:=m2) (cargs.toList.map ρ++caps) (λi t=>⟨F (by rw[b]) (.b i) (d i t),E (by rw[b]) i (d i t)⟩);refine⟨m2,.inr ⟨_,g,_,u,j,.inl ⟨C A,by rw[D];exact hp⟩,rfl⟩,λi=>⟨λh=>absurd h (W1 i),λ_=>rfl⟩,λi=>⟨λh=>absurd h (W2 i),λ_=>rfl⟩,λi=>⟨λh=>absurd h (W3 i),λ_=>rfl⟩,⟨λh=>(by rw[b]at h;cases h),λ_=>rfl⟩,rfl⟩
def ZnI {o:Oper} {ρ:Operand->PV} {m:Hp} {v:PV} {c:Call} {g:FuncId} {args:List PV} (z:o.op= .call c) (j:ZJ ρ c=Hs (g,args)) (hp:Zxp P m g args v):Foot P o ρ m v m:=by
 have p:∃f,c.callee= .value f/\ ∃caps,ρ f= .fn g caps/\args=c.args.toList.map ρ++caps:=by
  unfold ZJ at j;split at j;rename_i f u;split at j;rename_i U caps e;simp only[Jm.injEq,Ke.injEq]at j;obtain⟨rfl,rfl⟩:=j;exact⟨f,u,caps,e,rfl⟩;cases j;cases j
 obtain⟨f,u,caps,e,rfl⟩:=p;obtain⟨callee,cargs,V⟩:=c;simp only at u;subst u;have b:fp o.op= { rh:=Ht,rz:=Ht }:=by rw[z];rfl
 have W1:∀i,¬Wh o ρ i:=λi=>by simp[Wh,b]
 have W2:∀i,¬Wz o ρ i:=λi=>by simp[Wz,b]
 have W3:∀i,¬Wq o ρ i:=λi=>by simp[Wq,b]
 refine⟨λ_ _=>rfl,λ_ _=>rfl,λ_ _=>rfl,λh=>(by rw[b]at h;cases h),λh=>(by rw[b]at h;cases h),λ_ h=>h,λ_ h=>h,λ_=>rfl,rfl,λm2 J R _ _ _ _ _=> ?_⟩;have k:∀i,.b i∈Jp (cargs.toList.map ρ++caps)-> .b i∈Yy o ρ:=λi O=>by
  unfold Yy;rw[z];obtain⟨x,t,n⟩:=Jr.1 O;rw[Jq];rcases Ji.1 t with t|t;obtain⟨y,N,rfl⟩:=Je.1 t;exact⟨y,by simp only[Ja,Call.operands];simp;right;simpa using N,n⟩;exact⟨f,by simp[Ja,Call.operands],by rw[e];exact Jr.2 ⟨x,t,n⟩⟩
 obtain⟨pre,post,d,L,E,C,A,T,F,I,D⟩:=hp;have l: .b d∈Yy o ρ:=k d (by rw[E];exact Jr.2 ⟨.ptr d 0,by simp,by simp[Jb]⟩);have K:m2.h d=m.h d:=J (by rw[b]) (.b d) l;have G:m2.z d=m.z d:=R (by rw[b]) d l;refine⟨m2,.inr ⟨_,g,_,z,j,.inr ⟨pre,post,d,L,E,C,A,by rw[K];exact T,by rw[G];exact F,I,D⟩,rfl⟩,λi=>⟨λh=>absurd h (W1 i),λ_=>rfl⟩,λi=>⟨λh=>absurd h (W2 i),λ_=>rfl⟩,λi=>⟨λh=>absurd h (W3 i),λ_=>rfl⟩,⟨λh=>(by rw[b]at h;cases h),λ_=>rfl⟩,rfl⟩
theorem ZnJ {o:Oper} {ρ:Operand->PV} {m:Hp} {t:TypeId} {x:Operand} (k:o.op= .load t x) (c:(aop P o ρ m).ok):Foot P o ρ m (aop P o ρ m).v (aop P o ρ m).m:=by
 have b:fp o.op= { rh:=Ht }:=by rw[k];rfl
 have W1:∀i,¬Wh o ρ i:=λi=>by simp[Wh,b]
 have W2:∀i,¬Wz o ρ i:=λi=>by simp[Wz,b]
 have W3:∀i,¬Wq o ρ i:=λi=>by simp[Wq,b]
 have j:∀m,aop P o ρ m=if tkn P t then VO P t (ρ x) m else .fail:=λm=>by unfold aop;rw[k]
 have d:∀r,r∈(ρ x).ids->r∈Yy o ρ:=λi l=>by
  unfold Yy;rw[k];exact Jq.2 ⟨x,by simp[Ja],l⟩
 have key:∀m2:Hp,(∀r,r∈(ρ x).ids->m2.hv r=m.hv r)->(aop P o ρ m).m=m/\(aop P o ρ m2).ok/\(aop P o ρ m2).v=(aop P o ρ m).v/\(aop P o ρ m2).m=m2:=by
  intro m2 p;rw[j]at c ⊢;rw[j];split at c;rename_i A;simp only[A,if_true];revert c;unfold VO;cases u:ρ x with
  |rptr cs=>exact λh=>⟨rfl,h,rfl,rfl⟩
  |ptr id off=>
   have:m2.h id=m.h id:=p (.b id) (by rw[u];simp[Jb]);simp only[this];cases m.h id with
   |none=>exact λh=>h.elim
   |some cs=>exact λh=>⟨rfl,h,rfl,rfl⟩
  |vptr id n z i off=>
   have:m2.v id=m.v id:=p (.r id) (by rw[u];simp[Jb]);simp only[this];cases m.v id with
   |none=>exact λh=>h.elim
   |some es=>exact λh=>⟨rfl,h,rfl,rfl⟩
  |_=>exact λh=>h.elim
  exact c.elim
 obtain⟨e,_⟩:=key m (λ_ _=>rfl);rw[e];refine⟨λ_ _=>rfl,λ_ _=>rfl,λ_ _=>rfl,λh=>(by rw[b]at h;cases h),λh=>(by rw[b]at h;cases h),λ_ h=>h,λ_ h=>h,λ_=>rfl,rfl,λm2 y _ _ _ _ _ _=> ?_⟩;obtain⟨_,v,D,C⟩:=key m2 (λi l=>y (by rw[b]) i (d i l));exact⟨m2,.inl ⟨v,D.symm,C.symm⟩,λi=>⟨λh=>absurd h (W1 i),λ_=>rfl⟩,λi=>⟨λh=>absurd h (W2 i),λ_=>rfl⟩,λi=>⟨λh=>absurd h (W3 i),λ_=>rfl⟩,⟨λh=>(by rw[b]at h;cases h),λ_=>rfl⟩,rfl⟩
def ZnH {o:Oper} {ρ:Operand->PV} {m:Hp} {t u:TypeId} {x:Operand} (l:o.op= .convert t u x) (d:(aop P o ρ m).ok):Foot P o ρ m (aop P o ρ m).v (aop P o ρ m).m:=by
 have b:fp o.op= { rh:=Ht }:=by rw[l];rfl
 have W1:∀i,¬Wh o ρ i:=λi=>by simp[Wh,b]
 have W2:∀i,¬Wz o ρ i:=λi=>by simp[Wz,b]
 have W3:∀i,¬Wq o ρ i:=λi=>by simp[Wq,b]
 have c:∀m,aop P o ρ m=TC P t u (ρ x) m:=λm=>by unfold aop;rw[l]
 have j:∀i,.b i∈(ρ x).ids-> .b i∈Yy o ρ:=λi n=>by
  unfold Yy;rw[l];exact Jq.2 ⟨x,by simp[Ja],n⟩
 have e:(aop P o ρ m).m=m:=by rw[c]at d ⊢;exact ZsJ d
 rw[e];refine⟨λ_ _=>rfl,λ_ _=>rfl,λ_ _=>rfl,λh=>(by rw[b]at h;cases h),λh=>(by rw[b]at h;cases h),λ_ h=>h,λ_ h=>h,λ_=>rfl,rfl,λm2 p _ _ _ _ _ _=> ?_⟩;have k:(TC P t u (ρ x) m).ok:=by rw[<-c];exact d
 obtain⟨v,z,y⟩:=Zla (m2:=m2) (λi n=>p (by rw[b]) (.b i) (j i n)) k;exact⟨m2,.inl ⟨by rw[c];exact v,by rw[c,c];exact z.symm,by rw[c];exact y.symm⟩,λi=>⟨λh=>absurd h (W1 i),λ_=>rfl⟩,λi=>⟨λh=>absurd h (W2 i),λ_=>rfl⟩,λi=>⟨λh=>absurd h (W3 i),λ_=>rfl⟩,⟨λh=>(by rw[b]at h;cases h),λ_=>rfl⟩,rfl⟩
theorem Zll {o:Oper} {ρ:Operand->PV} {m:Hp} {t:TypeId} {x y:Operand} (F:o.op= .store t x y) (p:(aop P o ρ m).ok):Foot P o ρ m (aop P o ρ m).v (aop P o ρ m).m:=by
 have c:fp o.op= { rh:=Ht,rz:=Ht,wh:=Ht }:=by rw[F];rfl
 have W2:∀i,¬Wz o ρ i:=λi=>by simp[Wz,c]
 have W3:∀i,¬Wq o ρ i:=λi=>by simp[Wq,c]
 have A:∀m,aop P o ρ m=if tkn P t then W0 P t (ρ x) (ρ y) m else .fail:=λm=>by unfold aop;rw[F]
 have j:∀r,r∈(ρ x).ids->r∈Yy o ρ:=λi T=>by
  unfold Yy;rw[F];exact Jq.2 ⟨x,by simp[Ja],T⟩
 have W1:∀r,Wh o ρ r↔r∈Yy o ρ:=λi=>by simp[Wh,c]
 rw[A]at p ⊢;split at p;rename_i G;simp only[G,if_true];revert p;unfold W0;cases E:ρ x with
 |ptr id off=>
  simp only;cases C:m.h id with
  |none=>exact λh=>h.elim
  |some cs=>
   rintro ⟨J,N,R,O,U⟩
   have d: .b id∈Yy o ρ:=j (.b id) (by rw[E];simp[Jb]);have K:∀(m:Hp) i,i≠id->(upd m.h id (Hs (YT cs off (ρ y).cells))) i=m.h i:=λm i h=>Zb _ _ (Jz h)
   have u:∀(m:Hp) r,r≠ .b id->({ m with h:=upd m.h id (Hs (YT cs off (ρ y).cells)) }:Hp).hv r=m.hv r:=λm r h=>by cases r with|b i=>exact K m i (λe=>h (by rw[e]))|r i=>rfl
   refine⟨λi h=>u m i (λe=>h ((W1 i).2 (e▸d))),λ_ _=>rfl,λ_ _=>rfl,λh=>(by rw[c]at h;cases h),λh=>(by rw[c]at h;cases h),λi h=> ?_,λ_ h=>h,λ_=>rfl,rfl,λm2 D L _ _ _ _ _=> ?_⟩
   ·show upd m.h id _ i≠Hn
    by_cases e:i=id
    ·subst e;rw[Za];simp
    ·rw[K m i e];exact h
   ·have l:m2.h id=Hs cs:=(D (by rw[c]) (.b id) d).trans C;have I:=(L (by rw[c]) id d).trans J;refine⟨{ m2 with h:=upd m2.h id (Hs (YT cs off (ρ y).cells)) },.inl ?_,λi=>⟨λh=> ?_,λh=>u m2 i (λe=>h ((W1 i).2 (e▸d)))⟩,λi=>⟨λh=>absurd h (W2 i),λ_=>rfl⟩,λi=>⟨λh=>absurd h (W3 i),λ_=>rfl⟩,⟨λh=>(by rw[c]at h;cases h),λ_=>rfl⟩,rfl⟩
    ·rw[A];simp only[G,if_true,W0,E,l];exact⟨⟨I,N,R,O,U⟩,trivial,trivial⟩
    ·by_cases e:i= .b id
     ·subst e;show upd m2.h id _ id=upd m.h id _ id;rw[Za,Za]
     ·rw[u m2 i e,u m i e];exact D (by rw[c]) i ((W1 i).1 h)
 |vptr id n z k off=>
  simp only;cases C:m.v id with
  |none=>exact λh=>h.elim
  |some es=>
   intro J;have d: .r id∈Yy o ρ:=j (.r id) (by rw[E];simp[Jb]);have u:∀(m:Hp) (x:List PV) r,r≠ .r id->({ m with v:=upd m.v id (Hs x) }:Hp).hv r=m.hv r:=λm x r h=>by cases r with|r i=>exact Zb _ _ (λe=>h (by rw[e]))|b i=>rfl
   refine⟨λi h=>u m _ i (λe=>h ((W1 i).2 (e▸d))),λ_ _=>rfl,λ_ _=>rfl,λh=>(by rw[c]at h;cases h),λh=>(by rw[c]at h;cases h),λi h=>h,λ_ h=>h,λ_=>rfl,rfl,λm2 D L _ _ _ _ _=> ?_⟩;have l:m2.v id=Hs es:=(D (by rw[c]) (.r id) d).trans C;refine⟨{ m2 with v:=upd m2.v id (Hs (es.set k (ZbA (es.getD k .any) off (ρ y)))) },.inl ?_,λi=>⟨λh=> ?_,λh=>u m2 _ i (λe=>h ((W1 i).2 (e▸d)))⟩,λi=>⟨λh=>absurd h (W2 i),λ_=>rfl⟩,λi=>⟨λh=>absurd h (W3 i),λ_=>rfl⟩,⟨λh=>(by rw[c]at h;cases h),λ_=>rfl⟩,rfl⟩
   ·rw[A];simp only[G,if_true,W0,E,l];exact⟨J,trivial,trivial⟩
   ·by_cases e:i= .r id
    ·subst e;show upd m2.v id _ id=upd m.v id _ id;rw[Za,Za]
    ·rw[u m2 _ i e,u m _ i e];exact D (by rw[c]) i ((W1 i).1 h)
 |_=>exact λh=>h.elim
 exact p.elim
theorem SC (m:Hp):∀cs,(frozenBy m cs).o=m.o
 | []=>rfl
 |c::cs=>by
  cases c<;>first|exact SC m cs|exact SC (m.freeze _) cs
theorem Gs (m:Hp):∀cs,(frozenBy m cs).it=m.it
 | []=>rfl
 |c::cs=>by
  cases c<;>first|exact Gs m cs|exact Gs (m.freeze _) cs
theorem Gt (m:Hp):∀cs,(frozenBy m cs).om=m.om
 | []=>rfl
 |c::cs=>by
  cases c<;>first|exact Gt m cs|exact Gt (m.freeze _) cs
theorem D6 (m:Hp):∀cs,(frozenBy m cs).v=m.v
 | []=>rfl
 |c::cs=>by
  cases c<;>first|exact D6 m cs|exact D6 (m.freeze _) cs
def Za7 (m:Hp) (cs:List PV) (x:Ref):(frozenBy m cs).hv x=m.hv x:=Zrf (WN m cs) (D6 m cs) x
theorem VV (m:Hp):∀cs,(frozenBy m cs).ph=m.ph/\(frozenBy m cs).pq=m.pq/\(frozenBy m cs).vm=m.vm
 | []=>⟨rfl,rfl,rfl⟩
 |c::cs=>by
  cases c<;>first|exact VV m cs|exact VV (m.freeze _) cs
def Za8 (m:Hp) (cs:List PV):(frozenBy m cs).io=m.io:=by unfold Hp.io;rw[Gs,Gt,(VV m cs).1,(VV m cs).2.1,(VV m cs).2.2]
theorem Gu (m:Hp):∀(cs:List PV) (i:Nat),m.z i=Ht->(frozenBy m cs).z i=Ht
 | [],i,h=>h
 |c::cs,i,h=>by
  cases c with
  |ptr id off=>
   refine Gu (m.freeze id) cs i ?_;show upd m.z id Ht i=Ht;by_cases e:id=i;subst e;exact Za _ _ _;rw[Zb _ _ e];exact h
  |_=>exact Gu m cs i h
theorem Gv (m:Hp):∀(cs:List PV) (i off:Nat),KC i off∈cs->(frozenBy m cs).z i=Ht
 | [],i,off,h=>by cases h
 |c::cs,i,off,h=>by
  rcases JN.1 h with rfl|b;exact Gu (m.freeze i) cs i (Za _ _ _);cases c with
  |ptr id o=>exact Gv (m.freeze id) cs i off b
  |_=>exact Gv m cs i off b
theorem Za9 (m:Hp):∀(cs:List PV) (i:Nat),(∀off,KC i off∉cs)->(frozenBy m cs).z i=m.z i
 | [],i,h=>rfl
 |c::cs,i,h=>by
  have b:=λm=>Za9 m cs i (λoff d=>h off (by simp[d]))
  cases c with
  |ptr id o=>
   refine(b (m.freeze id)).trans (Zb _ _ λe=> ?_);subst e;exact h o (by simp)
  |_=>exact b m
theorem Fv {m m2:Hp}:∀(cs:List PV),(∀i,.b i∈Jp cs->m2.h i=m.h i)->UD m cs->UD m2 cs
 | [],_,_=>trivial
 |c::cs,h,hk=>by
  have b:=Fv (m:=m) (m2:=m2) cs (λi d=>h i (by simp[Jp,d]));cases c with
  |ptr id off=>
   obtain⟨j,e⟩:=hk;refine⟨?_,b e⟩;rw[h id (by simp[Jp,Jb])];exact j
  |_=>exact⟨hk.1,b hk.2⟩
theorem ZaL {m:Hp}:∀ {cs:List PV},UD m cs-> ∀i,.b i∈Jp cs-> ∃off,KC i off∈cs
 | [],_,i,b=>by simp[Jp]at b
 |c::cs,hk,i,b=>by
  simp only[Jp,Ji]at b;rcases b with b|b;cases c with
  |ptr id off=>simp[Jb]at b;subst b;exact⟨off,by simp⟩
  |_=>obtain⟨h,_⟩:=hk;rw[h]at b;cases b
  have d:UD m cs:=by cases c<;>exact hk.2
  obtain⟨off,e⟩:=ZaL d i b;exact⟨off,by simp[e]⟩
def Zeo {o:Oper} {ρ:Operand->PV} {m:Hp} {f:FuncId} {first caps:Array Operand} (t:o.op= .makeFunc (.func f) first caps) (d:(aop P o ρ m).ok):Foot P o ρ m (aop P o ρ m).v (aop P o ρ m).m:=by
 have l:∀m,aop P o ρ m=if first.isEmpty then⟨UD m (caps.toList.map ρ),.fn f (caps.toList.map ρ),frozenBy m (caps.toList.map ρ)⟩else .fail:=λm=>by unfold aop;rw[t]
 rw[l]at d ⊢;split at d;rename_i j;simp only[j,if_true];simp only at d;by_cases n:caps.isEmpty=Ht;have z:caps= #[]:=by simpa using n
 subst z;have b:fp o.op= {}:=by rw[t];rfl
 have W1:∀i,¬Wh o ρ i:=λi=>by simp[Wh,b]
 have W2:∀i,¬Wz o ρ i:=λi=>by simp[Wz,b]
 have W3:∀i,¬Wq o ρ i:=λi=>by simp[Wq,b]
 refine⟨λ_ _=>rfl,λ_ _=>rfl,λ_ _=>rfl,λh=>(by rw[b]at h;cases h),λh=>(by rw[b]at h;cases h),λ_ h=>h,λ_ h=>h,λ_=>rfl,rfl,λm2 _ _ _ _ _ _ _=> ?_⟩;refine⟨m2,.inl ?_,λi=>⟨λh=>absurd h (W1 i),λ_=>rfl⟩,λi=>⟨λh=>absurd h (W2 i),λ_=>rfl⟩,λi=>⟨λh=>absurd h (W3 i),λ_=>rfl⟩,⟨λh=>(by rw[b]at h;cases h),λ_=>rfl⟩,rfl⟩;rw[l];simp only[j,if_true];exact⟨trivial,trivial,rfl⟩;have b:fp o.op= { rh:=Ht,wz:=Ht }:=by rw[t];simp[fp,n]
 have c:∀i,.b i∈Jp (caps.toList.map ρ)↔ .b i∈Yy o ρ:=λi=>by
  unfold Yy;rw[t];have v:first= #[]:=by simpa using j
  subst v;constructor;intro e;obtain⟨x,E,C⟩:=Jr.1 e;obtain⟨y,u,rfl⟩:=Je.1 E;exact Jq.2 ⟨y,by simpa[Ja]using u,C⟩;intro e;obtain⟨y,u,A⟩:=Jq.1 e;exact Jr.2 ⟨ρ y,Je.2 ⟨y,by simpa[Ja]using u,rfl⟩,A⟩
 have W1:∀i,¬Wh o ρ i:=λi=>by simp[Wh,b]
 have W2:∀i,Wz o ρ i↔ .b i∈Yy o ρ:=λi=>by simp[Wz,b]
 have W3:∀i,¬Wq o ρ i:=λi=>by simp[Wq,b]
 have p:∀(m:Hp) i,(.b i∈Yy o ρ->(frozenBy m (caps.toList.map ρ)).z i=Ht)/\(.b i∉Yy o ρ->(frozenBy m (caps.toList.map ρ)).z i=m.z i):=λm' i=>by
  constructor;intro e;obtain⟨off,k⟩:=ZaL d i ((c i).2 e);exact Gv m' _ i off k;intro e;exact Za9 m' _ i (λoff k=>e ((c i).1 (Jr.2 ⟨_,k,by simp[Jb]⟩)))
 refine⟨λi _=>Za7 m _ i,λi h=>(p m i).2 (λD=>h ((W2 i).2 D)),λi _=>by rw[X5],λh=>(by rw[b]at h;cases h),λh=>(by rw[b]at h;cases h),λi h=>by rw[WN];exact h,λi h=>by rw[X5];exact h,λ_=>SC m _,Za8 m _,λm2 F _ _ _ _ _ _=> ?_⟩;refine⟨frozenBy m2 (caps.toList.map ρ),.inl ?_,λi=>⟨λh=>absurd h (W1 i),λ_=>Za7 m2 _ i⟩,λi=>⟨λh=> ?_,λh=>(p m2 i).2 (λD=>h ((W2 i).2 D))⟩,λi=>⟨λh=>absurd h (W3 i),λ_=>by rw[X5]⟩,⟨λh=>(by rw[b]at h;cases h),λ_=>SC m2 _⟩,Za8 m2 _⟩;rw[l];simp only[j,if_true];exact⟨Fv _ (λi e=>F (by rw[b]) (.b i) ((c i).1 e)) d,trivial,trivial⟩;rw[(p m2 i).1 ((W2 i).1 h),(p m i).1 ((W2 i).1 h)];exact d.elim
end
open Go.RowKit
section
variable {P:Program}
theorem Zid {o:Oper} {ρ:Operand->PV} {m:Hp} {args:Array Operand} {T:Array TypeId} (u:o.op= .call ⟨.builtin .append,args,T⟩) (c:(aop P o ρ m).ok):Foot P o ρ m (aop P o ρ m).v (aop P o ρ m).m:=by
 have k:fp o.op= { rq:=Ht,wq:=Ht }:=by rw[u];rfl
 have W1:∀i,¬Wh o ρ i:=λi=>by simp[Wh,k]
 have W2:∀i,¬Wz o ρ i:=λi=>by simp[Wz,k]
 have W3:∀i,Wq o ρ i↔(.r i∈Yy o ρ\/o.dst=Hs i):=λi=>by simp[Wq,k]
 have G:∀m,aop P o ρ m=Yd P .append T.toList o.dst (args.toList.map ρ) m:=λm=>by unfold aop;rw[u]
 rw[G]at c ⊢;have refs:∀x∈args.toList,∀i,.r i∈(ρ x).ids-> .r i∈Yy o ρ:=λx F i Y=>by
  unfold Yy;rw[u];exact Jq.2 ⟨x,by simpa[Ja,Call.operands]using F,Y⟩
 -- what is done:rows Zy in a list are laid anew
 have C:∀ {v:PV} {L:List (Nat×Row)} {ok:Hp->Prop},(∀x∈L,.r x.1∈Yy o ρ\/o.dst=Hs x.1)->(∀m2:Hp,(∀i,(.r i∈Yy o ρ\/o.dst=Hs i)->m2.q i=m.q i)->aop P o ρ m2=⟨ok m2,v,L.foldl (λm x=>m.setq x.1 x.2) m2⟩/\(ok m->ok m2))->ok m->
   Foot P o ρ m v (L.foldl (λm x=>m.setq x.1 x.2) m):=by
  intro v L ok W R j;have U:∀(L:List (Nat×Row)) (m:Hp),(L.foldl (λm x=>m.setq x.1 x.2) m).h=m.h/\(L.foldl (λm x=>m.setq x.1 x.2) m).z=m.z:=by
   intro L
   induction L with
   |nil=>intro m;exact⟨rfl,rfl⟩
   |cons x L ih=>intro m;exact⟨(ih _).1,(ih _).2⟩
  have hv:∀(L:List (Nat×Row)) (m:Hp) (x:Ref),(L.foldl (λm x=>m.setq x.1 x.2) m).hv x=m.hv x:=by
   intro L
   induction L with
   |nil=>intro m x;rfl
   |cons y L ih=>intro m x;exact(ih _ x).trans (Zig _ _ _ x)
  have u:∀(L:List (Nat×Row)) (m:Hp),(L.foldl (λm x=>m.setq x.1 x.2) m).o=m.o/\(L.foldl (λm x=>m.setq x.1 x.2) m).io=m.io:=by
   intro L
   induction L with
   |nil=>intro m;exact⟨rfl,rfl⟩
   |cons x L ih=>intro m;exact⟨(ih _).1,(ih _).2⟩
  have qq:∀(L:List (Nat×Row)) (m:Hp) (i:Nat),(∀x∈L,x.1≠i)->(L.foldl (λm x=>m.setq x.1 x.2) m).q i=m.q i:=by
   intro L
   induction L with
   |nil=>intro m i _;rfl
   |cons x L ih=>
    intro m i h;refine(ih (m.setq x.1 x.2) i (λy X=>h y (by simp[X]))).trans ?_;exact Zb _ _ (h x (by simp))
  have qsame:∀(L:List (Nat×Row)) (m m2:Hp) (i:Nat),m2.q i=m.q i->(L.foldl (λm x=>m.setq x.1 x.2) m2).q i=(L.foldl (λm x=>m.setq x.1 x.2) m).q i:=by
   intro L
   induction L with
   |nil=>intro m m2 i h;exact h
   |cons x L ih=>
    intro m m2 i h;refine ih (m.setq x.1 x.2) (m2.setq x.1 x.2) i ?_;show upd m2.q x.1 _ i=upd m.q x.1 _ i
    by_cases e:x.1=i
    ·subst e;rw[Za,Za]
    ·rw[Zb _ _ e,Zb _ _ e];exact h
  have qlive:∀(L:List (Nat×Row)) (m:Hp) (i:Nat),m.q i≠Hn->(L.foldl (λm x=>m.setq x.1 x.2) m).q i≠none:=by
   intro L
   induction L with
   |nil=>intro m i h;exact h
   |cons x L ih=>
    intro m i h;refine ih (m.setq x.1 x.2) i ?_;show upd m.q x.1 _ i≠Hn
    by_cases e:x.1=i
    ·subst e;rw[Za];simp
    ·rw[Zb _ _ e];exact h
  refine⟨λi _=>hv L m i,λi _=>by rw[(U L m).2],λi h=>qq L m i (λx F e=>h ((W3 i).2 (e▸W x F))),λh=>(by rw[k]at h;cases h),λh=>(by rw[k]at h;cases h),λi h=>by rw[(U L m).1];exact h,λi h=>qlive L m i h,λ_=>(u L m).1,(u L m).2,λm2 _ _ Z _ _ _ _=> ?_⟩;have b:∀i,(.r i∈Yy o ρ\/o.dst=Hs i)->m2.q i=m.q i:=Z (by rw[k]);obtain⟨e,K⟩:=R m2 b;refine⟨L.foldl (λm x=>m.setq x.1 x.2) m2,.inl ?_,λi=>⟨λh=>absurd h (W1 i),λ_=>hv L m2 i⟩,λi=>⟨λh=>absurd h (W2 i),λ_=>by rw[(U L m2).2]⟩,λi=>⟨λh=>qsame L m m2 i (b i ((W3 i).1 h)),λh=>qq L m2 i (λx F e=>h ((W3 i).2 (e▸W x F)))⟩,⟨λh=>(by rw[k]at h;cases h),λ_=>(u L m2).1⟩,(u L m2).2⟩;rw[e];exact⟨K j,rfl,rfl⟩
 revert c;match O:T.toList,has:args.toList with
 | [t,tx],[x,y]=>
  simp only[JX,KZ,Yd];cases hd:o.dst with
  |none=>exact λh=>h.elim
  |some d=>
   have l:∀m2,aop P o ρ m2=U7 P d t tx (ρ x) (ρ y) m2:=λm2=>by
    rw[G,O,has,hd];rfl
   simp only;unfold U7;unfold U7 at l;have N:∀i,.r i∈(ρ x).ids-> .r i∈Yy o ρ:=refs x (by rw[has];simp);split
   ·rename_i ei ys es J I E;intro c;exact C (L:= [(d,_)]) (ok:=λm2=>m2.q d=Hn/\Sized ei.size ys/\XF ys/\ZkQ ys.length ei.bytes) (by intro z p;simp at p;subst p;exact .inr hd)
     (λm2 b=>⟨by rw[l];simp only[J,I,E];rfl,λj=>⟨by rw[b d (.inr hd)];exact j.1,j.2⟩⟩) c
   ·rename_i ei ys id es J I E;have D: .r id∈Yy o ρ:=N id (by rw[E];simp[Jb]);cases V:m.q id with
    |none=>exact λh=>h.elim
    |some r=>
     cases r with
     |dead=>exact λh=>h.elim
     |vec n sz e=>exact λh=>h.elim
     |live n sz e=>
      simp only;intro c
      by_cases A:d=id
      ·subst A;simp only[if_true];exact C (L:= [(d,_)]) (ok:=λm2=>n=es.length/\sz=ei.size/\e=ei.e/\(d=d\/m2.q d=Hn)/\Sized ei.size es/\Sized ei.size ys/\XF ys/\ZkQ (es.length+ys.length) ei.bytes) (by intro z p;simp at p;subst p;exact .inr hd)
        (λm2 b=>⟨by rw[l];simp only[J,I,E,b d (.inr hd),V,if_true];rfl,λj=>⟨j.1,j.2.1,j.2.2.1,.inl rfl,j.2.2.2.2⟩⟩) c
      ·simp only[if_neg A];exact C (L:= [(id,.dead),(d,_)]) (ok:=λm2=>n=es.length/\sz=ei.size/\e=ei.e/\(d=id\/m2.q d=Hn)/\Sized ei.size es/\Sized ei.size ys/\XF ys/\ZkQ (es.length+ys.length) ei.bytes)
        (by intro z p;simp at p;rcases p with rfl|rfl;exact .inl D;exact .inr hd)
        (λm2 b=>⟨by rw[l];simp only[J,I,E,b id (.inl D),V,if_neg A];rfl,λj=>⟨j.1,j.2.1,j.2.2.1,j.2.2.2.1.imp (λh=>h) (λh=>by rw[b d (.inr hd)];exact h),j.2.2.2.2⟩⟩) c
   ·exact λh=>h.elim
 | [],_=>exact λh=>h.elim
 | [_],_=>simp only[Yd];exact λh=>h.elim
 |_::_::_::_,_=>simp only[Yd];exact λh=>h.elim
 | [_,_],[]=>exact λh=>h.elim
 | [_,_],[_]=>simp only[JX,KZ,Yd];exact λh=>h.elim
 | [_,_],_::_::_::_=>simp only[JX,Yd];exact λh=>h.elim
def Zab {o:Oper} {ρ:Operand->PV} {m:Hp} {wo:Bool} (b:fp o.op= { ro:=Ht,wo:=wo }) (d:∀m:Hp,(aop P o ρ m).ok->(aop P o ρ m).m= { m with o:=(aop P o ρ m).m.o }/\(wo=Hf->(aop P o ρ m).m.o=m.o))
  (l:∀m2:Hp,m2.o=m.o->m2.it=m.it->(aop P o ρ m).ok->(aop P o ρ m2).ok/\(aop P o ρ m2).v=(aop P o ρ m).v/\(aop P o ρ m2).m.o=(aop P o ρ m).m.o) (c:(aop P o ρ m).ok):Foot P o ρ m (aop P o ρ m).v (aop P o ρ m).m:=by
 have W1:∀i,¬Wh o ρ i:=λi=>by simp[Wh,b]
 have W2:∀i,¬Wz o ρ i:=λi=>by simp[Wz,b]
 have W3:∀i,¬Wq o ρ i:=λi=>by simp[Wq,b]
 obtain⟨e,p⟩:=d m c;refine⟨λi _=>by rw[e];cases i<;>rfl,λi _=>by rw[e],λi _=>by rw[e],λh=>(by rw[b]at h;cases h),λh=>(by rw[b]at h;cases h),λi h=>by rw[e];exact h,λi h=>by rw[e];exact h,
  λh=>p (by rw[b]at h;exact h),by rw[e];rfl,λm2 _ _ _ _ _ t u=> ?_⟩
 obtain⟨j,y,v⟩:=l m2 (t (by rw[b])) (congrArg (λx=>x.1) u) c;obtain⟨k,n⟩:=d m2 j;exact⟨(aop P o ρ m2).m,.inl ⟨j,y.symm,rfl⟩,λi=>⟨λh=>absurd h (W1 i),λ_=>by rw[k];cases i<;>rfl⟩,λi=>⟨λh=>absurd h (W2 i),λ_=>by rw[k]⟩,λi=>⟨λh=>absurd h (W3 i),λ_=>by rw[k]⟩,⟨λ_=>v,λh=>n (by rw[b]at h;exact h)⟩,by rw[k];rfl⟩
def Zbi {m m2:Hp} (h:m2.o=m.o) (x:PV):Fa m2 x=Fa m x:=by cases x<;>simp[Fa,h]
def TX {t:TypeId} {x k:PV} {ok:Bool} (m m2:Hp) (h:m2.o=m.o):(XZ P t x k ok m).ok->(XZ P t x k ok m).m=m/\(XZ P t x k ok m2).ok/\(XZ P t x k ok m2).v=(XZ P t x k ok m).v/\(XZ P t x k ok m2).m=m2:=by
 unfold XZ;rw[Zbi h];split;split;exact λb=>⟨rfl,b,rfl,rfl⟩
 exact λb=>b.elim
 exact λb=>b.elim
def FC {t:TypeId} {x:PV} (m m2:Hp) (h:m2.o=m.o):(WL P t x m).ok->(WL P t x m).m=m/\(WL P t x m2).ok/\(WL P t x m2).v=(WL P t x m).v/\(WL P t x m2).m=m2:=by
 unfold WL;rw[Zbi h];split;exact λb=>⟨rfl,b,rfl,rfl⟩
 exact λb=>b.elim
def Gn {x:PV} (m m2:Hp) (h:m2.o=m.o) (d:m2.it=m.it):(VN x m).ok->(VN x m).m=m/\(VN x m2).ok/\(VN x m2).v=(VN x m).v/\(VN x m2).m=m2:=by
 have c:∀it,mapIt m2 it=mapIt m it:=λit=>by unfold mapIt;rw[h]
 unfold VN;rw[d];simp only[c];split;split;split;exact λb=>⟨rfl,b,rfl,rfl⟩
 exact λb=>b.elim
 exact λb=>b.elim
 exact λb=>b.elim
def Se {t:TypeId} {x k v:PV} (m m2:Hp) (h:m2.o=m.o):(Z2 P t x k v m).ok->(Z2 P t x k v m).m= { m with o:=(Z2 P t x k v m).m.o }/\(Z2 P t x k v m2).ok/\(Z2 P t x k v m2).v=(Z2 P t x k v m).v/\(Z2 P t x k v m2).m.o=(Z2 P t x k v m).m.o:=by
 unfold Z2;rw[h];split;split;split;exact λb=>⟨rfl,b,rfl,rfl⟩
 exact λb=>⟨rfl,b,rfl,rfl⟩
 exact λb=>b.elim
 exact λb=>b.elim
 exact λb=>b.elim
theorem Zaa {o:Oper} {ρ:Operand->PV} {m:Hp} (e:(aop P o ρ m).ok):Foot P o ρ m (aop P o ρ m).v (aop P o ρ m).m:=by
 have nm:WJ (aop P o ρ)->fp o.op= {}->Foot P o ρ m (aop P o ρ m).v (aop P o ρ m).m:=λh D=>Foot.noMem h (by rw[D]) (by rw[D]) (by rw[D]) (by rw[D]) (by rw[D]) (by rw[D]) e
 obtain⟨dst,op,ty,pos,F,guard⟩:=o;cases op with
 |move x=>exact nm (Zs) rfl
 |assign x=>exact nm (Zs) rfl
 |pick c x y=>exact nm (Zdn) rfl
 |alloc t=>
  cases dst with
  |none=>exact e.elim
  |some d=>
   cases E:XT P t with
   |none=>simp only[aop,E]at e;exact e.elim
   |some z=>exact Foot.newB (d:=d) (v:= .ptr d 0) (cs:=z) (ok:=True) rfl (λm=>by simp only[aop,E,and_true]) rfl e
 |box t x=>
  cases dst with
  |none=>exact e.elim
  |some d=>exact Foot.newB (d:=d) rfl (λm=>rfl) rfl e
 |build t parts=>exact nm (Zbm) rfl
 |buildSlice t len parts=>
  cases dst with
  |none=>exact e.elim
  |some d=>
   cases N:XS P t with
   |none=>simp only[aop,Y7,N]at e;exact e.elim
   |some ei=>exact Foot.newQ (d:=d) rfl (λm=>by simp only[aop,Y7,N];rfl) rfl e
 |load t x=>exact ZnJ rfl e
 |store t x y=>exact Zll rfl e
 |nilCheck x=>exact nm (Gd) rfl
 |binOp op t x y yt=>exact nm (Zgq) rfl
 |unOp op t x=>exact nm (Zj1) rfl
 |convert a b x=>exact ZnH rfl e
 |makeFunc fn first caps=>
  cases fn with
  |func f=>exact Zeo rfl e
  |_=>exact e.elim
 |makeSlice t l c=>
  cases dst with
  |none=>exact e.elim
  |some d=>
   by_cases R:∃k,l= .const (.int k 0)
   ·obtain⟨k,rfl⟩:=R;have j:∀m,aop P ⟨Hs d,.makeSlice t (.const (.int k 0)) c,ty,pos,F,guard⟩ ρ m=Wc P d t (ρ c) m:=λm=>rfl
    rw[j]at e;unfold Wc at e;split at e
    ·rename_i ei T n p A;exact Foot.newQ (d:=d) rfl (λm=>by rw[j];simp only[Wc,p,A];rfl) rfl (by rw[j];unfold Wc;rw[p,A];exact e)
    ·exact e.elim
   ·have j:∀m,aop P ⟨Hs d,.makeSlice t l c,ty,pos,F,guard⟩ ρ m=aMakeFull P d t (ρ l) (ρ c) m:=λm=>by
     unfold aop;simp only;split
     ·rename_i k;exact absurd ⟨k,rfl⟩ R
     ·rfl
    rw[j]at e;unfold aMakeFull at e;split at e
    ·rename_i ei U n T n' p A O;split at e
     ·rename_i z E;exact Foot.newQ (d:=d) rfl (λm=>by rw[j];simp only[aMakeFull,p,A,O,E];rfl) rfl (by rw[j];unfold aMakeFull;rw[p,A,O];simp only[E];exact e)
     ·exact e.elim
    ·exact e.elim
 |slice t x lo hi mx=>
  refine nm (λm m2 h=> ?_) rfl
  revert h
  unfold aop;simp only;split
  ·exact Zbp m m2
  ·exact Zu m m2
 |fieldAddr t x f=>exact nm (TZ) rfl
 |field t x f=>exact nm (Zbn) rfl
 |indexAddr t x i=>exact nm (T0) rfl
 |index t x i=>exact nm (Zbo) rfl
 |extract x i=>exact nm (Dn) rfl
 |lookup t x k ok=>
  have j:∀m,aop P ⟨dst,.lookup t x k ok,ty,pos,F,guard⟩ ρ m=XZ P t (ρ x) (ρ k) ok m:=λm=>rfl
  refine Zab (wo:=Hf) rfl (λm h=> ?_) (λm2 p A h=> ?_) e
  ·rw[j]at h ⊢;have:=(TX m m rfl h).1;exact⟨by rw[this],λ_=>by rw[this]⟩
  ·rw[j]at h ⊢;rw[j];obtain⟨I,J,K,G⟩:=TX _ m2 p h;exact⟨J,K,by rw[G,I];exact p⟩
 |entry x=>
  have j:∀m,aop P ⟨dst,.entry x,ty,pos,F,guard⟩ ρ m=VN (ρ x) m:=λm=>rfl
  refine Zab (wo:=Hf) rfl (λm h=> ?_) (λm2 p A h=> ?_) e
  ·rw[j]at h ⊢;have:=(Gn m m rfl rfl h).1;exact⟨by rw[this],λ_=>by rw[this]⟩
  ·rw[j]at h ⊢;rw[j];obtain⟨I,J,K,G⟩:=Gn _ m2 p A h;exact⟨J,K,by rw[G,I];exact p⟩
 |mapUpdate t x k v=>
  exact Zab (wo:=Ht) rfl (λm h=>⟨(Se m m rfl h).1,λh=>by cases h⟩) (λm2 p A h=>(Se _ m2 p h).2) e
 |call c=>
  obtain⟨callee,args,u⟩:=c;cases callee with
  |builtin b=>
   by_cases L:b= .append
   ·subst L;exact Zid rfl e
   by_cases C:b= .len
   ·subst C;have j:∀m,aop P ⟨dst,.call ⟨.builtin .len,args,u⟩,ty,pos,F,guard⟩ ρ m=Yd P .len u.toList dst (args.toList.map ρ) m:=λm=>rfl
    have key:∀m m2:Hp,m2.o=m.o->(Yd P .len u.toList dst (args.toList.map ρ) m).ok->(Yd P .len u.toList dst (args.toList.map ρ) m).m=m/\(Yd P .len u.toList dst (args.toList.map ρ) m2).ok/\(Yd P .len u.toList dst (args.toList.map ρ) m2).v=(Yd P .len u.toList dst (args.toList.map ρ) m).v/\(Yd P .len u.toList dst (args.toList.map ρ) m2).m=m2:=by
     intro m m2 h;unfold Yd;split
     ·split
      ·exact FC m m2 h
      ·exact Zgs m m2
     all_goals first|contradiction|exact Zu m m2
    refine Zab (wo:=Hf) rfl (λm h=> ?_) (λm2 p A h=> ?_) e
    ·rw[j]at h ⊢;have:=(key m m rfl h).1;exact⟨by rw[this],λ_=>by rw[this]⟩
    ·rw[j]at h ⊢;rw[j];obtain⟨I,J,K,G⟩:=key m m2 p h;exact⟨J,K,by rw[G,I];exact p⟩
   ·refine nm (λm m2 h=> ?_) (by cases b<;>first|rfl|exact absurd rfl L|exact absurd rfl C)
    revert h
    show(Yd P b u.toList dst (args.toList.map ρ) m).ok->(Yd P b u.toList dst (args.toList.map ρ) m).m=m/\(Yd P b u.toList dst (args.toList.map ρ) m2).ok/\(Yd P b u.toList dst (args.toList.map ρ) m2).v=(Yd P b u.toList dst (args.toList.map ρ) m).v/\(Yd P b u.toList dst (args.toList.map ρ) m2).m=m2;unfold Yd;split
    ·exact absurd rfl C
    ·exact absurd rfl L
    ·exact Zgt m m2
    ·exact Zgu m m2
    ·exact Zgr m m2
    ·exact Zdo m m2
    ·exact Zdm m m2
    ·exact Zu m m2
  |_=>exact e.elim
 |_=>exact e.elim
def Za5 {o:Oper} {ρ:Operand->PV} {m m':Hp} {v:PV} (h:XY P o ρ m v m'):Foot P o ρ m v m':=by
 rcases h with ⟨i,rfl,rfl⟩|⟨c,g,args,b,d,⟨e,hp⟩|hp,rfl⟩;exact Zaa i;exact ZnG b d e hp;exact ZnI b d hp
end
open Go.RowKit
def compat (a b:Op):Bool:=
 let x:=fp a
 let y:=fp b
 !(x.wh&&(y.rh||y.wh))&& !(y.wh&&(x.rh||x.wh))&& !(x.wz&&(y.rz||y.wz))&& !(y.wz&&(x.rz||x.wz))&& !(x.wq&&(y.rq||y.wq))&& !(y.wq&&(x.rq||x.wq))&& !(x.wo&&(y.ro||y.wo))&& !(y.wo&&(x.ro||x.wo))
section
variable {P:Program} {ops:Array Oper}
theorem ZaF {ρ ρ':Operand->PV} (o:Oper) (m:Hp) (h:∀x∈o.op.operands,ρ x=ρ' x):aop P o ρ m=aop P o ρ' m:=by
 obtain⟨dst,op,ty,pos,C,guard⟩:=o;have pairs:∀ps:Array (Nat×Operand),(∀x∈(ps.toList.map (·.2)).toArray,ρ x=ρ' x)->(ps.toList.map λx=>(x.1,ρ x.2))=(ps.toList.map λx=>(x.1,ρ' x.2)):=λps hp=>
  JW λp z=>by rw[hp p.2 (by simp only[List.mem_toArray,Je];exact⟨p,z,rfl⟩)]
 cases op with
 |build t ps=>simp only[aop];rw[pairs ps h]
 |buildSlice t n ps=>simp only[aop];rw[pairs ps h]
 |makeFunc fn first caps=>
  have:caps.toList.map ρ=caps.toList.map ρ':=JW λx j=>h x (by simp[Ja];right;simpa using j)
  cases fn<;>simp only[aop,this]
 |makeSlice t l c=>
  have e:ρ l=ρ' l:=h l (by simp[Ja]);have d:ρ c=ρ' c:=h c (by simp[Ja]);simp only[aop,e,d]
 |slice t x lo hi mx=>
  have e:ρ x=ρ' x:=h x (by simp[Ja]);have d:lo.map ρ=lo.map ρ':=by cases lo with|none=>rfl|some y=>simp[h y (by simp[Ja])]
  have u:hi.map ρ=hi.map ρ':=by cases hi with|none=>rfl|some y=>simp[h y (by simp[Ja])]
  simp only[aop,e,d,u]
 |call c=>
  obtain⟨callee,args,A⟩:=c;cases callee with
  |builtin b=>
   have:args.toList.map ρ=args.toList.map ρ':=JW λx j=>h x (by simp[Ja,Call.operands];simpa using j)
   simp only[aop,this]
  |_=>rfl
 |pick c x y=>
  simp only[aop,h c (by simp[Ja]),h x (by simp[Ja]),h y (by simp[Ja])]
 |alloc t=>rfl
 |move x=>simp only[aop,h x (by simp[Ja])]
 |assign x=>simp only[aop,h x (by simp[Ja])]
 |box t x=>simp only[aop,h x (by simp[Ja])]
 |load t x=>simp only[aop,h x (by simp[Ja])]
 |store t x y=>simp only[aop,h x (by simp[Ja]),h y (by simp[Ja])]
 |nilCheck x=>simp only[aop,h x (by simp[Ja])]
 |binOp op t x y yt=>simp only[aop,h x (by simp[Ja]),h y (by simp[Ja])]
 |unOp op t x=>simp only[aop,h x (by simp[Ja])]
 |convert a b x=>simp only[aop,h x (by simp[Ja])]
 |fieldAddr t x f=>simp only[aop,h x (by simp[Ja])]
 |field t x f=>simp only[aop,h x (by simp[Ja])]
 |indexAddr t x i=>simp only[aop,h x (by simp[Ja]),h i (by simp[Ja])]
 |index t x i=>simp only[aop,h x (by simp[Ja]),h i (by simp[Ja])]
 |extract x i=>simp only[aop,h x (by simp[Ja])]
 |lookup t x k ok=>simp only[aop,h x (by simp[Ja]),h k (by simp[Ja])]
 |mapUpdate t x k v=>simp only[aop,h x (by simp[Ja]),h k (by simp[Ja]),h v (by simp[Ja])]
 |entry x=>simp only[aop,h x (by simp[Ja])]
 |_=>rfl
theorem Xx {ρ ρ':Operand->PV} {o:Oper} {m m':Hp} {v:PV} (h:∀x∈o.op.operands,ρ x=ρ' x) (n:XY P o ρ m v m'):XY P o ρ' m v m':=by
 rcases n with ⟨j,e,i⟩|⟨c,g,args,d,k,hp,rfl⟩;rw[ZaF o m h]at j e i;exact .inl ⟨j,e,i⟩;refine .inr ⟨c,g,args,d,?_,hp,rfl⟩;rw[<-k];rw[d]at h;unfold ZJ;cases b:c.callee with
 |value f=>
  have l:ρ f=ρ' f:=h f (by simp[Ja,Call.operands,b]);have t:c.args.toList.map ρ'=c.args.toList.map ρ:=JW λx p=>(h x (by simp[Ja,Call.operands];right;simpa using p)).symm
  simp only[l,t]
 |_=>rfl
def Xa (P:Program) (ops:Array Oper) (o:Oper) (s s':St):Prop:=
 Gk s.n o.dst/\((gd ops s o=Hs Ht/\ ∃v m',XY P o s.eval s.m v m'/\s'=(s.with m').put o.dst v)\/(gd ops s o=Hs Hf/\s'=s.put o.dst (.tup [])))
def Dp (s:St) (d:Option Nat) (v:PV):(s.put d v).n=s.n:=by cases d<;>rfl
def UQ (s:St) (d:Option Nat) (v:PV):(s.put d v).m=s.m:=by cases d<;>rfl
def WY (s:St) (d:Option Nat) (v:PV) (m:Hp):(s.put d v).with m=(s.with m).put d v:=by cases d<;>rfl
theorem FG {s:St} {d:Option Nat} {v:PV} {i:Nat} (h:d≠Hs i):(s.put d v).fr i=s.fr i:=by
 cases d with
 |none=>rfl
 |some d=>exact Zb _ _ (λe=>h (by rw[e]))
theorem WX {s:St} {d:Option Nat} {v:PV} {x:Operand} (h:∀t,d=Hs t->x≠ .tmp t):(s.put d v).eval x=s.eval x:=by
 cases x with
 |tmp t=>exact FG (λe=>h t e rfl)
 |_=>rfl
def U3 (s:St) (m:Hp):(s.with m).eval=s.eval:=by
 funext x;cases x<;>rfl
theorem Vq (s:St) {x y:Option Nat} (u v:PV) (h:∀d,x=Hs d->y≠Hs d):(s.put x u).put y v=(s.put y v).put x u:=by
 cases x with
 |none=>rfl
 |some d=>
  cases y with
  |none=>rfl
  |some e=>
   have b:d≠e:=λk=>h d rfl (k▸rfl)
   simp only[St.put];congr 1;funext i;simp only[upd];by_cases c:e=i;by_cases j:d=i;exact absurd (j.trans c.symm) b;simp[c,j];simp[c]
theorem UP {s:St} {o:Oper} {d:Option Nat} {v:PV} {m:Hp} (h:∀t,d=Hs t->t∉o.looksAt ops):gd ops ((s.with m).put d v) o=gd ops s o:=by
 unfold gd;cases b:o.guard with
 |none=>rfl
 |some jw=>
  obtain⟨j,want⟩:=jw;simp only;cases hd:(ops[j]?).bind (·.dst)with
  |none=>rfl
  |some t=>
   simp only[Dp];have:d≠Hs t:=λe=>h t e (by unfold Oper.looksAt;rw[b];simp[hd])
   rw[FG this];rfl
def XO {o:Oper} {d:Option Nat} (h:∀t,d=Hs t->t∉o.looksAt ops):∀x∈o.op.operands,∀t,d=Hs t->x≠ .tmp t:=λx c t b e=>by
 refine h t b ?_;subst e;unfold Oper.looksAt;exact List.mem_append_left _ (List.mem_filterMap.2 ⟨.tmp t,by simpa using c,rfl⟩)
theorem ZgO {s:St} (c:Refs s) (o:Oper):∀r∈Yy o s.eval,ZI s.m r:=λr h=>by
 unfold Yy at h;obtain⟨x,_,b⟩:=Jq.1 h;cases x with
 |tmp t=>exact c.fr t r b
 |const v=>simp[St.eval,W7]at b
 |func f=>simp[St.eval,Jb,Jp]at b
 |_=>simp[St.eval,Jb]at b
def Zvz {a b:Hp} (d:∀i,a.hv i=b.hv i) (e:∀i,a.z i=b.z i) (h:∀i,a.q i=b.q i) (j:a.o=b.o) (c:a.io=b.io):a=b:=by
 cases a;cases b;simp only[Hp.mk.injEq];exact⟨funext λi=>d (.b i),funext e,funext h,j,congrArg (λx=>x.1) c,congrArg (λx=>x.2.1) c,funext λi=>d (.r i),congrArg (λx=>x.2.2.1) c,congrArg (λx=>x.2.2.2.1) c,congrArg (λx=>x.2.2.2.2) c⟩
theorem SV {s T s2:St} {n oj:Oper} (hr:Refs s) (xc:n.apart ops oj=Ht) (W:compat n.op oj.op=Ht) (N:Xa P ops n s T) (Z:Xa P ops oj T s2):
  ∃Y,Xa P ops oj s Y/\Xa P ops n Y s2:=by
 obtain⟨a1,R,L⟩:=Oper.apart_spec xc;obtain⟨d1,N⟩:=N;obtain⟨d2,Z⟩:=Z;have n1:T.n=s.n:=by rcases N with ⟨_,v,m',_,rfl⟩|⟨_,rfl⟩<;>simp[Dp,St.with]
 rw[n1]at d2;have ej:∀x∈oj.op.operands,T.eval x=s.eval x:=λx O=>by
  rcases N with ⟨_,v,m',_,rfl⟩|⟨_,rfl⟩;rw[WX (XO a1 x O),U3];rw[WX (XO a1 x O)]
 have gj:gd ops T oj=gd ops s oj:=by
  rcases N with ⟨_,v,m',_,rfl⟩|⟨_,rfl⟩;exact UP a1;exact UP (m:=s.m) a1
 have xe:∀d,oj.dst=Hs d->n.dst≠Hs d:=λd hd e=>R d e hd
 rcases N with ⟨X,vi,mi,V,rfl⟩|⟨X,rfl⟩;rcases Z with ⟨I,K,mj,u,rfl⟩|⟨I,rfl⟩
 -- both are carried out
 rw[UQ]at u;have U:XY P oj s.eval mi K mj:=Xx ej u;have F1:=Za5 V;have F2:=Za5 U;have Li:=ZgO hr n;have Lj:=ZgO hr oj;simp only[compat,JG,Bool.not_eq_true',Bool.and_eq_false_imp,Kr]at W;obtain⟨⟨⟨⟨⟨⟨⟨c1,c2⟩,c3⟩,c4⟩,c5⟩,c6⟩,c7⟩,c8⟩:=W;have j:∀i,n.dst=Hs i->oj.dst=Hs i->False:=λi h h'=>R i h h'
 -- what the second one makes anew was not ZyX before the first one
 have y:(fp oj.op).nb=Ht-> ∀i,oj.dst=Hs i->s.m.h i=none:=λhb i b=>by
  have h0:=F2.hn hb i b;refine JV λE=> ?_
  exact F1.hl i E h0
 have A:(fp oj.op).nq=Ht-> ∀i,oj.dst=Hs i->s.m.q i=none:=λhb i b=>by
  have h0:=F2.qn hb i b;refine JV λE=> ?_
  exact F1.ql i E h0
 obtain⟨ma,xa,ah,az,aq,ao,ai⟩:=F2.re s.m
  (λG i b=>by
   refine(F1.h1 i ?_).symm
   rintro (⟨w,_⟩|⟨nb,d,hd,rfl⟩)
   ·have:=(c1 w).1;rw[G]at this;cases this
   ·exact Lj _ b (F1.hn nb d hd))
  (λD i b=>by
   refine(F1.z1 i ?_).symm
   rintro (⟨w,_⟩|⟨nb,hd⟩)
   ·have:=(c3 w).1;rw[D]at this;cases this
   ·exact Lj _ b (F1.hn nb i hd))
  (λJ i b=>by
   refine(F1.q1 i ?_).symm
   rintro (⟨w,_⟩|⟨nq,hd⟩)
   ·have:=(c5 w).1;rw[J]at this;cases this
   ·rcases b with b|b
    ·exact Lj _ b (F1.qn nq i hd)
    ·exact j i hd b)
  y A
  (λC=>by
   refine(F1.o1 ?_).symm;cases hw:(fp n.op).wo with
   |false=>rfl
   |true=>have:=(c7 hw).1;rw[C]at this;cases this) F1.i1.symm
 obtain⟨mb,xd,bh,bz,bq,bo,bi⟩:=F1.re ma
  (λG i b=>by
   refine(ah i).2 ?_
   rintro (⟨w,_⟩|⟨nb,d,hd,rfl⟩)
   ·have:=(c2 w).1;rw[G]at this;cases this
   ·exact Li _ b (y nb d hd))
  (λD i b=>by
   refine(az i).2 ?_
   rintro (⟨w,_⟩|⟨nb,hd⟩)
   ·have:=(c4 w).1;rw[D]at this;cases this
   ·exact Li _ b (y nb i hd))
  (λJ i b=>by
   refine(aq i).2 ?_
   rintro (⟨w,_⟩|⟨nq,hd⟩)
   ·have:=(c6 w).1;rw[J]at this;cases this
   ·rcases b with b|b
    ·exact Li _ b (A nq i hd)
    ·exact j i b hd)
  (λnb i hd=>by
   refine((ah (.b i)).2 ?_).trans (F1.hn nb i hd)
   rintro (⟨_,b⟩|⟨_,d,c,e⟩)
   ·exact Lj _ b (F1.hn nb i hd)
   ·cases e;exact j i hd c)
  (λnq i hd=>by
   refine((aq i).2 ?_).trans (F1.qn nq i hd)
   rintro (⟨w,b⟩|⟨_,c⟩)
   ·rcases b with b|b
    ·exact Lj _ b (F1.qn nq i hd)
    ·exact j i hd b
   ·exact j i hd c)
  (λC=>by
   refine ao.2 ?_;cases hw:(fp oj.op).wo with
   |false=>rfl
   |true=>have:=(c8 hw).1;rw[C]at this;cases this) ai
 have em:mb=mj:=by
  refine Zvz (λi=> ?_) (λi=> ?_) (λi=> ?_) ?_ (by rw[bi,ai,F2.i1,F1.i1]);by_cases l:Wh n s.eval i;rw[(bh i).1 l];refine(F2.h1 i ?_).symm;rintro (⟨w,b⟩|⟨nb,d,hd,e⟩);rcases l with ⟨w',_⟩|⟨F,d',c,e'⟩;have:=(c1 w').2;rw[w]at this;cases this;subst e';exact Lj _ b (F1.hn F d' c);subst e;rcases l with ⟨_,k⟩|⟨_,d',c,e'⟩;exact Li _ k (y nb d hd);cases e';exact j d c hd;rw[(bh i).2 l];by_cases t:Wh oj s.eval i;exact(ah i).1 t;rw[(ah i).2 t,F2.h1 i t,F1.h1 i l];by_cases l:Wz n s.eval i;rw[(bz i).1 l];refine(F2.z1 i ?_).symm;rintro (⟨w,b⟩|⟨nb,hd⟩);rcases l with ⟨w',_⟩|⟨F,c⟩;have:=(c3 w').2;rw[w]at this;cases this;exact Lj _ b (F1.hn F i c);rcases l with ⟨_,k⟩|⟨_,c⟩;exact Li _ k (y nb i hd);exact j i c hd;rw[(bz i).2 l];by_cases t:Wz oj s.eval i;exact(az i).1 t;rw[(az i).2 t,F2.z1 i t,F1.z1 i l];by_cases l:Wq n s.eval i;rw[(bq i).1 l];refine(F2.q1 i ?_).symm;rintro (⟨w,b⟩|⟨nq,hd⟩);rcases l with ⟨w',_⟩|⟨xb,c⟩;have:=(c5 w').2;rw[w]at this;cases this;rcases b with b|b;exact Lj _ b (F1.qn xb i c);exact j i c b;rcases l with ⟨_,k⟩|⟨_,c⟩;rcases k with k|k;exact Li _ k (A nq i hd);exact j i k hd;exact j i c hd;rw[(bq i).2 l];by_cases t:Wq oj s.eval i;exact(aq i).1 t;rw[(aq i).2 t,F2.q1 i t,F1.q1 i l];cases z:(fp n.op).wo with
  |true=>
   rw[bo.1 z];refine(F2.o1 ?_).symm;cases p:(fp oj.op).wo with
   |false=>rfl
   |true=>have:=(c7 z).2;rw[p]at this;cases this
  |false=>
   rw[bo.2 z];cases p:(fp oj.op).wo with
   |true=>exact ao.1 p
   |false=>rw[ao.2 p,F2.o1 p,F1.o1 z]
 subst em;refine⟨(s.with ma).put oj.dst K,⟨d2,.inl ⟨by rw[<-gj];exact I,K,ma,xa,rfl⟩⟩,by rw[Dp];exact d1,.inl ⟨by rw[UP L];exact X,vi,mb,?_,?_⟩⟩;rw[UQ];refine Xx (λx O=> ?_) xd;rw[WX (XO L x O),U3];rw[WY,WY,Vq _ _ _ R];rfl;refine⟨s.put oj.dst (.tup []),⟨d2,.inr ⟨by rw[<-gj];exact I,rfl⟩⟩,by rw[Dp];exact d1,.inl ⟨by rw[show s.put oj.dst (.tup [])=(s.with s.m).put oj.dst (.tup [])from rfl,UP L];exact X,vi,mi,?_,?_⟩⟩;rw[UQ];exact Xx (λx O=>by rw[WX (XO L x O)]) V;rw[WY,Vq _ _ _ R];rcases Z with ⟨I,K,mj,u,rfl⟩|⟨I,rfl⟩;rw[UQ]at u;refine⟨(s.with mj).put oj.dst K,⟨d2,.inl ⟨by rw[<-gj];exact I,K,mj,Xx ej u,rfl⟩⟩,by rw[Dp];exact d1,.inr ⟨by rw[UP L];exact X,?_⟩⟩;rw[WY,Vq _ _ _ R];refine⟨s.put oj.dst (.tup []),⟨d2,.inr ⟨by rw[<-gj];exact I,rfl⟩⟩,by rw[Dp];exact d1,.inr ⟨by rw[show s.put oj.dst (.tup [])=(s.with s.m).put oj.dst (.tup [])from rfl,UP L];exact X,?_⟩⟩;rw[Vq _ _ _ R]
end
open Go.RowKit
section
variable {P:Program} {ops:Array Oper}
theorem PV.mem_didsL {id:Ref}:∀ {cs:List PV},id∈PV.didsL cs↔ ∃c∈cs,id∈c.dids
 | []=>by simp[PV.didsL]
 |c::cs=>by simp[PV.didsL,PV.mem_didsL (cs:=cs)]
def ZaP {l l':List PV} (h:∀c∈l,c∈l') {i:Ref} (b:i∈PV.didsL l):i∈PV.didsL l':=by
 obtain⟨c,d,e⟩:=PV.mem_didsL.1 b;exact PV.mem_didsL.2 ⟨c,h c d,e⟩
mutual
theorem Wk:∀(p:PV) {r:Ref},r∈p.ids->r∈p.dids
 | .ptr _ _,r,h=>h
 | .osl _ _ _ _,r,h=>h
 | .sl t es,r,h=>by cases t<;>simp[Jb]at h;subst h;simp[PV.dids]
 | .agg cs,r,h=>by simp only[Jb,PV.dids]at *;exact SD cs h
 | .tup cs,r,h=>by simp only[Jb,PV.dids]at *;exact SD cs h
 | .fn _ cs,r,h=>by simp only[Jb,PV.dids]at *;exact SD cs h
 | .any,r,h=>by simp[Jb]at h
 | .int _ _,r,h=>by simp[Jb]at h
 | .bool _,r,h=>by simp[Jb]at h
 | .str _,r,h=>by simp[Jb]at h
 | .flt _ _,r,h=>by simp[Jb]at h
 | .cpx _ _ _,r,h=>by simp[Jb]at h
 | .rptr _,r,h=>by simp[Jb]at h
 | .nilp,r,h=>by simp[Jb]at h
 | .nilfn,r,h=>by simp[Jb]at h
 | .nilmap,r,h=>by simp[Jb]at h
 | .mref _,r,h=>by simp[Jb]at h
 | .rmap _ _,r,h=>by simp[Jb]at h
 | .vsl _ _ _,r,h=>h
 | .vptr _ _ _ _ _,r,h=>h
 | .iptr _,r,h=>by simp[Jb]at h
theorem SD:∀(cs:List PV) {r:Ref},r∈Jp cs->r∈PV.didsL cs
 | [],r,h=>by simp[Jp]at h
 |c::cs,r,h=>by
  simp only[Jp,PV.didsL,Ji]at *;exact h.imp (Wk c) (SD cs)
end
def ZaQ (v:Value):(T2 v).dids= []:=by unfold T2;split<;>rfl
theorem ZfJ (l:List Value):PV.didsL (l.map T2)= []:=by
 induction l with
 |nil=>rfl
 |cons a l ih=>simp[PV.didsL,ZaQ,ih]
def Vz (v:Value):(XP v).dids= []:=by
 unfold XP;split;simp[PV.dids,ZfJ];split<;>rfl
 exact ZaQ _
def ZbM {t:Tok} {es:List PV} {r:Ref} (h:r∈PV.didsL es):r∈(PV.sl t es).dids:=by
 cases t<;>simp[PV.dids,h]
theorem UF {p c:PV} (b:c∈p.cells) {k:Ref} (d:k∈c.dids):k∈p.dids:=by
 cases p with
 |agg cs=>simp only[J9]at b;simp only[PV.dids];exact PV.mem_didsL.2 ⟨c,b,d⟩
 |_=>simp only[J9,Jo]at b;subst b;exact d
theorem Wi {cs:List PV} {o:Nat} {r:Ref} (h:r∈(cs.getD o .any).dids):r∈PV.didsL cs:=by
 rw[List.getD_eq_getElem?_getD]at h;cases b:cs[o]? with
 |none=>rw[b]at h;simp[PV.dids]at h
 |some c=>rw[b]at h;exact PV.mem_didsL.2 ⟨c,List.mem_of_getElem? b,h⟩
def UN {b:Bool} {sz:Nat} {cs:List PV} {o:Nat} {r:Ref} (h:r∈(Vb b sz cs o).dids):r∈PV.didsL cs:=by
 unfold Vb at h;split at h;simp only[PV.dids]at h;exact ZaP (λc d=>JL (JT d)) h;exact Wi h
def ZdG {cs ns:List PV} {o:Nat} {r:Ref} (h:r∈PV.didsL (YT cs o ns)):r∈PV.didsL cs\/r∈PV.didsL ns:=by
 obtain⟨c,b,d⟩:=PV.mem_didsL.1 h;unfold YT at b;rw[Ji,Ji]at b;rcases b with (b|b)|b;exact .inl (PV.mem_didsL.2 ⟨c,JT b,d⟩);exact .inr (PV.mem_didsL.2 ⟨c,b,d⟩);exact .inl (PV.mem_didsL.2 ⟨c,JL b,d⟩)
def Vx {p:PV} {r:Ref} (h:r∈PV.didsL p.cells):r∈p.dids:=by
 obtain⟨c,b,d⟩:=PV.mem_didsL.1 h;exact UF b d
theorem Zjz {place:Nat->Option (Nat×Nat)}:∀(l:List (Nat×PV)) (cs cs':List PV),TO place cs l=Hs cs'-> ∀r∈PV.didsL cs',r∈PV.didsL cs\/ ∃x∈l,r∈x.2.dids
 | [],cs,cs',h,r,hr=>by
  simp only[TO,Jm.injEq]at h;subst h;exact .inl hr
 |(i,p)::rest,cs,cs',h,r,hr=>by
  simp only[TO]at h;split at h;cases h;split at h;rcases Zjz rest _ _ h r hr with c|⟨x,d,c⟩;rcases ZdG c with b|b;exact .inl b;exact .inr ⟨(i,p),by simp,Vx b⟩;exact .inr ⟨x,by simp[d],c⟩;cases h
def ZsF {t:TypeId} {z:List PV} (h:XT P t=Hs z):PV.didsL z= []:=by
 unfold XT aMakeFull.tbdz at h;split at h;split at h;split at h;simp only[Jm.injEq]at h;subst h;rw[JA];intro r b;have:=Vx b;rw[Vz]at this;cases this;cases h;cases h;cases h
def ZwZ {t:TypeId} {z:PV} (h:aMakeFull.tz P t=Hs z):z.dids= []:=by
 unfold aMakeFull.tz at h;split at h;split at h;split at h;simp only[Jm.injEq]at h;subst h;exact Vz _;cases h;cases h;cases h
def T3 (v:Value):PV.didsL (XP v).cells= []:=by
 rw[JA];intro r b;have:=Vx b;rw[Vz]at this;cases this
def Zei (o:Oper) (ρ:Operand->PV):List Ref:=o.op.operands.toList.flatMap λx=>(ρ x).dids
def Yj {o:Oper} {ρ:Operand->PV} {x:Operand} {r:Ref} (b:x∈o.op.operands.toList) (h:r∈(ρ x).dids):r∈Zei o ρ:=Jq.2 ⟨x,b,h⟩
def Wf {r:Ref}:r∉(ARes.fail).v.dids:=by simp[ARes.fail,PV.dids]
def ZuM {t:TypeId} {x:PV} {f:Nat} {m:Hp}:∀r∈(GS P t x f m).v.dids,r∈x.dids:=by
 intro r;unfold GS;split;exact λh=>by simpa[PV.dids]using UN h
 exact λh=>absurd h Wf
def Zjv {cs:List PV} {n:Nat} {r:Ref} (h:r∈PV.didsL (cs.drop n)):r∈PV.didsL cs:=ZaP (λc b=>JL b) h
def Zb0 {t:TypeId} {x:PV} {f:Nat} {m:Hp}:∀r∈(YH P t x f m).v.dids,r∈x.dids:=by
 intro r;unfold YH;split;exact λh=>h
 exact λh=>by simp only[PV.dids]at *;exact Zjv h
 exact λh=>h
 exact λh=>absurd h Wf
def ZuN {t:TypeId} {x i:PV} {m:Hp}:∀r∈(GT P t x i m).v.dids,r∈x.dids:=by
 intro r;unfold GT;split;exact λh=>by simpa[PV.dids]using UN h
 exact λh=>by simp[PV.dids]at h
 exact λh=>absurd h Wf
def Zb1 {t:TypeId} {x i:PV} {m:Hp}:∀r∈(YI P t x i m).v.dids,r∈x.dids:=by
 intro r;unfold YI;split;exact λh=>by simp only[PV.dids]at h;exact ZbM (Wi (Vx h))
 exact λh=>h
 exact λh=>h
 exact λh=>by simp only[PV.dids]at *;exact Zjv h
 exact λh=>h
 exact λh=>h
 exact λh=>absurd h Wf
def v_none {a:ARes} (h:a.v.dids= []) {r:Ref}:r∉a.v.dids:=by rw[h];simp
def Zzu {op:BinOp} {k b:IntKind} {x y:Int} {m:Hp}:(Zqj op k b x y m).v.dids= []:=by
 unfold Zqj;split<;>rfl
def Zzy {op:BinOp} {x y:List UInt8} {m:Hp}:(Zqo op x y m).v.dids= []:=by
 unfold Zqo;split<;>rfl
def Zzt {op:BinOp} {k b:FloatKind} {x y:Nat} {m:Hp}:(Zqi op k b x y m).v.dids= []:=by
 unfold Zqi;split<;>rfl
def ZBk {b:Bool} {r:Option Bool} {m:Hp}:(aEq b r m).v.dids= []:=by
 unfold aEq;split<;>rfl
def Zzs {b:Bool} {t:TypeId} {x y:PV} {m:Hp}:(ZpX P b t x y m).v.dids= []:=by
 unfold ZpX;repeat' split
 all_goals first|rfl|exact ZBk
def Zzq {op:BinOp} {t:TypeId} {x y:PV} {m:Hp}:(Zqg P op t x y m).v.dids= []:=by
 unfold Zqg;repeat' split
 all_goals first|rfl|exact Zzu|exact Zzy|exact Zzt|exact Zzs
def ZBl {op:UnOp} {x:PV} {m:Hp}:(aUn op x m).v.dids= []:=by
 unfold aUn;split<;>rfl
def Zxg {a b:TypeId} {x:PV} {m:Hp}:(TC P a b x m).v.dids= []:=by
 unfold TC;split<;>first|rfl|(split<;>first|rfl|(split<;>rfl))
def Zzv {t:TypeId} {x:PV} {m:Hp}:(Zqk P t x m).v.dids= []:=by
 unfold Zqk;split<;>rfl
def Zzw {x y:PV} {m:Hp}:(Zql x y m).v.dids= []:=by
 unfold Zql;split<;>rfl
def Zzx {x y:PV} {m:Hp}:(Zqm x y m).v.dids= []:=by
 unfold Zqm;split<;>rfl
def Zzr {x y:PV} {m:Hp}:(Zqh x y m).v.dids= []:=by
 unfold Zqh;split<;>rfl
def Zxk {x:PV} {m:Hp}:(Zd4 x m).v.dids= []:=by
 unfold Zd4;split<;>rfl
def Zxh {x:PV} {m:Hp}:(Zd3 x m).v.dids= []:=by
 unfold Zd3;split<;>rfl
def ZpD {x:PV} {i:Nat} {m:Hp}:∀r∈(Vo x i m).v.dids,r∈x.dids:=by
 intro r;unfold Vo;split;exact λh=>by simpa[PV.dids]using Wi h
 exact λh=>absurd h Wf
def Zmk {x:PV} {m:Hp}:∀r∈(XG x m).v.dids,r∈x.dids:=by
 intro r;unfold XG;split<;>first|exact λh=>h|exact λh=>absurd h Wf
def Zxj {c x y:PV} {m:Hp}:∀r∈(Zca c x y m).v.dids,r∈x.dids\/r∈y.dids:=by
 intro r;unfold Zca;split<;>first|exact λh=> .inl h|exact λh=> .inr h|exact λh=>absurd h Wf
def ZuL {t:TypeId} {l:List (Nat×PV)} {m:Hp}:∀r∈(S7 P t l m).v.dids,∃x∈l,r∈x.2.dids:=by
 intro r;have key:∀ {z:List PV} {pl cs},PV.didsL z= []->TO pl z l=Hs cs->r∈PV.didsL cs-> ∃x∈l,r∈x.2.dids:=λc b i=>by
  rcases Zjz _ _ _ b r i with h|h;rw[c]at h;cases h;exact h
 have e:∀fs z,tbd P t= .str fs z->PV.didsL z= []:=λfs z h=>by
  unfold tbd at h;repeat' split at h
  all_goals first|(cases h;exact T3 _)|cases h
 have d:∀n z,tbd P t= .arr n z->PV.didsL z= []:=λfs z h=>by
  unfold tbd at h;repeat' split at h
  all_goals first|(cases h;exact T3 _)|cases h
 unfold S7;split;rename_i fs z c;split;rename_i cs b;exact λh=>key (e _ _ c) b (by simpa[PV.dids]using h)
 exact λh=>absurd h Wf
 rename_i fs z c;split;rename_i cs b;exact λh=>key (d _ _ c) b (by simpa[PV.dids]using h)
 exact λh=>absurd h Wf
 exact λh=>absurd h Wf
def ZuO {t:TypeId} {x:PV} {lo b:Option PV} {m:Hp}:∀r∈(GU P t x lo b m).v.dids,r∈x.dids:=by
 intro r;unfold GU;repeat' split
 all_goals first|exact λh=>h|exact λh=>absurd h Wf|(exact λh=>ZbM (ZaP (λc d=>JL (JT d)) h))|exact λh=>by simp[PV.dids]at h
end
open Go.RowKit
section
variable {P:Program} {ops:Array Oper}
structure RefsD (s:St):Prop where
 fr:∀i r,r∈(s.fr i).dids->ZI s.m r
 h:∀i cs,s.m.h i=Hs cs-> ∀c∈cs,∀r∈c.dids,ZI s.m r
 o:∀b c,s.m.o b=Hs c-> ∀r,(r∈PV.didsL c.ks\/r∈PV.didsL c.vs)->ZI s.m r
 it:∀b x c,s.m.it b=Hs x->x.c=Hs c-> ∀r,¬(r∈PV.didsL c.ks\/r∈PV.didsL c.vs)
 v:∀i es,s.m.v i=Hs es-> ∀r∈PV.didsL es,ZI s.m r
 om:∀b c,s.m.om b=Hs c-> ∀r∈PV.didsL c.vs,ZI s.m r
def RefsD.refs {s:St} (h:RefsD s):Refs s:=⟨λi r d=>h.fr i r (Wk _ d),λi cs e c k r d=>h.h i cs e c k r (Wk _ d),λi es e p hp r d=>h.v i es e r (PV.mem_didsL.2 ⟨p,hp,Wk _ d⟩),λb c j p hp r d=>h.om b c j r (PV.mem_didsL.2 ⟨p,hp,Wk _ d⟩)⟩
theorem Rep.clean_dids {S:Stable} {v:Value} {p:PV} (r:Rep S v p):∀k,k∉p.dids:=by
 have e:∀(cs:List PV),(∀i,i<cs.length-> ∀k,k∉(cs.getD i .any).dids)-> ∀k,k∉PV.didsL cs:=λcs h k d=>by
  obtain⟨c,n,t⟩:=PV.mem_didsL.1 d;obtain⟨j,l,rfl⟩:=Jg n;have:=h j l k;rw[getD_lt l]at this;exact this t
 induction r with
 |agg vs cs hl _ ih=>intro k d;exact e cs ih k (by simpa[PV.dids]using d)
 |tup vs cs hl _ ih=>intro k d;exact e cs ih k (by simpa[PV.dids]using d)
 |fn f vs cs hl _ ih=>intro k d;exact e cs ih k (by simpa[PV.dids]using d)
 |slf v es r hz ih=>intro k d;exact ih k (by simpa[PV.dids]using d)
 |rptr b o cs vals hS _ ih=>intro k d;exact e cs ih k (by simpa[PV.dids]using d)
 |rmap b es ks vs h1 h2 h3 h4 h5 h6 ihK ihV=>
  intro k d;simp only[PV.dids,Ji]at d;rcases d with d|d;exact e ks ihK k d;exact e vs (λi u=>ihV i (by omega)) k d
 |sl b o cap sz es vals hsz hcap hS _ ih=>
  intro k d;refine e es (λi u k d=> ?_) k (by simpa[PV.dids]using d);have n:=e (es.getD i .any).cells (λj l=>ih i j u (by rw[hsz i u]at l;exact l)) k;refine n ?_;cases hp:es.getD i .any with
  |agg cs=>rw[hp]at d;simpa[J9,PV.dids]using d
  |_=>rw[hp]at d;simpa[J9,PV.didsL]using d
 |_=>intro k d;simp[PV.dids,PV.didsL]at d
theorem RepS.dids_ids {S:Stable} {M:Maps} {q:Rows} {v:Value} {p:PV} (r:RepS S M q v p):∀k∈p.dids,k∈p.ids:=by
 have l:∀(cs:List PV),(∀i,i<cs.length-> ∀k∈(cs.getD i .any).dids,k∈(cs.getD i .any).ids)-> ∀k∈PV.didsL cs,k∈Jp cs:=λcs h k b=>by
  obtain⟨c,d,e⟩:=PV.mem_didsL.1 b;obtain⟨j,u,rfl⟩:=Jg d;have:=h j u k;rw[getD_lt u]at this;exact Jr.2 ⟨_,d,this e⟩
 induction r with
 |clean r=>exact λk b=>absurd b (r.clean_dids k)
 |ptr id off=>exact λk b=>b
 |osl id off len cap sz d=>exact λk b=>b
 |vsl id len sz v hv t=>exact λk b=>b
 |vptr id n sz i off v hv hi t=>exact λk b=>b
 |row id v es r t=>
  intro k b;simp only[PV.dids,JN]at b;rcases b with rfl|b;simp[Jb];exact absurd (by simpa[PV.dids]using b) (r.clean_dids k)
 |agg vs cs hl _ ih=>intro k b;simp only[PV.dids,Jb]at *;exact l cs ih k b
 |tup vs cs hl _ ih=>intro k b;simp only[PV.dids,Jb]at *;exact l cs ih k b
 |fn f vs cs hl _ ih=>intro k b;simp only[PV.dids,Jb]at *;exact l cs ih k b
theorem Sim.refsD {B:Frm} {S:Stable} {M:Maps} {s:St} {a:Act} {w:World} (n:Sim B S M s a w):RefsD s:=by
 have clean:∀(ks vs:List PV) (es:List MapEntry),vs.length=ks.length->(∀i,i<ks.length->Rep S (es.getD i Jd).key (ks.getD i .any))->(∀i,i<ks.length->Rep S (es.getD i Jd).val (vs.getD i .any))-> ∀r,¬(r∈PV.didsL ks\/r∈PV.didsL vs):=λks vs es D z v r d=>by
  rcases d with d|d;obtain⟨x,y,u⟩:=PV.mem_didsL.1 d;obtain⟨j,h,rfl⟩:=Jg y;have:=(z j h).clean_dids r;rw[getD_lt h]at this;exact this u;obtain⟨x,y,u⟩:=PV.mem_didsL.1 d;obtain⟨j,h,rfl⟩:=Jg y;have:=(v j (by omega)).clean_dids r;rw[getD_lt h]at this;exact this u
 refine⟨λi r d=>n.ids i r ((n.fr i).dids_ids r d),λi cs K c t r d=> ?_,λb c t r d=> ?_,λb x c y t r d=> ?_,λi es K r d=> ?_,λb c t r d=> ?_⟩
 rotate_left
 obtain⟨_,_,es,R,O,D,N,z,v⟩:=n.stable.o b c t;exact absurd d (clean _ _ es D z v r);obtain⟨es,R,O,D,N,z,v⟩:=(n.stable.i b x y).2.2 c t;exact clean _ _ es D z v r d;obtain⟨sz,e,q1,X,U,W⟩:=n.vc i es K;obtain⟨p,hp,k⟩:=PV.mem_didsL.1 d;obtain⟨j,h,rfl⟩:=Jg hp;obtain⟨o1,o2⟩:=n.row i _ q1;cases G:M.κ i with
 |zero=>have:=o1 G;omega
 |succ c=>
  obtain⟨_,_,_,⟨vs,g5,g6⟩,_⟩:=o2 c G;have V:=W c G vs e (0,0) g5
  -- the element's cells
  have y:=X _ hp;have I:∃x∈es[j].cells,r∈x.dids:=by
   cases C:es[j]with
   |agg cs=>rw[C]at k;simp only[PV.dids]at k;exact PV.mem_didsL.1 k
   |_=>rw[C]at k;exact⟨_,Jo.2 rfl,k⟩
  obtain⟨x,E,J⟩:=I;obtain⟨l,T,rfl⟩:=Jg E;have A:=V j l h (by rw[<-y.1];exact T);rw[getD_lt h,getD_lt T]at A;exact U _ hp r (Yv E (A.dids_ids r J))
 obtain⟨_,_,_,⟨es,R,O,D,N,z,v⟩,Y⟩:=n.rm b c t;obtain⟨p,hp,k⟩:=PV.mem_didsL.1 d;obtain⟨j,h,rfl⟩:=Jg hp;have:=(v j (by omega)).dids_ids r;rw[getD_lt h]at this;exact Y _ hp r (this k);have F:=n.blk i cs K;obtain⟨j,h,rfl⟩:=Jg t;cases L:s.m.z i with
 |false=>
  rw[L]at F;obtain⟨_,_,⟨vs,ty,h3,h4,Z⟩,h6⟩:=F;have:=(Z j h).dids_ids r;rw[getD_lt h]at this;exact h6 _ (Jv h) r (this d)
 |true=>
  rw[L]at F;obtain⟨vals,hv⟩:=F;have:=(hv j h).2;rw[getD_lt h]at this;exact absurd d (this.clean_dids r)
theorem DX {s:St} (c:RefsD s) (o:Oper):∀r∈Zei o s.eval,ZI s.m r:=λr h=>by
 unfold Zei at h;obtain⟨x,_,b⟩:=Jq.1 h;cases x with
 |tmp t=>exact c.fr t r b
 |const v=>simp[St.eval,Vz]at b
 |func f=>simp[St.eval,PV.dids,PV.didsL]at b
 |_=>simp[St.eval,PV.dids]at b
mutual
theorem SR:∀(p:PV) {r:Ref},r∈p.share.dids->r∈p.dids
 | .ptr _ _,r,h=>h
 | .osl _ _ _ _,r,h=>h
 | .sl t es,r,h=>by cases t<;>(simp only[Kd,Tok.sh,PV.dids]at h;exact ZbM h)
 | .agg cs,r,h=>by simp only[Kd,PV.dids]at *;exact V4 cs h
 | .tup cs,r,h=>by simp only[Kd,PV.dids]at *;exact V4 cs h
 | .fn _ cs,r,h=>by simp only[Kd,PV.dids]at *;exact V4 cs h
 | .any,r,h=>h
 | .int _ _,r,h=>h
 | .bool _,r,h=>h
 | .str _,r,h=>h
 | .flt _ _,r,h=>h
 | .cpx _ _ _,r,h=>h
 | .rptr _,r,h=>h
 | .nilp,r,h=>h
 | .nilfn,r,h=>h
 | .nilmap,r,h=>h
 | .mref _,r,h=>h
 | .rmap _ _,r,h=>h
 | .iptr _,r,h=>h
 | .vsl _ _ _,r,h=>h
 | .vptr _ _ _ _ _,r,h=>h
theorem V4:∀(cs:List PV) {r:Ref},r∈PV.didsL (JQ cs)->r∈PV.didsL cs
 | [],r,h=>h
 |c::cs,r,h=>by
  simp only[JQ,PV.didsL,Ji]at *;exact h.imp (SR c) (V4 cs)
end
def Keeps (m:Hp) (a:ARes):Prop:=(∀r∈a.v.dids,ZI a.m r)/\ ∀i cs,a.m.h i=Hs cs->m.h i=Hs cs\/ ∀r∈PV.didsL cs,ZI a.m r
def Keeps.same {m:Hp} {a:ARes} (c:a.m=m) (h:∀r∈a.v.dids,ZI m r):Keeps m a:=⟨by rw[c];exact h,λi cs b=> .inl (by rw[c]at b;exact b)⟩
theorem Dh {m:Hp} {d:Nat} {x:List PV} {r:Ref} (h:ZI m r):ZI (m.new d x) r:=by
 cases r with
 |r i=>exact h
 |b i=>
  simp only[ZI,Hp.new]at *;unfold upd;split<;>simp_all
def XN {m:Hp} {d:Nat} {x:Row}:ZI (m.setq d x) (.r d):=by simp[ZI,Hp.setq,upd]
def Zez {m:Hp} {d:Nat} {x:List PV}:ZI (m.new d x) (.b d):=by simp[ZI,Hp.new,upd]
def Zgf {ok:Prop} {m:Hp} {d:Nat} {cs:List PV} {v:PV} (hv:v.dids= [.b d]) (h:∀r∈PV.didsL cs,ZI m r):Keeps m ⟨ok,v,m.new d cs⟩:=by
 refine⟨λr b=> ?_,λi e c=> ?_⟩;rw[hv]at b;simp only[Jo]at b;subst b;exact Zez;by_cases hd:d=i;subst hd;simp[Hp.new,upd]at c;subst c;exact .inr λr b=>Dh (h r b)
 left;simpa[Hp.new,upd,hd]using c
def Zxi {z:PV} {vs:List PV} {ok:Bool} {i:Option Nat} {r:Ref} (b:z.dids= []) (h:r∈(Zrw z vs ok i).dids):r∈PV.didsL vs:=by
 unfold Zrw at h;split at h;split at h;simp only[PV.dids,PV.didsL,JK]at h;exact Wi h;exact Wi h;split at h;simp only[PV.dids,PV.didsL,JK,b]at h;cases h;rw[b]at h;cases h
theorem ZlB {s:St} (i:RefsD s) {x:PV} (e:∀r∈x.dids,ZI s.m r) {c:MapC} (h:Fa s.m x=Hs c):∀r,(r∈PV.didsL c.ks\/r∈PV.didsL c.vs)->ZI s.m r:=by
 cases x with
 |rmap ks vs=>
  simp only[Fa,Jm.injEq]at h;subst h;intro r d;exact e r (by simp only[PV.dids,Ji];exact d)
 |mref b=>exact i.o b c h
 |_=>simp[Fa]at h
theorem Zob {s:St} (A:RefsD s) {o:Oper} (z:(aop P o s.eval s.m).ok):∀b c,(aop P o s.eval s.m).m.o b=Hs c->s.m.o b=Hs c\/ ∀r,(r∈PV.didsL c.ks\/r∈PV.didsL c.vs)->ZI s.m r:=by
 intro b c j;have I:=Zaa z;have L:=DX A o;cases n:(fp o.op).wo with
 |false=>rw[I.o1 n]at j;exact .inl j
 |true=>
  obtain⟨dst,op,ty,pos,J,guard⟩:=o;cases op with
  |mapUpdate t x k v=>
   have hv:∀r∈(s.eval v).dids,ZI s.m r:=λr h=>L r (Yj (x:=v) (by simp[Ja]) h)
   have F:∀r∈(s.eval k).dids,ZI s.m r:=λr h=>L r (Yj (x:=k) (by simp[Ja]) h)
   revert z j
   show(Z2 P t (s.eval x) (s.eval k) (s.eval v) s.m).ok->(Z2 P t (s.eval x) (s.eval k) (s.eval v) s.m).m.o b=Hs c->_;unfold Z2;split
   ·rename_i u _;split
    ·rename_i T K D cs O C G;rw[G]at F;split
     ·intro _ j;simp only at j
      by_cases e:u=b
      ·subst e;rw[Za]at j;cases j;refine .inr λr p=> ?_
       rcases p with p|p
       ·exact A.o u D C r (.inl p)
       ·obtain⟨y,i,d⟩:=PV.mem_didsL.1 p;rcases JU i with i|rfl
        ·exact A.o u D C r (.inr (PV.mem_didsL.2 ⟨y,i,d⟩))
        ·exact hv r (SR _ d)
      ·rw[Zb _ _ e]at j;exact .inl j
     ·intro _ j;simp only at j
      by_cases e:u=b
      ·subst e;rw[Za]at j;cases j;refine .inr λr p=> ?_
       rcases p with p|p
       ·obtain⟨y,i,d⟩:=PV.mem_didsL.1 p;rcases Ji.1 i with i|i
        ·exact A.o u D C r (.inl (PV.mem_didsL.2 ⟨y,i,d⟩))
        ·simp only[Jo]at i;subst i;simp only[PV.dids]at d;exact F r (by simp only[PV.dids];exact V4 _ d)
       ·obtain⟨y,i,d⟩:=PV.mem_didsL.1 p;rcases Ji.1 i with i|i
        ·exact A.o u D C r (.inr (PV.mem_didsL.2 ⟨y,i,d⟩))
        ·simp only[Jo]at i;subst i;exact hv r (SR _ d)
      ·rw[Zb _ _ e]at j;exact .inl j
     ·exact λh=>h.elim
    ·exact λh=>h.elim
   ·exact λh=>h.elim
  |makeSlice t l c=>cases n
  |makeFunc f g h=>unfold fp at n;simp only at n;split at n<;>cases n
  |call cc=>
   obtain⟨E,N,R⟩:=cc;cases E with
   |builtin bb=>unfold fp at n;simp only at n;split at n<;>cases n
   |_=>cases n
  |_=>cases n
theorem Zoa {s:St} (D:RefsD s) {o:Oper} (j:(aop P o s.eval s.m).ok):Keeps s.m (aop P o s.eval s.m):=by
 have hF:=Zaa j;have L:=DX D o;have nm:WJ (aop P o s.eval)->(∀r∈(aop P o s.eval s.m).v.dids,r∈Zei o s.eval)->Keeps s.m (aop P o s.eval s.m):=λh U=> .same (h s.m s.m j).1 λr h=>L r (U r h)
 obtain⟨dst,op,ty,pos,I,guard⟩:=o;cases op with
 |move x=>exact nm Zs λr h=>Yj (x:=x) (by simp[Ja]) h
 |assign x=>exact nm Zs λr h=>Yj (x:=x) (by simp[Ja]) h
 |pick c x y=>exact nm Zdn λr h=>(Zxj r h).elim (Yj (x:=x) (by simp[Ja])) (Yj (x:=y) (by simp[Ja]))
 |nilCheck x=>exact nm Gd λr h=>Yj (x:=x) (by simp[Ja]) (Zmk r h)
 |binOp op t x y yt=>exact nm Zgq λr h=>absurd h (v_none Zzq)
 |unOp op t x=>exact nm Zj1 λr h=>absurd h (v_none ZBl)
 |convert a b x=>exact .same (ZsJ j) λr h=>absurd h (v_none Zxg)
 |field t x f=>exact nm Zbn λr h=>Yj (x:=x) (by simp[Ja]) (ZuM r h)
 |fieldAddr t x f=>exact nm TZ λr h=>Yj (x:=x) (by simp[Ja]) (Zb0 r h)
 |index t x i=>exact nm Zbo λr h=>Yj (x:=x) (by simp[Ja]) (ZuN r h)
 |indexAddr t x i=>exact nm T0 λr h=>Yj (x:=x) (by simp[Ja]) (Zb1 r h)
 |extract x i=>exact nm Dn λr h=>Yj (x:=x) (by simp[Ja]) (ZpD r h)
 |lookup t x k ok=>
  have C:aop P ⟨dst,.lookup t x k ok,ty,pos,I,guard⟩ s.eval s.m=XZ P t (s.eval x) (s.eval k) ok s.m:=rfl;rw[C]at j ⊢;refine .same (TX s.m s.m rfl j).1 λr h=> ?_
  revert j h
  unfold XZ;split
  ·rename_i ls z c cs h1 G h3;split
   ·intro _ h;obtain⟨kt,et,fs,i,zv,t1,t2,t3,t4,t5,rfl,t6⟩:=DA h1;exact ZlB D (λr h=>L r (Yj (x:=x) (by simp[Ja]) h)) G r (.inr (Zxi (Vz _) h))
   ·exact λh=>h.elim
  ·exact λh=>h.elim
 |entry x=>
  have C:aop P ⟨dst,.entry x,ty,pos,I,guard⟩ s.eval s.m=VN (s.eval x) s.m:=rfl;rw[C]at j ⊢;refine .same (Gn s.m s.m rfl rfl j).1 λr h=> ?_
  revert j h
  unfold VN;split
  ·split
   ·rename_i J V;split
    ·rename_i c i G h3;intro _ h;simp only[PV.dids,PV.didsL,JK,Ji]at h;unfold mapIt at G;cases u:J.c with
     |some d=>
      rw[u]at G;simp only[Jm.injEq]at G;subst G;exact absurd (h.imp Wi Wi) (D.it _ J d V u r)
     |none=>
      rw[u]at G;exact D.o _ c G r (h.imp Wi Wi)
    ·exact λh=>h.elim
   ·exact λh=>h.elim
  ·exact λh=>h.elim
 |mapUpdate t x k v=>
  have C:aop P ⟨dst,.mapUpdate t x k v,ty,pos,I,guard⟩ s.eval s.m=Z2 P t (s.eval x) (s.eval k) (s.eval v) s.m:=rfl;rw[C]at j ⊢;obtain⟨e,_⟩:=Se s.m s.m rfl j;refine⟨λr h=> ?_,λi cs A=> .inl (by rw[e]at A;exact A)⟩
  revert j h
  unfold Z2;split
  ·split
   ·split
    ·exact λ_ h=>by simp[PV.dids,PV.didsL]at h
    ·exact λ_ h=>by simp[PV.dids,PV.didsL]at h
    ·exact λh=>h.elim
   ·exact λh=>h.elim
  ·exact λh=>h.elim
 |build t parts=>
  refine nm Zbm λr h=> ?_
  obtain⟨x,E,D⟩:=ZuL r h;obtain⟨y,K,rfl⟩:=Je.1 E;exact Yj (x:=y.2) (by simp[Ja];exact⟨y.1,JM.1 K⟩) D
 |slice t x lo A mx=>
  cases mx with
  |some _=>exact j.elim
  |none=>exact nm Zbp λr h=>Yj (x:=x) (by simp[Ja]) (ZuO r h)
 |alloc t=>
  cases dst with
  |none=>exact j.elim
  |some d=>
   cases F:XT P t with
   |none=>simp only[aop,F]at j;exact j.elim
   |some z=>simp only[aop,F];exact Zgf rfl (by rw[ZsF F];simp)
 |box t x=>
  cases dst with
  |none=>exact j.elim
  |some d=>exact Zgf rfl λr h=>L r (Yj (x:=x) (by simp[Ja]) (Vx h))
 |load t x=>
  simp only[aop]at j ⊢;split at j
  ·rename_i T;rw[if_pos T]
   revert j
   unfold VO;split
   ·rename_i cs E;exact λ_=> .same rfl λr h=>L r (Yj (x:=x) (by simp[Ja]) (by rw[E];simp only[PV.dids];exact UN h))
   ·split
    ·rename_i cs R;exact λ_=> .same rfl λr h=>by
      obtain⟨c,u,p⟩:=PV.mem_didsL.1 (UN h);exact D.h _ cs R c u r p
    ·exact λh=>h.elim
   ·rename_i id n z k off E;split
    ·rename_i es R;exact λ_=> .same rfl λr h=>D.v _ es R r (by
      obtain⟨c,u,p⟩:=PV.mem_didsL.1 (UN h);exact Wi (UF u p))
    ·exact λh=>h.elim
   ·exact λh=>h.elim
  ·exact j.elim
 |store t x y=>
  simp only[aop]at j ⊢;split at j
  ·rename_i T;rw[if_pos T]
   revert j
   unfold W0;split
   ·rename_i id off E;split
    ·rename_i cs R;intro j;refine⟨λr h=>by simp[PV.dids,PV.didsL]at h,λi ds A=> ?_⟩;have lv:∀r,ZI s.m r->ZI { s.m with h:=upd s.m.h id (Hs (YT cs off (s.eval y).cells)) } r:=λr h=>by
      cases r with
      |r i=>exact h
      |b i=>simp only[ZI]at *;unfold upd;split<;>simp_all
     by_cases hd:id=i
     ·subst hd;simp[upd]at A;subst A;refine .inr λr h=>lv r ?_
      rcases ZdG h with h|h
      ·obtain⟨c,u,p⟩:=PV.mem_didsL.1 h;exact D.h id cs R c u r p
      ·exact L r (Yj (x:=y) (by simp[Ja]) (Vx h))
     ·left;simpa[upd,hd]using A
    ·exact λh=>h.elim
   ·split
    ·exact λ_=>⟨λr h=>by simp[PV.dids,PV.didsL]at h,λi ds A=> .inl A⟩
    ·exact λh=>h.elim
   ·exact λh=>h.elim
  ·exact j.elim
 |makeFunc fn first caps=>
  cases fn with
  |func f=>
   simp only[aop]at j ⊢;split at j
   ·rename_i U;rw[if_pos U];refine⟨λr h=> ?_,λi cs A=> .inl (by simpa[WN]using A)⟩;have:ZI s.m r:=by
     obtain⟨c,u,p⟩:=PV.mem_didsL.1 (by simpa[PV.dids]using h);obtain⟨x,E,rfl⟩:=Je.1 u;exact L r (Yj (x:=x) (by simp[Ja];right;exact JM.1 E) p)
    cases r with
    |b i=>simpa[ZI,WN]using this
    |r i=>simpa[ZI,X5]using this
   ·exact j.elim
  |_=>exact j.elim
 |buildSlice t len parts=>
  cases dst with
  |none=>exact j.elim
  |some d=>
   cases W:XS P t with
   |none=>simp only[aop,Y7,W]at j;exact j.elim
   |some ei=>
    simp only[aop,Y7,W];refine⟨λr h=> ?_,λi cs A=> .inl A⟩;simp only[PV.dids,JN]at h;rcases h with rfl|h
    ·exact XN
    ·obtain⟨c,u,p⟩:=PV.mem_didsL.1 h;obtain⟨x,E,rfl⟩:=Je.1 u;obtain⟨y,K,rfl⟩:=Je.1 E;exact XM _ (L r (Yj (x:=y.2) (by simp[Ja];exact⟨y.1,JM.1 K⟩) (SR _ p)))
 |makeSlice t l c=>
  cases dst with
  |none=>exact j.elim
  |some d=>
   by_cases X:∃k,l= .const (.int k 0)
   ·obtain⟨k,rfl⟩:=X;have C:aop P ⟨Hs d,.makeSlice t (.const (.int k 0)) c,ty,pos,I,guard⟩ s.eval s.m=Wc P d t (s.eval c) s.m:=rfl;rw[C]at j ⊢
    revert j
    unfold Wc;split
    ·exact λ_=>⟨λr h=>by simp[PV.dids,PV.didsL]at h;subst h;exact XN,λi cs A=> .inl A⟩
    ·exact λh=>h.elim
   ·have C:aop P ⟨Hs d,.makeSlice t l c,ty,pos,I,guard⟩ s.eval s.m=aMakeFull P d t (s.eval l) (s.eval c) s.m:=by
     unfold aop;simp only;split
     ·rename_i k;exact absurd ⟨_,rfl⟩ X
     ·rfl
    rw[C]at j ⊢
    revert j
    unfold aMakeFull;split
    ·split
     ·rename_i z F;refine λ_=>⟨λr h=> ?_,λi cs A=> .inl A⟩
      simp only[PV.dids,JN]at h;rcases h with rfl|h
      ·exact XN
      ·obtain⟨c',u,p⟩:=PV.mem_didsL.1 h;rw[List.eq_of_mem_replicate u,ZwZ F]at p;cases p
     ·exact λh=>h.elim
    ·exact λh=>h.elim
 |call c=>
  obtain⟨callee,args,ts⟩:=c;cases callee with
  |builtin b=>
   simp only[aop]at j ⊢
   revert j
   unfold Yd;split
   ·split
    ·exact λj=> .same (FC s.m s.m rfl j).1 λr h=>absurd h (v_none (by unfold WL;split<;>rfl))
    ·exact λj=> .same (Zgs s.m s.m j).1 λr h=>absurd h (v_none Zzv)
   ·rename_i t tx x y Y N;have E:∀r∈x.dids,ZI s.m r:=λr h=>by
     have:x∈args.toList.map s.eval:=by rw[N];simp
     obtain⟨z,F,rfl⟩:=Je.1 this;exact L r (Yj (x:=z) (by simp[Ja,Call.operands];exact JM.1 F) h)
    have K:∀r∈y.dids,ZI s.m r:=λr h=>by
     have:y∈args.toList.map s.eval:=by rw[N];simp
     obtain⟨z,F,rfl⟩:=Je.1 this;exact L r (Yj (x:=z) (by simp[Ja,Call.operands];exact JM.1 F) h)
    have O:∀ys,WT P tx y=Hs ys-> ∀r∈PV.didsL ys,ZI s.m r:=λys h r D=>by
     unfold WT at h;split at h
     ·cases h;exact K r (ZbM D)
     ·cases h;obtain⟨c,u,p⟩:=PV.mem_didsL.1 D;unfold Y8 at u;obtain⟨z,F,rfl⟩:=Je.1 u;simp[PV.dids]at p
     ·cases h
    split
    ·unfold U7;split
     ·rename_i ys _ _ Z;refine λ_=>⟨λr h=> ?_,λi cs A=> .inl A⟩
      simp only[PV.dids,JN]at h;rcases h with rfl|h
      ·exact XN
      ·exact XM _ (O _ (by assumption) r h)
     ·split
      ·refine λ_=>⟨λr h=> ?_,λi cs A=> .inl ?_⟩
       ·simp only[PV.dids,JN]at h;rcases h with rfl|h
        ·simp only;split<;>exact XN
        ·have:ZI s.m r:=by
          obtain⟨c,u,p⟩:=PV.mem_didsL.1 h;rcases Ji.1 u with u|u
          ·exact E r (ZbM (PV.mem_didsL.2 ⟨c,u,p⟩))
          ·exact O _ (by assumption) r (PV.mem_didsL.2 ⟨c,u,p⟩)
         simp only;split
         ·exact XM _ this
         ·exact XM _ (XM _ this)
       ·simp only at A;split at A<;>exact A
      ·exact λh=>h.elim
     ·exact λh=>h.elim
    ·exact λh=>h.elim
   ·exact λj=> .same (Zgt s.m s.m j).1 λr h=>absurd h (v_none Zzw)
   ·exact λj=> .same (Zgu s.m s.m j).1 λr h=>absurd h (v_none Zzx)
   ·exact λj=> .same (Zgr s.m s.m j).1 λr h=>absurd h (v_none Zzr)
   ·exact λj=> .same (Zdo s.m s.m j).1 λr h=>absurd h (v_none Zxk)
   ·exact λj=> .same (Zdm s.m s.m j).1 λr h=>absurd h (v_none Zxh)
   ·exact λh=>h.elim
  |_=>exact j.elim
 |_=>exact j.elim
def ZlR {x v:PV} {off:Nat} {r:Ref} (h:r∈(ZbA x off v).dids):r∈x.dids\/r∈v.dids:=by
 unfold ZbA at h;split at h;exact .inr h;simp only[PV.dids]at h;obtain⟨c,b,d⟩:=PV.mem_didsL.1 h;simp only[YT,Ji]at b;rcases b with (b|b)|b;exact .inl (UF (JT b) d);exact .inr (UF b d);exact .inl (UF (JL b) d)
theorem Zoc {s:St} (j:RefsD s) {o:Oper} (u:(aop P o s.eval s.m).ok):∀i es,(aop P o s.eval s.m).m.v i=Hs es-> ∀r∈PV.didsL es,ZI s.m r:=by
 intro i es d;have I:=Zaa u;have L:=DX j o;by_cases E:Wh o s.eval (.r i);obtain⟨dst,op,ty,pos,O,guard⟩:=o;have b:(fp op).wh=true:=by
  rcases E with ⟨w,_⟩|⟨_,_,_,e⟩;exact w;cases e
 cases op with
 |store t x y=>
  have G:∀r∈(s.eval y).dids,ZI s.m r:=λr h=>L r (Yj (x:=y) (by simp[Ja]) h)
  revert u d;show((if tkn P t then W0 P t (s.eval x) (s.eval y) s.m else .fail).ok)->((if tkn P t then W0 P t (s.eval x) (s.eval y) s.m else .fail).m.v i=Hs es)->_;split;unfold W0;split;split;exact λ_ d=>j.v i es d
  exact λh=>h.elim
  rename_i id n z k off F;split;rename_i J p;intro _ d;by_cases e:id=i;subst e;simp only[Za,Jm.injEq]at d;subst d;intro r h;obtain⟨c,C,v⟩:=PV.mem_didsL.1 h;rcases JU C with C|rfl;exact j.v _ _ p r (PV.mem_didsL.2 ⟨c,C,v⟩);rcases ZlR v with D|D;exact j.v _ _ p r (Wi D);exact G r D;simp only[Zb _ _ e]at d;exact j.v i es d;exact λh=>h.elim
  exact λh=>h.elim
  exact λh=>h.elim
 |makeSlice t l c=>cases b
 |makeFunc f g h=>unfold fp at b;simp only at b;split at b<;>cases b
 |call cc=>
  obtain⟨A,N,K⟩:=cc;cases A with
  |builtin bb=>unfold fp at b;simp only at b;split at b<;>cases b
  |_=>cases b
 |_=>cases b
 have:(aop P o s.eval s.m).m.v i=s.m.v i:=I.h1 (.r i) E;rw[this]at d;exact j.v i es d
theorem Z9 {s s':St} {o:Oper} (k:RefsD s) (h:Xa P ops o s s'):RefsD s':=by
 have put:∀(m':Hp) (v:PV),(∀r,ZI s.m r->ZI m' r)->(∀r∈v.dids,ZI m' r)->(∀i cs,m'.h i=Hs cs->s.m.h i=Hs cs\/ ∀r∈PV.didsL cs,ZI m' r)->(∀b c,m'.o b=Hs c->s.m.o b=Hs c\/ ∀r,(r∈PV.didsL c.ks\/r∈PV.didsL c.vs)->ZI s.m r)->m'.io=s.m.io->(∀i es,m'.v i=Hs es-> ∀r∈PV.didsL es,ZI s.m r)->RefsD ((s.with m').put o.dst v):=λm' v l hv D A t u=>by
  have y:m'.it=s.m.it:=congrArg (λx=>x.1) t;have z:m'.om=s.m.om:=congrArg (λx=>x.2.1) t;refine⟨λi r h=> ?_,λi cs n c d r h=> ?_,λb c d r h=> ?_,λb x c p d r h=> ?_,λi es n r h=> ?_,λb c d r h=> ?_⟩;rw[UQ];by_cases hd:o.dst=Hs i;rw[hd]at h;simp only[St.put,upd,if_true]at h;exact hv r h;rw[FG hd]at h;exact l r (k.fr i r h);rw[UQ]at n ⊢;rcases D i cs n with j|j;exact l r (k.h i cs j c d r h);exact j r (PV.mem_didsL.2 ⟨c,d,h⟩);rw[UQ]at d ⊢;rcases A b c d with j|j;exact l r (k.o b c j r h);exact l r (j r h);rw[UQ]at p;have p:m'.it b=Hs x:=p;rw[y]at p;exact k.it b x c p d r h;rw[UQ]at n ⊢;exact l r (u i es n r h);rw[UQ]at d ⊢;have d:m'.om b=Hs c:=d;rw[z]at d;exact l r (k.om b c d r h)
 obtain⟨_,h⟩:=h;rcases h with ⟨_,v,m',C,rfl⟩|⟨_,rfl⟩;have F:=Za5 C;have l:∀r,ZI s.m r->ZI m' r:=λr h=>by
  cases r with
  |b i=>exact F.hl i h
  |r i=>exact F.ql i h
 rcases C with ⟨j,rfl,rfl⟩|⟨c,g,args,A,d,hp,rfl⟩;have K:=Zoa k j;exact put _ _ l K.1 K.2 (Zob k j) F.i1 (Zoc k j);exact put _ _ l (by
  have e:v.dids= []:=by rcases hp with ⟨_,hp⟩|⟨_,_,_,_,_,_,_,_,_,hp,_⟩<;>exact hp.2.1
  rw[e];simp) (λi cs n=> .inl n) (λb c d=> .inl d) rfl k.v
 exact put s.m (.tup []) (λr h=>h) (by simp[PV.dids,PV.didsL]) (λi cs n=> .inl n) (λb c d=> .inl d) rfl k.v
end
open Go.RowKit
section
variable {P:Program} {ops:Array Oper} {md:Ks}
def ZsG (P:Program) (md:Ks) (ops:Array Oper) (K:St->Prop):Nat->Array Bool->St->Prop
 |0,listed,s=>J3 md ops listed= []/\K s
 |fuel+1,listed,s=>(J3 md ops listed= []->K s)/\ ∀i∈J3 md ops listed,∃o s',ops[i]? = Hs o/\Xa P ops o s s'/\ZsG P md ops K fuel (listed.setIfInBounds i Ht) s'
theorem ZcP {K:St->Prop} {i:Nat} {p:Oper} (hi:ops[i]? = Hs p):
  ∀(fuel:Nat) (b:Array Bool) (s A:St),RefsD s->
   (∀j n,ops[j]? = Hs n->j≠i->b.getD j Ht=Hf->(∀e∈n.after,Ka md e=Ht->e.on≠i)->p.apart ops n=Ht/\compat p.op n.op=Ht)->
   i∈J3 md ops b->Xa P ops p s A->
   ZsG P md ops K fuel (b.setIfInBounds i Ht) A->ZsG P md ops K (fuel+1) b s:=by
 intro fuel;induction fuel with
 |zero=>
  intro b s A W _ v L H;refine⟨λh=>(by rw[h]at v;cases v),λj J=> ?_⟩;by_cases c:j=i;subst c;exact⟨p,A,hi,L,H⟩;have:=ready_mono J c;rw[H.1]at this;cases this
 |succ fuel ih=>
  intro b s A W d v L H;refine⟨λh=>(by rw[h]at v;cases v),λj J=> ?_⟩;by_cases c:j=i;subst c;exact⟨p,A,hi,L,H⟩;obtain⟨n,s2,z,N,y⟩:=H.2 j (ready_mono J c);obtain⟨t,xa,u,F⟩:=mem_ready.1 J;rw[z]at u;cases u;have C:∀e∈n.after,Ka md e=Ht->e.on≠i:=λe he hb X=>by
   have y:=F e he hb;have Z:=(mem_ready.1 v).1;rw[X]at y;rcases Nat.lt_or_ge i b.size with Y|Y;simp[Y]at Z y;rw[Z]at y;cases y;simp[Array.getElem?_eq_none Y]at y
  obtain⟨R,T⟩:=d j n z c t C;obtain⟨G,E,V⟩:=SV W.refs R T L N;have l:∀k ok,ops[k]? = Hs ok->k≠i->(b.setIfInBounds j Ht).getD k Ht=Hf->
    (∀e∈ok.after,Ka md e=Ht->e.on≠i)->p.apart ops ok=Ht/\compat p.op ok.op=true:=λk ok hk U I O=>by
   refine d k ok hk U ?_ O
   by_cases D:j=k
   ·subst D;exact t
   ·rw[getD_set_ne Ht D]at I;exact I
  refine⟨n,G,z,E,ih (b.setIfInBounds j Ht) G s2 (Z9 W E) l (ready_mono v (Jz c)) V ?_⟩;rw[Array.setIfInBounds_comm _ _ c];exact y
def ZtF (md:Ks) (ops:Array Oper) (b:Array Bool) (i:Nat):Bool:=
 match ops[i]? with
 |none=>Hf
 |some oi=>(List.range ops.size).all λj=>j==i||b.getD j Ht||match ops[j]? with
   |some oj=>oj.after.any (λe=>Ka md e&&e.on==i)||(oi.apart ops oj&&compat oi.op oj.op)
   |none=>Ht
def Zc7 {i:Nat} {p:Oper} {b:Array Bool} (y:ops[i]? = Hs p) (h:ZtF md ops b i=Ht) (j:Nat) (d:Oper)
  (u:ops[j]? = Hs d) (k:j≠i) (l:b.getD j Ht=Hf) (t:∀e∈d.after,Ka md e=Ht->e.on≠i):
  p.apart ops d=Ht/\compat p.op d.op=true:=by
 simp only[ZtF,y,Ju,List.mem_range]at h;have c:=h j (Jt.1 u).1;simp only[u,Kn,beq_iff_eq,k,false_or,l,Kc]at c;rcases c with c|c;obtain⟨e,v,n⟩:=Array.any_eq_true'.1 c;simp only[JG,beq_iff_eq]at n;exact absurd n.2 (t e v n.1);simpa using c
def Db (md:Ks) (ops:Array Oper):Nat->Nat->Array Bool->Bool
 |0,_,listed=>(J3 md ops listed).isEmpty
 |fuel+1,k,listed=>(J3 md ops listed).contains k&&ZtF md ops listed k&&Db md ops fuel (k+1) (listed.setIfInBounds k Ht)
def Znv (ops:Array Oper):Bool:=Db .any ops ops.size 0 (JP ops.size Hf)
theorem Zd5 {K:St->Prop}:∀(l:List Oper) (k:Nat) (b:Array Bool) (s:St),RefsD s->(∀j,l[j]? = ops[k+j]?)->
  Db md ops l.length k b=Ht->Ze4 P ops K l s->ZsG P md ops K l.length b s
 | [],_,_,_,_,_,hB,h=>⟨by simpa[Db]using hB,h⟩
 |o::l,k,b,s,hR,hl,hB,h=>by
  have n:ops[k]? = Hs o:=by simpa using(hl 0).symm
  simp only[JB,Db,JG]at hB;obtain⟨⟨y,u⟩,d⟩:=hB;obtain⟨hd,h⟩:=h;have e:∀j,l[j]? = ops[(k+1)+j]? :=λj=>by have:=hl (j+1);simpa[KP,KY 1 j]using this
  rcases h with ⟨p,v,m',t,c⟩|⟨p,c⟩;have i:Xa P ops o s ((s.with m').put o.dst v):=⟨hd,.inl ⟨p,v,m',t,rfl⟩⟩;exact ZcP n l.length b s _ hR (Zc7 n u) (by simpa using y) i (Zd5 l (k+1) _ _ (Z9 hR i) e d c);have i:Xa P ops o s (s.put o.dst (.tup [])):=⟨hd,.inr ⟨p,rfl⟩⟩;exact ZcP n l.length b s _ hR (Zc7 n u) (by simpa using y) i (Zd5 l (k+1) _ _ (Z9 hR i) e d c)
theorem GV {K:St->Prop} {B:Frm} {Qc:Exit->Act->World->Prop} {S0:Stable} {w0:World} (c:∀s' S' M' n w',K s'->Sim B S' M' s' n w'->Ext B S0 S' w0 w'->Qc .normal n w'):
  ∀(fuel:Nat) (b:Array Bool) (s:St),ZsG P md ops K fuel b s-> ∀S M a w,Sim B S M s a w->Ext B S0 S w0 w->wpAny P md ops Qc fuel b a w
 |0,_,s,h,S,M,a,w,hs,he=>⟨h.1,c s S M a w h.2 hs he⟩
 |fuel+1,b,s,h,S,M,a,w,hs,he=>⟨λz=>c s S M a w (h.1 z) hs he,λi y=>by
   obtain⟨o,s',t,d,p⟩:=h.2 i y;unfold wpOp;simp only[t];obtain⟨hd,d⟩:=d;rcases d with ⟨e,v,m',k,rfl⟩|⟨e,rfl⟩;rw[Te hs e,if_pos rfl];exact .inl (X8 hs (YD hd) k _ _ λu w' S' M' l j=>GV c fuel _ _ p S' M' _ w' l (he.trans j));rw[Te hs e,if_neg (by simp)];exact GV c fuel _ _ p S M _ w (Tp hs hd) he⟩
def ZqI {id:Nat} {Q:Exit->St->Prop} {s:St} (n:P.follows .mixedOrders=Ht) (p:Znv ops=Ht) (h:Ze4 P ops (Q .normal) ops.toList s):awp P (.region id ops Ht) Q s:=λB S M a w c=>by
 refine wp_region_any n ?_;have l:Ext B S S w { w with drawn:=w.drawn+1 }:=⟨JH _,λ_ _=>⟨λ_=>rfl,rfl⟩,(BelowF.refl B w).drew⟩;have b:Sim B S M s a { w with drawn:=w.drawn+1 }:=c.world rfl;have:=Zd5 (P:=P) (K:=Q .normal) (md:= .any) ops.toList 0 (JP ops.size Hf) s c.refsD (by simp) (by simpa[Znv]using p) h;have:=GV (B:=B) (S0:=S) (w0:=w) (Qc:=λe d w'=>∃s' S' M',Q e s'/\Sim B S' M' s' d w'/\Ext B S S' w w') (λs' S' M' d w' j i k=>⟨s',S',M',j,i,k⟩) _ _ s this S M a _ b l;simpa using this
def Zzo {id:Nat} {l:List Oper} {Q:Exit->St->Prop} {s:St} (b:P.follows .mixedOrders=Ht) (c:Znv l.toArray=Ht) (h:@vA P Hf ⟨Q .normal⟩ ⟨l⟩ ⟨l⟩ s):awp P (.region id l.toArray Ht) Q s:=
 ZqI b c (by simpa using Uy l s h)
end
end Go.PL
