/- Contracts of functions and laws of this seat, each for every input that it names: lemmas of the proof. -/
import Derived.Test.YthingdchjkhfbaaGreatXDc
import Derived.Test.YthingdchjkhfbaaGreatXBy
namespace Go.Proofs.YthingdchjkhfbaaGreat
set_option maxHeartbeats 64000000
set_option maxRecDepth 20000
set_option linter.unusedVariables false
set_option linter.unusedSimpArgs false
open Go.PL
structure OkDc (d:Dc):Prop where
 h:d.head.length≤100000
 r:d.rows.length≤100000
 e:∀e∈d.head,e.l.length≤1000000
 s:∀r∈d.rows,r.l.length≤100000∧ ∀e∈r.l,e.l.length≤1000000
theorem OkDc.fine {d:Dc} (h:OkDc d):ZsW d:=by
 have e:=Zd;refine⟨by have:=h.h;omega,by have:=h.r;omega,fun x hx=>by have:=h.e x hx;omega,fun r hr=>⟨by have:=(h.s r hr).1;omega,fun x hx=>by have:=(h.s r hr).2 x hx;omega⟩⟩
def ZdA (x:Ln) (fs:List Fd) (r:Rw):Bool:=(ZaH x fs r.l).2 !=0
def newRow (x:Ln) (fs:List Fd) (r:Rw):Rw:=⟨r.item,(ZaH x fs r.l).1⟩
def Zds (l:List Fd) (x:Ln) (d:Dc):Dc×Int:=
 if(Zq l x).2≠0 then(default,(Zq l x).2)else if Zbk l d=false then(default,5)else
 if(ZaH x (Zr (Zq l x).1 0) d.head).2≠0 then(default,(ZaH x (Zr (Zq l x).1 0) d.head).2)else
 match d.rows.find? (ZdA x (Zr (Zq l x).1 1))with
 |some r=>(default,(ZaH x (Zr (Zq l x).1 1) r.l).2)
 |none=>(⟨(ZaH x (Zr (Zq l x).1 0) d.head).1,d.rows.map (newRow x (Zr (Zq l x).1 1))⟩,0)
def Znp (y:Dc×Int):PV:= .tup [doc y.1,.int .i64 y.2]
theorem Zdh (y:Dc×Int):(Znp y).dids= []:=by simp only[Znp,PV.dids,PV.didsL,Zl4,List.append_nil]
theorem Zo5 {l:List Fd} {x:Ln} (h:(Zq l x).2=0):ZW l=true∧Zu x=true:=by
 unfold Zq at h;split at h
 ·cases h
 ·rename_i hn;simp only[not_or,Bool.not_eq_false]at hn;exact hn
theorem ZaZ:doc default= .agg [.sl .no [],.sl .no []]:=rfl
theorem ZrC (l:List Fd) (x:Ln) (d:Dc) (hl:OkFs l) (hx:OkLn x) (hd:OkDc d):PL.Pure Tryz.prog 47 [Zn l,lns x,doc d] (Znp (Zds l x d)):=by
 have hA:=Zhl l x hl hx;have hR:=ZiM l d (by have:=hl.n;rw[Zd];omega) hl.c hd.fine;have okM:=ZpF hl hx;unfold Zds
 by_cases hc:(Zq l x).2=0
 ·obtain⟨rl,rx⟩:=Zo5 hc;rw[if_neg (fun h=>h hc)];generalize Zq l x=ap at *;obtain⟨m,c⟩:=ap;simp only at hc okM ⊢;subst hc;cases hrd:Zbk l d
  ·rw[hrd]at hR;rw[if_pos rfl];refine pov Tryz.func47 (by decide) rfl Tryz.ntmps47 Tryz.results47 (by simp) (Zdh _) ?_;simp only[go_sem,Zn,lns,doc];refine Za (hA) ?_ ?_ ?_;iterate 2 simp only[go_sem,Zn,lns]
   simp only[go_sem,ZaB,Zn];refine Za (hR) ?_ ?_ ?_;iterate 2 simp only[go_sem,Zn,doc]
   simp only[go_sem,Znp,doc];rfl
  ·rw[hrd]at hR;rw[if_neg (by decide)];have hs0:(Zr m 0).length≤100000:=Nat.le_trans (List.length_filter_le _ _) (by have:=okM.n;omega);have hs1:(Zr m 1).length≤100000:=Nat.le_trans (List.length_filter_le _ _) (by have:=okM.n;omega);have hS0:=Zd3 m 0 (by have:=okM.n;omega) okM.c;have hS1:=Zd3 m 1 (by have:=okM.n;omega) okM.c;have hE0:=Zh8 (Zr m 0) x d.head hx rx hs0 (by have:=hd.h;rw[Zd];omega) hd.e;generalize Zr m 0=m0 at *;generalize Zr m 1=m1 at *;generalize hpe:ZaH x m0 d.head=pe at *;obtain⟨es0,c0⟩:=pe;simp only
   by_cases hc0:c0=0
   ·subst hc0;rw[if_neg (fun h=>h rfl)];obtain⟨hd0,rws⟩:=d;simp only at hpe hE0;have hrm:rws.length≤maxLen:=by have:=hd.r;rw[Zd];simp only at this;omega
    have hok:=hd.s;simp only at hok;have hrl:rws.length≤100000:=hd.r;refine pov Tryz.func47 (by decide) rfl Tryz.ntmps47 Tryz.results47 (by simp) (Zdh _) ?_;simp only[go_sem,Zn,lns,doc];refine Za (hA) ?_ ?_ ?_;iterate 2 simp only[go_sem,Zn,lns]
    simp only[go_sem,ZaB,Zn];refine Za (hR) ?_ ?_ ?_;iterate 2 simp only[go_sem,Zn,doc]
    simp only[go_sem];refine Zhe [(4,10),(5,10)] (by kernel_rfl) (by kernel_rfl) (by exact rfl) ?_;simp only[go_sem,Zn];refine Za (hS0) ?_ ?_ ?_;iterate 2 simp only[go_sem,Zn]
    simp only[go_sem,Zn,lnC];refine Za (hE0) ?_ ?_ ?_;iterate 2 simp only[go_sem,Zn,lns,Zaj]
    simp only[go_sem,Zik,Zaj,Zn];refine Za (hS1) ?_ ?_ ?_;iterate 2 simp only[go_sem,Zn]
    simp only[go_sem,Zn];refine ZI (ι:= { k:Nat // k≤rws.length∧ ∀j,j<k→ZdA x m1 (rws.getD j default)=false }) 77 (fun y=> [(4,.ptr 4 0),(6,.ptr 6 0),(10,.ptr 10 0),(11,Zn m1),(48,.sl .no (rws.map row)),(49,.int .i64 (rws.length:Int)),(50,.int .i64 (y.1:Int))]) (fun y=> [(4,lnC x,false),(6,[.sl .nil [],.sl .nil []],false),(10,[.sl .no (es0.map ent),Zk6 73 (rws.map (newRow x m1)) y.1],false)]) (fun y=>Zk7 73 y.1) (fun y=>rws.length-y.1) ⟨0,Nat.zero_le _,fun j hj=>absurd hj (Nat.not_lt_zero j)⟩
     ⟨rfl,(Fc7 rfl rfl rfl rfl rfl rfl rfl),Fc3 ⟨rfl,rfl⟩ ⟨rfl,rfl⟩ ⟨rfl,rfl⟩,fnl⟩ (fun y=> ?_) (fun y=> ?_)
    ·obtain⟨k,hk⟩:=y;cases k with
     |zero=>exact⟨(Fc7 rfl rfl rfl rfl rfl rfl rfl),Fc3 rfl rfl rfl⟩
     |succ k=>exact⟨(Fc7 rfl rfl rfl rfl rfl rfl rfl),Fc3 rfl rfl (by simp[Zk6,Zk7,PV.ids,PV.idsL,ZV])⟩
    obtain⟨k,hk,hI⟩:=y;simp only at hI ⊢;have hnl:(rws.map (newRow x m1)).length=rws.length:=List.length_map _
    by_cases h:(k:Int)<(rws.length:Int)
    ·have hka:k<rws.length:=by omega
     have w1:=Zcd hka hrm;have i1:(0:Int)≤(k:Int):=by omega
     have rk:=hok _ (ZC (d:=default) hka);have hE1:=Zh8 m1 x (rws.getD k default).l hx rx hs1 (by have:=rk.1;rw[Zd];omega) rk.2;have gk:=Zfm hka;have hkb:k<(rws.map (newRow x m1)).length:=by omega
     have hgn:(rws.map (newRow x m1)).getD k default=newRow x m1 (rws.getD k default):=by
      rw[getD_lt hkb,getD_lt hka];simp
     have hsn:((rws.map (newRow x m1)).take (k+1)).map row=((rws.map (newRow x m1)).take k).map row++ [row (newRow x m1 (rws.getD k default))]:=by
      rw[ZY (d:=default) hkb,List.map_append,hgn];rfl
     have hr0:=Za1 (show 1≤1000000 by omega) (show 40≤1000 by omega);have hl3:((rws.map (newRow x m1)).take k).length=k:=by rw[List.length_take];omega
     cases hb:ZdA x m1 (rws.getD k default)
     ·have hb2:(ZaH x m1 (rws.getD k default).l).2=0:=by unfold ZdA at hb;simpa using hb
      have hnr:newRow x m1 (rws.getD k default)=⟨(rws.getD k default).item,(ZaH x m1 (rws.getD k default).l).1⟩:=rfl;generalize ZaH x m1 (rws.getD k default).l=py at *;obtain⟨es1,c1⟩:=py;simp only at hb2 hnr hE1;subst hb2;cases k with
      |zero=>
       have h':(0:Int)<(rws.length:Int):=by simpa using h
       have w0:IntKind.i64.wrap 1=1:=w64 (by omega);simp only[go_sem,Zk6,Zk7,h',gk,row,i1,lnC,Zn];refine Za (hE1) ?_ ?_ ?_;iterate 2 simp only[go_sem,Zn,lns,Zaj]
       simp only[go_sem,Zik,Zaj,w1,w0];refine⟨hr0,⟨⟨0+1,by omega,Zp (p:=fun j=>ZdA x m1 (rws.getD j default)=false) hI hb⟩,by show rws.length-(0+1)<rws.length-0;omega,⟨rfl,(Fc7 rfl rfl rfl rfl rfl rfl rfl),Fc3 ⟨rfl,rfl⟩ ⟨rfl,rfl⟩ ⟨?_,rfl⟩,fcs rfl fnl⟩⟩⟩;show some [PV.sl .no _,PV.sl (.row 73) _]=some [PV.sl .no _,PV.sl (.row 73) _];rw[hsn,hnr];rfl
      |succ k=>
       have hr:=Za1 (show k+1+1≤1000000 by omega) (show 40≤1000 by omega);simp only[go_sem,Zk6,Zk7,h,gk,row,i1,lnC,Zn];refine Za (hE1) ?_ ?_ ?_;iterate 2 simp only[go_sem,Zn,lns,Zaj]
       simp only[go_sem,Zik,Zaj,w1];refine⟨⟨hl3.symm,Zer _,by rw[hl3];exact hr⟩,⟨⟨k+1+1,by omega,Zp (p:=fun j=>ZdA x m1 (rws.getD j default)=false) hI hb⟩,by show rws.length-(k+1+1)<rws.length-(k+1);omega,⟨rfl,(Fc7 rfl rfl rfl rfl rfl rfl rfl),Fc3 ⟨rfl,rfl⟩ ⟨rfl,rfl⟩ ⟨?_,rfl⟩,fcs ?_ fnl⟩⟩⟩
       ·show some [PV.sl .no _,PV.sl (.row 73) _]=some [PV.sl .no _,PV.sl (.row 73) _];rw[hsn,hnr];rfl
       ·show some _=some _;rw[hl3]
     ·have hb2:(ZaH x m1 (rws.getD k default).l).2≠0:=by unfold ZdA at hb;simpa using hb
      have hfd:rws.find? (ZdA x m1)=some (rws.getD k default):=Zc3 hka hI hb;rw[hfd];obtain⟨⟨es1,c1⟩,hpy⟩:∃y,ZaH x m1 (rws.getD k default).l=y:=⟨_,rfl⟩;rw[hpy]at hb2 hE1;simp only at hb2;have hb3:(c1 !=0)=true:=bne_iff_ne.2 hb2;have hb4:(c1==0)=false:=beq_eq_false_iff_ne.2 hb2;cases k with
      |zero=>
       have h':(0:Int)<(rws.length:Int):=by simpa using h
       simp only[go_sem,Zk6,Zk7,h',gk,row,i1,lnC,Zn];refine Za (hE1) ?_ ?_ ?_;iterate 2 simp only[go_sem,Zn,lns,Zaj]
       simp only[go_sem,Zik,Zaj,hb3,hpy,Znp,ZaZ]
      |succ k=>
       simp only[go_sem,Zk6,Zk7,h,gk,row,i1,lnC,Zn];refine Za (hE1) ?_ ?_ ?_;iterate 2 simp only[go_sem,Zn,lns,Zaj]
       simp only[go_sem,Zik,Zaj,hb3,hpy,Znp,ZaZ]
    ·obtain rfl:k=rws.length:=by omega
     have hfd:rws.find? (ZdA x m1)=none:=Zfg (d:=default) (fun j hj=>hI j hj);rw[hfd];cases rws with
     |nil=>
      have h':¬(0:Int)<0:=by omega
      simp only[go_sem,Zk6,Zk7,h',List.length_nil,Znp,doc]
     |cons r rs=>
      have h':¬((rs.length+1:Nat):Int)<((rs.length+1:Nat):Int):=by omega
      have ht:((r::rs).map (newRow x m1)).take (rs.length+1)=(r::rs).map (newRow x m1):=List.take_of_length_le (by simp);simp only[go_sem,Zk6,Zk7,h',List.length_cons,ht,Znp,doc];rw[List.take_of_length_le (by simp)]
   ·rw[if_pos hc0];have hc0':(c0 !=0)=true:=bne_iff_ne.2 hc0;have hc0b:(c0==0)=false:=beq_eq_false_iff_ne.2 hc0;refine pov Tryz.func47 (by decide) rfl Tryz.ntmps47 Tryz.results47 (by simp) (Zdh _) ?_;simp only[go_sem,Zn,lns,doc];refine Za (hA) ?_ ?_ ?_;iterate 2 simp only[go_sem,Zn,lns]
    simp only[go_sem,ZaB,Zn];refine Za (hR) ?_ ?_ ?_;iterate 2 simp only[go_sem,Zn,doc]
    simp only[go_sem];refine Zhe [(4,10),(5,10)] (by kernel_rfl) (by kernel_rfl) (by exact rfl) ?_;simp only[go_sem,Zn];refine Za (hS0) ?_ ?_ ?_;iterate 2 simp only[go_sem,Zn]
    simp only[go_sem,Zn,lnC];refine Za (hE0) ?_ ?_ ?_;iterate 2 simp only[go_sem,Zn,lns,Zaj]
    simp only[go_sem,Zik,Zaj,hc0',Znp,ZaZ]
 ·rw[if_pos hc];have hc':((Zq l x).2 !=0)=true:=bne_iff_ne.2 hc;generalize Zq l x=ap at *;obtain⟨m,c⟩:=ap;simp only at hc hc' ⊢;refine pov Tryz.func47 (by decide) rfl Tryz.ntmps47 Tryz.results47 (by simp) (Zdh _) ?_;simp only[go_sem,Zn,lns,doc];refine Za (hA) ?_ ?_ ?_;iterate 2 simp only[go_sem,Zn,lns]
  simp only[go_sem,ZaB,hc',Znp,ZaZ]
open Go.PL
def Zjx (x:Ln):List PV:= [.int .i64 x.kind,.int .i64 x.at'.sc,.str x.at'.gr,.str x.at'.nm,.str x.nm,.str x.ot,.int .i64 x.fac,.int .i64 x.fd.at'.sc,.str x.fd.at'.gr,.str x.fd.at'.nm,.int .i64 x.fd.kind,.str x.fd.df,.sl .no (x.fd.cases'.map .str),.int .i64 x.fd.worth,.sl .no (x.fo.map pr),.sl .no (x.ba.map pr)]
open Go.PL
open Go.PL
theorem Zeu {l:List Fd} (h:ZW l=true) {f g:Fd} (hf:f∈l) (hg:g∈l) (e:f.at'=g.at'):f=g:=by
 have hr:=(ZP.1 h).2.1;have h1:=ZaD hr hf;have h2:=ZaD hr hg;rw[e,h2]at h1;exact(Prod.mk.inj h1).1.symm
theorem ZtB {L:List Fd} {es:List En} (h:Z8 L es=true) (hu:∀f∈L,∀g∈L,f.at'=g.at'→f=g) {g:Fd} (hg:g∈L):∃e,ZeY es g.at'=some e∧Zbm g e=true:=by
 simp only[Z8,Bool.and_eq_true,decide_eq_true_eq,List.all_eq_true,List.mem_range]at h;obtain⟨hlen,hall⟩:=h;have hat:∀i,i<L.length→(es.getD i default).at'=(L.getD i default).at':=fun i hi=>by
  have:=hall i hi;simp only[Zbm,Bool.and_eq_true,decide_eq_true_eq]at this;exact this.1.2
 obtain⟨i,hi,rfl⟩:=List.getElem_of_mem hg;have hgi:L.getD i default=L[i]:=getD_lt hi;cases hf:ZeY es L[i].at' with
 |none=>
  exfalso;unfold ZeY at hf;have:=List.find?_eq_none.1 hf (es.getD i default) (Zg (by omega));apply this;simp only[ZtV,decide_eq_true_eq];rw[hat i hi,hgi]
 |some e=>
  refine⟨e,rfl,?_⟩;have he:=List.mem_of_find?_eq_some hf;have hp:=List.find?_some hf;simp only[ZtV,decide_eq_true_eq]at hp;obtain⟨j,hj,rfl⟩:=List.getElem_of_mem he;have hjL:j<L.length:=by omega
  have hej:es.getD j default=es[j]:=getD_lt hj;have:=hat j hjL;rw[hej,hp]at this;have hLj:=hu _ (Zg (d:=default) hjL) _ hg this.symm;have hfit:=hall j hjL;rw[hej,hLj]at hfit;exact hfit
theorem Zee {f:Fd} {e:En} (h:Zbm f e=true):ZO f=true∧e.at'=f.at':=by
 simp only[Zbm,Bool.and_eq_true,decide_eq_true_eq]at h;exact h.1
theorem ZnB {f:Fd} {e:En} (h:Zbm f e=true) (k:f.kind=1):Lim e.n∧e.l= []:=by
 simp only[Zbm,k,if_true,ZtI,Bool.and_eq_true,decide_eq_true_eq,beq_iff_eq]at h;refine⟨⟨by omega,by omega⟩,List.eq_nil_of_length_eq_zero (by omega)⟩
theorem ZkZ {f:Fd} {e:En} (h:Zbm f e=true) (k:f.kind≠1):e.n=0∧(f.kind≠4→e.l.length=1)∧(f.kind=4→e.l.length≤400)∧ ∀s∈e.l,Zbg f s=true:=by
 simp only[Zbm,k,if_false,Zl1,Zkf,Bool.and_eq_true,decide_eq_true_eq,List.all_eq_true]at h;obtain⟨_,h1,h2,h3⟩:=h;refine⟨h3,fun h4=> ?_,fun h4=> ?_,h2⟩
 ·rw[if_neg h4]at h1;simp at h1;omega
 ·rw[if_pos h4]at h1;simp at h1;omega
theorem ZzI {f:Fd} {n:Int} (hr:ZO f=true) (k:f.kind=1) (hn:Lim n):Zbm f ⟨f.at',n,[]⟩=true:=by
 unfold Lim at hn;simp only[Zbm,hr,k,if_true,ZtI,Bool.and_eq_true,decide_eq_true_eq,true_and,List.length_nil];exact⟨by omega,by omega,rfl⟩
theorem Zya {f:Fd} {l:List Str} (hr:ZO f=true) (k:f.kind≠1) (hl:if f.kind=4 then l.length≤400 else l.length=1) (hs:∀s∈l,Zbg f s=true):Zbm f ⟨f.at',0,l⟩=true:=by
 simp only[Zbm,hr,k,if_false,Zl1,Zkf,Bool.and_eq_true,decide_eq_true_eq,List.all_eq_true,true_and,and_true];refine⟨?_,hs⟩
 by_cases h4:f.kind=4
 ·rw[if_pos h4]at hl ⊢;simp;omega
 ·rw[if_neg h4]at hl ⊢;simp;omega
theorem Zcm {f:Fd} (hr:ZO f=true) (k1:f.kind≠1) (k3:f.kind≠3) {s:Str}:Zbg f s=true↔s.length<41:=by
 simp only[Zbg,hr,k1,k3,if_false,decide_false,Bool.not_false,Bool.and_self,Bool.true_and,decide_eq_true_eq];omega
theorem Zf2 {f:Fd} (hr:ZO f=true):Zbm f (ZQ f)=true:=by
 by_cases k1:f.kind=1
 ·have:ZQ f=⟨f.at',0,[]⟩:=by simp[ZQ,k1]
  rw[this];exact ZzI hr k1 ⟨by omega,by omega⟩
 ·by_cases k4:f.kind=4
  ·have:ZQ f=⟨f.at',0,[]⟩:=by simp[ZQ,k4]
   rw[this];exact Zya hr k1 (by rw[if_pos k4];simp) (by simp)
  ·have:ZQ f=⟨f.at',0,[f.df]⟩:=by simp[ZQ,k1,k4]
   rw[this];refine Zya hr k1 (by rw[if_neg k4];rfl) fun s hs=> ?_
   rw[List.mem_singleton.1 hs];have h:=hr;simp only[ZO,k1,if_false,Bool.and_eq_true]at h;obtain⟨_,_,h⟩:=h
   by_cases k3:f.kind=3
   ·rw[if_pos k3]at h;simp only[Zkn,Bool.and_eq_true]at h;simp only[Zbg,hr,k1,k3,if_true];simpa using h.2.2
   ·rw[if_neg k3]at h;rw[Zcm hr k1 k3];simp only[Zp0,Bool.and_eq_true,Bool.or_eq_true,decide_eq_true_eq]at h;rcases h.2 with h|h
    ·have:=h.2;omega
    ·exact absurd h.1 k4
theorem Zsc {g f:Fd} {e:En} (hg:Zbm g e=true) (hr:ZO f=true) (hk:f.kind=g.kind) (hc:f.cases'=g.cases'):Zbm f ⟨f.at',e.n,e.l⟩=true:=by
 have gr:=(Zee hg).1
 by_cases k1:g.kind=1
 ·obtain⟨h1,h2⟩:=ZnB hg k1;rw[h2];exact ZzI hr (by omega) h1
 ·obtain⟨h1,h2,h3,h4⟩:=ZkZ hg k1;rw[h1];refine Zya hr (by omega) ?_ fun s hs=> ?_
  ·by_cases k4:g.kind=4
   ·rw[if_pos (by omega)];exact h3 k4
   ·rw[if_neg (by omega)];exact h2 k4
  ·have:=h4 s hs;simp only[Zbg,hk,hc,hr,gr]at this ⊢;exact this
theorem ZBK {l m:List Fd} {x:Ln} (ha:Zq l x=(m,0)) {f:Fd} (hf:f∈m):
  (ZE (Zc x) f.at'<0∧f∈l)∨ ∃i:Nat,ZE (Zc x) f.at'=(i:Int)∧i≤1∧ ∃cs,Zbc l x=(cs,true)∧i<cs.length∧cs.getD i default=f:=by
 obtain⟨hl,hx,cs,l1,e1,e2,e3⟩:=Zaa ha;obtain⟨a1,a2,a3,a4,a5⟩:=ZdG hl e2;obtain⟨b1,b2,b3,b4,b5⟩:=Zbh a1 e3;have hk:=(ZT hx).1;have hpl:=Zd6 hk e1;have hcl:=ZfM x
 by_cases hp:ZE (Zc x) f.at'<0
 ·left;refine⟨hp,?_⟩;rcases(b2 f).1 hf with h|h
  ·exact((a2 f).1 h).1
  ·exact absurd (by rw[←hpl];exact List.mem_map.2 ⟨f,h,rfl⟩) (ZaR hp)
 ·right;obtain⟨i,h1,h2,h3⟩:=ZbY hp;have hlen:cs.length=(Zc x).length:=by rw[←hpl,List.length_map]
  refine⟨i,h1,by omega,cs,e1,by omega,?_⟩;have hi:i<cs.length:=by omega
  have hat:(cs.getD i default).at'=f.at':=by
   have e0:(cs.map (·.at')).getD i default=(cs.getD i default).at':=by
    rw[getD_lt (l:=cs.map (·.at')) (by simpa using hi),getD_lt hi];simp
   rw[←e0,hpl,h3]
  exact Zeu b1 ((b2 _).2 (.inr (Zg hi))) hf hat
open Go.PL
theorem ZjZ {t o:List Pr} (h:Za9 t o=true) {s:Str} (hs:ZcZ t s=true):ZcZ o (Zai t s).1=true∧(Zai t s).2=true:=by
 simp only[ZcZ,List.any_eq_true,beq_iff_eq]at hs;obtain⟨p,hp,rfl⟩:=hs;obtain⟨q,hq⟩:∃q,t.find? (fun q=>q.fr'==p.fr')=some q:=by
  cases hf:t.find? (fun q=>q.fr'==p.fr')with
  |none=>exact absurd (by simp) (List.find?_eq_none.1 hf p hp)
  |some q=>exact⟨q,rfl⟩
 have hqm:=List.mem_of_find?_eq_some hq;have hc:Zai t p.fr'=(q.to',true):=by unfold Zai;rw[hq]
 rw[hc];refine⟨?_,rfl⟩;simp only[Za9,Bool.and_eq_true,List.all_eq_true,List.mem_range]at h;obtain⟨i,hi,rfl⟩:=List.getElem_of_mem hqm;have h1:=h.2 i hi;simp only[ZcT,Bool.and_eq_true]at h1;have h2:=h1.2.2;rw[getD_lt hi]at h2;exact h2
theorem Zfj {t:List Pr} {s:Str}:(Zbi t).any (· == s)=ZcZ t s:=by
 unfold Zbi ZcZ;rw[List.any_map];rfl
theorem ZzB {l m cs:List Fd} {x:Ln} {es:List En} {sc:Int} {i:Nat} (ha:Zq l x=(m,0)) (he:Z8 (Zr l sc) es=true) (harr:Zbc l x=(cs,true)) (hi:i<cs.length) (hi1:i≤1) (hm:cs.getD i default∈m) (hsc:(cs.getD i default).at'.sc=sc):
  GotOk x (cs.getD i default) (i:Int) es∧((ZeZ x (cs.getD i default) (i:Int) es).2=0→Zbm (cs.getD i default) (ZeZ x (cs.getD i default) (i:Int) es).1=true):=by
 obtain⟨hl,hx,cs',l1,e1,e2,e3⟩:=Zaa ha;obtain⟨b1,_⟩:=Zbh (ZdG hl e2).1 e3;clear e1 e2 e3;have hfr:=(ZP.1 b1).2.2 _ hm;have src:∀r,(Zy l r).2=0→r.sc=sc→ ∃e,ZeY es r=some e∧Zbm (Zy l r).1 e=true:=fun r h1 h2=>by
  obtain⟨g1,g2⟩:=ZaA h1;have hg:(Zy l r).1∈Zr l sc:=List.mem_filter.2 ⟨g1,by rw[g2];simp[h2]⟩;have:=ZtB he (fun f hf g hg e=>Zeu hl (List.mem_filter.1 hf).1 (List.mem_filter.1 hg).1 e) hg;rwa[g2]at this
 have hk:=(ZT hx).1;clear hm b1;obtain⟨kind,at',nm,ot,fac,fd,fo,ba⟩:=x;simp only at hk;have one:∀c:Fd,cs= [c]→i=0∧cs.getD i default=c:=fun c hc=>by
  subst hc;have:i=0:=by simpa using hi
  subst this;exact⟨rfl,rfl⟩
 have mv:∀(c:Fd) (k:Int),(k=1∨k=4∨k=5)→kind=k→(Zy l at').2=0→at'.sc=c.at'.sc→cs= [c]→c.kind=(Zy l at').1.kind→c.cases'=(Zy l at').1.cases'→
   GotOk ⟨kind,at',nm,ot,fac,fd,fo,ba⟩ (cs.getD i default) (i:Int) es∧((ZeZ ⟨kind,at',nm,ot,fac,fd,fo,ba⟩ (cs.getD i default) (i:Int) es).2=0→Zbm (cs.getD i default) (ZeZ ⟨kind,at',nm,ot,fac,fd,fo,ba⟩ (cs.getD i default) (i:Int) es).1=true):=fun c k hk' hkk hf hs hc q1 q2=>by
  obtain⟨i0,hce⟩:=one c hc;rw[hce]at hsc hfr ⊢;subst i0;obtain⟨e,h1,h2⟩:=src at' hf (by rw[hs];exact hsc);have hg:Zl ⟨kind,at',nm,ot,fac,fd,fo,ba⟩= [at']:=by unfold Zl;simp only;rw[if_neg (by omega),if_neg (by omega),if_neg (by omega)]
  refine⟨⟨by simp only;omega,by omega,fun _=>⟨e,by rw[hg];exact h1,fun h=>by simp only at h;omega,fun h=>by simp only at h;omega⟩,fun h=>by simp only at h;omega,fun h=>by simp only at h;omega,fun h=>by simp only at h;omega⟩,fun _=> ?_⟩;have:ZeZ ⟨kind,at',nm,ot,fac,fd,fo,ba⟩ c ((0:Nat):Int) es=(⟨c.at',e.n,e.l⟩,0):=by
   unfold ZeZ;rw[if_neg (by simp only;omega),hg];simp only[List.getD_cons_zero,h1];rw[if_neg (by omega)];unfold ZdT;simp only;rw[if_neg (by omega),if_neg (by omega),if_neg (by omega),if_neg (by omega),if_neg (by omega)]
  rw[this];exact Zsc h2 hfr q1 q2
 have hf:kind≠2→kind≠3→kind≠9→(Zy l at').2=0:=fun a b c=>by
  unfold Zbc at harr;simp only[if_neg a,if_neg b,if_neg c]at harr
  by_cases h:(Zy l at').2=0
  ·exact h
  ·rw[if_pos h]at harr;simp at harr
 rcases hk with rfl|rfl|rfl|rfl|rfl|rfl|rfl|rfl|rfl|rfl
 ·have hf0:=hf (by decide) (by decide) (by decide);simp[Zbc,Zc,hf0]at harr;exact mv _ 1 (by omega) rfl hf0 rfl harr.symm rfl rfl
 ·simp[Zbc]at harr;obtain⟨i0,hce⟩:=one fd harr.symm;rw[hce]at hfr ⊢;subst i0;refine⟨⟨by simp,by omega,fun h=>absurd rfl h,fun h=>by simp at h,fun h=>by simp at h,fun h=>by simp at h⟩,fun _=> ?_⟩;have:ZeZ ⟨2,at',nm,ot,fac,fd,fo,ba⟩ fd ((0:Nat):Int) es=(ZQ fd,0):=by unfold ZeZ;rw[if_pos (.inl rfl)]
  rw[this];exact Zf2 hfr
 ·simp[Zbc]at harr;have:=harr.1;subst this;simp at hi
 ·have hf0:=hf (by decide) (by decide) (by decide);simp[Zbc,Zc,hf0]at harr;exact mv _ 4 (by omega) rfl hf0 rfl harr.symm rfl rfl
 ·have hf0:=hf (by decide) (by decide) (by decide);simp[Zbc,Zc,hf0]at harr;exact mv _ 5 (by omega) rfl hf0 rfl harr.symm rfl rfl
 ·have hf0:=hf (by decide) (by decide) (by decide);simp[Zbc,hf0]at harr;obtain⟨hc,gk⟩:=harr;subst hc;have hg:Zl ⟨6,at',nm,ot,fac,fd,fo,ba⟩= [at']:=by simp[Zl]
  have key:∀c:Fd,c.kind=1→c.at'.sc=at'.sc→c.at'.sc=sc→ZO c=true→GotOk ⟨6,at',nm,ot,fac,fd,fo,ba⟩ c (i:Int) es∧((ZeZ ⟨6,at',nm,ot,fac,fd,fo,ba⟩ c (i:Int) es).2=0→Zbm c (ZeZ ⟨6,at',nm,ot,fac,fd,fo,ba⟩ c (i:Int) es).1=true):=fun c ck cs1 cs2 cr=>by
   obtain⟨e,h1,h2⟩:=src at' hf0 (by rw[←cs1];exact cs2);have hn:=ZnB h2 gk;have hv:ZQ c=⟨c.at',0,[]⟩:=by simp[ZQ,ck]
   refine⟨⟨by simp,by omega,fun _=>⟨e,by rw[hg];exact h1,fun h=>by simp at h,fun h=>by simp at h⟩,fun h=>by simp at h,fun _=>by rw[hv],fun h=>by simp at h⟩,fun _=> ?_⟩
   by_cases h0:0<(i:Int)
   ·have:ZeZ ⟨6,at',nm,ot,fac,fd,fo,ba⟩ c (i:Int) es=(ZQ c,0):=by unfold ZeZ;rw[if_pos (.inr ⟨rfl,h0⟩)]
    rw[this];exact Zf2 cr
   ·have:ZeZ ⟨6,at',nm,ot,fac,fd,fo,ba⟩ c (i:Int) es=(⟨c.at',e.n,[]⟩,0):=by
     unfold ZeZ;rw[if_neg (fun h=>h0 (h.elim (fun g=>by simp at g) (·.2))),hg];simp[h1,ZdT,hv]
    rw[this];exact ZzI cr ck hn.1
  have h01:i=0∨i=1:=by omega
  rcases h01 with rfl|rfl
  ·exact key _ rfl rfl hsc hfr
  ·exact key _ rfl rfl hsc hfr
 ·have hf0:=hf (by decide) (by decide) (by decide);simp[Zbc,hf0]at harr;obtain⟨hc,gk,gd⟩:=harr;obtain⟨i0,hce⟩:=one _ hc.symm;rw[hce]at hfr hsc ⊢;subst i0;have hg:Zl ⟨7,at',nm,ot,fac,fd,fo,ba⟩= [at']:=by simp[Zl]
  obtain⟨e,h1,h2⟩:=src at' hf0 hsc;obtain⟨t1,t2,_,t4⟩:=ZkZ h2 (by omega);have tl:=t2 (by omega);have gr:=(Zee h2).1;refine⟨⟨by simp,by omega,fun _=>⟨e,by rw[hg];exact h1,fun _=>by omega,fun h=>by simp at h⟩,fun h=>by simp at h,fun h=>by simp at h,fun h=>by simp at h⟩,fun _=> ?_⟩;have:ZeZ ⟨7,at',nm,ot,fac,fd,fo,ba⟩ ⟨at',4,[],[],0⟩ ((0:Nat):Int) es=(⟨at',0,if 0<(e.l.length:Int)∧e.l.getD 0 []≠ot then [e.l.getD 0 []]else []⟩,0):=by
   unfold ZeZ;rw[if_neg (by simp),hg];simp only[List.getD_cons_zero,h1];rfl
  rw[this];refine Zya (f:=⟨at',4,[],[],0⟩) hfr (by simp) ?_ fun s hs=> ?_
  ·rw[if_pos rfl];split<;>simp
  ·rw[Zcm hfr (by simp) (by simp)];split at hs
   ·have hse:=List.mem_singleton.1 hs;have:=t4 s (by rw[hse];exact Zg (by omega));exact(Zcm gr (by omega) (by omega)).1 this
   ·cases hs
 ·have hf0:=hf (by decide) (by decide) (by decide);simp[Zbc,hf0]at harr;obtain⟨hc,gv⟩:=harr;obtain⟨i0,hce⟩:=one _ hc.symm;rw[hce]at hfr hsc ⊢;subst i0;have hg:Zl ⟨8,at',nm,ot,fac,fd,fo,ba⟩= [at']:=by simp[Zl]
  obtain⟨e,h1,h2⟩:=src at' hf0 hsc;have gk:(Zy l at').1.kind=3:=by rw[gv]
  obtain⟨t1,t2,_,t4⟩:=ZkZ h2 (by omega);have tl:=t2 (by omega);refine⟨⟨by simp,by omega,fun _=>⟨e,by rw[hg];exact h1,fun _=>by omega,fun h=>by simp at h⟩,fun h=>by simp at h,fun h=>by simp at h,fun h=>by simp at h⟩,fun _=> ?_⟩;have h0:0<(e.l.length:Int):=by omega
  have:ZeZ ⟨8,at',nm,ot,fac,fd,fo,ba⟩ ⟨at',3,ot,Zbi ba,0⟩ ((0:Nat):Int) es=(⟨at',0,[(Zai fo (e.l.getD 0 [])).1]⟩,0):=by
   unfold ZeZ;rw[if_neg (by simp),hg];simp only[List.getD_cons_zero,h1];simp[ZdT,h0];intro h;rw[h]at tl;cases tl
  rw[this];refine Zya (f:=⟨at',3,ot,Zbi ba,0⟩) hfr (by simp) (by simp) fun s hs=> ?_
  have hse:=List.mem_singleton.1 hs;have hfit:=t4 (e.l.getD 0 []) (Zg (by omega));have hta:Za9 fo ba=true:=by
   have hxx:=hx;unfold Zu at hxx;simp only[show ¬((8:Int)=2∨(8:Int)=3)by omega,if_false,if_true,Bool.and_eq_true]at hxx;exact hxx.2.2.1
  have hfo:ZcZ fo (e.l.getD 0 [])=true:=by
   rw[←Zfj];simp only[Zbg,gk,if_true,Bool.and_eq_true]at hfit;have:=hfit.2;rw[gv]at this;exact this
  have:=(ZjZ hta hfo).1;rw[←Zfj,←hse]at this;simp only[Zbg,hfr,Bool.and_eq_true];simp;simpa using this
 ·simp only[Zbc,Int.reduceEq,if_false,if_true,Zco]at harr;split at harr
  ·simp at harr
  split at harr
  ·simp at harr
  rename_i u1 u2;simp only[not_or,Decidable.not_not]at u1 u2;simp only[Prod.mk.injEq,and_true]at harr;obtain⟨q1,q2⟩:=u1;obtain⟨q3,q4,_⟩:=u2;obtain⟨i0,hce⟩:=one _ harr.symm;rw[hce]at hfr hsc ⊢;subst i0;have hg:Zl ⟨9,at',nm,ot,fac,fd,fo,ba⟩= [Zv at' nm,Zv at' ot]:=by simp[Zl]
  obtain⟨e,h1,h2⟩:=src (Zv at' nm) q1 hsc;obtain⟨e2,h3,h4⟩:=src (Zv at' ot) q3 hsc;have n1:=ZnB h2 q2;have n2:=ZnB h4 q4;have hfac:2≤fac∧fac≤1000:=by
   have hxx:=hx;unfold Zu at hxx;simp[-Bool.not_eq_eq_eq_not]at hxx;omega
  generalize hcc:(⟨at',1,[],[],(Zy l (Zv at' nm)).1.worth⟩:Fd)=c at *;have ck:c.kind=1:=by rw[←hcc]
  have hv:ZQ c=⟨c.at',0,[]⟩:=by simp[ZQ,ck]
  refine⟨⟨by simp,by omega,fun _=>⟨e,by rw[hg];exact h1,fun h=>by simp at h,fun _=>n1.1⟩,fun _=>⟨⟨e2,by rw[hg];exact h3,n2.1⟩,hfac⟩,fun _=>by rw[hv],fun h=>by simp at h⟩,fun h0=> ?_⟩;have hgm:ZeZ ⟨9,at',nm,ot,fac,fd,fo,ba⟩ c ((0:Nat):Int) es=if(Zin e.n e2.n fac).2=0 then(⟨c.at',(Zin e.n e2.n fac).1,[]⟩,0)else(default,(Zin e.n e2.n fac).2):=by
   unfold ZeZ;rw[if_neg (by simp),hg];simp only[List.getD_cons_zero,List.getD_cons_succ,h1,h3,hv];rfl
  rw[hgm]at h0 ⊢;obtain⟨_,_,hmm⟩:=Zmo hfac n1.1 n2.1
  by_cases hz:ZaU (e2.n*fac)=true∧ZaU (e.n+e2.n*fac)=true
  ·rw[if_pos hz]at hmm;rw[hmm,if_pos rfl];exact ZzI hfr ck (Zab.1 hz.2)
  ·rw[if_neg hz]at hmm;rw[hmm]at h0;simp at h0
 ·have hf0:=hf (by decide) (by decide) (by decide);simp[Zbc,hf0]at harr;obtain⟨hc,gk⟩:=harr;obtain⟨i0,hce⟩:=one _ hc.symm;rw[hce]at hfr hsc ⊢;subst i0;have hg:Zl ⟨10,at',nm,ot,fac,fd,fo,ba⟩= [at']:=by simp[Zl]
  obtain⟨e,h1,h2⟩:=src at' hf0 hsc;obtain⟨t1,_,_,t4⟩:=ZkZ h2 (by omega);have gr:=(Zee h2).1;have hv:ZQ ⟨at',2,ot,[],0⟩=⟨at',0,[ot]⟩:=by simp[ZQ]
  refine⟨⟨by simp,by omega,fun _=>⟨e,by rw[hg];exact h1,fun h=>by simp at h,fun h=>by simp at h⟩,fun h=>by simp at h,fun h=>by simp at h,fun _=>by rw[hv]⟩,fun _=> ?_⟩;have:ZeZ ⟨10,at',nm,ot,fac,fd,fo,ba⟩ ⟨at',2,ot,[],0⟩ ((0:Nat):Int) es=(⟨at',0,if 0<(e.l.length:Int)then [e.l.getD (e.l.length-1) []]else [ot]⟩,0):=by
   unfold ZeZ;rw[if_neg (by simp),hg];simp only[List.getD_cons_zero,h1];simp[ZdT,hv]
  rw[this]
  by_cases h0:0<(e.l.length:Int)
  ·rw[if_pos h0];refine Zya (f:=⟨at',2,ot,[],0⟩) hfr (by simp) (by simp) fun s hs=> ?_
   rw[Zcm hfr (by simp) (by simp)];have hse:=List.mem_singleton.1 hs;have:=t4 s (by rw[hse];exact Zg (by omega));exact(Zcm gr (by omega) (by omega)).1 this
  ·rw[if_neg h0,←hv];exact Zf2 hfr
theorem Zuk {l m:List Fd} {x:Ln} {es:List En} {sc:Int} (ha:Zq l x=(m,0)) (he:Z8 (Zr l sc) es=true) {f:Fd} (hf:f∈Zr m sc):ZxQ x es f∧((Zhk x es f).2=0→Zbm f (Zhk x es f).1=true):=by
 obtain⟨hfm,hfs⟩:=List.mem_filter.1 hf;have hl:=(Zaa ha).1;have hfs:f.at'.sc=sc:=by simpa using hfs
 unfold ZxQ Zhk;rcases ZBK ha hfm with ⟨hp,hfl⟩|⟨i,hp,hi1,cs,harr,hi,hc⟩
 ·rw[if_pos hp,if_pos hp];obtain⟨e,h1,h2⟩:=ZtB he (fun f hf g hg e=>Zeu hl (List.mem_filter.1 hf).1 (List.mem_filter.1 hg).1 e) (List.mem_filter.2 ⟨hfl,by simpa using hfs⟩);rw[h1];exact⟨⟨e,rfl⟩,fun _=>h2⟩
 ·rw[if_neg (by omega),if_neg (by omega),hp];subst hc;exact ZzB ha he harr hi hi1 hfm hfs
theorem Zg0 {l m:List Fd} {x:Ln} {es:List En} {sc:Int} (ha:Zq l x=(m,0)) (he:Z8 (Zr l sc) es=true) (h0:(ZaH x (Zr m sc) es).2=0):Z8 (Zr m sc) (ZaH x (Zr m sc) es).1=true:=by
 unfold ZaH at h0 ⊢;cases hf:(Zr m sc).find? (ZbV x es)with
 |some f=>
  rw[hf]at h0;have:=List.find?_some hf;unfold ZbV at this;simp only at h0;rw[h0]at this;simp at this
 |none=>
  simp only;rw[List.find?_eq_none]at hf;simp only[Z8,List.length_map,decide_true,Bool.true_and,List.all_eq_true,List.mem_range];intro i hi;have hmem:=Zg (d:=default) hi;have hb:=hf _ hmem;have e0:((Zr m sc).map fun f=>(Zhk x es f).1).getD i default=(Zhk x es ((Zr m sc).getD i default)).1:=by
   rw[getD_lt (by simpa using hi),getD_lt hi];simp
  rw[e0];refine(Zuk ha he hmem).2 ?_;unfold ZbV at hb;simpa using hb
theorem Zlo {l:List Fd} {x:Ln} {d:Dc} (h0:(Zds l x d).2=0):Zbk (Zq l x).1 (Zds l x d).1=true:=by
 unfold Zds at h0 ⊢
 by_cases hc:(Zq l x).2=0
 ·rw[if_neg (fun h=>h hc)]at h0 ⊢;have ha:Zq l x=((Zq l x).1,0):=Prod.ext rfl hc;generalize (Zq l x).1=m at *;cases hrd:Zbk l d
  ·rw[if_pos hrd]at h0;simp at h0
  ·rw[if_neg (by simp[hrd])]at h0 ⊢;obtain⟨hl,hx,cs,l1,e1,e2,e3⟩:=Zaa ha;obtain⟨b1,_⟩:=Zbh (ZdG hl e2).1 e3;simp only[Zbk,ZgO,Bool.and_eq_true,Bool.not_eq_true',decide_eq_false_iff_not,List.all_eq_true,List.mem_range]at hrd;obtain⟨⟨_,hn,he0⟩,hrows⟩:=hrd
   by_cases hh:(ZaH x (Zr m 0) d.head).2=0
   ·rw[if_neg (fun h=>h hh)]at h0 ⊢;cases hfd:d.rows.find? (ZdA x (Zr m 1))with
    |some r=>
     rw[hfd]at h0;have:=List.find?_some hfd;unfold ZdA at this;simp only at h0;rw[h0]at this;simp at this
    |none=>
     rw[List.find?_eq_none]at hfd;simp only;simp only[Zbk,ZgO,Bool.and_eq_true,Bool.not_eq_true',decide_eq_false_iff_not,List.all_eq_true,List.mem_range,List.length_map];refine⟨⟨b1,hn,Zg0 ha he0 hh⟩,fun i hi=> ?_⟩;have hr:=hrows i hi;have gi:∀j,j<d.rows.length→(d.rows.map (newRow x (Zr m 1))).getD j default=newRow x (Zr m 1) (d.rows.getD j default):=fun j hj=>by
      rw[getD_lt (by simpa using hj),getD_lt hj];simp
     have hb:=hfd _ (Zg (d:=default) hi);unfold ZdA at hb;simp only[ZeR,Bool.and_eq_true]at hr ⊢;rw[gi i hi,gi (i-1) (by omega)];exact⟨hr.1,Zg0 ha hr.2 (by simpa using hb)⟩
   ·rw[if_pos hh]at h0;exact absurd h0 hh
 ·rw[if_pos hc]at h0;exact absurd h0 hc
open Go.PL
theorem ZzJ {l m:List Fd} {x:Ln} {es:List En} {sc:Int} (ha:Zq l x=(m,0)) (he:Z8 (Zr l sc) es=true) (h0:(ZaH x (Zr m sc) es).2=0) {f:Fd} (hf:f∈Zr m sc):ZeY (ZaH x (Zr m sc) es).1 f.at'=some (Zhk x es f).1∧(Zhk x es f).2=0:=by
 have hn:=Zg0 ha he h0;obtain⟨hl,hx,cs,l1,e1,e2,e3⟩:=Zaa ha;obtain⟨b1,_⟩:=Zbh (ZdG hl e2).1 e3;have hu:∀f∈Zr m sc,∀g∈Zr m sc,f.at'=g.at'→f=g:=fun f hf g hg e=>Zeu b1 (List.mem_filter.1 hf).1 (List.mem_filter.1 hg).1 e
 obtain⟨e',h1,h2⟩:=ZtB hn hu hf;have hz:∀f∈Zr m sc,(Zhk x es f).2=0:=fun f hf=>by
  unfold ZaH at h0;cases hfd:(Zr m sc).find? (ZbV x es)with
  |some g=>
   rw[hfd]at h0;have:=List.find?_some hfd;unfold ZbV at this;simp only at h0;rw[h0]at this;simp at this
  |none=>
   have:=List.find?_eq_none.1 hfd f hf;unfold ZbV at this;simpa using this
 have hmap:(ZaH x (Zr m sc) es).1=(Zr m sc).map fun f=>(Zhk x es f).1:=by
  unfold ZaH;cases hfd:(Zr m sc).find? (ZbV x es)with
  |some g=>
   have:=List.find?_some hfd;unfold ZbV at this;rw[hz g (List.mem_of_find?_eq_some hfd)]at this;simp at this
  |none=>rfl
 refine⟨?_,hz f hf⟩;rw[h1];have hmem:e'∈(ZaH x (Zr m sc) es).1:=List.mem_of_find?_eq_some h1;rw[hmap]at hmem;obtain⟨f',hf',hfe⟩:=List.mem_map.1 hmem;have q1:=(Zee ((Zuk ha he hf').2 (hz f' hf'))).2;have q2:=(Zee h2).2;have:f'=f:=hu _ hf' _ hf (by rw[←q1,hfe,q2]);rw[←hfe,this]
theorem Zsi {l:List Rf} {r:Rf} {i:Nat} (hn:l.Nodup) (hi:i<l.length) (h:l.getD i default=r):ZE l r=(i:Int):=by
 have hm:r∈l:=by rw[←h];exact Zg hi
 by_cases hp:ZE l r<0
 ·exact absurd hm (ZaR hp)
 ·obtain⟨j,h1,h2,h3⟩:=ZbY hp;rw[h1];congr 1;rw[getD_lt h2]at h3;rw[getD_lt hi]at h;have hpw:=List.pairwise_iff_getElem.1 hn;rcases Nat.lt_trichotomy j i with q|q|q
  ·exact absurd (by rw[h3,h]) (hpw j i h2 hi q)
  ·exact q
  ·exact absurd (by rw[h3,h]) (hpw i j hi h2 q)
open Go.PL
end Go.Proofs.YthingdchjkhfbaaGreat
