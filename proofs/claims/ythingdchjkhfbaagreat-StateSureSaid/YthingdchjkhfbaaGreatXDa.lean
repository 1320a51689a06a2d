/- Contracts of functions and laws of this seat, each for every input that it names: lemmas of the proof. -/
import Derived.Test.YthingdchjkhfbaaGreatXCw
import Derived.Test.YthingdchjkhfbaaGreatXCk
import Derived.Test.YthingdchjkhfbaaGreatPlJ
namespace Go.Proofs.YthingdchjkhfbaaGreat
set_option maxHeartbeats 64000000
set_option maxRecDepth 20000
set_option linter.unusedVariables false
set_option linter.unusedSimpArgs false
open Go.PL Go.PL.Srt
def ZoQ (y:Dc×Int):PV:= .tup [doc y.1,.int .i64 y.2]
theorem ZgI (y:Dc×Int):(ZoQ y).dids= []:=by simp only[ZoQ,PV.dids,PV.didsL,Zl4,List.append_nil]
def Z0 (A:List Opn) (c:Str):List Opn:=A.filter fun o=>o.cart==c
theorem Zsb {l:List Opn} {k:Nat} (c:Str) (h:k<l.length):Z0 (l.take (k+1)) c=Z0 (l.take k) c++(if((l.getD k default).cart==c)=true then [l.getD k default]else []):=by
 unfold Z0;rw[ZY (d:=default) h,List.filter_append];congr 1;generalize l.getD k default=x;cases hr:(x.cart==c)
 ·rw[List.filter_cons_of_neg (by rw[hr];simp),if_neg (by simp)];rfl
 ·rw[List.filter_cons_of_pos (by exact hr),if_pos rfl];rfl
def ZdZ (m:List Eg) (l:List Opn) (cart:Str) (b:Tg):Dc×Int:=
 if 400<(l.length:Int)then(default,14)else if Zap cart=false then(default,5)else if(Zaz (Zf m) b).2≠0 then(default,(Zaz (Zf m) b).2)
 else(⟨Za6 (Zaz (Zf m) b).1 (ZaI m (Z0 (ZaV m l) cart) b) 0 [],(Za7 (Z0 (ZaV m l) cart) cart).map fun i=>⟨i,Za6 (Zaz (Zf m) b).1 (ZaI m (Z0 (ZaV m l) cart) b) 1 i⟩⟩,0)
def vsV (pre:List Opn) (ks:List Sp):List PV:=(List.range ks.length).map fun j=> .sl (.row (1000+j)) ((Zo pre (ks.getD j default)).map opv)
def qV (n:Nat) (pre:List Opn) (ks:List Sp):PL.Rows:=fun i=>if i=59 then some (.live n 15 37)else if 1000≤i∧i<1000+ks.length then some (.live (Zo pre (ks.getD (i-1000) default)).length 15 37)else none
theorem Zdy (pre:List Opn) (ks:List Sp):(vsV pre ks).length=ks.length:=by simp[vsV]
theorem ZxJ (pre:List Opn) {ks:List Sp} {j:Nat} (h:j<ks.length):(vsV pre ks).getD j .any= .sl (.row (1000+j)) ((Zo pre (ks.getD j default)).map opv):=by
 unfold vsV;rw[getD_lt (by simpa using h),List.getElem_map,List.getElem_range]
theorem Zb0 (pre:List Opn) (o:Opn) (s:Sp):Zo (pre++ [o]) s=Zo pre s++(if spO o=s then [o]else []):=by
 unfold Zo;rw[List.filter_append];congr 1
 by_cases h:spO o=s<;>simp[h]
theorem Zln {ks:List Sp} (h:ks.Nodup) {i j:Nat} (hi:i<ks.length) (hj:j<ks.length) (e:ks.getD i default=ks.getD j default):i=j:=by
 rw[getD_lt hi,getD_lt hj]at e;exact(List.getElem_inj h).1 e
theorem Zy1 {pre:List Opn} {ks:List Sp} {o:Opn} {j:Nat} (hn:ks.Nodup) (hj:j<ks.length) (hs:ks.getD j default=spO o):
  (vsV pre ks).set j (.sl (.row (1000+j)) ((Zo pre (spO o)++ [o]).map opv))=vsV (pre++ [o]) ks:=by
 apply List.ext_getElem
 ·simp[vsV]
 ·intro i h1 h2;have hi:i<ks.length:=by simpa[vsV]using h2
  rw[List.getElem_set]
  by_cases e:j=i
  ·subst e;rw[if_pos rfl];simp only[vsV,List.getElem_map,List.getElem_range];rw[Zb0,hs,if_pos rfl]
  ·rw[if_neg e];simp only[vsV,List.getElem_map,List.getElem_range];rw[Zb0,if_neg (fun h=>e (Zln hn hj hi (by rw[hs,h]))),List.append_nil]
theorem Zy0 {pre:List Opn} {ks:List Sp} {o:Opn} (hn:spO o∉ks) (h0:Zo pre (spO o)= []) (z:PV):
  (vsV pre ks++ [z]).set ks.length (.sl (.row (1000+ks.length)) ([o].map opv))=vsV (pre++ [o]) (ks++ [spO o]):=by
 apply List.ext_getElem
 ·simp[vsV]
 ·intro i h1 h2;have hi:i<ks.length+1:=by simpa[vsV]using h2
  rw[List.getElem_set]
  by_cases e:ks.length=i
  ·subst e;rw[if_pos rfl];simp only[vsV,List.getElem_map,List.getElem_range];have:(ks++ [spO o]).getD ks.length default=spO o:=by rw[getD_lt (by simp)];simp
   rw[this,Zb0,if_pos rfl,h0,List.nil_append]
  ·have hi':i<ks.length:=by omega
   rw[if_neg e,List.getElem_append_left (by simpa[vsV]using hi')];simp only[vsV,List.getElem_map,List.getElem_range];have:(ks++ [spO o]).getD i default=ks.getD i default:=by rw[getD_lt (by simp;omega),getD_lt hi',List.getElem_append_left hi']
   rw[this,Zb0,if_neg,List.append_nil];intro h;rw[getD_lt hi']at h;exact hn (h▸List.getElem_mem hi')
theorem Zoa (n:Nat) (pre:List Opn) {ks:List Sp} {j:Nat} (h:j<ks.length):qV n pre ks (1000+j)=some (.live (Zo pre (ks.getD j default)).length 15 37):=by
 unfold qV;rw[if_neg (by omega),if_pos (by omega),show 1000+j-1000=j by omega]
theorem Zve {pre:List Opn} {ks:List Sp} {i:Nat} (h:i<ks.length):∀r∈((vsV pre ks).getD i .any).ids,r= .r (1000+i):=fun r hr=>by
 rw[ZxJ pre h]at hr;simpa[PV.ids]using hr
theorem Zuq {n:Nat} {pre:List Opn} {ks:List Sp} {x:Opn} {j i:Nat} (hnd:ks.Nodup) (hj:j<ks.length) (hje:ks.getD j default=spO x) (hi:i≠1000+j):qV n (pre++ [x]) ks i=qV n pre ks i:=by
 unfold qV
 by_cases h1:i=59
 ·rw[if_pos h1,if_pos h1]
 ·rw[if_neg h1,if_neg h1]
  by_cases h2:1000≤i∧i<1000+ks.length
  ·rw[if_pos h2,if_pos h2,Zb0,if_neg,List.append_nil];intro e;have:=Zln hnd hj (show i-1000<ks.length by omega) (by rw[hje,e]);omega
  ·rw[if_neg h2,if_neg h2]
theorem ZxA {n:Nat} {pre:List Opn} {ks:List Sp} {x:Opn} {i:Nat} (hn:spO x∉ks) (hi:i≠1000+ks.length):qV n (pre++ [x]) (ks++ [spO x]) i=qV n pre ks i:=by
 unfold qV
 by_cases h1:i=59
 ·rw[if_pos h1,if_pos h1]
 ·rw[if_neg h1,if_neg h1]
  by_cases h2:1000≤i∧i<1000+ks.length
  ·have hlt:i-1000<ks.length:=by omega
   have e:(ks++ [spO x]).getD (i-1000) default=ks.getD (i-1000) default:=by rw[getD_lt (by simp;omega),getD_lt hlt,List.getElem_append_left hlt]
   rw[if_pos h2,if_pos (by simp;omega),e,Zb0,if_neg,List.append_nil];intro e;rw[getD_lt hlt]at e;exact hn (e▸List.getElem_mem hlt)
  ·rw[if_neg h2,if_neg (by simp;omega)]
def vwL (cart:Str) (mine seen:List Opn) (k:Nat):List (Nat×PV):= [(2,.str cart),(8,.ptr 8 0),(10,.ptr 10 0),(12,.sl (.row 59) (mine.map opv)),(15,.ptr 15 0),(65,Zad seen),(66,.int .i64 (seen.length:Int)),(67,.int .i64 (k:Int))]
def vwH (F:List Fd) (x:PV):List (Nat×List PV):= [(8,[.sl .nil [],.sl .nil []]),(10,[.sl .no (F.map fld)]),(15,[x])]
theorem ZmV {cart:Str} {mine seen:List Opn} {k:Nat} {F:List Fd} {x:PV} {q:PL.Rows} (h:q 59≠none):∀y∈vwL cart mine seen k,∀r∈y.2.ids,ZqG (vwH F x) q r∧ ∀d,1000≤d→r≠ .r d:=by
 refine fcs ?_ (fcs ?_ (fcs ?_ (fcs ?_ (fcs ?_ (fcs ?_ (fcs ?_ (fcs ?_ fnl)))))))<;>intro r hr<;>simp[PV.ids,Zad]at hr<;>subst hr
 ·exact⟨⟨_,List.mem_cons_self,rfl⟩,fun d _=>by simp⟩
 ·exact⟨⟨_,List.mem_cons_of_mem _ List.mem_cons_self,rfl⟩,fun d _=>by simp⟩
 ·exact⟨h,fun d hd=>by simp;omega⟩
 ·exact⟨⟨_,List.mem_cons_of_mem _ (List.mem_cons_of_mem _ List.mem_cons_self),rfl⟩,fun d _=>by simp⟩
theorem ZmU {F:List Fd} {x:PV} (hx:x.ids= []):∀y∈vwH F x,∀c∈y.2,c.ids= []:=
 Fc3 (by simp[PV.ids]) (by simp[PV.ids]) (by simp[hx])
theorem Zyn (n:Nat) (pre:List Opn) (ks:List Sp):qV n pre ks 59≠none:=by unfold qV;simp
theorem Zvf (pre:List Opn) (ks:List Sp):(vsV pre ks).map PV.share=ks.map fun s=>Zad (Zo pre s):=by
 apply List.ext_getElem
 ·simp[vsV]
 ·intro i h1 h2;have hi:i<ks.length:=by simpa using h2
  simp only[vsV,List.getElem_map,List.getElem_range,PV.share,Zad];rw[getD_lt hi]
theorem Zvd (pre:List Opn) (ks:List Sp):∀p∈vsV pre ks,p.clean=true:=fun p hp=>by
 obtain⟨j,_,rfl⟩:=List.mem_map.1 hp;rfl
def q59 (n:Nat):PL.Rows:=upd (fun _=>none) 59 (some (.live n 15 37))
theorem Zs8 (m:List Eg) (l:List Opn) (cart:Str) (b:Tg) (hm:OkM m) (hr:RightM m) (hl:l.length≤400) (ho:∀o∈l,OkOp o) (hU:(l.map Opn.id).Nodup) (hn:Zap cart=true) (hc:(Zaz (Zf m) b).2=0):
  PL.Pure Tryz.prog 13 [tr (Zf m),Zad l,.str cart,tg b] (ZoQ (⟨Za6 (Zaz (Zf m) b).1 (ZaI m (Z0 (ZaV m l) cart) b) 0 [],(Za7 (Z0 (ZaV m l) cart) cart).map fun i=>⟨i,Za6 (Zaz (Zf m) b).1 (ZaI m (Z0 (ZaV m l) cart) b) 1 i⟩⟩,0)):=by
 have hcl:∀l:List Opn,∀p∈l.map opv,p.ids= []:=fun l=>ZbM ZhP l
 have hN:=Za5 cart;rw[hn]at hN;have hS:=Zbo m b hm;have hF:=ZqW hm (a:=b) hc;have hL:=Zli m l hm (by omega) ho hU;have hll:=ZdH m l;have hlo:∀o∈ZaV m l,OkOp o:=fun o h=>ho o (Zwf h)
 generalize ZaV m l=A at *;have hmo:∀o∈Z0 A cart,OkOp o:=fun o h=>hlo o (List.mem_filter.1 h).1
 have hml0:(Z0 A cart).length≤A.length:=List.length_filter_le _ _;have hT:=ZrI m (Z0 A cart) b hm hr (by omega) hmo;have hI:=Zla (Z0 A cart) cart (by omega);have hsl:=ZfB m (Z0 A cart) b;have hfill:=fun sc it ks hks=>ZtF (Zaz (Zf m) b).1 (ZaI m (Z0 A cart) b) ks sc it hF (by omega) hks
 have c1:¬(400:Int)<(l.length:Int):=by omega
 have c2:((Zaz (Zf m) b).2 !=0)=false:=by simp[hc]
 generalize Zaz (Zf m) b=X at *;obtain⟨F,xc⟩:=X;simp only at hc hF hfill c2 ⊢;subst hc;refine pov Tryz.func13 (by decide) rfl Tryz.ntmps13 Tryz.results13 (by simp) (ZgI _) ?_;simp only[go_sem,tr,Zad,tg,c1];refine Za (hN) ?_ ?_ ?_;iterate 2 simp only[go_sem]
 simp only[go_sem];refine Za (hS) ?_ ?_ ?_;iterate 2 simp only[go_sem,tr,tg]
 simp only[go_sem,ZaB,Zn,c2];refine Zro 46 hL (hcl _) (by simp[PV.ids,tr,Zad]) rfl rfl ?_;simp only[go_sem,PV.ren,id];refine Zbt 12 59 15 37 rfl rfl ?_;refine ZcM (ι:= { k:Nat // k≤A.length }) 109 (fun x=> [(0,tr (Zf m)),(2,.str cart),(7,.ptr 7 0),(8,.ptr 8 0),(10,.ptr 10 0),(12,.sl (.row 59) ((Z0 (A.take x.1) cart).map opv)),(46,.vsl 46 A.length 15),(47,.int .i64 (A.length:Int)),(48,.int .i64 (x.1:Int))]) (fun _=> [(7,[.int .i64 b.r,.int .i64 b.n],false),(8,[.sl .nil [],.sl .nil []],false),(10,[.sl .no (F.map fld)],false)]) (fun x=> [(46,.vec A.length 15 37),(59,.live (Z0 (A.take x.1) cart).length 15 37)]) (fun _=> []) (fun _=> []) (fun _=> [(46,A.map opv)]) (fun _=> []) [] [] [] (fun x=>A.length-x.1) ⟨0,Nat.zero_le _⟩
  ⟨⟨rfl,(Fc9 rfl rfl rfl rfl rfl rfl rfl rfl rfl),(Fc3 ⟨rfl,rfl⟩ ⟨rfl,rfl⟩ ⟨rfl,rfl⟩),(Fc2 rfl rfl)⟩,fnl,fnl,(fcs rfl fnl),fnl,fnl,fnl⟩ (fun x=>⟨⟨(Fc9 rfl rfl rfl rfl rfl rfl rfl rfl rfl),(Fc3 rfl rfl rfl)⟩,by simp[ZaC ZhP],fnl,by simp,fnl,fnl⟩) (fun x=> ?_)
 obtain⟨k,hk⟩:=x;simp only
 by_cases h:(k:Int)<(A.length:Int)
 ·have hka:k<A.length:=by omega
  have i0:(0:Int)≤(k:Int):=by omega
  have w1:IntKind.i64.wrap ((k:Int)+1)=((k+1:Nat):Int):=by rw[w64 (by omega)];rfl
  have hsn:=Zsb cart hka;have hml1:(Z0 (A.take k) cart).length≤k:=Nat.le_trans (List.length_filter_le _ _) (List.length_take_le _ _);have hrm:=Za1 (show(Z0 (A.take k) cart).length+1≤1000000 by omega) (show 176≤1000 by omega);have hml:((Z0 (A.take k) cart).map opv).length=(Z0 (A.take k) cart).length:=List.length_map _;have hsz:=ZdO (Z0 (A.take k) cart);generalize hx:A.getD k default=x at *;have hsx:Sized 15 [opv x]:=ZdO [x];have hax:Zcy [opv x]:=Zir [x];simp only[opv]at hsx hax;cases k1:(x.cart==cart)
  ·rw[k1,if_neg (by simp),List.append_nil]at hsn;simp only[go_sem,h,i0,List.length_map,Zal hka,hx,opv,k1,w1];exact⟨⟨k+1,by omega⟩,by show A.length-(k+1)<A.length-k;omega,⟨⟨rfl,by simp only;rw[hsn];exact(Fc9 rfl rfl rfl rfl rfl rfl rfl rfl rfl),(Fc3 ⟨rfl,rfl⟩ ⟨rfl,rfl⟩ ⟨rfl,rfl⟩),by simp only;rw[hsn];exact(Fc2 rfl rfl)⟩,fnl,fnl,(fcs rfl fnl),fnl,fnl,fnl⟩⟩
  ·rw[k1,if_pos rfl]at hsn;simp only[go_sem,h,i0,List.length_map,Zal hka,hx,opv,k1,w1,hml,hsz,hrm,hsx,hax];exact⟨⟨k+1,by omega⟩,by show A.length-(k+1)<A.length-k;omega,⟨⟨rfl,by simp only;rw[hsn,List.map_append];exact(Fc9 rfl rfl rfl rfl rfl rfl rfl rfl rfl),(Fc3 ⟨rfl,rfl⟩ ⟨rfl,rfl⟩ ⟨rfl,rfl⟩),by simp only;rw[hsn,List.length_append];exact(Fc2 rfl rfl)⟩,fnl,fnl,(fcs rfl fnl),fnl,fnl,fnl⟩⟩
 ·have htk:A.take k=A:=List.take_of_length_le (by omega);simp only[go_sem,h,htk];intro mb;refine Za (hT) ?_ ?_ ?_;iterate 2 simp only[go_sem,tr,Zad,tg]
  simp only[go_sem,Zad,List.length_map];generalize hse:ZaI m (Z0 A cart) b=seen at *;generalize hmi:Z0 A cart=mine at *;refine ZyM (ι:= { x:Nat×List Sp // x.1≤seen.length∧(∀s,s∈x.2↔ ∃o∈seen.take x.1,spO o=s)∧x.2.Nodup })
   (fun x=>vst 109 (vwL cart mine seen x.1.1) (vwH F (.mref mb)) (qV mine.length (seen.take x.1.1) x.1.2) (Ze6 mb ⟨x.1.2.map spv,vsV (seen.take x.1.1) x.1.2⟩))
   (fun x=>seen.length-x.1.1) ⟨(0,[]),Nat.zero_le _,fun s=>by simp,List.nodup_nil⟩ ?_ (fun x=> ?_)
  ·refine(Gh.oToOm (b:=mb) (c:=⟨[],[]⟩) (by simp[upd,St.with,Hp.new])).trans (ZqC rfl (Fc8 rfl rfl rfl rfl rfl rfl rfl rfl) (Fc3 ⟨rfl,rfl⟩ ⟨rfl,rfl⟩ ⟨rfl,rfl⟩) (fun i=> ?_) (fun i=> ?_) (fun y hy r hr=>(ZmV (Zyn _ _ _) y hy r hr).1) (fun y hy c hc r hr=>by rw[ZmU (x:= .mref mb) rfl y hy c hc]at hr;cases hr) (fun b' c' hbc p hp r hr=> ?_))
   ·by_cases e:i=59
    ·right;subst e;rfl
    ·left;show qV mine.length [] [] i=none;unfold qV;rw[if_neg e,if_neg (by rintro ⟨h1,h2⟩;rw[List.length_nil]at h2;omega)]
   ·by_cases e:mb=i
    ·right;subst e;show Ze6 mb _ mb=upd _ mb _ mb;rw[ZfW,Zb];rfl
    ·left;unfold Ze6;exact Zm _ _ e
   ·obtain⟨rfl,rfl⟩:=Zmu hbc;simp[vsV]at hp
  obtain⟨⟨k,ks⟩,hk,hks,hnd⟩:=x;simp only at hk hks hnd ⊢
  by_cases h:(k:Int)<(seen.length:Int)
  ·refine⟨_,Gh.refl _,?_⟩;have hka:k<seen.length:=by omega
   have i0:(0:Int)≤(k:Int):=by omega
   have w1:IntKind.i64.wrap ((k:Int)+1)=((k+1:Nat):Int):=by rw[w64 (by omega)];rfl
   have htk1:seen.take (k+1)=seen.take k++ [seen.getD k default]:=ZY (d:=default) hka;generalize hx:seen.getD k default=x at *;have hfp:=ZkW (spO x) ks;simp only[spO]at hfp;have hsx:Sized 15 [opv x]:=ZdO [x];have hax:Zcy [opv x]:=Zir [x];simp only[opv]at hsx hax;have q80:qV mine.length (seen.take k) ks 80=none:=by unfold qV;rw[if_neg (by omega),if_neg (by omega)]
   have q82:qV mine.length (seen.take k) ks 82=none:=by unfold qV;rw[if_neg (by omega),if_neg (by omega)]
   have hr1:=Za1 (show 1≤1000000 by omega) (show 176≤1000 by omega);cases hf:ks.findIdx? (fun y=>decide (spO x=y))with
   |none=>
    have hnk:spO x∉ks:=ZqE.1 hf;have h00:Zo (seen.take k) (spO x)= []:=ZlI fun hh=>hnk ((hks _).2 hh)
    have hnew:=Zy0 hnk h00 (.sl .nil []);simp only[spO]at hf;rw[hf]at hfp;simp only[go_sem,vst,vwL,vwH,h,i0,List.length_map,Zad,Zal hka,hx,opv,ZfW,hfp,q80,q82,hr1,w1];refine⟨by omega,by simp,⟨(k+1,ks++ [spO x]),hka,fun s=> ?_,?_⟩,by show seen.length-(k+1)<seen.length-k;omega,?_⟩
    ·rw[htk1,List.mem_append,hks s,List.mem_singleton];constructor
     ·rintro (⟨o,h1,h2⟩|rfl)
      ·exact⟨o,List.mem_append.2 (.inl h1),h2⟩
      ·exact⟨x,by simp,rfl⟩
     ·rintro ⟨o,h1,h2⟩
      rcases List.mem_append.1 h1 with h1|h1
      ·exact .inl ⟨o,h1,h2⟩
      ·rw[List.mem_singleton.1 h1]at h2;exact .inr h2.symm
    ·refine List.nodup_append.2 ⟨hnd,by simp,fun a ha c hc e=> ?_⟩;rw[List.mem_singleton.1 hc]at e;exact hnk (e▸ha)
    ·show Gh _ (vst 109 (vwL cart mine seen (k+1)) (vwH F (.mref mb)) (qV mine.length (seen.take (k+1)) (ks++ [spO x])) (Ze6 mb ⟨(ks++ [spO x]).map spv,vsV (seen.take (k+1)) (ks++ [spO x])⟩));have e:((vsV (seen.take k) ks++ [PV.sl .nil []]).set ks.length (.sl (.row 82) [opv x])).set ks.length (.sl (.row (1000+ks.length)) [opv x])=vsV (seen.take k++ [x]) (ks++ [spO x]):=by rw[List.set_set];exact hnew
     rw[htk1,←e,List.map_append];refine ZnG (kk:=82) (d:=1000+ks.length) (sz:=15) (k:=1) (e:=37) (c:=⟨ks.map spv++ [spv (spO x)],(vsV (seen.take k) ks++ [PV.sl .nil []]).set ks.length (.sl (.row 82) [opv x])⟩) (es:= [opv x]) rfl (Fc8 rfl rfl rfl rfl rfl rfl rfl rfl) (Fc3 ⟨rfl,rfl⟩ ⟨rfl,rfl⟩ ⟨rfl,rfl⟩) ?_ ?_ ?_ rfl (by omega) ?_ ?_ (fun i h1 h2=> ?_) (fun y hy r hr=> ?_) (fun y hy c hc r hr=>by rw[ZmU (x:= .mref mb) rfl y hy c hc]at hr;cases hr) (fun i h1 h2 r hr=> ?_)
     ·show upd _ mb _ mb=_;rw[Zb];rfl
     ·simp[Zdy]
     ·rw[getD_lt (by simp[Zdy])];simp
     ·have hl0:ks.length<(ks++ [spO x]).length:=by simp
      rw[Zoa _ _ hl0,getD_lt hl0,List.getElem_append_right (Nat.le_refl _)];simp only[Nat.sub_self,List.getElem_cons_zero];rw[Zb0,h00,if_pos rfl];rfl
     ·rw[ZxA hnk (by omega)];exact q82
     ·rw[ZxA hnk h1]
      by_cases e80:i=80
      ·left;rw[e80];exact q80
      ·right;show _=upd (upd (qV mine.length (seen.take k) ks) 80 _) 82 _ i;rw[Zm _ _ (fun e=>h2 e.symm),Zm _ _ (fun e=>e80 e.symm)]
     ·have:=ZmV (F:=F) (x:= .mref mb) (Zyn mine.length (seen.take k++ [x]) (ks++ [spO x])) y hy r hr;exact⟨this.1,this.2 _ (by omega)⟩
     ·have hi:i<ks.length:=by simp[Zdy]at h1;omega
      have hg:((vsV (seen.take k) ks++ [PV.sl .nil []]).set ks.length (.sl (.row 82) [opv x])).getD i .any=(vsV (seen.take k) ks).getD i .any:=by
       rw[getD_lt (by simp[Zdy];omega),getD_lt (by rw[Zdy];exact hi),List.getElem_set_ne (by omega),List.getElem_append_left (by rw[Zdy];exact hi)]
      rw[show(({ ks:=ks.map spv++ [spv (spO x)],vs:=(vsV (seen.take k) ks++ [PV.sl .nil []]).set ks.length (.sl (.row 82) [opv x]) }:MapC).vs.getD i .any)=(vsV (seen.take k) ks).getD i .any from hg]at hr;rw[Zve hi r hr];refine⟨?_,by simp;omega⟩;show qV _ _ _ (1000+i)≠none;rw[Zoa _ _ (by simp;omega)];simp
   |some j=>
    obtain⟨hj,hje⟩:=ZtR hf;have hvs:=ZxJ (seen.take k) hj;have hqj:=Zoa mine.length (seen.take k) hj;rw[hje]at hvs hqj;have hset:=Zy1 hnd hj hje (pre:=seen.take k);have htl:=Zhb (seen.take k) (spO x);have htk2:(seen.take k).length≤k:=List.length_take_le _ _;generalize hth:Zo (seen.take k) (spO x)=th at *;have hml2:(th.map opv).length=th.length:=List.length_map _;have hszt:=ZdO th;have hrm:=Za1 (show th.length+1≤1000000 by omega) (show 176≤1000 by omega);simp only[spO]at hf;rw[hf]at hfp;have n80:¬(80=1000+j):=by omega
    have n82:¬(82=1000+j):=by omega
    simp only[go_sem,vst,vwL,vwH,h,i0,List.length_map,Zad,Zal hka,hx,opv,ZfW,hfp,q80,q82,hr1,w1,n80,n82,hvs,hqj,hml2,hszt,hrm,hsx,hax];refine⟨by omega,hj,⟨(k+1,ks),hka,fun s=> ?_,hnd⟩,by show seen.length-(k+1)<seen.length-k;omega,?_⟩
    ·rw[htk1,hks s];constructor
     ·rintro ⟨o,h1,h2⟩;exact⟨o,List.mem_append.2 (.inl h1),h2⟩
     ·rintro ⟨o,h1,h2⟩
      rcases List.mem_append.1 h1 with h1|h1
      ·exact⟨o,h1,h2⟩
      ·rw[List.mem_singleton.1 h1]at h2;have:spO x∈ks:=by rw[←hje,getD_lt hj];exact List.getElem_mem hj
       obtain⟨o',h3,h4⟩:=(hks _).1 this;exact⟨o',h3,h4.trans h2⟩
    ·show Gh _ (vst 109 (vwL cart mine seen (k+1)) (vwH F (.mref mb)) (qV mine.length (seen.take (k+1)) ks) (Ze6 mb ⟨ks.map spv,vsV (seen.take (k+1)) ks⟩));rw[List.map_append]at hset;have e:((vsV (seen.take k) ks).set j (.sl (.row 82) (th.map opv++ [opv x]))).set j (.sl (.row (1000+j)) (th.map opv++ [opv x]))=vsV (seen.take k++ [x]) ks:=by rw[List.set_set];exact hset
     rw[htk1,←e];refine ZnG (kk:=82) (d:=1000+j) (sz:=15) (k:=th.length+1) (e:=37) (c:=⟨ks.map spv,(vsV (seen.take k) ks).set j (.sl (.row 82) (th.map opv++ [opv x]))⟩) (es:=th.map opv++ [opv x]) rfl (Fc8 rfl rfl rfl rfl rfl rfl rfl rfl) (Fc3 ⟨rfl,rfl⟩ ⟨rfl,rfl⟩ ⟨rfl,rfl⟩) ?_ ?_ ?_ rfl (by omega) ?_ ?_ (fun i h1 h2=> ?_) (fun y hy r hr=> ?_) (fun y hy c hc r hr=>by rw[ZmU (x:= .mref mb) rfl y hy c hc]at hr;cases hr) (fun i h1 h2 r hr=> ?_)
     ·show upd _ mb _ mb=_;rw[Zb];rfl
     ·show j<(List.set _ _ _).length;rw[List.length_set,Zdy];exact hj
     ·show(List.set _ _ _).getD j PV.any=_;rw[getD_lt (by rw[List.length_set,Zdy];exact hj)];simp
     ·rw[Zoa _ _ hj,hje,Zb0,hth,if_pos rfl,List.length_append];rfl
     ·rw[Zuq hnd hj hje (by omega)];exact q82
     ·rw[Zuq hnd hj hje h1]
      by_cases e80:i=80
      ·left;rw[e80];exact q80
      ·right;show _=upd (upd (upd (qV mine.length (seen.take k) ks) 80 _) (1000+j) _) 82 _ i;rw[Zm _ _ (fun e=>h2 e.symm),Zm _ _ (fun e=>h1 e.symm),Zm _ _ (fun e=>e80 e.symm)]
     ·have:=ZmV (F:=F) (x:= .mref mb) (Zyn mine.length (seen.take k++ [x]) ks) y hy r hr;exact⟨this.1,this.2 _ (by omega)⟩
     ·have hi:i<ks.length:=by simpa[Zdy]using h1
      have hr:r∈((List.set (vsV (seen.take k) ks) j (.sl (.row 82) (th.map opv++ [opv x]))).getD i .any).ids:=hr;rw[getD_lt (d:=PV.any) (by rw[List.length_set,Zdy];exact hi),List.getElem_set_ne (Ne.symm h2),←getD_lt (d:=PV.any) (by rw[Zdy];exact hi)]at hr;rw[Zve hi r hr];refine⟨?_,by simp;omega⟩;show qV _ _ _ (1000+i)≠none;rw[Zoa _ _ hi];simp
  ·have htk2:seen.take k=seen:=List.take_of_length_le (by omega);have hks2:=hks;rw[htk2]at hks2;have g:Gh (vst 109 (vwL cart mine seen k) (vwH F (.mref mb)) (qV mine.length seen ks) (Ze6 mb ⟨ks.map spv,vsV seen ks⟩)) (vst 109 (vwL cart mine seen k) (vwH F (.rmap (ks.map spv) (ks.map fun s=>Zad (Zo seen s)))) (q59 mine.length) (fun _=>none)):=by
    refine(Gh.omToO (b:=mb) (c:=⟨ks.map spv,vsV seen ks⟩) (ZfW _ _) (Zvd _ _)).trans ?_;rw[Zvf];refine(Gh.pubMap (b:=mb) (i:=15) (c:=⟨ks.map spv,ks.map fun s=>Zad (Zo seen s)⟩) (Zb _ _ _) rfl rfl).trans ?_;refine ZqC rfl (Fc8 rfl rfl rfl rfl rfl rfl rfl rfl) (Fc3 ⟨rfl,rfl⟩ ⟨rfl,rfl⟩ ⟨rfl,rfl⟩) (fun i=> ?_) (fun i=> .inl rfl) (fun y hy r hr=>(ZmV (q:=q59 mine.length) (by simp[q59,upd]) y hy r hr).1) (fun y hy c hc r hr=>by rw[ZmU (x:= .rmap (ks.map spv) (ks.map fun s=>Zad (Zo seen s))) rfl y hy c hc]at hr;cases hr) (fun b' c' hbc=>by cases hbc)
    by_cases e:59=i
    ·right;subst e;rfl
    ·left;exact Zm _ _ e
   refine⟨_,by rw[htk2];exact g,?_⟩;have hf0:=hfill 0 [] ks hks2;have hf1:=fun it=>hfill 1 it ks hks2
   generalize Za6 F seen 0 []=E0 at *;have hrl:(Za7 mine cart).length≤1000:=by
    unfold Za7;have h1:=ZeC (Zf5 (Zbj mine cart));have h2:=ZfV mine cart;have h3:(Zf5 (Zbj mine cart)).length=(Zbj mine cart).length:=by simp[Zf5]
    omega
   generalize Za7 mine cart=its at *;generalize hfm:(fun i=>Za6 F seen 1 i)=fm at *;have hf1:∀it,PL.Pure Tryz.prog 35 [.int .i64 1,.str it,.rptr [Zn F],.rptr [.rmap (ks.map spv) (ks.map fun s=>Zad (Zo seen s))]] (Zaj (fm it)):=fun it=>by rw[←hfm];exact hf1 it
   have hrw:(its.map fun i=>(⟨i,Za6 F seen 1 i⟩:Rw))=its.map fun i=>⟨i,fm i⟩:=by rw[←hfm]
   rw[hrw];obtain⟨rws,hrws⟩:∃rws:List Rw,rws=its.map fun i=>⟨i,fm i⟩:=⟨_,rfl⟩
   rw[←hrws];have hlr:its.length=rws.length:=by rw[hrws];simp
   have hgr:∀k,k<rws.length→rws.getD k default=⟨its.getD k [],fm (its.getD k [])⟩:=fun k hk=>by
    have hki:k<its.length:=by omega
    subst hrws;rw[getD_lt hk,getD_lt hki];simp
   clear hrw hfill hrws;have him:its.length≤maxLen:=by rw[Zd];omega
   simp only[go_sem,vst,vwL,vwH,h,q59];refine Za (hf0) ?_ ?_ ?_;iterate 2 simp only[go_sem,Zn]
   simp only[go_sem,Zaj];refine Za (hI) ?_ ?_ ?_;iterate 2 simp only[go_sem,Zad]
   simp only[go_sem,List.length_map];rw[hlr];refine ZI (ι:= { k:Nat // k≤rws.length }) 109 (fun x=> [(8,.ptr 8 0),(19,.fn 35 [.ptr 10 0,.ptr 15 0]),(20,.ptr 20 0),(91,.sl .no (its.map .str)),(92,.int .i64 (rws.length:Int)),(93,.int .i64 (x.1:Int))]) (fun x=> [(8,[.sl .nil [],.sl .nil []],false),(10,[.sl .no (F.map fld)],true),(15,[.rmap (ks.map spv) (ks.map fun s=>Zad (Zo seen s))],true),(20,[.sl .no (E0.map ent),Zk6 105 rws x.1],false)]) (fun x=>Zk7 105 x.1) (fun x=>rws.length-x.1) ⟨0,Nat.zero_le _⟩
    ⟨rfl,(Fc6 rfl rfl rfl rfl rfl rfl),Fc4 ⟨rfl,rfl⟩ ⟨rfl,rfl⟩ ⟨rfl,rfl⟩ ⟨rfl,rfl⟩,fnl⟩ (fun x=> ?_) (fun x=> ?_)
   ·obtain⟨k,hk⟩:=x;cases k with
    |zero=>exact⟨(Fc6 rfl rfl rfl rfl rfl rfl),(Fc4 rfl rfl rfl rfl)⟩
    |succ k=>exact⟨(Fc6 rfl rfl rfl rfl rfl rfl),Fc4 rfl rfl rfl (by simp[Zk6,Zk7,PV.ids,PV.idsL,ZV])⟩
   clear hk hks hks2 hnd g h htk2;obtain⟨k,hk⟩:=x;simp only
   by_cases h:(k:Int)<(rws.length:Int)
   ·have hka:k<rws.length:=by omega
    have hki:k<its.length:=by omega
    have w1:IntKind.i64.wrap ((k:Int)+1)=((k+1:Nat):Int):=by rw[w64 (by omega)];rfl
    have i1:(0:Int)≤(k:Int):=by omega
    have hli:(its.map PV.str).length=rws.length:=by rw[List.length_map,hlr]
    have hO:=hf1 (its.getD k []);have hsn:(rws.take (k+1)).map row=(rws.take k).map row++ [row (rws.getD k default)]:=by rw[ZY (d:=default) hka,List.map_append];rfl
    rw[hgr k hka]at hsn;have hsz:=Zer (rws.take k);have hr0:=Za1 (show 1≤1000000 by omega) (show 40≤1000 by omega);have hln:((rws.take k).map row).length=k:=by simp;omega
    have g0:=ZR hki;generalize its.getD k []=it at *;have hat:=Znh [⟨it,fm it⟩];have hst:=Zer [⟨it,fm it⟩];cases k with
    |zero=>
     have h':(0:Int)<(rws.length:Int):=by simpa using h
     simp only[go_sem,Zk6,Zk7,h',g0,i1,hli];refine Ze (by kernel_rfl) (by kernel_rfl) ?_;simp only[go_sem];refine Za (hO) ?_ ?_ ?_;iterate 2 simp only[go_sem,Zn]
     have w0:IntKind.i64.wrap 1=1:=w64 (by omega);simp only[go_sem,Zaj,w1,w0];refine⟨hr0,⟨⟨0+1,by omega⟩,by show rws.length-(0+1)<rws.length-0;omega,⟨rfl,(Fc6 rfl rfl rfl rfl rfl rfl),Fc4 ⟨rfl,rfl⟩ ⟨rfl,rfl⟩ ⟨rfl,rfl⟩ ⟨?_,rfl⟩,fcs rfl fnl⟩⟩⟩;show some [PV.sl .no _,PV.sl (.row 105) _]=some [PV.sl .no _,PV.sl (.row 105) _];rw[hsn];rfl
    |succ k=>
     have hl3:(rws.take (k+1)).length=k+1:=by rw[List.length_take];omega
     have hr:=Za1 (show k+1+1≤1000000 by omega) (show 40≤1000 by omega);simp only[go_sem,Zk6,Zk7,h,g0,i1,hli];refine Ze (by kernel_rfl) (by kernel_rfl) ?_;simp only[go_sem];refine Za (hO) ?_ ?_ ?_;iterate 2 simp only[go_sem,Zn]
     simp only[go_sem,Zaj,w1];refine⟨⟨hl3.symm,Zer _,by rw[hl3];exact hr⟩,⟨⟨k+1+1,by omega⟩,by show rws.length-(k+1+1)<rws.length-(k+1);omega,⟨rfl,(Fc6 rfl rfl rfl rfl rfl rfl),Fc4 ⟨rfl,rfl⟩ ⟨rfl,rfl⟩ ⟨rfl,rfl⟩ ⟨?_,rfl⟩,fcs ?_ fnl⟩⟩⟩
     ·show some [PV.sl .no _,PV.sl (.row 105) _]=some [PV.sl .no _,PV.sl (.row 105) _];rw[hsn];rfl
     ·show some _=some _;rw[hl3]
   ·obtain rfl:k=rws.length:=by omega
    cases rws with
    |nil=>
     have h':¬(0:Int)<0:=by omega
     simp only[go_sem,Zk6,Zk7,h',List.length_nil];rfl
    |cons r rs=>
     have ht:(r::rs).take (rs.length+1)=r::rs:=List.take_length (l:=r::rs);have h':¬((rs.length+1:Nat):Int)<((rs.length+1:Nat):Int):=by omega
     simp only[go_sem,Zk6,Zk7,h',List.length_cons,ht];rw[List.take_length];rfl
theorem Zl3:doc default= .agg [.sl .no [],.sl .no []]:=rfl
theorem ZiV (m:List Eg) (l:List Opn) (cart:Str) (b:Tg) (hm:OkM m) (hr:RightM m) (ho:∀o∈l,OkOp o) (hU:(l.map Opn.id).Nodup):
  PL.Pure Tryz.prog 13 [tr (Zf m),Zad l,.str cart,tg b] (ZoQ (ZdZ m l cart b)):=by
 unfold ZdZ
 by_cases h1:400<(l.length:Int)
 ·rw[if_pos h1];refine pov Tryz.func13 (by decide) rfl Tryz.ntmps13 Tryz.results13 (by simp) (ZgI _) ?_;simp only[go_sem,tr,Zad,tg,h1,List.length_map];simp only[ZoQ,Zl3]
 ·rw[if_neg h1];have hN:=Za5 cart;cases h2:Zap cart
  ·rw[h2]at hN;rw[if_pos rfl];refine pov Tryz.func13 (by decide) rfl Tryz.ntmps13 Tryz.results13 (by simp) (ZgI _) ?_;simp only[go_sem,tr,Zad,tg,h1,List.length_map];refine Za (hN) ?_ ?_ ?_;iterate 2 simp only[go_sem]
   simp only[go_sem];simp only[ZoQ,Zl3]
  ·rw[if_neg (by simp)]
   by_cases h3:(Zaz (Zf m) b).2=0
   ·rw[if_neg (by simpa using h3)];exact Zs8 m l cart b hm hr (by omega) ho hU h2 h3
   ·rw[if_pos h3];rw[h2]at hN;have hS:=Zbo m b hm;have e3:((Zaz (Zf m) b).2 !=0)=true:=by simpa using h3
    generalize Zaz (Zf m) b=X at *;obtain⟨F,xc⟩:=X;simp only at h3 e3 ⊢;refine pov Tryz.func13 (by decide) rfl Tryz.ntmps13 Tryz.results13 (by simp) (ZgI _) ?_;simp only[go_sem,tr,Zad,tg,h1,List.length_map];refine Za (hN) ?_ ?_ ?_;iterate 2 simp only[go_sem]
    simp only[go_sem];refine Za (hS) ?_ ?_ ?_;iterate 2 simp only[go_sem,tr,tg]
    simp only[go_sem,ZaB,Zn,e3];simp only[ZoQ,Zl3]
open Go.PL
def ZtV (r:Rf) (e:En):Bool:=decide (e.at'=r)
def ZeY (es:List En) (r:Rf):Option En:=es.find? (ZtV r)
def ZfP (x:Option En):PV:= .tup [ent (x.getD default),.bool x.isSome]
theorem ZtC (x:Option En):(ZfP x).dids= []:=by simp only[ZfP,PV.dids,PV.didsL,ZcY,List.append_nil]
theorem ZkS (es:List En) (r:Rf) (hl:es.length≤maxLen) (hl':∀e∈es,e.l.length≤1000000):PL.Pure Tryz.prog 127 [Zaj es,ref r] (ZfP (ZeY es r)):=by
 refine pov Tryz.func127 (by decide) rfl Tryz.ntmps127 Tryz.results127 (by simp) (ZtC _) ?_;simp only[go_sem,Zaj,ref];refine ZI (ι:= { x:Nat // x≤(es).length∧(∀j,j<x→ZtV r (es.getD j default)=false) }) 25 (fun x=> [(3,.ptr 3 0),(4,.ptr 4 0),(8,Zaj es),(9,.int .i64 (es.length:Int)),(10,.int .i64 (x.1:Int))]) (fun x=> [(3,[.int .i64 r.sc,.str r.gr,.str r.nm],false),(4,[.int .i64 0,.str [],.str [],.int .i64 0,.sl .nil []],false)]) (fun x=> []) (fun x=>(es).length-x.1) ⟨0,Nat.zero_le _,fun j hj=>absurd hj (Nat.not_lt_zero j)⟩ ⟨rfl,(Fc5 rfl rfl rfl rfl rfl),(Fc2 ⟨rfl,rfl⟩ ⟨rfl,rfl⟩),fnl⟩ (fun x=>⟨(Fc5 rfl rfl rfl rfl rfl),(Fc2 rfl rfl)⟩) (fun x=> ?_);obtain⟨k,hk,hI⟩:=x;simp only at hk hI ⊢
 by_cases h:(k:Int)<(es.length:Int)
 ·(have hka:k<(es).length:=by omega);(have w1:=Zcd hka (hl));(have i1:(0:Int)≤(k:Int):=by omega)
  have hel:=hl' _ (ZC (d:=default) hka);have hr:=Za1 hel (show 16≤1000 by omega);cases hq:ZtV r (es.getD k default)
  ·have hq':decide ((es.getD k default).at'=r)=false:=hq;simp only[go_sem,Zaj,h,Zfl hka,ent,i1,Zt,hq',w1];exact⟨⟨k+1,by(try simp only);omega,Zp (p:=fun j=>ZtV r (es.getD j default)=false) hI hq⟩,by show(es).length-(k+1)<(es).length-k;omega,⟨rfl,(Fc5 rfl rfl rfl rfl rfl),(Fc2 ⟨rfl,rfl⟩ ⟨rfl,rfl⟩),fnl⟩⟩
  ·have hq':decide ((es.getD k default).at'=r)=true:=hq;have hf:ZeY es r=some (es.getD k default):=Zc3 hka hI hq;simp only[go_sem,Zaj,h,Zfl hka,ent,i1,Zt,hq',ZaJ,ZiY,hr,hf,ZfP,Option.getD_some,Option.isSome_some]
 ·have hf:ZeY es r=none:=Zfg (d:=default) (fun j hj=>hI j (by omega));simp only[go_sem,h,hf,ZfP,Option.getD_none,Option.isSome_none];rfl
def Zin (u p f:Int):Int×Int:=if ZaU u=true∧ZaU p=true then(if(Zfo u p f).2=0 then((Zfo u p f).1,0)else(0,3))else(0,3)
theorem Zn5 (u p f:Int):PL.Pure Tryz.prog 166 [.int .i64 u,.int .i64 p,.int .i64 f] (Zr4 (Zin u p f)):=by
 have hO:=ZlQ u p;unfold Zin
 by_cases hf:ZaU u=true∧ZaU p=true
 ·rw[if_pos hf]at hO ⊢;have hJ:=Zky u p f (Zab.1 hf.1) (Zab.1 hf.2);generalize Zfo u p f=j at *;obtain⟨v,c⟩:=j
  by_cases hc:c=0
  ·have hc':(c !=0)=false:=by rw[hc];rfl
   subst hc;refine pov Tryz.func166 (by decide) rfl Tryz.ntmps166 Tryz.results166 (by simp) (rfl) ?_;simp only[go_sem];refine Za (hO) ?_ ?_ ?_;iterate 2 simp only[go_sem]
   simp only[go_sem];refine Za (hJ) ?_ ?_ ?_;iterate 2 simp only[go_sem]
   simp only[go_sem,Zr4,if_true]
  ·have hc':(c !=0)=true:=bne_iff_ne.2 hc;refine pov Tryz.func166 (by decide) rfl Tryz.ntmps166 Tryz.results166 (by simp) (rfl) ?_;simp only[go_sem];refine Za (hO) ?_ ?_ ?_;iterate 2 simp only[go_sem]
   simp only[go_sem];refine Za (hJ) ?_ ?_ ?_;iterate 2 simp only[go_sem]
   simp only[go_sem,Zr4,hc',if_neg hc]
 ·rw[if_neg hf]at hO ⊢;refine pov Tryz.func166 (by decide) rfl Tryz.ntmps166 Tryz.results166 (by simp) (rfl) ?_;simp only[go_sem];refine Za (hO) ?_ ?_ ?_;iterate 2 simp only[go_sem]
  simp only[go_sem,Zr4]
end Go.Proofs.YthingdchjkhfbaaGreat
