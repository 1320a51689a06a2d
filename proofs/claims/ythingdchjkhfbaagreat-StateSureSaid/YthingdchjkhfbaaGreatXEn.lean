/- Contracts of functions and laws of this seat, each for every input that it names: lemmas of the proof. -/
import Derived.Test.YthingdchjkhfbaaGreatXEh
import Derived.Test.YthingdchjkhfbaaGreatXDp
import Derived.Test.YthingdchjkhfbaaGreatPlJ
namespace Go.Proofs.YthingdchjkhfbaaGreat
set_option maxHeartbeats 64000000
set_option maxRecDepth 20000
set_option linter.unusedVariables false
set_option linter.unusedSimpArgs false
open Go.PL
theorem ZvR:∀(a b:Str),Z4 a b=true↔a<b
 | [],[]=>by simp[Z4,Op.bytesLess]
 | [],_::_=>by simp[Z4,Op.bytesLess]
 |_::_,[]=>by simp[Z4,Op.bytesLess]
 |x::a,y::b=>by
  have ih:=ZvR a b;unfold Z4 at *;rw[List.cons_lt_cons_iff,←ih];simp[Op.bytesLess]
theorem ZuC (xs:List Str):(Zf5 xs).Pairwise fun x y=>x≤y:=by
 have:=List.pairwise_mergeSort (le:=fun x y:Str=>decide (x≤y)) (fun a b c h1 h2=>by simp only[decide_eq_true_eq]at *;exact List.le_trans h1 h2) (fun a b=>by simp only[Bool.or_eq_true,decide_eq_true_eq];exact List.le_total a b) xs;exact this.imp fun h=>by simpa using h
theorem Zpe {xs:List Str} {s:Str} (h:s∈Lib.compact xs):s∈xs:=by
 unfold Lib.compact Lib.compactUpTo at h;obtain⟨j,h1,h2⟩:=List.mem_map.1 h;rw[List.mem_filter,List.mem_range]at h1;rw[←h2];have hj:j<xs.toArray.size:=by simpa using h1.1
 rw[getElem!_pos xs.toArray j hj];simp
theorem Zpd {xs:List Str} (h:xs.Pairwise fun x y=>x≤y):(Lib.compact xs).Pairwise fun x y=>Z4 x y=true:=by
 unfold Lib.compact Lib.compactUpTo;rw[List.pairwise_map];have hp:((List.range xs.length).filter (Lib.keeps xs.toArray)).Pairwise fun i j=>i<j:=List.Pairwise.sublist List.filter_sublist List.pairwise_lt_range
 refine List.Pairwise.imp_of_mem ?_ hp;intro i j hi hj hij;rw[List.mem_filter,List.mem_range]at hi hj;have hi1:=hi.1;have hj1:=hj.1;have hk:=hj.2;unfold Lib.keeps at hk;simp only[decide_eq_true_eq]at hk;rw[getElem!_pos xs.toArray i (by simpa using hi1),getElem!_pos xs.toArray j (by simpa using hj1)];rw[getElem!_pos xs.toArray j (by simpa using hj1),getElem!_pos xs.toArray (j-1) (by simp;omega)]at hk;simp only[List.getElem_toArray]at hk ⊢;rw[List.pairwise_iff_getElem]at h;have hne:xs[j]≠xs[j-1]:=by rcases hk with h|h;omega;exact h
 have h1:xs[j-1]≤xs[j]:=h (j-1) j (by omega) hj1 (by omega);have h2:xs[i]≤xs[j-1]:=by
  by_cases e:i=j-1
  ·subst e;exact List.le_refl _
  ·exact h i (j-1) hi1 (by omega) (by omega)
 rw[ZvR];have h3:xs[j-1]<xs[j]:=by
  rcases Ziu xs[j-1] xs[j]with h|h|h
  ·exact(ZvR _ _).1 h
  ·exact absurd h.symm hne
  ·exact absurd ((ZvR _ _).1 h) (List.not_lt.2 h1)
 exact List.lt_of_le_of_lt h2 h3
theorem ZtX (l:List Opn) (c:Str):(Za7 l c).Pairwise fun x y=>Z4 x y=true:=Zpd (ZuC _)
theorem ZtY {l:List Opn} {c i:Str} (h:i∈Za7 l c):∃o∈l,o.kind=1∧o.cart=c∧o.item=i:=by
 have h1:=Zpe h;unfold Zf5 at h1;rw[List.mem_mergeSort]at h1;unfold Zbj at h1;obtain⟨o,h2,h3⟩:=List.mem_map.1 h1;rw[List.mem_filter]at h2;simp only[Bool.and_eq_true,beq_iff_eq]at h2;exact⟨o,h2.1,h2.2.1,h2.2.2,h3⟩
theorem Zr5 (l:List Opn) (c:Str):Za7 (Z0 l c) c=Za7 l c:=by
 unfold Za7 Zbj Z0;rw[List.filter_filter];congr 4;funext o;cases o.cart==c<;>simp
def ZpO (m:List Eg) (b:Tg) (o:Opn):Option Opn:=if(ZB (Zen m o.sch b).1 o).2=true then some (Zlv (ZB (Zen m o.sch b).1 o).1 b)else none
theorem Zz4 {m:List Eg} {b:Tg} {o:Opn} (h:Zfv m o=true) (hb:upC m b=0):((toT m o b).c==0&&(toT m o b).ok)=(ZB (Zen m o.sch b).1 o).2∧((ZB (Zen m o.sch b).1 o).2=true→(toT m o b).o=Zlv (ZB (Zen m o.sch b).1 o).1 b):=by
 have h':=h;simp only[Zfv,Bool.and_eq_true,decide_eq_true_eq]at h';have hc:Zf7 m o b=0:=ZrQ.2 ⟨h'.1,h'.2.1,hb,h'.2.2⟩;have hp:Zbz m o.sch b=0:=Zbe.2 ⟨h'.2.1,hb⟩;unfold toT;rw[if_neg (by rw[hc];simp)];unfold ZxL;rw[if_neg (by rw[hp];simp)];cases ha:(ZB (Zen m o.sch b).1 o).2
 ·exact⟨by simp,fun h=>by cases h⟩
 ·exact⟨by simp,fun _=>by simp⟩
theorem Zg4 {m:List Eg} {b:Tg} (hb:upC m b=0):∀ {l:List Opn},(∀o∈l,Zfv m o=true)→ZaI m l b=l.filterMap (ZpO m b)
 | [],_=>rfl
 |o::l,h=>by
  have ih:=Zg4 hb (l:=l) fun x hx=>h x (by simp[hx])
  obtain⟨h1,h2⟩:=Zz4 (h o (by simp)) hb;unfold ZaI at ih ⊢;cases ha:(ZB (Zen m o.sch b).1 o).2
  ·rw[List.filter_cons_of_neg (p:=fun o=>(toT m o b).c==0&&(toT m o b).ok) (by rw[h1,ha];simp),List.filterMap_cons_none (by unfold ZpO;rw[ha];rfl)];exact ih
  ·rw[List.filter_cons_of_pos (p:=fun o=>(toT m o b).c==0&&(toT m o b).ok) (by rw[h1,ha]),List.filterMap_cons_some (b:=(toT m o b).o) (by unfold ZpO;rw[if_pos ha,h2 ha]),List.map_cons,ih]
theorem Zjw {m:List Eg} {l:List Opn} {o:Opn} (h:o∈ZaV m l):Zfv m o=true:=by
 have h1:=(Zjv m l).mem_iff.1 h;unfold Zh5 at h1;have h2:=(List.mem_filter.1 h1).1;exact(List.mem_filter.1 h2).2
theorem FitW.schd {l:List Fd} {o:Opn} (h:FitW l o) (t:Tg):FitW l (Zlv o t):=⟨h.f,h.z,fun k=>by obtain⟨w,hw⟩:=h.w k;exact⟨w,hw.sch t⟩⟩
theorem Zl9 {m:List Eg} (hr:RightM m) {o:Opn} (h:Zfv m o=true):upC m o.sch=0∧FitW (Zaz (Zf m) o.sch).1 o:=by
 simp only[Zfv,Bool.and_eq_true,decide_eq_true_eq]at h;exact⟨h.2.1,ZtG (Zep hr h.2.1) h.2.2⟩
theorem Zq8 {m:List Eg} (hm:OkM m) (hr:RightM m) {b:Tg} (hb:upC m b=0) {l:List Opn} (h:∀o∈l,Zfv m o=true):∀o∈l.filterMap (ZpO m b),FitW (Zaz (Zf m) b).1 o:=fun o ho=>by
 obtain⟨q,q1,q2⟩:=List.mem_filterMap.1 ho;obtain⟨u,hf⟩:=Zl9 hr (h q q1);unfold ZpO at q2;split at q2
 ·rename_i ha;simp only[Option.some.injEq]at q2;rw[←q2];exact(ZbD _ (Zq4 hm hr u hb) hf (Prod.ext rfl ha)).schd b
 ·cases q2
theorem ZhT {m:List Eg} (hm:OkM m) {a b:Tg} (hu:upC m a=0) (hv:upC m b=0):(Zen m a b).1=Zx5 (Zct m a) (Zct m b):=by
 unfold Zen;rw[if_neg (by rw[Zbe.2 ⟨hu,hv⟩];simp)];exact Zlh hm.a (Zar hu).1.mem (Zar hv).1.mem
theorem ZiK {m:List Eg} (hr:RightM m) {a:Tg} (hu:upC m a=0):∀e∈Zct m a,e.ln.kind≤8∧Zu e.ln=true:=fun e he=>
 ⟨Zja (hr.r e ((Zar hu).1.mem e he)),ZkQ (hr.r e ((Zar hu).1.mem e he))⟩
theorem ZmP {m:List Eg} (hr:RightM m) {a b:Tg} (hu:upC m a=0) (hv:upC m b=0):Two (Zaz (Zf m) a).1 (Zx5 (Zct m a) (Zct m b)) (Zaz (Zf m) b).1:=
 ZyA (fun e he=>(ZiK hr hu e he).1) (fun e he=>(ZiK hr hv e he).1) (Zar hu).2.1 (Zar hv).2.1
theorem ZqL {F G:Opn→Option Opn} {s:Sp} {h:Opn→Opn} (hs:∀o,spO (h o)=spO o):∀ {l:List Opn},(∀o∈l,∀c,F o=some c→spO c=s→G o=some (h c))→(∀o∈l,∀d,G o=some d→spO d=s→ ∃c,F o=some c∧h c=d)→
  (Zo (l.filterMap F) s).map h=Zo (l.filterMap G) s
 | [],_,_=>rfl
 |o::l,h1,h2=>by
  have ih:=ZqL hs (l:=l) (fun o ho=>h1 o (by simp[ho])) (fun o ho=>h2 o (by simp[ho]));have a1:=h1 o (by simp);have a2:=h2 o (by simp);unfold Zo at ih ⊢;cases hF:F o with
  |none=>
   rw[List.filterMap_cons_none hF];cases hG:G o with
   |none=>rw[List.filterMap_cons_none hG];exact ih
   |some d=>
    rw[List.filterMap_cons_some hG,List.filter_cons_of_neg]
    ·exact ih
    ·intro hd;obtain⟨c,c1,_⟩:=a2 d hG (by simpa using hd);rw[hF]at c1;cases c1
  |some c=>
   rw[List.filterMap_cons_some hF]
   by_cases hc:spO c=s
   ·rw[List.filter_cons_of_pos (by simpa using hc),List.filterMap_cons_some (a1 c hF hc),List.filter_cons_of_pos (by simpa[hs]using hc),List.map_cons,ih]
   ·rw[List.filter_cons_of_neg (by simpa using hc)];cases hG:G o with
    |none=>rw[List.filterMap_cons_none hG];exact ih
    |some d=>
     rw[List.filterMap_cons_some hG,List.filter_cons_of_neg]
     ·exact ih
     ·intro hd;obtain⟨c',c1,c2⟩:=a2 d hG (by simpa using hd);rw[hF]at c1;cases c1;exact hc (by rw[←hs,c2];simpa using hd)
theorem Zr8 {m:List Eg} (hm:OkM m) (hr:RightM m) {a b:Tg} (hu:upC m a=0) (hv:upC m b=0) {l:List Opn} (h:∀o∈l,Zfv m o=true) {it:Str} {r:Rf} (hrd:r≠default) (hs:Zf6 (Zen m a b).1.reverse r=true):
  (Zo (ZxB (Zen m a b).1 (l.filterMap (ZpO m a))) ⟨it,r⟩).map (fun c=>Zlv c b)=Zo (l.filterMap (ZpO m b)) ⟨it,r⟩:=by
 unfold ZxB;rw[List.filterMap_filterMap];refine ZqL (h:=fun c=>Zlv c b) (fun _=>rfl) ?_ ?_
 ·intro o ho c hc hsp;obtain⟨u,hf⟩:=Zl9 hr (h o ho);obtain⟨X,Y,Z,t1,t2,t3⟩:=ZxF (A:=Zct m o.sch) (B:=Zct m a) (C:=Zct m b) (fun e he=>(ZiK hr u e he).2);have r1:=ZhT hm u hu;have r2:=ZhT hm hu hv;have r3:=ZhT hm u hv;have w1:=ZmP hr u hu;have w3:=ZmP hr u hv;rw[t1]at r1 w1;rw[t2]at r2;rw[t3]at r3 w3;obtain⟨l1,x1,z1⟩:=w1.split;obtain⟨l1',x2,y1⟩:=w3.split;have:l1=l1':=by have:=x1.fold;rw[x2.fold]at this;cases this;rfl
  subst this;unfold ZpO at hc ⊢;rw[r1,r2]at hc;rw[r3];cases hz:(ZB (X++Z) o).2
  ·rw[hz]at hc;simp at hc
  rw[hz]at hc;simp only[if_true,Option.bind_some,ZiW]at hc;have hq:ZB (X++Z) o=((ZB (X++Z) o).1,true):=Prod.ext rfl hz;generalize (ZB (X++Z) o).1=q at *
  by_cases hb:(ZB (Ze5 Z++Y) q).2=false
  ·rw[if_pos hb]at hc;simp at hc
  rw[if_neg hb]at hc;simp only[if_true,Option.some.injEq]at hc;have hq2:ZB (Ze5 Z++Y) q=((ZB (Ze5 Z++Y) q).1,true):=Prod.ext rfl (by simpa using hb);generalize (ZB (Ze5 Z++Y) q).1=c0 at *;subst hc;have hat:c0.at'=r:=congrArg Sp.at' hsp;have:=Zwp x1 z1 y1 hf hq hq2 hat hrd (by rw[←r2];exact hs);rw[this];rfl
 ·intro o ho d hd hsp;obtain⟨u,hf⟩:=Zl9 hr (h o ho);obtain⟨X,Y,Z,t1,t2,t3⟩:=ZxF (A:=Zct m o.sch) (B:=Zct m a) (C:=Zct m b) (fun e he=>(ZiK hr u e he).2);have r1:=ZhT hm u hu;have r2:=ZhT hm hu hv;have r3:=ZhT hm u hv;have w1:=ZmP hr u hu;have w3:=ZmP hr u hv;rw[t1]at r1 w1;rw[t2]at r2;rw[t3]at r3 w3;obtain⟨l1,x1,z1⟩:=w1.split;obtain⟨l1',x2,y1⟩:=w3.split;have:l1=l1':=by have:=x1.fold;rw[x2.fold]at this;cases this;rfl
  subst this;unfold ZpO at hd ⊢;rw[r3]at hd;rw[r1,r2];split at hd
  ·rename_i hz;simp only[Option.some.injEq]at hd;have hq:ZB (X++Y) o=((ZB (X++Y) o).1,true):=Prod.ext rfl hz;generalize (ZB (X++Y) o).1=d0 at *;subst hd;have hat:d0.at'=r:=congrArg Sp.at' hsp;obtain⟨q,q1,q2⟩:=Zye x1 z1 y1 hf hq hat hrd (by rw[←r2];exact hs);refine⟨Zlv d0 a,?_,rfl⟩;rw[q1];simp only[if_true,Option.bind_some,ZiW];rw[q2];simp
  ·cases hd
theorem Zxd (g:Fd) (T:List Opn) (t:Tg):Zdx g (T.map fun c=>Zlv c t)=Zdx g T:=by
 unfold Zdx;rw[ZmO (g:=fun c=>Zlv c t) (fun o _=>⟨rfl,rfl⟩),ZhX (g:=fun c=>Zlv c t) (fun o _=>⟨rfl,rfl,rfl⟩)]
open Go.PL Go.PL.Srt
theorem ZtQ (l:List Str):PV.idsL (l.map .str)= []:=by
 induction l with
 |nil=>rfl
 |cons a l ih=>simp only[List.map_cons,PV.idsL,PV.ids,ih,List.append_nil]
theorem ZoY (m:List Eg) (l:List Opn) (cart:Str) (hm:OkM m) (hl:l.length≤100000) (ho:∀o∈l,OkOp o) (hU:(l.map Opn.id).Nodup):PL.Pure Tryz.prog 25 [tr (Zf m),Zad l,.str cart] (.sl .no ((Za7 (ZaV m l) cart).map .str)):=by
 have hcl:∀l:List Opn,∀p∈l.map opv,p.ids= []:=fun l=>ZbM ZhP l
 have hL:=Zli m l hm hl ho hU;have hll:=ZdH m l;have hI:=Zla (ZaV m l) cart (by omega);generalize ZaV m l=A at *;have hlen:(A.map opv).length=A.length:=List.length_map _;have hK:=Pure.vk (n:=A.length) (sz:=15) (e:=37) hI hlen (hcl A) (by simp[PV.ids]) (by simp[PV.givableL,PV.givable]) (by simp[PV.giveL,PV.give]);refine PL.Pure.of_p [] Tryz.func25 (by decide) rfl Tryz.ntmps25 Tryz.results25 (by simp) (by simp only[PV.dids,Zb5]) ?_;simp only[go_sem,tr,Zad];refine Zro 9 hL (hcl _) (by simp[PV.ids,tr,Zad]) rfl rfl ?_;simp only[go_sem,PV.ren,id];refine Zw9 9 hK (by simp[PV.ids]) (hcl A) rfl rfl rfl ?_;simp only[go_sem];exact⟨_,rfl,.clean (by simp only[PV.ids,ZtQ])⟩
theorem ZtA {es:List En} {r:Rf} {e:En} (h:ZeY es r=some e):∃i:Nat,i<es.length∧idx (atE r) es=(i:Int)∧es.getD i default=e:=by
 unfold ZeY at h;rw[List.find?_eq_some_iff_getElem]at h;obtain⟨h1,i,hi,h2,h3⟩:=h;refine⟨i,hi,ZcB (d:=default) hi (fun j hj=> ?_) ?_,by rw[getD_lt hi,h2]⟩
 ·rw[getD_lt (by omega)];have:=h3 j hj;simpa[ZtV,atE]using this
 ·rw[getD_lt hi,h2];simpa[ZtV,atE]using h1
theorem Znx {hd:List En} {rows:List Rw} {r:Rf} {e:En} (h:ZeY hd r=some e):Zl8 ⟨hd,rows⟩ [] r=(e,0):=by
 obtain⟨i,hi,h1,h2⟩:=ZtA h;unfold Zl8;rw[if_pos rfl];simp only[h1];rw[if_neg (by omega),Int.toNat_natCast,h2]
theorem Zny {hd:List En} {items:List Str} {E:Str→List En} {it:Str} {r:Rf} {e:En} (hit:it∈items) (hne:it≠ []) (h:ZeY (E it) r=some e):Zl8 ⟨hd,items.map fun i=>⟨i,E i⟩⟩ it r=(e,0):=by
 obtain⟨i,hi,h1,h2⟩:=ZtA h;have hrow:∃k:Nat,k<items.length∧idx (atR it) (items.map fun i=>(⟨i,E i⟩:Rw))=(k:Int)∧(items.map fun i=>(⟨i,E i⟩:Rw)).getD k default=⟨it,E it⟩:=by
  rcases ZcA (atR it) (items.map fun i=>(⟨i,E i⟩:Rw))with hk|⟨k,hk,hk2⟩
  ·exfalso;have:=Zpq (atR it) (items.map fun i=>(⟨i,E i⟩:Rw));rw[hk]at this;have ha:(items.map fun i=>(⟨i,E i⟩:Rw)).any (atR it)=true:=List.any_eq_true.2 ⟨⟨it,E it⟩,List.mem_map.2 ⟨it,hit,rfl⟩,by simp[atR]⟩;rw[ha]at this;simp at this
  ·rw[List.length_map]at hk;refine⟨k,hk,hk2,?_⟩;have hk3:=hk2;unfold idx at hk3;cases hf:List.findIdx? (atR it) (items.map fun i=>(⟨i,E i⟩:Rw))with
   |none=>rw[hf]at hk3;simp only at hk3;omega
   |some j=>
    rw[hf]at hk3;have:j=k:=by simp only at hk3;omega
    subst this;rw[List.findIdx?_eq_some_iff_getElem]at hf;obtain⟨q1,q2,_⟩:=hf;rw[getD_lt q1];simp only[List.getElem_map,atR,beq_iff_eq]at q2 ⊢;rw[q2]
 obtain⟨k,hk,k1,k2⟩:=hrow;unfold Zl8;rw[if_neg hne];simp only[k1,Int.toNat_natCast,k2,h1];rw[if_neg (by omega),if_neg (by omega),h2]
theorem Zwu {f:Fd} (h:ZO f=true):f.at'.sc=0∨f.at'.sc=1:=by
 simp only[ZO,Zci,Bool.and_eq_true,Bool.or_eq_true,decide_eq_true_eq]at h;exact h.1.1
theorem ZnJ {m:List Eg} {ops:List Opn} {cart it:Str} (h:it∈Za7 (ZaV m ops) cart):Zap it=true:=by
 obtain⟨o,h1,h2,_,h4⟩:=ZtY h;have hr:=Zjw h1;simp only[Zfv,Bool.and_eq_true]at hr;have hr:=hr.1;simp only[ZcV,Bool.and_eq_true,Bool.not_eq_true',Bool.and_eq_false_iff,Bool.not_eq_false']at hr;have:=hr.2.2.2.2.1;rcases this with h|h
 ·simp[Zx3,h2]at h
 ·rw[←h4];exact h
theorem Zyb {s:Str} (h:Zap s=true):s≠ []:=fun e=>by rw[e]at h;exact absurd h (by decide)
theorem Zh2 {m:List Eg} (hm:OkM m) (hr:RightM m) {a:Tg} (hu:upC m a=0) {ops:List Opn} {cart:Str} (hn:ops.length≤400):
  Zbk (Zaz (Zf m) a).1 ⟨Za6 (Zaz (Zf m) a).1 (ZaI m (Z0 (ZaV m ops) cart) a) 0 [],(Za7 (ZaV m ops) cart).map fun i=>⟨i,Za6 (Zaz (Zf m) a).1 (ZaI m (Z0 (ZaV m ops) cart) a) 1 i⟩⟩=true:=by
 have hl:=Zep hr hu;have hmine:∀o∈Z0 (ZaV m ops) cart,Zfv m o=true:=fun o ho=>Zjw (List.mem_filter.1 ho).1
 have hS:=Zq8 hm hr hu hmine;rw[←Zg4 hu hmine]at hS;have hsl:(ZaI m (Z0 (ZaV m ops) cart) a).length≤400:=by
  have h1:=ZfB m (Z0 (ZaV m ops) cart) a;have h2:(Z0 (ZaV m ops) cart).length≤(ZaV m ops).length:=List.length_filter_le _ _;have h3:=ZdH m ops;omega
 have hit:=Zjt (ZaV m ops) cart;have hli:=ZdH m ops;have hinc:=ZtX (ZaV m ops) cart;have hname:∀i∈Za7 (ZaV m ops) cart,Zap i=true:=fun i hi=>ZnJ hi
 generalize ZaI m (Z0 (ZaV m ops) cart) a=S at *;generalize Za7 (ZaV m ops) cart=I at *;generalize (Zaz (Zf m) a).1=F at *;unfold Zbk ZgO;simp only[hl,Bool.true_and,Bool.and_eq_true,List.length_map,ZhC hl hS hsl,Bool.and_true,Bool.not_eq_true',decide_eq_false_iff_not,List.all_eq_true,List.mem_range];refine⟨by omega,fun i hi=> ?_⟩;have hg:∀j,j<I.length→(I.map fun i=>(⟨i,Za6 F S 1 i⟩:Rw)).getD j default=⟨I.getD j [],Za6 F S 1 (I.getD j [])⟩:=fun j hj=>by
  rw[getD_lt (by simpa using hj),getD_lt hj,List.getElem_map]
 unfold ZeR;rw[hg i hi];simp only[ZhC hl hS hsl,Bool.and_true,Bool.and_eq_true,Bool.or_eq_true,decide_eq_true_eq];refine⟨hname _ (Zg hi),?_⟩
 by_cases h0:i=0
 ·exact .inl h0
 ·right;rw[hg (i-1) (by omega)];rw[List.pairwise_iff_getElem]at hinc;have:=hinc (i-1) i (by omega) hi (by omega);rw[getD_lt (by omega),getD_lt hi];exact this
theorem Zwq {l m:List Fd} {x:Ln} {d:Dc} (ha:Zq l x=(m,0)) (hd:Zbk l d=true) (h0:(ZaH x (Zr m 0) d.head).2=0) (h1:∀r∈d.rows,(ZaH x (Zr m 1) r.l).2=0):
  Zds l x d=(⟨(ZaH x (Zr m 0) d.head).1,d.rows.map (newRow x (Zr m 1))⟩,0):=by
 unfold Zds;rw[ha];simp only;rw[if_neg (by simp),if_neg (by rw[hd];simp),if_neg (by rw[h0];simp)];have:d.rows.find? (ZdA x (Zr m 1))=none:=by
  rw[List.find?_eq_none];intro r hr;unfold ZdA;rw[h1 r hr];simp
 rw[this]
theorem ZoB:∀(xs:List Ln) {l m:List Fd} {d:Dc},Zce xs l=some m→Zbk l d=true→(ZhR 0 xs l d.head).2=0→(∀r∈d.rows,(ZhR 1 xs l r.l).2=0)→toL xs l d=(⟨(ZhR 0 xs l d.head).1,d.rows.map fun r=>⟨r.item,(ZhR 1 xs l r.l).1⟩⟩,0)
 | [],l,m,d,_,_,_,_=>by
  simp[toL,ZhR]
 |x::xs,l,m,d,hf,hd,h0,h1=>by
  unfold Zce at hf;split at hf
  ·cases hf
  ·rename_i hnz;have ha:Zq l x=((Zq l x).1,0):=Prod.ext rfl (Classical.not_not.1 hnz);rw[Zc6]at h0;have z0:(ZaH x (Zr (Zq l x).1 0) d.head).2=0:=by
    refine Classical.byContradiction fun h=> ?_
    rw[if_pos h]at h0;exact h h0
   have z1:∀r∈d.rows,(ZaH x (Zr (Zq l x).1 1) r.l).2=0:=fun r hr=>by
    have:=h1 r hr;rw[Zc6]at this;refine Classical.byContradiction fun h=> ?_
    rw[if_pos h]at this;exact h this
   rw[if_neg (by rw[z0];simp)]at h0;have ho:=Zwq ha hd z0 z1;have hr:=Zlo (l:=l) (x:=x) (d:=d) (by rw[ho]);rw[ZmN,if_neg (by rw[ho];simp)];rw[ho]at hr ⊢;rw[ZoB xs hf hr h0 (fun r hr=>by
    obtain⟨r0,hr0,rfl⟩:=List.mem_map.1 hr;have:=h1 r0 hr0;rw[Zc6,if_neg (by rw[z1 r0 hr0];simp)]at this;exact this)]
   rw[Zc6,if_neg (by rw[z0];simp)];simp only[List.map_map];congr 2;apply List.map_congr_left;intro r hr;simp only[Function.comp_apply,newRow];rw[Zc6,if_neg (by rw[z1 r hr];simp)]
theorem ZzU:∀(xs:List Ln) {l:List Fd} {d:Dc},OkDc d→OkDc (toL xs l d).1
 | [],l,d,h=>h
 |x::xs,l,d,h=>by
  rw[ZmN];split
  ·exact(show OkDc default from⟨by decide,by decide,(fun e he=>by cases he),(fun r hr=>by cases hr)⟩)
  ·exact ZzU xs ZqS
theorem ZuS {m:List Eg} (hm:OkM m) (hr:RightM m) {a b:Tg} (hu:upC m a=0) (hv:upC m b=0) {ops:List Opn} {cart:Str} (hn:ops.length≤400):
  ∃(H:List En) (E:Str→List En),toM m a b ⟨Za6 (Zaz (Zf m) a).1 (ZaI m (Z0 (ZaV m ops) cart) a) 0 [],(Za7 (ZaV m ops) cart).map fun i=>⟨i,Za6 (Zaz (Zf m) a).1 (ZaI m (Z0 (ZaV m ops) cart) a) 1 i⟩⟩=(⟨H,(Za7 (ZaV m ops) cart).map fun i=>⟨i,E i⟩⟩,0)∧
   ∀g∈(Zaz (Zf m) b).1,ZpZ m a b g.at'=true→(g.at'.sc=0→ZeY H g.at'=some (Zdx g (Zo (ZaI m (Z0 (ZaV m ops) cart) b) ⟨[],g.at'⟩)))∧(g.at'.sc=1→ ∀i,ZeY (E i) g.at'=some (Zdx g (Zo (ZaI m (Z0 (ZaV m ops) cart) b) ⟨i,g.at'⟩))):=by
 have hmine:∀o∈Z0 (ZaV m ops) cart,Zfv m o=true:=fun o ho=>Zjw (List.mem_filter.1 ho).1
 have hV:=Zh2 hm hr hu hn (cart:=cart);have hl:=Zep hr hu;have hlb:=Zep hr hv;have hS:=Zq8 hm hr hu hmine;have hfold:=Zq4 hm hr hu hv;have hpc:Zbz m a b=0:=Zbe.2 ⟨hu,hv⟩;rw[Zg4 hu hmine]at hV ⊢;rw[Zg4 hv hmine];have hsl:((Z0 (ZaV m ops) cart).filterMap (ZpO m a)).length≤400:=by
  have h1:((Z0 (ZaV m ops) cart).filterMap (ZpO m a)).length≤(Z0 (ZaV m ops) cart).length:=List.length_filterMap_le _ _;have h2:(Z0 (ZaV m ops) cart).length≤(ZaV m ops).length:=List.length_filter_le _ _;have h3:=ZdH m ops;omega
 have nat:=fun sc it=>Zt6 sc it (Zen m a b).1 hfold (ZhC (sc:=sc) (it:=it) hl hS hsl) hS (by omega) (Zv1 hl)
 have sure:∀g∈(Zaz (Zf m) b).1,ZpZ m a b g.at'=true→ ∀sc it,g.at'.sc=sc→ZeY (ZhR sc (Zen m a b).1 (Zaz (Zf m) a).1 (Za6 (Zaz (Zf m) a).1 ((Z0 (ZaV m ops) cart).filterMap (ZpO m a)) sc it)).1 g.at'=some (Zdx g (Zo ((Z0 (ZaV m ops) cart).filterMap (ZpO m b)) ⟨it,g.at'⟩)):=fun g hg hsr sc it hsc=>by
  have hs:Zf6 (Zen m a b).1.reverse g.at'=true:=by
   unfold ZpZ at hsr;rw[if_neg (by rw[hpc];simp),Zou]at hsr;simpa using hsr
  have:=(nat sc it).2 g (Ziz hg hsc) (.inr (by rw[Zda];exact hs));rw[this,←Zr8 hm hr hu hv hmine (ZdJ ((ZP.1 hlb).2.2 g hg)) hs,Zxd]
 refine⟨(ZhR 0 (Zen m a b).1 (Zaz (Zf m) a).1 (Za6 (Zaz (Zf m) a).1 ((Z0 (ZaV m ops) cart).filterMap (ZpO m a)) 0 [])).1,fun i=>(ZhR 1 (Zen m a b).1 (Zaz (Zf m) a).1 (Za6 (Zaz (Zf m) a).1 ((Z0 (ZaV m ops) cart).filterMap (ZpO m a)) 1 i)).1,?_,fun g hg hs=>⟨fun h0=>sure g hg hs 0 [] h0,fun h1 i=>sure g hg hs 1 i h1⟩⟩;unfold toM;rw[if_neg (by rw[hpc];simp),if_neg (by rw[hV];simp),ZoB _ hfold hV (nat 0 []).1 (fun r hr=>by
  obtain⟨i,_,rfl⟩:=List.mem_map.1 hr;exact(nat 1 i).1)]
 simp only[List.map_map];rfl
theorem Zrt {m:List Eg} {l:List Opn} {cart:Str} {b:Tg} (h:(ZdZ m l cart b).2≠0):(ZdZ m l cart b).1=default:=by
 unfold ZdZ at h ⊢;split
 ·rfl
 ·rename_i h1;rw[if_neg h1]at h;split
  ·rfl
  ·rename_i h2;rw[if_neg h2]at h;split
   ·rfl
   ·rename_i h3;rw[if_neg h3]at h;exact absurd rfl h
theorem ZoO {m:List Eg} {l:List Opn} {cart:Str} {b:Tg} (h:(ZdZ m l cart b).2=0):upC m b=0∧ZdZ m l cart b=(⟨Za6 (Zaz (Zf m) b).1 (ZaI m (Z0 (ZaV m l) cart) b) 0 [],(Za7 (ZaV m l) cart).map fun i=>⟨i,Za6 (Zaz (Zf m) b).1 (ZaI m (Z0 (ZaV m l) cart) b) 1 i⟩⟩,0):=by
 unfold ZdZ at h ⊢;split at h
 ·simp at h
 ·rename_i h1;split at h
  ·simp at h
  ·rename_i h2;split at h
   ·rename_i h3;exact absurd h h3
   ·rename_i h3;rw[if_neg h1,if_neg h2,if_neg h3,Zr5];exact⟨Classical.not_not.1 h3,rfl⟩
end Go.Proofs.YthingdchjkhfbaaGreat
