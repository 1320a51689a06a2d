/- Contracts of functions and laws of this seat, each for every input that it names: lemmas of the proof. -/
import Derived.Test.YthingdchjkhfbaaGreatXCh
import Derived.Test.YthingdchjkhfbaaGreatXCr
import Derived.Test.YthingdchjkhfbaaGreatPlJ
import Derived.Test.YthingdchjkhfbaaGreatXAa
import Derived.Shelf.Slices.CompactS
import Derived.Shelf.Sort.Plain
import Derived.Shelf.Slices.In.SortNone
namespace Go.Proofs.YthingdchjkhfbaaGreat
set_option maxHeartbeats 64000000
set_option maxRecDepth 20000
set_option linter.unusedVariables false
set_option linter.unusedSimpArgs false
open Go.PL Go.PL.Srt
def Zch (a b:Opn):Bool:=if a.time=b.time then ZdQ a.id b.id else decide (a.time<b.time)
theorem ZkB (a b:Opn):PL.Pure Tryz.prog 107 [opv a,opv b] (.bool (Zch a b)):=by
 have hT:=ZkG a.id b.id;unfold Zch
 by_cases h:a.time=b.time
 ·have e:(a.time !=b.time)=false:=by simpa using h
  rw[if_pos h];refine pov Tryz.func107 (by decide) rfl Tryz.ntmps107 Tryz.results107 (by simp) rfl ?_;simp only[go_sem,opv,e];refine Za (hT) ?_ ?_ ?_;iterate 2 simp only[go_sem,tg]
  simp only[go_sem]
 ·have e:(a.time !=b.time)=true:=by simpa using h
  rw[if_neg h];refine pov Tryz.func107 (by decide) rfl Tryz.ntmps107 Tryz.results107 (by simp) rfl ?_;simp only[go_sem,opv,e]
def Zwo (a b:Opn):Int:=if Zch a b=true then-1 else if Zch b a=true then 1 else 0
theorem ZoS (a b:Opn):PL.Pure Tryz.prog 65 [opv a,opv b] (.int .i64 (Zwo a b)):=by
 have h1:=ZkB a b;have h2:=ZkB b a;unfold Zwo;cases e1:Zch a b
 ·cases e2:Zch b a;all_goals
   rw[e1]at h1;rw[e2]at h2;refine pov Tryz.func65 (by decide) rfl Tryz.ntmps65 Tryz.results65 (by simp) rfl ?_;simp only[go_sem,opv];refine Za (h1) ?_ ?_ ?_;iterate 2 simp only[go_sem,opv]
   simp only[go_sem];refine Za (h2) ?_ ?_ ?_;iterate 2 simp only[go_sem,opv]
   simp only[go_sem]
 ·rw[e1]at h1;refine pov Tryz.func65 (by decide) rfl Tryz.ntmps65 Tryz.results65 (by simp) rfl ?_;simp only[go_sem,opv];refine Za (h1) ?_ ?_ ?_;iterate 2 simp only[go_sem,opv]
  simp only[go_sem]
theorem Zet (a b:Tg):ZdQ a b=true↔a.r<b.r∨(a.r=b.r∧a.n<b.n):=by
 unfold ZdQ;split
 ·rename_i h;rw[decide_eq_true_eq];exact⟨fun k=> .inr ⟨h,k⟩,fun k=>by rcases k with k|k;exact absurd h (by omega);exact k.2⟩
 ·rename_i h;rw[decide_eq_true_eq];exact⟨.inl,fun k=>by rcases k with k|k;exact k;exact absurd k.1 h⟩
theorem ZsF {a b:Tg} (h:ZdQ a b=true):ZdQ b a=false:=by
 rw[Bool.eq_false_iff,ne_eq,Zet];rw[Zet]at h;omega
theorem Zp4 {a b c:Tg} (h1:ZdQ a b=true) (h2:ZdQ b c=true):ZdQ a c=true:=by
 rw[Zet]at *;omega
theorem ZuU {a b:Tg} (h:a≠b):ZdQ a b=true∨ZdQ b a=true:=by
 rw[Zet,Zet]
 by_cases e:a.r=b.r
 ·have hn:a.n≠b.n:=fun en=>h (by cases a;cases b;simp only at e en;subst e en;rfl)
  omega
 ·omega
theorem Zsf:Srt.Good Zch where
 asym a b h:=by
  unfold Zch at *
  by_cases e:a.time=b.time
  ·rw[if_pos e]at h;rw[if_pos e.symm];exact ZsF h
  ·rw[if_neg e]at h;rw[if_neg (fun x=>e x.symm)];simp at h ⊢;omega
 trans a b c h1 h2:=by
  unfold Zch at *
  by_cases p:a.time=b.time
  ·rw[if_pos p]at h1
   by_cases q:b.time=c.time
   ·rw[if_pos q]at h2;rw[if_pos (p.trans q)];exact Zp4 h1 h2
   ·rw[if_neg q]at h2;rw[if_neg (fun x=>q (p.symm.trans x))];simp at h2 ⊢;omega
  ·rw[if_neg p]at h1
   by_cases q:b.time=c.time
   ·rw[if_pos q]at h2;rw[if_neg (fun x=>p (x.trans q.symm))];simp at h1 ⊢;omega
   ·rw[if_neg q]at h2;simp at h1 h2;rw[if_neg (by omega)];simp;omega
theorem Zuj {a b:Opn} (h:a.id≠b.id):Zch a b=true∨Zch b a=true:=by
 unfold Zch
 by_cases e:a.time=b.time
 ·rw[if_pos e,if_pos e.symm];exact ZuU h
 ·rw[if_neg e,if_neg (fun x=>e x.symm)];simp;omega
theorem ops_sort:SortK opv 65 Zch Zwo where
 len _:=rfl
 atom a:=rfl
 ids a:=by simp[opv,PV.ids,PV.idsL]
 known _:=rfl
 give a m:=by simp[opv,PV.give,PV.giveL]
 givable a m:=by simp[opv,PV.givable,PV.givableL]
 part a:=rfl
 cmp:=ZoS
 cv a b:=by
  unfold Zwo;cases h1:Zch a b
  ·cases h2:Zch b a<;>simp
  ·simp
 good:=Zsf
def Zad (l:List Opn):PV:= .sl .no (l.map opv)
theorem ZdO (l:List Opn):Sized 15 (l.map opv):=fun e he=>by
 obtain⟨o,_,rfl⟩:=List.mem_map.1 he;rfl
theorem Zir (l:List Opn):Zcy (l.map opv):=fun e he=>by
 obtain⟨o,_,rfl⟩:=List.mem_map.1 he;rfl
theorem ZvV (l:List Opn):PV.didsL (l.map opv)= []:=by
 induction l with
 |nil=>rfl
 |cons o l ih=>simp only[List.map_cons,PV.didsL,ZiC,ih,List.append_nil]
theorem Zum (l:List Opn):(Zad l).dids= []:=by simp only[Zad,PV.dids,ZvV]
theorem Zal {l:List Opn} {k:Nat} (h:k<l.length):(l.map opv).getD k .any=opv (l.getD k default):=Zb9 h
theorem ZhP (o:Opn):(opv o).ids= []:=ops_sort.ids o
def ZeI (l:List Opn) (most:Int):Bool:=decide (most<(l.length:Int))||l.any Zf8
theorem Zka (l:List Opn) (most:Int) (hl:l.length≤maxLen):PL.Pure Tryz.prog 10 [Zad l,.int .i64 most] (.bool (ZeI l most)):=by
 by_cases hm:most<(l.length:Int)
 ·refine pov Tryz.func10 (by decide) rfl Tryz.ntmps10 Tryz.results10 (by simp) rfl ?_;simp only[go_sem,Zad,hm,ZeI,Bool.true_or]
 ·have hz:ZeI l most=l.any Zf8:=by simp only[ZeI,hm,decide_false,Bool.false_or]
  rw[hz];refine pov Tryz.func10 (by decide) rfl Tryz.ntmps10 Tryz.results10 (by simp) rfl ?_;simp only[go_sem,Zad,hm];refine ZI (ι:= { x:Nat // x≤(l).length∧(∀j,j<x→Zf8 (l.getD j default)=false) }) 21 (fun x=> [(0,Zad l),(5,.int .i64 (x.1:Int))]) (fun x=> []) (fun x=> []) (fun x=>(l).length-x.1) ⟨0,Nat.zero_le _,fun j hj=>absurd hj (Nat.not_lt_zero j)⟩ ⟨rfl,(Fc2 rfl rfl),fnl,fnl⟩ (fun x=>⟨(Fc2 rfl rfl),fnl⟩) (fun x=> ?_);obtain⟨k,hk,hI⟩:=x;simp only at hk hI ⊢
  by_cases h:(k:Int)<(l.length:Int)
  ·(have hka:k<(l).length:=by omega);(have w1:=Zcd hka (hl));(have i1:(0:Int)≤(k:Int):=by omega)
   have hF:=Zm5 (l.getD k default);cases hf:Zf8 (l.getD k default)
   ·rw[hf]at hF;simp only[go_sem,Zad,h,Zal hka,opv,i1];refine Za (hF) ?_ ?_ ?_;iterate 2 simp only[go_sem,opv]
    simp only[go_sem,w1];exact⟨⟨k+1,by(try simp only);omega,Zp hI hf⟩,by show(l).length-(k+1)<(l).length-k;omega,⟨rfl,(Fc2 rfl rfl),fnl,fnl⟩⟩
   ·rw[hf]at hF;have hz:=ZeA (p:=Zf8) hka hf;simp only[go_sem,Zad,h,Zal hka,opv,i1];refine Za (hF) ?_ ?_ ?_;iterate 2 simp only[go_sem,opv]
    simp only[go_sem,hz]
  ·have hz:=Zd5 (p:=Zf8) (d:=default) (l:=l) (fun j hj=>hI j (by omega));simp only[go_sem,Zad,h,hz]
theorem ZBQ {l:List Opn} {most:Nat} (h:ZeI l (most:Int)=false):l.length≤most∧ ∀o∈l,OkOp o:=by
 simp only[ZeI,Bool.or_eq_false_iff,decide_eq_false_iff_not,List.any_eq_false]at h;refine⟨by omega,fun o ho=>⟨?_⟩⟩;have:=h.2 o ho;simp only[Zf8,Bool.not_eq_true,Bool.or_eq_false_iff,decide_eq_false_iff_not]at this;omega
def apartB (l:List Opn):Bool:=decide (l.map Opn.id).Nodup
theorem Zte {l:List Opn} (h:∀i,i<l.length→ ∀j,j<i→(l.getD i default).id≠(l.getD j default).id):apartB l=true:=by
 unfold apartB;rw[decide_eq_true_eq,List.nodup_iff_pairwise_ne,List.pairwise_iff_getElem];intro i j hi hj hij;simp only[List.length_map]at hi hj;have:=h j hj i hij;rw[getD_lt hi,getD_lt hj]at this;simp only[List.getElem_map];exact fun e=>this e.symm
theorem ZvG {l:List Opn} {i j:Nat} (hi:i<l.length) (hj:j<i) (h:(l.getD i default).id=(l.getD j default).id):apartB l=false:=by
 unfold apartB;rw[decide_eq_false_iff_not,List.nodup_iff_pairwise_ne,List.pairwise_iff_getElem];intro hn;have:=hn j i (by simp;omega) (by simpa using hi) hj;simp only[List.getElem_map]at this;rw[getD_lt hi,getD_lt (by omega)]at h;exact this h.symm
theorem ZoT (l:List Opn) (hl:l.length≤maxLen):PL.Pure Tryz.prog 11 [Zad l] (.bool (apartB l)):=by
 refine pov Tryz.func11 (by decide) rfl Tryz.ntmps11 Tryz.results11 (by simp) rfl ?_;simp only[go_sem,Zad];refine ZI (ι:= { x:Nat // x≤(l).length∧(∀i,i<x→ ∀j,j<i→(l.getD i default).id≠(l.getD j default).id) }) 27 (fun x=> [(0,Zad l),(3,.int .i64 (x.1:Int))]) (fun x=> []) (fun x=> []) (fun x=>(l).length-x.1) ⟨0,Nat.zero_le _,fun j hj=>absurd hj (Nat.not_lt_zero j)⟩ ⟨rfl,(Fc2 rfl rfl),fnl,fnl⟩ (fun x=>⟨(Fc2 rfl rfl),fnl⟩) (fun x=> ?_);obtain⟨k,hk,hI⟩:=x;simp only at hk hI ⊢
 by_cases h:(k:Int)<(l.length:Int)
 ·(have hka:k<(l).length:=by omega);(have w1:=Zcd hka (hl));(have i1:(0:Int)≤(k:Int):=by omega)
  simp only[go_sem,Zad,h];refine ZI (ι:= { x:Nat // x≤(l.take k).length∧(∀j,j<x→(l.getD k default).id≠(l.getD j default).id) }) 27 (fun x=> [(0,Zad l),(3,.int .i64 (k:Int)),(4,.int .i64 (x.1:Int))]) (fun x=> []) (fun x=> []) (fun x=>(l.take k).length-x.1) ⟨0,Nat.zero_le _,fun j hj=>absurd hj (Nat.not_lt_zero j)⟩ ⟨rfl,(Fc3 rfl rfl rfl),fnl,fnl⟩ (fun x=>⟨(Fc3 rfl rfl rfl),fnl⟩) (fun x=> ?_);obtain⟨kb,hkb,hIb⟩:=x;simp only at hkb hIb ⊢;have hlt:(l.take k).length=k:=by rw[List.length_take];omega
  rw[hlt]at hkb
  by_cases hb:(kb:Int)<(k:Int)
  ·have hkb2:kb<l.length:=by omega
   have w2:IntKind.i64.wrap ((kb:Int)+1)=((kb+1:Nat):Int):=by rw[w64 (by rw[Zd]at hl;omega)];rfl
   have b1:(0:Int)≤(kb:Int)∧(kb:Int)<(l.length:Int):=by omega
   by_cases he:(l.getD k default).id=(l.getD kb default).id
   ·have hz:=ZvG hka (show kb<k by omega) he;simp only[go_sem,Zad,hb];refine Ze (by kernel_rfl) (by kernel_rfl) ?_;simp only[go_sem,Zal hka,Zal hkb2,opv,i1,h,b1.1,b1.2,ZG,he,hz]
   ·simp only[go_sem,Zad,hb];refine Ze (by kernel_rfl) (by kernel_rfl) ?_;simp only[go_sem,Zal hka,Zal hkb2,opv,i1,h,b1.1,b1.2,ZG,he,w2];exact⟨⟨kb+1,by rw[hlt];omega,fun j hj=>by
     have hj:j<kb+1:=hj
     by_cases e:j=kb
     ·subst e;exact he
     ·exact hIb j (by omega)⟩,by show(l.take k).length-(kb+1)<(l.take k).length-kb;rw[hlt];omega,⟨rfl,(Fc3 rfl rfl rfl),fnl,fnl⟩⟩
  ·simp only[go_sem,Zad,hb,w1];exact⟨⟨k+1,by omega,fun i hi j hj=>by
    have hi:i<k+1:=hi
    by_cases e:i=k
    ·subst e;exact hIb j (by omega)
    ·exact hI i (by omega) j hj⟩,by show l.length-(k+1)<l.length-k;omega,⟨rfl,(Fc2 rfl rfl),fnl,fnl⟩⟩
 ·have hz:=Zte (l:=l) (fun i hi=>hI i (by omega));simp only[go_sem,Zad,h,hz]
open Go.PL Go.PL.Srt
def ZeP (m:List Eg) (l:List Opn):List Opn:=l.filter fun o=>Zfv m o
def Zdz (l:List Opn) (t:Tg):Bool:=l.any fun o=>decide (t∈o.drops)
def Zh5 (m:List Eg) (l:List Opn):List Opn:=(ZeP m l).filter fun o=> !Zdz (ZeP m l) o.id
def ZaV (m:List Eg) (l:List Opn):List Opn:=srt Zch (Zh5 m l)
theorem ZjM (m:List Eg) (l:List Opn):(ZeP m l).Sublist l:=List.filter_sublist
theorem ZfI (m:List Eg) (l:List Opn):(Zh5 m l).Sublist l:=List.filter_sublist.trans (ZjM m l)
theorem ZyC {l:List Opn} (h:(l.map Opn.id).Nodup):Unl Zch l:=by
 rw[List.nodup_iff_pairwise_ne,List.pairwise_map]at h;exact h.imp fun h=>Zuj h
theorem Zjv (m:List Eg) (l:List Opn):(ZaV m l).Perm (Zh5 m l):=Za2 _
theorem ZdH (m:List Eg) (l:List Opn):(ZaV m l).length≤l.length:=by rw[(Zjv m l).length_eq];exact(ZfI m l).length_le
theorem Zwf {m:List Eg} {l:List Opn} {o:Opn} (h:o∈ZaV m l):o∈l:=(ZfI m l).mem ((Zjv m l).mem_iff.1 h)
theorem Znv (t:Tg):∀(l:List Tg) (i:Nat),ZeG [.int,.int] [.int .i64 t.r,.int .i64 t.n] (l.map tg) i=some ((l.findIdx? fun x=>decide (t=x)).map (· + i))
 | [],i=>rfl
 |n::l,i=>by
  have ih:=Znv t l (i+1);simp only[List.map_cons,tg,ZeG,ZD,Zed,if_true,List.findIdx?_cons,Bool.and_true,ZG]
  by_cases h:t=n
  ·simp[h]
  ·simp only[h,decide_false,ih];simp only[Bool.false_eq_true,if_false,Option.map_map];congr 2;funext x;simp;omega
theorem ZfQ (t:Tg) (l:List Tg):ZeG [.int,.int] [.int .i64 t.r,.int .i64 t.n] (l.map tg) 0=some (l.findIdx? fun x=>decide (t=x)):=by
 rw[Znv];congr 1;cases List.findIdx? (fun x=>decide (t=x)) l<;>rfl
theorem Zmd {t:Tg} {l:List Tg}:(l.findIdx? fun x=>decide (t=x))=none↔t∉l:=by
 rw[List.findIdx?_eq_none_iff];constructor
 ·intro h hm;have:=h t hm;simp at this
 ·intro h x hx;simp only[decide_eq_false_iff_not];intro e;exact h (e▸hx)
theorem Zsl (m:List Eg) {l:List Opn} {k:Nat} (h:k<l.length):ZeP m (l.take (k+1))=ZeP m (l.take k)++(if Zfv m (l.getD k default)=true then [l.getD k default]else []):=by
 unfold ZeP;rw[ZY (d:=default) h,List.filter_append];congr 1;generalize l.getD k default=x;cases hr:Zfv m x
 ·rw[List.filter_cons_of_neg (by rw[hr];simp),if_neg (by simp)];rfl
 ·rw[List.filter_cons_of_pos (by exact hr),if_pos rfl];rfl
structure LivS (m:List Eg) (l:List Opn) where
 k:Nat
 ks:List Tg
 hk:k≤l.length
 h:∀t,t∈ks↔Zdz (ZeP m (l.take k)) t=true
def tgm (ks:List Tg):MapC:=⟨ks.map tg,ks.map fun _=> .agg []⟩
theorem ZrT (l:List Opn) (o:Opn) (t:Tg):Zdz (l++ [o]) t=true↔Zdz l t=true∨t∈o.drops:=by simp[Zdz]
theorem Zss {i:Nat} {l:List Tg}:(l.map fun _=>PV.agg []).set i (PV.agg [])=l.map fun _=>PV.agg []:=by
 apply List.ext_getElem
 ·simp
 ·intro j h1 h2;rw[List.getElem_set];split<;>simp
theorem Zli (m:List Eg) (l:List Opn) (hm:OkM m) (hl:l.length≤100000) (ho:∀o∈l,OkOp o) (hU:(l.map Opn.id).Nodup):
  Eff Tryz.prog 33 [tr (Zf m),Zad l] noV (.vsl 63 (ZaV m l).length 15) (ZsR 63 (ZaV m l).length 15 37 ((ZaV m l).map opv)):=by
 have hcl:∀l:List Opn,∀p∈l.map opv,p.ids= []:=fun l=>ZbM ZhP l
 refine Eff.vn [63] Tryz.func33 (by decide) rfl Tryz.ntmps33 Tryz.results33 (by simp) (hcl _) (by simp[PV.ids,tr,Zad]) (by simp[PV.ids]) ?_;have hlm:l.length≤maxLen:=by rw[Zd];omega
 simp only[go_sem,tr,Zad];intro b;refine Zbt 5 32 15 37 rfl rfl ?_;refine ZcM (ι:=LivS m l) 68 (fun x=> [(0,tr (Zf m)),(5,.sl (.row 32) ((ZeP m (l.take x.k)).map opv)),(6,.mref b),(19,Zad l),(20,.int .i64 (l.length:Int)),(21,.int .i64 (x.k:Int))]) (fun _=> []) (fun x=> [(32,.live (ZeP m (l.take x.k)).length 15 37)]) (fun x=> [(b,tgm x.ks)]) (fun _=> []) (fun _=> []) (fun _=> []) [] [] [63] (fun x=>l.length-x.k) ⟨0,[],Nat.zero_le _,fun t=>by simp[Zdz,ZeP]⟩
  (Zk8 rfl (Fc6 rfl rfl rfl rfl rfl rfl) rfl (by simp[upd,Hp.setq,St.with,tgm])) (fun x=>Zru (Fc6 rfl rfl rfl rfl rfl rfl)) (fun x=> ?_)
 obtain⟨k,ks,hk,h⟩:=x;simp only
 by_cases hlt:(k:Int)<(l.length:Int)
 ·have hka:k<l.length:=by omega
  have i0:(0:Int)≤(k:Int):=by omega
  have w1:IntKind.i64.wrap ((k:Int)+1)=((k+1:Nat):Int):=by rw[w64 (by omega)];rfl
  have hR:=Zo1 m (l.getD k default) hm (ho _ (ZC hka));have hsn:=Zsl m hka;have hrl:(ZeP m (l.take k)).length≤100000:=Nat.le_trans (Nat.le_trans (ZjM _ _).length_le (List.length_take_le _ _)) (by omega);cases hrd:Zfv m (l.getD k default)
  ·rw[hrd]at hR;rw[hrd]at hsn;simp only[Bool.false_eq_true,if_false,List.append_nil]at hsn;simp only[go_sem,Zad,hlt,List.length_map,Zal hka,opv,i0];refine Za (hR) ?_ ?_ ?_;iterate 2 simp only[go_sem,tr,opv]
   simp only[go_sem,w1];exact⟨⟨k+1,ks,by omega,fun t=>by rw[hsn];exact h t⟩,by show l.length-(k+1)<l.length-k;omega,Zk8 rfl (by simp only;rw[hsn];exact(Fc6 rfl rfl rfl rfl rfl rfl)) (by simp only;rw[hsn];rfl) (by simp[upd,Hp.setq,St.with,mkStX,ZaN])⟩
  ·rw[hrd]at hR;rw[hrd]at hsn;simp only[if_true]at hsn;have hrm:=Za1 (show(ZeP m (l.take k)).length+1≤1000000 by omega) (show 176≤1000 by omega);have hdl:=(ho (l.getD k default) (ZC hka)).d;generalize hx:l.getD k default=x at *;have hsz:=ZdO (ZeP m (l.take k));have hsx:Sized 15 [opv x]:=ZdO [x];have hax:Zcy [opv x]:=Zir [x];have hml:((ZeP m (l.take k)).map opv).length=(ZeP m (l.take k)).length:=List.length_map _;simp only[opv]at hsx hax;simp only[go_sem,Zad,hlt,List.length_map,Zal hka,hx,opv,i0];refine Za (hR) ?_ ?_ ?_;iterate 2 simp only[go_sem,tr,opv]
   simp only[go_sem,hml,hrm,hsz,hsx,hax];refine ZcM (ι:= { jk:Nat×List Tg // jk.1≤x.drops.length∧ ∀t,t∈jk.2↔(Zdz (ZeP m (l.take k)) t=true∨t∈x.drops.take jk.1) }) 68 (fun y=> [(0,tr (Zf m)),(5,.sl (.row 32) ((ZeP m (l.take k)++ [x]).map opv)),(6,.mref b),(19,Zad l),(20,.int .i64 (l.length:Int)),(21,.int .i64 (k:Int)),(34,tgs x.drops),(35,.int .i64 (x.drops.length:Int)),(36,.int .i64 (y.1.1:Int))]) (fun _=> []) (fun y=> [(32,.live ((ZeP m (l.take k)).length+1) 15 37)]) (fun y=> [(b,tgm y.1.2)]) (fun _=> []) (fun _=> []) (fun _=> []) [] [] [63] (fun y=>x.drops.length-y.1.1) ⟨(0,ks),Nat.zero_le _,fun t=>by rw[h t];simp⟩
    (Zk8 rfl (by rw[List.map_append];exact(Fc9 rfl rfl rfl rfl rfl rfl rfl rfl rfl)) rfl (by simp[upd,Hp.setq,St.with,mkStX,ZaN])) (fun y=>Zru (Fc9 rfl rfl rfl rfl rfl rfl rfl rfl rfl)) (fun y=> ?_)
   obtain⟨⟨j,ks'⟩,hj,h'⟩:=y;simp only at hj h' ⊢
   by_cases hjt:(j:Int)<(x.drops.length:Int)
   ·have hja:j<x.drops.length:=by omega
    have j0:(0:Int)≤(j:Int):=by omega
    have w2:IntKind.i64.wrap ((j:Int)+1)=((j+1:Nat):Int):=by rw[w64 (by omega)];rfl
    have hmem:∀t,t∈x.drops.take (j+1)↔t∈x.drops.take j∨t=x.drops.getD j default:=fun t=>by rw[ZY (d:=default) hja];simp
    generalize ht:x.drops.getD j default=t at *;cases hf:ks'.findIdx? (fun y=>decide (t=y))with
    |none=>
     simp only[go_sem,tgs,hjt,List.length_map,ZaL hja,ht,tg,j0,tgm,ZfQ,hf,w2];refine⟨⟨(j+1,ks'++ [t]),hja,fun u=> ?_⟩,by show x.drops.length-(j+1)<x.drops.length-j;omega,Zk8 rfl (Fc9 rfl rfl rfl rfl rfl rfl rfl rfl rfl) rfl (by simp[upd,Hp.setq,St.with,mkStX,ZaN,tgm,tg])⟩;rw[hmem,List.mem_append,h',List.mem_singleton,or_assoc]
    |some i=>
     simp only[go_sem,tgs,hjt,List.length_map,ZaL hja,ht,tg,j0,tgm,ZfQ,hf,w2];have hin:t∈ks':=Classical.not_not.1 fun hn=>by rw[Zmd.2 hn]at hf;cases hf
     refine⟨⟨(j+1,ks'),hja,fun u=> ?_⟩,by show x.drops.length-(j+1)<x.drops.length-j;omega,Zk8 rfl (Fc9 rfl rfl rfl rfl rfl rfl rfl rfl rfl) rfl (by simp[upd,Hp.setq,St.with,mkStX,ZaN,tgm,Zss])⟩;rw[hmem,←or_assoc,←h'];constructor
     ·exact .inl
     ·rintro (e|e)
      ·exact e
      ·rw[e];exact hin
   ·obtain rfl:j=x.drops.length:=by omega
    rw[List.take_length]at h';simp only[go_sem,hjt,w1];refine⟨⟨k+1,ks',by omega,fun t=>by rw[hsn,ZrT];exact h' t⟩,by show l.length-(k+1)<l.length-k;omega,Zk8 rfl (by simp only;rw[hsn];exact(Fc6 rfl rfl rfl rfl rfl rfl)) (by simp only;rw[hsn,List.length_append];rfl) (by simp[upd,Hp.setq,St.with,mkStX,ZaN])⟩
 ·obtain rfl:k=l.length:=by omega
  rw[List.take_length]at h;simp only[go_sem,hlt,List.take_length];generalize hrd:ZeP m l=rd at *;have hrl:rd.length≤100000:=by rw[←hrd];exact Nat.le_trans (ZjM _ _).length_le hl
  have hal:Zh5 m l=rd.filter fun o=> !Zdz rd o.id:=by unfold Zh5;rw[hrd]
  refine ZrN 11 63 15 37 rfl rfl ?_;refine ZcM (ι:= { k:Nat // k≤rd.length }) 68 (fun y=> [(6,.mref b),(11,.vsl 63 ((rd.take y.1).filter fun o=> !Zdz rd o.id).length 15),(45,.sl (.row 32) (rd.map opv)),(46,.int .i64 (rd.length:Int)),(47,.int .i64 (y.1:Int))]) (fun _=> []) (fun y=> [(63,.vec ((rd.take y.1).filter fun o=> !Zdz rd o.id).length 15 37),(32,.live rd.length 15 37)]) (fun y=> [(b,tgm ks)]) (fun _=> []) (fun y=> [(63,((rd.take y.1).filter fun o=> !Zdz rd o.id).map opv)]) (fun _=> []) [] [] [63] (fun y=>rd.length-y.1) ⟨0,Nat.zero_le _⟩
   (Zmc rfl (Fc5 rfl rfl rfl rfl rfl) rfl rfl rfl (by simp[upd,Hp.setq,St.with,mkStX,ZaN,tgm])) (fun y=>Zvj (by simp[PV.ids,PV.idsL,ZV]) (ZaC ZhP _)) (fun y=> ?_)
  obtain⟨k,hk⟩:=y;simp only
  by_cases hlt2:(k:Int)<(rd.length:Int)
  ·have hka:k<rd.length:=by omega
   have i0:(0:Int)≤(k:Int):=by omega
   have w1:IntKind.i64.wrap ((k:Int)+1)=((k+1:Nat):Int):=by rw[w64 (by omega)];rfl
   have hsn:(rd.take (k+1)).filter (fun o=> !Zdz rd o.id)=(rd.take k).filter (fun o=> !Zdz rd o.id)++(if Zdz rd (rd.getD k default).id=true then []else [rd.getD k default]):=by
    rw[ZY (d:=default) hka,List.filter_append];congr 1;generalize rd.getD k default=x;cases hr:Zdz rd x.id
    ·rw[List.filter_cons_of_pos (by rw[hr];rfl),if_neg (by simp)];rfl
    ·rw[List.filter_cons_of_neg (by rw[hr];simp),if_pos rfl];rfl
   have hfl:((rd.take k).filter fun o=> !Zdz rd o.id).length≤k:=Nat.le_trans (List.length_filter_le _ _) (List.length_take_le _ _);have hrm:=Za1 (show((rd.take k).filter fun o=> !Zdz rd o.id).length+1≤1000000 by omega) (show 176≤1000 by omega);generalize hx:rd.getD k default=x at *;generalize hal2:(rd.take k).filter (fun o=> !Zdz rd o.id)=al at *;have hml:(al.map opv).length=al.length:=List.length_map _;have hai:∀p∈al.map opv,p.ids= []:=hcl al;cases hf:ks.findIdx? (fun y=>decide (x.id=y))with
   |none=>
    have hd:Zdz rd x.id=false:=by
     rw[Bool.eq_false_iff];exact fun hh=>Zmd.1 hf ((h _).2 hh)
    rw[hd,if_neg (by simp)]at hsn;simp only[go_sem,Zad,hlt2,List.length_map,Zal hka,hx,opv,i0,tgm,tg,ZfQ,hf,w1,hml,hrm];refine⟨fun p hp=>by rw[List.mem_singleton.1 hp];exact⟨rfl,rfl⟩,fun p hp=>by rw[List.mem_singleton.1 hp];exact ZhP x,fun p hp=> ?_,⟨k+1,by omega⟩,by show rd.length-(k+1)<rd.length-k;omega,Zmc rfl ?_ ?_ rfl ?_ ?_⟩
    ·rcases List.mem_append.1 hp with hp|hp
     ·rw[hai p hp];simp
     ·rw[List.mem_singleton.1 hp];simp[PV.ids,PV.idsL]
    ·simp only;rw[hsn,List.length_append];exact(Fc5 rfl rfl rfl rfl rfl)
    ·simp only;rw[hsn,List.length_append];rfl
    ·simp only;rw[hsn,List.map_append];rfl
    ·simp[upd,Hp.setq,St.with,mkStX,ZaN,ZvH]
   |some i=>
    have hd:Zdz rd x.id=true:=(h _).1 (Classical.not_not.1 fun hn=>by rw[Zmd.2 hn]at hf;cases hf);rw[hd,if_pos rfl,List.append_nil]at hsn;have hik:i<ks.length:=(List.findIdx?_eq_some_iff_getElem.1 hf).1;have hgd:(ks.map fun _=>PV.agg []).getD i .any= .agg []:=by rw[getD_lt (by simpa using hik)];simp
    simp only[go_sem,Zad,hlt2,List.length_map,Zal hka,hx,opv,i0,tgm,tg,ZfQ,hf,w1,hgd];refine⟨⟨k+1,by omega⟩,by show rd.length-(k+1)<rd.length-k;omega,Zmc rfl ?_ ?_ rfl ?_ ?_⟩
    ·simp only;rw[hsn];exact(Fc5 rfl rfl rfl rfl rfl)
    ·simp only;rw[hsn];rfl
    ·simp only;rw[hsn];rfl
    ·simp[upd,Hp.setq,St.with,mkStX,ZaN]
  ·have htk:rd.take k=rd:=List.take_of_length_le (by omega);have hSS:=Zkb ops_sort 37 (Zh5 m l).length (by have:=(ZfI m l).length_le;omega) (Zh5 m l) (ZyC (List.Nodup.sublist ((ZfI m l).map _) hU)) rfl _ rfl;rw[hal]at hSS;simp only[go_sem,Zad,hlt2,htk];refine Za4 63 hSS (by simp[PV.ids,PV.idsL]) (hcl _) (hcl _) rfl rfl rfl ?_;simp only[go_sem];have hlv:ZaV m l=srt Zch (rd.filter fun o=> !Zdz rd o.id):=by unfold ZaV;rw[hal]
   have hll:(ZaV m l).length=(rd.filter fun o=> !Zdz rd o.id).length:=by rw[hlv,ZM]
   rw[hll,hlv];exact ZxX (r0:= .vsl 63 _ 15) (hcl _) rfl (.keep _ (by intro i hi;simp[PV.ids]at hi;subst hi;exact⟨_,List.mem_singleton.2 rfl,rfl⟩)) rfl rfl
open Go.Shelf
def ZpP:Go.Shelf.Ren:=⟨fun|190=>70|125=>113|258=>112|128=>160|129=>161|302=>151|303=>152|304=>153|305=>154|306=>155|307=>156|308=>157|309=>158|310=>159|333=>177|329=>178|330=>179|334=>180|335=>181|336=>182|344=>189|n=>n,fun|31=>61|9=>9|3=>3|46=>183|0=>0|51=>222|53=>224|4=>4|183=>214|182=>213|131=>219|5=>5|218=>234|222=>238|228=>247|229=>248|n=>n,fun|n=>n⟩
theorem ZuD:Go.Proofs.Lays.n190 Tryz.prog ZpP where
 mixed:=by kernel_rfl
 f125:=Tryz.func113.trans (congrArg some (by kernel_rfl))
 f128:=Tryz.func160.trans (congrArg some (by kernel_rfl))
 f129:=Tryz.func161.trans (congrArg some (by kernel_rfl))
 f190:=Tryz.func70.trans (congrArg some (by kernel_rfl))
 f258:=Tryz.func112.trans (congrArg some (by kernel_rfl))
 f302:=Tryz.func151.trans (congrArg some (by kernel_rfl))
 f303:=Tryz.func152.trans (congrArg some (by kernel_rfl))
 f304:=Tryz.func153.trans (congrArg some (by kernel_rfl))
 f305:=Tryz.func154.trans (congrArg some (by kernel_rfl))
 f306:=Tryz.func155.trans (congrArg some (by kernel_rfl))
 f307:=Tryz.func156.trans (congrArg some (by kernel_rfl))
 f308:=Tryz.func157.trans (congrArg some (by kernel_rfl))
 f309:=Tryz.func158.trans (congrArg some (by kernel_rfl))
 f310:=Tryz.func159.trans (congrArg some (by kernel_rfl))
 f329:=Tryz.func178.trans (congrArg some (by kernel_rfl))
 f330:=Tryz.func179.trans (congrArg some (by kernel_rfl))
 f333:=Tryz.func177.trans (congrArg some (by kernel_rfl))
 f334:=Tryz.func180.trans (congrArg some (by kernel_rfl))
 f335:=Tryz.func181.trans (congrArg some (by kernel_rfl))
 f336:=Tryz.func182.trans (congrArg some (by kernel_rfl))
 f344:=Tryz.func189.trans (congrArg some (by kernel_rfl))
 t0:=Tryz.underlying0
 a0:=Tryz.isAgg0
 z0:=Tryz.sizeOf0
 v0:=Tryz.zeroValue0
 t3:=Tryz.underlying3
 a3:=Tryz.isAgg3
 z3:=Tryz.sizeOf3
 v3:=Tryz.zeroValue3
 t4:=Tryz.underlying4
 a4:=Tryz.isAgg4
 z4:=Tryz.sizeOf4
 v4:=Tryz.zeroValue4
 t5:=Tryz.underlying5
 a5:=Tryz.isAgg5
 z5:=Tryz.sizeOf5
 v5:=Tryz.zeroValue5
 t9:=Tryz.underlying9
 a9:=Tryz.isAgg9
 z9:=Tryz.sizeOf9
 v9:=Tryz.zeroValue9
 t31:=Tryz.underlying61
 a31:=Tryz.isAgg61
 z31:=Tryz.sizeOf61
 v31:=Tryz.zeroValue61
 t46:=Tryz.underlying183
 a46:=Tryz.isAgg183
 z46:=Tryz.sizeOf183
 v46:=Tryz.zeroValue183
 t51:=Tryz.underlying222
 a51:=Tryz.isAgg222
 z51:=Tryz.sizeOf222
 v51:=Tryz.zeroValue222
 t53:=Tryz.underlying224
 a53:=Tryz.isAgg224
 z53:=Tryz.sizeOf224
 v53:=Tryz.zeroValue224
 t131:=Tryz.underlying219
 a131:=Tryz.isAgg219
 z131:=Tryz.sizeOf219
 v131:=Tryz.zeroValue219
 t182:=Tryz.underlying213
 a182:=Tryz.isAgg213
 z182:=Tryz.sizeOf213
 v182:=Tryz.zeroValue213
 t183:=Tryz.underlying214
 a183:=Tryz.isAgg214
 z183:=Tryz.sizeOf214
 v183:=Tryz.zeroValue214
 t218:=Tryz.underlying234
 a218:=Tryz.isAgg234
 z218:=Tryz.sizeOf234
 v218:=Tryz.zeroValue234
 t222:=Tryz.underlying238
 a222:=Tryz.isAgg238
 z222:=Tryz.sizeOf238
 v222:=Tryz.zeroValue238
 t228:=Tryz.underlying247
 a228:=Tryz.isAgg247
 z228:=Tryz.sizeOf247
 v228:=Tryz.zeroValue247
 t229:=Tryz.underlying248
 a229:=Tryz.isAgg248
 z229:=Tryz.sizeOf248
 v229:=Tryz.zeroValue248
def Zpc:Go.Shelf.Ren:=⟨fun|194=>71|n=>n,fun|31=>61|9=>9|3=>3|4=>4|0=>0|n=>n,fun|n=>n⟩
theorem Ztq:Go.Proofs.Lays.n194 Tryz.prog Zpc where
 mixed:=by kernel_rfl
 f194:=Tryz.func71.trans (congrArg some (by kernel_rfl))
 t0:=Tryz.underlying0
 a0:=Tryz.isAgg0
 z0:=Tryz.sizeOf0
 v0:=Tryz.zeroValue0
 t3:=Tryz.underlying3
 a3:=Tryz.isAgg3
 z3:=Tryz.sizeOf3
 v3:=Tryz.zeroValue3
 t4:=Tryz.underlying4
 a4:=Tryz.isAgg4
 z4:=Tryz.sizeOf4
 v4:=Tryz.zeroValue4
 t9:=Tryz.underlying9
 a9:=Tryz.isAgg9
 z9:=Tryz.sizeOf9
 v9:=Tryz.zeroValue9
 t31:=Tryz.underlying61
 a31:=Tryz.isAgg61
 z31:=Tryz.sizeOf61
 v31:=Tryz.zeroValue61
end Go.Proofs.YthingdchjkhfbaaGreat
