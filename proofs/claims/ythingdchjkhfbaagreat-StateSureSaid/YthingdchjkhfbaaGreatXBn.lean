/- Contracts of functions and laws of this seat, each for every input that it names: lemmas of the proof. -/
import Derived.Test.YthingdchjkhfbaaGreatXBj
namespace Go.Proofs.YthingdchjkhfbaaGreat
set_option maxHeartbeats 64000000
set_option maxRecDepth 20000
set_option linter.unusedVariables false
set_option linter.unusedSimpArgs false
open Go.PL
def Zmx (m:List Eg) (e:Eg):List Eg×Int:=
 if Zge e=false then(m,5)else match Zbv m e.id with
  |some x=>if x=e then(m,7)else(m,15)
  |none=>if 40≤m.length then(m,9)else(m++ [e],0)
structure OkM (m:List Eg):Prop where
 a:Apart m
 l:∀e∈m,OkLn e.ln
 n:m.length≤40
theorem Zmt:OkM []:=⟨⟨by simp,fun e h=>(by cases h)⟩,fun e h=>(by cases h),by simp⟩
theorem Zwl {m:List Eg} (h:OkM m) {e:Eg} (he:OkLn e.ln):OkM (Zmx m e).1:=by
 unfold Zmx;split
 ·exact h
 ·rename_i hb;split
  ·split<;>exact h
  ·rename_i hf;split
   ·exact h
   ·rename_i hn;refine⟨⟨?_,fun x hx=> ?_⟩,fun x hx=> ?_,by simp;omega⟩
    ·rw[List.map_append,List.nodup_append];refine⟨h.a.d,by simp,fun a ha b hb'=> ?_⟩;simp only[List.map_cons,List.map_nil,List.mem_singleton]at hb';subst hb';obtain⟨x,hx,rfl⟩:=List.mem_map.1 ha;unfold Zbv at hf;rw[List.find?_eq_none]at hf;have:=hf x hx;simp only[decide_eq_true_eq]at this;exact fun e1=>this e1.symm
    ·rcases List.mem_append.1 hx with hx|hx
     ·exact h.a.n x hx
     ·rw[List.mem_singleton.1 hx];have hb:Zge e=true:=by simpa using hb
      simp only[Zge,Bool.and_eq_true]at hb;exact Zii hb.1
    ·rcases List.mem_append.1 hx with hx|hx
     ·exact h.l x hx
     ·rw[List.mem_singleton.1 hx];exact he
theorem Znt {m:List Eg} {e x:Eg} {id:Tg} (h:Zbv m id=some x):Zbv (m++ [e]) id=some x:=by
 unfold Zbv at *;rw[List.find?_append,h];rfl
theorem Way.append {m:List Eg} {e:Eg} {id:Tg} {w:List Eg} (h:Way m id w):Way (m++ [e]) id w:=by
 induction h with
 |root=>exact .root
 |step hn he hw ih=>exact .step hn (Znt he) ih
theorem ZwI {m:List Eg} (e:Eg):ZoZ (m++ [e]) (Zf m++ [ZqY e]):=by
 refine⟨by simp[Zf],fun i hi=> ?_⟩
 by_cases hl:i<m.length
 ·rw[Zi (by simpa[Zf]using hl),Zi hl];have e1:(Zf m).getD i default=Zam m (m.getD i default):=by
   rw[getD_lt (by simpa[Zf]using hl),getD_lt hl];simp[Zf]
  rw[e1];cases hw:ZsT m (m.getD i default).id with
  |none=>exact .inl (Zgm hw)
  |some w=>
   right;have:ZsT (m++ [e]) (m.getD i default).id=some w:=Zcx.2 (Zcx.1 hw).append;refine⟨by simp only[Zam,hw,this],fun hh=> ?_⟩;rw[Zeg.1 hh]at hw;cases hw
 ·left;have hi':i=m.length:=by simp at hi;omega
  subst hi';rw[Zk (by simp[Zf]),Zk (Nat.le_refl _)];simp[Zf]
theorem ZuX (m:List Eg):ZoZ m (Zf m):=by
 refine⟨by simp[Zf],fun i hi=> ?_⟩;have e1:(Zf m).getD i default=Zam m (m.getD i default):=by
  rw[getD_lt (by simpa[Zf]using hi),getD_lt hi];simp[Zf]
 rw[e1];cases hw:ZsT m (m.getD i default).id with
 |none=>exact .inl (Zgm hw)
 |some w=>exact .inr ⟨rfl,fun hh=>by rw[Zeg.1 hh]at hw;cases hw⟩
theorem Zfh (m:List Eg) (id:Tg):ZhE (Zf m) id=(Zbv m id).map (Zam m):=by
 unfold ZhE Zbv Zf;rw[List.find?_map];congr 1;congr 1;funext x;simp[ZdI]
theorem ZqF (m:List Eg) (id:Tg):((Zf m).findIdx? fun n=>decide (id=n.e.id))=m.findIdx? fun e=>decide (id=e.id):=by
 unfold Zf;rw[List.findIdx?_map];congr 1;funext x;simp[ZdI]
theorem Zw1 (m:List Eg):(Zf m).length=m.length:=by simp[Zf]
theorem Zx8 (m:List Eg) (e:Eg):mc (Zf m++ [ZqY e])=⟨kts (Zf m)++ [tg e.id],nds (Zf m)++ [nd (ZqY e)]⟩:=by simp[mc,kts,nds,ZqY]
theorem ZzX (m:List Eg) (e:Eg) (hm:OkM m) (he:OkLn e.ln):PL.Wr Tryz.prog 31 (fun b=> [.rptr [.mref b],eg e]) (mc (Zf m)) (.int .i64 (Zmx m e).2) (mc (Zf (Zmx m e).1)):=by
 have hE:=ZsC e he;have hok:=Zwl hm he;unfold Zmx at hok ⊢;cases hb:Zge e
 ·rw[hb]at hE;refine PL.Wr.of_v Tryz.func31 (by decide) rfl Tryz.ntmps31 Tryz.results31 (by simp) rfl (fun b=> ?_);simp only[go_sem,eg];refine Za (hE) ?_ ?_ ?_;iterate 2 simp only[go_sem,eg]
  simp only[go_sem,if_true]
 ·rw[hb]at hE;simp only[hb,Bool.true_eq_false,if_false]at hok ⊢;have hidx:=ZqF m e.id;cases hf:m.findIdx? (fun x=>decide (e.id=x.id))with
  |some i=>
   rw[hf]at hidx;obtain⟨h1,h2⟩:=Zff hidx;rw[Zfh]at h2;cases hfe:Zbv m e.id with
   |none=>rw[hfe]at h2;cases h2
   |some x=>
    rw[hfe]at h2;simp only[Option.map_some,Option.some.injEq]at h2;have hxm:=(Zb7 hfe).2;have hS:=ZsH x e (hm.l x hxm) he;have hgx:((Zf m).getD i default).e=x:=by rw[←h2,ZdI]
    have hval:(nds (Zf m)).getD i .any=nd (Zam m x):=by rw[Zjo h1,h2]
    have hne:=ZdI m x;simp only;cases hd:decide (x=e)
    ·rw[hd]at hS;have hx:¬x=e:=by simpa using hd
     simp only[hx,if_false];refine PL.Wr.of_v Tryz.func31 (by decide) rfl Tryz.ntmps31 Tryz.results31 (by simp) rfl (fun b=> ?_);simp only[go_sem,eg];refine Za (hE) ?_ ?_ ?_;iterate 2 simp only[go_sem,eg]
     simp only[go_sem];refine Ze (by kernel_rfl) (by kernel_rfl) ?_;simp only[go_sem,mc,Zat,hidx,hval,nd,hne];refine Za (hS) ?_ ?_ ?_;iterate 2 simp only[go_sem,eg]
     simp only[go_sem,mc]
    ·rw[hd]at hS;have hx:x=e:=by simpa using hd
     simp only[hx,if_true];refine PL.Wr.of_v Tryz.func31 (by decide) rfl Tryz.ntmps31 Tryz.results31 (by simp) rfl (fun b=> ?_);simp only[go_sem,eg];refine Za (hE) ?_ ?_ ?_;iterate 2 simp only[go_sem,eg]
     simp only[go_sem];refine Ze (by kernel_rfl) (by kernel_rfl) ?_;simp only[go_sem,mc,Zat,hidx,hval,nd,hne];refine Za (hS) ?_ ?_ ?_;iterate 2 simp only[go_sem,eg]
     simp only[go_sem,mc]
  |none=>
   rw[hf]at hidx;have h2:=Zfe.1 hidx;rw[Zfh]at h2;have hfe:Zbv m e.id=none:=by
    cases hx:Zbv m e.id with
    |none=>rfl
    |some x=>rw[hx]at h2;cases h2
   rw[hfe]at hok ⊢;simp only at hok ⊢;have hkl:(kts (Zf m)).length=m.length:=by rw[Zju,Zw1]
   by_cases hn:40≤m.length
   ·have hn':(40:Int)≤(m.length:Int):=by omega
    simp only[hn,if_true];refine PL.Wr.of_v Tryz.func31 (by decide) rfl Tryz.ntmps31 Tryz.results31 (by simp) rfl (fun b=> ?_);simp only[go_sem,eg];refine Za (hE) ?_ ?_ ?_;iterate 2 simp only[go_sem,eg]
    simp only[go_sem];refine Ze (by kernel_rfl) (by kernel_rfl) ?_;simp only[go_sem,mc,Zat,hidx,hkl,hn']
   ·have hn':¬(40:Int)≤(m.length:Int):=by omega
    simp only[hn,if_false]at hok ⊢;have hO:=ZoC e he;have hW:=ZuA (m++ [e]) (Zf m++ [ZqY e]) hok.a (ZwI e) hok.l (by have:=hok.n;omega);refine PL.Wr.of_v Tryz.func31 (by decide) rfl Tryz.ntmps31 Tryz.results31 (by simp) rfl (fun b=> ?_);simp only[go_sem,eg];refine Za (hE) ?_ ?_ ?_;iterate 2 simp only[go_sem,eg]
    simp only[go_sem];refine Ze (by kernel_rfl) (by kernel_rfl) ?_;simp only[go_sem,mc,Zat,hidx,hkl,hn'];refine Ze (by kernel_rfl) (by kernel_rfl) ?_;simp only[go_sem];refine Za (hO) ?_ ?_ ?_;iterate 2 simp only[go_sem,eg]
    simp only[go_sem,eg,mc,Zat,hidx];refine Zrp b hW ?_ ?_ ?_ ?_
    ·simp only[go_sem]
    ·simp only[go_sem]
    ·rw[Zx8];simp[upd,tg,nd,ZqY]
    ·simp only[go_sem,mc]
def ZvY (x:List Eg×Int):PV:= .tup [egs x.1,.int .i64 x.2]
theorem Zqy (l:List Eg):(egs l).dids= []:=by
 unfold egs;simp only[PV.dids]
 induction l with
 |nil=>rfl
 |cons e l ih=>simp only[List.map_cons,PV.didsL,ih,Zpf,List.append_nil]
theorem Zfc (x:List Eg×Int):(ZvY x).dids= []:=by simp only[ZvY,PV.dids,PV.didsL,Zqy,List.append_nil]
theorem ZwK (l:List Eg):Sized 20 (l.map eg):=fun e he=>by
 obtain⟨x,_,rfl⟩:=List.mem_map.1 he;rfl
theorem ZvK (l:List Eg):Zcy (l.map eg):=fun e he=>by
 obtain⟨x,_,rfl⟩:=List.mem_map.1 he;rfl
theorem Zv5 {m:List Eg} {id:Tg}:(idx (fun x=>decide (x.id=id)) m= -1∧Zbv m id=none)∨ ∃i:Nat,i<m.length∧idx (fun x=>decide (x.id=id)) m=(i:Int)∧Zbv m id=some (m.getD i default):=by
 have e:(fun x:Eg=>decide (x.id=id))=fun x=>decide (id=x.id):=by funext x;simp[eq_comm]
 unfold idx;rw[e];cases hf:m.findIdx? (fun x=>decide (id=x.id))with
 |none=>
  left;refine⟨rfl,?_⟩;rw[List.findIdx?_eq_none_iff]at hf;unfold Zbv;rw[List.find?_eq_none];intro x hx hh;rw[hf x hx]at hh;cases hh
 |some i=>
  right;rw[List.findIdx?_eq_some_iff_getElem]at hf;obtain⟨h1,h2,h3⟩:=hf;refine⟨i,h1,rfl,?_⟩;unfold Zbv;rw[List.find?_eq_some_iff_getElem];exact⟨by rw[getD_lt h1];exact h2,i,h1,(getD_lt h1).symm,fun j hj=>by simpa using h3 j hj⟩
theorem Zs4 (m:List Eg) (e:Eg) (hm:OkM m) (he:OkLn e.ln):PL.Pure Tryz.prog 30 [egs m,eg e] (ZvY (Zmx m e)):=by
 have hE:=ZrD e he;have hA:=Zs3 m e.id (by rw[Zd];have:=hm.n;omega);unfold Zmx;cases hb:Zge e
 ·rw[hb]at hE;refine pov Tryz.func30 (by decide) rfl Tryz.ntmps30 Tryz.results30 (by simp) (Zfc _) ?_;simp only[go_sem,eg,egs];refine Za (hE) ?_ ?_ ?_;iterate 2 simp only[go_sem,eg]
  simp only[go_sem,if_true,ZvY,egs]
 ·rw[hb]at hE;simp only[Bool.true_eq_false,if_false];rcases Zv5 (m:=m) (id:=e.id)with ⟨h1,h2⟩|⟨i,hi,h1,h2⟩
  ·rw[h1]at hA;rw[h2]
   by_cases hn:40≤m.length
   ·have hn':(39:Int)<(m.length:Int):=by omega
    simp only[hn,if_true];refine pov Tryz.func30 (by decide) rfl Tryz.ntmps30 Tryz.results30 (by simp) (Zfc _) ?_;simp only[go_sem,eg,egs];refine Za (hE) ?_ ?_ ?_;iterate 2 simp only[go_sem,eg]
    simp only[go_sem];refine Za (hA) ?_ ?_ ?_;iterate 2 simp only[go_sem,egs,tg]
    simp only[go_sem];refine Ze (by kernel_rfl) (by kernel_rfl) ?_;simp only[go_sem,hn',ZvY,egs]
   ·have hn':¬(39:Int)<(m.length:Int):=by omega
    simp only[hn,if_false];have hr1:=Za1 (show m.length≤1000000 by omega) (show 256≤1000 by omega);have hr2:=Za1 (show m.length+1≤1000000 by omega) (show 256≤1000 by omega);refine pov Tryz.func30 (by decide) rfl Tryz.ntmps30 Tryz.results30 (by simp) (Zfc _) ?_;simp only[go_sem,eg,egs];refine Za (hE) ?_ ?_ ?_;iterate 2 simp only[go_sem,eg]
    simp only[go_sem];refine Za (hA) ?_ ?_ ?_;iterate 2 simp only[go_sem,egs,tg]
    simp only[go_sem];refine Ze (by kernel_rfl) (by kernel_rfl) ?_;simp only[go_sem,hn',ZvY,egs,ZwK,ZvK,hr1,hr2,List.length_map];repeat((with_reducible refine And.intro ?_ ?_);(focus((repeat' (with_reducible apply And.intro))<;>(first|omega|exact Zbf (by omega) (by omega)|exact Zbf (by simp;omega) (by omega)|exact ZaJ _|(simp;done)|(simp;omega)))))
    simp[eg]
  ·rw[h1]at hA;rw[h2];have hS:=ZoU (m.getD i default) e (hm.l _ (Zg hi)) he;have i0:(0:Int)≤(i:Int):=by omega
   have i1:(i:Int)<(m.length:Int):=by omega
   cases hd:decide (m.getD i default=e)
   ·rw[hd]at hS;have hx:¬m.getD i default=e:=by simpa using hd
    simp only[hx,if_false];refine pov Tryz.func30 (by decide) rfl Tryz.ntmps30 Tryz.results30 (by simp) (Zfc _) ?_;simp only[go_sem,eg,egs];refine Za (hE) ?_ ?_ ?_;iterate 2 simp only[go_sem,eg]
    simp only[go_sem];refine Za (hA) ?_ ?_ ?_;iterate 2 simp only[go_sem,egs,tg]
    simp only[go_sem];refine Ze (by kernel_rfl) (by kernel_rfl) ?_;simp only[go_sem,i0,i1,Zfk hi,eg];refine Za (hS) ?_ ?_ ?_;iterate 2 simp only[go_sem,eg]
    simp only[go_sem,i0,ZvY,egs]
   ·rw[hd]at hS;have hx:m.getD i default=e:=by simpa using hd
    simp only[hx,if_true];refine pov Tryz.func30 (by decide) rfl Tryz.ntmps30 Tryz.results30 (by simp) (Zfc _) ?_;simp only[go_sem,eg,egs];refine Za (hE) ?_ ?_ ?_;iterate 2 simp only[go_sem,eg]
    simp only[go_sem];refine Za (hA) ?_ ?_ ?_;iterate 2 simp only[go_sem,egs,tg]
    simp only[go_sem];refine Ze (by kernel_rfl) (by kernel_rfl) ?_;simp only[go_sem,i0,i1,Zfk hi,eg];refine Za (hS) ?_ ?_ ?_;iterate 2 simp only[go_sem,eg]
    simp only[go_sem,i0,ZvY,egs]
open Go.PL
def Zdm (l:List Eg):List Eg:=l.foldl (fun m e=>(Zmx m e).1) []
theorem ZpG:∀(l:List Eg) {m:List Eg},OkM m→(∀e∈l,OkLn e.ln)→OkM (l.foldl (fun m e=>(Zmx m e).1) m)
 | [],m,h,_=>h
 |e::l,m,h,hl=>ZpG l (Zwl h (hl e (by simp))) (fun x hx=>hl x (by simp[hx]))
theorem ZrX {l:List Eg} {k:Nat} (hk:k<l.length):(l.take (k+1)).foldl (fun m e=>(Zmx m e).1) []=(Zmx ((l.take k).foldl (fun m e=>(Zmx m e).1) []) (l.getD k default)).1:=by
 have:l.take (k+1)=l.take k++ [l.getD k default]:=by
  rw[getD_lt hk,List.take_add_one];simp[hk]
 rw[this,List.foldl_append];rfl
def grv (m:List Eg):PV:= .tup [tr (Zf m),egs m,.bool true]
theorem Ztv (l:List Nd):PV.didsL (kts l)= []:=by
 unfold kts
 induction l with
 |nil=>rfl
 |cons e l ih=>simp only[List.map_cons,PV.didsL,ih,Zyw,List.append_nil]
theorem Ztw (l:List Nd):PV.didsL (nds l)= []:=by
 unfold nds
 induction l with
 |nil=>rfl
 |cons e l ih=>simp only[List.map_cons,PV.didsL,ih,Zpz,List.append_nil]
theorem Zyy (l:List Nd):(tr l).dids= []:=by simp only[tr,PV.dids,PV.didsL,Ztv,Ztw,List.append_nil]
theorem Zv3 (m:List Eg):(grv m).dids= []:=by simp only[grv,PV.dids,PV.didsL,Zyy,Zqy,List.append_nil]
theorem ZrA (l:List Eg) (hl:l.length≤1000) (hx:∀e∈l,OkLn e.ln):PL.Pure Tryz.prog 12 [egs l] (grv (Zdm l)):=by
 have hml:l.length≤maxLen:=by rw[Zd];omega
 refine PL.Pure.of_vs Tryz.func12 (by decide) rfl Tryz.ntmps12 Tryz.results12 (by simp) (Zv3 _) ?_;simp only[go_sem,egs];refine Zrm Zxu ?_ ?_ (fun b hb=> ?_)
 ·simp only[go_sem]
 ·simp only[go_sem]
 simp only[go_sem];refine Ztk 6 11 [] rfl ?_;refine ZxG (ι:= { k:Nat // k≤l.length }) 40 (fun x=> [(0,egs l),(5,.rptr [.mref b]),(6,egs (Zdm (l.take x.1))),(7,.int .i64 (x.1:Int))]) (fun x=> []) (fun x=> []) (fun x=> [(b,mc (Zf (Zdm (l.take x.1))))]) (fun x=> []) (fun x=>l.length-x.1) ⟨0,Nat.zero_le _⟩
  ⟨⟨rfl,(Fc4 rfl rfl rfl rfl),fnl,fnl⟩,fcs (by simp[upd];rfl) fnl,fnl⟩ (fun x=>⟨(Fc4 rfl rfl rfl rfl),fnl⟩) (fun x=> ?_)
 obtain⟨k,hk⟩:=x;simp only
 by_cases h:(k:Int)<(l.length:Int)
 ·have hka:k<l.length:=by omega
  have w1:=Zcd hka hml;have i1:(0:Int)≤(k:Int):=by omega
  have hft:=ZrX hka;have hom:OkM (Zdm (l.take k)):=ZpG _ Zmt (fun e he=>hx e (List.mem_of_mem_take he));have hR:=Zs4 (Zdm (l.take k)) (l.getD k default) hom (hx _ (Zg hka));have hW:=ZzX (Zdm (l.take k)) (l.getD k default) hom (hx _ (Zg hka));have hne:((Zmx (Zdm (l.take k)) (l.getD k default)).2 !=(Zmx (Zdm (l.take k)) (l.getD k default)).2)=false:=by simp
  simp only[go_sem,List.map_cons,List.map_nil,egs,h,Zfk hka,eg,i1];refine Za (hR) ?_ ?_ ?_;iterate 2 simp only[go_sem,egs,eg]
  simp only[go_sem,ZvY,egs,h,Zfk hka,eg,i1];refine Zrp b hW ?_ ?_ ?_ ?_
  ·simp only[go_sem]
  ·simp only[go_sem,eg]
  ·simp[upd]
  ·simp only[go_sem,hne,w1];refine⟨⟨k+1,by omega⟩,by show l.length-(k+1)<l.length-k;omega,⟨⟨rfl,fcs rfl (fcs rfl (fcs ?_ (fcs ?_ fnl))),fnl,fnl⟩,fcs ?_ fnl,fnl⟩⟩
   ·show _=egs (Zdm (l.take (k+1)));unfold Zdm;rw[hft];rfl
   ·rfl
   ·show _=some (mc (Zf (Zdm (l.take (k+1)))));unfold Zdm;rw[hft];simp[upd]
 ·obtain rfl:k=l.length:=by omega
  have htl:l.take l.length=l:=List.take_length;simp only[go_sem,List.map_cons,List.map_nil,egs,h,htl,mc];exact⟨_,rfl,by simp[PV.shut,PV.sealL,upd,grv,tr,egs]⟩
def edc (x:Eg×Int):PV:= .tup [eg x.1,.int .i64 x.2]
theorem Zqx (x:Eg×Int):(edc x).dids= []:=by simp only[edc,PV.dids,PV.didsL,Zpf,List.append_nil]
theorem ZkR:eg default= .agg [.int .i64 0,.int .i64 0,.int .i64 0,.int .i64 0,.int .i64 0,.int .i64 0,.str [],.str [],.str [],.str [],.int .i64 0,.int .i64 0,.str [],.str [],.int .i64 0,.str [],.sl .no [],.int .i64 0,.sl .no [],.sl .no []]:=rfl
def Znw (m:List Eg) (id:Tg):Eg×Int:=match Zbv m id with|some e=>(e,0)|none=>(default,6)
theorem ZkF (m:List Eg) (id:Tg) (hm:OkM m):PL.Pure Tryz.prog 120 [tr (Zf m),tg id] (edc (Znw m id)):=by
 have hidx:=ZqF m id;unfold Znw;cases hf:m.findIdx? (fun x=>decide (id=x.id))with
 |some i=>
  rw[hf]at hidx;obtain⟨h1,h2⟩:=Zff hidx;rw[Zfh]at h2;cases hfe:Zbv m id with
  |none=>rw[hfe]at h2;cases h2
  |some x=>
   rw[hfe]at h2;simp only[Option.map_some,Option.some.injEq]at h2;have hO:=ZoC x (hm.l x (Zb7 hfe).2);have hval:(nds (Zf m)).getD i .any=nd (Zam m x):=by rw[Zjo h1,h2]
   have hne:=ZdI m x;refine pov Tryz.func120 (by decide) rfl Tryz.ntmps120 Tryz.results120 (by simp) (Zqx _) ?_;simp only[go_sem,tr,tg];refine Ze (by kernel_rfl) (by kernel_rfl) ?_;simp only[go_sem,Zat,hidx,hval,nd,hne];refine Za (hO) ?_ ?_ ?_;iterate 2 simp only[go_sem,eg]
   simp only[go_sem,eg,edc]
 |none=>
  rw[hf]at hidx;have h2:=Zfe.1 hidx;rw[Zfh]at h2;have hfe:Zbv m id=none:=by
   cases hx:Zbv m id with
   |none=>rfl
   |some x=>rw[hx]at h2;cases h2
  rw[hfe];refine pov Tryz.func120 (by decide) rfl Tryz.ntmps120 Tryz.results120 (by simp) (Zqx _) ?_;simp only[go_sem,tr,tg];refine Ze (by kernel_rfl) (by kernel_rfl) ?_;simp only[go_sem,Zat,hidx,edc,ZkR]
def Zaz (l:List Nd) (id:Tg):List Fd×Int:=if(atN l id).st=2 then((atN l id).sch,0)else if(atN l id).st=3 then([],16)else([],13)
theorem Zbo (m:List Eg) (id:Tg) (hm:OkM m):PL.Pure Tryz.prog 23 [tr (Zf m),tg id] (ZaB (Zaz (Zf m) id)):=by
 have hA:=Ztf (Zf m) id;obtain⟨o1,o2,o3⟩:=ZzQ hm.l (ZuX m) id;have hO:=Zm9 (atN (Zf m) id).sch (by have:=o1.n;omega) o1.c;unfold Zaz
 by_cases h2:(atN (Zf m) id).st=2
 ·have e2:((atN (Zf m) id).st==2)=true:=by rw[h2];rfl
  simp only[h2,if_true];refine pov Tryz.func23 (by decide) rfl Tryz.ntmps23 Tryz.results23 (by simp) (Zak _) ?_;simp only[go_sem,tr,tg];refine Za (hA) ?_ ?_ ?_;iterate 2 simp only[go_sem,tr,tg]
  simp only[go_sem,nd,e2];refine Za (hO) ?_ ?_ ?_;iterate 2 simp only[go_sem,Zn]
  simp only[go_sem,Zn,ZaB]
 ·by_cases h3:(atN (Zf m) id).st=3
  ·have e2:((atN (Zf m) id).st==2)=false:=by simpa using h2
   have e3:((atN (Zf m) id).st==3)=true:=by rw[h3];rfl
   simp only[h2,h3,if_true,if_false];refine pov Tryz.func23 (by decide) rfl Tryz.ntmps23 Tryz.results23 (by simp) (Zak _) ?_;simp only[go_sem,tr,tg];refine Za (hA) ?_ ?_ ?_;iterate 2 simp only[go_sem,tr,tg]
   simp only[go_sem,nd,e2,e3,ZaB,Zn,List.map_nil]
  ·have e2:((atN (Zf m) id).st==2)=false:=by simpa using h2
   have e3:((atN (Zf m) id).st==3)=false:=by simpa using h3
   simp only[h2,h3,if_false];refine pov Tryz.func23 (by decide) rfl Tryz.ntmps23 Tryz.results23 (by simp) (Zak _) ?_;simp only[go_sem,tr,tg];refine Za (hA) ?_ ?_ ?_;iterate 2 simp only[go_sem,tr,tg]
   simp only[go_sem,nd,e2,e3,ZaB,Zn,List.map_nil]
def ZBM (l:List Nd) (id:Tg):Int:=if(atN l id).st=2 then(atN l id).dep else-1
open Go.PL
def upL (w:List Eg):List Tg:=(w.reverse.map (·.id))++ [default]
def upC (m:List Eg) (id:Tg):Int:=(Zaz (Zf m) id).2
def Zct (m:List Eg) (id:Tg):List Eg:=(ZsT m id).getD []
theorem ZvJ (m:List Eg) (id:Tg) (h:id≠default):atN (Zf m) id=((Zbv m id).map (Zam m)).getD default:=by
 simp only[atN,h,if_false,Zfh]
theorem Zar {m:List Eg} {id:Tg} (h:upC m id=0):Way m id (Zct m id)∧Zby (Zct m id) ZhS=some (Zaz (Zf m) id).1∧ZBM (Zf m) id=((Zct m id).length:Int):=by
 have hst:(atN (Zf m) id).st=2:=by
  unfold upC Zaz at h;split at h
  ·assumption
  ·split at h<;>cases h
 have hs:(Zaz (Zf m) id).1=(atN (Zf m) id).sch:=by simp only[Zaz,hst,if_true]
 have hdp:ZBM (Zf m) id=(atN (Zf m) id).dep:=by simp only[ZBM,hst,if_true]
 rw[hs,hdp]
 by_cases hd:id=default
 ·subst hd;have hw:Zct m default= []:=by
   have:=Zcx.2 (Way.root (m:=m));simp[Zct,this]
  rw[hw];exact⟨.root,by simp[Zby,atN,ZpN],by simp[atN,ZpN]⟩
 ·rw[ZvJ m id hd]at hst ⊢;cases hf:Zbv m id with
  |none=>rw[hf]at hst;cases hst
  |some e=>
   rw[hf]at hst;simp only[Option.map_some,Option.getD_some]at hst ⊢;have hid:=(Zb7 hf).1;unfold Zam Zkh at hst ⊢;rw[←hid]at hst ⊢;cases hw:ZsT m id with
   |none=>rw[hw]at hst;cases hst
   |some w=>
    have hwd:Zct m id=w:=by simp[Zct,hw]
    rw[hw]at hst;rw[hwd];simp only at hst ⊢;cases hfa:Zby w ZhS with
    |none=>rw[hfa]at hst;cases hst
    |some fs=>exact⟨Zcx.1 hw,rfl,rfl⟩
theorem Zrl (w:List Eg) (e:Eg):upL (w++ [e])=e.id::upL w:=by simp[upL]
theorem Zgt (w:List Eg):(upL w).length=w.length+1:=by simp[upL]
theorem Zp8 (w:List Eg) (t:Nat) (ht:t<w.length):(upL w).getD (w.length-t-1) default=(w.getD t default).id:=by
 unfold upL;rw[Zi (by simp;omega)];rw[getD_lt (by simp;omega),getD_lt ht];simp only[List.getElem_map,List.getElem_reverse];congr 2;omega
theorem Zrk {m:List Eg} {id:Tg} {w:List Eg} (h:Way m id w):upL w=id::(upL w).tail:=by
 cases h with
 |root=>rfl
 |step hn he hw=>rw[Zrl,(Zb7 he).1];rfl
def Zvq (x:List Tg×Int):PV:= .tup [tgs x.1,.int .i64 x.2]
theorem Zrh (l:List Tg):(tgs l).dids= []:=by simp only[tgs,PV.dids,Zqu]
theorem Zoz (x:List Tg×Int):(Zvq x).dids= []:=by simp only[Zvq,PV.dids,PV.didsL,Zrh,List.append_nil]
def upM (m:List Eg) (id:Tg):List Tg×Int:=if upC m id≠0 then([],upC m id)else(upL (Zct m id),0)
structure UpS (m:List Eg) (w:List Eg) where
 id:Tg
 r:List Eg
 acc:List Tg
 hw:Way m id r
 hx:acc++(upL r).tail=upL w
theorem tgd (t:Tg):(t.r==0&&t.n==0)=decide (t=default):=ZG t default
theorem Zs7 (m:List Eg) (id:Tg) (hm:OkM m):PL.Pure Tryz.prog 164 [tr (Zf m),tg id] (Zvq (upM m id)):=by
 have hS:=Zbo m id hm;unfold upM
 by_cases hc:upC m id=0
 ·obtain⟨hw,_,_⟩:=Zar hc;simp only[hc,ne_eq,not_true_eq_false,if_false];have hc':(Zaz (Zf m) id).2=0:=hc;generalize Zct m id=w at *;have hwl:w.length≤40:=by have:=hw.len;have:=hm.n;omega
  refine pov Tryz.func164 (by decide) rfl Tryz.ntmps164 Tryz.results164 (by simp) (Zoz _) ?_;simp only[go_sem,tr,tg];refine Za (hS) ?_ ?_ ?_;iterate 2 simp only[go_sem,tr,tg]
  simp only[go_sem,ZaB,hc'];refine Zas 8 21 39 1 2 25 [tg id] rfl rfl rfl ?_;refine ZI (ι:=UpS m w) 41 (fun x=> [(0,tr (Zf m)),(3,.ptr 3 0),(8,.sl (.row 39) (x.acc.map tg))]) (fun x=> [(3,[.int .i64 x.id.r,.int .i64 x.id.n],false)]) (fun x=> [(39,.live x.acc.length 2 25)]) (fun x=>x.r.length) ⟨id,w,[id],hw,by rw[Zrk hw];rfl⟩
   ⟨rfl,(Fc3 rfl rfl rfl),fcs ⟨rfl,rfl⟩ fnl,fcs rfl fnl⟩ (fun x=>⟨Fc3 rfl rfl (by simp[PV.ids,ZV]),(fcs rfl fnl)⟩) (fun x=> ?_)
  obtain⟨id',r,acc,hr,hx⟩:=x;simp only;have hal:acc.length≤41:=by
   have:=congrArg List.length hx;rw[List.length_append,Zgt]at this;omega
  have hrm:=Za1 (show acc.length+1≤1000000 by omega) (show 16≤1000 by omega)
  by_cases hd:id'=default
  ·have hb:decide (id'=default)=true:=by simpa using hd
   have hacc:acc=upL w:=by
    rw[←hx];subst hd;cases hr with
    |root=>simp[upL]
    |step hn _ _=>exact absurd rfl hn
   simp only[go_sem,tgd,hb,Bool.not_true,Zvq,tgs,hacc]
  ·have hb:decide (id'=default)=false:=by simpa using hd
   have hF:=ZkF m id' hm;cases hr with
   |root=>exact absurd rfl hd
   |step hn he hw'=>
    rename_i e u;have hfm:Znw m id'=(e,0):=by simp[Znw,he]
    rw[hfm]at hF;have hx':(acc++ [e.par])++(upL u).tail=upL w:=by
     rw[←hx,Zrl,List.tail_cons,Zrk hw'];simp
    simp only[go_sem,tr,tgd,hb,Bool.not_false];refine Za (hF) ?_ ?_ ?_;iterate 2 simp only[go_sem,tr,tg]
    simp only[go_sem,edc,eg,ZmB,hrm,List.length_map];exact⟨⟨e.par,u,acc++ [e.par],hw',hx'⟩,by show u.length<(u++ [e]).length;simp,⟨rfl,Fc3 rfl rfl (by simp[upd,tg]),fcs ⟨rfl,rfl⟩ fnl,fcs (by simp[upd]) fnl⟩⟩
 ·have hc':((Zaz (Zf m) id).2 !=0)=true:=by have h:(Zaz (Zf m) id).2≠0:=hc;simpa using h
  simp only[ne_eq,hc,not_false_eq_true,if_true];refine pov Tryz.func164 (by decide) rfl Tryz.ntmps164 Tryz.results164 (by simp) (Zoz _) ?_;simp only[go_sem,tr,tg];refine Za (hS) ?_ ?_ ?_;iterate 2 simp only[go_sem,tr,tg]
  simp only[go_sem,ZaB,hc',Zvq,tgs,List.map_nil,upC]
open Go.PL
def lcp:List Eg→List Eg→Nat
 |a::xs,b::ys=>if a=b then lcp xs ys+1 else 0
 |_,_=>0
theorem Zle:∀(a b:List Eg),lcp a b≤a.length∧lcp a b≤b.length
 | [],b=>by simp[lcp]
 |a::xs,[]=>by simp[lcp]
 |a::xs,b::ys=>by
  have:=Zle xs ys;simp only[lcp];split
  ·simp;omega
  ·simp
theorem ZiA:∀(a b:List Eg),lcp a b=lcp b a
 | [],[]=>rfl
 | [],b::ys=>rfl
 |a::xs,[]=>rfl
 |a::xs,b::ys=>by
  simp only[lcp,ZiA xs ys,eq_comm]
theorem Zpv:∀(a b:List Eg) (t:Nat),t<lcp a b→a.getD t default=b.getD t default
 | [],b,t,h=>by simp[lcp]at h
 |a::xs,[],t,h=>by simp[lcp]at h
 |a::xs,b::ys,t,h=>by
  simp only[lcp]at h;split at h
  ·rename_i e;cases t with
   |zero=>simpa using e
   |succ t=>simpa using Zpv xs ys t (by omega)
  ·omega
theorem Zml:∀(a b:List Eg),lcp a b<a.length→lcp a b<b.length→a.getD (lcp a b) default≠b.getD (lcp a b) default
 | [],b,h,_=>by simp at h
 |a::xs,[],_,h=>by simp at h
 |a::xs,b::ys,h1,h2=>by
  simp only[lcp]at h1 h2 ⊢;split
  ·rename_i e;rw[if_pos e]at h1 h2;simpa using Zml xs ys (by simpa using h1) (by simpa using h2)
  ·rename_i e;simpa using e
theorem ZgQ (a b:List Eg):a.take (lcp a b)=b.take (lcp a b):=by
 have hl:=Zle a b;apply List.ext_getElem
 ·simp;omega
 ·intro i h1 h2;have hi:i<lcp a b:=by simp at h1;omega
  have:=Zpv a b i hi;rw[getD_lt (by omega),getD_lt (by omega)]at this;simpa using this
theorem Apart.inj {m:List Eg} (h:Apart m) {a b:Eg} (ha:a∈m) (hb:b∈m) (e:a.id=b.id):a=b:=by
 have h1:=h.find ha;rw[e,h.find hb]at h1;cases h1;rfl
structure WayT where
 up:List Tg
 down:List Tg
 i:Nat
 j:Nat
 c:Int
def Zvs (x:WayT):PV:= .tup [tgs x.up,tgs x.down,.int .i64 (x.i:Int),.int .i64 (x.j:Int),.int .i64 x.c]
theorem Zj8 (x:WayT):(Zvs x).dids= []:=by simp only[Zvs,PV.dids,PV.didsL,Zrh,List.append_nil]
def ZsU (m:List Eg) (a b:Tg):WayT:=
 if upC m a≠0 then⟨[],[],0,0,upC m a⟩else if upC m b≠0 then⟨[],[],0,0,upC m b⟩
 else⟨upL (Zct m a),upL (Zct m b),(Zct m a).length-lcp (Zct m a) (Zct m b),(Zct m b).length-lcp (Zct m a) (Zct m b),0⟩
theorem Zvi (m:List Eg) (a b:Tg) (hm:OkM m):PL.Pure Tryz.prog 119 [tr (Zf m),tg a,tg b] (Zvs (ZsU m a b)):=by
 have hA:=Zs7 m a hm;have hB:=Zs7 m b hm;unfold ZsU;unfold upM at hA hB
 by_cases ha:upC m a=0
 ·by_cases hb:upC m b=0
  ·obtain⟨wa,_,_⟩:=Zar ha;obtain⟨wb,_,_⟩:=Zar hb;simp only[ha,hb,ne_eq,not_true_eq_false,if_false]at hA hB ⊢;generalize Zct m a=p at *;generalize Zct m b=q at *;have hlc:=Zle p q;have hpl:p.length≤40:=by have:=wa.len;have:=hm.n;omega
   have hql:q.length≤40:=by have:=wb.len;have:=hm.n;omega
   have l1:((upL p).length:Int)=(p.length:Int)+1:=by rw[Zgt];rfl
   have l2:((upL q).length:Int)=(q.length:Int)+1:=by rw[Zgt];rfl
   have s1:IntKind.i64.wrap ((p.length:Int)+1-1)=(p.length:Int):=by rw[w64 (by omega)];omega
   have s2:IntKind.i64.wrap ((q.length:Int)+1-1)=(q.length:Int):=by rw[w64 (by omega)];omega
   refine pov Tryz.func119 (by decide) rfl Tryz.ntmps119 Tryz.results119 (by simp) (Zj8 _) ?_;simp only[go_sem,tr,tg];refine Zj5 (ι:= { t:Nat // t≤lcp p q }) 62 (fun x=> [(6,tgs (upL p)),(7,tgs (upL q)),(8,.int .i64 ((p.length-x.1:Nat):Int)),(9,.int .i64 ((q.length-x.1:Nat):Int))]) (fun x=> []) (fun x=> []) (fun x=>lcp p q-x.1) 0 _ (by exact rfl) (fun x=>⟨(Fc4 rfl rfl rfl rfl),fnl⟩) (fun x=> ?_) (fun cut=> ?_)
   ·obtain⟨t,ht⟩:=x;simp only
    by_cases g1:t<p.length
    ·have c1:(0:Int)<((p.length-t:Nat):Int):=by omega
     by_cases g2:t<q.length
     ·have c2:(0:Int)<((q.length-t:Nat):Int):=by omega
      have w1:IntKind.i64.wrap (((p.length-t:Nat):Int)-1)=((p.length-t-1:Nat):Int):=by rw[w64 (by omega)];omega
      have w2:IntKind.i64.wrap (((q.length-t:Nat):Int)-1)=((q.length-t-1:Nat):Int):=by rw[w64 (by omega)];omega
      have k1:p.length-t-1<(upL p).length:=by rw[Zgt];omega
      have k2:q.length-t-1<(upL q).length:=by rw[Zgt];omega
      have b1:(0:Int)≤((p.length-t-1:Nat):Int):=by omega
      have b2:(0:Int)≤((q.length-t-1:Nat):Int):=by omega
      have b3:((p.length-t-1:Nat):Int)<((upL p).length:Int):=by omega
      have b4:((q.length-t-1:Nat):Int)<((upL q).length:Int):=by omega
      have v1:=Zp8 p t g1;have v2:=Zp8 q t g2
      by_cases hlt:t<lcp p q
      ·have heq:decide ((p.getD t default).id=(q.getD t default).id)=true:=by rw[Zpv p q t hlt];simp
       simp only[go_sem,tgs];refine Ze (by kernel_rfl) (by kernel_rfl) ?_;simp only[go_sem,c1,c2,w1,w2,ZaL k1,ZaL k2,v1,v2,tg,b1,b2,b3,b4,ZG,heq];exact⟨⟨t+1,by omega⟩,by show lcp p q-(t+1)<lcp p q-t;omega,⟨rfl,Fc4 rfl rfl (by simp only[Nat.sub_sub];rfl) (by simp only[Nat.sub_sub];rfl),fnl,fnl⟩⟩
      ·obtain rfl:t=lcp p q:=by omega
       have hne:decide ((p.getD (lcp p q) default).id=(q.getD (lcp p q) default).id)=false:=by
        rw[decide_eq_false_iff_not];intro e;have hs:=Zml p q (by omega) (by omega);exact hs (hm.a.inj (wa.mem _ (Zg g1)) (wb.mem _ (Zg g2)) e)
       simp only[go_sem,tgs];refine Ze (by kernel_rfl) (by kernel_rfl) ?_;simp only[go_sem,c1,c2,w1,w2,ZaL k1,ZaL k2,v1,v2,tg,b1,b2,b3,b4,ZG,hne,Zvs,tgs]
     ·have c2:¬(0:Int)<((q.length-t:Nat):Int):=by omega
      obtain rfl:t=lcp p q:=by omega
      simp only[go_sem,tgs];refine Ze (by kernel_rfl) (by kernel_rfl) ?_;simp only[go_sem,c1,c2,Zvs,tgs]
    ·have c1:¬(0:Int)<((p.length-t:Nat):Int):=by omega
     obtain rfl:t=lcp p q:=by omega
     simp only[go_sem,tgs];refine Ze (by kernel_rfl) (by kernel_rfl) ?_;simp only[go_sem,c1,Zvs,tgs]
   ·simp only[go_sem];refine Za (hA) ?_ ?_ ?_;iterate 2 simp only[go_sem,tr,tg]
    simp only[go_sem,Zvq];refine Za (hB) ?_ ?_ ?_;iterate 2 simp only[go_sem,tr,tg]
    simp only[go_sem,Zvq,tgs,l1,l2,s1,s2,List.length_map];exact Zax (cut ⟨0,Nat.zero_le _⟩ _ ⟨rfl,(Fc4 rfl rfl rfl rfl),fnl,fnl⟩)
  ·have hb':(upC m b !=0)=true:=by simpa using hb
   simp only[ha,hb,ne_eq,not_true_eq_false,not_false_eq_true,if_true,if_false]at hA hB ⊢;refine pov Tryz.func119 (by decide) rfl Tryz.ntmps119 Tryz.results119 (by simp) (Zj8 _) ?_;simp only[go_sem,tr,tg];refine ZdY ?_;simp only[go_sem];refine Za (hA) ?_ ?_ ?_;iterate 2 simp only[go_sem,tr,tg]
   simp only[go_sem,Zvq];refine Za (hB) ?_ ?_ ?_;iterate 2 simp only[go_sem,tr,tg]
   simp only[go_sem,Zvq,tgs,hb',Zvs,List.map_nil]
 ·have ha':(upC m a !=0)=true:=by simpa using ha
  simp only[ha,ne_eq,not_false_eq_true,if_true]at hA ⊢;refine pov Tryz.func119 (by decide) rfl Tryz.ntmps119 Tryz.results119 (by simp) (Zj8 _) ?_;simp only[go_sem,tr,tg];refine ZdY ?_;simp only[go_sem];refine Za (hA) ?_ ?_ ?_;iterate 2 simp only[go_sem,tr,tg]
  simp only[go_sem,Zvq,tgs,ha',Zvs,List.map_nil]
end Go.Proofs.YthingdchjkhfbaaGreat
