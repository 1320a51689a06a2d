/- Contracts of functions and laws of this seat, each for every input that it names: lemmas of the proof. -/
import Derived.Test.YthingdchjkhfbaaGreatXBf
namespace Go.Proofs.YthingdchjkhfbaaGreat
set_option maxHeartbeats 64000000
set_option maxRecDepth 20000
set_option linter.unusedVariables false
set_option linter.unusedSimpArgs false
open Go.PL
theorem Zuh:∀(rs:List Rf) {l m:List Fd},OkFs l→ZgM rs l=some m→OkFs m
 | [],l,m,h,e=>by cases e;exact h
 |r::rs,l,m,h,e=>by
  unfold ZgM at e;split at e
  ·cases e
  ·exact Zuh rs (Zn0 h r) e
theorem ZnZ:∀(fs:List Fd) {l m:List Fd},(∀f∈fs,f.cases'.length≤1000000)→OkFs l→Zb4 fs l=some m→OkFs m
 | [],l,m,_,h,e=>by cases e;exact h
 |f::fs,l,m,hc,h,e=>by
  unfold Zb4 at e;split at e
  ·cases e
  ·exact ZnZ fs (fun g hg=>hc g (by simp[hg])) (Zxw h (hc f (by simp))) e
theorem ZpF {l:List Fd} {x:Ln} (hl:OkFs l) (hx:OkLn x):OkFs (Zq l x).1:=by
 have o0:OkFs []:=⟨Nat.zero_le _,fun f hf=>by cases hf⟩;unfold Zq;split
 ·exact o0
 split
 ·exact o0
 ·rename_i m hm;unfold ZkM at hm;split at hm
  ·cases hm
  ·obtain⟨k,h1,h2⟩:=Option.bind_eq_some_iff.1 hm;exact ZnZ _ (ZzP hl hx).c (Zuh _ hl h1) h2
theorem ZqV:OkFs ZhS:=⟨by decide,by decide⟩
theorem ZqU:∀(w:List Eg) {fs gs:List Fd},(∀e∈w,OkLn e.ln)→OkFs fs→Zby w fs=some gs→OkFs gs
 | [],fs,gs,_,h,e=>by cases e;exact h
 |e::w,fs,gs,hw,h,he=>by
  unfold Zby at he;split at he
  ·cases he
  ·exact ZqU w (fun x hx=>hw x (by simp[hx])) (ZpF h (hw e (by simp))) he
theorem ZzS {m:List Eg} (hm:∀e∈m,OkLn e.ln) (e:Eg):OkFs (Zam m e).sch∧0≤(Zam m e).dep∧(Zam m e).dep≤(m.length:Int):=by
 have o0:OkFs []:=⟨Nat.zero_le _,fun f hf=>by cases hf⟩;unfold Zam Zkh;split
 ·exact⟨o0,by simp,by simp⟩
 ·rename_i w hw;have h1:=Zcx.1 hw;split
  ·exact⟨o0,by simp,by simp⟩
  ·rename_i fs hf;have:=h1.len;exact⟨ZqU w (fun x hx=>hm x (h1.mem x hx)) ZqV hf,by simp,by simp only;omega⟩
theorem ZzQ {m:List Eg} {c:List Nd} (hm:∀e∈m,OkLn e.ln) (h:ZoZ m c) (id:Tg):OkFs (atN c id).sch∧0≤(atN c id).dep∧(atN c id).dep≤(m.length:Int):=by
 have o0:OkFs []:=⟨Nat.zero_le _,fun f hf=>by cases hf⟩;unfold atN;split
 ·exact⟨ZqV,by simp[ZpN],by simp[ZpN]⟩
 ·cases hf:ZhE c id with
  |none=>exact⟨o0,Int.le_refl _,by show(0:Int)≤_;omega⟩
  |some n=>
   simp only[Option.getD_some];obtain⟨_,hk⟩:=ZqP h (List.mem_of_find?_eq_some hf);rcases hk with hk|⟨hk,_⟩
   ·rw[hk];exact⟨o0,by simp[ZqY],by simp[ZqY]⟩
   ·rw[hk];exact ZzS hm _
theorem ZwH {m:List Eg} {c:List Nd} (ha:Apart m) (h:ZoZ m c) {i:Nat} (hi:i<c.length):(c.findIdx? fun n=>decide ((c.getD i default).e.id=n.e.id))=some i:=by
 rw[List.findIdx?_eq_some_iff_getElem];refine⟨hi,by rw[getD_lt hi];simp,fun j hj=> ?_⟩;have hd:=ha.d;rw[←ZmA h,List.map_map]at hd;rw[List.nodup_iff_pairwise_ne,List.pairwise_iff_getElem]at hd;have:=hd j i (by simp;omega) (by simpa using hi) hj;simp only[List.getElem_map,Function.comp]at this;rw[getD_lt hi];simp only[decide_eq_true_eq];exact fun e=>this e.symm
theorem Zq9 {m:List Eg} {c:List Nd} (ha:Apart m) (h:ZoZ m c) {i:Nat} (hi:i<c.length) (hu:(atN c (c.getD i default).e.par).st=2∨(atN c (c.getD i default).e.par).st=3):ZoZ m (c.set i (ZeK (c.getD i default).e (atN c (c.getD i default).e.par))):=by
 have him:i<m.length:=by have:=h.1;omega
 have he:=Zly h him;rw[he]at hu ⊢;obtain⟨k1,k2⟩:=Zux ha h (Zg him) hu;rw[k1];refine⟨by simp[h.1],fun j hj=> ?_⟩
 by_cases e:i=j
 ·subst e;right;have:(c.set i (Zam m (m.getD i default))).getD i default=Zam m (m.getD i default):=by
   rw[getD_lt (by simpa using hi)];simp
  rw[this];exact⟨rfl,k2⟩
 ·have:(c.set i (Zam m (m.getD i default))).getD j default=c.getD j default:=by
   simp only[List.getD_eq_getElem?_getD,List.getElem?_set_ne e]
  rw[this];exact h.2 j hj
def Zwt (c:List Nd):Nat:=c.countP fun n=>decide (n.st=1)
theorem ZjI {c:List Nd} {i:Nat} {n:Nd} (hi:i<c.length) (h1:(c.getD i default).st=1) (h2:n.st≠1):Zwt (c.set i n)<Zwt c:=by
 unfold Zwt;rw[getD_lt hi]at h1;rw[List.countP_set hi];have:0<c.countP fun n=>decide (n.st=1):=List.countP_pos_iff.2 ⟨c[i],List.getElem_mem hi,by simpa using h1⟩
 simp only[h1,decide_true,if_true,h2,decide_false,Bool.false_eq_true,if_false];omega
theorem Zpu (c:List Nd) (i:Nat) (n:Nd) (h:n.e=(c.getD i default).e):kts (c.set i n)=kts c:=by
 unfold kts;apply List.ext_getElem?;intro j;simp only[List.getElem?_map,List.getElem?_set]
 by_cases e:i=j
 ·subst e
  by_cases hi:i<c.length
  ·simp[hi,h,getD_lt hi]
  ·simp[hi]
 ·simp[e]
theorem ZpA (c:List Nd) (i:Nat) (n:Nd):nds (c.set i n)=(nds c).set i (nd n):=by simp[nds,List.map_set]
theorem ZpB (e:Eg) (u:Nd):(ZeK e u).e=e:=by unfold ZeK;split<;>rfl
theorem Zmp (e:Eg) (u:Nd):(ZeK e u).st≠1:=by unfold ZeK;split<;>simp
theorem Zju (c:List Nd):(kts c).length=c.length:=by simp[kts]
structure Seen (n:Nat) (p:Nat→Prop) where
 l:List Nat
 d:l.Nodup
 h:∀i∈l,i<n∧p i
def Seen.next {n:Nat} {p:Nat→Prop} (s:Seen n p) (i:Nat) (hi:i<n) (hp:p i) (hn:i∉s.l):Seen n p:=
 ⟨s.l++ [i],by rw[List.nodup_append];exact⟨s.d,by simp,fun a ha b hb=>by simp at hb;subst hb;exact fun e=>hn (e▸ha)⟩,fun j hj=>by
  rcases List.mem_append.1 hj with hj|hj
  ·exact s.h j hj
  ·simp at hj;subst hj;exact⟨hi,hp⟩⟩
theorem Seen.len {n:Nat} {p:Nat→Prop} (s:Seen n p):s.l.length≤n:=by
 have:=Zmr (m:=List.range n) s.d (fun i hi=>List.mem_range.2 (s.h i hi).1);simpa using this
open Go.PL
def ZBJ (m:List Eg):Type:= { c:List Nd // ZoZ m c }
def ZwM (c:List Nd) (i:Nat):Prop:=(c.getD i default).st≠1∨((atN c (c.getD i default).e.par).st≠2∧(atN c (c.getD i default).e.par).st≠3)
theorem ZnO (l:List Nat) (i:Nat):(l++ [i]).getLast? = some i:=by simp
theorem Zuy {m:List Eg} {c:List Nd} (h:ZoZ m c) {i:Nat} (hi:i<m.length) (h1:(c.getD i default).st=1):(c.getD i default).sch= []∧(c.getD i default).dep=0:=by
 rcases h.2 i hi with hk|⟨_,hk⟩
 ·rw[hk];exact⟨rfl,rfl⟩
 ·exact absurd h1 hk
theorem ZuA (m:List Eg) (c0:List Nd) (ha:Apart m) (h0:ZoZ m c0) (hm:∀e∈m,OkLn e.ln) (hl:m.length≤1000):PL.Wr Tryz.prog 63 (fun b=> [.rptr [.mref b]]) (mc c0) (.tup []) (mc (Zf m)):=by
 refine PL.Wr.of_v Tryz.func63 (by decide) rfl Tryz.ntmps63 Tryz.results63 (by simp) rfl (fun b=> ?_);simp only[go_sem];refine ZyS (ι:=ZBJ m) 61 (fun x=> [(0,.rptr [.mref b])]) (fun x=> []) (fun x=> []) (fun x=> [(b,mc x.1)]) (fun x=> []) (fun x=>Zwt x.1) 0 _ (by exact rfl) (fun x=>⟨(fcs rfl fnl),fnl⟩) (fun x=> ?_) (fun cut=> ?_)
 ·obtain⟨c,hc⟩:=x;simp only;have hcl:=hc.1;simp only[go_sem,List.map_cons,List.map_nil];intro ib;simp only[go_sem,forall_const,mc,Zju];refine ZxG (ι:=Seen c.length (ZwM c)) 61 (fun x=> [(0,.rptr [.mref b]),(11,.iptr ib)]) (fun x=> []) (fun x=> []) (fun x=> [(b,mc c)]) (fun x=> [(ib,⟨b,c.length,x.l,none⟩)]) (fun x=>c.length-x.l.length) ⟨[],by simp,fun i hi=>by cases hi⟩
   ⟨⟨rfl,(Fc2 rfl rfl),fnl,fnl⟩,fcs (by simp[upd,mc]) fnl,fcs (by simp[upd]) fnl⟩ (fun x=>⟨(Fc2 rfl rfl),fnl⟩) (fun x=> ?_)
  have hsl:=x.len;simp only[go_sem,List.map_cons,List.map_nil,mc,Zju];refine⟨fun hall=> ?_,fun i hi hns=> ?_⟩
  ·have hdone:c=Zf m:=Zuw ha hc fun i hi=>by
    have:=(x.h i (hall i (by omega))).2;unfold ZwM at this;rw[Zly hc hi]at this;exact this
   rw[←hdone]
  ·have him:i<m.length:=by omega
   have hA:=Ztf c (c.getD i default).e.par;obtain⟨ok1,ok2,ok3⟩:=ZzQ hm hc (c.getD i default).e.par;have hL:=Zhl (atN c (c.getD i default).e.par).sch (c.getD i default).e.ln ok1 (by rw[Zly hc him];exact hm _ (Zg him));have hset:=ZwH ha hc hi;have hwd:IntKind.i64.wrap ((atN c (c.getD i default).e.par).dep+1)=(atN c (c.getD i default).e.par).dep+1:=w64 (by omega);have hnx:∀(s':St) (j:Seen c.length (ZwM c)),j.l.length=x.l.length+1→HasO 61 [(0,.rptr [.mref b]),(11,.iptr ib)] [] [] [(b,mc c)] [(ib,⟨b,c.length,j.l,none⟩)] s'→ZxP 61 (fun x=> [(0,.rptr [.mref b]),(11,.iptr ib)]) (fun x=> []) (fun x=> []) (fun x=> [(b,mc c)]) (fun x=> [(ib,⟨b,c.length,x.l,none⟩)]) (fun x:Seen c.length (ZwM c)=>c.length-x.l.length) x s':=fun s' j hj hh=>⟨j,by have:=j.len;show c.length-j.l.length<c.length-x.l.length;omega,hh⟩
   by_cases h1:(c.getD i default).st=1
   ·obtain⟨hp1,hp2⟩:=Zuy hc him h1;have e1:((c.getD i default).st !=1)=false:=by rw[h1];rfl
    simp only[go_sem,ZnO,Zjo hi,ZtO hi,hi,Zju,tg,nd,e1];refine Zrn hA (Zwj _) ?_ ?_ ?_
    ·simp only[go_sem]
    ·simp only[go_sem,tr,tg,kts,nds]
    by_cases hs2:(atN c (c.getD i default).e.par).st=2
    ·have e2:((atN c (c.getD i default).e.par).st !=2)=false:=by rw[hs2];rfl
     have e2':((atN c (c.getD i default).e.par).st==2)=true:=by rw[hs2];rfl
     have hsem:=Zq9 ha hc hi (.inl hs2);simp only[go_sem,nd,e2,e2'];refine Za (hL) ?_ ?_ ?_;iterate 2 simp only[go_sem,Zn,lns]
     simp only[go_sem,ZaB,Zn]
     by_cases hz:(Zq (atN c (c.getD i default).e.par).sch (c.getD i default).e.ln).2=0
     ·have hnn:ZeK (c.getD i default).e (atN c (c.getD i default).e.par)=⟨(c.getD i default).e,2,(Zq (atN c (c.getD i default).e.par).sch (c.getD i default).e.ln).1,(atN c (c.getD i default).e.par).dep+1⟩:=by unfold ZeK;rw[if_pos ⟨hs2,hz⟩]
      simp only[go_sem,hz];refine Zhe [(4,3)] (by kernel_rfl) (by kernel_rfl) (by exact rfl) ?_;simp only[go_sem,hwd];refine Ze (by kernel_rfl) (by kernel_rfl) ?_;simp only[go_sem,Zat,hset];refine⟨⟨_,hsem⟩,ZjI hi h1 (Zmp _ _),⟨⟨rfl,(fcs rfl fnl),fnl,fnl⟩,fcs ?_ fnl,fnl⟩⟩;simp only[Zb];rw[Zpu c i _ (ZpB _ _),ZpA,hnn];rfl
     ·have hnn:ZeK (c.getD i default).e (atN c (c.getD i default).e.par)=⟨(c.getD i default).e,3,[],0⟩:=by unfold ZeK;rw[if_neg (fun hh=>hz hh.2)]
      have hzb:((Zq (atN c (c.getD i default).e.par).sch (c.getD i default).e.ln).2==0)=false:=by simpa using hz
      simp only[go_sem,hzb];refine Ze (by kernel_rfl) (by kernel_rfl) ?_;simp only[go_sem,Zat,hset];refine⟨⟨_,hsem⟩,ZjI hi h1 (Zmp _ _),⟨⟨rfl,(fcs rfl fnl),fnl,fnl⟩,fcs ?_ fnl,fnl⟩⟩;simp only[Zb];rw[Zpu c i _ (ZpB _ _),ZpA,hnn];simp only[nd,hp1,hp2]
    ·by_cases hs3:(atN c (c.getD i default).e.par).st=3
     ·have e2:((atN c (c.getD i default).e.par).st !=2)=true:=by rw[hs3];rfl
      have e2':((atN c (c.getD i default).e.par).st==2)=false:=by rw[hs3];rfl
      have e3:((atN c (c.getD i default).e.par).st !=3)=false:=by rw[hs3];rfl
      have hsem:=Zq9 ha hc hi (.inr hs3);have hnn:ZeK (c.getD i default).e (atN c (c.getD i default).e.par)=⟨(c.getD i default).e,3,[],0⟩:=by unfold ZeK;rw[if_neg (fun hh=>hs2 hh.1)]
      simp only[go_sem,nd,e2,e2',e3];refine Ze (by kernel_rfl) (by kernel_rfl) ?_;simp only[go_sem,Zat,hset];refine⟨⟨_,hsem⟩,ZjI hi h1 (Zmp _ _),⟨⟨rfl,(fcs rfl fnl),fnl,fnl⟩,fcs ?_ fnl,fnl⟩⟩;simp only[Zb];rw[Zpu c i _ (ZpB _ _),ZpA,hnn];simp only[nd,hp1,hp2]
     ·have e2:((atN c (c.getD i default).e.par).st !=2)=true:=by simpa using hs2
      have e3:((atN c (c.getD i default).e.par).st !=3)=true:=by simpa using hs3
      simp only[go_sem,nd,e2,e3];refine hnx _ (x.next i hi (.inr ⟨hs2,hs3⟩) hns) (by simp[Seen.next]) ?_;exact⟨⟨rfl,(Fc2 rfl rfl),fnl,fnl⟩,fcs (by simp[upd,mc]) fnl,fcs (by simp[upd,Seen.next]) fnl⟩
   ·have e1:((c.getD i default).st !=1)=true:=by simpa using h1
    simp only[go_sem,ZnO,Zjo hi,ZtO hi,hi,Zju,tg,nd,e1];refine hnx _ (x.next i hi (.inl h1) hns) (by simp[Seen.next]) ?_;exact⟨⟨rfl,(Fc2 rfl rfl),fnl,fnl⟩,fcs (by simp[upd,mc]) fnl,fcs (by simp[upd,Seen.next]) fnl⟩
 ·simp only[go_sem];exact Zax (cut ⟨c0,h0⟩ _ ⟨⟨rfl,(fcs rfl fnl),fnl,fnl⟩,fcs (by simp[upd]) fnl,fnl⟩)
open Go.PL
def Zge (e:Eg):Bool:=ZmI e.id&&((decide (e.par=default)||(ZmI e.par&& !decide (e.par=e.id)))&&(decide (1≤e.ln.kind)&&(decide (e.ln.kind≤8)&&Zu e.ln)))
theorem Zii {t:Tg} (h:ZmI t=true):t≠default:=fun e=>by subst e;exact absurd h (by decide)
theorem ZpK {x:Ln} (h:Zu x=true):1≤x.kind:=by
 unfold Zu at h;split at h
 ·rename_i hk;omega
 ·split at h
  ·omega
  ·split at h
   ·omega
   ·split at h
    ·omega
    ·split at h
     ·omega
     ·split at h
      ·omega
      ·simp only[Bool.and_eq_true,decide_eq_true_eq]at h;omega
theorem ZsC (e:Eg) (he:OkLn e.ln):PL.Pure Tryz.prog 60 [eg e] (.bool (Zge e)):=by
 have hT:=Zgx e.id;have hU:=Zgx e.par;have hR:=Zbn e.ln he;unfold Zge;cases ht:ZmI e.id
 ·rw[ht]at hT;refine pov Tryz.func60 (by decide) rfl Tryz.ntmps60 Tryz.results60 (by simp) rfl ?_;simp only[go_sem,eg];refine Za (hT) ?_ ?_ ?_;iterate 2 simp only[go_sem,tg]
  simp only[go_sem,Bool.false_and]
 rw[ht]at hT;generalize hdp:decide (e.par=default)=dp at *;generalize hde:decide (e.par=e.id)=de at *;generalize ZmI e.par=tp at *;generalize Zu e.ln=rl at *;have hdp':(e.par.r==0&&e.par.n==0)=dp:=by rw[←hdp];exact ZG e.par default
 refine pov Tryz.func60 (by decide) rfl Tryz.ntmps60 Tryz.results60 (by simp) rfl ?_;simp only[go_sem,eg];refine Za (hT) ?_ ?_ ?_;iterate 2 simp only[go_sem,tg]
 simp only[go_sem];cases dp<;>cases tp<;>cases de
 all_goals
  refine Ze (by kernel_rfl) (by kernel_rfl) ?_;simp only[go_sem];refine Za (Zhr) ?_ ?_ ?_;iterate 2 simp only[go_sem,tg]
  simp only[go_sem,tg,ZG,hdp,hde,hdp']
  (try refine Za (hU) ?_ ?_ ?_;iterate 2 simp only[go_sem,tg])
  (try simp only[go_sem,ZG,hde])
  (try repeat' (first|(refine ZA (fun h=> ?_) (fun h=> ?_)<;>(try simp only[go_sem,h]))|(refine Zz (fun h=> ?_) (fun h=> ?_)<;>(try simp only[go_sem,h]))|(refine ZN (fun h=> ?_) (fun h=> ?_)<;>(try simp only[go_sem,h]))|((refine Za (hR) ?_ ?_ ?_);(focus simp only[go_sem,lns]);(focus exact rfl);(try simp only[go_sem]))|((refine Ze (by kernel_rfl) (by kernel_rfl) ?_);(try simp only[go_sem]))))
  (try(all_goals simp_all))
open Go.PL
theorem Zm7 (t:Tg):PL.Pure Tryz.prog 101 [tg t] (.bool (ZmI t)):=by
 refine pov Tryz.func101 (by decide) rfl Tryz.ntmps101 Tryz.results101 (by simp) rfl ?_;simp only[go_sem,tg];repeat' (first|(refine ZA (fun h=> ?_) (fun h=> ?_)<;>(try simp only[go_sem,h]))|(refine Zz (fun h=> ?_) (fun h=> ?_)<;>(try simp only[go_sem,h]))|(refine ZN (fun h=> ?_) (fun h=> ?_)<;>(try simp only[go_sem,h]))|((refine Ze (by kernel_rfl) (by kernel_rfl) ?_);(try simp only[go_sem])))
 all_goals (simp only[decide_eq_true_eq,decide_eq_false_iff_not]at *;rw[Bool.eq_iff_iff];simp[ZmI];omega)
theorem ZBN (e:Eg):Zge e=(ZmI e.id&&((decide (e.par=default)||ZmI e.par)&&(!decide (e.id=e.par)&&(Zu e.ln&&decide (e.ln.kind<9))))):=by
 unfold Zge;rw[Bool.eq_iff_iff];simp only[Bool.and_eq_true,Bool.or_eq_true,decide_eq_true_eq,Bool.not_eq_true',decide_eq_false_iff_not];constructor
 ·rintro ⟨h1,h2,h3,h4,h5⟩
  refine⟨h1,?_,?_,h5,by omega⟩
  ·rcases h2 with h2|h2
   ·exact .inl h2
   ·exact .inr h2.1
  ·rcases h2 with h2|h2
   ·exact fun e1=>Zii h1 (e1.trans h2)
   ·exact fun e1=>h2.2 e1.symm
 ·rintro ⟨h1,h2,h3,h4,h5⟩
  refine⟨h1,?_,ZpK h4,by omega,h4⟩;rcases h2 with h2|h2
  ·exact .inl h2
  ·exact .inr ⟨h2,fun e1=>h3 e1.symm⟩
theorem ZrD (e:Eg) (he:OkLn e.ln):PL.Pure Tryz.prog 57 [eg e] (.bool (Zge e)):=by
 have hT:=Zm7 e.id;have hU:=Zm7 e.par;have hR:=Zm6 e.ln he;rw[ZBN];generalize hdp:decide (e.par=default)=dp at *;generalize hde:decide (e.id=e.par)=de at *;generalize ZmI e.par=tp at *;generalize ZmI e.id=ti at *;generalize Zu e.ln=rl at *;have hdp':(e.par.r==0&&e.par.n==0)=dp:=by rw[←hdp];exact ZG e.par default
 refine pov Tryz.func57 (by decide) rfl Tryz.ntmps57 Tryz.results57 (by simp) rfl ?_;simp only[go_sem,eg,hdp',ZG,hde];repeat' (first|(refine ZA (fun h=> ?_) (fun h=> ?_)<;>(try simp only[go_sem,h,hdp',ZG,hde]))|(refine Zz (fun h=> ?_) (fun h=> ?_)<;>(try simp only[go_sem,h,hdp',ZG,hde]))|(refine ZN (fun h=> ?_) (fun h=> ?_)<;>(try simp only[go_sem,h,hdp',ZG,hde]))|((refine Za (hT) ?_ ?_ ?_);(focus simp only[go_sem,tg,lns]);(focus exact rfl);(try simp only[go_sem,hdp',ZG,hde]))|((refine Za (hU) ?_ ?_ ?_);(focus simp only[go_sem,tg,lns]);(focus exact rfl);(try simp only[go_sem,hdp',ZG,hde]))|((refine Za (hR) ?_ ?_ ?_);(focus simp only[go_sem,tg,lns]);(focus exact rfl);(try simp only[go_sem,hdp',ZG,hde]))|((refine Ze (by kernel_rfl) (by kernel_rfl) ?_);(try simp only[go_sem,hdp',ZG,hde])))
 all_goals simp_all
theorem ZsH (a b:Eg) (ha:OkLn a.ln) (hb:OkLn b.ln):PL.Pure Tryz.prog 61 [eg a,eg b] (.bool (decide (a=b))):=by
 have hE:=Zkz a.ln b.ln ha hb;refine pov Tryz.func61 (by decide) rfl Tryz.ntmps61 Tryz.results61 (by simp) rfl ?_;simp only[go_sem,eg,ZG];repeat' (first|(refine ZA (fun h=> ?_) (fun h=> ?_)<;>(try simp only[go_sem,h,ZG]))|(refine Zz (fun h=> ?_) (fun h=> ?_)<;>(try simp only[go_sem,h,ZG]))|(refine ZN (fun h=> ?_) (fun h=> ?_)<;>(try simp only[go_sem,h,ZG]))|((refine Za (hE) ?_ ?_ ?_);(focus simp only[go_sem,lns]);(focus exact rfl);(try simp only[go_sem,ZG]))|((refine Ze (by kernel_rfl) (by kernel_rfl) ?_);(try simp only[go_sem,ZG])))
 all_goals (clear hE ha hb;cases a;cases b;simp_all)
theorem ZoU (a b:Eg) (ha:OkLn a.ln) (hb:OkLn b.ln):PL.Pure Tryz.prog 59 [eg a,eg b] (.bool (decide (a=b))):=by
 have hE:=ZoV a.ln b.ln ha hb;refine pov Tryz.func59 (by decide) rfl Tryz.ntmps59 Tryz.results59 (by simp) rfl ?_;simp only[go_sem,eg,ZG];repeat' (first|(refine ZA (fun h=> ?_) (fun h=> ?_)<;>(try simp only[go_sem,h,ZG]))|(refine Zz (fun h=> ?_) (fun h=> ?_)<;>(try simp only[go_sem,h,ZG]))|(refine ZN (fun h=> ?_) (fun h=> ?_)<;>(try simp only[go_sem,h,ZG]))|((refine Za (hE) ?_ ?_ ?_);(focus simp only[go_sem,lns]);(focus exact rfl);(try simp only[go_sem,ZG]))|((refine Ze (by kernel_rfl) (by kernel_rfl) ?_);(try simp only[go_sem,ZG])))
 all_goals (clear hE ha hb;cases a;cases b;simp_all)
theorem ZoC (e:Eg) (he:OkLn e.ln):PL.Pure Tryz.prog 62 [eg e] (eg e):=by
 have hO:=ZiP e.ln he;refine pov Tryz.func62 (by decide) rfl Tryz.ntmps62 Tryz.results62 (by simp) (Zpf _) ?_;simp only[go_sem,eg];refine Ze (by kernel_rfl) (by kernel_rfl) ?_;simp only[go_sem];refine Za (hO) ?_ ?_ ?_;iterate 2 simp only[go_sem,lns]
 simp only[go_sem,lns];rfl
def ZeO (p:Pr):Bool:=ZbH 200 p.fr'||ZbH 200 p.to'
def ZgP (l:List Pr):Bool:=decide (20<(l.length:Int))||l.any ZeO
theorem Zh3 (l:List Pr) (hl:l.length≤maxLen):PL.Pure Tryz.prog 56 [prs l] (.bool (ZgP l)):=by
 by_cases h20:(20:Int)<(l.length:Int)
 ·refine pov Tryz.func56 (by decide) rfl Tryz.ntmps56 Tryz.results56 (by simp) rfl ?_;simp only[go_sem,prs,h20,ZgP,Bool.true_or]
 ·have hx:ZgP l=l.any ZeO:=by simp only[ZgP,h20,decide_false,Bool.false_or]
  rw[hx];refine pov Tryz.func56 (by decide) rfl Tryz.ntmps56 Tryz.results56 (by simp) rfl ?_;simp only[go_sem,prs,h20];refine ZI (ι:= { x:Nat // x≤(l).length∧(∀j,j<x→ZeO (l.getD j default)=false) }) 29 (fun x=> [(0,prs l),(3,.int .i64 (x.1:Int))]) (fun x=> []) (fun x=> []) (fun x=>(l).length-x.1) ⟨0,Nat.zero_le _,fun j hj=>absurd hj (Nat.not_lt_zero j)⟩ ⟨rfl,(Fc2 rfl rfl),fnl,fnl⟩ (fun x=>⟨(Fc2 rfl rfl),fnl⟩) (fun x=> ?_);obtain⟨k,hk,hI⟩:=x;simp only at hk hI ⊢
  by_cases h:(k:Int)<(l.length:Int)
  ·(have hka:k<(l).length:=by omega);(have w1:=Zcd hka (hl));(have i1:(0:Int)≤(k:Int):=by omega)
   by_cases g1:(200:Int)<((l.getD k default).fr'.length:Int)
   ·have hz:=ZeA (p:=ZeO) hka (d:=default) (by simp only[ZeO,ZbH,Bool.or_eq_true,decide_eq_true_eq];omega);simp only[go_sem,prs,h,Z6 hka,pr,i1,g1,hz]
   ·by_cases g2:(200:Int)<((l.getD k default).to'.length:Int)
    ·have hz:=ZeA (p:=ZeO) hka (d:=default) (by simp only[ZeO,ZbH,Bool.or_eq_true,decide_eq_true_eq];omega);simp only[go_sem,prs,h,Z6 hka,pr,i1,g1,g2,hz]
    ·simp only[go_sem,prs,h,Z6 hka,pr,i1,g1,g2,w1];exact⟨⟨k+1,by(try simp only);omega,Zp hI (by simp only[ZeO,ZbH,Bool.or_eq_false_iff,decide_eq_false_iff_not];omega)⟩,by show(l).length-(k+1)<(l).length-k;omega,⟨rfl,(Fc2 rfl rfl),fnl,fnl⟩⟩
  ·have hz:=Zd5 (p:=ZeO) (d:=default) (l:=l) (fun j hj=>hI j (by omega));simp only[go_sem,prs,h,hz]
theorem ZBO (s:Str):ZbH 200 s=decide ((200:Int)<(s.length:Int)):=rfl
def ZdU (x:Ln):Bool:=ZbH 200 x.at'.gr||(ZbH 200 x.at'.nm||(ZbH 200 x.nm||(ZbH 200 x.ot||(Zic x.fd||(ZgP x.fo||ZgP x.ba)))))
structure LenLn (x:Ln):Prop where
 c:x.fd.cases'.length≤maxLen
 f:x.fo.length≤maxLen
 b:x.ba.length≤maxLen
theorem ZlR (x:Ln) (hx:LenLn x):PL.Pure Tryz.prog 29 [lns x] (.bool (ZdU x)):=by
 have hF:=Zm4 x.fd hx.c;have hP:=Zh3 x.fo hx.f;have hQ:=Zh3 x.ba hx.b;unfold ZdU;generalize Zic x.fd=a1 at *;generalize ZgP x.fo=a2 at *;generalize ZgP x.ba=a3 at *;refine pov Tryz.func29 (by decide) rfl Tryz.ntmps29 Tryz.results29 (by simp) rfl ?_;simp only[go_sem,lns];repeat' (first|(refine ZA (fun h=> ?_) (fun h=> ?_)<;>(try simp only[go_sem,h]))|(refine Zz (fun h=> ?_) (fun h=> ?_)<;>(try simp only[go_sem,h]))|(refine ZN (fun h=> ?_) (fun h=> ?_)<;>(try simp only[go_sem,h]))|((refine Za (hF) ?_ ?_ ?_);(focus simp only[go_sem,fld,prs]);(focus exact rfl);(try simp only[go_sem]))|((refine Za (hP) ?_ ?_ ?_);(focus simp only[go_sem,fld,prs]);(focus exact rfl);(try simp only[go_sem]))|((refine Za (hQ) ?_ ?_ ?_);(focus simp only[go_sem,fld,prs]);(focus exact rfl);(try simp only[go_sem]))|((refine Ze (by kernel_rfl) (by kernel_rfl) ?_);(try simp only[go_sem])))
 all_goals (clear hF hP hQ hx;simp only[ZBO, *,Bool.true_or,Bool.or_true,Bool.false_or,Bool.or_false])
def Zjr (l:List Eg) (most:Int):Bool:=decide (most<(l.length:Int))||l.any fun e=>ZdU e.ln
theorem Zm3 (l:List Eg) (most:Int) (hl:l.length≤maxLen) (hx:∀e∈l,LenLn e.ln):PL.Pure Tryz.prog 9 [egs l,.int .i64 most] (.bool (Zjr l most)):=by
 by_cases hm:most<(l.length:Int)
 ·refine pov Tryz.func9 (by decide) rfl Tryz.ntmps9 Tryz.results9 (by simp) rfl ?_;simp only[go_sem,egs,hm,Zjr,Bool.true_or]
 ·have hz:Zjr l most=l.any fun e=>ZdU e.ln:=by simp only[Zjr,hm,decide_false,Bool.false_or]
  rw[hz];refine pov Tryz.func9 (by decide) rfl Tryz.ntmps9 Tryz.results9 (by simp) rfl ?_;simp only[go_sem,egs,hm];refine ZI (ι:= { x:Nat // x≤(l).length∧(∀j,j<x→ZdU (l.getD j default).ln=false) }) 22 (fun x=> [(0,egs l),(5,.int .i64 (x.1:Int))]) (fun x=> []) (fun x=> []) (fun x=>(l).length-x.1) ⟨0,Nat.zero_le _,fun j hj=>absurd hj (Nat.not_lt_zero j)⟩ ⟨rfl,(Fc2 rfl rfl),fnl,fnl⟩ (fun x=>⟨(Fc2 rfl rfl),fnl⟩) (fun x=> ?_);obtain⟨k,hk,hI⟩:=x;simp only at hk hI ⊢
  by_cases h:(k:Int)<(l.length:Int)
  ·(have hka:k<(l).length:=by omega);(have w1:=Zcd hka (hl));(have i1:(0:Int)≤(k:Int):=by omega)
   have hF:=ZlR (l.getD k default).ln (hx _ (ZC hka));cases hf:ZdU (l.getD k default).ln
   ·rw[hf]at hF;simp only[go_sem,egs,h,Zfk hka,eg,i1];refine Za (hF) ?_ ?_ ?_;iterate 2 simp only[go_sem,lns]
    simp only[go_sem,w1];exact⟨⟨k+1,by(try simp only);omega,Zp hI hf⟩,by show(l).length-(k+1)<(l).length-k;omega,⟨rfl,(Fc2 rfl rfl),fnl,fnl⟩⟩
   ·rw[hf]at hF;have hz:=ZeA (p:=fun e:Eg=>ZdU e.ln) hka hf;simp only[go_sem,egs,h,Zfk hka,eg,i1];refine Za (hF) ?_ ?_ ?_;iterate 2 simp only[go_sem,lns]
    simp only[go_sem,hz]
  ·have hz:=Zd5 (p:=fun e:Eg=>ZdU e.ln) (d:=default) (l:=l) (fun j hj=>hI j (by omega));simp only[go_sem,egs,h,hz]
theorem Zui {x:Ln} (h:ZdU x=false):OkLn x:=by
 simp only[ZdU,Zic,Zk1,ZgP,Bool.or_eq_false_iff,decide_eq_false_iff_not]at h;obtain⟨_,_,_,_,⟨⟨_,_,_,h1⟩,_⟩,⟨h2,_⟩,h3,_⟩:=h;exact⟨by omega,by omega,by omega⟩
end Go.Proofs.YthingdchjkhfbaaGreat
