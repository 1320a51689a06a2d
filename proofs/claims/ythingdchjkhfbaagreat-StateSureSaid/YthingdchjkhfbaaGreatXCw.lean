/- Contracts of functions and laws of this seat, each for every input that it names: lemmas of the proof. -/
import Derived.Test.YthingdchjkhfbaaGreatXCt
import Derived.Test.YthingdchjkhfbaaGreatPlI
import Derived.Test.YthingdchjkhfbaaGreatXBa
namespace Go.Proofs.YthingdchjkhfbaaGreat
set_option maxHeartbeats 64000000
set_option maxRecDepth 20000
set_option linter.unusedVariables false
set_option linter.unusedSimpArgs false
open Go.PL
open Go.Shelf Go.RowKit Go.Lib Go.Sort
def flatStr:Flat Str where
 p:= .str
 v:=fun s=> [.string ⟨⟨s⟩⟩]
 sz:=1
 pos:=by decide
 hp:=fun _=>rfl
 hv:=fun _=>rfl
 to:=fun S x j u hj h=>by
  match j,hj with
  |0,_=>cases h;rfl
 of:=fun S x j hj=>by
  match j,hj with
  |0,_=>exact .str _
theorem ZBL {w:World} {b o:Nat} {vs:List Value} {e:TypeId} (h:w.heap[b]? = some (.cells ⟨vs⟩ e (0,0))) (ho:o<vs.length):w.cell? ⟨b,o,none⟩=some (vs.getD o undef):=by
 rw[Zbx h,List.getElem?_eq_getElem ho,PL.getD_lt ho]
theorem ZCP (xs:List Str) (j:Nat) (h:j<xs.length):xs.toArray[j]! = xs.getD j default:=by
 rw[PL.getD_lt h];simp[h]
theorem Zlq {w:World} {b:Nat} {xs:List Str} {e:TypeId} {vs:List Value} (hw:w.heap[b]? = some (.cells ⟨vs⟩ e (0,0))) (hl:xs.length*flatStr.sz≤vs.length)
  (hv:∀i j,i<xs.length→j<flatStr.sz→vs.getD (i*flatStr.sz+j) undef=(flatStr.v (xs.getD i default)).getD j undef):Holds encStr w b 0 xs.toArray:=by
 intro j hj;have hj':j<xs.length:=by simpa using hj
 have hl':xs.length≤vs.length:=by simpa[flatStr]using hl
 have h1:=hv j 0 hj' (by decide);simp only[flatStr,Nat.mul_one,Nat.add_zero,List.getD_cons_zero]at h1;rw[Nat.zero_add,ZCP xs j hj'];refine⟨?_,?_⟩
 ·rw[ZBL hw (by omega),h1]
 ·simp[World.frozen?,hw]
theorem Zq0 {w:World} {b c n lo:Nat} {xs ys rest:List Str} {e:TypeId} {vs:List Value} {os:Array Obj} (hlo:lo≤b) (hc:xs.length≤c) (hw:w.heap[b]? = some (.cells ⟨vs⟩ e (0,0))) (hl:xs.length*flatStr.sz≤vs.length) (hy:(ys++rest).length=xs.length):
  Zh4 flatStr (grow (putRow encStr (Sort.ahead w n) b 0 (ys++rest).toArray) os) lo ys (.slice (some ⟨b,0,none⟩) ys.length c)∧BelowF (fun k=>k<lo) w (grow (putRow encStr (Sort.ahead w n) b 0 (ys++rest).toArray) os):=by
 have hb:b<w.heap.size:=(Array.getElem?_eq_some_iff.1 hw).1;have hl':xs.length≤vs.length:=by simpa[flatStr]using hl
 have hyl:ys.length≤xs.length:=by rw[←hy];simp
 have hs:(grow (putRow encStr (Sort.ahead w n) b 0 (ys++rest).toArray) os).heap=w.heap.modify b (onCells (putCells encStr 0 (ys++rest).toArray))++os:=rfl;have hat:∀k,k<w.heap.size→(grow (putRow encStr (Sort.ahead w n) b 0 (ys++rest).toArray) os).heap[k]? = (w.heap.modify b (onCells (putCells encStr 0 (ys++rest).toArray)))[k]? :=fun k hk=>by
  rw[hs,Array.getElem?_append_left (by simpa using hk)]
 refine⟨.inr ⟨b,c,e,(putCells encStr 0 (ys++rest).toArray ⟨vs⟩).toList,hlo,rfl,by omega,?_,?_,fun i j hi hj=> ?_⟩,?_⟩
 ·rw[hat b hb,Array.getElem?_modify,if_pos rfl,hw];rfl
 ·show ys.length*1≤_;simp only[putCells,Array.length_toList,Array.size_mapIdx,List.size_toArray];omega
 ·have hj0:j=0:=by have:j<1:=hj;omega
  subst hj0;have hiv:i<vs.length:=by omega
  show(putCells encStr 0 (ys++rest).toArray ⟨vs⟩).toList.getD (i*1+0) undef= [Value.string ⟨⟨ys.getD i default⟩⟩].getD 0 undef;simp only[Nat.mul_one,Nat.add_zero,List.getD_cons_zero];rw[PL.getD_lt (by simpa[putCells]using hiv)];simp only[putCells,Array.getElem_toList,Array.getElem_mapIdx];rw[if_pos ⟨Nat.zero_le _,by simp;omega⟩];simp only[Nat.sub_zero];rw[ZCP (ys++rest) i (by simp;omega),PL.getD_lt (by simp;omega),PL.getD_lt hi,List.getElem_append_left hi]
 ·refine⟨rfl,rfl,rfl,?_,fun k hk=> ?_⟩
  ·rw[hs];simp
  ·have hk':k<lo:=hk;rw[hat k (by omega),Array.getElem?_modify,if_neg (by omega)]
def Zf5 (xs:List Str):List Str:=xs.mergeSort fun x y=>decide (x≤y)
theorem Zst (xs:List Str) (lo:Nat) (w:World) (v:Value) (hx:xs.length≤1000000) (hr:Zh4 flatStr w lo xs v) (hlo:lo≤w.heap.size):
  Calls Tryz.prog 70 #[v] w fun e w'=>e= .returned (.tuple #[])∧Zh4 flatStr w' lo (Zf5 xs) v∧BelowF (fun k=>k<lo) w w':=by
 rcases hr with ⟨h0,rfl⟩|⟨b,c,e,vs,h1,rfl,h3,h4,h5,h6⟩
 ·obtain rfl:=List.length_eq_zero_iff.1 h0;refine(Any.slices_Sort_string_none ZuD none 0 w).mono fun e w' ⟨he,hw⟩=> ?_
  subst hw;exact⟨he,.inl ⟨by simp[Zf5],rfl⟩,BelowF.refl _ _⟩
 ·have hb:b<w.heap.size:=(Array.getElem?_eq_some_iff.1 h4).1;refine(Any.slices_Sort_string ZuD b 0 c xs w (Zlq h4 h5 h6) hb (by omega)).mono fun e w' ⟨he,n,os,hw⟩=>⟨he,?_⟩
  have hly:(Zf5 xs++ []).length=xs.length:=by simp[Zf5]
  have hrs:=Zq0 (ys:=Zf5 xs) (rest:= []) (n:=n) (os:=os) h1 h3 h4 h5 hly;rw[List.append_nil]at hrs hly;rw[hly]at hrs;rw[hw];exact hrs
theorem ZeC (xs:List Str):(Lib.compact xs).length≤xs.length:=by
 unfold Lib.compact Lib.compactUpTo;rw[List.length_map];exact Nat.le_trans (List.length_filter_le _ _) (by simp)
theorem ZrR (xs:List Str) (lo:Nat) (w:World) (v:Value) (hx:xs.length≤1000000) (hr:Zh4 flatStr w lo xs v):
  Calls Tryz.prog 71 #[v] w fun e w'=>∃u,e= .returned u∧Zh4 flatStr w' lo (Lib.compact xs) u∧BelowF (fun k=>k<lo) w w':=by
 rcases hr with ⟨h0,rfl⟩|⟨b,c,e,vs,h1,rfl,h3,h4,h5,h6⟩
 ·obtain rfl:=List.length_eq_zero_iff.1 h0;refine(Any.slices_Compact_string_empty Ztq none 0 w).mono fun e w' ⟨he,hw⟩=> ?_
  subst hw;exact⟨_,he,.inl ⟨by have:=ZeC [];simpa using this,rfl⟩,BelowF.refl _ _⟩
 ·refine(Any.slices_Compact_string Ztq b 0 c xs w (Zlq h4 h5 h6) (by omega) h3).mono fun e w' ⟨he,n,hw⟩=>⟨_,he,?_⟩
  have hcl:=ZeC xs;have hrs:=Zq0 (ys:=Lib.compact xs) (rest:=List.replicate (xs.length-(Lib.compact xs).length) []) (n:=n) (os:= #[]) h1 h3 h4 h5 (by simp;omega);have hg:∀W:World,grow W #[]=W:=fun W=>by simp[grow]
  rw[hg]at hrs;rw[hw];exact hrs
def Zbj (l:List Opn) (c:Str):List Str:=(l.filter fun o=>o.kind==1&&o.cart==c).map Opn.item
def Za7 (l:List Opn) (c:Str):List Str:=Lib.compact (Zf5 (Zbj l c))
theorem Zpy {l:List Opn} {k:Nat} (c:Str) (h:k<l.length):Zbj (l.take (k+1)) c=Zbj (l.take k) c++(if((l.getD k default).kind==1&&(l.getD k default).cart==c)=true then [(l.getD k default).item]else []):=by
 unfold Zbj;rw[ZY (d:=default) h,List.filter_append,List.map_append];congr 1;generalize l.getD k default=x;cases hr:(x.kind==1&&x.cart==c)
 ·rw[List.filter_cons_of_neg (by rw[hr];simp),if_neg (by simp)];rfl
 ·rw[List.filter_cons_of_pos (by exact hr),if_pos rfl];rfl
theorem ZfV (l:List Opn) (c:Str):(Zbj l c).length≤l.length:=by unfold Zbj;rw[List.length_map];exact List.length_filter_le _ _
theorem Zlz (l:List Str):Sized 1 (l.map .str):=fun e he=>by
 obtain⟨o,_,rfl⟩:=List.mem_map.1 he;rfl
theorem Zr6 (l:List Opn) (ct:Str) (hl:l.length≤100000) {c:Code} (hc:Tryz.f38.body=some c):Zzd Tryz.prog (fun s=>s.n=33∧s.fr 5= .sl (.row 27) ((Zbj l ct).map .str)∧s.m.q 27=some (.live (Zbj l ct).length 1 9)) 3 c (St.init [Zad l,.str ct] 33):=by
 cases hc;have hlm:l.length≤maxLen:=by rw[Zd];omega
 refine ZmK ?_;simp only[go_sem];refine ZmK ?_;simp only[go_sem];refine ZmK ?_;simp only[go_sem,Zad];refine Zbt 5 27 1 9 rfl rfl ?_;refine ZI (ι:= { x:Nat // x≤(l).length }) 33 (fun x=> [(1,.str ct),(5,.sl (.row 27) ((Zbj (l.take x.1) ct).map .str)),(8,Zad l),(9,.int .i64 (l.length:Int)),(10,.int .i64 (x.1:Int))]) (fun x=> []) (fun x=> [(27,.live ((Zbj (l.take x.1) ct).length) (1) (9))]) (fun x=>(l).length-x.1) ⟨0,Nat.zero_le _⟩ ⟨rfl,(Fc5 rfl rfl rfl rfl rfl),fnl,(fcs rfl fnl)⟩ (fun x=>⟨(Fc5 rfl (by simp[PV.ids,ZV]) rfl rfl rfl),fnl⟩) (fun x=> ?_);obtain⟨k,hk⟩:=x;simp only at hk ⊢
 by_cases h:(k:Int)<(l.length:Int)
 ·(have hka:k<(l).length:=by omega);(have w1:=Zcd hka (hlm));(have i1:(0:Int)≤(k:Int):=by omega)
  have hsn:=Zpy ct hka;have hnl:=ZfV (l.take k) ct;have htl:(l.take k).length≤k:=List.length_take_le _ _;have hrm:=Za1 (show(Zbj (l.take k) ct).length+1≤1000000 by omega) (show 16≤1000 by omega);have hml:((Zbj (l.take k) ct).map PV.str).length=(Zbj (l.take k) ct).length:=List.length_map _;have hsz:=Zlz (Zbj (l.take k) ct);generalize hx:l.getD k default=x at *;cases k1:(x.kind==1)
  ·rw[k1,Bool.false_and,if_neg (by simp),List.append_nil]at hsn;simp only[go_sem,Zad,h,Zal hka,hx,opv,i1,k1,w1];exact⟨⟨k+1,by omega⟩,by show l.length-(k+1)<l.length-k;omega,⟨rfl,by simp only;rw[hsn];exact(Fc5 rfl rfl rfl rfl rfl),fnl,by simp only;rw[hsn];exact fcs rfl fnl⟩⟩
  ·cases k2:(x.cart==ct)
   ·rw[k1,k2,Bool.and_false,if_neg (by simp),List.append_nil]at hsn;simp only[go_sem,Zad,h,Zal hka,hx,opv,i1,k1,k2,w1];exact⟨⟨k+1,by omega⟩,by show l.length-(k+1)<l.length-k;omega,⟨rfl,by simp only;rw[hsn];exact(Fc5 rfl rfl rfl rfl rfl),fnl,by simp only;rw[hsn];exact fcs rfl fnl⟩⟩
   ·rw[k1,k2,Bool.and_self,if_pos rfl]at hsn;simp only[go_sem,Zad,h,Zal hka,hx,opv,i1,k1,k2,w1,hml,hsz,hrm];exact⟨⟨k+1,by omega⟩,by show l.length-(k+1)<l.length-k;omega,⟨rfl,by simp only;rw[hsn,List.map_append];exact(Fc5 rfl rfl rfl rfl rfl),fnl,by simp only;rw[hsn,List.length_append];exact fcs rfl fnl⟩⟩
 ·have htk:l.take k=l:=List.take_of_length_le (by omega);simp only[go_sem,Zad,h,htk];exact⟨rfl,rfl,rfl⟩
theorem Zla (l:List Opn) (ct:Str) (hl:l.length≤100000):PL.Pure Tryz.prog 38 [Zad l,.str ct] (.sl .no ((Za7 l ct).map .str)):=by
 have hnl:=ZfV l ct;refine PL.Pure.tail flatStr (k:=3) (i:=5) (d:=27) (N:=33) (G:=fun xs=>xs=Zbj l ct) (g:=fun xs=>Lib.compact (Zf5 xs)) Tryz.func38 (by decide) rfl (by show 2≤33;decide) (by simp only[PV.dids,Zb5]) (Zr6 l ct hl rfl) (fun s ⟨h2,h3,h4⟩=>⟨Zbj l ct,_,rfl,h2,h3,h4⟩) ?_ (fun xs h=>by rw[h];rfl);intro xs lo a w hG hd hN hr hlo;subst hG;have hcall:=Zst _ lo w _ (by omega) hr hlo;refine ZoP (N:=33) hN (by decide) (by decide) (by decide) (by decide) (by decide) (by decide) (by decide) Tryz.func70 (by decide) (by intro h;cases h) Tryz.func71 (by decide) (by intro h;cases h) ?_;refine hcall.mono fun e w' ⟨he,h1,h2⟩=>⟨_,he,?_⟩
 refine(ZrR _ lo w' _ (by simp[Zf5];omega) h1).mono fun e w'' ⟨u,he,h3,h4⟩=>⟨u,he,fun a' hd' hr'=>⟨.inr rfl,by rw[hd',hd],?_⟩⟩
 exact⟨a'.tmps.getD 4 undef,Go.results_tmp rfl _ _ _,by rw[hr'];exact h3,h2.trans h4⟩
open Go.PL
def Zww (a b:Int):PV:=if ZaU a=true∧ZaU b=true then .tup [.cpx .f64 (Zcc a) (Zcc b),.int .i64 0]else .tup [.cpx .f64 0 0,.int .i64 3]
theorem ZtJ:Zcc 0=0:=by decide+kernel
theorem Zs2 (a b c d:Int) (ha:Lim a) (hb:Lim b) (hc:Lim c) (hd:Lim d):PL.Pure Tryz.prog 110 [.cpx .f64 (Zcc a) (Zcc b),.cpx .f64 (Zcc c) (Zcc d)] (Zww (a+c) (b+d)):=by
 have hW1:=Zhs a b ha hb;have hW2:=Zhs c d hc hd;have hP1:=ZfH a b ha hb;have hP2:=ZfH c d hc hd;have hO:=ZlQ (a+c) (b+d);have w1:IntKind.i64.wrap (a+c)=a+c:=w64 (by obtain⟨_,_⟩:=ha;obtain⟨_,_⟩:=hc;omega);have w2:IntKind.i64.wrap (b+d)=b+d:=w64 (by obtain⟨_,_⟩:=hb;obtain⟨_,_⟩:=hd;omega);unfold Zww;generalize ZaU (a+c)=x at *;generalize ZaU (b+d)=y at *
 by_cases h:x=true∧y=true
 ·rw[if_pos h]at hO ⊢;refine pov Tryz.func110 (by decide) rfl Tryz.ntmps110 Tryz.results110 (by simp) rfl ?_;simp only[go_sem];refine Za (hW1) ?_ ?_ ?_;iterate 2 simp only[go_sem]
  simp only[go_sem];refine Za (hW2) ?_ ?_ ?_;iterate 2 simp only[go_sem]
  simp only[go_sem];refine Za (hP1) ?_ ?_ ?_;iterate 2 simp only[go_sem]
  simp only[go_sem];refine Za (hP2) ?_ ?_ ?_;iterate 2 simp only[go_sem]
  simp only[go_sem,w1,w2];refine Za (hO) ?_ ?_ ?_;iterate 2 simp only[go_sem]
  simp only[go_sem]
 ·rw[if_neg h]at hO ⊢;refine pov Tryz.func110 (by decide) rfl Tryz.ntmps110 Tryz.results110 (by simp) rfl ?_;simp only[go_sem];refine Za (hW1) ?_ ?_ ?_;iterate 2 simp only[go_sem]
  simp only[go_sem];refine Za (hW2) ?_ ?_ ?_;iterate 2 simp only[go_sem]
  simp only[go_sem];refine Za (hP1) ?_ ?_ ?_;iterate 2 simp only[go_sem]
  simp only[go_sem];refine Za (hP2) ?_ ?_ ?_;iterate 2 simp only[go_sem]
  simp only[go_sem,w1,w2];refine Za (hO) ?_ ?_ ?_;iterate 2 simp only[go_sem]
  simp only[go_sem]
def ZdW (s:Int) (o:Opn):Int:=if o.kind=3∧ZaU o.delta=true∧ZaU (s+o.delta)=true then s+o.delta else s
def Zp6 (l:List Opn):Int:=l.foldl ZdW 0
theorem ZuP {s:Int} {o:Opn} (h:Lim s):Lim (ZdW s o):=by
 unfold ZdW;split
 ·rename_i h2;exact Zab.1 h2.2.2
 ·exact h
theorem ZiI:∀(l:List Opn) {s:Int},Lim s→Lim (l.foldl ZdW s)
 | [],s,h=>h
 |o::l,s,h=>ZiI l (ZuP h)
theorem Zzb:Lim 0:=by unfold Lim;omega
theorem ZuV {l:List Opn} {k:Nat} (h:k<l.length):Zp6 (l.take (k+1))=ZdW (Zp6 (l.take k)) (l.getD k default):=by
 unfold Zp6;rw[ZY (d:=default) h,List.foldl_append];rfl
theorem ZsG (l:List Opn) (hl:l.length≤maxLen):PL.Pure Tryz.prog 69 [Zad l] (.int .i64 (Zp6 l)):=by
 have f0:ZaU 0=true:=by decide
 have hP:=ZfH (Zp6 l) 0 (ZiI l Zzb) Zzb;have hl2:=hl;rw[Zd]at hl2;refine pov Tryz.func69 (by decide) rfl Tryz.ntmps69 Tryz.results69 (by simp) rfl ?_;simp only[go_sem,Zad];refine ZI (ι:= { k:Nat // k≤l.length }) 47 (fun x=> [(3,.cpx .f64 (Zcc (Zp6 (l.take x.1))) (Zcc 0)),(13,Zad l),(14,.int .i64 (l.length:Int)),(15,.int .i64 (x.1:Int))]) (fun x=> []) (fun x=> []) (fun x=>l.length-x.1) ⟨0,Nat.zero_le _⟩
  ⟨rfl,Fc4 (by show PV.cpx .f64 0 0=PV.cpx .f64 (Zcc 0) (Zcc 0);rw[ZtJ]) rfl rfl rfl,fnl,fnl⟩ (fun x=>⟨(Fc4 rfl rfl rfl rfl),fnl⟩) (fun x=> ?_)
 obtain⟨k,hk⟩:=x;simp only
 by_cases h:(k:Int)<(l.length:Int)
 ·have hka:k<l.length:=by omega
  have i1:(0:Int)≤(k:Int):=by omega
  have w1:IntKind.i64.wrap ((k:Int)+1)=((k+1:Nat):Int):=by rw[w64 (by omega)];rfl
  have hsn:=ZuV hka;have hs:Lim (Zp6 (l.take k)):=ZiI _ Zzb;generalize Zp6 (l.take k)=s at *;generalize hx:l.getD k default=x at *
  by_cases k3:x.kind=3
  ·have e3:(x.kind !=3)=false:=by simpa using k3
   have hO:=ZlQ x.delta 0;cases f1:ZaU x.delta
   ·rw[f1]at hO;have hz:ZdW s x=s:=by unfold ZdW;rw[if_neg (by rw[f1];simp)]
    rw[hz]at hsn;simp only[Bool.false_eq_true,false_and,if_false]at hO;simp only[go_sem,Zad,h,Zal hka,hx,opv,i1,e3];refine Za (hO) ?_ ?_ ?_;iterate 2 simp only[go_sem]
    simp only[go_sem,w1];exact⟨⟨k+1,by omega⟩,by show l.length-(k+1)<l.length-k;omega,⟨rfl,Fc4 (by simp only;rw[hsn];rfl) rfl rfl rfl,fnl,fnl⟩⟩
   ·have hd:Lim x.delta:=Zab.1 f1;rw[f1,f0]at hO;simp only[and_self,if_true]at hO;have hPl:=Zs2 s 0 x.delta 0 hs Zzb hd Zzb;cases f2:ZaU (s+x.delta)
    ·have hz:ZdW s x=s:=by unfold ZdW;rw[if_neg (by rw[f2];simp)]
     rw[hz]at hsn;unfold Zww at hPl;rw[f2]at hPl;simp only[Bool.false_eq_true,false_and,if_false]at hPl;simp only[go_sem,Zad,h,Zal hka,hx,opv,i1,e3];refine Za (hO) ?_ ?_ ?_;iterate 2 simp only[go_sem]
     simp only[go_sem];refine Za (hPl) ?_ ?_ ?_;iterate 2 simp only[go_sem]
     simp only[go_sem,w1];exact⟨⟨k+1,by omega⟩,by show l.length-(k+1)<l.length-k;omega,⟨rfl,Fc4 (by simp only;rw[hsn];rfl) rfl rfl rfl,fnl,fnl⟩⟩
    ·have hz:ZdW s x=s+x.delta:=by unfold ZdW;rw[if_pos ⟨k3,f1,f2⟩]
     rw[hz]at hsn;unfold Zww at hPl;rw[f2,show ZaU (0+0)=true by decide]at hPl;simp only[and_self,if_true,Int.zero_add]at hPl;simp only[go_sem,Zad,h,Zal hka,hx,opv,i1,e3];refine Za (hO) ?_ ?_ ?_;iterate 2 simp only[go_sem]
     simp only[go_sem];refine Za (hPl) ?_ ?_ ?_;iterate 2 simp only[go_sem]
     simp only[go_sem,w1];exact⟨⟨k+1,by omega⟩,by show l.length-(k+1)<l.length-k;omega,⟨rfl,Fc4 (by simp only;rw[hsn];rfl) rfl rfl rfl,fnl,fnl⟩⟩
  ·have e3:(x.kind !=3)=true:=by simpa using k3
   have hz:ZdW s x=s:=by unfold ZdW;rw[if_neg (fun hh=>k3 hh.1)]
   rw[hz]at hsn;simp only[go_sem,Zad,h,Zal hka,hx,opv,i1,e3,w1];exact⟨⟨k+1,by omega⟩,by show l.length-(k+1)<l.length-k;omega,⟨rfl,Fc4 (by simp only;rw[hsn];rfl) rfl rfl rfl,fnl,fnl⟩⟩
 ·have htk:l.take k=l:=List.take_of_length_le (by omega);simp only[go_sem,Zad,h,htk];refine Za (hP) ?_ ?_ ?_;iterate 2 simp only[go_sem]
  simp only[go_sem]
def Zac (l:List Opn):List Str:=(l.filter fun o=>o.kind==4&&o.has).map Opn.text
theorem Zp3 {l:List Opn} {k:Nat} (h:k<l.length):Zac (l.take (k+1))=Zac (l.take k)++(if((l.getD k default).kind==4&&(l.getD k default).has)=true then [(l.getD k default).text]else []):=by
 unfold Zac;rw[ZY (d:=default) h,List.filter_append,List.map_append];congr 1;generalize l.getD k default=x;cases hr:(x.kind==4&&x.has)
 ·rw[List.filter_cons_of_neg (by rw[hr];simp),if_neg (by simp)];rfl
 ·rw[List.filter_cons_of_pos (by exact hr),if_pos rfl];rfl
theorem Zf1 (l:List Opn):(Zac l).length≤l.length:=by unfold Zac;rw[List.length_map];exact List.length_filter_le _ _
def Zdx (f:Fd) (ops:List Opn):En:=
 if f.kind=1 then⟨f.at',Zp6 ops,(ZQ f).l⟩
 else⟨f.at',0,if f.kind=4 then Zac ops else if(Zac ops).length=0 then(ZQ f).l else [(Zac ops).getD ((Zac ops).length-1) []]⟩
theorem ZsP (f:Fd) (l:List Opn) (hl:l.length≤100000):PL.Pure Tryz.prog 37 [fld f,Zad l] (ent (Zdx f l)):=by
 have hV:=ZkI f;have hlm:l.length≤maxLen:=by rw[Zd];omega
 have hT:=ZsG l hlm;have hva:(ZQ f).at'=f.at':=rfl;have hvn:(ZQ f).n=0:=rfl;unfold Zdx;generalize ZQ f=v at *;obtain⟨va,vn,vl⟩:=v;simp only at hva hvn;subst hva hvn
 by_cases k1:f.kind=1
 ·have e1:(f.kind==1)=true:=by simpa using k1
  rw[if_pos k1];refine pov Tryz.func37 (by decide) rfl Tryz.ntmps37 Tryz.results37 (by simp) (ZcY _) ?_;simp only[go_sem,fld,Zad];refine Za (hV) ?_ ?_ ?_;iterate 2 simp only[go_sem,fld]
  simp only[go_sem,ent,e1];refine Za (hT) ?_ ?_ ?_;iterate 2 simp only[go_sem,Zad]
  simp only[go_sem,ent]
 ·have e1:(f.kind==1)=false:=by simpa using k1
  rw[if_neg k1];refine pov Tryz.func37 (by decide) rfl Tryz.ntmps37 Tryz.results37 (by simp) (ZcY _) ?_;simp only[go_sem,fld,Zad];refine Za (hV) ?_ ?_ ?_;iterate 2 simp only[go_sem,fld]
  simp only[go_sem,ent,e1];refine Zbt 6 35 1 9 rfl rfl ?_;refine ZI (ι:= { x:Nat // x≤(l).length }) 56 (fun x=> [(2,.ptr 2 0),(4,.ptr 4 0),(5,.ptr 5 0),(6,.sl (.row 35) ((Zac (l.take x.1)).map .str)),(18,Zad l),(19,.int .i64 (l.length:Int)),(20,.int .i64 (x.1:Int))]) (fun x=> [(2,[.int .i64 f.at'.sc,.str f.at'.gr,.str f.at'.nm,.int .i64 f.kind,.str f.df,.sl .no (f.cases'.map .str),.int .i64 f.worth],false),(4,[.int .i64 0,.str [],.str [],.int .i64 0,.sl .nil []],false),(5,[.int .i64 f.at'.sc,.str f.at'.gr,.str f.at'.nm,.int .i64 0,.sl .no (vl.map .str)],false)]) (fun x=> [(35,.live ((Zac (l.take x.1)).length) (1) (9))]) (fun x=>(l).length-x.1) ⟨0,Nat.zero_le _⟩ ⟨rfl,(Fc7 rfl rfl rfl rfl rfl rfl rfl),(Fc3 ⟨rfl,rfl⟩ ⟨rfl,rfl⟩ ⟨rfl,rfl⟩),(fcs rfl fnl)⟩ (fun x=>⟨(Fc7 rfl rfl rfl (by simp[PV.ids,ZV]) rfl rfl rfl),(Fc3 rfl rfl rfl)⟩) (fun x=> ?_);obtain⟨k,hk⟩:=x;simp only at hk ⊢
  by_cases h:(k:Int)<(l.length:Int)
  ·(have hka:k<(l).length:=by omega);(have w1:=Zcd hka (hlm));(have i1:(0:Int)≤(k:Int):=by omega)
   have hsn:=Zp3 hka;have hnl:=Zf1 (l.take k);have htl:(l.take k).length≤k:=List.length_take_le _ _;have hrm:=Za1 (show(Zac (l.take k)).length+1≤1000000 by omega) (show 16≤1000 by omega);have hml:((Zac (l.take k)).map PV.str).length=(Zac (l.take k)).length:=List.length_map _;have hsz:=Zlz (Zac (l.take k));generalize hx:l.getD k default=x at *;cases k1:(x.kind==4)
   ·rw[k1,Bool.false_and,if_neg (by simp),List.append_nil]at hsn;simp only[go_sem,Zad,h,Zal hka,hx,opv,i1,k1,w1];exact⟨⟨k+1,by omega⟩,by show l.length-(k+1)<l.length-k;omega,⟨rfl,by simp only;rw[hsn];exact(Fc7 rfl rfl rfl rfl rfl rfl rfl),(Fc3 ⟨rfl,rfl⟩ ⟨rfl,rfl⟩ ⟨rfl,rfl⟩),by simp only;rw[hsn];exact fcs rfl fnl⟩⟩
   ·cases k2:x.has
    ·rw[k1,k2,Bool.and_false,if_neg (by simp),List.append_nil]at hsn;simp only[go_sem,Zad,h,Zal hka,hx,opv,i1,k1,k2,w1];exact⟨⟨k+1,by omega⟩,by show l.length-(k+1)<l.length-k;omega,⟨rfl,by simp only;rw[hsn];exact(Fc7 rfl rfl rfl rfl rfl rfl rfl),(Fc3 ⟨rfl,rfl⟩ ⟨rfl,rfl⟩ ⟨rfl,rfl⟩),by simp only;rw[hsn];exact fcs rfl fnl⟩⟩
    ·rw[k1,k2,Bool.and_self,if_pos rfl]at hsn;simp only[go_sem,Zad,h,Zal hka,hx,opv,i1,k1,k2,w1,hml,hsz,hrm];exact⟨⟨k+1,by omega⟩,by show l.length-(k+1)<l.length-k;omega,⟨rfl,by simp only;rw[hsn,List.map_append];exact(Fc7 rfl rfl rfl rfl rfl rfl rfl),(Fc3 ⟨rfl,rfl⟩ ⟨rfl,rfl⟩ ⟨rfl,rfl⟩),by simp only;rw[hsn,List.length_append];exact fcs rfl fnl⟩⟩
  ·have htk:l.take k=l:=List.take_of_length_le (by omega);rw[htk];have hnl:=Zf1 l
   by_cases k4:f.kind=4
   ·have e4:(f.kind==4)=true:=by simpa using k4
    rw[if_pos k4];simp only[go_sem,Zad,h,e4,ent]
   ·have e4:(f.kind==4)=false:=by simpa using k4
    rw[if_neg k4];have hml:((Zac l).map PV.str).length=(Zac l).length:=List.length_map _
    by_cases k5:(Zac l).length=0
    ·have e5:¬(0:Int)<((Zac l).length:Int):=by omega
     rw[if_pos k5];simp only[go_sem,Zad,h,e4,ent,hml,e5]
    ·have e5:(0:Int)<((Zac l).length:Int):=by omega
     have w5:IntKind.i64.wrap (((Zac l).length:Int)-1)=(((Zac l).length-1:Nat):Int):=by rw[w64 (by omega)];omega
     have hlt:(Zac l).length-1<(Zac l).length:=by omega
     have b5:(0:Int)≤(((Zac l).length-1:Nat):Int)∧(((Zac l).length-1:Nat):Int)<((Zac l).length:Int):=by omega
     rw[if_neg k5];simp only[go_sem,Zad,h,e4,ent,hml,e5,w5,b5.1,b5.2,ZR hlt]
open Go.PL Go.PL.Srt
def ZaI (m:List Eg) (l:List Opn) (b:Tg):List Opn:=(l.filter fun o=>(toT m o b).c==0&&(toT m o b).ok).map fun o=>(toT m o b).o
theorem Zsr (m:List Eg) {l:List Opn} (b:Tg) {k:Nat} (h:k<l.length):ZaI m (l.take (k+1)) b=ZaI m (l.take k) b++(if((toT m (l.getD k default) b).c==0&&(toT m (l.getD k default) b).ok)=true then [(toT m (l.getD k default) b).o]else []):=by
 unfold ZaI;rw[ZY (d:=default) h,List.filter_append,List.map_append];congr 1;generalize l.getD k default=x;cases hr:((toT m x b).c==0&&(toT m x b).ok)
 ·rw[List.filter_cons_of_neg (by rw[hr];simp),if_neg (by simp)];rfl
 ·rw[List.filter_cons_of_pos (by exact hr),if_pos rfl];rfl
theorem ZfB (m:List Eg) (l:List Opn) (b:Tg):(ZaI m l b).length≤l.length:=by unfold ZaI;rw[List.length_map];exact List.length_filter_le _ _
theorem ZrI (m:List Eg) (l:List Opn) (b:Tg) (hm:OkM m) (hr:RightM m) (hl:l.length≤100000) (ho:∀o∈l,OkOp o):PL.Pure Tryz.prog 34 [tr (Zf m),Zad l,tg b] (Zad (ZaI m l b)):=by
 have hlm:l.length≤maxLen:=by rw[Zd];omega
 refine pov Tryz.func34 (by decide) rfl Tryz.ntmps34 Tryz.results34 (by simp) (Zum _) ?_;simp only[go_sem,tr,Zad,tg];refine Zbt 7 35 15 37 rfl rfl ?_;refine ZI (ι:= { x:Nat // x≤(l).length }) 38 (fun x=> [(0,tr (Zf m)),(5,.ptr 5 0),(7,.sl (.row 35) ((ZaI m (l.take x.1) b).map opv)),(13,Zad l),(14,.int .i64 (l.length:Int)),(15,.int .i64 (x.1:Int))]) (fun x=> [(5,[.int .i64 b.r,.int .i64 b.n],false)]) (fun x=> [(35,.live ((ZaI m (l.take x.1) b).length) (15) (37))]) (fun x=>(l).length-x.1) ⟨0,Nat.zero_le _⟩ ⟨rfl,(Fc6 rfl rfl rfl rfl rfl rfl),(fcs ⟨rfl,rfl⟩ fnl),(fcs rfl fnl)⟩ (fun x=>⟨(Fc6 rfl rfl (by simp[PV.ids,ZV]) rfl rfl rfl),(fcs rfl fnl)⟩) (fun x=> ?_);obtain⟨k,hk⟩:=x;simp only at hk ⊢
 by_cases h:(k:Int)<(l.length:Int)
 ·(have hka:k<(l).length:=by omega);(have w1:=Zcd hka (hlm));(have i1:(0:Int)≤(k:Int):=by omega)
  have hT:=Zs6 m (l.getD k default) b hm hr (ho _ (ZC hka));have hsn:=Zsr m b hka;have hsl:=ZfB m (l.take k) b;have htl:(l.take k).length≤k:=List.length_take_le _ _;have hrm:=Za1 (show(ZaI m (l.take k) b).length+1≤1000000 by omega) (show 176≤1000 by omega);have hml:((ZaI m (l.take k) b).map opv).length=(ZaI m (l.take k) b).length:=List.length_map _;have hsz:=ZdO (ZaI m (l.take k) b);generalize toT m (l.getD k default) b=y at *;obtain⟨yo,yk,yc⟩:=y;have hsx:Sized 15 [opv yo]:=ZdO [yo];have hax:Zcy [opv yo]:=Zir [yo];generalize hx:l.getD k default=x at *;simp only at hsn;simp only[opv]at hsx hax;cases k1:(yc==0)
  ·rw[k1,Bool.false_and,if_neg (by simp),List.append_nil]at hsn;simp only[go_sem,Zad,h,Zal hka,hx,opv,i1];refine Za (hT) ?_ ?_ ?_;iterate 2 simp only[go_sem,tr,opv,tg]
   simp only[go_sem,ZjR,opv,k1,w1];exact⟨⟨k+1,by omega⟩,by show l.length-(k+1)<l.length-k;omega,⟨rfl,by simp only;rw[hsn];exact(Fc6 rfl rfl rfl rfl rfl rfl),fcs ⟨rfl,rfl⟩ fnl,by simp only;rw[hsn];exact fcs rfl fnl⟩⟩
  ·cases yk
   ·rw[k1,Bool.and_false,if_neg (by simp),List.append_nil]at hsn;simp only[go_sem,Zad,h,Zal hka,hx,opv,i1];refine Za (hT) ?_ ?_ ?_;iterate 2 simp only[go_sem,tr,opv,tg]
    simp only[go_sem,ZjR,opv,k1,w1];exact⟨⟨k+1,by omega⟩,by show l.length-(k+1)<l.length-k;omega,⟨rfl,by simp only;rw[hsn];exact(Fc6 rfl rfl rfl rfl rfl rfl),fcs ⟨rfl,rfl⟩ fnl,by simp only;rw[hsn];exact fcs rfl fnl⟩⟩
   ·rw[k1,Bool.and_self,if_pos rfl]at hsn;simp only[go_sem,Zad,h,Zal hka,hx,opv,i1];refine Za (hT) ?_ ?_ ?_;iterate 2 simp only[go_sem,tr,opv,tg]
    simp only[go_sem,ZjR,opv,k1,w1,hml,hsz,hrm,hsx,hax];exact⟨⟨k+1,by omega⟩,by show l.length-(k+1)<l.length-k;omega,⟨rfl,by simp only;rw[hsn,List.map_append];exact(Fc6 rfl rfl rfl rfl rfl rfl),fcs ⟨rfl,rfl⟩ fnl,by simp only;rw[hsn,List.length_append];exact fcs rfl fnl⟩⟩
 ·have htk:l.take k=l:=List.take_of_length_le (by omega);simp only[go_sem,Zad,h,htk]
open Go.PL Go.PL.Srt
structure Sp where
 item:Str
 at':Rf
 deriving DecidableEq,Inhabited
def spv (s:Sp):PV:= .agg [.str s.item,.int .i64 s.at'.sc,.str s.at'.gr,.str s.at'.nm]
def spO (o:Opn):Sp:=⟨o.item,o.at'⟩
def Zo (seen:List Opn) (s:Sp):List Opn:=seen.filter fun o=>decide (spO o=s)
theorem Zyq (a b:Sp):(a.item==b.item&&(a.at'.sc==b.at'.sc&&(a.at'.gr==b.at'.gr&&a.at'.nm==b.at'.nm)))=decide (a=b):=by
 obtain⟨i1,r1⟩:=a;obtain⟨i2,r2⟩:=b;cases r1;cases r2;rw[Bool.eq_iff_iff];simp
theorem Znu (s:Sp):∀(l:List Sp) (i:Nat),ZeG [.str,.int,.str,.str] [.str s.item,.int .i64 s.at'.sc,.str s.at'.gr,.str s.at'.nm] (l.map spv) i=some ((l.findIdx? fun x=>decide (s=x)).map (· + i))
 | [],i=>rfl
 |n::l,i=>by
  have ih:=Znu s l (i+1);simp only[List.map_cons,spv,ZeG,ZD,Zed,if_true,List.findIdx?_cons,Bool.and_true,Zyq]
  by_cases h:s=n
  ·simp[h]
  ·simp only[h,decide_false,ih];simp only[Bool.false_eq_true,if_false,Option.map_map];congr 2;funext x;simp;omega
theorem ZkW (s:Sp) (l:List Sp):ZeG [.str,.int,.str,.str] [.str s.item,.int .i64 s.at'.sc,.str s.at'.gr,.str s.at'.nm] (l.map spv) 0=some (l.findIdx? fun x=>decide (s=x)):=by
 rw[Znu];congr 1;cases List.findIdx? (fun x=>decide (s=x)) l<;>rfl
theorem ZqE {t:Sp} {l:List Sp}:(l.findIdx? fun x=>decide (t=x))=none↔t∉l:=by
 rw[List.findIdx?_eq_none_iff];constructor
 ·intro h hm;have:=h t hm;simp at this
 ·intro h x hx;simp only[decide_eq_false_iff_not];intro e;exact h (e▸hx)
theorem ZtR {t:Sp} {l:List Sp} {i:Nat} (h:(l.findIdx? fun x=>decide (t=x))=some i):i<l.length∧l.getD i default=t:=by
 obtain⟨h1,h2,_⟩:=List.findIdx?_eq_some_iff_getElem.1 h;exact⟨h1,by rw[getD_lt h1];exact(of_decide_eq_true h2).symm⟩
theorem ZlI {seen:List Opn} {s:Sp} (h:¬ ∃o∈seen,spO o=s):Zo seen s= []:=by
 unfold Zo;rw[List.filter_eq_nil_iff];intro o ho hd;exact h ⟨o,ho,of_decide_eq_true hd⟩
theorem Zhb (seen:List Opn) (s:Sp):(Zo seen s).length≤seen.length:=List.length_filter_le _ _
def Za6 (F:List Fd) (seen:List Opn) (sc:Int) (item:Str):List En:=(Zr F sc).map fun f=>Zdx f (Zo seen ⟨item,f.at'⟩)
theorem ZtF (F:List Fd) (seen:List Opn) (ks:List Sp) (sc:Int) (item:Str) (hF:OkFs F) (hs:seen.length≤100000) (hks:∀s,s∈ks↔ ∃o∈seen,spO o=s):
  PL.Pure Tryz.prog 35 [.int .i64 sc,.str item,.rptr [Zn F],.rptr [.rmap (ks.map spv) (ks.map fun s=>Zad (Zo seen s))]] (Zaj (Za6 F seen sc item)):=by
 have hFn:=hF.n;have hSc:=Zd3 F sc (by omega) hF.c;have hscl:(Zr F sc).length≤F.length:=List.length_filter_le _ _;unfold Za6;generalize hA:Zr F sc=A at *;have hAm:A.length≤maxLen:=by rw[Zd];omega
 have hV:∀f s,PL.Pure Tryz.prog 37 [fld f,Zad (Zo seen s)] (ent (Zdx f (Zo seen s))):=fun f s=>ZsP f _ (Nat.le_trans (Zhb _ _) hs)
 refine pov Tryz.func35 (by decide) rfl Tryz.ntmps35 Tryz.results35 (by simp) (Zjc _) ?_;simp only[go_sem,Zn];refine Za (hSc) ?_ ?_ ?_;iterate 2 simp only[go_sem,Zn]
 simp only[go_sem,Zn];refine Zbt 7 28 5 66 rfl rfl ?_;refine ZI (ι:= { x:Nat // x≤(A).length }) 31 (fun x=> [(1,.str item),(3,.rptr [.rmap (ks.map spv) (ks.map fun s=>Zad (Zo seen s))]),(7,.sl (.row 28) (((A.take x.1).map fun f=>Zdx f (Zo seen ⟨item,f.at'⟩)).map ent)),(12,Zn A),(13,.int .i64 (A.length:Int)),(14,.int .i64 (x.1:Int))]) (fun x=> []) (fun x=> [(28,.live (x.1) (5) (66))]) (fun x=>(A).length-x.1) ⟨0,Nat.zero_le _⟩ ⟨rfl,(Fc6 rfl rfl rfl rfl rfl rfl),fnl,(fcs rfl fnl)⟩ (fun x=>⟨(Fc6 rfl rfl (by simp[PV.ids,ZV]) rfl rfl rfl),fnl⟩) (fun x=> ?_);obtain⟨k,hk⟩:=x;simp only at hk ⊢
 by_cases h:(k:Int)<(A.length:Int)
 ·(have hka:k<(A).length:=by omega);(have w1:=Zcd hka (hAm));(have i1:(0:Int)≤(k:Int):=by omega)
  have htk:((A.take (k+1)).map fun f=>Zdx f (Zo seen ⟨item,f.at'⟩))=((A.take k).map fun f=>Zdx f (Zo seen ⟨item,f.at'⟩))++ [Zdx (A.getD k default) (Zo seen ⟨item,(A.getD k default).at'⟩)]:=by rw[ZY (d:=default) hka,List.map_append];rfl
  have hlk:((A.take k).map fun f=>Zdx f (Zo seen ⟨item,f.at'⟩)).length=k:=by simp;omega
  have hrm:=Za1 (show k+1≤1000000 by omega) (show 72≤1000 by omega);have hsz:=ZfC ((A.take k).map fun f=>Zdx f (Zo seen ⟨item,f.at'⟩));have hV1:=hV (A.getD k default) ⟨item,(A.getD k default).at'⟩;have hfp:=ZkW ⟨item,(A.getD k default).at'⟩ ks;have hget:∀i,i<ks.length→(ks.map fun s=>Zad (Zo seen s)).getD i .any=Zad (Zo seen (ks.getD i default)):=fun i hi=>by rw[getD_lt (by simpa using hi),getD_lt hi,List.getElem_map]
  generalize hx:A.getD k default=x at *;generalize ((A.take k).map fun f=>Zdx f (Zo seen ⟨item,f.at'⟩))=E at *;generalize hv:Zdx x (Zo seen ⟨item,x.at'⟩)=v at *;have hsx:Sized 5 [ent v]:=ZfC [v];have hax:Zcy [ent v]:=Ztg [v];have hml:(E.map ent).length=k:=by rw[List.length_map];exact hlk
  simp only[ent]at hsx hax;simp only at hfp;cases hf:ks.findIdx? (fun y=>decide ((⟨item,x.at'⟩:Sp)=y))with
  |none=>
   rw[hf]at hfp;have hn:Zo seen ⟨item,x.at'⟩= []:=ZlI (fun hh=>ZqE.1 hf ((hks _).2 hh));rw[hn]at hV1;simp only[go_sem,Zn,h,ZL hka,hx,fld,i1];refine Ze (by kernel_rfl) (by kernel_rfl) ?_;simp only[go_sem,hfp];refine Za (hV1) ?_ ?_ ?_;iterate 2 simp only[go_sem,fld,Zad]
   simp only[go_sem,ent,hsz,hsx,hax,hml,hrm,w1];exact⟨⟨k+1,by omega⟩,by show A.length-(k+1)<A.length-k;omega,⟨rfl,by simp only;rw[htk,List.map_append];exact(Fc6 rfl rfl rfl rfl rfl rfl),fnl,fcs rfl fnl⟩⟩
  |some i=>
   rw[hf]at hfp;obtain⟨hi,he⟩:=ZtR hf;have hg:=hget i hi;rw[he]at hg;simp only[go_sem,Zn,h,ZL hka,hx,fld,i1];refine Ze (by kernel_rfl) (by kernel_rfl) ?_;simp only[go_sem,hfp,hg];refine Za (hV1) ?_ ?_ ?_;iterate 2 simp only[go_sem,fld,Zad]
   simp only[go_sem,ent,hsz,hsx,hax,hml,hrm,w1];exact⟨⟨k+1,by omega⟩,by show A.length-(k+1)<A.length-k;omega,⟨rfl,by simp only;rw[htk,List.map_append];exact(Fc6 rfl rfl rfl rfl rfl rfl),fnl,fcs rfl fnl⟩⟩
 ·have htk:A.take k=A:=List.take_of_length_le (by omega);simp only[go_sem,Zn,h,htk,Zaj]
end Go.Proofs.YthingdchjkhfbaaGreat
