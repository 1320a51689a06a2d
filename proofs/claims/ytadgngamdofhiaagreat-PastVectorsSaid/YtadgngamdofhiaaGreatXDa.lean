/- Lemmas of the proof. -/
import Derived.Test.YtadgngamdofhiaaGreatPlH
import Derived.Test.YtadgngamdofhiaaGreatXAa
import Derived.Test.YtadgngamdofhiaaGreatXAe
import Derived.Test.YtadgngamdofhiaaGreatXAi
import Derived.Test.YtadgngamdofhiaaGreatXAz
import Derived.Test.YtadgngamdofhiaaGreatXBc
import Derived.Test.YtadgngamdofhiaaGreatXBd
import Derived.Test.YtadgngamdofhiaaGreatXBs
import Derived.Test.YtadgngamdofhiaaGreatXCc
import Derived.Test.YtadgngamdofhiaaGreatXCe
set_option maxHeartbeats 64000000
set_option maxRecDepth 20000
set_option linter.unusedVariables false
set_option linter.unusedSimpArgs false
open Inhabited renaming default→Jd
open Go.Proofs.Tryz
open Go Go.PL
open _root_.Array renaming getElem?_eq_some_iff→JX
open Bool renaming and_eq_true→Js,eq_false_iff→JP,true_and→Kc,eq_iff_iff→Kn,and_self→Kq,and_comm→Kr
open Classical renaming not_not→JI
open Int renaming natCast_nonneg→Ja,le_refl→JO,toNat_natCast→JQ,ofNat→KB
open List renaming length_append→Jb,length_cons→Jc,length_map→Je,append_nil→Jf,map_append→Jg,mem_singleton→Jh,getElem_of_mem→Ji,filter_cons_of_neg→Jk,filter_cons_of_pos→Jl,all_eq_true→Jm,length_filter_le→Jn,mem_filter→Jo,length_nil→Jp,take_of_length_le→Jr,mem_map→Jt,mem_append→Ju,take_length→Jy,append_assoc→Jz,length_take_le→JA,getElem_mem→JB,getElem_range→JC,mem_range→JD,findIdx?_eq_some_iff_getElem→JE,getElem_append_left→JF,map_cons→JG,getElem_map→JH,range→JJ,filterMap_cons_none→JL,filterMap_cons_some→JM,filter_append→JN,length_drop→JR,mem_cons_of_mem→JT,filter_sublist→JU,takeWhile_cons→JV,mem_cons_self→JW,findIdx?_eq_none_iff→JY,mem_cons→JZ,map_take→J2,ext_getElem→J4,length_take→J5,length_set→J9,getElem_set_ne→Kb,finRange→Kd,Pairwise→Ke,find?_eq_none→Kf,filter_filter→Kg,mem_mergeSort→Kh,map_nil→Kj,getElem_set→Kk,not_mem_nil→Kl,nil_append→Km,map_drop→Ks,take→Kt,set_set→Ku,Sublist→Kv,set→Kx,Nodup→KA,drop→KC
open Nat renaming zero_le→Jj,not_lt_zero→Jq,lt_or_ge→Jv,le_trans→J6,le_refl→Kw
open Op renaming bytesLess→J8
open Option renaming some→Ky
open PV renaming ids→Jw,sl→JK,idsL→JS,didsL→J3,str→J7,givableL→Ka,dids→Ki,giveL→Ko,givable→Kz,any→KD,int→KE
open Prod renaming ext→KF
namespace Go.Proofs.YtadgngamdofhiaaGreat
open Go.PL Go.PL.Srt
def D0 (y:Dc×Int):PV:= .tup [doc y.1,.int .i64 y.2]
theorem Wk (y:Dc×Int):(D0 y).dids= []:=by simp only[D0,Ki,J3,ZoA,Jf]
def YI (A:List Opn) (c:Str):List Opn:=A.filter λo=>o.cart==c
theorem ZjY {l:List Opn} {k:Nat} (c:Str) (h:k<l.length):YI (l.take (k+1)) c=YI (l.take k) c++(if((l.getD k Jd).cart==c)=true then [l.getD k Jd]else []):=by
 unfold YI;rw[ZW (d:=Jd) h,JN];congr 1;generalize l.getD k Jd=x;cases hr:(x.cart==c);rw[Jk (by rw[hr];simp),if_neg (by simp)];rfl;rw[Jl (by exact hr),if_pos rfl];rfl
def YA (m:List Eg) (l:List Opn) (cart:Str) (b:Tg):Dc×Int:=
 if 400<(l.length:Int)then(Jd,14)else if Ym cart=false then(Jd,5)else if(Ys (Zd m) b).2≠0 then(Jd,(Ys (Zd m) b).2)
 else(⟨Ux (Ys (Zd m) b).1 (YW m (YI (Wp m l) cart) b) 0 [],(XO (YI (Wp m l) cart) cart).map λi=>⟨i,Ux (Ys (Zd m) b).1 (YW m (YI (Wp m l) cart) b) 1 i⟩⟩,0)
def vsV (pre:List Opn) (ks:List Sp):List PV:=(JJ ks.length).map λj=> .sl (.row (1000+j)) ((Yi pre (ks.getD j Jd)).map opv)
def qV (n:Nat) (pre:List Opn) (ks:List Sp):PL.Rows:=λi=>if i=59 then some (.live n 15 62)else if 1000<=i/\i<1000+ks.length then some (.live (Yi pre (ks.getD (i-1000) Jd)).length 15 62)else none
theorem VX (pre:List Opn) (ks:List Sp):(vsV pre ks).length=ks.length:=by simp[vsV]
theorem Zqy (pre:List Opn) {ks:List Sp} {j:Nat} (h:j<ks.length):(vsV pre ks).getD j .any= .sl (.row (1000+j)) ((Yi pre (ks.getD j Jd)).map opv):=by
 unfold vsV;rw[getD_lt (by simpa using h),JH,JC]
theorem Wb (pre:List Opn) (o:Opn) (s:Sp):Yi (pre++ [o]) s=Yi pre s++(if spO o=s then [o]else []):=by
 unfold Yi;rw[JN];congr 1;by_cases h:spO o=s<;>simp[h]
theorem Zcg {ks:List Sp} (h:ks.Nodup) {i j:Nat} (hi:i<ks.length) (hj:j<ks.length) (e:ks.getD i Jd=ks.getD j Jd):i=j:=by
 rw[getD_lt hi,getD_lt hj]at e;exact(List.getElem_inj h).1 e
theorem Zr2 {pre:List Opn} {ks:List Sp} {o:Opn} {j:Nat} (hn:ks.Nodup) (hj:j<ks.length) (hs:ks.getD j Jd=spO o):
  (vsV pre ks).set j (.sl (.row (1000+j)) ((Yi pre (spO o)++ [o]).map opv))=vsV (pre++ [o]) ks:=by
 apply J4;simp[vsV];intro i h1 h2;have hi:i<ks.length:=by simpa[vsV]using h2
 rw[Kk];by_cases e:j=i;subst e;rw[if_pos rfl];simp only[vsV,JH,JC];rw[Wb,hs,if_pos rfl];rw[if_neg e];simp only[vsV,JH,JC];rw[Wb,if_neg (λh=>e (Zcg hn hj hi (by rw[hs,h]))),Jf]
theorem Zr1 {pre:List Opn} {ks:List Sp} {o:Opn} (hn:spO o∉ks) (h0:Yi pre (spO o)= []) (z:PV):
  (vsV pre ks++ [z]).set ks.length (.sl (.row (1000+ks.length)) ([o].map opv))=vsV (pre++ [o]) (ks++ [spO o]):=by
 apply J4;simp[vsV];intro i h1 h2;have hi:i<ks.length+1:=by simpa[vsV]using h2
 rw[Kk];by_cases e:ks.length=i;subst e;rw[if_pos rfl];simp only[vsV,JH,JC];have:(ks++ [spO o]).getD ks.length Jd=spO o:=by rw[getD_lt (by simp)];simp
 rw[this,Wb,if_pos rfl,h0,Km];have hi':i<ks.length:=by omega
 rw[if_neg e,JF (by simpa[vsV]using hi')];simp only[vsV,JH,JC];have:(ks++ [spO o]).getD i Jd=ks.getD i Jd:=by rw[getD_lt (by simp;omega),getD_lt hi',JF hi']
 rw[this,Wb,if_neg,Jf];intro h;rw[getD_lt hi']at h;exact hn (h▸JB hi')
theorem Zfy (n:Nat) (pre:List Opn) {ks:List Sp} {j:Nat} (h:j<ks.length):qV n pre ks (1000+j)=some (.live (Yi pre (ks.getD j Jd)).length 15 62):=by
 unfold qV;rw[if_neg (by omega),if_pos (by omega),show 1000+j-1000=j by omega]
theorem ZnB {pre:List Opn} {ks:List Sp} {i:Nat} (h:i<ks.length):∀r∈((vsV pre ks).getD i .any).ids,r= .r (1000+i):=λr hr=>by
 rw[Zqy pre h]at hr;simpa[Jw]using hr
theorem ZmE {n:Nat} {pre:List Opn} {ks:List Sp} {x:Opn} {j i:Nat} (hnd:ks.Nodup) (hj:j<ks.length) (hje:ks.getD j Jd=spO x) (hi:i≠1000+j):qV n (pre++ [x]) ks i=qV n pre ks i:=by
 unfold qV;by_cases h1:i=59;rw[if_pos h1,if_pos h1];rw[if_neg h1,if_neg h1];by_cases h2:1000<=i/\i<1000+ks.length;rw[if_pos h2,if_pos h2,Wb,if_neg,Jf];intro e;have:=Zcg hnd hj (show i-1000<ks.length by omega) (by rw[hje,e]);omega;rw[if_neg h2,if_neg h2]
theorem Zqn {n:Nat} {pre:List Opn} {ks:List Sp} {x:Opn} {i:Nat} (hn:spO x∉ks) (hi:i≠1000+ks.length):qV n (pre++ [x]) (ks++ [spO x]) i=qV n pre ks i:=by
 unfold qV;by_cases h1:i=59;rw[if_pos h1,if_pos h1];rw[if_neg h1,if_neg h1];by_cases h2:1000<=i/\i<1000+ks.length;have hlt:i-1000<ks.length:=by omega
 have e:(ks++ [spO x]).getD (i-1000) Jd=ks.getD (i-1000) Jd:=by rw[getD_lt (by simp;omega),getD_lt hlt,JF hlt]
 rw[if_pos h2,if_pos (by simp;omega),e,Wb,if_neg,Jf];intro e;rw[getD_lt hlt]at e;exact hn (e▸JB hlt);rw[if_neg h2,if_neg (by simp;omega)]
def vwL (cart:Str) (mine seen:List Opn) (k:Nat):List (Nat×PV):= [(2,.str cart),(8,.ptr 8 0),(10,.ptr 10 0),(12,.sl (.row 59) (mine.map opv)),(15,.ptr 15 0),(65,Zq seen),(66,.int .i64 (seen.length:Int)),(67,.int .i64 (k:Int))]
def vwH (F:List Fd) (x:PV):List (Nat×List PV):= [(8,[.sl .nil [],.sl .nil []]),(10,[.sl .no (F.map fld)]),(15,[x])]
theorem ZdX {cart:Str} {mine seen:List Opn} {k:Nat} {F:List Fd} {x:PV} {q:PL.Rows} (h:q 59≠none):∀y∈vwL cart mine seen k,∀r∈y.2.ids,Zii (vwH F x) q r/\ ∀d,1000<=d->r≠ .r d:=by
 refine fcs ?_ (fcs ?_ (fcs ?_ (fcs ?_ (fcs ?_ (fcs ?_ (fcs ?_ (fcs ?_ fnl)))))))<;>intro r hr<;>simp[Jw,Zq]at hr<;>subst hr
 exact⟨⟨_,JW,rfl⟩,λd _=>by simp⟩;exact⟨⟨_,JT _ JW,rfl⟩,λd _=>by simp⟩;exact⟨h,λd hd=>by simp;omega⟩;exact⟨⟨_,JT _ (JT _ JW),rfl⟩,λd _=>by simp⟩
theorem ZdW {F:List Fd} {x:PV} (hx:x.ids= []):∀y∈vwH F x,∀c∈y.2,c.ids= []:=
 Fc3 (by simp[Jw]) (by simp[Jw]) (by simp[hx])
theorem Zrg (n:Nat) (pre:List Opn) (ks:List Sp):qV n pre ks 59≠none:=by unfold qV;simp
theorem ZnC (pre:List Opn) (ks:List Sp):(vsV pre ks).map PV.share=ks.map λs=>Zq (Yi pre s):=by
 apply J4;simp[vsV];intro i h1 h2;have hi:i<ks.length:=by simpa using h2
 simp only[vsV,JH,JC,PV.share,Tok.sh,Zq];rw[getD_lt hi]
theorem ZnA (pre:List Opn) (ks:List Sp):∀p∈vsV pre ks,p.clean=true:=λp hp=>by
 obtain⟨j,_,rfl⟩:=Jt.1 hp;rfl
def q59 (n:Nat):PL.Rows:=upd (λ_=>none) 59 (some (.live n 15 62))
theorem ZkV (m:List Eg) (l:List Opn) (cart:Str) (b:Tg) (hm:OkM m) (hr:RightM m) (hl:l.length<=400) (ho:∀o∈l,OkOp o) (hU:(l.map Opn.id).Nodup) (hn:Ym cart=true) (hc:(Ys (Zd m) b).2=0):
  Pp 28 [tr (Zd m),Zq l,.str cart,tg b] (D0 (⟨Ux (Ys (Zd m) b).1 (YW m (YI (Wp m l) cart) b) 0 [],(XO (YI (Wp m l) cart) cart).map λi=>⟨i,Ux (Ys (Zd m) b).1 (YW m (YI (Wp m l) cart) b) 1 i⟩⟩,0)):=by
 have hcl:∀l:List Opn,∀p∈l.map opv,p.ids= []:=λl=>YM X2 l
 have hN:=Xk cart;rw[hn]at hN;have hS:=X0 m b hm;have hF:=DR hm (a:=b) hc;have hL:=Zca m l hm (by omega) ho hU;have hll:=Sd m l;have hlo:∀o∈Wp m l,OkOp o:=λo h=>ho o (Zil h)
 generalize Wp m l=A at *;have hmo:∀o∈YI A cart,OkOp o:=λo h=>hlo o (Jo.1 h).1
 have hml0:(YI A cart).length<=A.length:=Jn _ _;have hT:=Zjp m (YI A cart) b hm hr (by omega) hmo;have hI:=ZjS (YI A cart) cart (by omega);have hsl:=UE m (YI A cart) b;have hfill:=λsc it ks hks=>ZlB (Ys (Zd m) b).1 (YW m (YI A cart) b) ks sc it hF (by omega) hks
 have c1:¬(400:Int)<(l.length:Int):=by omega
 have c2:((Ys (Zd m) b).2 !=0)=false:=by simp[hc]
 generalize Ys (Zd m) b=X at *;obtain⟨F,xc⟩:=X;simp only at hc hF hfill c2 ⊢;subst hc;refine ZA func28 rfl ntmps28 results28 (Wk _) ?_;simp only[go_sem,tr,Zq,tg,c1];refine vc1 hN ?_;simp only[go_sem];refine vc5 hS ?_;simp only[go_sem,ZM,Zi,c2];refine GS 46 hL (hcl _) (by simp[Jw,tr,Zq]) rfl rfl ?_;simp only[go_sem,PV.ren,id];refine YO 12 59 15 62 rfl rfl ?_;refine Xa (ι:= { k:Nat // k<=A.length }) 109 (λx=> [(0,tr (Zd m)),(2,.str cart),(7,.ptr 7 0),(8,.ptr 8 0),(10,.ptr 10 0),(12,.sl (.row 59) ((YI (A.take x.1) cart).map opv)),(46,.vsl 46 A.length 15),(47,.int .i64 (A.length:Int)),(48,.int .i64 (x.1:Int))]) (λ_=> [(7,[.int .i64 b.r,.int .i64 b.n],false),(8,[.sl .nil [],.sl .nil []],false),(10,[.sl .no (F.map fld)],false)]) (λx=> [(46,.vec A.length 15 62),(59,.live (YI (A.take x.1) cart).length 15 62)]) (λ_=> []) (λ_=> []) (λ_=> [(46,A.map opv)]) (λ_=> []) [] [] [] (λx=>A.length-x.1) ⟨0,Jj _⟩
  ⟨⟨rfl,(Fc9 rfl rfl rfl rfl rfl rfl rfl rfl rfl),(Fc3 ⟨rfl,rfl⟩ ⟨rfl,rfl⟩ ⟨rfl,rfl⟩),(Fc2 rfl rfl)⟩,fnl,fnl,(fcs rfl fnl),fnl,fnl,fnl⟩ (λx=>⟨⟨(Fc9 rfl rfl rfl rfl rfl rfl rfl rfl rfl),(Fc3 rfl rfl rfl)⟩,by simp[Yk X2],fnl,by simp,fnl,fnl⟩) (λx=> ?_)
 obtain⟨k,hk⟩:=x;simp only;by_cases h:(k:Int)<(A.length:Int);have hka:k<A.length:=by omega
 have i0:=Ja k
 have w1:=wk9 (k:=k) (by omega)
 have hsn:=ZjY cart hka;have hml1:(YI (A.take k) cart).length<=k:=J6 (Jn _ _) (JA _ _);have hrm:=Yb (show(YI (A.take k) cart).length+1<=1000000 by omega) (show 176<=1000 by omega);have hml:((YI (A.take k) cart).map opv).length=(YI (A.take k) cart).length:=Je _;have hsz:=Yx (YI (A.take k) cart);generalize hx:A.getD k Jd=x at *;have hsx:Sized 15 [opv x]:=Yx [x];have hax:Xw [opv x]:=Wi [x];simp only[opv]at hsx hax;cases k1:(x.cart==cart);rw[k1,if_neg (by simp),Jf]at hsn;simp only[go_sem,h,i0,Zl hka,hx,opv,k1,w1];exact⟨⟨k+1,by omega⟩,nx9 (by omega),⟨⟨rfl,by simp only;rw[hsn];exact(Fc9 rfl rfl rfl rfl rfl rfl rfl rfl rfl),(Fc3 ⟨rfl,rfl⟩ ⟨rfl,rfl⟩ ⟨rfl,rfl⟩),by simp only;rw[hsn];exact(Fc2 rfl rfl)⟩,fnl,fnl,(fcs rfl fnl),fnl,fnl,fnl⟩⟩;rw[k1,if_pos rfl]at hsn;simp only[go_sem,h,i0,Zl hka,hx,opv,k1,w1,hml,hsz,hrm,hsx,hax];exact⟨⟨k+1,by omega⟩,nx9 (by omega),⟨⟨rfl,by simp only;rw[hsn,Jg];exact(Fc9 rfl rfl rfl rfl rfl rfl rfl rfl rfl),(Fc3 ⟨rfl,rfl⟩ ⟨rfl,rfl⟩ ⟨rfl,rfl⟩),by simp only;rw[hsn,Jb];exact(Fc2 rfl rfl)⟩,fnl,fnl,(fcs rfl fnl),fnl,fnl,fnl⟩⟩;have htk:A.take k=A:=Jr (by omega);simp only[go_sem,h,htk];intro mb;refine vc7 hT ?_;simp only[go_sem,Zq];generalize hse:YW m (YI A cart) b=seen at *;generalize hmi:YI A cart=mine at *;refine ZrJ (ι:= { x:Nat×List Sp // x.1<=seen.length/\(∀s,s∈x.2↔ ∃o∈seen.take x.1,spO o=s)/\x.2.Nodup })
  (λx=>vst 109 (vwL cart mine seen x.1.1) (vwH F (.mref mb)) (qV mine.length (seen.take x.1.1) x.1.2) (Tl mb ⟨x.1.2.map spv,vsV (seen.take x.1.1) x.1.2⟩))
  (λx=>seen.length-x.1.1) ⟨(0,[]),Jj _,λs=>by simp,List.nodup_nil⟩ ?_ (λx=> ?_)
 refine(Gh.oToOm (b:=mb) (c:=⟨[],[]⟩) (by simp[upd,St.with,Hp.new])).trans (Zic rfl (Fc8 rfl rfl rfl rfl rfl rfl rfl rfl) (Fc3 ⟨rfl,rfl⟩ ⟨rfl,rfl⟩ ⟨rfl,rfl⟩) (λi=> ?_) (λi=> ?_) (λy hy r hr=>(ZdX (Zrg _ _ _) y hy r hr).1) (λy hy c hc r hr=>by rw[ZdW (x:= .mref mb) rfl y hy c hc]at hr;cases hr) (λb' c' hbc p hp r hr=> ?_));by_cases e:i=59;right;subst e;rfl;left;show qV mine.length [] [] i=none;unfold qV;rw[if_neg e,if_neg (by rintro ⟨h1,h2⟩;rw[Jp]at h2;omega)];by_cases e:mb=i;right;subst e;show Tl mb _ mb=upd _ mb _ mb;rw[Sg,Za];rfl;left;unfold Tl;exact Zk _ _ e;obtain⟨rfl,rfl⟩:=Zdt hbc;simp[vsV]at hp;obtain⟨⟨k,ks⟩,hk,hks,hnd⟩:=x;simp only at hk hks hnd ⊢;by_cases h:(k:Int)<(seen.length:Int);refine⟨_,Gh.refl _,?_⟩;have hka:k<seen.length:=by omega
 have i0:=Ja k
 have w1:=wk9 (k:=k) (by omega)
 have htk1:seen.take (k+1)=seen.take k++ [seen.getD k Jd]:=ZW (d:=Jd) hka;generalize hx:seen.getD k Jd=x at *;have hfp:=ZbQ (spO x) ks;simp only[spO]at hfp;have hsx:Sized 15 [opv x]:=Yx [x];have hax:Xw [opv x]:=Wi [x];simp only[opv]at hsx hax;have q80:qV mine.length (seen.take k) ks 80=none:=by unfold qV;rw[if_neg (by omega),if_neg (by omega)]
 have q82:qV mine.length (seen.take k) ks 82=none:=by unfold qV;rw[if_neg (by omega),if_neg (by omega)]
 have hr1:=Yb (show 1<=1000000 by omega) (show 176<=1000 by omega);cases hf:ks.findIdx? (λy=>decide (spO x=y))with
 |none=>
  have hnk:spO x∉ks:=Zig.1 hf;have h00:Yi (seen.take k) (spO x)= []:=ZcE λhh=>hnk ((hks _).2 hh)
  have hnew:=Zr1 hnk h00 (.sl .nil []);simp only[spO]at hf;rw[hf]at hfp;simp only[go_sem,vst,vwL,vwH,h,i0,Zq,Zl hka,hx,opv,Sg,hfp,q80,q82,hr1,w1];refine⟨by omega,by simp,⟨(k+1,ks++ [spO x]),hka,λs=> ?_,?_⟩,nx9 (by omega),?_⟩
  ·rw[htk1,Ju,hks s,Jh];constructor
   ·rintro (⟨o,h1,h2⟩|rfl)
    ·exact⟨o,Ju.2 (.inl h1),h2⟩
    ·exact⟨x,by simp,rfl⟩
   ·rintro ⟨o,h1,h2⟩
    rcases Ju.1 h1 with h1|h1
    ·exact .inl ⟨o,h1,h2⟩
    ·rw[Jh.1 h1]at h2;exact .inr h2.symm
  ·refine List.nodup_append.2 ⟨hnd,by simp,λa ha c hc e=> ?_⟩;rw[Jh.1 hc]at e;exact hnk (e▸ha)
  ·show Gh _ (vst 109 (vwL cart mine seen (k+1)) (vwH F (.mref mb)) (qV mine.length (seen.take (k+1)) (ks++ [spO x])) (Tl mb ⟨(ks++ [spO x]).map spv,vsV (seen.take (k+1)) (ks++ [spO x])⟩));have e:((vsV (seen.take k) ks++ [JK .nil []]).set ks.length (.sl (.row 82) [opv x])).set ks.length (.sl (.row (1000+ks.length)) [opv x])=vsV (seen.take k++ [x]) (ks++ [spO x]):=by rw[Ku];exact hnew
   rw[htk1,<-e,Jg];refine Ze3 (kk:=82) (d:=1000+ks.length) (sz:=15) (k:=1) (e:=62) (c:=⟨ks.map spv++ [spv (spO x)],(vsV (seen.take k) ks++ [JK .nil []]).set ks.length (.sl (.row 82) [opv x])⟩) (es:= [opv x]) rfl (Fc8 rfl rfl rfl rfl rfl rfl rfl rfl) (Fc3 ⟨rfl,rfl⟩ ⟨rfl,rfl⟩ ⟨rfl,rfl⟩) ?_ ?_ ?_ rfl (by omega) ?_ ?_ (λi h1 h2=> ?_) (λy hy r hr=> ?_) (λy hy c hc r hr=>by rw[ZdW (x:= .mref mb) rfl y hy c hc]at hr;cases hr) (λi h1 h2 r hr=> ?_)
   ·show upd _ mb _ mb=_;rw[Za];rfl
   ·simp[VX]
   ·rw[getD_lt (by simp[VX])];simp
   ·have hl0:ks.length<(ks++ [spO x]).length:=by simp
    rw[Zfy _ _ hl0,getD_lt hl0,List.getElem_append_right (Kw _)];simp only[Nat.sub_self,List.getElem_cons_zero];rw[Wb,h00,if_pos rfl];rfl
   ·rw[Zqn hnk (by omega)];exact q82
   ·rw[Zqn hnk h1]
    by_cases e80:i=80
    ·left;rw[e80];exact q80
    ·right;show _=upd (upd (qV mine.length (seen.take k) ks) 80 _) 82 _ i;rw[Zk _ _ (λe=>h2 e.symm),Zk _ _ (λe=>e80 e.symm)]
   ·have:=ZdX (F:=F) (x:= .mref mb) (Zrg mine.length (seen.take k++ [x]) (ks++ [spO x])) y hy r hr;exact⟨this.1,this.2 _ (by omega)⟩
   ·have hi:i<ks.length:=by simp[VX]at h1;omega
    have hg:((vsV (seen.take k) ks++ [JK .nil []]).set ks.length (.sl (.row 82) [opv x])).getD i .any=(vsV (seen.take k) ks).getD i .any:=by
     rw[getD_lt (by simp[VX];omega),getD_lt (by rw[VX];exact hi),Kb (by omega),JF (by rw[VX];exact hi)]
    rw[show(({ ks:=ks.map spv++ [spv (spO x)],vs:=(vsV (seen.take k) ks++ [JK .nil []]).set ks.length (.sl (.row 82) [opv x]) }:MapC).vs.getD i .any)=(vsV (seen.take k) ks).getD i .any from hg]at hr;rw[ZnB hi r hr];refine⟨?_,by simp;omega⟩;show qV _ _ _ (1000+i)≠none;rw[Zfy _ _ (by simp;omega)];simp
 |some j=>
  obtain⟨hj,hje⟩:=ZlR hf;have hvs:=Zqy (seen.take k) hj;have hqj:=Zfy mine.length (seen.take k) hj;rw[hje]at hvs hqj;have hset:=Zr2 hnd hj hje (pre:=seen.take k);have htl:=ZaR (seen.take k) (spO x);have htk2:(seen.take k).length<=k:=JA _ _;generalize hth:Yi (seen.take k) (spO x)=th at *;have hml2:(th.map opv).length=th.length:=Je _;have hszt:=Yx th;have hrm:=Yb (show th.length+1<=1000000 by omega) (show 176<=1000 by omega);simp only[spO]at hf;rw[hf]at hfp;have n80:¬(80=1000+j):=by omega
  have n82:¬(82=1000+j):=by omega
  simp only[go_sem,vst,vwL,vwH,h,i0,Zq,Zl hka,hx,opv,Sg,hfp,q80,q82,hr1,w1,n80,n82,hvs,hqj,hml2,hszt,hrm,hsx,hax];refine⟨by omega,hj,⟨(k+1,ks),hka,λs=> ?_,hnd⟩,nx9 (by omega),?_⟩
  ·rw[htk1,hks s];constructor
   ·rintro ⟨o,h1,h2⟩;exact⟨o,Ju.2 (.inl h1),h2⟩
   ·rintro ⟨o,h1,h2⟩
    rcases Ju.1 h1 with h1|h1
    ·exact⟨o,h1,h2⟩
    ·rw[Jh.1 h1]at h2;have:spO x∈ks:=by rw[<-hje,getD_lt hj];exact JB hj
     obtain⟨o',h3,h4⟩:=(hks _).1 this;exact⟨o',h3,h4.trans h2⟩
  ·show Gh _ (vst 109 (vwL cart mine seen (k+1)) (vwH F (.mref mb)) (qV mine.length (seen.take (k+1)) ks) (Tl mb ⟨ks.map spv,vsV (seen.take (k+1)) ks⟩));rw[Jg]at hset;have e:((vsV (seen.take k) ks).set j (.sl (.row 82) (th.map opv++ [opv x]))).set j (.sl (.row (1000+j)) (th.map opv++ [opv x]))=vsV (seen.take k++ [x]) ks:=by rw[Ku];exact hset
   rw[htk1,<-e];refine Ze3 (kk:=82) (d:=1000+j) (sz:=15) (k:=th.length+1) (e:=62) (c:=⟨ks.map spv,(vsV (seen.take k) ks).set j (.sl (.row 82) (th.map opv++ [opv x]))⟩) (es:=th.map opv++ [opv x]) rfl (Fc8 rfl rfl rfl rfl rfl rfl rfl rfl) (Fc3 ⟨rfl,rfl⟩ ⟨rfl,rfl⟩ ⟨rfl,rfl⟩) ?_ ?_ ?_ rfl (by omega) ?_ ?_ (λi h1 h2=> ?_) (λy hy r hr=> ?_) (λy hy c hc r hr=>by rw[ZdW (x:= .mref mb) rfl y hy c hc]at hr;cases hr) (λi h1 h2 r hr=> ?_)
   ·show upd _ mb _ mb=_;rw[Za];rfl
   ·show j<(Kx _ _ _).length;rw[J9,VX];exact hj
   ·show(Kx _ _ _).getD j KD=_;rw[getD_lt (by rw[J9,VX];exact hj)];simp
   ·rw[Zfy _ _ hj,hje,Wb,hth,if_pos rfl,Jb];rfl
   ·rw[ZmE hnd hj hje (by omega)];exact q82
   ·rw[ZmE hnd hj hje h1]
    by_cases e80:i=80
    ·left;rw[e80];exact q80
    ·right;show _=upd (upd (upd (qV mine.length (seen.take k) ks) 80 _) (1000+j) _) 82 _ i;rw[Zk _ _ (λe=>h2 e.symm),Zk _ _ (λe=>h1 e.symm),Zk _ _ (λe=>e80 e.symm)]
   ·have:=ZdX (F:=F) (x:= .mref mb) (Zrg mine.length (seen.take k++ [x]) ks) y hy r hr;exact⟨this.1,this.2 _ (by omega)⟩
   ·have hi:i<ks.length:=by simpa[VX]using h1
    have hr:r∈((Kx (vsV (seen.take k) ks) j (.sl (.row 82) (th.map opv++ [opv x]))).getD i .any).ids:=hr;rw[getD_lt (d:=KD) (by rw[J9,VX];exact hi),Kb (Ne.symm h2),<-getD_lt (d:=KD) (by rw[VX];exact hi)]at hr;rw[ZnB hi r hr];refine⟨?_,by simp;omega⟩;show qV _ _ _ (1000+i)≠none;rw[Zfy _ _ hi];simp
 have htk2:seen.take k=seen:=Jr (by omega);have hks2:=hks;rw[htk2]at hks2;have g:Gh (vst 109 (vwL cart mine seen k) (vwH F (.mref mb)) (qV mine.length seen ks) (Tl mb ⟨ks.map spv,vsV seen ks⟩)) (vst 109 (vwL cart mine seen k) (vwH F (.rmap (ks.map spv) (ks.map λs=>Zq (Yi seen s)))) (q59 mine.length) (λ_=>none)):=by
  refine(Gh.omToO (b:=mb) (c:=⟨ks.map spv,vsV seen ks⟩) (Sg _ _) (ZnA _ _)).trans ?_;rw[ZnC];refine(Gh.pubMap (b:=mb) (i:=15) (c:=⟨ks.map spv,ks.map λs=>Zq (Yi seen s)⟩) (Za _ _ _) rfl rfl).trans ?_;refine Zic rfl (Fc8 rfl rfl rfl rfl rfl rfl rfl rfl) (Fc3 ⟨rfl,rfl⟩ ⟨rfl,rfl⟩ ⟨rfl,rfl⟩) (λi=> ?_) (λi=> .inl rfl) (λy hy r hr=>(ZdX (q:=q59 mine.length) (by simp[q59,upd]) y hy r hr).1) (λy hy c hc r hr=>by rw[ZdW (x:= .rmap (ks.map spv) (ks.map λs=>Zq (Yi seen s))) rfl y hy c hc]at hr;cases hr) (λb' c' hbc=>by cases hbc);by_cases e:59=i;right;subst e;rfl;left;exact Zk _ _ e
 refine⟨_,by rw[htk2];exact g,?_⟩;have hf0:=hfill 0 [] ks hks2;have hf1:=λit=>hfill 1 it ks hks2
 generalize Ux F seen 0 []=E0 at *;have hrl:(XO mine cart).length<=1000:=by
  unfold XO;have h1:=UT (TP (Xn mine cart));have h2:=Se mine cart;have h3:(TP (Xn mine cart)).length=(Xn mine cart).length:=by simp[TP]
  omega
 generalize XO mine cart=its at *;generalize hfm:(λi=>Ux F seen 1 i)=fm at *;have hf1:∀it,Pp 70 [.int .i64 1,.str it,.rptr [Zi F],.rptr [.rmap (ks.map spv) (ks.map λs=>Zq (Yi seen s))]] (YG (fm it)):=λit=>by rw[<-hfm];exact hf1 it
 have hrw:(its.map λi=>(⟨i,Ux F seen 1 i⟩:Rw))=its.map λi=>⟨i,fm i⟩:=by rw[<-hfm]
 rw[hrw];obtain⟨rws,hrws⟩:∃rws:List Rw,rws=its.map λi=>⟨i,fm i⟩:=⟨_,rfl⟩
 rw[<-hrws];have hlr:its.length=rws.length:=by rw[hrws];simp
 have hgr:∀k,k<rws.length->rws.getD k Jd=⟨its.getD k [],fm (its.getD k [])⟩:=λk hk=>by
  have hki:k<its.length:=by omega
  subst hrws;rw[getD_lt hk,getD_lt hki];simp
 clear hrw hfill hrws;have him:its.length<=maxLen:=by rw[Zb];omega
 simp only[go_sem,vst,vwL,vwH,h,q59];refine vc2 hf0 ?_;simp only[go_sem,YG];refine vc7 hI ?_;simp only[go_sem];rw[hlr];refine Zt (ι:= { k:Nat // k<=rws.length }) 109 (λx=> [(8,.ptr 8 0),(19,.fn 70 [.ptr 10 0,.ptr 15 0]),(20,.ptr 20 0),(91,.sl .no (its.map .str)),(92,.int .i64 (rws.length:Int)),(93,.int .i64 (x.1:Int))]) (λx=> [(8,[.sl .nil [],.sl .nil []],false),(10,[.sl .no (F.map fld)],true),(15,[.rmap (ks.map spv) (ks.map λs=>Zq (Yi seen s))],true),(20,[.sl .no (E0.map ent),ZkE 105 rws x.1],false)]) (λx=>ZkF 105 x.1) (λx=>rws.length-x.1) ⟨0,Jj _⟩
  ⟨rfl,(Fc6 rfl rfl rfl rfl rfl rfl),Fc4 ⟨rfl,rfl⟩ ⟨rfl,rfl⟩ ⟨rfl,rfl⟩ ⟨rfl,rfl⟩,fnl⟩ (λx=> ?_) (λx=> ?_)
 obtain⟨k,hk⟩:=x;cases k with
 |zero=>exact⟨(Fc6 rfl rfl rfl rfl rfl rfl),(Fc4 rfl rfl rfl rfl)⟩
 |succ k=>exact⟨(Fc6 rfl rfl rfl rfl rfl rfl),Fc4 rfl rfl rfl (by simp[ZkE,ZkF,Jw,JS,ZG])⟩
 clear hk hks hks2 hnd g h htk2;obtain⟨k,hk⟩:=x;simp only;by_cases h:(k:Int)<(rws.length:Int);have hka:k<rws.length:=by omega
 have hki:k<its.length:=by omega
 have w1:=wk9 (k:=k) (by omega)
 have i1:=Ja k
 have hli:(its.map J7).length=rws.length:=by rw[Je,hlr]
 have hO:=hf1 (its.getD k []);have hsn:(rws.take (k+1)).map row=(rws.take k).map row++ [row (rws.getD k Jd)]:=by rw[ZW (d:=Jd) hka,Jg];rfl
 rw[hgr k hka]at hsn;have hsz:=Wx (rws.take k);have hr0:=Yb (show 1<=1000000 by omega) (show 40<=1000 by omega);have hln:((rws.take k).map row).length=k:=by simp;omega
 have g0:=ZV hki;generalize its.getD k []=it at *;have hat:=Zk6 [⟨it,fm it⟩];have hst:=Wx [⟨it,fm it⟩];cases k with
 |zero=>
  have h':(0:Int)<(rws.length:Int):=by simpa using h
  simp only[go_sem,ZkE,ZkF,h',g0,i1,hli];refine vDq ?_;simp only[go_sem];refine vc2 hO ?_;have w0:IntKind.i64.wrap 1=1:=w64 (by omega);simp only[go_sem,YG,w1,w0];refine⟨hr0,⟨⟨0+1,by omega⟩,nx9 (by omega),⟨rfl,(Fc6 rfl rfl rfl rfl rfl rfl),Fc4 ⟨rfl,rfl⟩ ⟨rfl,rfl⟩ ⟨rfl,rfl⟩ ⟨?_,rfl⟩,fcs rfl fnl⟩⟩⟩;show some [JK .no _,JK (.row 105) _]=some [JK .no _,JK (.row 105) _];rw[hsn];rfl
 |succ k=>
  have hl3:(rws.take (k+1)).length=k+1:=by rw[J5];omega
  have hr:=Yb (show k+1+1<=1000000 by omega) (show 40<=1000 by omega);simp only[go_sem,ZkE,ZkF,h,g0,i1,hli];refine vDq ?_;simp only[go_sem];refine vc2 hO ?_;simp only[go_sem,YG,w1];refine⟨⟨hl3.symm,Wx _,by rw[hl3];exact hr⟩,⟨⟨k+1+1,by omega⟩,by show rws.length-(k+1+1)<rws.length-(k+1);omega,⟨rfl,(Fc6 rfl rfl rfl rfl rfl rfl),Fc4 ⟨rfl,rfl⟩ ⟨rfl,rfl⟩ ⟨rfl,rfl⟩ ⟨?_,rfl⟩,fcs ?_ fnl⟩⟩⟩
  ·show some [JK .no _,JK (.row 105) _]=some [JK .no _,JK (.row 105) _];rw[hsn];rfl
  ·show some _=some _;rw[hl3]
 obtain rfl:k=rws.length:=by omega
 cases rws with
 |nil=>
  have h':¬(0:Int)<0:=by omega
  simp only[go_sem,ZkE,ZkF,h'];rfl
 |cons r rs=>
  have ht:(r::rs).take (rs.length+1)=r::rs:=Jy (l:=r::rs);have h':¬((rs.length+1:Nat):Int)<((rs.length+1:Nat):Int):=by omega
  simp only[go_sem,ZkE,ZkF,h',ht];rw[Jy];rfl
theorem T6:doc Jd= .agg [.sl .no [],.sl .no []]:=rfl
theorem Um (m:List Eg) (l:List Opn) (cart:Str) (b:Tg) (hm:OkM m) (hr:RightM m) (ho:∀o∈l,OkOp o) (hU:(l.map Opn.id).Nodup):
  Pp 28 [tr (Zd m),Zq l,.str cart,tg b] (D0 (YA m l cart b)):=by
 unfold YA;by_cases h1:400<(l.length:Int);rw[if_pos h1];refine ZA func28 rfl ntmps28 results28 (Wk _) ?_;simp only[go_sem,tr,Zq,tg,h1];simp only[D0,T6];rw[if_neg h1];have hN:=Xk cart;cases h2:Ym cart;rw[h2]at hN;rw[if_pos rfl];refine ZA func28 rfl ntmps28 results28 (Wk _) ?_;simp only[go_sem,tr,Zq,tg,h1];refine vc1 hN ?_;simp only[go_sem];simp only[D0,T6];rw[if_neg (by simp)];by_cases h3:(Ys (Zd m) b).2=0;rw[if_neg (by simpa using h3)];exact ZkV m l cart b hm hr (by omega) ho hU h2 h3;rw[if_pos h3];rw[h2]at hN;have hS:=X0 m b hm;have e3:((Ys (Zd m) b).2 !=0)=true:=by simpa using h3
 generalize Ys (Zd m) b=X at *;obtain⟨F,xc⟩:=X;simp only at h3 e3 ⊢;refine ZA func28 rfl ntmps28 results28 (Wk _) ?_;simp only[go_sem,tr,Zq,tg,h1];refine vc1 hN ?_;simp only[go_sem];refine vc5 hS ?_;simp only[go_sem,ZM,Zi,e3];simp only[D0,T6]
open Go.PL Go.PL.Srt
def svA:Opn:=⟨⟨1,1⟩,Jd,1,[97],1,[112,101,97,114],Jd,0,false,[],[]⟩
theorem Zml (e:En):(ent e).nomap=true:=by simp only[ent,PV.nomap,PV.nomapL,Sf,Kq]
open Go.PL Go.PL.Srt
theorem ZpW (f:Fd) (ops:List Opn):(ZdU f ops).l.length<=ops.length+1:=by
 have h1:(YK f).l.length<=1:=by unfold YK;simp only;split<;>simp
 have h2:=So ops;unfold ZdU;split;simp only;omega;simp only;split;omega;split;omega;simp
theorem Zae (l:List Opn) (c:Str):(XO l c).length<=l.length:=by
 unfold XO;have h1:=UT (TP (Xn l c));have h2:=Se l c;have h3:(TP (Xn l c)).length=(Xn l c).length:=by simp[TP]
 omega
theorem ZeO {F:List Fd} {seen:List Opn} {sc:Int} {it:Str}:(Ux F seen sc it).length<=F.length/\ ∀e∈Ux F seen sc it,e.l.length<=seen.length+1:=by
 refine⟨by unfold Ux;rw[Je];exact Jn _ _,λe he=> ?_⟩;obtain⟨f,_,rfl⟩:=Jt.1 he;have:=ZpW f (Yi seen ⟨it,f.at'⟩);have:=ZaR seen ⟨it,f.at'⟩;omega
theorem Znz {m:List Eg} {l:List Opn} {cart:Str} {b:Tg} (hm:OkM m):ZnP (YA m l cart b).1:=by
 have hd:ZnP (Jd:Dc):=⟨Jj _,Jj _,(λe h=>by cases h),(λe h=>by cases h)⟩;unfold YA;split;exact hd;split;exact hd;split;exact hd;rename_i h1 _ h3;have hF:=(DR hm (a:=b) (show(Ys (Zd m) b).2=0 from JI.1 h3)).n;have hs:=UE m (YI (Wp m l) cart) b;have hmi:(YI (Wp m l) cart).length<=(Wp m l).length:=Jn _ _;have hli:=Sd m l;have hit:=Zae (YI (Wp m l) cart) cart;generalize (Ys (Zd m) b).1=F at *;generalize YW m (YI (Wp m l) cart) b=seen at *;have f:=λsc it=>ZeO (F:=F) (seen:=seen) (sc:=sc) (it:=it)
 refine⟨by have:=(f 0 []).1;rw[Zb];simp only;omega,by rw[Zb];simp only[Je];omega,λe he=> ?_,λr hr=> ?_⟩;have:=(f 0 []).2 e he;rw[Zb];omega;simp only[Jt]at hr;obtain⟨i,_,rfl⟩:=hr;refine⟨by have:=(f 1 i).1;rw[Zb];simp only;omega,λe he=> ?_⟩;have:=(f 1 i).2 e he;rw[Zb];omega
open Go.PL
structure OkDd (d:Dc):Prop where
 h:d.head.length<=100000
 r:d.rows.length<=100000
 e:∀e∈d.head,e.l.length<=1000000
 s:∀r∈d.rows,r.l.length<=100000/\ ∀e∈r.l,e.l.length<=1000000
theorem OkDd.fine {d:Dc} (h:OkDd d):ZnP d:=by
 have e:=Zb;refine⟨by have:=h.h;omega,by have:=h.r;omega,λx hx=>by have:=h.e x hx;omega,λr hr=>⟨by have:=(h.s r hr).1;omega,λx hx=>by have:=(h.s r hr).2 x hx;omega⟩⟩
theorem Zh7 {L:List Fd} {es:List En} (h:XV L es=true):es.length=L.length:=by
 simp only[XV,Js,decide_eq_true_eq]at h;exact h.1.symm
theorem Zcn {m:List Fd} {d:Dc} (h:WI m d=true):d.head.length=(Z8 m 0).length/\d.rows.length<=400/\(∀r∈d.rows,r.l.length=(Z8 m 1).length)/\(Z8 m 0).length<=16/\(Z8 m 1).length<=16:=by
 simp only[WI,Zb4,Js,Bool.not_eq_true',decide_eq_false_iff_not,Jm,JD]at h;obtain⟨⟨h1,h2,h3⟩,h4⟩:=h;have h16:=Zcp h1;have hs:∀sc,(Z8 m sc).length<=16:=λsc=>J6 (Jn _ _) h16
 refine⟨Zh7 h3,by omega,λr hr=> ?_,hs 0,hs 1⟩;obtain⟨i,hi,rfl⟩:=Ji hr;have:=h4 i hi;simp only[TL,Js]at this;have e1:=Zh7 this.2;rw[getD_lt hi]at e1;exact e1
theorem Zar (it:Str) (a b:List En):(Xu it a b).length<=a.length:=SS it a b a.length
theorem Gp (x:PV) (l:List Rw):PL.cut (x::l.map row) 1 ((l.length+1:Nat):Int)=l.map row:=by
 have e:((l.length+1:Nat):Int).toNat=l.length+1:=by omega
 simp[PL.cut,e,Jr]
structure DiX (p q:List Rw) (h0:List Cg) where
 P:List Rw
 Q:List Rw
 acc:List Cg
 id:Nat
 hP:∀r∈P,r∈p
 hQ:∀r∈Q,r∈q
 hl:acc.length+16*(P.length+Q.length)<=16+16*(p.length+q.length)
 h:acc++Ug P Q=h0++Ug p q
 hid:id=25\/id=91\/id=121\/id=44
def Za9 (x:List Cg) (c:Int):PV:= .tup [Zc5 x,.int .i64 c]
theorem Df (x:List Cg) (c:Int):(Za9 x c).dids= []:=by simp only[Za9,Ki,J3,ZeB,Jf]
theorem Zi0 (l:List Fd) (a b:Dc) (hl:l.length<=maxLen) (hl':∀f∈l,f.cases'.length<=1000000) (ha:OkDd a) (hb:OkDd b):
  Pp 34 [Zi l,doc a,doc b] (Za9 (FQ l a b).1 (FQ l a b).2):=by
 have hRa:=Fu l a hl hl' ha.fine;have hRb:=Fu l b hl hl' hb.fine;unfold FQ;cases hra:WI l a;rw[hra]at hRa;rw[if_pos (.inl rfl)];refine ZA func34 rfl ntmps34 results34 (Df _ _) ?_;simp only[go_sem,Zi,doc];refine U9 ?_;simp only[go_sem];refine vc2 hRa ?_;simp only[go_sem,Za9,Zc5];cases hrb:WI l b;rw[hra]at hRa;rw[hrb]at hRb;rw[if_pos (.inr rfl)];refine ZA func34 rfl ntmps34 results34 (Df _ _) ?_;simp only[go_sem,Zi,doc];refine U9 ?_;simp only[go_sem];refine vc2 hRa ?_;simp only[go_sem,Za9,Zc5];refine vc2 hRb ?_;simp only[go_sem,Za9,Zc5];rw[hra]at hRa;rw[hrb]at hRb;rw[if_neg (by simp)];obtain⟨a1,a2,a3,a4,a5⟩:=Zcn hra;obtain⟨b1,b2,b3,_,_⟩:=Zcn hrb;have hO:=Zj3 [] a.head b.head ha.h (by omega) ha.e hb.e;refine ZA func34 rfl ntmps34 results34 (Df _ _) ?_;simp only[go_sem,Zi,doc];refine ZdT (ι:=DiX a.rows b.rows (Xu [] a.head b.head)) 124 (λx=> [(8,.sl (.row x.id) (x.acc.map chg)),(9,.sl .no (x.P.map row)),(10,.sl .no (x.Q.map row))]) (λx=> []) (λx=> [(x.id,.live x.acc.length 13 67)]) (λx=>x.P.length+x.Q.length) 0 _ (by exact rfl) (λx=>⟨Fc3 (by simp[Jw,ZG]) rfl rfl,fnl⟩) (λx=> ?_) (λcut=> ?_)
 ·obtain⟨P,Q,acc,id,hP,hQ,hl,h,hid⟩:=x;simp only;cases P with
  |nil=>
   cases Q with
   |nil=>
    rw[Ug,Jf]at h;rw[<-h];simp only[go_sem,Za9,Zc5]
   |cons q qs=>
    have r0:(0:Int)<=0:=by omega
    have hml:(acc.map chg).length=acc.length:=Je _;have hsz:=UF acc;have hrm:=Yb (show acc.length+1<=1000000 by have:=Jj;simp only[Jc,Jp]at hl;omega) (show 192<=1000 by omega);have hl0:True:=trivial;have hg0:True:=trivial;have kl0:(((qs.length+1:Nat):Int)==0)=false:=by simp;omega
    have kg0:(0:Int)<((qs.length+1:Nat):Int):=by omega
    have ks1:(1:Int)<=((qs.length+1:Nat):Int):=by omega
    have ksr:=Wx qs;have hO2:=S6 q.l (hb.s q (hQ q (by simp))).1 (hb.s q (hQ q (by simp))).2;simp only[go_sem,row,hl0,hg0,kl0,kg0,r0];refine vDq ?_;simp only[go_sem,row,hl0,hg0,kl0,kg0,r0];refine vDq ?_;simp only[go_sem,row,hl0,hg0,kl0,kg0,r0];refine vDq ?_;simp only[go_sem,row,hl0,hg0,kl0,kg0,r0];refine vc1 hO2 ?_;rcases hid with rfl|rfl|rfl|rfl
    all_goals
     simp only[go_sem,row,hl0,hg0,kl0,kg0,r0,YG,hml,hsz,hrm,Z6,Xl,JO,Gp,ks1,ksr];exact⟨⟨[],qs,acc++ [Zjy q],121,hP,λx hx=>hQ x (by simp[hx]),by simp only[Jb,Jc,Jp]at hl ⊢;omega,by rw[<-h,Ug,Jz];rfl,.inr (.inr (.inl rfl))⟩,by show _+qs.length<_+(q::qs).length;simp only[Jc];omega,⟨rfl,Fc3 (by show JK _ _=JK _ _;rw[Jg];rfl) rfl rfl,fnl,fcs (by show some (Row.live _ 13 _)=some (Row.live _ 13 _);rw[Jb];rfl) fnl⟩⟩
  |cons r ps=>
   cases Q with
   |nil=>
    have r0:(0:Int)<=0:=by omega
    have hml:(acc.map chg).length=acc.length:=Je _;have hsz:=UF acc;have hrm:=Yb (show acc.length+1<=1000000 by have:=Jj;simp only[Jc,Jp]at hl;omega) (show 192<=1000 by omega);have hl0:(((ps.length+1:Nat):Int)==0)=false:=by simp;omega
    have hg0:(0:Int)<((ps.length+1:Nat):Int):=by omega
    have hs1:(1:Int)<=((ps.length+1:Nat):Int):=by omega
    have hsr:=Wx ps;have kl0:True:=trivial;have kg0:True:=trivial;have hO1:=S6 r.l (ha.s r (hP r (by simp))).1 (ha.s r (hP r (by simp))).2;simp only[go_sem,row,hl0,hg0,kl0,kg0,r0];refine vDq ?_;simp only[go_sem,row,hl0,hg0,kl0,kg0,r0];refine vDq ?_;simp only[go_sem,row,hl0,hg0,kl0,kg0,r0];refine vc1 hO1 ?_;rcases hid with rfl|rfl|rfl|rfl
    all_goals
     simp only[go_sem,row,hl0,hg0,kl0,kg0,r0,YG,hml,hsz,hrm,Z6,Xl,JO,Gp,hs1,hsr];exact⟨⟨ps,[],acc++ [ZkC r],91,λx hx=>hP x (by simp[hx]),hQ,by simp only[Jb,Jc,Jp]at hl ⊢;omega,by rw[<-h,Ug,Jz];rfl,.inr (.inl rfl)⟩,by show ps.length+_<(r::ps).length+_;simp only[Jc];omega,⟨rfl,Fc3 (by show JK _ _=JK _ _;rw[Jg];rfl) rfl rfl,fnl,fcs (by show some (Row.live _ 13 _)=some (Row.live _ 13 _);rw[Jb];rfl) fnl⟩⟩
   |cons q qs=>
    have r0:(0:Int)<=0:=by omega
    have hml:(acc.map chg).length=acc.length:=Je _;have hsz:=UF acc;have hrm:=Yb (show acc.length+1<=1000000 by have:=Jj;simp only[Jc,Jp]at hl;omega) (show 192<=1000 by omega);have hl0:(((ps.length+1:Nat):Int)==0)=false:=by simp;omega
    have hg0:(0:Int)<((ps.length+1:Nat):Int):=by omega
    have hs1:(1:Int)<=((ps.length+1:Nat):Int):=by omega
    have hsr:=Wx ps;have kl0:(((qs.length+1:Nat):Int)==0)=false:=by simp;omega
    have kg0:(0:Int)<((qs.length+1:Nat):Int):=by omega
    have ks1:(1:Int)<=((qs.length+1:Nat):Int):=by omega
    have ksr:=Wx qs;have hO1:=S6 r.l (ha.s r (hP r (by simp))).1 (ha.s r (hP r (by simp))).2;have hO2:=S6 q.l (hb.s q (hQ q (by simp))).1 (hb.s q (hQ q (by simp))).2;cases c1:ZS r.item q.item
    ·cases c2:ZS q.item r.item
     ·have hO3:=Zhg q.item r.l q.l (ha.s r (hP r (by simp))).1 (by rw[a3 r (hP r (by simp)),b3 q (hQ q (by simp))];exact Kw _) (ha.s r (hP r (by simp))).2 (hb.s q (hQ q (by simp))).2;have hol:=Zar q.item r.l q.l;have ha3:=a3 r (hP r (by simp));rw[Ug,if_neg (by rw[c1];simp),if_neg (by rw[c2];simp)]at h;have hos:=UF (Xu q.item r.l q.l);have hoa:=Zk5 (Xu q.item r.l q.l);have hom:((Xu q.item r.l q.l).map chg).length=(Xu q.item r.l q.l).length:=Je _;have hro:=Yb (show acc.length+(Xu q.item r.l q.l).length<=1000000 by simp only[Jc,Jp]at hl;omega) (show 192<=1000 by omega);simp only[go_sem,row,hl0,hg0,kl0,kg0,r0,c1,c2];refine vDq ?_;simp only[go_sem,row,hl0,hg0,kl0,kg0,r0,c1,c2];refine vDq ?_;simp only[go_sem,row,hl0,hg0,kl0,kg0,r0,c1,c2];refine vDq ?_;simp only[go_sem,row,hl0,hg0,kl0,kg0,r0,c1,c2];refine vc1 hO3 ?_;rcases hid with rfl|rfl|rfl|rfl
      all_goals
       simp only[go_sem,row,hl0,hg0,kl0,kg0,r0,c1,c2,Zc5,hml,hsz,hos,hoa,hom,hro,Z6,Xl];refine vDq ?_;simp only[go_sem,row,hl0,hg0,kl0,kg0,r0,c1,c2,JO,Gp,hs1,hsr,ks1,ksr];exact⟨⟨ps,qs,acc++Xu q.item r.l q.l,44,λx hx=>hP x (by simp[hx]),λx hx=>hQ x (by simp[hx]),by simp only[Jb,Jc,Jp]at hl ⊢;omega,by rw[<-h,Jz],.inr (.inr (.inr rfl))⟩,by show ps.length+qs.length<(r::ps).length+(q::qs).length;simp only[Jc];omega,⟨rfl,Fc3 (by show JK _ _=JK _ _;rw[Jg]) rfl rfl,fnl,fcs (by show some (Row.live _ 13 _)=some (Row.live _ 13 _);rw[Jb]) fnl⟩⟩
     ·rw[Ug,if_neg (by rw[c1];simp),if_pos c2]at h;simp only[go_sem,row,hl0,hg0,kl0,kg0,r0,c1,c2];refine vDq ?_;simp only[go_sem,row,hl0,hg0,kl0,kg0,r0,c1,c2];refine vDq ?_;simp only[go_sem,row,hl0,hg0,kl0,kg0,r0,c1,c2];refine vDq ?_;simp only[go_sem,row,hl0,hg0,kl0,kg0,r0,c1,c2];refine vc1 hO2 ?_;rcases hid with rfl|rfl|rfl|rfl
      all_goals
       simp only[go_sem,row,hl0,hg0,kl0,kg0,r0,c1,c2,YG,hml,hsz,hrm,Z6,Xl,JO,Gp,hs1,hsr,ks1,ksr];exact⟨⟨r::ps,qs,acc++ [Zjy q],121,hP,λx hx=>hQ x (by simp[hx]),by simp only[Jb,Jc,Jp]at hl ⊢;omega,by rw[<-h,Jz];rfl,.inr (.inr (.inl rfl))⟩,by show _+qs.length<_+(q::qs).length;simp only[Jc];omega,⟨rfl,Fc3 (by show JK _ _=JK _ _;rw[Jg];rfl) rfl rfl,fnl,fcs (by show some (Row.live _ 13 _)=some (Row.live _ 13 _);rw[Jb];rfl) fnl⟩⟩
    ·rw[Ug,if_pos c1]at h;simp only[go_sem,row,hl0,hg0,kl0,kg0,r0,c1];refine vDq ?_;simp only[go_sem,row,hl0,hg0,kl0,kg0,r0,c1];refine vDq ?_;simp only[go_sem,row,hl0,hg0,kl0,kg0,r0,c1];refine vc1 hO1 ?_;rcases hid with rfl|rfl|rfl|rfl
     all_goals
      simp only[go_sem,row,hl0,hg0,kl0,kg0,r0,c1,YG,hml,hsz,hrm,Z6,Xl,JO,Gp,hs1,hsr,ks1,ksr];exact⟨⟨ps,q::qs,acc++ [ZkC r],91,λx hx=>hP x (by simp[hx]),hQ,by simp only[Jb,Jc,Jp]at hl ⊢;omega,by rw[<-h,Jz];rfl,.inr (.inl rfl)⟩,by show ps.length+_<(r::ps).length+_;simp only[Jc];omega,⟨rfl,Fc3 (by show JK _ _=JK _ _;rw[Jg];rfl) rfl rfl,fnl,fcs (by show some (Row.live _ 13 _)=some (Row.live _ 13 _);rw[Jb];rfl) fnl⟩⟩
 simp only[go_sem];refine vc2 hRa ?_;simp only[go_sem];refine vc2 hRb ?_;simp only[go_sem];refine ZpS 25 hO (by simp[Jw,YG]) rfl ?_ ?_;simp only[go_sem,YG];simp only[go_sem];refine vDq ?_;simp only[go_sem];refine YQ (cut ⟨a.rows,b.rows,Xu [] a.head b.head,25,λ_ h=>h,λ_ h=>h,?_,rfl,.inl rfl⟩ _ ⟨rfl,Fc3 rfl rfl rfl,fnl,fcs rfl fnl⟩);have:=Zar [] a.head b.head;omega
open Go.PL
def VB (v:List Int):PV:= .agg (v.map (.int .i64))
def UD (v:List Int):Bool:=v.all λn=>decide (0<=n)&&decide (n<=400)
def GW (v:List Int) (t:Tg):Bool:=SZ t&&decide (t.n<=v.getD (t.r-1).toNat 0)
theorem Vq {v:List Int} {i:Nat} (h:i<v.length):(v.map (KE .i64)).getD i .any= .int .i64 (v.getD i 0):=by
 simp[List.getD_eq_getElem?_getD,h]
theorem ZP {v:List Int} (h:v.length=6):Kt 6 (v.map (KE .i64))=v.map (KE .i64):=Jr (by simp[h])
theorem Uc {v:List Int} {i:Nat} (h:i<v.length) (hn:¬(0<=v.getD i 0/\v.getD i 0<=400)):UD v=false:=by
 rw[JP];intro hr;simp only[UD,Jm,Js,decide_eq_true_eq]at hr;apply hn;rw[getD_lt h];exact hr _ (JB h)
theorem ZaF {v:List Int} (h:∀j,j<v.length->0<=v.getD j 0/\v.getD j 0<=400):UD v=true:=by
 simp only[UD,Jm,Js,decide_eq_true_eq];intro x hx;obtain⟨i,hi,rfl⟩:=Ji hx;have:=h i hi;rwa[getD_lt hi]at this
theorem ZaE {v:List Int} (h:UD v=true) {j:Nat} (hj:j<v.length):0<=v.getD j 0/\v.getD j 0<=400:=by
 simp only[UD,Jm,Js,decide_eq_true_eq]at h;rw[getD_lt hj];exact h _ (JB hj)
theorem Zm9 {t:Tg} (h:SZ t=true):IntKind.i64.wrap (t.r-1)=t.r-1/\0<=t.r-1/\t.r-1<6/\(t.r-1).toNat<6/\(t.r-1).toNat<=5:=by
 simp only[SZ,Js,decide_eq_true_eq]at h;exact⟨w64 (by omega),by omega,by omega,by omega,by omega⟩
def atM (v:List Int) (l:List Opn):List Opn:=l.filter λo=>GW v o.id
theorem G9 (v:List Int) (l:List Opn):(atM v l).Sublist l:=JU
theorem Zc2 (v:List Int) {l:List Opn} {k:Nat} (h:k<l.length):atM v (l.take (k+1))=atM v (l.take k)++(if GW v (l.getD k Jd).id=true then [l.getD k Jd]else []):=by
 unfold atM;rw[ZW (d:=Jd) h,JN];congr 1;generalize l.getD k Jd=x;cases hr:GW v x.id;rw[Jk (by rw[hr];simp),if_neg (by simp)];rfl;rw[Jl (by exact hr),if_pos rfl];rfl
def Uv (v:List Int) (l:List Opn):Bool:=(atM v l).all λo=>o.drops.all (GW v)
def ZaP (v:List Int) (l:List Opn):Bool:=(JJ 6).all λi=>(JJ (v.getD i 0).toNat).all λn=>decide ((⟨(i:Int)+1,(n:Int)+1⟩:Tg)∈l.map Opn.id)
def VG (v:List Int) (l:List Opn):Bool:=UD v&&(Uv v l&&ZaP v (atM v l))
def Vf (v:List Int) (l:List Opn):Bool:=UD v&&(ZaP v l&&Uv v l)
theorem Zlm (v:List Int) (l:List Opn) (hv:v.length=6):VG v l=Vf v l:=by
 unfold VG Vf;cases hr:UD v;rfl;rw[Kc,Kc,Kr];congr 1;rw[Kn];simp only[ZaP,Jm,JD,decide_eq_true_eq,Jt];refine forall_congr' λi=>forall_congr' λhi=>forall_congr' λn=>forall_congr' λhn=>⟨λ⟨o,h1,h2⟩=>⟨o,(G9 v l).mem h1,h2⟩,λ⟨o,h1,h2⟩=>⟨o,Jo.2 ⟨h1,?_⟩,h2⟩⟩
 have h3:=ZaE hr (j:=i) (by omega);rw[h2];have e:((i:Int)+1-1).toNat=i:=by omega
 simp only[GW,SZ,Js,decide_eq_true_eq,e];omega
structure Mo where
 id:Tg
 l:List Cg
deriving DecidableEq,Inhabited
def mo (x:Mo):PV:= .agg [.int .i64 x.id.r,.int .i64 x.id.n,.sl .no (x.l.map chg)]
def mos (l:List Mo):PV:= .sl .no (l.map mo)
theorem vc9 {x:Bool} {M:KH} {g:FuncId} {args args':List PV} {K:KR} {r:PV} (h1:Pp g args' r) (h2:K.k r M.m) (h0:Ka M.m args:=by first|(simp only[go_sem,ref,ent,YG,doc,Yq,row,Zi,fld,lns,tg,refs,prs,pr,eg,egs,tgs,lg,lgs,Zh,opv,tr,Zq,chg,Zc5,mo,mos,VB];done)|exact rfl) (he:Ko M.m args=args':=by first|(simp only[go_sem,ref,ent,YG,doc,Yq,row,Zi,fld,lns,tg,refs,prs,pr,eg,egs,tgs,lg,lgs,Zh,opv,tr,Zq,chg,Zc5,mo,mos,VB];done)|exact rfl):@UJ prog x M (some (g,args)) K:=Yh h1 h0 he h2
def ZjZ (x:List Mo×Int):PV:= .tup [mos x.1,.int .i64 x.2]
def Zba:Nat->List Rw->List Rw->List Cg
 |0,_,_=> []
 |_+1,[],[]=> []
 |n+1,p::ps,[]=>ZkC p::Zba n ps []
 |n+1,[],q::qs=>Zjy q::Zba n [] qs
 |n+1,p::ps,q::qs=>if ZS p.item q.item=true then ZkC p::Zba n ps (q::qs)else if ZS q.item p.item=true then Zjy q::Zba n (p::ps) qs else Xu q.item p.l q.l++Zba n ps qs
theorem T5:∀(n:Nat) (p q:List Rw),p.length+q.length<n->Ug p q=Zba n p q
 |0,_,_,h=>by omega
 |n+1,[],[],_=>by rw[Ug];rfl
 |n+1,p::ps,[],h=>by
  rw[Ug,Zba,T5 n ps [] (by simp at h ⊢;omega)]
 |n+1,[],q::qs,h=>by
  rw[Ug,Zba,T5 n [] qs (by simp at h ⊢;omega)]
 |n+1,p::ps,q::qs,h=>by
  rw[Ug,Zba,T5 n ps (q::qs) (by simp at h ⊢;omega),T5 n (p::ps) qs (by simp at h ⊢;omega),T5 n ps qs (by simp at h ⊢;omega)]
def ZgO (l:List Fd) (a b:Dc):List Cg×Int:=if WI l a=false\/WI l b=false then([],5)else(Xu [] a.head b.head++Zba 1000000 a.rows b.rows,0)
theorem Zoz {l:List Fd} {a b:Dc} (h:a.rows.length+b.rows.length<1000000):FQ l a b=ZgO l a b:=by
 unfold FQ ZgO;rw[T5 1000000 _ _ h]
def Zfs (m:List Eg) (o:Opn) (cart:Str):Bool:=((o.cart==cart)||decide (0<o.drops.length))&&decide (0<(Wp m [o]).length)
def Zbc (m:List Eg) (F:List Fd) (cart:Str) (b:Tg):List Opn->Dc->List Opn->List Mo->List Mo×Int
 |_,_,[],acc=>(acc,0)
 |ah,was,o::s,acc=>
  if Zfs m o cart=false then Zbc m F cart b ah was s acc
  else if(YA m (ah++ [o]) cart b).2≠0 then([],(YA m (ah++ [o]) cart b).2)
  else if(FQ F was (YA m (ah++ [o]) cart b).1).2≠0 then([],(FQ F was (YA m (ah++ [o]) cart b).1).2)
  else Zbc m F cart b (ah++ [o]) (YA m (ah++ [o]) cart b).1 s (if(FQ F was (YA m (ah++ [o]) cart b).1).1= []then acc else acc++ [⟨o.id,(FQ F was (YA m (ah++ [o]) cart b).1).1⟩])
def ZoP (m:List Eg) (l:List Opn) (cart:Str) (b:Tg):List Mo×Int:=
 if(YA m l cart b).2≠0 then([],(YA m l cart b).2)else if(Ys (Zd m) b).2≠0 then([],(Ys (Zd m) b).2)
 else if(YA m [] cart b).2≠0 then([],(YA m [] cart b).2)else Zbc m (Ys (Zd m) b).1 cart b [] (YA m [] cart b).1 (Srt.srt Z4 l) []
def ZfU (c:Cg) (item:Str) (place:Rf):Bool:=(c.item==item)&&((c.kind==2)||((c.kind==1)&&decide (c.now.at'=place)))
open Go.PL
@[go_sem] theorem Zsa (m:Hp) (k:IntKind) (l:List Int):Ko m (l.map (.int k))=l.map (.int k):=by
 induction l with
 |nil=>rfl
 |cons a l ih=>simp only[JG,Ko,ih,PV.give]
@[go_sem] theorem ZoL (m:Hp) (k:IntKind) (l:List Int):Ka m (l.map (.int k))=True:=by
 induction l with
 |nil=>rfl
 |cons a l ih=>simp only[JG,Ka,ih,Kz,and_self]
theorem YX (v:List Int):JS (v.map (.int .i64))= []:=by
 induction v with
 |nil=>rfl
 |cons a v ih=>simp only[JG,JS,Jw,ih,Jf]
theorem Zgz (v:List Int) (hv:v.length=6):Pp 53 [VB v] (.bool (UD v)):=by
 refine ZH func53 rfl ntmps53 results53 ?_;simp only[go_sem,VB,hv,ZP hv];refine Zt (ι:= { i:Nat // i<=6/\ ∀j,j<i->0<=v.getD j 0/\v.getD j 0<=400 }) 16 (λi=> [(5,VB v),(6,.int .i64 (i.1:Int))]) (λ_=> []) (λ_=> []) (λi=>6-i.1) ⟨0,by omega,λj hj=>by omega⟩
  ⟨rfl,(Fc2 rfl rfl),fnl,fnl⟩ (λi=>⟨Fc2 (by simp[VB,Jw,YX]) rfl,fnl⟩) (λi=> ?_)
 obtain⟨i,hi,hall⟩:=i;simp only;simp only[go_sem,VB,hv];refine ZF (λh=> ?_) (λh=> ?_);have hi6:i<v.length:=by have:=of_decide_eq_true h;omega
 have i0:=Ja i
 have i5:i<=5:=by omega
 have i6:(i:Int)<6:=by omega
 simp only[go_sem,VB,h,hv,i0,i5,i6,Vq hi6];refine Zu (λh1=> ?_) (λh1=> ?_);simp only[go_sem,h1,hv];exact(Uc hi6 (by have:=of_decide_eq_true h1;omega));simp only[go_sem,h1,hv];refine ZF (λh2=> ?_) (λh2=> ?_);simp only[go_sem,h2];exact(Uc hi6 (by have:=of_decide_eq_true h2;omega));simp only[go_sem,h2];have h3:=of_decide_eq_false h1;have h4:=of_decide_eq_false h2;rw[IntWalk.i64_in _ (by omega)];refine⟨⟨i+1,by omega,λj hj=> ?_⟩,by show 6-(i+1)<6-i;omega,⟨rfl,(Fc2 rfl rfl),fnl,fnl⟩⟩;rcases Jv j i with hlt|hge;exact hall j hlt;obtain rfl:j=i:=by omega
 omega;simp only[go_sem,h];exact(ZaF (by rw[hv];intro j hj;exact hall j (by have:=of_decide_eq_false h;omega)))
theorem Zeh (v:List Int) (hv:v.length=6):Pp 55 [VB v] (.bool (UD v)):=by
 refine ZH func55 rfl ntmps55 results55 ?_;simp only[go_sem,VB,hv,ZP hv];refine Zt (ι:= { i:Nat // i<=6/\ ∀j,j<i->0<=v.getD j 0/\v.getD j 0<=400 }) 18 (λi=> [(1,.ptr 1 0),(3,.int .i64 (i.1:Int))]) (λ_=> [(1,v.map (.int .i64),false)]) (λ_=> []) (λi=>6-i.1) ⟨0,by omega,λj hj=>by omega⟩
  ⟨rfl,(Fc2 rfl rfl),fcs ⟨rfl,rfl⟩ fnl,fnl⟩ (λi=>⟨(Fc2 rfl rfl),fcs (by rw[YX];rfl) fnl⟩) (λi=> ?_)
 obtain⟨i,hi,hall⟩:=i;simp only;simp only[go_sem,hv];refine ZF (λh=> ?_) (λh=> ?_);have hi6:i<v.length:=by have:=of_decide_eq_true h;omega
 have i0:=Ja i
 have i5:i<=5:=by omega
 have i6:(i:Int)<6:=by omega
 have i7:i+1<=v.length:=hi6;have ew:=wk9 (k:=i) (by omega)
 simp only[go_sem,h,hv,i0,i5,i6,hi6,i7,Vq hi6];refine Zu (λh1=> ?_) (λh1=> ?_);simp only[go_sem,h1,hv];exact(Uc hi6 (by have:=of_decide_eq_true h1;omega));simp only[go_sem,h1,hv,i0,i5,i6,hi6,i7,Vq hi6];refine ZF (λh2=> ?_) (λh2=> ?_);simp only[go_sem,h2];exact(Uc hi6 (by have:=of_decide_eq_true h2;omega));simp only[go_sem,h2,ew];have h3:=of_decide_eq_false h1;have h4:=of_decide_eq_false h2;refine⟨⟨i+1,by omega,λj hj=> ?_⟩,by show 6-(i+1)<6-i;omega,⟨rfl,(Fc2 rfl rfl),fcs ⟨rfl,rfl⟩ fnl,fnl⟩⟩;rcases Jv j i with hlt|hge;exact hall j hlt;obtain rfl:j=i:=by omega
 omega;simp only[go_sem,h];exact(ZaF (by rw[hv];intro j hj;exact hall j (by have:=of_decide_eq_false h;omega)))
theorem S9 (v:List Int) (hv:v.length=6) (t:Tg):Pp 54 [VB v,tg t] (.bool (GW v t)):=by
 have ht:=TY t;cases hb:SZ t;rw[hb]at ht;refine ZH func54 rfl ntmps54 results54 ?_;simp only[go_sem,tg,VB,hv];refine vDq ?_;simp only[go_sem,hv];refine vc3 ht ?_;simp only[go_sem,hv];simp[GW,hb];rw[hb]at ht;obtain⟨e1,e2,e3,e4,e5⟩:=Zm9 hb;refine ZH func54 rfl ntmps54 results54 ?_;simp only[go_sem,tg,VB,hv];refine vDq ?_;simp only[go_sem,hv];refine vc3 ht ?_;simp only[go_sem,hv,e1,e2,e3,e4,e5,Vq];simp[GW,hb]
theorem G3 (v:List Int) (hv:v.length=6) (t:Tg):Pp 43 [VB v,tg t] (.bool (GW v t)):=by
 have ht:=Uj t;cases hb:SZ t;rw[hb]at ht;refine ZH func43 rfl ntmps43 results43 ?_;simp only[go_sem,tg,VB,hv];refine vDq ?_;simp only[go_sem,hv];refine vc3 ht ?_;simp only[go_sem,hv];simp[GW,hb];rw[hb]at ht;obtain⟨e1,e2,e3,e4,e5⟩:=Zm9 hb;refine ZH func43 rfl ntmps43 results43 ?_;simp only[go_sem,tg,VB,hv];refine vDq ?_;simp only[go_sem,hv];refine vc3 ht ?_;simp only[go_sem,hv,e1,e2,e3,e4,e5,Vq];simp[GW,hb]
end Go.Proofs.YtadgngamdofhiaaGreat
namespace Go.PL
section
variable {n d b k sz:Nat} {e:TypeId} {L:List (Nat×PV)} {es cs:List PV} {s:St}
theorem ZgY (h0:s.n=n) (hL:∀x∈L,s.fr x.1=x.2) (hb:s.m.h b=some cs) (hz:s.m.z b=false) (hq:s.m.q d=some (.vec k sz e)) (hv:s.m.v d=some es):HasX n L [(b,cs,false)] [(d,.vec k sz e)] [] [] [(d,es)] [] [] [] s:=
 ⟨⟨h0,hL,by simp[hb,hz],by simp[hq]⟩,by simp,by simp,by simp[hv],by simp,by simp,by simp⟩
theorem ZnJ (hL:∀x∈L,x.2.ids.all (ZG [(b,cs,false)] [(d,.vec k sz e)])=true) (hc:(JS cs).all (ZG [(b,cs,false)] [(d,.vec k sz e)])=true) (he:JS es= []):WholeX L [(b,cs,false)] [(d,.vec k sz e)] [(d,es)] [] [] []:=
 ⟨⟨hL,by simpa using hc⟩,by simp[he],by simp,by simp,by simp,by simp⟩
end
end Go.PL
namespace Go.Proofs.YtadgngamdofhiaaGreat
open Go.PL
theorem FH (v:List Int) (l:List Opn):(atM v l).length<=l.length:=Jn _ _
theorem ZbB (l:List Opn) (v:List Int) (hl:l.length<=100000) (hv:v.length=6):Pp 44 [Zq l,VB v] (Zq (atM v l)):=by
 have hlm:l.length<=maxLen:=by rw[Zb];omega
 refine ZA func44 rfl ntmps44 results44 (VQ _) ?_;simp only[go_sem,Zq,VB,hv,ZP hv];refine YO 5 21 15 62 rfl rfl ?_;refine Zt (ι:= { k:Nat // k<=l.length }) 24 (λx=> [(3,.ptr 3 0),(5,.sl (.row 21) ((atM v (l.take x.1)).map opv)),(8,Zq l),(9,.int .i64 (l.length:Int)),(10,.int .i64 (x.1:Int))]) (λx=> [(3,v.map (.int .i64),false)]) (λx=> [(21,.live (atM v (l.take x.1)).length 15 62)]) (λx=>l.length-x.1) ⟨0,Jj _⟩
  ⟨rfl,(Fc5 rfl rfl rfl rfl rfl),fcs ⟨rfl,rfl⟩ fnl,(fcs rfl fnl)⟩ (λx=>⟨Fc5 rfl (by simp[Jw,ZG]) rfl rfl rfl,fcs (by rw[YX];rfl) fnl⟩) (λx=> ?_)
 obtain⟨k,hk⟩:=x;simp only;by_cases h:(k:Int)<(l.length:Int);have hka:k<l.length:=by omega
 have i1:=Ja k
 have w1:=Xb hka hlm;have hH:=S9 v hv (l.getD k Jd).id;have hsn:=Zc2 v hka;have hal:=FH v (l.take k);have htl:(l.take k).length<=k:=JA _ _;have hrm:=Yb (show(atM v (l.take k)).length+1<=1000000 by omega) (show 176<=1000 by omega);have hml:((atM v (l.take k)).map opv).length=(atM v (l.take k)).length:=Je _;have hsz:=Yx (atM v (l.take k));generalize hx:l.getD k Jd=x at *;have hsx:Sized 15 [opv x]:=Yx [x];have hax:Xw [opv x]:=Wi [x];simp only[opv]at hsx hax;cases hb:GW v x.id;rw[hb]at hH;rw[hb,if_neg (by simp),Jf]at hsn;simp only[go_sem,Zq,h,Zl hka,hx,opv,i1,hv,ZP hv];refine vc9 hH ?_;simp only[go_sem,w1];exact⟨⟨k+1,by omega⟩,nx9 (by omega),⟨rfl,by simp only;rw[hsn];exact(Fc5 rfl rfl rfl rfl rfl),fcs ⟨rfl,rfl⟩ fnl,by simp only;rw[hsn];exact(fcs rfl fnl)⟩⟩;rw[hb]at hH;rw[hb,if_pos rfl]at hsn;simp only[go_sem,Zq,h,Zl hka,hx,opv,i1,hv,ZP hv];refine vc9 hH ?_;simp only[go_sem,hml,hrm,hsz,hsx,hax,w1];exact⟨⟨k+1,by omega⟩,nx9 (by omega),⟨rfl,by simp only;rw[hsn,Jg];exact(Fc5 rfl rfl rfl rfl rfl),fcs ⟨rfl,rfl⟩ fnl,by simp only;rw[hsn,Jb];exact(fcs rfl fnl)⟩⟩;obtain rfl:k=l.length:=by omega
 simp only[go_sem,Zq,h,Jy]
open Go.PL
theorem Znd (l:List Opn) (v:List Int) (hl:l.length<=100000) (hv:v.length=6):
  Eff prog 44 [Zq l,VB v] noV (.vsl 21 (atM v l).length 15) (Zgb 21 (atM v l).length 15 62 ((atM v l).map opv)):=by
 have hcl:∀l:List Opn,∀p∈l.map opv,p.ids= []:=λl=>YM X2 l
 refine Eff.vn [21] func44 (by decide) rfl ntmps44 results44 (by simp) (hcl _) (by simp[Jw,Zq,VB,YX]) (by simp[Jw]) ?_;have hlm:l.length<=maxLen:=by rw[Zb];omega
 simp only[go_sem,Zq,VB,hv,ZP hv];refine ZbH 5 21 15 62 rfl rfl ?_;refine Xa (ι:= { k:Nat // k<=l.length }) 24 (λx=> [(3,.ptr 3 0),(5,.vsl 21 (atM v (l.take x.1)).length 15),(8,Zq l),(9,.int .i64 (l.length:Int)),(10,.int .i64 (x.1:Int))]) (λ_=> [(3,v.map (.int .i64),false)]) (λx=> [(21,.vec (atM v (l.take x.1)).length 15 62)]) (λ_=> []) (λ_=> []) (λx=> [(21,(atM v (l.take x.1)).map opv)]) (λ_=> []) [] [] [21] (λx=>l.length-x.1) ⟨0,Jj _⟩
  (ZgY rfl (Fc5 rfl rfl rfl rfl rfl) rfl rfl rfl rfl) (λx=>ZnJ (by simp[Jw,JS,ZG,Zq]) (by rw[YX];rfl) (Yk X2 _)) (λx=> ?_)
 obtain⟨k,hk⟩:=x;simp only;by_cases h:(k:Int)<(l.length:Int);have hka:k<l.length:=by omega
 have i1:=Ja k
 have w1:=Xb hka hlm;have hH:=S9 v hv (l.getD k Jd).id;have hsn:=Zc2 v hka;have hal:=FH v (l.take k);have htl:(l.take k).length<=k:=JA _ _;have hrm:=Yb (show(atM v (l.take k)).length+1<=1000000 by omega) (show 176<=1000 by omega);generalize hx:l.getD k Jd=x at *;generalize hal2:atM v (l.take k)=al at *;have hml:(al.map opv).length=al.length:=Je _;have hai:∀p∈al.map opv,p.ids= []:=hcl al;cases hb:GW v x.id;rw[hb]at hH;rw[hb,if_neg (by simp),Jf]at hsn;simp only[go_sem,Zq,h,Zl hka,hx,opv,i1,hv,ZP hv];refine vc9 hH ?_;simp only[go_sem,w1];exact⟨⟨k+1,by omega⟩,nx9 (by omega),ZgY rfl (by simp only;rw[hsn];exact(Fc5 rfl rfl rfl rfl rfl)) rfl rfl (by simp only;rw[hsn];rfl) (by simp only;rw[hsn];rfl)⟩;rw[hb]at hH;rw[hb,if_pos rfl]at hsn;simp only[go_sem,Zq,h,Zl hka,hx,opv,i1,hv,ZP hv];refine vc9 hH ?_;simp only[go_sem,hml,hrm,w1];refine⟨λp hp=>by rw[Jh.1 hp];exact⟨rfl,rfl⟩,λp hp=>by rw[Jh.1 hp];exact X2 x,λp hp=> ?_,⟨k+1,by omega⟩,nx9 (by omega),ZgY rfl ?_ rfl rfl ?_ ?_⟩;rcases Ju.1 hp with hp|hp;rw[hai p hp];simp;rw[Jh.1 hp];simp[Jw,JS];simp only;rw[hsn,Jb];exact(Fc5 rfl rfl rfl rfl rfl);simp only;rw[hsn,Jb];rfl;simp only;rw[hsn,Jg];rfl;obtain rfl:k=l.length:=by omega
 simp only[go_sem,h,Jy];exact Zda (r0:= .vsl 21 _ 15) (hcl _) rfl (.keep _ (by intro i hi;simp[Jw]at hi;subst hi;exact⟨_,Jh.2 rfl,rfl⟩)) rfl rfl
theorem Zgi (l:List Opn) (v:List Int) (hl:l.length<=100000) (hv:v.length=6) (ho:∀o∈l,OkOp o):Pp 19 [Zq l,VB v] (Zq (atM v l)):=by
 have hcl:∀l:List Opn,∀p∈l.map opv,p.ids= []:=λl=>YM X2 l
 have hL:=Znd l v hl hv;have hll:=FH v l;have hlo:∀o∈atM v l,OkOp o:=λo h=>ho o ((G9 v l).mem h)
 generalize atM v l=A at *;refine PL.Pure.of_p [] func19 (by decide) rfl ntmps19 results19 (by simp) (VQ _) ?_;simp only[go_sem,Zq,VB,hv,ZP hv];refine GS 10 hL (hcl _) (by simp[Jw,Zq,VB,YX]) rfl (by simp only[go_sem,VB,Zq]) ?_;simp only[go_sem,PV.ren,id];refine Xa (ι:= { k:Nat // k<=A.length }) 25 (λx=> [(5,.vsl 10 A.length 15),(11,.vsl 10 A.length 15),(12,.int .i64 (A.length:Int)),(13,.int .i64 (x.1:Int))]) (λ_=> []) (λ_=> [(10,.vec A.length 15 62)]) (λ_=> []) (λ_=> []) (λ_=> [(10,A.map opv)]) (λ_=> []) [] [] [] (λx=>A.length-x.1) ⟨0,Jj _⟩
  (Dm rfl (Fc4 rfl rfl rfl rfl) rfl rfl) (λx=>Za3 (by simp[Jw,JS,ZG]) (Yk X2 _)) (λx=> ?_)
 obtain⟨k,hk⟩:=x;simp only;by_cases h:(k:Int)<(A.length:Int);have hka:k<A.length:=by omega
 have i0:=Ja k
 have w1:=wk9 (k:=k) (by omega)
 have hO:=Zd8 (A.getD k Jd) (hlo _ (Zs hka));have hset:(A.map opv).set k (opv (A.getD k Jd))=A.map opv:=by
  rw[Ud];congr 1;rw[getD_lt hka];exact List.set_getElem_self hka
 simp only[opv]at hset;simp only[go_sem,h,i0,Zl hka,opv];refine vc6 hO ?_;simp only[go_sem,h,i0,Zl hka,opv,hset,w1];exact⟨⟨k+1,by omega⟩,nx9 (by omega),Dm rfl (Fc4 rfl rfl rfl rfl) rfl rfl⟩;simp only[go_sem,h];exact⟨_,rfl,Pub.vec0 (by simp) rfl (Je _) (hcl _)⟩
open Go.PL Go.PL.Srt
theorem Zgh (a b:Opn):Pp 32 [opv a,opv b] (.int .i64 (Zfn a b)):=by
 have h1:=TW a b;have h2:=TW b a;unfold Zfn;cases e1:Z4 a b
 ·cases e2:Z4 b a;all_goals
   rw[e1]at h1;rw[e2]at h2;refine ZH func32 rfl ntmps32 results32 ?_;simp only[go_sem,opv];refine vc6 h1 ?_;simp only[go_sem];refine vc6 h2 ?_;simp only[go_sem]
 rw[e1]at h1;refine ZH func32 rfl ntmps32 results32 ?_;simp only[go_sem,opv];refine vc6 h1 ?_;simp only[go_sem]
theorem Zmw:SortK opv 32 Z4 Zfn where
 len _:=rfl
 atom a:=rfl
 ids a:=by simp[opv,Jw,JS]
 known _:=rfl
 give a m:=by simp[opv,PV.give,Ko]
 givable a m:=by simp[opv,Kz,Ka]
 part a:=rfl
 cmp:=Zgh
 cv a b:=by
  unfold Zfn;cases h1:Z4 a b
  ·cases h2:Z4 b a<;>simp
  ·simp
 good:=oless_good
theorem Zd2 (x:Opn) (l:List Opn) (hl:(x::l).length<=100000):
  Eff prog 30 [Zq (x::l)] noV (.vsl 7 (x::l).length 15) (Zgb 7 (x::l).length 15 62 ((x::l).map opv)):=by
 have hcl:∀l:List Opn,∀p∈l.map opv,p.ids= []:=λl=>YM X2 l
 refine Eff.vn [5,7] func30 (by decide) rfl ntmps30 results30 (by simp) (hcl _) (by simp[Jw,Zq]) (by simp[Jw]) ?_;simp only[go_sem,Zq];have hm:∀p∈opv x::l.map opv,∃y,p=opv y:=λp hp=>by
  rcases JZ.1 hp with rfl|hp;exact⟨x,rfl⟩;obtain⟨y,_,rfl⟩:=Jt.1 hp;exact⟨y,rfl⟩
 have hc:∀p∈opv x::l.map opv,p.ids= []:=λp hp=>by obtain⟨y,rfl⟩:=hm p hp;exact X2 y
 have hrm:=Yb (show l.length+1<=1000000 by simp only[Jc]at hl;omega) (show 176<=1000 by omega);refine⟨λp hp=>by obtain⟨y,rfl⟩:=hm p hp;exact⟨rfl,rfl⟩,hc,λp hp=>by rw[hc p hp];simp,hrm,?_⟩;exact Zda (r0:= .vsl 7 _ 15) hc rfl (.keep _ (by intro i hi;simp[Jw]at hi;subst hi;exact⟨_,Jh.2 rfl,rfl⟩)) rfl rfl
theorem Zi6 (m:List Eg) (o:Opn) (cart:Str) (hm:OkM m) (ho:OkOp o):Pp 33 [tr (Zd m),opv o,.str cart] (.bool (Zfs m o cart)):=by
 have hA:=ZiW m [o] hm (by simp) (λx hx=>by rw[Jh.1 hx];exact ho) (by simp);have hr0:=Yb (show 1<=1000000 by omega) (show 176<=1000 by omega);have hsx:Sized 15 [opv o]:=Yx [o];have hax:Xw [opv o]:=Wi [o];have hll:=Sd m [o];generalize hL:Wp m [o]=L at *;have hml:(L.map opv).length=L.length:=Je _;simp only[Zq,JG,Kj]at hA;simp only[opv]at hsx hax;have hd:(o.drops.map tg).length=o.drops.length:=Je _;unfold Zfs;rw[hL];cases k1:(o.cart==cart);by_cases k2:o.drops.length=0;have e2:(((o.drops.length:Nat):Int)==0)=true:=by rw[k2];rfl
 have e3:decide (0<o.drops.length)=false:=by simp[k2]
 rw[e3];refine ZH func33 rfl ntmps33 results33 ?_;simp only[go_sem,tr,opv,tgs,k1,hd,e2];rfl;have e2:(((o.drops.length:Nat):Int)==0)=false:=by rw[beq_eq_false_iff_ne];omega
 have e3:decide (0<o.drops.length)=true:=by simp;omega
 rw[e3];refine ZH func33 rfl ntmps33 results33 ?_;simp only[go_sem,tr,opv,tgs,k1,hd,e2,hsx,hax,hr0];refine vc7 hA ?_;simp only[go_sem,hml];simp;refine ZH func33 rfl ntmps33 results33 ?_;simp only[go_sem,tr,opv,tgs,k1,hsx,hax,hr0];refine vc7 hA ?_;simp only[go_sem,hml];simp
theorem ZlK {l:List Mo} {k:Nat} (h:k<l.length):(l.map mo).getD k .any=mo (l.getD k Jd):=XE h
theorem ZiD (l:List Mo):Sized 3 (l.map mo):=λe he=>by
 obtain⟨t,_,rfl⟩:=Jt.1 he;rfl
theorem Zoj (l:List Mo):Xw (l.map mo):=λe he=>by
 obtain⟨t,_,rfl⟩:=Jt.1 he;rfl
theorem Zma (x:Mo):(mo x).dids= []:=by simp only[mo,Ki,J3,ZeG,Jf]
theorem Zh0 (l:List Mo):J3 (l.map mo)= []:=by
 induction l with
 |nil=>rfl
 |cons t l ih=>simp only[JG,J3,ih,Zma,Jf]
theorem Zo4 (l:List Mo):(mos l).dids= []:=by simp only[mos,Ki,Zh0]
theorem Ze9 (x:List Mo×Int):(ZjZ x).dids= []:=by simp only[ZjZ,Ki,J3,Zo4,Jf]
theorem ZdV {m:List Eg} {l:List Opn} {cart:Str} {b:Tg} (hm:OkM m):OkDd (YA m l cart b).1:=by
 have hd:OkDd (Jd:Dc):=⟨Jj _,Jj _,(λe h=>by cases h),(λe h=>by cases h)⟩;unfold YA;split;exact hd;split;exact hd;split;exact hd;rename_i h1 _ h3;have hF:=(DR hm (a:=b) (show(Ys (Zd m) b).2=0 from JI.1 h3)).n;have hs:=UE m (YI (Wp m l) cart) b;have hmi:(YI (Wp m l) cart).length<=(Wp m l).length:=Jn _ _;have hli:=Sd m l;have hit:=Zae (YI (Wp m l) cart) cart;generalize (Ys (Zd m) b).1=F at *;generalize YW m (YI (Wp m l) cart) b=seen at *;have f:=λsc it=>ZeO (F:=F) (seen:=seen) (sc:=sc) (it:=it)
 refine⟨by have:=(f 0 []).1;simp only;omega,by simp only[Je];omega,λe he=> ?_,λr hr=> ?_⟩;have:=(f 0 []).2 e he;omega;simp only[Jt]at hr;obtain⟨i,_,rfl⟩:=hr;refine⟨by have:=(f 1 i).1;simp only;omega,λe he=> ?_⟩;have:=(f 1 i).2 e he;omega
structure HisS (m:List Eg) (F:List Fd) (cart:Str) (b:Tg) (s:List Opn) (R:List Mo×Int) where
 k:Nat
 ah:List Opn
 was:Dc
 acc:List Mo
 hk:k<=s.length
 ha:ah.Sublist (s.take k)
 hw:OkDd was
 hl:acc.length<=k
 h:Zbc m F cart b ah was (s.drop k) acc=R
open Go.PL Go.RowKit
theorem Zjo (c:Cg) (item:Str) (place:Rf):Pp 40 [chg c,.str item,ref place] (.bool (ZfU c item place)):=by
 unfold ZfU;cases k1:(c.item==item);refine ZH func40 rfl ntmps40 results40 ?_;simp only[go_sem,chg,ref,k1];simp;cases k2:(c.kind==2);cases k3:(c.kind==1);refine ZH func40 rfl ntmps40 results40 ?_;simp only[go_sem,chg,ref,k1,k2,k3];simp;refine ZH func40 rfl ntmps40 results40 ?_;simp only[go_sem,chg,ref,k1,k2,k3,Zr];simp;refine ZH func40 rfl ntmps40 results40 ?_;simp only[go_sem,chg,ref,k1,k2]
theorem ZiY (l:List Mo):Pp 39 [mos l] (.fn 90 [.rptr [mos l]]):=by
 have hd:(PV.fn 90 [.rptr [mos l]]).dids= []:=by simp only[Ki,J3,mos,Zh0,Jf]
 refine ZA func39 rfl ntmps39 results39 (hd) ?_;simp only[go_sem,mos]
set_option maxRecDepth 100000 in
theorem ZgH (l:List Mo) (hlen:l.length<=100000):ZkK prog 90 [.rptr [mos l]] l.reverse (λc=> [.any,mo c]) 2:=by
 refine⟨⟨_,func90,by decide,rfl⟩,λm S w lb hst hsz hrep=> ?_⟩;obtain⟨v,rfl⟩:∃v,lb= #[v]:=Array.size_eq_one_iff.1 hsz;have h0:=hrep 0 (by simp);have h0:Rep S v (.rptr [mos l]):=h0;obtain⟨b,o,vals,rfl,e2,e3⟩:=(RepS.clean (M:=⟨id,id,id⟩) (q:=λ_=>none) h0).rptr_inv;have e2:=e2 0 (by simp);have e3:Rep S (vals 0) (.sl .no (l.map mo)):=e3 0 (by simp);obtain⟨A,cap,vs,hv,hA,hR⟩:=e3.cells_at (sz:=3) (λi hi=>by
  have hi':i<l.length:=by simpa using hi
  rw[ZlK hi'];rfl)
 simp only[Je]at hv hA hR;rw[hv]at e2;refine⟨λk=> #[.int .i64 ((l.length:Int)-1-(k.val:Int)),.agg ⟨(JJ 3).map λj=>vs (l.length-1-k.val) j⟩],λk=>⟨rfl,rfl,λi hi=> ?_⟩,?_⟩;have hk:k.val<l.length:=by simpa using k.isLt
 have hk':l.length-1-k.val<l.length:=by omega
 have hx:l.reverse[k]=l.getD (l.length-1-k.val) Jd:=by rw[getD_lt hk'];simp
 rw[hx];match i,hi with
 |0,_=>exact .any _
 |1,_=>
  show Rep S (.agg ⟨(JJ 3).map λj=>vs (l.length-1-k.val) j⟩) (mo _);have h1:=λj hj=>hR (l.length-1-k.val) j hk' hj
  rw[ZlK hk']at h1;refine .agg _ _ (by rfl) λj hj=> ?_
  have h13:j<3:=hj;have e:((JJ 3).map λj=>vs (l.length-1-k.val) j).getD j undef=vs (l.length-1-k.val) j:=by
   rw[getD_lt (by simpa using h13)];simp
  rw[e];exact h1 j h13
 intro lp J Jx W hW hJ hJx hY hJ0;have hstW:StabS S W:=⟨λb o u h=>by
  have h1:=hst.c b o u h;rw[World.cell?_of_block (hW.block _ (De h1))];exact h1,λb es h=>by
  have h1:=hst.m b es h;rw[hW.block _ (JX.1 h1).1];exact h1,λb h=>by
  obtain⟨vs1,t1,h1⟩:=hst.y b h;exact⟨vs1,t1,by rw[hW.block _ (JX.1 h1).1];exact h1⟩⟩
 refine callsIn_of_wp func90 rfl trivial ?_ rfl;simp only[ntmps90,List.size_toArray,Jc,Jp,Nat.reduceAdd,Nat.reduceSub,Array.replicate_succ,Array.replicate_zero,List.push_toArray,List.append_toArray,Km,List.cons_append];have hc0:=hstW.c _ _ _ e2;rw[Nat.add_zero]at hc0 e2;have u0:IntKind.i64.wrap ((l.length:Int)-1)=(l.length:Int)-1:=w64 (by omega)
 gi_wp2
 gi_loopw [3] (λi wr=>∃k:Nat,k<=l.length/\i= .int .i64 ((l.length:Int)-1-k)/\StabS S wr/\J ((Kd l.reverse.length).take k) wr)
  (λi _=>(intOf i+1).toNat)
 case atStart=>exact⟨0,Jj _,by simp,hstW,hJ0⟩
 case round=>
  obtain⟨k,hk,rfl,hstr,hJs⟩:=hrel;have hcx:=hstr.c _ _ _ e2
  by_cases hlt:k<l.length
  ·obtain⟨b',o',rfl,hcl⟩:=hA (by omega);have hk':l.length-1-k<l.length:=by omega
   have hkx:k<l.reverse.length:=by simpa using hlt
   have hkk:((l.length-1-k:Nat):Int)=(l.length:Int)-1-(k:Int):=by omega
   have i0:(l.length:Int)-1-(k:Int)>=0:=by omega
   have hto:((l.length:Int)-1-(k:Int)).toNat=l.length-1-k:=by omega
   have hld:(loadVar 70 ⟨b',o'+(l.length-1-k)*3,none⟩).run prog wr= .ok (.agg ⟨(JJ 3).map λj=>vs (l.length-1-k) j⟩) wr:=
    ZmN underlying70 rfl rfl λj hj=>hstr.c _ _ _ (hcl _ j hk' hj)
   obtain⟨fn,tmps,assign,body,hy,hRR⟩:=hY _ ⟨k,hkx⟩ wr hJs (by simp;omega);obtain⟨val,hval⟩:∃val,val=Value.agg ⟨(JJ 3).map λj=>vs (l.length-1-k) j⟩:=⟨_,rfl⟩;have hy:(Instr.yield lp #[.int .i64 ((l.length:Int)-1-(k:Int)),val]).run prog wr= .ok (.round lp fn tmps assign body) wr:=by rw[hval];exact hy
   rw[<-hval]at hld;clear hval
   gi_wp2_with (first|(refine ZhQ rfl hld ?_)|gi_in)
   refine hRR.mono ?_
   rintro e W3 (⟨rfl,hJ3,hk3⟩|⟨rfl,hJx3⟩)
   ·have u2:IntKind.i64.wrap ((l.length:Int)-1-(k:Int)-1)=(l.length:Int)-1-((k+1:Nat):Int):=by rw[w64 (by omega)];omega
    gi_wp2
    go_roundw
    case rel=>exact⟨k+1,by omega,rfl,hk3 hstr,by rw[Gr hkx];exact hJ3⟩
    case measure=>simp[intOf];omega
   ·gi_wp2
    refine bodyPost_ret (results_none rfl _ _ _) rfl ?_;exact⟨⟨_,rfl⟩,.inr ⟨_,by rw[<-Gr hkx];exact List.take_prefix _ _,hJx3⟩⟩
  ·obtain rfl:k=l.length:=by omega
   have i0:¬((l.length:Int)-1-(l.length:Int)>=0):=by omega
   gi_wp2
   go_end0
   have e:(Kd l.reverse.length).take l.length=Kd l.reverse.length:=Jr (by simp);rw[e]at hJs;exact⟨⟨_,rfl⟩,.inl hJs⟩
open Go.PL
def blL:List (Nat×PV):= [(10,.ptr 10 0),(11,.ptr 11 0),(12,.ptr 12 0),(13,.ptr 13 0)]
def blM (item:Str) (place:Rf) (t:Tg):MemT:=⟨[(10,[.str item],false),(11,[.int .i64 place.sc,.str place.gr,.str place.nm],false),(12,[.int .i64 t.r,.int .i64 t.n],false),(13,[.int .i64 0],false)],[],[]⟩
theorem ZiU (item:Str) (place:Rf) (t:Tg) (φ:Nat->Nat):WholeT blL (blM item place t) (TH [10,11,12,13] φ):=
 ⟨⟨(Fc4 rfl rfl rfl rfl),(Fc4 rfl rfl rfl rfl)⟩,fnl,fnl,fnl,(Fc4 rfl rfl rfl rfl),fnl⟩
def Zl3 (pre:List Mo):Tg:=(pre.getLast?.elim Jd Mo.id)
def ZnS (item:Str) (place:Rf) (x:Mo):Bool:=x.l.any λc=>ZfU c item place
theorem ZjE {l:List Mo} {p:Mo->Bool} {pre:List Mo} {x:Mo} (h:pre++ [x] <+:l) (hn:∀y∈pre,p y=false) (hx:p x=true):l.find? p=some x:=by
 obtain⟨r,rfl⟩:=h;rw[Jz,List.find?_append,Kf.2 (λy hy=>by rw[hn y hy];simp)];simp[hx]
theorem Zbo (m:List Eg) (L:List Opn) (cart:Str) (b:Tg) (item:Str) (place:Rf) (vd:Dc) (fe:En) (H:List Mo)
  (hV:Pp 28 [tr (Zd m),Zq L,.str cart,tg b] (D0 (vd,0)))
  (hFi:Pp 38 [doc vd,.str item,ref place] (ZnR (fe,0)))
  (hH:Pp 10 [tr (Zd m),Zq L,.str cart,tg b] (ZjZ (H,0)))
  (hl:H.length<=100000) (hx:∀x∈H,x.l.length<=1000000):
  Pp 12 [tr (Zd m),Zq L,.str cart,tg b,.str item,ref place] (tgc ((H.reverse.find? (ZnS item place)).elim Jd Mo.id,0)):=by
 have hbw:=ZiY H;have hT:=λc=>Zjo c item place
 refine Pure.range (A:=Mo) 6 (Q1:=λs=>s.eval (.tmp 59)= .fn 90 [.rptr [mos H]]/\HasT 77 blL (blM item place Jd) [] s) (pin:= [10,11,12,13]) (mt:=λ_=>blM item place Jd) (mx:=λpre=>blM item place (Zl3 pre)) (Y:=λpre=>∀y∈pre,ZnS item place y=false) (X:=λpre=>∃pre' x,pre=pre'++ [x]/\(∀y∈pre',ZnS item place y=false)/\ZnS item place x=true)
  func12 (by decide) rfl ntmps12 results12 (by simp) (Fq _) ?_ rfl (λs hs=>⟨hs.1,hs.2,λi hi=> ?_⟩) (by simp[Jw,JS,mos]) (ZgH H hl) ?_ ?_ ?_ (λy hy=>by cases hy) (λ_ φ=>ZiU _ _ _ φ) (λ_ φ=>ZiU _ _ _ φ) ?_ ?_ ?_
 refine Vs ?_;simp only[go_sem,tr,Zq,tg,ref];refine Vs ?_;simp only[go_sem,tr,Zq,tg,ref];refine vc7 hV ?_;simp only[go_sem,D0,doc];refine Vs ?_;simp only[go_sem];refine Vs ?_;simp only[go_sem];refine vc1 hFi ?_;simp only[go_sem,ZnR,ent];refine Vs ?_;simp only[go_sem,tr,Zq,tg];refine vc7 hH ?_;simp only[go_sem,ZjZ,mos];refine Vs ?_;simp only[go_sem];refine ZpD (Z3 _ _ _ (show @vC _ ⟨_⟩ ⟨_⟩ _ from ?_));simp only[go_sem];refine vc9 hbw ?_;simp only[go_sem,mos];exact⟨rfl,⟨⟨rfl,(Fc4 rfl rfl rfl rfl),Fc4 ⟨rfl,rfl⟩ ⟨rfl,rfl⟩ ⟨rfl,rfl⟩ ⟨rfl,rfl⟩,fnl⟩,fnl,fnl,fnl,fnl,fnl,fnl⟩⟩;have h:=λx hx=>(hs.2.b.h x hx).1
 simp only[JZ,Kl,or_false]at hi;rcases hi with rfl|rfl|rfl|rfl;rw[h (10,[.str item],false) (by simp[blM])];simp;rw[h (11,[.int .i64 place.sc,.str place.gr,.str place.nm],false) (by simp[blM])];simp;rw[h (12,[.int .i64 (Jd:Tg).r,.int .i64 (Jd:Tg).n],false) (by simp[blM])];simp;rw[h (13,[.int .i64 0],false) (by simp[blM])];simp;intro x hxx p hp;rcases JZ.1 hp with rfl|hp;rfl;rw[Jh.1 hp];exact List.eq_nil_iff_forall_not_mem.2 λi hi=>by have:=UZ _ hi;rw[Zma]at this;cases this
 intro t ht;have:t=60\/t=61:=by simpa using ht
 rcases this with rfl|rfl<;>decide
 intro x hxx r hr;simp only[blL,JZ,Kl,or_false]at hxx;rcases hxx with rfl|rfl|rfl|rfl;exact⟨10,by simp,by simpa[Jw]using hr⟩;exact⟨11,by simp,by simpa[Jw]using hr⟩;exact⟨12,by simp,by simpa[Jw]using hr⟩;exact⟨13,by simp,by simpa[Jw]using hr⟩;intro l φ pre x hxc hpl hY;have hfx:=hx x (List.mem_reverse.1 hxc);have hlm:x.l.length<=maxLen:=by rw[Zb];omega
 refine FI ?_;change @vR l 0 prog ⟨_⟩ ⟨_⟩ (((mkT 77 blL (blM item place Jd) (TH [10,11,12,13] φ)).put (some 60) .any).put (some 61) (mo x));simp only[go_sem,blL,blM,mo];refine FI ?_;simp only[go_sem,blL,blM,mo,Zc5];refine Zue (ι:= { k:Nat // k<=x.l.length/\ ∀j,j<k->ZfU (x.l.getD j Jd) item place=false }) (λy=> [(10,.ptr 10 0),(11,.ptr 11 0),(12,.ptr 12 0),(13,.ptr 13 0),(20,.ptr 20 0),(63,.sl .no (x.l.map chg)),(64,.int .i64 (x.l.length:Int)),(65,.int .i64 (y.1:Int))]) (λy=>⟨[(20,[.int .i64 x.id.r,.int .i64 x.id.n,.sl .no (x.l.map chg)],false),(10,[.str item],false),(11,[.int .i64 place.sc,.str place.gr,.str place.nm],false),(12,[.int .i64 0,.int .i64 0],false),(13,[.int .i64 0],false)],[],[]⟩) (TH [10,11,12,13] φ) (λy=>x.l.length-y.1) ⟨0,Jj _,λj hj=>absurd hj (Jq j)⟩
  ⟨⟨rfl,(Fc8 rfl rfl rfl rfl rfl rfl rfl rfl),Fc5 ⟨rfl,rfl⟩ ⟨rfl,rfl⟩ ⟨rfl,rfl⟩ ⟨rfl,rfl⟩ ⟨rfl,rfl⟩,fnl⟩,fnl,fnl,fnl,fnl,(Fc4 rfl rfl rfl rfl),fnl⟩ (λy=>⟨⟨(Fc8 rfl rfl rfl rfl rfl rfl rfl rfl),(Fc5 rfl rfl rfl rfl rfl)⟩,fnl,fnl,fnl,(Fc4 rfl rfl rfl rfl),fnl⟩) (λy=> ?_)
 obtain⟨k,hk,hno⟩:=y;simp only;by_cases h:(k:Int)<(x.l.length:Int);have hka:k<x.l.length:=by omega
 have i1:=Ja k
 have w1:=Xb hka hlm;have hTc:=hT (x.l.getD k Jd);cases ht:ZfU (x.l.getD k Jd) item place;rw[ht]at hTc;simp only[go_sem,blL,blM,h,Zib hka,i1,chg];refine vc8 hTc ?_;simp only[go_sem,w1];refine⟨⟨k+1,by omega,λj hj=> ?_⟩,nx9 (by omega),⟨⟨rfl,(Fc8 rfl rfl rfl rfl rfl rfl rfl rfl),Fc5 ⟨rfl,rfl⟩ ⟨rfl,rfl⟩ ⟨rfl,rfl⟩ ⟨rfl,rfl⟩ ⟨rfl,rfl⟩,fnl⟩,fnl,fnl,fnl,fnl,(Fc4 rfl rfl rfl rfl),fnl⟩⟩;rcases Jv j k with hlt|hge;exact hno j hlt;obtain rfl:j=k:=by omega
 exact ht;rw[ht]at hTc;have hit:ZnS item place x=true:=List.any_eq_true.2 ⟨_,Ze (d:=Jd) hka,ht⟩;have hlt:Zl3 (pre++ [x])=x.id:=by simp[Zl3]
 simp only[go_sem,blL,blM,h,Zib hka,i1,chg];refine vc8 hTc ?_;simp only[go_sem];refine⟨⟨pre,x,rfl,hY,hit⟩,⟨⟨rfl,fnl,?_,fnl⟩,fnl,fnl,fnl,fnl,(Fc4 rfl rfl rfl rfl),fnl⟩⟩;rw[hlt];exact Fc4 ⟨rfl,rfl⟩ ⟨rfl,rfl⟩ ⟨rfl,rfl⟩ ⟨rfl,rfl⟩;have hmiss:ZnS item place x=false:=by
  unfold ZnS;rw[List.any_eq_false];intro c hc;obtain⟨j,hj,rfl⟩:=Ji hc;have:=hno j (by omega);rw[getD_lt hj]at this;rw[this];simp
 simp only[go_sem,blL,blM,h];refine⟨λy hy=> ?_,⟨⟨rfl,fnl,Fc4 ⟨rfl,rfl⟩ ⟨rfl,rfl⟩ ⟨rfl,rfl⟩ ⟨rfl,rfl⟩,fnl⟩,fnl,fnl,fnl,fnl,(Fc4 rfl rfl rfl rfl),fnl⟩⟩;rcases Ju.1 hy with hy|hy;exact hY y hy;rw[Jh.1 hy];exact hmiss;intro hY φ;have hf:H.reverse.find? (ZnS item place)=none:=Kf.2 λy hy=>by rw[hY y hy];simp
 rw[hf];refine ZpX ?_;simp only[go_sem,blL,blM,tgc,tg];rfl;intro pre hp hX φ;obtain⟨pre',x,rfl,h1,h2⟩:=hX;rw[ZjE hp h1 h2];have hlt:Zl3 (pre'++ [x])=x.id:=by simp[Zl3]
 show ZaY _ _ _ _ _;rw[hlt];simp only[go_sem,blL,blM,tgc,tg];rfl
open Go.PL
structure RAtS (l:List Opn) where
 k:Nat
 hk:k<=l.length
 id:Nat
 hid:id=27
theorem Zi9 (l:List Opn) (v:List Int) (hl:l.length<=100000) (hv:v.length=6):Pp 15 [Zq l,VB v] (Zq (atM v l)):=by
 have hlm:l.length<=maxLen:=by rw[Zb];omega
 refine ZA func15 rfl ntmps15 results15 (VQ _) ?_;simp only[go_sem,Zq,VB,hv,ZP hv];refine ZL 5 7 27 0 15 62 [] rfl rfl rfl ?_;refine Zt (ι:= { k:Nat // k<=l.length }) 29 (λx=> [(0,Zq l),(3,.ptr 3 0),(5,.sl (.row 27) ((atM v (l.take x.1)).map opv)),(6,.int .i64 (x.1:Int))]) (λx=> [(3,v.map (.int .i64),false)]) (λx=> [(27,.live (atM v (l.take x.1)).length 15 62)]) (λx=>l.length-x.1) ⟨0,Jj _⟩
  ⟨rfl,(Fc4 rfl rfl rfl rfl),fcs ⟨rfl,rfl⟩ fnl,(fcs rfl fnl)⟩ (λx=>⟨Fc4 rfl rfl (by simp[Jw,ZG]) rfl,fcs (by rw[YX];rfl) fnl⟩) (λx=> ?_)
 obtain⟨k,hk⟩:=x;simp only;by_cases h:(k:Int)<(l.length:Int);have hka:k<l.length:=by omega
 have i1:=Ja k
 have w1:=Xb hka hlm;have hH:=G3 v hv (l.getD k Jd).id;have hsn:=Zc2 v hka;have hal:=FH v (l.take k);have htl:(l.take k).length<=k:=JA _ _;have hrm:=Yb (show(atM v (l.take k)).length+1<=1000000 by omega) (show 176<=1000 by omega);have hml:((atM v (l.take k)).map opv).length=(atM v (l.take k)).length:=Je _;have hsz:=Yx (atM v (l.take k));generalize hx:l.getD k Jd=x at *;have hsx:Sized 15 [opv x]:=Yx [x];have hax:Xw [opv x]:=Wi [x];simp only[opv]at hsx hax;cases hb:GW v x.id;rw[hb]at hH;rw[hb,if_neg (by simp),Jf]at hsn;simp only[go_sem,Zq,h];refine vDq ?_;simp only[go_sem,Zq,h,Zl hka,hx,opv,i1,hv,ZP hv];refine vc9 hH ?_;simp only[go_sem,w1];exact⟨⟨k+1,by omega⟩,nx9 (by omega),⟨rfl,by simp only;rw[hsn];exact(Fc4 rfl rfl rfl rfl),fcs ⟨rfl,rfl⟩ fnl,by simp only;rw[hsn];exact(fcs rfl fnl)⟩⟩;rw[hb]at hH;rw[hb,if_pos rfl]at hsn;simp only[go_sem,Zq,h];refine vDq ?_;simp only[go_sem,Zq,h,Zl hka,hx,opv,i1,hv,ZP hv];refine vc9 hH ?_;simp only[go_sem,Zq,h,Zl hka,hx,opv,i1,hml,hrm,hsz,hsx,hax,w1];exact⟨⟨k+1,by omega⟩,nx9 (by omega),⟨rfl,by simp only;rw[hsn,Jg];exact(Fc4 rfl rfl rfl rfl),fcs ⟨rfl,rfl⟩ fnl,by simp only;rw[hsn,Jb];exact(fcs rfl fnl)⟩⟩;obtain rfl:k=l.length:=by omega
 simp only[go_sem,Zq,h,Jy]
def ixO (l:List Opn) (t:Tg):Int:=(l.findIdx? λo=>decide (o.id=t)).elim (-1) KB
theorem ZqW {l:List Opn} {t:Tg}:ixO l t<0↔t∉l.map Opn.id:=by
 unfold ixO;cases h:l.findIdx? λo=>decide (o.id=t)with
 |none=>
  rw[JY]at h;refine⟨λ_ hm=> ?_,λ_=>by decide⟩;obtain⟨o,ho,rfl⟩:=Jt.1 hm;simpa using h o ho
 |some i=>
  obtain⟨h1,h2,_⟩:=JE.1 h;refine⟨λhh=> ?_,λhm=> ?_⟩
  ·simp only[Option.elim]at hh;have:(0:Int)<=KB i:=Ja i;omega
  ·exact absurd (Jt.2 ⟨l[i],JB h1,by simpa using h2⟩) hm
theorem Zi8 (l:List Opn) (t:Tg) (hl:l.length<=100000):Pp 56 [Zq l,tg t] (.int .i64 (ixO l t)):=by
 have hlm:l.length<=maxLen:=by rw[Zb];omega
 refine ZH func56 rfl ntmps56 results56 ?_;simp only[go_sem,Zq,tg];refine Zt (ι:= { x:Nat // x<=(l).length/\(∀j,j<x-> ¬(l.getD j Jd).id=t) }) 20 (λx=> [(0,Zq l),(3,.ptr 3 0),(5,.int .i64 (x.1:Int))]) (λx=> [(3,[.int .i64 t.r,.int .i64 t.n],false)]) (λx=> []) (λx=>(l).length-x.1) ⟨0,Jj _,λj hj=>absurd hj (Jq j)⟩ ⟨rfl,(Fc3 rfl rfl rfl),(fcs ⟨rfl,rfl⟩ fnl),fnl⟩ (λx=>⟨(Fc3 rfl rfl rfl),(fcs rfl fnl)⟩) (λx=> ?_);obtain⟨k,hk,hI⟩:=x;simp only at hk hI ⊢;by_cases h:(k:Int)<(l.length:Int)
 (have hka:k<(l).length:=by omega);(have w1:=Xb hka (hlm));(have i1:=Ja k)
 by_cases he:(l.getD k Jd).id=t;have hix:ixO l t=(k:Int):=by
  unfold ixO;rw[show l.findIdx? (λo=>decide (o.id=t))=some k from JE.2 ⟨hka,by rw[<-getD_lt (d:=Jd) hka];simpa using he,λj hj=>by rw[<-getD_lt (d:=Jd) (by omega)];simpa using hI j hj⟩];rfl
 simp only[go_sem,Zq,h];refine vDq ?_;simp only[go_sem,Zq,h,Zl hka,opv,i1,tg,ZN,he,hix]
 ·simp only[go_sem,Zq,h];refine vDq ?_;simp only[go_sem,Zq,h,Zl hka,opv,i1,tg,ZN,he,w1];exact⟨⟨k+1,by(try simp only);omega,Zm hI he⟩,by show(l).length-(k+1)<(l).length-k;omega,⟨rfl,(Fc3 rfl rfl rfl),(fcs ⟨rfl,rfl⟩ fnl),fnl⟩⟩
 have hix:ixO l t= -1:=by
  unfold ixO;rw[JY.2 λo ho=> ?_];rfl;obtain⟨j,hj,rfl⟩:=Ji ho;have:=hI j (by omega);rw[getD_lt hj]at this;simpa using this
 simp only[go_sem,Zq,h,hix]
open Go.PL
theorem ZaQ {v:List Int} {l:List Opn} {i n:Nat} (hi:i<6) (hn:n<(v.getD i 0).toNat) (h:(⟨(i:Int)+1,(n:Int)+1⟩:Tg)∉l.map Opn.id):ZaP v l=false:=by
 rw[JP];intro ht;simp only[ZaP,Jm,JD,decide_eq_true_eq]at ht;exact h (ht i hi n hn)
theorem ZcB {v:List Int} {l:List Opn} (h:∀i,i<6-> ∀n,n<(v.getD i 0).toNat->(⟨(i:Int)+1,(n:Int)+1⟩:Tg)∈l.map Opn.id):ZaP v l=true:=by
 simp only[ZaP,Jm,JD,decide_eq_true_eq];exact h
def Zvf (v:List Int) (o:Opn) (n:Nat):Prop:=GW v o.id=true-> ∀j,j<n->GW v (o.drops.getD j Jd)=true
theorem ZgP {v:List Int} {l:List Opn} (h:∀j,j<l.length->Zvf v (l.getD j Jd) (l.getD j Jd).drops.length):Uv v l=true:=by
 simp only[Uv,atM,Jm,Jo];rintro o ⟨ho,hv⟩ t ht;obtain⟨i,hi,rfl⟩:=Ji ho;obtain⟨j,hj,rfl⟩:=Ji ht;have:=h i hi;rw[getD_lt hi]at this;have:=this hv j hj;rwa[getD_lt hj]at this
theorem ZeJ {v:List Int} {l:List Opn} {i j:Nat} (hi:i<l.length) (hv:GW v (l.getD i Jd).id=true) (hj:j<(l.getD i Jd).drops.length) (h:GW v ((l.getD i Jd).drops.getD j Jd)=false):Uv v l=false:=by
 rw[JP];intro ht;simp only[Uv,atM,Jm,Jo]at ht;have:=ht _ ⟨Ze hi,hv⟩ _ (Ze (d:=Jd) hj);rw[h]at this;cases this
theorem Zd9 (l:List Opn) (v:List Int) (hl:l.length<=100000) (hv:v.length=6) (ho:∀o∈l,OkOp o):Pp 21 [Zq l,VB v] (.bool (Vf v l)):=by
 have hlm:l.length<=maxLen:=by rw[Zb];omega
 have hR:=Zeh v hv;cases hr:UD v;rw[hr]at hR;have hc:Vf v l=false:=by simp[Vf,hr]
 refine ZH func21 rfl ntmps21 results21 ?_;simp only[go_sem,Zq,VB,hv,ZP hv];refine vc9 hR ?_;simp only[go_sem,hc];rw[hr]at hR;refine ZH func21 rfl ntmps21 results21 ?_;simp only[go_sem,Zq,VB,hv,ZP hv];refine vc9 hR ?_;simp only[go_sem];refine Zt (ι:= { k:Nat // k<=6/\ ∀i,i<k-> ∀n,n<(v.getD i 0).toNat->(⟨(i:Int)+1,(n:Int)+1⟩:Tg)∈l.map Opn.id }) 66 (λx=> [(0,Zq l),(3,.ptr 3 0),(5,.int .i64 ((x.1+1:Nat):Int))]) (λx=> [(3,v.map (.int .i64),false)]) (λx=> []) (λx=>6-x.1) ⟨0,by omega,λi hi=>absurd hi (Jq i)⟩
  ⟨rfl,(Fc3 rfl rfl rfl),fcs ⟨rfl,rfl⟩ fnl,fnl⟩ (λx=>⟨(Fc3 rfl rfl rfl),fcs (by rw[YX];rfl) fnl⟩) (λx=> ?_)
 obtain⟨k,hk,hT⟩:=x;simp only;by_cases h:((k+1:Nat):Int)<7;have hk6:k<v.length:=by omega
 have hra:=ZaE hr hk6;have ek:IntKind.i64.wrap (((k+1:Nat):Int)-1)=(k:Int):=by rw[w64 (by omega)];omega
 have k0:=Ja k
 have k6:(k:Int)<((6:Nat):Int):=by omega
 have k6':(k:Int)<6:=by omega
 have k5:k<6:=by omega
 have k7:k+1<=v.length:=hk6;have w1:IntKind.i64.wrap (((k+1:Nat):Int)+1)=((k+1+1:Nat):Int):=by rw[w64 (by omega)];rfl
 simp only[go_sem,h];refine Zt (ι:= { j:Nat // j<=(v.getD k 0).toNat/\ ∀n,n<j->(⟨(k:Int)+1,(n:Int)+1⟩:Tg)∈l.map Opn.id }) 66 (λy=> [(0,Zq l),(3,.ptr 3 0),(5,.int .i64 ((k+1:Nat):Int)),(6,.int .i64 ((y.1+1:Nat):Int))]) (λy=> [(3,v.map (.int .i64),false)]) (λy=> []) (λy=>(v.getD k 0).toNat-y.1) ⟨0,by omega,λi hi=>absurd hi (Jq i)⟩
  ⟨rfl,(Fc4 rfl rfl rfl rfl),fcs ⟨rfl,rfl⟩ fnl,fnl⟩ (λy=>⟨(Fc4 rfl rfl rfl rfl),fcs (by rw[YX];rfl) fnl⟩) (λy=> ?_)
 obtain⟨j,hj,hJ⟩:=y;simp only;by_cases h2:((j+1:Nat):Int)<=v.getD k 0;have hA:Pp 56 [Zq l,tg ⟨((k+1:Nat):Int),((j+1:Nat):Int)⟩] (.int .i64 (ixO l ⟨(k:Int)+1,(j:Int)+1⟩)):=Zi8 l ⟨(k:Int)+1,(j:Int)+1⟩ hl;have w2:IntKind.i64.wrap (((j+1:Nat):Int)+1)=((j+1+1:Nat):Int):=by rw[w64 (by omega)];rfl
 have hn:=ZqW (l:=l) (t:=⟨(k:Int)+1,(j:Int)+1⟩);by_cases h3:ixO l ⟨(k:Int)+1,(j:Int)+1⟩<0;have hc:Vf v l=false:=by simp[Vf,ZaQ (v:=v) (i:=k) (n:=j) k5 (by omega) (hn.1 h3)]
 simp only[go_sem,ek,k0,k6,k6',k5,k7,Vq hk6,h2];refine vc7 hA ?_;simp only[go_sem,h3,hc];simp only[go_sem,ek,k0,k6,k6',k5,k7,Vq hk6,h2];refine vc7 hA ?_;simp only[go_sem,h3,w2];refine⟨⟨j+1,by omega,λn hn'=> ?_⟩,by show(v.getD k 0).toNat-(j+1)<(v.getD k 0).toNat-j;omega,⟨rfl,(Fc4 rfl rfl rfl rfl),fcs ⟨rfl,rfl⟩ fnl,fnl⟩⟩;rcases Jv n j with hlt|hge;exact hJ n hlt;obtain rfl:n=j:=by omega
 exact JI.1 λhh=>h3 (hn.2 hh)
 simp only[go_sem,ek,k0,k6,k6',k5,k7,Vq hk6,h2,w1];refine⟨⟨k+1,by omega,λi hi n hn=> ?_⟩,by show 6-(k+1)<6-k;omega,⟨rfl,(Fc3 rfl rfl rfl),fcs ⟨rfl,rfl⟩ fnl,fnl⟩⟩;rcases Jv i k with hlt|hge;exact hT i hlt n hn;obtain rfl:i=k:=by omega
 exact hJ n (by omega);have ht:ZaP v l=true:=ZcB λi hi n hn=>hT i (by omega) n hn
 simp only[go_sem,h];refine Zt (ι:= { k:Nat // k<=l.length/\ ∀j,j<k->Zvf v (l.getD j Jd) (l.getD j Jd).drops.length }) 66 (λx=> [(0,Zq l),(3,.ptr 3 0),(7,.int .i64 (x.1:Int))]) (λx=> [(3,v.map (.int .i64),false)]) (λx=> []) (λx=>l.length-x.1) ⟨0,by omega,λi hi=>absurd hi (Jq i)⟩
  ⟨rfl,(Fc3 rfl rfl rfl),fcs ⟨rfl,rfl⟩ fnl,fnl⟩ (λx=>⟨(Fc3 rfl rfl rfl),fcs (by rw[YX];rfl) fnl⟩) (λx=> ?_)
 obtain⟨k,hk,hD⟩:=x;simp only;by_cases h:(k:Int)<(l.length:Int);have hka:k<l.length:=by omega
 have i1:=Ja k
 have w1:=Xb hka hlm;have hdl:=(ho _ (Zs (d:=Jd) hka)).d;have hH:=G3 v hv (l.getD k Jd).id;simp only[go_sem,Zq,h];refine Zt (ι:= { j:Nat // j<=(l.getD k Jd).drops.length/\Zvf v (l.getD k Jd) j }) 66 (λy=> [(0,Zq l),(3,.ptr 3 0),(7,.int .i64 (k:Int)),(8,.int .i64 (y.1:Int))]) (λy=> [(3,v.map (.int .i64),false)]) (λy=> []) (λy=>(l.getD k Jd).drops.length-y.1) ⟨0,by omega,λ_ i hi=>absurd hi (Jq i)⟩
  ⟨rfl,(Fc4 rfl rfl rfl rfl),fcs ⟨rfl,rfl⟩ fnl,fnl⟩ (λy=>⟨(Fc4 rfl rfl rfl rfl),fcs (by rw[YX];rfl) fnl⟩) (λy=> ?_)
 obtain⟨j,hj,hJ⟩:=y;simp only;by_cases h2:(j:Int)<((l.getD k Jd).drops.length:Int);have hja:j<(l.getD k Jd).drops.length:=by omega
 have j1:=Ja j
 have w2:=wk9 (k:=j) (by omega)
 have hH2:=G3 v hv ((l.getD k Jd).drops.getD j Jd);have hf:=ZeJ (v:=v) (j:=j) hka;generalize hx:l.getD k Jd=x at *;generalize htt:x.drops.getD j Jd=t at *;cases hb:GW v x.id;rw[hb]at hH;simp only[go_sem,Zq,h,Zl hka,hx,opv,tgs,h2,i1];refine vDq ?_;simp only[go_sem,Zq,h,Zl hka,hx,opv,i1,hv,ZP hv];refine vc9 hH ?_;simp only[go_sem,w2];exact⟨⟨j+1,by omega,λhh=>by rw[hb]at hh;cases hh⟩,nx9 (by omega),⟨rfl,(Fc4 rfl rfl rfl rfl),fcs ⟨rfl,rfl⟩ fnl,fnl⟩⟩;rw[hb]at hH;cases hb2:GW v t;rw[hb2]at hH2;have hc:Vf v l=false:=by simp[Vf,hf hb hja hb2]
 simp only[go_sem,Zq,h,Zl hka,hx,opv,tgs,h2,i1];refine vDq ?_;simp only[go_sem,Zq,h,Zl hka,hx,opv,i1,hv,ZP hv];refine vc9 hH ?_;simp only[go_sem,Zq,h,Zl hka,hx,opv,i1,hv,ZP hv,tgs,ZK hja,htt,tg,j1,h2];refine vc9 hH2 ?_;simp only[go_sem,hc];rw[hb2]at hH2;simp only[go_sem,Zq,h,Zl hka,hx,opv,tgs,h2,i1];refine vDq ?_;simp only[go_sem,Zq,h,Zl hka,hx,opv,i1,hv,ZP hv];refine vc9 hH ?_;simp only[go_sem,Zq,h,Zl hka,hx,opv,i1,hv,ZP hv,tgs,ZK hja,htt,tg,j1,h2];refine vc9 hH2 ?_;simp only[go_sem,w2];refine⟨⟨j+1,by omega,λhh n hn=> ?_⟩,nx9 (by omega),⟨rfl,(Fc4 rfl rfl rfl rfl),fcs ⟨rfl,rfl⟩ fnl,fnl⟩⟩;rcases Jv n j with hlt|hge;exact hJ hh n hlt;obtain rfl:n=j:=by omega
 rw[htt];exact hb2;obtain rfl:j=(l.getD k Jd).drops.length:=by omega
 simp only[go_sem,Zq,h,Zl hka,opv,tgs,h2,i1,w1];refine⟨⟨k+1,by omega,λn hn=> ?_⟩,nx9 (by omega),⟨rfl,(Fc3 rfl rfl rfl),fcs ⟨rfl,rfl⟩ fnl,fnl⟩⟩;rcases Jv n k with hlt|hge;exact hD n hlt;obtain rfl:n=k:=by omega
 exact hJ;have hc:Vf v l=true:=by simp[Vf,hr,ht,ZgP λj hj=>hD j (by omega)]
 simp only[go_sem,Zq,h,hc]
end Go.Proofs.YtadgngamdofhiaaGreat
namespace Go.PL
section
variable {n d b:Nat} {L:List (Nat×PV)} {cs:List PV} {c:MapC} {s:St}
theorem SO (h0:s.n=n) (hL:∀x∈L,s.fr x.1=x.2) (hb:s.m.h d=some cs) (hz:s.m.z d=false) (ho:s.m.o b=some c):HasX n L [(d,cs,false)] [] [(b,c)] [] [] [] [] [] s:=
 ⟨⟨h0,hL,by simp[hb,hz],by simp⟩,by simp[ho],by simp,by simp,by simp,by simp,by simp⟩
theorem Za2 (hL:∀x∈L,x.2.ids.all (ZG [(d,cs,false)] [])=true) (hc:(JS cs).all (ZG [(d,cs,false)] [])=true):WholeX L [(d,cs,false)] [] [] [] [] []:=
 ⟨⟨hL,by simpa using hc⟩,by simp,by simp,by simp,by simp,by simp⟩
theorem Zie (h0:s.n=n) (hL:∀x∈L,s.fr x.1=x.2) (ho:s.m.o b=some c):HasX n L [] [] [(b,c)] [] [] [] [] [] s:=
 ⟨⟨h0,hL,by simp,by simp⟩,by simp[ho],by simp,by simp,by simp,by simp,by simp⟩
theorem ZiS (hL:∀x∈L,x.2.ids.all (ZG [] [])=true):WholeX L [] [] [] [] [] []:=
 ⟨⟨hL,by simp⟩,by simp,by simp,by simp,by simp,by simp⟩
end
end Go.PL
namespace Go.Proofs.YtadgngamdofhiaaGreat
open Go.PL
structure ClS (v:List Int) (A:List Opn) where
 k:Nat
 ks:List Tg
 hk:k<=A.length
 h:∀t,t∈ks↔t∈(A.take k).map Opn.id
 hd:∀j,j<k-> ∀t∈(A.getD j Jd).drops,GW v t=true
theorem Zly {v:List Int} {l:List Opn} (h:∀j,j<(atM v l).length-> ∀t∈((atM v l).getD j Jd).drops,GW v t=true):Uv v l=true:=by
 simp only[Uv,Jm];intro o ho t ht;obtain⟨j,hj,rfl⟩:=Ji ho;have:=h j hj;rw[getD_lt hj]at this;exact this t ht
theorem ZjD {v:List Int} {l:List Opn} {j i:Nat} (hj:j<(atM v l).length) (hi:i<((atM v l).getD j Jd).drops.length) (h:GW v (((atM v l).getD j Jd).drops.getD i Jd)=false):Uv v l=false:=by
 rw[JP];intro ht;simp only[Uv,Jm]at ht;have:=ht _ (Ze (d:=Jd) hj) _ (Ze (d:=Jd) hi);rw[h]at this;cases this
theorem Zgc (l:List Opn) (v:List Int) (hl:l.length<=100000) (hv:v.length=6) (ho:∀o∈l,OkOp o):Pp 20 [Zq l,VB v] (.bool (VG v l)):=by
 have hR:=Zgz v hv;cases hr:UD v;rw[hr]at hR;have hc:VG v l=false:=by simp[VG,hr]
 refine ZH func20 rfl ntmps20 results20 ?_;simp only[go_sem,Zq,VB,hv,ZP hv];refine vc9 hR ?_;simp only[go_sem,hc];rw[hr]at hR;have hT:=ZbB l v hl hv;have hAl:=FH v l;have hdn:∀ {j i:Nat},j<(atM v l).length->i<((atM v l).getD j Jd).drops.length->GW v (((atM v l).getD j Jd).drops.getD i Jd)=false->Uv v l=false:=λh1 h2 h3=>ZjD h1 h2 h3
 have hdo:=Zly (v:=v) (l:=l);have hoA:∀o∈atM v l,OkOp o:=λo h=>ho o ((G9 v l).mem h)
 have hcl:VG v l=(Uv v l&&ZaP v (atM v l)):=by simp[VG,hr]
 generalize atM v l=A at *;refine ZH func20 rfl ntmps20 results20 ?_;simp only[go_sem,Zq,VB,hv,ZP hv];refine vc9 hR ?_;simp only[go_sem];intro b;simp only[go_sem,Zq,VB,hv,ZP hv];refine vc9 hT ?_;simp only[go_sem,Zq];refine Xa (ι:=ClS v A) 66 (λx=> [(3,.ptr 3 0),(5,.mref b),(21,Zq A),(22,.int .i64 (A.length:Int)),(23,.int .i64 (x.k:Int))]) (λ_=> [(3,v.map (.int .i64),false)]) (λ_=> []) (λx=> [(b,tgm x.ks)]) (λ_=> []) (λ_=> []) (λ_=> []) [] [] [] (λx=>A.length-x.k) ⟨0,[],Jj _,λt=>by simp,λj hj=>absurd hj (Jq j)⟩
  (SO rfl (Fc5 rfl rfl rfl rfl rfl) rfl rfl (by simp[upd,Hp.setq,St.with,tgm])) (λx=>Za2 (Fc5 rfl rfl rfl rfl rfl) (by rw[YX];rfl)) (λx=> ?_)
 obtain⟨k,ks,hk,hks,hd⟩:=x;simp only;by_cases h:(k:Int)<(A.length:Int);have hka:k<A.length:=by omega
 have i0:=Ja k
 have w1:=wk9 (k:=k) (by omega)
 have hdl:=(hoA _ (Zs (d:=Jd) hka)).d;generalize hx:A.getD k Jd=x at *;cases hf:ks.findIdx? (λy=>decide (x.id=y))with
 |none=>
  simp only[go_sem,Zq,h,Zl hka,hx,opv,i0,tgm,tg,WM,hf,tgs];refine Xa (ι:= { j:Nat // j<=x.drops.length/\ ∀i,i<j->GW v (x.drops.getD i Jd)=true }) 66 (λy=> [(3,.ptr 3 0),(5,.mref b),(21,Zq A),(22,.int .i64 (A.length:Int)),(23,.int .i64 (k:Int)),(32,tgs x.drops),(33,.int .i64 (x.drops.length:Int)),(34,.int .i64 (y.1:Int))]) (λ_=> [(3,v.map (.int .i64),false)]) (λ_=> []) (λ_=> [(b,tgm (ks++ [x.id]))]) (λ_=> []) (λ_=> []) (λ_=> []) [] [] [] (λy=>x.drops.length-y.1) ⟨0,Jj _,λi hi=>absurd hi (Jq i)⟩
   (SO rfl (Fc8 rfl rfl rfl rfl rfl rfl rfl rfl) rfl rfl (by simp[upd,Hp.setq,St.with,mkStX,Yz,tgm,tg])) (λy=>Za2 (Fc8 rfl rfl rfl rfl rfl rfl rfl rfl) (by rw[YX];rfl)) (λy=> ?_)
  obtain⟨j,hj,hJ⟩:=y;simp only
  by_cases h2:(j:Int)<(x.drops.length:Int)
  ·have hja:j<x.drops.length:=by omega
   have j1:=Ja j
   have w2:=wk9 (k:=j) (by omega)
   have hH:=S9 v hv (x.drops.getD j Jd);have hno:=hdn hka (i:=j);rw[hx]at hno;generalize htt:x.drops.getD j Jd=t at *;cases hb:GW v t
   ·rw[hb]at hH;have hc:VG v l=false:=by simp[VG,hno hja hb]
    simp only[go_sem,tgs,h2,ZK hja,htt,tg,j1,hv,ZP hv];refine vc9 hH ?_;simp only[go_sem,hc]
   ·rw[hb]at hH;simp only[go_sem,tgs,h2,ZK hja,htt,tg,j1,hv,ZP hv];refine vc9 hH ?_;simp only[go_sem,w2];refine⟨⟨j+1,by omega,λi hi=> ?_⟩,nx9 (by omega),SO rfl (Fc8 rfl rfl rfl rfl rfl rfl rfl rfl) rfl rfl (by simp[upd,Hp.setq,St.with,mkStX,Yz,tgm])⟩;rcases Jv i j with hlt|hge
    ·exact hJ i hlt
    ·obtain rfl:i=j:=by omega
     rw[htt];exact hb
  ·obtain rfl:j=x.drops.length:=by omega
   simp only[go_sem,h2,w1];refine⟨⟨k+1,ks++ [x.id],by omega,λt=> ?_,λi hi t ht=> ?_⟩,nx9 (by omega),SO rfl (Fc5 rfl rfl rfl rfl rfl) rfl rfl (by simp[upd,Hp.setq,St.with,mkStX,Yz,tgm])⟩
   ·rw[ZW (d:=Jd) hka,hx,Jg,Ju,Ju,<-hks t];simp
   ·rcases Jv i k with hlt|hge
    ·exact hd i hlt t ht
    ·obtain rfl:i=k:=by omega
     rw[hx]at ht;obtain⟨q,hq,rfl⟩:=Ji ht;rw[<-getD_lt (d:=Jd) hq];exact hJ q hq
 |some i=>
  have hin:x.id∈ks:=JI.1 λhn=>by rw[T9.2 hn]at hf;cases hf
  simp only[go_sem,Zq,h,Zl hka,hx,opv,i0,tgm,tg,WM,hf,tgs];refine Xa (ι:= { j:Nat // j<=x.drops.length/\ ∀i,i<j->GW v (x.drops.getD i Jd)=true }) 66 (λy=> [(3,.ptr 3 0),(5,.mref b),(21,Zq A),(22,.int .i64 (A.length:Int)),(23,.int .i64 (k:Int)),(32,tgs x.drops),(33,.int .i64 (x.drops.length:Int)),(34,.int .i64 (y.1:Int))]) (λ_=> [(3,v.map (.int .i64),false)]) (λ_=> []) (λ_=> [(b,tgm (ks))]) (λ_=> []) (λ_=> []) (λ_=> []) [] [] [] (λy=>x.drops.length-y.1) ⟨0,Jj _,λi hi=>absurd hi (Jq i)⟩
   (SO rfl (Fc8 rfl rfl rfl rfl rfl rfl rfl rfl) rfl rfl (by simp[upd,Hp.setq,St.with,mkStX,Yz,tgm,Zcv])) (λy=>Za2 (Fc8 rfl rfl rfl rfl rfl rfl rfl rfl) (by rw[YX];rfl)) (λy=> ?_)
  obtain⟨j,hj,hJ⟩:=y;simp only
  by_cases h2:(j:Int)<(x.drops.length:Int)
  ·have hja:j<x.drops.length:=by omega
   have j1:=Ja j
   have w2:=wk9 (k:=j) (by omega)
   have hH:=S9 v hv (x.drops.getD j Jd);have hno:=hdn hka (i:=j);rw[hx]at hno;generalize htt:x.drops.getD j Jd=t at *;cases hb:GW v t
   ·rw[hb]at hH;have hc:VG v l=false:=by simp[VG,hno hja hb]
    simp only[go_sem,tgs,h2,ZK hja,htt,tg,j1,hv,ZP hv];refine vc9 hH ?_;simp only[go_sem,hc]
   ·rw[hb]at hH;simp only[go_sem,tgs,h2,ZK hja,htt,tg,j1,hv,ZP hv];refine vc9 hH ?_;simp only[go_sem,w2];refine⟨⟨j+1,by omega,λi hi=> ?_⟩,nx9 (by omega),SO rfl (Fc8 rfl rfl rfl rfl rfl rfl rfl rfl) rfl rfl (by simp[upd,Hp.setq,St.with,mkStX,Yz,tgm])⟩;rcases Jv i j with hlt|hge
    ·exact hJ i hlt
    ·obtain rfl:i=j:=by omega
     rw[htt];exact hb
  ·obtain rfl:j=x.drops.length:=by omega
   simp only[go_sem,h2,w1];refine⟨⟨k+1,ks,by omega,λt=> ?_,λi hi t ht=> ?_⟩,nx9 (by omega),SO rfl (Fc5 rfl rfl rfl rfl rfl) rfl rfl (by simp[upd,Hp.setq,St.with,mkStX,Yz,tgm])⟩
   ·rw[ZW (d:=Jd) hka,hx,Jg,Ju,<-hks t];simp only[JG,Kj,Jh];constructor
    ·exact .inl
    ·rintro (e|e)
     ·exact e
     ·rw[e];exact hin
   ·rcases Jv i k with hlt|hge
    ·exact hd i hlt t ht
    ·obtain rfl:i=k:=by omega
     rw[hx]at ht;obtain⟨q,hq,rfl⟩:=Ji ht;rw[<-getD_lt (d:=Jd) hq];exact hJ q hq
 obtain rfl:k=A.length:=by omega
 rw[Jy]at hks;have hdt:Uv v l=true:=hdo λj hj t ht=>hd j hj t ht
 rw[hdt,Kc]at hcl;rw[hcl];simp only[go_sem,h,VB,hv,ZP hv];refine Xa (ι:= { k:Nat // k<=6/\ ∀i,i<k-> ∀n,n<(v.getD i 0).toNat->(⟨(i:Int)+1,(n:Int)+1⟩:Tg)∈A.map Opn.id }) 66 (λx=> [(5,.mref b),(44,VB v),(45,.int .i64 (x.1:Int))]) (λ_=> []) (λ_=> []) (λ_=> [(b,tgm ks)]) (λ_=> []) (λ_=> []) (λ_=> []) [] [] [] (λx=>6-x.1) ⟨0,by omega,λi hi=>absurd hi (Jq i)⟩
  (Zie rfl (Fc3 rfl rfl rfl) (by simp[upd,Hp.setq,St.with,mkStX,Yz,tgm])) (λx=>ZiS (Fc3 rfl (by simp[VB,Jw,YX]) rfl)) (λx=> ?_)
 obtain⟨k,hk,hT⟩:=x;simp only;by_cases h:(k:Int)<6;have hk6:k<v.length:=by omega
 have hra:=ZaE hr hk6;have k0:=Ja k
 have k6:(k:Int)<((6:Nat):Int):=by omega
 have k5:k<6:=by omega
 have k55:k<=5:=by omega
 have w1:IntKind.i64.wrap ((k:Int)+1)=(k:Int)+1:=w64 (by omega);have w1':(k:Int)+1=((k+1:Nat):Int):=rfl;simp only[go_sem,h,VB,k0,k6,k5,k55,hv,Vq hk6];refine Xa (ι:= { j:Nat // j<=(v.getD k 0).toNat/\ ∀n,n<j->(⟨(k:Int)+1,(n:Int)+1⟩:Tg)∈A.map Opn.id }) 66 (λy=> [(5,.mref b),(10,.int .i64 (k:Int)),(11,.int .i64 (v.getD k 0)),(12,.int .i64 ((y.1+1:Nat):Int)),(44,VB v),(45,.int .i64 (k:Int))]) (λ_=> []) (λ_=> []) (λ_=> [(b,tgm ks)]) (λ_=> []) (λ_=> []) (λ_=> []) [] [] [] (λy=>(v.getD k 0).toNat-y.1) ⟨0,by omega,λi hi=>absurd hi (Jq i)⟩
  (Zie rfl (Fc6 rfl rfl rfl rfl rfl rfl) (by simp[upd,Hp.setq,St.with,mkStX,Yz,tgm])) (λy=>ZiS (Fc6 rfl rfl rfl rfl (by simp[VB,Jw,YX]) rfl)) (λy=> ?_)
 obtain⟨j,hj,hJ⟩:=y;simp only;by_cases h2:((j+1:Nat):Int)<=v.getD k 0;have w2:IntKind.i64.wrap (((j+1:Nat):Int)+1)=((j+1+1:Nat):Int):=by rw[w64 (by omega)];rfl
 have hfp:=WM ⟨(k:Int)+1,((j+1:Nat):Int)⟩ ks;simp only at hfp;cases hf:ks.findIdx? (λy=>decide ((⟨(k:Int)+1,((j+1:Nat):Int)⟩:Tg)=y))with
 |none=>
  have hc:ZaP v A=false:=ZaQ (i:=k) (n:=j) (by omega) (by omega) λhm=>T9.1 hf ((hks _).2 hm)
  simp only[go_sem,h2,w1,tgm,tg,hfp,hf,hc]
 |some i=>
  have hin:(⟨(k:Int)+1,(j:Int)+1⟩:Tg)∈ks:=JI.1 λhn=>by rw[show(λy=>decide ((⟨(k:Int)+1,((j+1:Nat):Int)⟩:Tg)=y))=(λy=>decide ((⟨(k:Int)+1,(j:Int)+1⟩:Tg)=y))from rfl,T9.2 hn]at hf;cases hf
  have hik:i<ks.length:=(JE.1 hf).1;have hgd:(ks.map λ_=>PV.agg []).getD i .any= .agg []:=by rw[getD_lt (by simpa using hik)];simp
  simp only[go_sem,h2,w1,tgm,tg,hfp,hf,w2,hgd];refine⟨⟨j+1,by omega,λn hn=> ?_⟩,by show(v.getD k 0).toNat-(j+1)<(v.getD k 0).toNat-j;omega,Zie rfl (Fc6 rfl rfl rfl rfl rfl rfl) (by simp[upd,Hp.setq,St.with,mkStX,Yz,tgm])⟩;rcases Jv n j with hlt|hge
  ·exact hJ n hlt
  ·obtain rfl:n=j:=by omega
   exact(hks _).1 hin
 simp only[go_sem,h2,w1];refine⟨⟨k+1,by omega,λi hi n hn=> ?_⟩,by show 6-(k+1)<6-k;omega,Zie rfl (Fc3 rfl rfl rfl) (by simp[upd,Hp.setq,St.with,mkStX,Yz,tgm])⟩;rcases Jv i k with hlt|hge;exact hT i hlt n hn;obtain rfl:i=k:=by omega
 exact hJ n (by omega);have hc:ZaP v A=true:=ZcB λi hi n hn=>hT i (by omega) n hn
 simp only[go_sem,h,hc]
open Go.PL Go.PL.Srt
def FG (x y:Opn):Bool:= !Z4 x y
def V8 (out:List Opn) (x:Opn):Nat:=(out.takeWhile (FG x)).length
theorem ZmA (out:List Opn) (x:Opn):V8 out x<=out.length:=(List.takeWhile_prefix (FG x)).length_le
theorem Zhj:∀(out:List Opn) (x:Opn) (k:Nat),k<V8 out x->Z4 x (out.getD k Jd)=false
 | [],x,k,h=>by simp[V8]at h
 |y::out,x,k,h=>by
  unfold V8 at h;rw[JV]at h;by_cases hx:FG x y=true;rw[if_pos hx]at h;cases k with
  |zero=>simpa[FG]using hx
  |succ k=>exact Zhj out x k (by simpa[V8]using h)
  rw[if_neg hx]at h;simp at h
theorem Zav:∀(out:List Opn) (x:Opn),V8 out x<out.length->Z4 x (out.getD (V8 out x) Jd)=true
 | [],x,h=>by simp at h
 |y::out,x,h=>by
  by_cases hx:FG x y=true;have hp:V8 (y::out) x=V8 out x+1:=by unfold V8;rw[JV,if_pos hx];rfl
  rw[hp]at h ⊢;exact Zav out x (by simpa using h);have hp:V8 (y::out) x=0:=by unfold V8;rw[JV,if_neg hx];rfl
  rw[hp];have:FG x y=false:=by simpa using hx
  simpa[FG]using this
theorem Zpz {L:List Opn} {x:Opn} (hU:Unl Z4 (L++ [x])):srt Z4 (L++ [x])=(srt Z4 L).take (V8 (srt Z4 L) x)++ [x]++(srt Z4 L).drop (V8 (srt Z4 L) x):=by
 obtain⟨u1,_,u3⟩:=Unl.append.1 hU;have hI:=VV oless_good u1;have hp:(srt Z4 L).Perm L:=YU L;have hux:∀y∈srt Z4 L,Z4 y x=true\/Z4 x y=true:=λy hy=>u3 y (hp.mem_iff.1 hy) x (by simp)
 generalize srt Z4 L=out at *;have hsp:=List.take_append_drop (V8 out x) out;rw[Jz,List.singleton_append];refine ZdH oless_good (by rw[hsp];exact hI) (λp hm=> ?_) (λq hm=> ?_) ?_;obtain⟨i,hi,rfl⟩:=Ji hm;have hi':i<V8 out x:=by rw[J5]at hi;omega
 have h1:=Zhj out x i hi';have hio:i<out.length:=by have:=ZmA out x;omega
 rw[List.getElem_take];rw[getD_lt hio]at h1;refine(hux _ (JB hio)).resolve_right (by rw[h1];simp);obtain⟨i,hi,rfl⟩:=Ji hm;have hi':V8 out x+i<out.length:=by rw[JR]at hi;omega
 rw[List.getElem_drop];have h1:=Zav out x (by omega);rw[getD_lt (show V8 out x<out.length by omega)]at h1;rcases Nat.eq_zero_or_pos i with rfl|hpos;exact h1;exact oless_good.trans _ _ _ h1 (hI.lt_get oless_good (by omega) hi');refine(List.Perm.trans ?_ (hp.append_right [x]));have h2:(Kt (V8 out x) out++x::KC (V8 out x) out).Perm (x::(Kt (V8 out x) out++KC (V8 out x) out)):=List.perm_middle;rw[hsp]at h2;exact h2.trans (List.perm_append_comm (l₁:= [x]) (l₂:=out))
theorem ZeE (l:List Opn) (k:Nat):cut (l.map opv) 0 (k:Int)=(l.take k).map opv:=by simp[cut,J2]
theorem ZeC (l:List Opn) (k:Nat):cut (l.map opv) (k:Int) (l.length:Int)=(l.drop k).map opv:=by
 unfold cut;rw[JQ,JQ,<-Ks,<-J2];congr 1;rw[Jr (by rw[JR];omega)]
def Zsx (m:List Eg) (l:List Opn) (o:Opn):Bool:=Vi m o&& !WD (Va m l) o.id
def ZhS (m:List Eg) (l:List Opn) (k:Nat):List Opn:=srt Z4 ((l.take k).filter (Zsx m l))
theorem Zoc (m:List Eg) (l:List Opn):ZhS m l l.length=Wp m l:=by
 unfold ZhS Wp Ge Va;rw[Jy,Kg];congr 1;exact List.filter_congr λo _=>by unfold Zsx;rw[Kr];rfl
theorem Zod (m:List Eg) (l:List Opn) (k:Nat):(ZhS m l k).length<=k:=by
 unfold ZhS;rw[ZQ];exact J6 (Jn _ _) (JA _ _)
theorem ZkY (m:List Eg) {l:List Opn} (hU:(l.map Opn.id).Nodup) {k:Nat} (h:k<l.length):
  ZhS m l (k+1)=if Zsx m l (l.getD k Jd)=true then(ZhS m l k).take (V8 (ZhS m l k) (l.getD k Jd))++ [l.getD k Jd]++(ZhS m l k).drop (V8 (ZhS m l k) (l.getD k Jd))else ZhS m l k:=by
 have hs:((l.take (k+1)).map Opn.id).Nodup:=KA.sublist ((List.take_sublist _ _).map _) hU;unfold ZhS;rw[ZW (d:=Jd) h]at hs ⊢;rw[JN];generalize l.getD k Jd=x at *;cases hx:Zsx m l x;rw[Jk (by rw[hx];simp),if_neg (by simp)];simp;rw[Jl (by exact hx),if_pos rfl,List.filter_nil];refine Zpz (ZhC ?_);refine KA.sublist (Kv.map _ ?_) hs;exact(JU).append (Kv.refl _)
open Go.PL
inductive Two:List Fd->List Ln->List Fd->Prop
 |nil (l):Two l [] l
 |cons {l m n x xs}:ZT l x=(m,0)->ZT m (Fj x)=(l,0)->Two m xs n->Two l (x::xs) n
theorem Two.append {l m n:List Fd} {xs ys:List Ln} (h:Two l xs m) (k:Two m ys n):Two l (xs++ys) n:=by
 induction h with
 |nil=>exact k
 |cons a b c ih=>exact .cons a b (ih k)
theorem Two.split:∀ {xs ys:List Ln} {l n:List Fd},Two l (xs++ys) n-> ∃m,Two l xs m/\Two m ys n
 | [],ys,l,n,h=>⟨l,.nil l,h⟩
 |x::xs,ys,l,n,h=>by
  cases h with
  |cons a b c=>
   obtain⟨m,h1,h2⟩:=Two.split c;exact⟨m,.cons a b h1,h2⟩
open Go.PL
theorem Zot:∀(a b:Str),ZS a b=true↔a<b
 | [],[]=>by simp[ZS,J8]
 | [],_::_=>by simp[ZS,J8]
 |_::_,[]=>by simp[ZS,J8]
 |x::a,y::b=>by
  have ih:=Zot a b;unfold ZS at *;rw[List.cons_lt_cons_iff,<-ih];simp[J8]
theorem ZmV (xs:List Str):(TP xs).Pairwise λx y=>x<=y:=by
 have:=List.pairwise_mergeSort (le:=λx y:Str=>decide (x<=y)) (λa b c h1 h2=>by simp only[decide_eq_true_eq]at *;exact List.le_trans h1 h2) (λa b=>by simp only[Bool.or_eq_true,decide_eq_true_eq];exact List.le_total a b) xs;exact this.imp λh=>by simpa using h
theorem ZgN {xs:List Str} {s:Str} (h:s∈Lib.compact xs):s∈xs:=by
 unfold Lib.compact Lib.compactUpTo at h;obtain⟨j,h1,h2⟩:=Jt.1 h;rw[Jo,JD]at h1;rw[<-h2];have hj:j<xs.toArray.size:=by simpa using h1.1
 rw[getElem!_pos xs.toArray j hj];simp
theorem ZgM {xs:List Str} (h:xs.Pairwise λx y=>x<=y):(Lib.compact xs).Pairwise λx y=>ZS x y=true:=by
 unfold Lib.compact Lib.compactUpTo;rw[List.pairwise_map];have hp:((JJ xs.length).filter (Lib.keeps xs.toArray)).Pairwise λi j=>i<j:=Ke.sublist JU List.pairwise_lt_range
 refine Ke.imp_of_mem ?_ hp;intro i j hi hj hij;rw[Jo,JD]at hi hj;have hi1:=hi.1;have hj1:=hj.1;have hk:=hj.2;unfold Lib.keeps at hk;simp only[decide_eq_true_eq]at hk;rw[getElem!_pos xs.toArray i (by simpa using hi1),getElem!_pos xs.toArray j (by simpa using hj1)];rw[getElem!_pos xs.toArray j (by simpa using hj1),getElem!_pos xs.toArray (j-1) (by simp;omega)]at hk;simp only[List.getElem_toArray]at hk ⊢;rw[List.pairwise_iff_getElem]at h;have hne:xs[j]≠xs[j-1]:=by rcases hk with h|h;omega;exact h
 have h1:xs[j-1]<=xs[j]:=h (j-1) j (by omega) hj1 (by omega);have h2:xs[i]<=xs[j-1]:=by
  by_cases e:i=j-1;subst e;exact List.le_refl _;exact h i (j-1) hi1 (by omega) (by omega)
 rw[Zot];have h3:xs[j-1]<xs[j]:=by
  rcases Gk xs[j-1] xs[j]with h|h|h;exact(Zot _ _).1 h;exact absurd h.symm hne;exact absurd ((Zot _ _).1 h) (List.not_lt.2 h1)
 exact List.lt_of_le_of_lt h2 h3
theorem ZlX (l:List Opn) (c:Str):(XO l c).Pairwise λx y=>ZS x y=true:=ZgM (ZmV _)
theorem ZjR (l:List Opn) (c:Str):XO (YI l c) c=XO l c:=by
 unfold XO Xn YI;rw[Kg];congr 4;funext o;cases o.cart==c<;>simp
def ZnV (m:List Eg) (b:Tg) (o:Opn):Option Opn:=if(Y7 (DV m o.sch b).1 o).2=true then some (Zrk (Y7 (DV m o.sch b).1 o).1 b)else none
theorem Zs7 {m:List Eg} {b:Tg} {o:Opn} (h:Vi m o=true) (hb:upC m b=0):((toT m o b).c==0&&(toT m o b).ok)=(Y7 (DV m o.sch b).1 o).2/\((Y7 (DV m o.sch b).1 o).2=true->(toT m o b).o=Zrk (Y7 (DV m o.sch b).1 o).1 b):=by
 have h':=h;simp only[Vi,Js,decide_eq_true_eq]at h';have hc:Xm m o b=0:=ZbI.2 ⟨h'.1,h'.2.1,hb,h'.2.2⟩;have hp:Wd m o.sch b=0:=WS.2 ⟨h'.2.1,hb⟩;unfold toT;rw[if_neg (by rw[hc];simp)];unfold ZnE;rw[if_neg (by rw[hp];simp)];cases ha:(Y7 (DV m o.sch b).1 o).2;exact⟨by simp,λh=>by cases h⟩;exact⟨by simp,λ_=>by simp⟩
theorem GK {m:List Eg} {b:Tg} (hb:upC m b=0):∀ {l:List Opn},(∀o∈l,Vi m o=true)->YW m l b=l.filterMap (ZnV m b)
 | [],_=>rfl
 |o::l,h=>by
  have ih:=GK hb (l:=l) λx hx=>h x (by simp[hx])
  obtain⟨h1,h2⟩:=Zs7 (h o (by simp)) hb;unfold YW at ih ⊢;cases ha:(Y7 (DV m o.sch b).1 o).2;rw[Jk (p:=λo=>(toT m o b).c==0&&(toT m o b).ok) (by rw[h1,ha];simp),JL (by unfold ZnV;rw[ha];rfl)];exact ih;rw[Jl (p:=λo=>(toT m o b).c==0&&(toT m o b).ok) (by rw[h1,ha]),JM (b:=(toT m o b).o) (by unfold ZnV;rw[if_pos ha,h2 ha]),JG,ih]
theorem Zl5 {m:List Eg} {l:List Opn} {o:Opn} (h:o∈Wp m l):Vi m o=true:=by
 have h1:=(Zah m l).mem_iff.1 h;unfold Ge at h1;have h2:=(Jo.1 h1).1;exact(Jo.1 h2).2
theorem FitW.schd {l:List Fd} {o:Opn} (h:FitW l o) (t:Tg):FitW l (Zrk o t):=⟨h.f,h.z,λk=>by obtain⟨w,hw⟩:=h.w k;exact⟨w,hw.sch t⟩⟩
theorem ZoI {m:List Eg} (hr:RightM m) {o:Opn} (h:Vi m o=true):upC m o.sch=0/\FitW (Ys (Zd m) o.sch).1 o:=by
 simp only[Vi,Js,decide_eq_true_eq]at h;exact⟨h.2.1,ZlC (ZfF hr h.2.1) h.2.2⟩
theorem Zps {m:List Eg} (hm:OkM m) (hr:RightM m) {b:Tg} (hb:upC m b=0) {l:List Opn} (h:∀o∈l,Vi m o=true):∀o∈l.filterMap (ZnV m b),FitW (Ys (Zd m) b).1 o:=λo ho=>by
 obtain⟨q,q1,q2⟩:=List.mem_filterMap.1 ho;obtain⟨u,hf⟩:=ZoI hr (h q q1);unfold ZnV at q2;split at q2;rename_i ha;simp only[Ky.injEq]at q2;rw[<-q2];exact(ZeV _ (Zpr hm hr u hb) hf (KF rfl ha)).schd b;cases q2
open Go.PL Go.PL.Srt
open Go.PL
theorem ZeF (l:List Str) (k:Nat):cut (l.map J7) 0 (k:Int)=(l.take k).map J7:=by simp[cut,J2]
theorem ZeD (l:List Str) (k:Nat):cut (l.map J7) (k:Int) (l.length:Int)=(l.drop k).map J7:=by
 unfold cut;rw[JQ,JQ,<-Ks,<-J2];congr 1;rw[Jr (by rw[JR];omega)]
open Go.PL Go.PL.Srt
theorem Zg5 {xs:List Str} {s:Str} (h:s∈xs):s∈Lib.compact xs:=by
 have key:∀j,j<xs.length->xs.getD j []∈Lib.compact xs:=by
  intro j;induction j with
  |zero=>
   intro hj;unfold Lib.compact Lib.compactUpTo;refine Jt.2 ⟨0,Jo.2 ⟨JD.2 hj,by simp[Lib.keeps]⟩,?_⟩;rw[getElem!_pos xs.toArray 0 (by simpa using hj),getD_lt hj];simp
  |succ j ih=>
   intro hj;by_cases he:xs.getD (j+1) []=xs.getD j [];rw[he];exact ih (by omega);unfold Lib.compact Lib.compactUpTo;refine Jt.2 ⟨j+1,Jo.2 ⟨JD.2 hj,?_⟩,?_⟩;rw[getD_lt hj,getD_lt (show j<xs.length by omega)]at he;unfold Lib.keeps;simp only[decide_eq_true_eq];rw[getElem!_pos xs.toArray (j+1) (by simpa using hj),getElem!_pos xs.toArray (j+1-1) (by simp;omega)];exact .inr (by simpa using he);rw[getElem!_pos xs.toArray (j+1) (by simpa using hj),getD_lt hj];simp
 obtain⟨j,hj,rfl⟩:=Ji h;have:=key j hj;rwa[getD_lt hj]at this
def V6 (l:List Opn) (c:Str):List Str:=(Xn l c).foldl Zfw []
theorem ZlW (l:List Opn) (c:Str):V6 l c=XO l c:=by
 refine ZmM (ZjG _ _ Ke.nil) (ZlX l c) λx=> ?_
 unfold V6 XO;rw[ZlE];constructor;rintro (h|h);cases h;exact Zg5 (by unfold TP;rw[Kh];exact h);intro h;have h1:=ZgN h;unfold TP at h1;rw[Kh]at h1;exact .inr h1
theorem Zpi (l:List Str) (s:Str):(Zfw l s).length<=l.length+1:=by
 unfold Zfw;split;omega;simp;omega
theorem Zad {l:List Opn} {k:Nat} (c:Str) (h:k<l.length):V6 (l.take (k+1)) c=if((l.getD k Jd).kind==1&&(l.getD k Jd).cart==c)=true then Zfw (V6 (l.take k) c) (l.getD k Jd).item else V6 (l.take k) c:=by
 unfold V6;rw[Zal c h,List.foldl_append];split;rfl;rfl
theorem Zb6 (l:List Opn) (c:Str):∀k,k<=l.length->(V6 (l.take k) c).length<=k
 |0,_=>by simp[V6,Xn]
 |k+1,h=>by
  have ih:=Zb6 l c k (by omega);rw[Zad c (by omega)];split;have:=Zpi (V6 (l.take k) c) (l.getD k Jd).item;omega;omega
theorem Zmx {x:Ln} {o p:Opn} (h:Wu x o=(p,true)):p.cart=o.cart:=by
 have key:∀q:Opn×Bool,q=Wu x o->q.2=true->q.1.cart=o.cart:=by
  intro q hq hq2;subst hq;revert hq2;unfold Wu Zp;repeat' split
  all_goals first|(intro _;rfl)|(intro h;exact absurd h (by simp))
 exact key (p,true) h.symm rfl
theorem ZbE:∀(xs:List Ln) {o:Opn},(Y7 xs o).2=true->(Y7 xs o).1.cart=o.cart
 | [],o,_=>rfl
 |x::xs,o,h=>by
  rw[UQ]at h ⊢;cases h1:(Wu x o).2;rw[if_pos h1]at h;cases h;rw[if_neg (by rw[h1];simp)]at h;rw[if_neg (by simp)];rw[ZbE xs h,Zmx (KF rfl h1)]
def Ve (c it:Str) (r:Rf) (o:Opn):Bool:=(o.cart==c)&&((o.item==it)&&decide (o.at'=r))
theorem Zdu {c it:Str} {r:Rf} {o:Opn}:Ve c it r o=((o.cart==c)&&decide (spO o=⟨it,r⟩)):=by
 unfold Ve;congr 1;rw[Kn];simp[spO]
theorem Zmy {m:List Eg} {b:Tg} (hb:upC m b=0) (c it:Str) (r:Rf):∀ {A:List Opn},(∀o∈A,Vi m o=true)->(YW m A b).filter (Ve c it r)=Yi (YW m (YI A c) b) ⟨it,r⟩:=λ{A} hA=>by
 have e2:YW m (YI A c) b=(YI A c).filterMap (ZnV m b):=GK hb (λo ho=>hA o (Jo.1 ho).1);rw[GK hb hA,e2];clear hA e2;unfold Yi;induction A with
 |nil=>rfl
 |cons o A ih=>
  unfold YI at ih ⊢;have hs:∀p,ZnV m b o=some p->p.cart=o.cart:=λp hp=>by
   unfold ZnV at hp;split at hp;rename_i ha;simp only[Ky.injEq]at hp;rw[<-hp];exact ZbE _ ha;cases hp
  cases h1:ZnV m b o with
  |none=>
   rw[JL h1];cases hc:o.cart==c;rw[Jk (by rw[hc];simp)];exact ih;rw[Jl (p:=λo:Opn=>o.cart==c) hc,JL h1];exact ih
  |some p=>
   have hpc:=hs p h1;rw[JM h1];cases hc:o.cart==c;rw[Jk (p:=λo:Opn=>o.cart==c) (by rw[hc];simp),Jk (by rw[Zdu,hpc,hc];simp)];exact ih;rw[Jl (p:=λo:Opn=>o.cart==c) hc,JM h1];by_cases hp:spO p=⟨it,r⟩;rw[Jl (by rw[Zdu,hpc,hc];simpa using hp),Jl (p:=λo=>decide (spO o=⟨it,r⟩)) (by simpa using hp),ih];rw[Jk (by rw[Zdu,hpc,hc];simpa using hp),Jk (p:=λo=>decide (spO o=⟨it,r⟩)) (by simpa using hp),ih]
open Go.PL Go.PL.Srt
theorem Zgr (l:List Str) (s:Str) (hl:l.length<=100000):Pp 98 [Yq l,.str s] (Yq (Zfw l s)):=by
 have hp:=ZmB l s;have hpI:((WF l s:Nat):Int)<=(l.length:Int):=by omega
 have hlp:(l.take (WF l s)).length=WF l s:=by rw[J5];omega
 have hld:(l.drop (WF l s)).length=l.length-WF l s:=by rw[JR]
 have hrm1:=Yb (show WF l s<=1000000 by omega) (show 16<=1000 by omega);have hrm2:=Yb (show WF l s+1<=1000000 by omega) (show 16<=1000 by omega);have hrm3:=Yb (show WF l s+1+(l.length-WF l s)<=1000000 by omega) (show 16<=1000 by omega);have hs1:∀(a:List Str),Sized 1 (a.map J7++ [J7 s]):=λa=>by have:=Z6 (a++ [s]);rwa[Jg]at this
 have p0:(0:Int)<=((WF l s:Nat):Int):=by omega
 have hX:(l.take (WF l s)++ [s]++l.drop (WF l s)).map J7=(l.take (WF l s)).map J7++ [.str s]++(l.drop (WF l s)).map J7:=by
  simp only[Jg,JG,Kj]
 refine ZA func98 rfl ntmps98 results98 (UG _) ?_;simp only[go_sem,Yq];refine Zt (ι:= { j:Nat // j<=WF l s }) 48 (λx=> [(0,Yq l),(1,.str s),(5,.int .i64 (x.1:Int))]) (λx=> []) (λx=> []) (λx=>WF l s-x.1) ⟨0,Jj _⟩ ⟨rfl,(Fc3 rfl rfl rfl),fnl,fnl⟩ (λx=>⟨(Fc3 rfl rfl rfl),fnl⟩) (λx=> ?_);obtain⟨j,hj⟩:=x;simp only;by_cases hjl:(j:Int)<(l.length:Int);have hja:j<l.length:=by omega
 have j0:=Ja j
 by_cases hjp:j<WF l s;have ht:=Zhk l s j hjp;have w2:=wk9 (k:=j) (by omega)
 simp only[go_sem,Yq,hjl,ZV hja,j0,ht,w2];exact⟨⟨j+1,by omega⟩,by show WF l s-(j+1)<WF l s-j;omega,⟨rfl,(Fc3 rfl rfl rfl),fnl,fnl⟩⟩;obtain rfl:j=WF l s:=by omega
 have ht:=Zaw l s hja;cases he:(l.getD (WF l s) []==s);have hz:Zfw l s=l.take (WF l s)++ [s]++l.drop (WF l s):=by unfold Zfw;rw[if_neg (by rw[he];simp)]
 rw[hz];simp only[go_sem,Yq,hjl,ZV hja,j0,ht,he,p0,hpI,ZeF,ZeD,Z6,hs1,Xl,hrm1,hrm2,hrm3,hlp,hld,Jb,hX];exact JO _;have hz:Zfw l s=l:=by unfold Zfw;rw[if_pos ⟨hja,he⟩]
 rw[hz];simp only[go_sem,Yq,hjl,ZV hja,j0,ht,he];obtain rfl:j=WF l s:=by omega
 have hz:Zfw l s=l.take (WF l s)++ [s]++l.drop (WF l s):=by unfold Zfw;rw[if_neg (λh=>hjl (by omega))]
 rw[hz];simp only[go_sem,Yq,hjl,p0,hpI,ZeF,ZeD,Z6,hs1,Xl,hrm1,hrm2,hrm3,hlp,hld,Jb,hX];exact JO _
theorem ZcS (l:List Opn) (c:Str) (hl:l.length<=100000):Pp 50 [Zq l,.str c] (Yq (V6 l c)):=by
 have hlm:l.length<=maxLen:=by rw[Zb];omega
 refine ZA func50 rfl ntmps50 results50 (UG _) ?_;simp only[go_sem,Zq];refine Znu (ι:= { k:Nat // k<=l.length }) 37 (λx=> [(0,Zq l),(1,.str c),(5,Yq (V6 (l.take x.1) c)),(6,.int .i64 (x.1:Int))]) (λx=> []) (λx=> []) (λx=>l.length-x.1) ⟨0,Jj _⟩
  ⟨rfl,Fc4 (.same rfl) (.same rfl) (.row 7 []) (.same rfl),fnl,fnl⟩ (λx=>⟨(Fc4 rfl rfl rfl rfl),fnl⟩) (λx=> ?_)
 obtain⟨k,hk⟩:=x;simp only;by_cases h:(k:Int)<(l.length:Int);have hka:k<l.length:=by omega
 have i1:=Ja k
 have w1:=Xb hka hlm;have hsn:=Zad c hka;have hP:=Zgr (V6 (l.take k) c) (l.getD k Jd).item (J6 (Zb6 l c k hk) (by omega));generalize V6 (l.take k) c=out at *;generalize hs2:V6 (l.take (k+1)) c=out2 at *;generalize hx:l.getD k Jd=x at *;cases k1:(x.kind==1);rw[k1,Bool.false_and,if_neg (by simp)]at hsn;simp only[go_sem,Zq,h,Zl hka,hx,opv,i1,k1,w1];refine⟨⟨k+1,by omega⟩,nx9 (by omega),?_⟩;simp only[hs2,hsn];exact⟨rfl,Fc4 (.same rfl) (.same rfl) (.same rfl) (.same rfl),fnl,fnl⟩;cases k2:(x.cart==c);rw[k1,k2,Bool.and_false,if_neg (by simp)]at hsn;simp only[go_sem,Zq,h,Zl hka,hx,opv,i1,k1,k2,w1];refine⟨⟨k+1,by omega⟩,nx9 (by omega),?_⟩;simp only[hs2,hsn];exact⟨rfl,Fc4 (.same rfl) (.same rfl) (.same rfl) (.same rfl),fnl,fnl⟩;rw[k1,k2,Kq,if_pos rfl]at hsn;simp only[go_sem,Zq,h,Zl hka,hx,opv,i1,k1,k2,Yq];refine vc1 hP ?_;simp only[go_sem,w1];refine⟨⟨k+1,by omega⟩,nx9 (by omega),?_⟩;simp only[hs2,hsn];exact⟨rfl,Fc4 (.same rfl) (.same rfl) (.same rfl) (.same rfl),fnl,fnl⟩;obtain rfl:k=l.length:=by omega
 simp only[go_sem,Zq,h,Jy,Yq]
open Go.PL
open Go.ChangeShapes Go.WideShapes Go.ChangeAt Go.RowKit
theorem pa_vec {p:PV} (h:PA prog 46 p):∃v:List Int,p=VB v/\v.length=6:=by
 obtain⟨cs,rfl,h1⟩:=PA.agg Zrp h;obtain⟨l,rfl,h2,_⟩:=PTs.ints underlying3 (h1.arr_inv underlying46);exact⟨l,rfl,h2⟩
end Go.Proofs.YtadgngamdofhiaaGreat
