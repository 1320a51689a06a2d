/- Lemmas. -/
import Derived.Test.YtcmpkokndngplaaGreatXCc
set_option maxHeartbeats 64000000
set_option maxRecDepth 20000
set_option linter.unusedVariables false
set_option linter.unusedSimpArgs false
set_option linter.defProp false
open Inhabited renaming default→Jd
open Go.Proofs.Tryz
open Go Go.PL
open Bool renaming and_eq_true→Jh,not_true→JM
open Int renaming natCast_nonneg→Ja,toNat_natCast→Je
open List renaming append_nil→Jb,getElem_range→Jc,getElem_append_left→Jf,getElem_map→Jg,mem_append→Ji,mem_singleton→Jj,mem_cons_of_mem→Jk,map_append→Jl,mem_cons_self→Jm,ext_getElem→Jo,getElem_mem→Jp,all_eq_true→Jq,take_of_length_le→Js,length_map→Jt,length_set→Ju,length_filter_le→Jv,mem_range→Jy,length_take_le→JB,getElem_set_ne→JC,getElem_of_mem→JD,filter_append→JE,length_append→JF,getElem_set→JG,take_length→JH,mem_filter→JI,range→JL,set_set→JN,set→JQ
open Nat renaming zero_le→Jn,not_lt_zero→JJ,le_refl→JP
open PV renaming ids→Jr,sl→Jw,youngL→Jz,idsL→JK,didsL→JO,young→JR,dids→JS,any→JT
open Pub renaming clean→JA
namespace Go.Proofs.YtcmpkokndngplaaGreat
open Go.PL.Srt
def Zcg (y:Dc×Int):PV:= .tup [doc y.1,.int .i64 y.2]
def ZaR (y:Dc×Int):(Zcg y).dids= []:=by simp only[Zcg,JS,JO,Zeh,Jb]
def YO (A:List Opn) (c:Str):List Opn:=A.filter λo=>o.cart==c
def ZlD {l:List Opn} {k:Nat} (c:Str) (h:k<l.length):YO (l.take (k+1)) c=YO (l.take k) c++(if((l.getD k Jd).cart==c)=true then [l.getD k Jd]else []):=by
 unfold YO;rw[ZQ (d:=Jd) h,JE];congr 1;generalize l.getD k Jd=x;cases a:(x.cart==c);rw[List.filter_cons_of_neg (by rw[a];simp),if_neg (by simp)];rfl;rw[List.filter_cons_of_pos (by exact a),if_pos rfl];rfl
def ZF (m:List Eg) (l:List Opn) (cart:Str) (b:Tg):Dc×Int:=
 if 400<(l.length:Int)then(Jd,14)else if Z0 cart=false then(Jd,5)else if(YC (Ze m) b).2≠0 then(Jd,(YC (Ze m) b).2)
 else(⟨Us (YC (Ze m) b).1 (WG m (YO (WH m l) cart) b) 0 [],(Wl (YO (WH m l) cart) cart).map λi=>⟨i,Us (YC (Ze m) b).1 (WG m (YO (WH m l) cart) b) 1 i⟩⟩,0)
def vsV (pre:List Opn) (ks:List Sp):List PV:=(JL ks.length).map λj=> .sl (.row (1000+j)) ((Zn pre (ks.getD j Jd)).map opv)
def qV (n:Nat) (pre:List Opn) (ks:List Sp):PL.Rows:=λi=>if i=59 then some (.live n 15 59)else if 1000<=i/\i<1000+ks.length then some (.live (Zn pre (ks.getD (i-1000) Jd)).length 15 59)else none
def V9 (pre:List Opn) (ks:List Sp):(vsV pre ks).length=ks.length:=by simp[vsV]
def Ztg (pre:List Opn) {ks:List Sp} {j:Nat} (h:j<ks.length):(vsV pre ks).getD j .any= .sl (.row (1000+j)) ((Zn pre (ks.getD j Jd)).map opv):=by
 unfold vsV;rw[getD_lt (by simpa using h),Jg,Jc]
def X9 (pre:List Opn) (o:Opn) (s:Sp):Zn (pre++ [o]) s=Zn pre s++(if spO o=s then [o]else []):=by
 unfold Zn;rw[JE];congr 1;by_cases h:spO o=s<;>simp[h]
def Zdp {ks:List Sp} (h:ks.Nodup) {i j:Nat} (a:i<ks.length) (b:j<ks.length) (e:ks.getD i Jd=ks.getD j Jd):i=j:=by
 rw[getD_lt a,getD_lt b]at e;exact(List.getElem_inj h).1 e
def ZuS {pre:List Opn} {ks:List Sp} {o:Opn} {j:Nat} (f:ks.Nodup) (d:j<ks.length) (a:ks.getD j Jd=spO o):
  (vsV pre ks).set j (.sl (.row (1000+j)) ((Zn pre (spO o)++ [o]).map opv))=vsV (pre++ [o]) ks:=by
 apply Jo;simp[vsV];intro i g b;have c:i<ks.length:=by simpa[vsV]using b
 rw[JG];by_cases e:j=i;subst e;rw[if_pos rfl];simp only[vsV,Jg,Jc];rw[X9,a,if_pos rfl];rw[if_neg e];simp only[vsV,Jg,Jc];rw[X9,if_neg (λh=>e (Zdp f d c (by rw[a,h]))),Jb]
def ZuR {pre:List Opn} {ks:List Sp} {o:Opn} (d:spO o∉ks) (b:Zn pre (spO o)= []) (z:PV):
  (vsV pre ks++ [z]).set ks.length (.sl (.row (1000+ks.length)) ([o].map opv))=vsV (pre++ [o]) (ks++ [spO o]):=by
 apply Jo;simp[vsV];intro i f c;have g:i<ks.length+1:=by simpa[vsV]using c
 rw[JG];by_cases e:ks.length=i;subst e;rw[if_pos rfl];simp only[vsV,Jg,Jc];have:(ks++ [spO o]).getD ks.length Jd=spO o:=by rw[getD_lt (by simp)];simp
 rw[this,X9,if_pos rfl,b,List.nil_append];have a:i<ks.length:=by omega
 rw[if_neg e,Jf (by simpa[vsV]using a)];simp only[vsV,Jg,Jc];have:(ks++ [spO o]).getD i Jd=ks.getD i Jd:=by rw[getD_lt (by simp;omega),getD_lt a,Jf a]
 rw[this,X9,if_neg,Jb];intro h;rw[getD_lt a]at h;exact d (h▸Jp a)
def ZgJ (n:Nat) (pre:List Opn) {ks:List Sp} {j:Nat} (h:j<ks.length):qV n pre ks (1000+j)=some (.live (Zn pre (ks.getD j Jd)).length 15 59):=by
 unfold qV;rw[if_neg (by omega),if_pos (by omega),show 1000+j-1000=j by omega]
def ZpJ {pre:List Opn} {ks:List Sp} {i:Nat} (h:i<ks.length):∀r∈((vsV pre ks).getD i .any).ids,r= .r (1000+i):=λr a=>by
 rw[Ztg pre h]at a;simpa[Jr]using a
def ZoR {n:Nat} {pre:List Opn} {ks:List Sp} {x:Opn} {j i:Nat} (d:ks.Nodup) (f:j<ks.length) (c:ks.getD j Jd=spO x) (g:i≠1000+j):qV n (pre++ [x]) ks i=qV n pre ks i:=by
 unfold qV;by_cases a:i=59;rw[if_pos a,if_pos a];rw[if_neg a,if_neg a];by_cases b:1000<=i/\i<1000+ks.length;rw[if_pos b,if_pos b,X9,if_neg,Jb];intro e;have:=Zdp d f (show i-1000<ks.length by omega) (by rw[c,e]);omega;rw[if_neg b,if_neg b]
def Zs2 {n:Nat} {pre:List Opn} {ks:List Sp} {x:Opn} {i:Nat} (d:spO x∉ks) (f:i≠1000+ks.length):qV n (pre++ [x]) (ks++ [spO x]) i=qV n pre ks i:=by
 unfold qV;by_cases b:i=59;rw[if_pos b,if_pos b];rw[if_neg b,if_neg b];by_cases c:1000<=i/\i<1000+ks.length;have a:i-1000<ks.length:=by omega
 have e:(ks++ [spO x]).getD (i-1000) Jd=ks.getD (i-1000) Jd:=by rw[getD_lt (by simp;omega),getD_lt a,Jf a]
 rw[if_pos c,if_pos (by simp;omega),e,X9,if_neg,Jb];intro e;rw[getD_lt a]at e;exact d (e▸Jp a);rw[if_neg c,if_neg (by simp;omega)]
def vwL (cart:Str) (mine seen:List Opn) (k:Nat):List (Nat×PV):= [(2,.str cart),(8,.ptr 8 0),(10,.ptr 10 0),(12,.sl (.row 59) (mine.map opv)),(15,.ptr 15 0),(65,Z1 seen),(66,.int .i64 (seen.length:Int)),(67,.int .i64 (k:Int))]
def vwH (F:List Fd) (x:PV):List (Nat×List PV):= [(8,[.sl .nil [],.sl .nil []]),(10,[.sl .no (F.map fld)]),(15,[x])]
def Ze2 {cart:Str} {mine seen:List Opn} {k:Nat} {F:List Fd} {x:PV} {q:PL.Rows} (h:q 59≠none):∀y∈vwL cart mine seen k,∀r∈y.2.ids,ZjM (vwH F x) q r/\ ∀d,1000<=d->r≠ .r d:=by
 refine fcs ?_ (fcs ?_ (fcs ?_ (fcs ?_ (fcs ?_ (fcs ?_ (fcs ?_ (fcs ?_ fnl)))))))<;>intro r a<;>simp[Jr,Z1]at a<;>subst a
 exact⟨⟨_,Jm,rfl⟩,λd _=>by simp⟩;exact⟨⟨_,Jk _ Jm,rfl⟩,λd _=>by simp⟩;exact⟨h,λd hd=>by simp;omega⟩;exact⟨⟨_,Jk _ (Jk _ Jm),rfl⟩,λd _=>by simp⟩
def Ze1 {F:List Fd} {x:PV} (a:x.ids= []):∀y∈vwH F x,∀c∈y.2,c.ids= []:=
 Fc3 (by simp[Jr]) (by simp[Jr]) (by simp[a])
def Zt5 (n:Nat) (pre:List Opn) (ks:List Sp):qV n pre ks 59≠none:=by unfold qV;simp
def ZpK (pre:List Opn) (ks:List Sp):(vsV pre ks).map PV.share=ks.map λs=>Z1 (Zn pre s):=by
 apply Jo;simp[vsV];intro i c a;have b:i<ks.length:=by simpa using a
 simp only[vsV,Jg,Jc,PV.share,Tok.sh,Z1];rw[getD_lt b]
def ZpI (pre:List Opn) (ks:List Sp):∀p∈vsV pre ks,p.clean=true:=λp hp=>by
 obtain⟨j,_,rfl⟩:=List.mem_map.1 hp;rfl
def q59 (n:Nat):PL.Rows:=upd (λ_=>none) 59 (some (.live n 15 59))
theorem ZmN (m:List Eg) (l:List Opn) (cart:Str) (b:Tg) (hm:OkM m) (n:RightM m) (hl:l.length<=20) (ho:∀o∈l,OkOp o) (hU:(l.map Opn.id).Nodup) (hn:Z0 cart=true) (G:(YC (Ze m) b).2=0):
  Pp 9 [tr (Ze m),Z1 l,.str cart,tg b] (Zcg (⟨Us (YC (Ze m) b).1 (WG m (YO (WH m l) cart) b) 0 [],(Wl (YO (WH m l) cart) cart).map λi=>⟨i,Us (YC (Ze m) b).1 (WG m (YO (WH m l) cart) b) 1 i⟩⟩,0)):=by
 have xs:∀l:List Opn,∀p∈l.map opv,p.ids= []:=λl=>Yt Uv l
 have hN:=Y0 cart;rw[hn]at hN;have hS:=Y6 m b hm;have hF:=Zdq hm (a:=b) G;have hL:=Zdi m l hm (by omega) ho hU;have yh:=Ug m l;have xv:∀o∈WH m l,OkOp o:=λo h=>ho o (ZjU h)
 generalize WH m l=A at *;have xx:∀o∈YO A cart,OkOp o:=λo h=>xv o (JI.1 h).1
 have yd:(YO A cart).length<=A.length:=Jv _ _;have hT:=ZkV m (YO A cart) b hm n (by omega) xx;have hI:=Zlu (YO A cart) cart (by omega);have ym:=Du m (YO A cart) b;have B:=λsc it ks C=>Znz (YC (Ze m) b).1 (WG m (YO A cart) b) ks sc it hF (by omega) C
 have c1:¬(400:Int)<(l.length:Int):=by omega
 have c2:((YC (Ze m) b).2 !=0)=false:=by simp[G]
 generalize YC (Ze m) b=X at *;obtain⟨F,xc⟩:=X;simp only at G hF B c2 ⊢;subst G;refine ZS func9 rfl ntmps9 results9 (ZaR _) ?_;simp only[go_sem,tr,Z1,tg,c1];refine vc1 hN ?_;simp only[go_sem];refine vc5 hS ?_;simp only[go_sem,YX,Zt,c2];refine SU 46 hL (xs _) (by simp[Jr,tr,Z1]) rfl rfl ?_;simp only[go_sem,PV.ren,id];refine YJ 12 59 15 59 rfl rfl ?_;refine Ul (ι:= { k:Nat // k<=A.length }) 109 (λx=> [(0,tr (Ze m)),(2,.str cart),(7,.ptr 7 0),(8,.ptr 8 0),(10,.ptr 10 0),(12,.sl (.row 59) ((YO (A.take x.1) cart).map opv)),(46,.vsl 46 A.length 15),(47,.int .i64 (A.length:Int)),(48,.int .i64 (x.1:Int))]) (λ_=> [(7,[.int .i64 b.r,.int .i64 b.n],false),(8,[.sl .nil [],.sl .nil []],false),(10,[.sl .no (F.map fld)],false)]) (λx=> [(46,.vec A.length 15 59),(59,.live (YO (A.take x.1) cart).length 15 59)]) (λ_=> []) (λ_=> []) (λ_=> [(46,A.map opv)]) (λ_=> []) [] [] [] (λx=>A.length-x.1) ⟨0,Jn _⟩
  ⟨⟨rfl,(Fc9 rfl rfl rfl rfl rfl rfl rfl rfl rfl),(Fc3 ⟨rfl,rfl⟩ ⟨rfl,rfl⟩ ⟨rfl,rfl⟩),(Fc2 rfl rfl)⟩,fnl,fnl,(fcs rfl fnl),fnl,fnl,fnl⟩ (λx=>⟨⟨(Fc9 rfl rfl rfl rfl rfl rfl rfl rfl rfl),(Fc3 rfl rfl rfl)⟩,by simp[Xd Uv],fnl,by simp,fnl,fnl⟩) (λx=> ?_)
 obtain⟨k,hk⟩:=x;simp only;by_cases h:(k:Int)<(A.length:Int);have u:k<A.length:=by omega
 have i0:=Ja k
 have Y:=wk9 (k:=k) (by omega)
 have z:=ZlD cart u;have ye:(YO (A.take k) cart).length<=k:=Nat.le_trans (Jv _ _) (JB _ _);have xe:=YP (show(YO (A.take k) cart).length+1<=1000000 by omega) (show 176<=1000 by omega);have xw:((YO (A.take k) cart).map opv).length=(YO (A.take k) cart).length:=Jt _;have xp:=Ww (YO (A.take k) cart);generalize hx:A.getD k Jd=x at *;have S:Sized 15 [opv x]:=Ww [x];have O:XF [opv x]:=Sv [x];simp only[opv]at S O;cases k1:(x.cart==cart);rw[k1,if_neg (by simp),Jb]at z;simp only[go_sem,h,i0,Z3 u,hx,opv,k1,Y];exact⟨⟨k+1,by omega⟩,nx9 (by omega),⟨⟨rfl,by simp only;rw[z];exact(Fc9 rfl rfl rfl rfl rfl rfl rfl rfl rfl),(Fc3 ⟨rfl,rfl⟩ ⟨rfl,rfl⟩ ⟨rfl,rfl⟩),by simp only;rw[z];exact(Fc2 rfl rfl)⟩,fnl,fnl,(fcs rfl fnl),fnl,fnl,fnl⟩⟩;rw[k1,if_pos rfl]at z;simp only[go_sem,h,i0,Z3 u,hx,opv,k1,Y,xw,xp,xe,S,O];exact⟨⟨k+1,by omega⟩,nx9 (by omega),⟨⟨rfl,by simp only;rw[z,Jl];exact(Fc9 rfl rfl rfl rfl rfl rfl rfl rfl rfl),(Fc3 ⟨rfl,rfl⟩ ⟨rfl,rfl⟩ ⟨rfl,rfl⟩),by simp only;rw[z,JF];exact(Fc2 rfl rfl)⟩,fnl,fnl,(fcs rfl fnl),fnl,fnl,fnl⟩⟩;have ya:A.take k=A:=Js (by omega);simp only[go_sem,h,ya];intro v;refine vc7 hT ?_;simp only[go_sem,Z1];generalize yl:WG m (YO A cart) b=seen at *;generalize yj:YO A cart=mine at *;refine Zuz (ι:= { x:Nat×List Sp // x.1<=seen.length/\(∀s,s∈x.2↔ ∃o∈seen.take x.1,spO o=s)/\x.2.Nodup })
  (λx=>vst 109 (vwL cart mine seen x.1.1) (vwH F (.mref v)) (qV mine.length (seen.take x.1.1) x.1.2) (TD v ⟨x.1.2.map spv,vsV (seen.take x.1.1) x.1.2⟩))
  (λx=>seen.length-x.1.1) ⟨(0,[]),Jn _,λs=>by simp,List.nodup_nil⟩ ?_ (λx=> ?_)
 refine(Gh.oToOm (b:=v) (c:=⟨[],[]⟩) (by simp[upd,St.with,Hp.new])).trans (ZjI rfl (Fc8 rfl rfl rfl rfl rfl rfl rfl rfl) (Fc3 ⟨rfl,rfl⟩ ⟨rfl,rfl⟩ ⟨rfl,rfl⟩) (λi=> ?_) (λi=> ?_) (λy E r n=>(Ze2 (Zt5 _ _ _) y E r n).1) (λy E c G r n=>by rw[Ze1 (x:= .mref v) rfl y E c G]at n;cases n) (λb' c' Z p hp r n=> ?_));by_cases e:i=59;right;subst e;rfl;left;show qV mine.length [] [] i=none;unfold qV;rw[if_neg e,if_neg (by rintro ⟨t,w⟩;rw[List.length_nil]at w;omega)];by_cases e:v=i;right;subst e;show TD v _ v=upd _ v _ v;rw[SN,Za];rfl;left;unfold TD;exact Zb _ _ e;obtain⟨rfl,rfl⟩:=ZeF Z;simp[vsV]at hp;obtain⟨⟨k,ks⟩,hk,C,D⟩:=x;simp only at hk C D ⊢;by_cases h:(k:Int)<(seen.length:Int);refine⟨_,Gh.refl _,?_⟩;have u:k<seen.length:=by omega
 have i0:=Ja k
 have Y:=wk9 (k:=k) (by omega)
 have K:seen.take (k+1)=seen.take k++ [seen.getD k Jd]:=ZQ (d:=Jd) u;generalize hx:seen.getD k Jd=x at *;have P:=Zc0 (spO x) ks;simp only[spO]at P;have S:Sized 15 [opv x]:=Ww [x];have O:XF [opv x]:=Sv [x];simp only[opv]at S O;have T:qV mine.length (seen.take k) ks 80=none:=by unfold qV;rw[if_neg (by omega),if_neg (by omega)]
 have U:qV mine.length (seen.take k) ks 82=none:=by unfold qV;rw[if_neg (by omega),if_neg (by omega)]
 have xn:=YP (show 1<=1000000 by omega) (show 176<=1000 by omega);cases hf:ks.findIdx? (λy=>decide (spO x=y))with
 |none=>
  have R:spO x∉ks:=ZjK.1 hf;have xf:Zn (seen.take k) (spO x)= []:=ZdP λhh=>R ((C _).2 hh)
  have xl:=ZuR R xf (.sl .nil []);simp only[spO]at hf;rw[hf]at P;simp only[go_sem,vst,vwL,vwH,h,i0,Z1,Z3 u,hx,opv,SN,P,T,U,xn,Y];refine⟨by omega,by simp,⟨(k+1,ks++ [spO x]),u,λs=> ?_,?_⟩,nx9 (by omega),?_⟩
  ·rw[K,Ji,C s,Jj];constructor
   ·rintro (⟨o,t,w⟩|rfl)
    ·exact⟨o,Ji.2 (.inl t),w⟩
    ·exact⟨x,by simp,rfl⟩
   ·rintro ⟨o,t,w⟩
    rcases Ji.1 t with t|t
    ·exact .inl ⟨o,t,w⟩
    ·rw[Jj.1 t]at w;exact .inr w.symm
  ·refine List.nodup_append.2 ⟨D,by simp,λa ha c G e=> ?_⟩;rw[Jj.1 G]at e;exact R (e▸ha)
  ·show Gh _ (vst 109 (vwL cart mine seen (k+1)) (vwH F (.mref v)) (qV mine.length (seen.take (k+1)) (ks++ [spO x])) (TD v ⟨(ks++ [spO x]).map spv,vsV (seen.take (k+1)) (ks++ [spO x])⟩));have e:((vsV (seen.take k) ks++ [Jw .nil []]).set ks.length (.sl (.row 82) [opv x])).set ks.length (.sl (.row (1000+ks.length)) [opv x])=vsV (seen.take k++ [x]) (ks++ [spO x]):=by rw[JN];exact xl
   rw[K,<-e,Jl];refine Zf8 (kk:=82) (d:=1000+ks.length) (sz:=15) (k:=1) (e:=59) (c:=⟨ks.map spv++ [spv (spO x)],(vsV (seen.take k) ks++ [Jw .nil []]).set ks.length (.sl (.row 82) [opv x])⟩) (es:= [opv x]) rfl (Fc8 rfl rfl rfl rfl rfl rfl rfl rfl) (Fc3 ⟨rfl,rfl⟩ ⟨rfl,rfl⟩ ⟨rfl,rfl⟩) ?_ ?_ ?_ rfl (by omega) ?_ ?_ (λi t w=> ?_) (λy E r n=> ?_) (λy E c G r n=>by rw[Ze1 (x:= .mref v) rfl y E c G]at n;cases n) (λi t w r n=> ?_)
   ·show upd _ v _ v=_;rw[Za];rfl
   ·simp[V9]
   ·rw[getD_lt (by simp[V9])];simp
   ·have xh:ks.length<(ks++ [spO x]).length:=by simp
    rw[ZgJ _ _ xh,getD_lt xh,List.getElem_append_right (JP _)];simp only[Nat.sub_self,List.getElem_cons_zero];rw[X9,xf,if_pos rfl];rfl
   ·rw[Zs2 R (by omega)];exact U
   ·rw[Zs2 R t]
    by_cases N:i=80
    ·left;rw[N];exact T
    ·right;show _=upd (upd (qV mine.length (seen.take k) ks) 80 _) 82 _ i;rw[Zb _ _ (λe=>w e.symm),Zb _ _ (λe=>N e.symm)]
   ·have:=Ze2 (F:=F) (x:= .mref v) (Zt5 mine.length (seen.take k++ [x]) (ks++ [spO x])) y E r n;exact⟨this.1,this.2 _ (by omega)⟩
   ·have V:i<ks.length:=by simp[V9]at t;omega
    have hg:((vsV (seen.take k) ks++ [Jw .nil []]).set ks.length (.sl (.row 82) [opv x])).getD i .any=(vsV (seen.take k) ks).getD i .any:=by
     rw[getD_lt (by simp[V9];omega),getD_lt (by rw[V9];exact V),JC (by omega),Jf (by rw[V9];exact V)]
    rw[show(({ ks:=ks.map spv++ [spv (spO x)],vs:=(vsV (seen.take k) ks++ [Jw .nil []]).set ks.length (.sl (.row 82) [opv x]) }:MapC).vs.getD i .any)=(vsV (seen.take k) ks).getD i .any from hg]at n;rw[ZpJ V r n];refine⟨?_,by simp;omega⟩;show qV _ _ _ (1000+i)≠none;rw[ZgJ _ _ (by simp;omega)];simp
 |some j=>
  obtain⟨Q,M⟩:=ZnW hf;have xr:=Ztg (seen.take k) Q;have xm:=ZgJ mine.length (seen.take k) Q;rw[M]at xr xm;have W:=ZuS D Q M (pre:=seen.take k);have yo:=ZbS (seen.take k) (spO x);have L:(seen.take k).length<=k:=JB _ _;generalize xz:Zn (seen.take k) (spO x)=th at *;have xk:(th.map opv).length=th.length:=Jt _;have xq:=Ww th;have xe:=YP (show th.length+1<=1000000 by omega) (show 176<=1000 by omega);simp only[spO]at hf;rw[hf]at P;have yb:¬(80=1000+j):=by omega
  have yc:¬(82=1000+j):=by omega
  simp only[go_sem,vst,vwL,vwH,h,i0,Z1,Z3 u,hx,opv,SN,P,T,U,xn,Y,yb,yc,xr,xm,xk,xq,xe,S,O];refine⟨by omega,Q,⟨(k+1,ks),u,λs=> ?_,D⟩,nx9 (by omega),?_⟩
  ·rw[K,C s];constructor
   ·rintro ⟨o,t,w⟩;exact⟨o,Ji.2 (.inl t),w⟩
   ·rintro ⟨o,t,w⟩
    rcases Ji.1 t with t|t
    ·exact⟨o,t,w⟩
    ·rw[Jj.1 t]at w;have:spO x∈ks:=by rw[<-M,getD_lt Q];exact Jp Q
     obtain⟨o',h3,h4⟩:=(C _).1 this;exact⟨o',h3,h4.trans w⟩
  ·show Gh _ (vst 109 (vwL cart mine seen (k+1)) (vwH F (.mref v)) (qV mine.length (seen.take (k+1)) ks) (TD v ⟨ks.map spv,vsV (seen.take (k+1)) ks⟩));rw[Jl]at W;have e:((vsV (seen.take k) ks).set j (.sl (.row 82) (th.map opv++ [opv x]))).set j (.sl (.row (1000+j)) (th.map opv++ [opv x]))=vsV (seen.take k++ [x]) ks:=by rw[JN];exact W
   rw[K,<-e];refine Zf8 (kk:=82) (d:=1000+j) (sz:=15) (k:=th.length+1) (e:=59) (c:=⟨ks.map spv,(vsV (seen.take k) ks).set j (.sl (.row 82) (th.map opv++ [opv x]))⟩) (es:=th.map opv++ [opv x]) rfl (Fc8 rfl rfl rfl rfl rfl rfl rfl rfl) (Fc3 ⟨rfl,rfl⟩ ⟨rfl,rfl⟩ ⟨rfl,rfl⟩) ?_ ?_ ?_ rfl (by omega) ?_ ?_ (λi t w=> ?_) (λy E r n=> ?_) (λy E c G r n=>by rw[Ze1 (x:= .mref v) rfl y E c G]at n;cases n) (λi t w r n=> ?_)
   ·show upd _ v _ v=_;rw[Za];rfl
   ·show j<(JQ _ _ _).length;rw[Ju,V9];exact Q
   ·show(JQ _ _ _).getD j JT=_;rw[getD_lt (by rw[Ju,V9];exact Q)];simp
   ·rw[ZgJ _ _ Q,M,X9,xz,if_pos rfl,JF];rfl
   ·rw[ZoR D Q M (by omega)];exact U
   ·rw[ZoR D Q M t]
    by_cases N:i=80
    ·left;rw[N];exact T
    ·right;show _=upd (upd (upd (qV mine.length (seen.take k) ks) 80 _) (1000+j) _) 82 _ i;rw[Zb _ _ (λe=>w e.symm),Zb _ _ (λe=>t e.symm),Zb _ _ (λe=>N e.symm)]
   ·have:=Ze2 (F:=F) (x:= .mref v) (Zt5 mine.length (seen.take k++ [x]) ks) y E r n;exact⟨this.1,this.2 _ (by omega)⟩
   ·have V:i<ks.length:=by simpa[V9]using t
    have n:r∈((JQ (vsV (seen.take k) ks) j (.sl (.row 82) (th.map opv++ [opv x]))).getD i .any).ids:=n;rw[getD_lt (d:=JT) (by rw[Ju,V9];exact V),JC (Ne.symm w),<-getD_lt (d:=JT) (by rw[V9];exact V)]at n;rw[ZpJ V r n];refine⟨?_,by simp;omega⟩;show qV _ _ _ (1000+i)≠none;rw[ZgJ _ _ V];simp
 have L:seen.take k=seen:=Js (by omega);have I:=C;rw[L]at I;have g:Gh (vst 109 (vwL cart mine seen k) (vwH F (.mref v)) (qV mine.length seen ks) (TD v ⟨ks.map spv,vsV seen ks⟩)) (vst 109 (vwL cart mine seen k) (vwH F (.rmap (ks.map spv) (ks.map λs=>Z1 (Zn seen s)))) (q59 mine.length) (λ_=>none)):=by
  refine(Gh.omToO (b:=v) (c:=⟨ks.map spv,vsV seen ks⟩) (SN _ _) (ZpI _ _)).trans ?_;rw[ZpK];refine(Gh.pubMap (b:=v) (i:=15) (c:=⟨ks.map spv,ks.map λs=>Z1 (Zn seen s)⟩) (Za _ _ _) rfl rfl).trans ?_;refine ZjI rfl (Fc8 rfl rfl rfl rfl rfl rfl rfl rfl) (Fc3 ⟨rfl,rfl⟩ ⟨rfl,rfl⟩ ⟨rfl,rfl⟩) (λi=> ?_) (λi=> .inl rfl) (λy E r n=>(Ze2 (q:=q59 mine.length) (by simp[q59,upd]) y E r n).1) (λy E c G r n=>by rw[Ze1 (x:= .rmap (ks.map spv) (ks.map λs=>Z1 (Zn seen s))) rfl y E c G]at n;cases n) (λb' c' Z=>by cases Z);by_cases e:59=i;right;subst e;rfl;left;exact Zb _ _ e
 refine⟨_,by rw[L];exact g,?_⟩;have xt:=B 0 [] ks I;have xa:=λit=>B 1 it ks I
 generalize Us F seen 0 []=E0 at *;have yk:(Wl mine cart).length<=1000:=by
  unfold Wl;have t:=Ta (S4 (Xl mine cart));have w:=SL mine cart;have h3:(S4 (Xl mine cart)).length=(Xl mine cart).length:=by simp[S4]
  omega
 generalize Wl mine cart=its at *;generalize xg:(λi=>Us F seen 1 i)=fm at *;have xa:∀it,Pp 24 [.int .i64 1,.str it,.rptr [Zt F],.rptr [.rmap (ks.map spv) (ks.map λs=>Z1 (Zn seen s))]] (ZX (fm it)):=λit=>by rw[<-xg];exact xa it
 have xo:(its.map λi=>(⟨i,Us F seen 1 i⟩:Rw))=its.map λi=>⟨i,fm i⟩:=by rw[<-xg]
 rw[xo];obtain⟨f,J⟩:∃f:List Rw,f=its.map λi=>⟨i,fm i⟩:=⟨_,rfl⟩
 rw[<-J];have xj:its.length=f.length:=by rw[J];simp
 have xu:∀k,k<f.length->f.getD k Jd=⟨its.getD k [],fm (its.getD k [])⟩:=λk hk=>by
  have xb:k<its.length:=by omega
  subst J;rw[getD_lt hk,getD_lt xb];simp
 clear xo B J;have yg:its.length<=maxLen:=by rw[Zd];omega
 simp only[go_sem,vst,vwL,vwH,h,q59];refine vc2 xt ?_;simp only[go_sem,ZX];refine vc7 hI ?_;simp only[go_sem];rw[xj];refine ZA (ι:= { k:Nat // k<=f.length }) 109 (λx=> [(8,.ptr 8 0),(19,.fn 24 [.ptr 10 0,.ptr 15 0]),(20,.ptr 20 0),(91,.sl .no (its.map .str)),(92,.int .i64 (f.length:Int)),(93,.int .i64 (x.1:Int))]) (λx=> [(8,[.sl .nil [],.sl .nil []],false),(10,[.sl .no (F.map fld)],true),(15,[.rmap (ks.map spv) (ks.map λs=>Z1 (Zn seen s))],true),(20,[.sl .no (E0.map ent),Zu0 105 f x.1],false)]) (λx=>Zu1 105 x.1) (λx=>f.length-x.1) ⟨0,Jn _⟩
  ⟨rfl,(Fc6 rfl rfl rfl rfl rfl rfl),Fc4 ⟨rfl,rfl⟩ ⟨rfl,rfl⟩ ⟨rfl,rfl⟩ ⟨rfl,rfl⟩,fnl⟩ (λx=> ?_) (λx=> ?_)
 obtain⟨k,hk⟩:=x;cases k with
 |zero=>exact⟨(Fc6 rfl rfl rfl rfl rfl rfl),(Fc4 rfl rfl rfl rfl)⟩
 |succ k=>exact⟨(Fc6 rfl rfl rfl rfl rfl rfl),Fc4 rfl rfl rfl (by simp[Zu0,Zu1,Jr,JK,ZR])⟩
 clear hk C I D g h L;obtain⟨k,hk⟩:=x;simp only;by_cases h:(k:Int)<(f.length:Int);have u:k<f.length:=by omega
 have xb:k<its.length:=by omega
 have Y:=wk9 (k:=k) (by omega)
 have i1:=Ja k
 have xi:(its.map PV.str).length=f.length:=by rw[Jt,xj]
 have hO:=xa (its.getD k []);have z:(f.take (k+1)).map row=(f.take k).map row++ [row (f.getD k Jd)]:=by rw[ZQ (d:=Jd) u,Jl];rfl
 rw[xu k u]at z;have xp:=V6 (f.take k);have xy:=YP (show 1<=1000000 by omega) (show 40<=1000 by omega);have yi:((f.take k).map row).length=k:=by simp;omega
 have g0:=Z8 xb;generalize its.getD k []=it at *;have yf:=ZmW [⟨it,fm it⟩];have yn:=V6 [⟨it,fm it⟩];cases k with
 |zero=>
  have h':(0:Int)<(f.length:Int):=by simpa using h
  simp only[go_sem,Zu0,Zu1,h',g0,i1,xi];refine vDq ?_;simp only[go_sem];refine vc2 hO ?_;have w0:IntKind.i64.wrap 1=1:=w64 (by omega);simp only[go_sem,ZX,Y,w0];refine⟨xy,⟨⟨0+1,by omega⟩,nx9 (by omega),⟨rfl,(Fc6 rfl rfl rfl rfl rfl rfl),Fc4 ⟨rfl,rfl⟩ ⟨rfl,rfl⟩ ⟨rfl,rfl⟩ ⟨?_,rfl⟩,fcs rfl fnl⟩⟩⟩;show some [Jw .no _,Jw (.row 105) _]=some [Jw .no _,Jw (.row 105) _];rw[z];rfl
 |succ k=>
  have xd:(f.take (k+1)).length=k+1:=by rw[List.length_take];omega
  have n:=YP (show k+1+1<=1000000 by omega) (show 40<=1000 by omega);simp only[go_sem,Zu0,Zu1,h,g0,i1,xi];refine vDq ?_;simp only[go_sem];refine vc2 hO ?_;simp only[go_sem,ZX,Y];refine⟨⟨xd.symm,V6 _,by rw[xd];exact n⟩,⟨⟨k+1+1,by omega⟩,by show f.length-(k+1+1)<f.length-(k+1);omega,⟨rfl,(Fc6 rfl rfl rfl rfl rfl rfl),Fc4 ⟨rfl,rfl⟩ ⟨rfl,rfl⟩ ⟨rfl,rfl⟩ ⟨?_,rfl⟩,fcs ?_ fnl⟩⟩⟩
  ·show some [Jw .no _,Jw (.row 105) _]=some [Jw .no _,Jw (.row 105) _];rw[z];rfl
  ·show some _=some _;rw[xd]
 obtain rfl:k=f.length:=by omega
 cases f with
 |nil=>
  have h':¬(0:Int)<0:=by omega
  simp only[go_sem,Zu0,Zu1,h'];rfl
 |cons r rs=>
  have ht:(r::rs).take (rs.length+1)=r::rs:=JH (l:=r::rs);have h':¬((rs.length+1:Nat):Int)<((rs.length+1:Nat):Int):=by omega
  simp only[go_sem,Zu0,Zu1,h',ht];rw[JH];rfl
theorem Zjt:doc Jd= .agg [.sl .no [],.sl .no []]:=rfl
def VM (m:List Eg) (l:List Opn) (cart:Str) (b:Tg) (g:OkM m) (k:RightM m) (n:l.length<=20) (j:∀o∈l,OkOp o) (i:(l.map Opn.id).Nodup):
  Pp 9 [tr (Ze m),Z1 l,.str cart,tg b] (Zcg (ZF m l cart b)):=by
 unfold ZF;have d:¬400<(l.length:Int):=by omega
 rw[if_neg d];have c:=Y0 cart;cases e:Z0 cart;rw[e]at c;rw[if_pos rfl];refine ZS func9 rfl ntmps9 results9 (ZaR _) ?_;simp only[go_sem,tr,Z1,tg,d];refine vc1 c ?_;simp only[go_sem];simp only[Zcg,Zjt];rw[if_neg (by simp)];by_cases a:(YC (Ze m) b).2=0;rw[if_neg (by simpa using a)];exact ZmN m l cart b g k (by omega) j i e a;rw[if_pos a];rw[e]at c;have h:=Y6 m b g;have f:((YC (Ze m) b).2 !=0)=true:=by simpa using a
 generalize YC (Ze m) b=X at *;obtain⟨F,p⟩:=X;simp only at a f ⊢;refine ZS func9 rfl ntmps9 results9 (ZaR _) ?_;simp only[go_sem,tr,Z1,tg,d];refine vc1 c ?_;simp only[go_sem];refine vc5 h ?_;simp only[go_sem,YX,Zt,f];simp only[Zcg,Zjt]
end Go.Proofs.YtcmpkokndngplaaGreat
namespace Go.PL
theorem Pub.agg2w {K:Ref->Prop} {m:Hp} {a b c d:PV} (e:Pub K m a c) (f:Pub K m b d):Pub K m (.agg [a,b]) (.agg [c,d]):= .agg [a,b] [c,d] rfl λi g=>by
 match i,g with
 |0,_=>exact e
 |1,_=>exact f
end Go.PL
namespace Go.Proofs.YtcmpkokndngplaaGreat
open Go.RowKit
def T1 (it:Str) (r:Rw):Bool:= !Zl r.item it
def ZiE (rs:List Rw) (it:Str):Int:=idx (T1 it) rs
def YK (rs:List Rw) (it:Str):Nat:=if ZiE rs it<0 then rs.length else(ZiE rs it).toNat
def X6 (rs:List Rw) (it:Str):Bool:=decide (0<=ZiE rs it)&&((rs.getD (ZiE rs it).toNat Jd).item==it)
def Zyk (rs:List Rw) (r:Rw):List Rw:=rs.take (YK rs r.item)++r::rs.drop (YK rs r.item)
def Zxw (l:List Fd) (d:Dc) (it:Str):Dc×Int:=
 if(Zz l d&&Z0 it)=false then(Jd,5)else
 if X6 d.rows it=true then(Jd,7)else
 if(400:Int)<=(d.rows.length:Int)then(Jd,14)else(⟨d.head,Zyk d.rows ⟨it,ZZ l 1⟩⟩,0)
def G7 (rs:List Rw) (it:Str):YK rs it<=rs.length:=by
 unfold YK;split;exact JP _;rcases Yx (T1 it) rs with h|⟨i,a,h⟩;unfold ZiE;rw[h];simp;unfold ZiE;rw[h];simp;omega
def ZkH (r:Rw) (it:Str):Pp 116 [row r,.rptr [.str it]] (.bool (T1 it r)):=by
 refine ZM func116 rfl ntmps116 results116 ?_;simp only[go_sem,row,T1]
theorem XA {α:Type} [Inhabited α] (p:α->Bool) (l:List α):(idx p l= -1/\ ∀i,i<l.length->p (l.getD i Jd)=false)\/ ∃k:Nat,k<l.length/\idx p l=(k:Int)/\p (l.getD k Jd)=true/\ ∀i,i<k->p (l.getD i Jd)=false:=by
 unfold idx;cases h:l.findIdx? p with
 |none=>
  refine .inl ⟨rfl,λi a=> ?_⟩;have:=List.findIdx?_eq_none_iff.1 h _ (Zh (d:=Jd) a);simpa using this
 |some k=>
  obtain⟨b,c,e⟩:=List.findIdx?_eq_some_iff_getElem.1 h;refine .inr ⟨k,b,rfl,by rw[getD_lt b];exact c,λi a=> ?_⟩;have:=e i a;rw[getD_lt (by omega)];simpa using this
def Zqr {rs:List Rw} {it:Str} {k:Nat} (h:k<YK rs it):Zl (rs.getD k Jd).item it=true:=by
 have d:=G7 rs it;unfold YK ZiE at h d;rcases XA (T1 it) rs with ⟨a,b⟩|⟨j,e,a,b,c⟩;have:=b k (by rw[a]at h;simpa using h);simpa[T1]using this;rw[a,if_neg (by omega),Je]at h;have:=c k h;simpa[T1]using this
def Zye {rs:List Rw} {it:Str} (h:YK rs it<rs.length):Zl (rs.getD (YK rs it) Jd).item it=false:=by
 unfold YK ZiE at h ⊢;rcases XA (T1 it) rs with ⟨a,b⟩|⟨j,c,a,b,d⟩;rw[a]at h;simp at h;rw[a,if_neg (by omega),Je];simpa[T1]using b
def Zyf {rs:List Rw} {it:Str} {k:Nat} (h:X6 rs it=false) (g:k<rs.length) (a:k=YK rs it):(rs.getD k Jd).item≠it:=λe=>by
 unfold YK at a;unfold X6 ZiE at *;rcases XA (T1 it) rs with ⟨b,c⟩|⟨j,d,b,c,f⟩;rw[b]at a;simp at a;omega;rw[b,if_neg (by omega),Je]at a;rw[b,Je]at h;rw[a]at e;rw[e]at h;simp at h
def ZqL {a b:Str} (h:Zl a b=true):Zl b a=false:=by
 cases c:Zl b a;rfl;have:=Ud h c;rw[Xs]at this;cases this
def ZoT {l:List Fd} {d:Dc} (h:Zz l d=true):∀r∈d.rows,Zo (Zk l 1) r.l=true:=by
 intro r c;simp only[Zz,Jh,Jq,Jy]at h;obtain⟨i,b,rfl⟩:=JD c;have a:=h.2 i b;rw[Ub,getD_lt b,Jh]at a;exact a.2
def ZoS {l:List Fd} {d:Dc} (h:Zz l d=true):Zo (Zk l 0) d.head=true:=by
 simp only[Zz,Gb,Jh]at h;exact h.1.2.2
def Zf6 {l:List Fd} {i:Nat} (h:i<l.length):(l.map fld).getD i .any=fld (l.getD i Jd):=Xk h
def Dv (d:Dc) (x:Int×Int×Int) (e:En):Dc:=
 if x.1<0 then⟨d.head.set x.2.1.toNat e,d.rows⟩else⟨d.head,d.rows.set x.1.toNat ⟨(d.rows.getD x.1.toNat Jd).item,(d.rows.getD x.1.toNat Jd).l.set x.2.1.toNat e⟩⟩
def YQ {L:List Fd} {es:List En} (h:Zo L es=true) {k:Nat} (b:k<es.length):k<L.length/\(es.getD k Jd).at'=(L.getD k Jd).at':=by
 simp only[Zo,Jh,decide_eq_true_eq,Jq,Jy]at h;have a:=h.2 k (by omega);simp only[YF,Jh,decide_eq_true_eq]at a;exact⟨by omega,a.1.2⟩
def Zem {l:List Fd} {sc:Int} {k:Nat} (g:k<(Zk l sc).length) {r:Rf} (h:((Zk l sc).getD k Jd).at'=r):∃j:Nat,j<l.length/\idx (atF r) l=(j:Int):=by
 rcases XA (atF r) l with ⟨_,a⟩|⟨j,f,a,_⟩;exfalso;have m:(Zk l sc).getD k Jd∈l:=(JI.1 (Zh (d:=Jd) g)).1;obtain⟨i,b,e⟩:=JD m;have:=a i b;have c:atF r ((Zk l sc).getD k Jd)=true:=decide_eq_true h;rw[getD_lt b,e,c]at this;cases this;exact⟨j,f,a⟩
def ZdD {l:List Fd} {d:Dc} {it:Str} {r:Rf} (o:Zz l d=true):(Vg d it r).2.2≠0\/
  (it= []/\ ∃k j:Nat,k<d.head.length/\idx (atE r) d.head=(k:Int)/\Vg d it r=(-1,(k:Int),0)/\j<l.length/\idx (atF r) l=(j:Int))\/
  (it≠ []/\ ∃i k j:Nat,i<d.rows.length/\idx (atR it) d.rows=(i:Int)/\(d.rows.getD i Jd).item=it/\k<(d.rows.getD i Jd).l.length/\idx (atE r) (d.rows.getD i Jd).l=(k:Int)/\Vg d it r=((i:Int),(k:Int),0)/\j<l.length/\idx (atF r) l=(j:Int)):=by
 unfold Vg;by_cases f:it= [];rw[if_pos f];rcases XA (atE r) d.head with ⟨a,_⟩|⟨k,e,a,m,_⟩;rw[a];exact .inl (by simp);refine .inr (.inl ⟨f,k,?_⟩);obtain⟨g,h⟩:=YQ (ZoS o) e;obtain⟨j,n,b⟩:=Zem g (r:=r) (by rw[<-h];simpa[atE]using m);rw[a,if_neg (by omega)];exact⟨j,e,rfl,rfl,n,b⟩;rw[if_neg f];rcases XA (atR it) d.rows with ⟨a,_⟩|⟨i,c,a,m,_⟩;rw[a];exact .inl (by simp);rw[a,if_neg (by omega)];simp only[Je];rcases XA (atE r) (d.rows.getD i Jd).l with ⟨b,_⟩|⟨k,e,b,p,_⟩;rw[b];exact .inl (by simp);refine .inr (.inr ⟨f,i,k,?_⟩);obtain⟨g,h⟩:=YQ (ZoT o _ (Zh (d:=Jd) c)) e;obtain⟨j,n,q⟩:=Zem g (r:=r) (by rw[<-h];simpa[atE]using p);rw[b,if_neg (by omega)];exact⟨j,c,rfl,by simpa[atR]using m,e,rfl,rfl,n,q⟩
def ZfW (d:Dc) (it:Str) (r:Rf):(Xh d it r).2=(Vg d it r).2.2:=by
 unfold Xh Vg;by_cases a:it= [];rw[if_pos a,if_pos a];split<;>rfl
 rw[if_neg a,if_neg a];split;rfl;split<;>rfl
def Zmx (d:Dc):PV:= .rptr [.sl .no (d.head.map ent),.sl .no (d.rows.map row)]
def Zdd {rs:List Rw} {it:Str} (h:∀j,j<rs.length->Zl (rs.getD j Jd).item it=true):YK rs it=rs.length/\X6 rs it=false:=by
 have hp:ZiE rs it= -1:=by
  unfold ZiE;rcases XA (T1 it) rs with ⟨a,_⟩|⟨k,c,a,b,_⟩;exact a;simp only[T1,h k c,JM]at b;cases b
 unfold YK X6;rw[hp];exact⟨rfl,rfl⟩
def Zbd {rs:List Rw} {it:Str} {k:Nat} (c:k<rs.length) (h:∀j,j<k->Zl (rs.getD j Jd).item it=true) (a:Zl (rs.getD k Jd).item it=false):YK rs it=k/\X6 rs it=((rs.getD k Jd).item==it):=by
 have hp:ZiE rs it=(k:Int):=XL (d:=Jd) c (λj b=>by simp only[T1,h j b,JM]) (by simp only[T1,a,Bool.not_false]);unfold YK X6;rw[hp,if_neg (by omega)];exact⟨by simp,by simp⟩
def ZkJ (d:Dc) (it:Str) (n:d.rows.length<=maxLen):Pp 75 [Zmx d,.str it] (.tup [.int .i64 ((YK d.rows it:Nat):Int),.bool (X6 d.rows it)]):=by
 refine ZM func75 rfl ntmps75 results75 ?_;simp only[go_sem,Zmx];refine ZA (ι:= { x:Nat // x<=(d.rows).length/\(∀j,j<x->Zl (d.rows.getD j Jd).item it=true) }) 48 (λx=> [(0,Zmx d),(1,.str it),(6,.int .i64 (x.1:Int))]) (λx=> []) (λx=> []) (λx=>(d.rows).length-x.1) ⟨0,Jn _,λj g=>absurd g (JJ j)⟩ ⟨rfl,(Fc3 rfl rfl rfl),fnl,fnl⟩ (λx=>⟨(Fc3 rfl rfl rfl),fnl⟩) (λx=> ?_);obtain⟨k,m,c⟩:=x;simp only at m c ⊢;by_cases h:(k:Int)<(d.rows.length:Int)
 (have a:k<(d.rows).length:=by omega);(have o:=Wa a (n));(have l:=Ja k)
 cases b:Zl (d.rows.getD k Jd).item it;obtain⟨e,f⟩:=Zbd a c b;simp only[go_sem,Zmx,h,W6 a,row,l,b];refine vDq ?_;simp only[go_sem,Zmx,h,W6 a,row,l,b,e,f]
 ·have i:∀j,j<k+1->Zl (d.rows.getD j Jd).item it=true:=λj g=>by
   rcases Nat.lt_succ_iff_lt_or_eq.1 g with h|h;exact c j h;subst h;exact b
  simp only[go_sem,Zmx,h,W6 a,row,l,b,o];exact⟨⟨k+1,by(try simp only);omega,i⟩,by show(d.rows).length-(k+1)<(d.rows).length-k;omega,⟨rfl,(Fc3 rfl rfl rfl),fnl,fnl⟩⟩
 obtain rfl:k=d.rows.length:=by omega
 obtain⟨e,f⟩:=Zdd c;simp only[go_sem,Zmx,h];refine vDq ?_;simp only[go_sem,Zmx,h,e,f]
end Go.Proofs.YtcmpkokndngplaaGreat
namespace Go.PL
theorem Pub.agg5 {K:Ref->Prop} {m:Hp} {a b c d e f g c' d' h:PV} (j:Pub K m a f) (k:Pub K m b g) (l:Pub K m c c') (n:Pub K m d d') (o:Pub K m e h):Pub K m (.agg [a,b,c,d,e]) (.agg [f,g,c',d',h]):= .agg [a,b,c,d,e] [f,g,c',d',h] rfl λi p=>by
 match i,p with
 |0,_=>exact j
 |1,_=>exact k
 |2,_=>exact l
 |3,_=>exact n
 |4,_=>exact o
end Go.PL
namespace Go.Proofs.YtcmpkokndngplaaGreat
def Zbt (e:En) (b:e.l.length<=1000000):Pp 86 [ent e] (Zhv e):=by
 have a:=Yl (show e.l.length<=100000000000 by omega) (show 16<=1000 by omega);refine PL.Pure.of_p [] func86 (by decide) rfl ntmps86 results86 (by simp) (ZaT _) ?_;simp only[go_sem,ent,Yb,Xr,a];exact⟨_,rfl,Pub.agg5 (.clean rfl) (.clean rfl) (.clean rfl) (.clean rfl) (Pub.frl (n:=e.l.length) (sz:=1) (e:=9) (by simp[upd]) (by simp))⟩
open Go.RowKit
def ZvG:PV:= .agg [.int .i64 0,.str [],.str [],.int .i64 0,.sl .nil []]
def ZtE (x:En×Int):PV:= .tup [if x.2=0 then Zhv x.1 else ZvG,.int .i64 x.2]
def TT (x:En×Int):(ZtE x).dids= []:=by
 unfold ZtE;split;simp only[JS,JO,ZaT,Jb];simp[ZvG,JS,JO]
theorem ZdV:∀l:List Str,Jz (l.map .str)=true
 | []=>rfl
 |s::l=>by simp[Jz,JR,ZdV l]
theorem ZpT {es:List PV} (h:Jz es=true):(PV.frl es).young=true:=by
 cases es with
 |nil=>rfl
 |cons e l=>exact h
def Zmw (e:En):(Zhv e).young=true:=by simp[Zhv,JR,Jz,ZpT (ZdV e.l)]
def ZpS (x:En×Int):(ZtE x).young=true:=by
 unfold ZtE;split;simp[JR,Jz,Zmw];rfl
def ZnF (e:En) (n:Int):(PV.tup [Zhv e,.int .i64 n]).ids= []:=by simp only[Jr,JK,Zq0,Jb]
def Zto (d:Dc) (it:Str) (r:Rf) (j:Zfd d) (o:Zfq d):Pp 42 [doc d,.str it,ref r] (ZtE (Xh d it r)):=by
 have a:=ZgT d it r j;obtain⟨t,u,v,w⟩:=j;unfold Vg at a;unfold Xh;by_cases l:it= [];rw[if_pos l]at a ⊢;rcases Yx (atE r) d.head with b|⟨k,e,b⟩;rw[b]at a ⊢;refine PL.Pure.of_p [] func42 (by decide) rfl ntmps42 results42 (by simp) (TT _) ?_;simp only[go_sem,doc,ref];refine vc1 a ?_;simp only[go_sem,ZjP];exact⟨_,rfl,JA (by simp[ZvG,Jr,JK])⟩;have h:=Ja k
 have i:(k:Int)<(d.head.length:Int):=by omega
 have c:¬(k:Int)<0:=by omega
 have g:=Zbt (d.head.getD k Jd) (o.1 _ (Zh e));rw[b,if_neg c]at a;rw[b,if_neg c];refine PL.Pure.of_p [] func42 (by decide) rfl ntmps42 results42 (by simp) (TT _) ?_;simp only[go_sem,doc,ref];refine vc1 a ?_;simp only[go_sem,ZjP,h,i,Xj e,ent];refine vc1 g ?_;simp only[go_sem,Zhv];exact⟨_,rfl,JA (ZnF _ _)⟩;rw[if_neg l]at a ⊢;rcases Yx (atR it) d.rows with b|⟨k,e,b⟩;rw[b]at a ⊢;refine PL.Pure.of_p [] func42 (by decide) rfl ntmps42 results42 (by simp) (TT _) ?_;simp only[go_sem,doc,ref];refine vc1 a ?_;simp only[go_sem,ZjP];exact⟨_,rfl,JA (by simp[ZvG,Jr,JK])⟩;have h:=Ja k
 have i:(k:Int)<(d.rows.length:Int):=by omega
 have c:¬(k:Int)<0:=by omega
 rw[b,if_neg c]at a;rw[b,if_neg c];simp only[Je]at a ⊢;rcases Yx (atE r) (d.rows.getD k Jd).l with f|⟨n,m,f⟩;rw[f]at a ⊢;refine PL.Pure.of_p [] func42 (by decide) rfl ntmps42 results42 (by simp) (TT _) ?_;simp only[go_sem,doc,ref];refine vc1 a ?_;simp only[go_sem,ZjP];exact⟨_,rfl,JA (by simp[ZvG,Jr,JK])⟩;have q:=Ja n
 have s:(n:Int)<((d.rows.getD k Jd).l.length:Int):=by omega
 have p:¬(n:Int)<0:=by omega
 have g:=Zbt ((d.rows.getD k Jd).l.getD n Jd) (o.2 _ (Zh e) _ (Zh m));rw[f,if_neg p]at a;rw[f,if_neg p];refine PL.Pure.of_p [] func42 (by decide) rfl ntmps42 results42 (by simp) (TT _) ?_;simp only[go_sem,doc,ref];refine vc1 a ?_;simp only[go_sem,ZjP,h,i,c,Wj e,row,q,s,Xj m,ent];refine vc1 g ?_;simp only[go_sem,Zhv];exact⟨_,rfl,JA (ZnF _ _)⟩
def Zhy (l:List Fd) (es:List En) (A:l.length<=maxLen) (y:es.length<=maxLen) (r:∀f∈l,f.cases'.length<=maxLen) (c:∀e∈es,e.l.length<=maxLen):Pp 80 [Zt l,ZX es,.fn 74 []] (.bool (Zo l es)):=by
 by_cases o:l.length=es.length;have q:((l.length:Int) !=(es.length:Int))=false:=by rw[o];exact bne_self_eq_false _
 have B:Zo l es=(JL l.length).all (λi=>YF (l.getD i Jd) (es.getD i Jd)):=by simp only[Zo,o,decide_true,Bool.true_and]
 rw[B];refine ZM func80 rfl ntmps80 results80 ?_;simp only[go_sem,Zt,ZX,q];refine ZA (ι:= { x:Nat // x<=(l).length/\(∀j,j<x->YF (l.getD j Jd) (es.getD j Jd)=true) }) 32 (λx=> [(1,ZX es),(2,.fn 74 []),(15,Zt l),(16,.int .i64 (l.length:Int)),(17,.int .i64 (x.1:Int))]) (λx=> []) (λx=> []) (λx=>(l).length-x.1) ⟨0,Jn _,λj u=>absurd u (JJ j)⟩ ⟨rfl,(Fc5 rfl rfl rfl rfl rfl),fnl,fnl⟩ (λx=>⟨(Fc5 rfl rfl rfl rfl rfl),fnl⟩) (λx=> ?_);obtain⟨k,z,m⟩:=x;simp only at z m ⊢;by_cases h:(k:Int)<(l.length:Int)
 (have a:k<(l).length:=by omega);(have C:=Wa a (A));(have v:=Ja k)
 have b:k<es.length:=by omega
 have w:(k:Int)<(es.length:Int):=by omega
 have d:=Sk (l.getD k Jd) (es.getD k Jd) (r _ (Zh a)) (c _ (Zh b));cases g:YF (l.getD k Jd) (es.getD k Jd);rw[g]at d;have t:=Yf (p:=λi=>YF (l.getD i Jd) (es.getD i Jd)) a g;simp only[go_sem,Zt,ZX,Zf6 a,Zq b,fld,ent,v,h,w];refine vc2 d ?_;simp only[go_sem,t]
 ·rw[g]at d;simp only[go_sem,Zt,ZX,Zf6 a,Zq b,fld,ent,v,h,w];refine vc2 d ?_;simp only[go_sem,C];exact⟨⟨k+1,by(try simp only);omega,Zm m g⟩,by show(l).length-(k+1)<(l).length-k;omega,⟨rfl,(Fc5 rfl rfl rfl rfl rfl),fnl,fnl⟩⟩
 have t:(JL l.length).all (λi=>YF (l.getD i Jd) (es.getD i Jd))=true:=by
  simp only[Jq,Jy];exact λj u=>m j (by omega)
 simp only[go_sem,Zt,ZX,h,t];have s:((l.length:Int) !=(es.length:Int))=true:=bne_iff_ne.2 (by omega);have n:Zo l es=false:=by simp[Zo,o]
 refine ZM func80 rfl ntmps80 results80 ?_;simp only[go_sem,Zt,ZX,s,n]
end Go.Proofs.YtcmpkokndngplaaGreat
