/- Lemmas of the proof. -/
import Derived.Test.YtepchngegclagaaGreatPlH
import Derived.Test.YtepchngegclagaaGreatXAa
import Derived.Test.YtepchngegclagaaGreatXAi
import Derived.Test.YtepchngegclagaaGreatXAo
import Derived.Test.YtepchngegclagaaGreatXBr
import Derived.Test.YtepchngegclagaaGreatXDo
import Derived.Test.YtepchngegclagaaGreatXEp
open Inhabited renaming default→Jd
open Bool renaming false→Hf
open Go.Proofs.Tryz
open Go Go.PL
open Bool renaming false_eq_true→Ja,true_eq_false→Jb
open Gh renaming nilPlainB→Jj
open Int renaming natCast_nonneg→Je,reduceEq→Jf,reduceBEq→Ji
open List renaming length_nil→Jc,length_take_le→Jg,take_length→Jh
open Nat renaming zero_le→Jk
namespace Go.Proofs.YtepchngegclagaaGreat
set_option maxHeartbeats 64000000
set_option maxRecDepth 20000
set_option linter.unusedVariables false
set_option linter.unusedSimpArgs false
open Go.PL Go.PL.Srt
theorem ZoD (g:List Eg) (m:List Opn) (me:Int) (own:Tg) (d:De) (hm:OkM g) (hr:RightM g) (hk:PoolOk m) (ho:∀o∈m,OkOp o) (hnd:(m.map Opn.id).Nodup) (hb1:1<=me) (hb2:me<=6) (hkd:d.kind=6):Pp 13 [egs g,Zr m,.int .i64 me,tg own,ded d] (opc (YJ g m me own d)):=by
 have hbad:DI me d=false:=by simp[DI,hkd];omega
 have v1:decide (me<1)=false:=by simp;omega
 have v2:decide (6<me)=false:=by simp;omega
 have hS:=YG g own hm;have hN1:=ZT d.cart;have hN2:=ZT d.item;have hkl:=hk.l;have hlm:m.length<=100000:=by omega
 have hC:=X3 m hlm;have hp:=V0 hk hnd;have hA:=X2 g m hm hlm ho hnd;rw[<-U6 hp hk.nodup]at hA;rw[<-U0 hp]at hC;have hll:=W0 g (Yh m);have hol:=Vu hk;have hH:=X4 (VY g (Yh m)) d.cart d.item (by omega);rw[SP]at hH;change PL.Pure _ _ _ (.bool ((alC g m d.cart).any (YT d.item)))at hH;have hV:=WG m hk;have hv:=YC m;have hrow:=Z0 m (show(me-1).toNat<6 by omega);have hrl:=XG m (me-1).toNat;have hge:((Y2 m).map (PV.int .i64)).getD (me-1).toNat .any= .int .i64 (((Yn m (me-1).toNat).length:Int)):=by rw[XZ (by rw[hv];omega),hrow]
 have e1:IntKind.i64.wrap (me-1)=me-1:=w64 (by omega);have e2:0<=me-1:=by omega
 have e3:me-1<6:=by omega
 have e4:(me-1).toNat<6:=by omega
 have e5:(me-1).toNat<=5:=by omega
 have e6:IntKind.i64.wrap (((Yn m (me-1).toNat).length:Int)+1)=((Yn m (me-1).toNat).length:Int)+1:=w64 (by omega);have hcn:=XC (Yh m);have hck:clk (Yh m)<=1099511627776:=FN λo h=>WR (hk.r o ((YV hk).1 h))
 have e7:IntKind.i64.wrap (clk (Yh m)+1)=clk (Yh m)+1:=w64 (by omega);have hao:∀o∈VY g (Yh m),OkOp o:=λo h=>ho o ((YV hk).1 (W4 h))
 have hsc:(Yk (Zd g) own).2=0->OkFs (Yk (Zd g) own).1:=λh=>SE hm h
 have hF:ZP (Ym g m own d)=if(Zv (Yk (Zd g) own).1 d.at').2≠0 then(Jd,(Zv (Yk (Zd g) own).1 d.at').2)else if UE 6 (Zv (Yk (Zd g) own).1 d.at').1=Hf then(Jd,11)else if d.at'.sc=1/\(alC g m d.cart).any (YT d.item)=Hf then(Jd,12)else((Zv (Yk (Zd g) own).1 d.at').1,0):=by
  unfold ZP;rw[show(Ym g m own d).d.kind=6 from hkd];rfl
 have hW:=λo=>Ud g o own d (if(d.at'.sc==1)=true then d.item else []) hm hr
 have hD:(Xh (VY g (Yh m)) λo=>Tw g o own d (if(d.at'.sc==1)=true then d.item else [])).foldl U4 []=Z2 (alC g m d.cart) (Sy g (Ym g m own d)):=ZcC _ d.cart _ _ λo=>Zt2 g (Ym g m own d) o hkd
 generalize hWd:(λo=>Tw g o own d (if(d.at'.sc==1)=true then d.item else []))=W at *;have hW:∀o,PL.Pure _ _ _ (.bool (W o)):=λo=>by rw[<-hWd];exact hW o
 have hG:YN g (Ym g m own d) (mk0 m me own d)=if(ZP (Ym g m own d)).2≠0 then((mk0 m me own d,Hf),(ZP (Ym g m own d)).2)else(({ ({ mk0 m me own d with kind:=4,at':=d.at',item:=if(d.at'.sc==1)=true then d.item else(mk0 m me own d).item }:Opn)with drops:=Z2 (alC g m d.cart) (Sy g (Ym g m own d)) },true),if(Z2 (alC g m d.cart) (Sy g (Ym g m own d))).isEmpty=true then 12 else 0):=by
  unfold YN X7 Sw;simp only[show(Ym g m own d).d=d from rfl,show(Ym g m own d).al=alC g m d.cart from rfl,hkd,Ji,Ja,if_false,if_true]
 generalize ZP (Ym g m own d)=fm at *;generalize hy:YJ g m me own d=y;rw[YJ,if_neg (by rw[hbad];simp),hG]at hy;generalize (alC g m d.cart).any (YT d.item)=hs at *;generalize VY g (Yh m)=A at *;unfold mk0 at hy;generalize Yk (Zd g) own=sy at *;obtain⟨S,c⟩:=sy;simp only at hy;refine ZB func13 rfl ntmps13 results13 (Xp _) ?_;simp only[go_sem,egs,Zr,tg,ded,Yq,hkd,v1,v2];refine vc3 hS ?_;simp only[go_sem,ZC,Zh];refine Zm (λh=> ?_) (λh=> ?_);rw[if_pos (by simpa using h)]at hy;subst hy;simp only[go_sem,opc,Za];have hc0:c=0:=by simpa using h
 subst hc0;rw[if_neg (by simp)]at hy;simp only[go_sem];refine vc1 hN1 ?_;cases hn1:ZU d.cart;rw[if_pos hn1]at hy;subst hy;simp only[go_sem,hn1,opc,Za];rw[if_neg (by rw[hn1];simp)]at hy;simp only[go_sem,hn1,hkd];rw[if_neg (by simp[hkd])]at hy;refine Zm (λh=> ?_) (λh=> ?_);have h4:(m.length:Int)=400:=by simpa using h
 rw[if_pos (by omega)]at hy;subst hy;simp only[go_sem,opc,Za];have h4:¬(m.length:Int)=400:=by simpa using h
 rw[if_neg (by omega)]at hy;simp only[go_sem];refine vc7 hC ?_;simp only[go_sem,e7];refine Zm (λh=> ?_) (λh=> ?_);have h5:1099511627776<clk (Yh m)+1:=by simpa using h
 rw[if_pos (by omega)]at hy;subst hy;simp only[go_sem,opc,Za];have h5:¬1099511627776<clk (Yh m)+1:=by simpa using h
 rw[if_neg (by omega)]at hy;simp only[go_sem];refine vc7 hA ?_;simp only[go_sem,Zr];refine vc7 hH ?_;simp only[go_sem];refine vDq ?_;simp only[go_sem];refine vc7 hV ?_;simp only[go_sem,Gc,hv,e1,e2,e3,e4,e5,e6,hge,hkd];have okS:OkFs S:=hsc rfl;have hat:=Ua S d.at' (by rw[Zc];have:=okS.n;omega);rw[show(λx:Fd=>decide (x.at'=d.at'))=atF d.at' from rfl]at hat;rcases Xj (atF d.at') S with hi|⟨j,hj,hi⟩;rw[hi]at hat;have hfm:fm=(Jd,6):=by rw[hF,Zv,hi];simp
 refine vc2 hat ?_;rw[hfm]at hy;simp at hy;subst hy;simp only[go_sem,opc,Za];have hfF:Zv S d.at'=(S.getD j Jd,0):=by rw[Zv,hi];simp
 rw[hfF]at hF;have hgd:(S.map fld).getD j .any=fld (S.getD j Jd):=Zx hj;have hfc:=okS.c _ (ZF (d:=Jd) hj);generalize S.getD j Jd=f at *;have hFi:=Ub 6 f;have hT:=Uv f d.text (by rw[Zc];omega);have j0:=Je j
 have j1:¬(j:Int)<0:=by omega
 have jI:(j:Int)<(S.length:Int):=by omega
 rw[hi]at hat;refine vc2 hat ?_;simp only[go_sem,j1];refine vDq ?_;simp only[go_sem,Zh,hgd,fld,j0,jI,hj,hkd];refine vc2 hFi ?_;cases hg:UE 6 f;have hfm:fm=(Jd,11):=by rw[hF];simp[hg]
 rw[hfm]at hy;simp at hy;subst hy;simp only[go_sem,hg,opc,Za];by_cases hx:((d.at'.sc==1)&& !hs)=true;have hs1:(d.at'.sc==1)=true:=by simp at hx ⊢;exact hx.1
 have hs2:hs=false:=by simp at hx;exact hx.2
 have hfm:fm=(Jd,12):=by rw[hF,hs2];simp[hg];simpa using hs1
 rw[hfm]at hy;simp at hy;subst hy;simp only[go_sem,hg,hs1,hs2,opc,Za];have hfm:fm=(f,0):=by rw[hF];simp[hg];simpa using hx
 subst hfm;clear hat hgd okS hsc hfF hF hi hFi;cases hs1:(d.at'.sc==1)
 rotate_left
 obtain rfl:hs=true:=by
  cases hs;rw[hs1]at hx;exact absurd rfl hx;rfl
 clear hx;simp only[go_sem,hg,hs1,hkd];refine vDq ?_;simp only[hs1,Ja,Jb,if_true,if_false,ne_eq,not_true_eq_false,Jf,not_false_eq_true,Jc]at hW hD hy;simp only[go_sem,hkd,hs1,Zr,Yq];refine Wj (Jj (b:=18) (j:=14) rfl rfl (by simp) rfl) ?_;refine ZA (ι:= { k:Nat // k<=A.length }) 290 (λx=> [(0,egs g),(8,.ptr 8 0),(9,.ptr 9 0),(10,.ptr 10 0),(12,.ptr 12 0),(16,Zr A),(18,.ptr 18 0),(20,.int .i64 (x.1:Int))]) (λx=> [(8,[.int .i64 own.r,.int .i64 own.n],Hf),(9,Yq d,Hf),(10,opZ,Hf),(12,opZ,Hf),(18,opE { (⟨⟨me,((Yn m (me-1).toNat).length:Int)+1⟩,own,clk (Yh m)+1,d.cart,4,d.item,d.at',0,Hf,[],[]⟩:Opn)with drops:=(Xh (A.take x.1) W).foldl U4 [] } true,Hf)]) (λx=> []) (λx=>A.length-x.1) ⟨0,Jk _⟩
  ⟨rfl,(Fc8 rfl rfl rfl rfl rfl rfl rfl rfl),(Fc5 ⟨rfl,rfl⟩ ⟨by first|rfl|(rw[Yq,hkd];rfl),rfl⟩ ⟨rfl,rfl⟩ ⟨rfl,rfl⟩ ⟨rfl,rfl⟩),fnl⟩ (λx=>⟨(Fc8 rfl rfl rfl rfl rfl rfl rfl rfl),Fc5 rfl (by rw[Vs];rfl) rfl rfl rfl⟩) (λx=> ?_)
 obtain⟨k,hka0⟩:=x;simp only;by_cases hlt:(k:Int)<(A.length:Int);have hka:k<A.length:=by omega
 have i1:=Je k
 have w1:=wk9 (k:=k) (by omega)
 have hgd:=ZZ hka;have hWk:=hW (A.getD k Jd);have hsn:=VE W hka;have hfl:=UD (A.take k) W;have htl:(A.take k).length<=k:=Jg _ _;have hIn:=Vx ((Xh (A.take k) W).foldl U4 []) (A.getD k Jd).id (by omega);generalize A.getD k Jd=x at *;generalize hT:(Xh (A.take k) W).foldl U4 []=T at *;cases hw:W x
 ·rw[hw]at hWk;rw[hw,if_neg (by simp)]at hsn;simp only[go_sem,hlt,Zr];refine vDq ?_;simp only[go_sem,hlt,Zr,hgd,opv,i1,Yq,opE,hkd,if_true];refine Zl hWk ?_ ?_ ?_;iterate 2 simp only[go_sem,egs,opv,tg,ded,Yq,hkd]
  simp only[go_sem,w1];exact⟨⟨k+1,by omega⟩,nx9 (by omega),⟨rfl,(Fc8 rfl rfl rfl rfl rfl rfl rfl rfl),by simp only;rw[hsn];exact(Fc5 ⟨rfl,rfl⟩ ⟨by first|rfl|(rw[Yq,hkd];rfl),rfl⟩ ⟨rfl,rfl⟩ ⟨rfl,rfl⟩ ⟨rfl,rfl⟩),fnl⟩⟩
 ·rw[hw]at hWk;rw[hw,if_pos rfl]at hsn;simp only[go_sem,hlt,Zr];refine vDq ?_;simp only[go_sem,hlt,Zr,hgd,opv,i1,Yq,opE,hkd,if_true];refine Zl hWk ?_ ?_ ?_;iterate 2 simp only[go_sem,egs,opv,tg,ded,Yq,hkd]
  simp only[go_sem];refine vDq ?_;simp only[go_sem,hlt,Zr,hgd,opv,i1,opE,if_true];refine vc3 hIn ?_;simp only[go_sem,tgs,w1];exact⟨⟨k+1,by omega⟩,nx9 (by omega),⟨rfl,(Fc8 rfl rfl rfl rfl rfl rfl rfl rfl),by simp only;rw[hsn];exact(Fc5 ⟨rfl,rfl⟩ ⟨by first|rfl|(rw[Yq,hkd];rfl),rfl⟩ ⟨rfl,rfl⟩ ⟨rfl,rfl⟩ ⟨rfl,rfl⟩),fnl⟩⟩
 obtain rfl:k=A.length:=by omega
 simp only[Jh,hD];generalize Z2 (alC g m d.cart) (Sy g (Ym g m own d))=D at *;have hz:((D.length:Int)==0)=D.isEmpty:=by cases D<;>simp;omega
 cases hE:D.isEmpty<;>rw[hE]at hz hy
 simp only[Ja,if_false,ne_eq,not_true_eq_false]at hy;simp only[go_sem,hlt,Zr,Yq,opE,opZ,hkd,hz,if_true];refine Zm (λh=> ?_) (λh=> ?_);rw[if_pos (by simpa using h)]at hy;subst hy;simp only[go_sem,opc,Za,opZ];rw[if_neg (by simpa using h)]at hy;subst hy;simp only[go_sem,opc,opv,opZ];simp only[if_true,ne_eq]at hy;rw[if_pos (by decide)]at hy;subst hy;simp only[go_sem,hlt,Zr,Yq,opE,opZ,hkd,hz,if_true,opc,Za];clear hx;simp only[go_sem,hg,hs1,hkd];refine vDq ?_;simp only[hs1,Ja,Jb,if_true,if_false,ne_eq,not_true_eq_false,Jf,not_false_eq_true,Jc]at hW hD hy;simp only[go_sem,hkd,hs1,Zr,Yq];refine Wj (Jj (b:=18) (j:=14) rfl rfl (by simp) rfl) ?_;refine ZA (ι:= { k:Nat // k<=A.length }) 290 (λx=> [(0,egs g),(8,.ptr 8 0),(9,.ptr 9 0),(10,.ptr 10 0),(12,.ptr 12 0),(16,Zr A),(18,.ptr 18 0),(20,.int .i64 (x.1:Int))]) (λx=> [(8,[.int .i64 own.r,.int .i64 own.n],Hf),(9,Yq d,Hf),(10,opZ,Hf),(12,opZ,Hf),(18,opE { (⟨⟨me,((Yn m (me-1).toNat).length:Int)+1⟩,own,clk (Yh m)+1,d.cart,4,[],d.at',0,Hf,[],[]⟩:Opn)with drops:=(Xh (A.take x.1) W).foldl U4 [] } true,Hf)]) (λx=> []) (λx=>A.length-x.1) ⟨0,Jk _⟩
  ⟨rfl,(Fc8 rfl rfl rfl rfl rfl rfl rfl rfl),(Fc5 ⟨rfl,rfl⟩ ⟨by first|rfl|(rw[Yq,hkd];rfl),rfl⟩ ⟨rfl,rfl⟩ ⟨rfl,rfl⟩ ⟨rfl,rfl⟩),fnl⟩ (λx=>⟨(Fc8 rfl rfl rfl rfl rfl rfl rfl rfl),Fc5 rfl (by rw[Vs];rfl) rfl rfl rfl⟩) (λx=> ?_)
 obtain⟨k,hka0⟩:=x;simp only;by_cases hlt:(k:Int)<(A.length:Int);have hka:k<A.length:=by omega
 have i1:=Je k
 have w1:=wk9 (k:=k) (by omega)
 have hgd:=ZZ hka;have hWk:=hW (A.getD k Jd);have hsn:=VE W hka;have hfl:=UD (A.take k) W;have htl:(A.take k).length<=k:=Jg _ _;have hIn:=Vx ((Xh (A.take k) W).foldl U4 []) (A.getD k Jd).id (by omega);generalize A.getD k Jd=x at *;generalize hT:(Xh (A.take k) W).foldl U4 []=T at *;cases hw:W x
 ·rw[hw]at hWk;rw[hw,if_neg (by simp)]at hsn;simp only[go_sem,hlt,Zr];refine vDq ?_;simp only[go_sem,hlt,Zr,hgd,opv,i1,Yq,opE,hkd,if_true];refine Zl hWk ?_ ?_ ?_;iterate 2 simp only[go_sem,egs,opv,tg,ded,Yq,hkd]
  simp only[go_sem,w1];exact⟨⟨k+1,by omega⟩,nx9 (by omega),⟨rfl,(Fc8 rfl rfl rfl rfl rfl rfl rfl rfl),by simp only;rw[hsn];exact(Fc5 ⟨rfl,rfl⟩ ⟨by first|rfl|(rw[Yq,hkd];rfl),rfl⟩ ⟨rfl,rfl⟩ ⟨rfl,rfl⟩ ⟨rfl,rfl⟩),fnl⟩⟩
 ·rw[hw]at hWk;rw[hw,if_pos rfl]at hsn;simp only[go_sem,hlt,Zr];refine vDq ?_;simp only[go_sem,hlt,Zr,hgd,opv,i1,Yq,opE,hkd,if_true];refine Zl hWk ?_ ?_ ?_;iterate 2 simp only[go_sem,egs,opv,tg,ded,Yq,hkd]
  simp only[go_sem];refine vDq ?_;simp only[go_sem,hlt,Zr,hgd,opv,i1,opE,if_true];refine vc3 hIn ?_;simp only[go_sem,tgs,w1];exact⟨⟨k+1,by omega⟩,nx9 (by omega),⟨rfl,(Fc8 rfl rfl rfl rfl rfl rfl rfl rfl),by simp only;rw[hsn];exact(Fc5 ⟨rfl,rfl⟩ ⟨by first|rfl|(rw[Yq,hkd];rfl),rfl⟩ ⟨rfl,rfl⟩ ⟨rfl,rfl⟩ ⟨rfl,rfl⟩),fnl⟩⟩
 obtain rfl:k=A.length:=by omega
 simp only[Jh,hD];generalize Z2 (alC g m d.cart) (Sy g (Ym g m own d))=D at *;have hz:((D.length:Int)==0)=D.isEmpty:=by cases D<;>simp;omega
 cases hE:D.isEmpty<;>rw[hE]at hz hy
 simp only[Ja,if_false,ne_eq,not_true_eq_false]at hy;simp only[go_sem,hlt,Zr,Yq,opE,opZ,hkd,hz,if_true];refine Zm (λh=> ?_) (λh=> ?_);rw[if_pos (by simpa using h)]at hy;subst hy;simp only[go_sem,opc,Za,opZ];rw[if_neg (by simpa using h)]at hy;subst hy;simp only[go_sem,opc,opv,opZ];simp only[if_true,ne_eq]at hy;rw[if_pos (by decide)]at hy;subst hy;simp only[go_sem,hlt,Zr,Yq,opE,opZ,hkd,hz,if_true,opc,Za]
open Go.PL Go.PL.Srt
theorem ZoC (g:List Eg) (m:List Opn) (me:Int) (own:Tg) (d:De) (hm:OkM g) (hr:RightM g) (hk:PoolOk m) (ho:∀o∈m,OkOp o) (hnd:(m.map Opn.id).Nodup) (hb1:1<=me) (hb2:me<=6) (hkd:d.kind=5):Pp 13 [egs g,Zr m,.int .i64 me,tg own,ded d] (opc (YJ g m me own d)):=by
 have hbad:DI me d=false:=by simp[DI,hkd];omega
 have v1:decide (me<1)=false:=by simp;omega
 have v2:decide (6<me)=false:=by simp;omega
 have hS:=YG g own hm;have hN1:=ZT d.cart;have hN2:=ZT d.item;have hkl:=hk.l;have hlm:m.length<=100000:=by omega
 have hC:=X3 m hlm;have hp:=V0 hk hnd;have hA:=X2 g m hm hlm ho hnd;rw[<-U6 hp hk.nodup]at hA;rw[<-U0 hp]at hC;have hll:=W0 g (Yh m);have hol:=Vu hk;have hH:=X4 (VY g (Yh m)) d.cart d.item (by omega);rw[SP]at hH;change PL.Pure _ _ _ (.bool ((alC g m d.cart).any (YT d.item)))at hH;have hV:=WG m hk;have hv:=YC m;have hrow:=Z0 m (show(me-1).toNat<6 by omega);have hrl:=XG m (me-1).toNat;have hge:((Y2 m).map (PV.int .i64)).getD (me-1).toNat .any= .int .i64 (((Yn m (me-1).toNat).length:Int)):=by rw[XZ (by rw[hv];omega),hrow]
 have e1:IntKind.i64.wrap (me-1)=me-1:=w64 (by omega);have e2:0<=me-1:=by omega
 have e3:me-1<6:=by omega
 have e4:(me-1).toNat<6:=by omega
 have e5:(me-1).toNat<=5:=by omega
 have e6:IntKind.i64.wrap (((Yn m (me-1).toNat).length:Int)+1)=((Yn m (me-1).toNat).length:Int)+1:=w64 (by omega);have hcn:=XC (Yh m);have hck:clk (Yh m)<=1099511627776:=FN λo h=>WR (hk.r o ((YV hk).1 h))
 have e7:IntKind.i64.wrap (clk (Yh m)+1)=clk (Yh m)+1:=w64 (by omega);have hao:∀o∈VY g (Yh m),OkOp o:=λo h=>ho o ((YV hk).1 (W4 h))
 have hsc:(Yk (Zd g) own).2=0->OkFs (Yk (Zd g) own).1:=λh=>SE hm h
 have hF:ZP (Ym g m own d)=if(Zv (Yk (Zd g) own).1 d.at').2≠0 then(Jd,(Zv (Yk (Zd g) own).1 d.at').2)else if UE 5 (Zv (Yk (Zd g) own).1 d.at').1=Hf then(Jd,11)else if d.at'.sc=1/\(alC g m d.cart).any (YT d.item)=Hf then(Jd,12)else((Zv (Yk (Zd g) own).1 d.at').1,0):=by
  unfold ZP;rw[show(Ym g m own d).d.kind=5 from hkd];rfl
 have hG:YN g (Ym g m own d) (mk0 m me own d)=if(ZP (Ym g m own d)).2≠0 then((mk0 m me own d,Hf),(ZP (Ym g m own d)).2)else if UC (ZP (Ym g m own d)).1 d.text=Hf then(({ mk0 m me own d with kind:=4,at':=d.at',item:=if(d.at'.sc==1)=true then d.item else(mk0 m me own d).item },Hf),5)else(({ ({ mk0 m me own d with kind:=4,at':=d.at',item:=if(d.at'.sc==1)=true then d.item else(mk0 m me own d).item }:Opn)with has:=true,text:=d.text },Hf),0):=by
  unfold YN X7 Sw;simp only[show(Ym g m own d).d=d from rfl,show(Ym g m own d).al=alC g m d.cart from rfl,hkd,Ji,Ja,if_false,if_true]
 generalize ZP (Ym g m own d)=fm at *;generalize hy:YJ g m me own d=y;rw[YJ,if_neg (by rw[hbad];simp),hG]at hy;generalize (alC g m d.cart).any (YT d.item)=hs at *;generalize VY g (Yh m)=A at *;unfold mk0 at hy;generalize Yk (Zd g) own=sy at *;obtain⟨S,c⟩:=sy;simp only at hy;refine ZB func13 rfl ntmps13 results13 (Xp _) ?_;simp only[go_sem,egs,Zr,tg,ded,Yq,hkd,v1,v2];refine vc3 hS ?_;simp only[go_sem,ZC,Zh];refine Zm (λh=> ?_) (λh=> ?_);rw[if_pos (by simpa using h)]at hy;subst hy;simp only[go_sem,opc,Za];have hc0:c=0:=by simpa using h
 subst hc0;rw[if_neg (by simp)]at hy;simp only[go_sem];refine vc1 hN1 ?_;cases hn1:ZU d.cart;rw[if_pos hn1]at hy;subst hy;simp only[go_sem,hn1,opc,Za];rw[if_neg (by rw[hn1];simp)]at hy;simp only[go_sem,hn1,hkd];rw[if_neg (by simp[hkd])]at hy;refine Zm (λh=> ?_) (λh=> ?_);have h4:(m.length:Int)=400:=by simpa using h
 rw[if_pos (by omega)]at hy;subst hy;simp only[go_sem,opc,Za];have h4:¬(m.length:Int)=400:=by simpa using h
 rw[if_neg (by omega)]at hy;simp only[go_sem];refine vc7 hC ?_;simp only[go_sem,e7];refine Zm (λh=> ?_) (λh=> ?_);have h5:1099511627776<clk (Yh m)+1:=by simpa using h
 rw[if_pos (by omega)]at hy;subst hy;simp only[go_sem,opc,Za];have h5:¬1099511627776<clk (Yh m)+1:=by simpa using h
 rw[if_neg (by omega)]at hy;simp only[go_sem];refine vc7 hA ?_;simp only[go_sem,Zr];refine vc7 hH ?_;simp only[go_sem];refine vDq ?_;simp only[go_sem];refine vc7 hV ?_;simp only[go_sem,Gc,hv,e1,e2,e3,e4,e5,e6,hge,hkd];have okS:OkFs S:=hsc rfl;have hat:=Ua S d.at' (by rw[Zc];have:=okS.n;omega);rw[show(λx:Fd=>decide (x.at'=d.at'))=atF d.at' from rfl]at hat;rcases Xj (atF d.at') S with hi|⟨j,hj,hi⟩;rw[hi]at hat;have hfm:fm=(Jd,6):=by rw[hF,Zv,hi];simp
 refine vc2 hat ?_;rw[hfm]at hy;simp at hy;subst hy;simp only[go_sem,opc,Za];have hfF:Zv S d.at'=(S.getD j Jd,0):=by rw[Zv,hi];simp
 rw[hfF]at hF;have hgd:(S.map fld).getD j .any=fld (S.getD j Jd):=Zx hj;have hfc:=okS.c _ (ZF (d:=Jd) hj);generalize S.getD j Jd=f at *;have hFi:=Ub 5 f;have hT:=Uv f d.text (by rw[Zc];omega);have j0:=Je j
 have j1:¬(j:Int)<0:=by omega
 have jI:(j:Int)<(S.length:Int):=by omega
 rw[hi]at hat;refine vc2 hat ?_;simp only[go_sem,j1];refine vDq ?_;simp only[go_sem,Zh,hgd,fld,j0,jI,hj,hkd];refine vc2 hFi ?_;cases hg:UE 5 f;have hfm:fm=(Jd,11):=by rw[hF];simp[hg]
 rw[hfm]at hy;simp at hy;subst hy;simp only[go_sem,hg,opc,Za];by_cases hx:((d.at'.sc==1)&& !hs)=true;have hs1:(d.at'.sc==1)=true:=by simp at hx ⊢;exact hx.1
 have hs2:hs=false:=by simp at hx;exact hx.2
 have hfm:fm=(Jd,12):=by rw[hF,hs2];simp[hg];simpa using hs1
 rw[hfm]at hy;simp at hy;subst hy;simp only[go_sem,hg,hs1,hs2,opc,Za];have hfm:fm=(f,0):=by rw[hF];simp[hg];simpa using hx
 subst hfm;have hgd0:=hgd;clear hat okS hsc hfF hF hi hFi;cases hs1:(d.at'.sc==1)
 rotate_left
 obtain rfl:hs=true:=by
  cases hs;rw[hs1]at hx;exact absurd rfl hx;rfl
 clear hx;simp only[go_sem,hg,hs1,hkd];refine vDq ?_;simp only[go_sem,Zh,hgd0,fld,j0,jI,hj,hkd,Yq];refine vc2 hT ?_;cases hft:UC f d.text;simp only[hs1,hft,Ja,Jb,if_true,if_false,ne_eq,not_true_eq_false,Jf,not_false_eq_true,Jc]at hy;subst hy;simp only[go_sem,hft,opc,Za];simp only[hs1,hft,Ja,Jb,if_true,if_false,ne_eq,not_true_eq_false,Jf,not_false_eq_true,Jc]at hy;rw[if_neg (by simp)]at hy;subst hy;simp only[go_sem,hft,hs1,hkd,opc,opv,Yq];clear hx;simp only[go_sem,hg,hs1,hkd];refine vDq ?_;simp only[go_sem,Zh,hgd0,fld,j0,jI,hj,hkd,Yq];refine vc2 hT ?_;cases hft:UC f d.text;simp only[hs1,hft,Ja,Jb,if_true,if_false,ne_eq,not_true_eq_false,Jf,not_false_eq_true,Jc]at hy;subst hy;simp only[go_sem,hft,opc,Za];simp only[hs1,hft,Ja,Jb,if_true,if_false,ne_eq,not_true_eq_false,Jf,not_false_eq_true,Jc]at hy;rw[if_neg (by simp)]at hy;subst hy;simp only[go_sem,hft,hs1,hkd,opc,opv,Yq]
end Go.Proofs.YtepchngegclagaaGreat
