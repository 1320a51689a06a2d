/- Lemmas of the proof. -/
import Derived.Test.YtepchngegclagaaGreatPlH
import Derived.Test.YtepchngegclagaaGreatXAa
import Derived.Test.YtepchngegclagaaGreatXAi
import Derived.Test.YtepchngegclagaaGreatXAo
import Derived.Test.YtepchngegclagaaGreatXBd
import Derived.Test.YtepchngegclagaaGreatXBr
import Derived.Test.YtepchngegclagaaGreatXEy
open Inhabited renaming default→Jd
open Bool renaming true→Ht,false→Hf
open Go.Proofs.Tryz
open Go Go.PL
open Bool renaming true_eq_false→Ja,false_eq_true→Jb,or_false→Jy,or_self→Jz,or_true→JA,true_or→JB
open Decidable renaming byContradiction→Jw
open Int renaming natCast_nonneg→Jc,mul_le_mul_of_nonneg_right→Jf
open List renaming map_append→Jg,pairwise_iff_getElem→Jk,drop_length→Jl,append_nil→Jm,length_filter_le→Jn,take_append_drop→Jo,map_cons→Jr,take_length→Jt,mem_append→Jv
open Nat renaming zero_le→Je
open Option renaming isSome_some→Jh,isSome_none→Ji,getD_some→Jj,getD_none→Ju
open PV renaming ids→Jp,sl→Jq,idsL→Js,givableL→JC,int→JD
namespace Go.Proofs.YtepchngegclagaaGreat
set_option maxHeartbeats 64000000
set_option maxRecDepth 20000
set_option linter.unusedVariables false
set_option linter.unusedSimpArgs false
open Go.PL
def opE (o:Opn) (b:Bool):List PV:= [.int .i64 o.id.r,.int .i64 o.id.n,.int .i64 o.sch.r,.int .i64 o.sch.n,.int .i64 o.time,.str o.cart,.int .i64 o.kind,.str o.item,.int .i64 o.at'.sc,.str o.at'.gr,.str o.at'.nm,.int .i64 o.delta,.bool o.has,.str o.text,if b=Ht then .sl .no (o.drops.map tg)else .sl .nil []]
theorem ZJ (o:Opn) (b:Bool):∀p∈opE o b,p.ids= []:=by cases b<;>simp[opE,Jp]
theorem Zg5 (g:List Eg) (x:Mkr):Js (Xa g x)= []:=by simp[Xa,Js,Jp,tr,Zh,Zr]
theorem Wt (g:List Eg) (x:Mkr):∀p∈ [mkr g x,.ptr 1000 0],∀i∈p.ids,i= .b 1000:=by
 intro p hp i hi;simp only[List.mem_cons,List.not_mem_nil,or_false]at hp;rcases hp with rfl|rfl;simp only[mkr,Jp,Zg5]at hi;cases hi;simpa[Jp]using hi
def Sw (x:Mkr) (o:Opn):Opn:= { o with kind:=4,at':=x.d.at',item:=if(x.d.at'.sc==1)=Ht then x.d.item else o.item }
def X7 (g:List Eg) (x:Mkr) (o:Opn):(Opn×Bool)×Int:=
 if(ZP x).2≠0 then((o,Hf),(ZP x).2)
 else if(x.d.kind==3)=Ht then(if(decide (1048576<x.d.n)||decide (x.d.n < -1048576))=Ht then((Sw x o,Hf),3)else(({ Sw x o with kind:=3,delta:=x.d.n },Hf),0))
 else if(x.d.kind==6)=Ht then(({ Sw x o with drops:=Z2 x.al (Sy g x) },Ht),if(Z2 x.al (Sy g x)).isEmpty=Ht then 12 else 0)
 else if UC (ZP x).1 x.d.text=Hf then((Sw x o,Hf),5)
 else if(x.d.kind==4)=Ht then(({ Sw x o with has:=Ht,text:=x.d.text,drops:=Z2 x.al λq=>(US g x q).2 },Ht),0)else(({ Sw x o with has:=Ht,text:=x.d.text },Hf),0)
theorem ZfM {l:List Fd} {r:Rf} {n:Nat} (h:∀f∈l,f.cases'.length<=n):(Zv l r).1.cases'.length<=n:=by
 unfold Zv;split;exact Je _;by_cases hi:(idx (atF r) l).toNat<l.length;exact h _ (ZF hi);rw[List.getD_eq_getElem?_getD,List.getElem?_eq_none (by omega)];exact Je _
theorem Zcx (cs:List PV):(∀m,JC m [.rptr cs])/\(∀m,PV.giveL m [.rptr cs]= [.rptr cs])/\Js [.rptr cs]= []:=⟨λm=>⟨trivial,trivial⟩,λm=>rfl,rfl⟩
theorem ZiG (g:List Eg) (x:Mkr) (o:Opn) (hm:OkM g) (hr:RightM g) (hl:x.al.length<=100000) (ho:∀q∈x.al,OkOp q) (hF:x.F.length<=100000) (hc:∀f∈x.F,f.cases'.length<=1000000):
  Eff prog 89 [mkr g x,.ptr 1000 0] (Zfi (opE o Hf)) (.int .i64 (X7 g x o).2) (Zfi (opE (X7 g x o).1.1 (X7 g x o).1.2)):=by
 have hf:=Zij g x (by rw[Zc];omega) hF hc;have hD1:=Sa g x 141 [.rptr (Xa g x)] (Sy g x) hl (λq hq=>ZeB g x q hm hr (ho q hq)) (Zcx _).1 (Zcx _).2.1 (Zcx _).2.2;have hD2:=Sa g x 143 [.rptr (Xa g x)] (λq=>(US g x q).2) hl (λq hq=>ZeC g x q hm hr (ho q hq)) (Zcx _).1 (Zcx _).2.1 (Zcx _).2.2;have hff:(ZP x).1.cases'.length<=maxLen:=by
  unfold ZP;rw[Zc];have hfi:(Zv x.F x.d.at').1.cases'.length<=1000000:=ZfM hc;repeat' split
  all_goals first|omega|exact Je _|(simp only;omega)
 have hT:=Zbe (ZP x).1 x.d.text hff;unfold X7;generalize ZP x=y at *;obtain⟨yf,yc⟩:=y;by_cases h0:yc=0
 ·subst h0;simp only[ne_eq,not_true_eq_false,if_false];generalize Z2 x.al (Sy g x)=D1 at *;generalize (Z2 x.al λq=>(US g x q).2)=D2 at *;have hz:((D1.length:Int)==0)=D1.isEmpty:=by cases D1<;>simp;omega
  cases hs:(x.d.at'.sc==1)<;>simp only[Sw,hs,if_true,if_false,Jb]
  all_goals
   cases k3:(x.d.kind==3)
   ·cases k6:(x.d.kind==6)
    ·cases kf:UC yf x.d.text<;>rw[kf]at hT<;>simp only[if_true,if_false,Jb,Ja]
     ·refine Eff.wb0 [] func89 (by decide) rfl ntmps89 results89 (by simp) (ZJ _ _) (ZJ _ _) (Wt g x) rfl λph pq=> ?_
      simp only[go_sem,mkr,Xa,tr,Zh,Zr,opE];refine Zl hf ?_ ?_ ?_;iterate 2 simp only[go_sem,mkr,Xa,tr,Zh,Zr]
      simp only[go_sem,Uu,fld,mkr,Xa,tr,Zh,Zr,hs,k3,k6];refine vc2 hT ?_;simp only[go_sem,Uu,fld,mkr,Xa,tr,Zh,Zr,hs,k3,k6,tgs];exact Wk (ZJ _ _) rfl (.clean rfl) rfl rfl rfl
     ·cases k4:(x.d.kind==4)<;>simp only[if_true,if_false,Jb]
      ·refine Eff.wb0 [] func89 (by decide) rfl ntmps89 results89 (by simp) (ZJ _ _) (ZJ _ _) (Wt g x) rfl λph pq=> ?_
       simp only[go_sem,mkr,Xa,tr,Zh,Zr,opE];refine Zl hf ?_ ?_ ?_;iterate 2 simp only[go_sem,mkr,Xa,tr,Zh,Zr]
       simp only[go_sem,Uu,fld,mkr,Xa,tr,Zh,Zr,hs,k3,k6,k4];refine vc2 hT ?_;simp only[go_sem,Uu,fld,mkr,Xa,tr,Zh,Zr,hs,k3,k6,k4,tgs];exact Wk (ZJ _ _) rfl (.clean rfl) rfl rfl rfl
      ·refine Eff.wb0 [] func89 (by decide) rfl ntmps89 results89 (by simp) (ZJ _ _) (ZJ _ _) (Wt g x) rfl λph pq=> ?_
       simp only[go_sem,mkr,Xa,tr,Zh,Zr,opE];refine Zl hf ?_ ?_ ?_;iterate 2 simp only[go_sem,mkr,Xa,tr,Zh,Zr]
       simp only[go_sem,Uu,fld,mkr,Xa,tr,Zh,Zr,hs,k3,k6,k4];refine vc2 hT ?_;simp only[go_sem,Uu,fld,mkr,Xa,tr,Zh,Zr,hs,k3,k6,k4,tgs];refine Zl hD2 ?_ ?_ ?_;iterate 2 simp only[go_sem,mkr,Xa,tr,Zh,Zr]
       simp only[go_sem,Uu,fld,mkr,Xa,tr,Zh,Zr,hs,k3,k6,k4,tgs];exact Wk (ZJ _ _) rfl (.clean rfl) rfl rfl rfl
    ·cases ke:D1.isEmpty<;>rw[ke]at hz<;>simp only[if_true,if_false,Jb]
     ·refine Eff.wb0 [] func89 (by decide) rfl ntmps89 results89 (by simp) (ZJ _ _) (ZJ _ _) (Wt g x) rfl λph pq=> ?_
      simp only[go_sem,mkr,Xa,tr,Zh,Zr,opE];refine Zl hf ?_ ?_ ?_;iterate 2 simp only[go_sem,mkr,Xa,tr,Zh,Zr]
      simp only[go_sem,Uu,fld,mkr,Xa,tr,Zh,Zr,hs,k3,k6,hz];refine Zl hD1 ?_ ?_ ?_;iterate 2 simp only[go_sem,mkr,Xa,tr,Zh,Zr]
      simp only[go_sem,Uu,fld,mkr,Xa,tr,Zh,Zr,hs,k3,k6,hz,tgs];exact Wk (ZJ _ _) rfl (.clean rfl) rfl rfl rfl
     ·refine Eff.wb0 [] func89 (by decide) rfl ntmps89 results89 (by simp) (ZJ _ _) (ZJ _ _) (Wt g x) rfl λph pq=> ?_
      simp only[go_sem,mkr,Xa,tr,Zh,Zr,opE];refine Zl hf ?_ ?_ ?_;iterate 2 simp only[go_sem,mkr,Xa,tr,Zh,Zr]
      simp only[go_sem,Uu,fld,mkr,Xa,tr,Zh,Zr,hs,k3,k6,hz];refine Zl hD1 ?_ ?_ ?_;iterate 2 simp only[go_sem,mkr,Xa,tr,Zh,Zr]
      simp only[go_sem,Uu,fld,mkr,Xa,tr,Zh,Zr,hs,k3,k6,hz,tgs];exact Wk (ZJ _ _) rfl (.clean rfl) rfl rfl rfl
   ·cases v1:decide (1048576<x.d.n)<;>cases v2:decide (x.d.n < -1048576)<;>simp only[Jz,JA,Jy,JB,if_true,if_false,Jb]
    all_goals
     refine Eff.wb0 [] func89 (by decide) rfl ntmps89 results89 (by simp) (ZJ _ _) (ZJ _ _) (Wt g x) rfl λph pq=> ?_
     simp only[go_sem,mkr,Xa,tr,Zh,Zr,opE];refine Zl hf ?_ ?_ ?_;iterate 2 simp only[go_sem,mkr,Xa,tr,Zh,Zr]
     simp only[go_sem,Uu,fld,mkr,Xa,tr,Zh,Zr,hs,k3,v1,v2];exact Wk (ZJ _ _) rfl (.clean rfl) rfl rfl rfl
 simp only[ne_eq,h0,not_false_eq_true,if_true];have h0':(yc !=0)=true:=by simpa using h0
 refine Eff.wb0 [] func89 (by decide) rfl ntmps89 results89 (by simp) (ZJ _ _) (ZJ _ _) (Wt g x) rfl λph pq=> ?_
 simp only[go_sem,mkr,Xa,tr,Zh,Zr,opE];refine Zl hf ?_ ?_ ?_;iterate 2 simp only[go_sem,mkr,Xa,tr,Zh,Zr]
 simp only[go_sem,Uu,fld,h0'];exact Wk (ZJ _ _) rfl (.clean rfl) rfl rfl rfl
open Go.PL
def YN (g:List Eg) (x:Mkr) (o:Opn):(Opn×Bool)×Int:=
 if(x.d.kind==1)=Ht then(if x.al.any (YT x.d.item)=Ht then((o,Hf),7)else(({ o with kind:=1,item:=x.d.item },Hf),0))
 else if(x.d.kind==2)=Ht then(if x.al.any (YT x.d.item)=Hf then((o,Hf),12)else(({ o with kind:=2,item:=x.d.item,drops:=Z2 x.al λq=>q.item==x.d.item },Ht),0))
 else if(x.d.kind==7)=Ht then(({ o with kind:=5,drops:=Z2 x.al λq=>q.item != [] },Ht),if(Z2 x.al λq=>q.item != []).isEmpty=Ht then 12 else 0)
 else X7 g x o
theorem ZoM:(∀m,JC m [])/\(∀m,PV.giveL m []= [])/\Js []= []:=⟨λm=>trivial,λm=>rfl,rfl⟩
theorem Zkt (g:List Eg) (x:Mkr):(mkr g x).ids= []:=by rw[mkr,Jp,Zg5]
theorem ZmI (g:List Eg) (x:Mkr) (o:Opn) (hm:OkM g) (hr:RightM g) (hl:x.al.length<=100000) (ho:∀q∈x.al,OkOp q) (hF:x.F.length<=100000) (hc:∀f∈x.F,f.cases'.length<=1000000):
  Eff prog 38 [mkr g x,.ptr 1000 0] (Zfi (opE o Hf)) (.int .i64 (YN g x o).2) (Zfi (opE (YN g x o).1.1 (YN g x o).1.2)):=by
 have hH:=Zg4 g x (by rw[Zc];omega);have hD1:=Sa g x 87 [.rptr (Xa g x)] (λq=>q.item==x.d.item) hl (λq hq=>Zir g x q) (Zcx _).1 (Zcx _).2.1 (Zcx _).2.2;have hD2:=Sa g x 88 [] (λq=>q.item != []) hl (λq hq=>Zis q) ZoM.1 ZoM.2.1 ZoM.2.2;have hP:=ZiG g x o hm hr hl ho hF hc;unfold YN;generalize (Z2 x.al λq=>q.item==x.d.item)=D1 at *;generalize (Z2 x.al λq=>q.item != [])=D2 at *;generalize x.al.any (YT x.d.item)=hs at *;generalize X7 g x o=pm at *;have hz:((D2.length:Int)==0)=D2.isEmpty:=by cases D2<;>simp;omega
 cases k1:(x.d.kind==1);simp only[Jb,if_false];cases k2:(x.d.kind==2);simp only[Jb,if_false];cases k7:(x.d.kind==7);simp only[Jb,if_false];refine Eff.wb0 [] func38 (by decide) rfl ntmps38 results38 (by simp) (ZJ _ _) (ZJ _ _) (Wt g x) rfl λph pq=> ?_
 simp only[go_sem,mkr,Xa,tr,Zh,Zr,opE,k1,k2,k7];refine ZhC 1000 hP rfl (ZJ _ _) (ZJ _ _) rfl rfl (by rw[Jr,V3 _ (Zkt g x)];simp only[go_sem,mkr,Xa,tr,Zh,Zr,PV.ren,id]) ?_;simp only[go_sem];exact Wk (ZJ _ _) rfl (.clean rfl) rfl rfl rfl;cases ke:D2.isEmpty<;>rw[ke]at hz<;>simp only[if_true,if_false,Jb]
 ·refine Eff.wb0 [] func38 (by decide) rfl ntmps38 results38 (by simp) (ZJ _ _) (ZJ _ _) (Wt g x) rfl λph pq=> ?_
  simp only[go_sem,mkr,Xa,tr,Zh,Zr,opE,k1,k2,k7,hz];refine Zl hD2 ?_ ?_ ?_;iterate 2 simp only[go_sem,mkr,Xa,tr,Zh,Zr]
  simp only[go_sem,mkr,Xa,tr,Zh,Zr,k1,k2,k7,hz,tgs];exact Wk (ZJ _ _) rfl (.clean rfl) rfl rfl rfl
 ·refine Eff.wb0 [] func38 (by decide) rfl ntmps38 results38 (by simp) (ZJ _ _) (ZJ _ _) (Wt g x) rfl λph pq=> ?_
  simp only[go_sem,mkr,Xa,tr,Zh,Zr,opE,k1,k2,k7,hz];refine Zl hD2 ?_ ?_ ?_;iterate 2 simp only[go_sem,mkr,Xa,tr,Zh,Zr]
  simp only[go_sem,mkr,Xa,tr,Zh,Zr,k1,k2,k7,hz,tgs];exact Wk (ZJ _ _) rfl (.clean rfl) rfl rfl rfl
 cases hs<;>simp only[if_true,if_false,Jb,Ja]
 ·refine Eff.wb0 [] func38 (by decide) rfl ntmps38 results38 (by simp) (ZJ _ _) (ZJ _ _) (Wt g x) rfl λph pq=> ?_
  simp only[go_sem,mkr,Xa,tr,Zh,Zr,opE,k1,k2];refine Zl hH ?_ ?_ ?_;iterate 2 simp only[go_sem,mkr,Xa,tr,Zh,Zr]
  simp only[go_sem,mkr,Xa,tr,Zh,Zr,k1,k2,tgs];exact Wk (ZJ _ _) rfl (.clean rfl) rfl rfl rfl
 ·refine Eff.wb0 [] func38 (by decide) rfl ntmps38 results38 (by simp) (ZJ _ _) (ZJ _ _) (Wt g x) rfl λph pq=> ?_
  simp only[go_sem,mkr,Xa,tr,Zh,Zr,opE,k1,k2];refine Zl hH ?_ ?_ ?_;iterate 2 simp only[go_sem,mkr,Xa,tr,Zh,Zr]
  simp only[go_sem,mkr,Xa,tr,Zh,Zr,k1,k2,tgs];refine Zl hD1 ?_ ?_ ?_;iterate 2 simp only[go_sem,mkr,Xa,tr,Zh,Zr]
  simp only[go_sem,mkr,Xa,tr,Zh,Zr,k1,k2,tgs];exact Wk (ZJ _ _) rfl (.clean rfl) rfl rfl rfl
 cases hs<;>simp only[if_true,if_false,Jb]
 ·refine Eff.wb0 [] func38 (by decide) rfl ntmps38 results38 (by simp) (ZJ _ _) (ZJ _ _) (Wt g x) rfl λph pq=> ?_
  simp only[go_sem,mkr,Xa,tr,Zh,Zr,opE,k1];refine Zl hH ?_ ?_ ?_;iterate 2 simp only[go_sem,mkr,Xa,tr,Zh,Zr]
  simp only[go_sem,mkr,Xa,tr,Zh,Zr,k1,tgs];exact Wk (ZJ _ _) rfl (.clean rfl) rfl rfl rfl
 refine Eff.wb0 [] func38 (by decide) rfl ntmps38 results38 (by simp) (ZJ _ _) (ZJ _ _) (Wt g x) rfl λph pq=> ?_
 simp only[go_sem,mkr,Xa,tr,Zh,Zr,opE,k1];refine Zl hH ?_ ?_ ?_;iterate 2 simp only[go_sem,mkr,Xa,tr,Zh,Zr]
 simp only[go_sem,mkr,Xa,tr,Zh,Zr,k1,tgs];exact Wk (ZJ _ _) rfl (.clean rfl) rfl rfl rfl
open Go.PL
def alC (g:List Eg) (m:List Opn) (cart:Str):List Opn:=(VY g (Yh m)).filter λo=>o.cart==cart
def Ym (g:List Eg) (m:List Opn) (own:Tg) (d:De):Mkr:=⟨own,(Yk (Zd g) own).1,alC g m d.cart,d⟩
def mk0 (m:List Opn) (me:Int) (own:Tg) (d:De):Opn:=⟨⟨me,((Yn m (me-1).toNat).length:Int)+1⟩,own,clk (Yh m)+1,d.cart,0,[],⟨0,[],[]⟩,0,Hf,[],[]⟩
def DI (me:Int) (d:De):Bool:=decide (me<1)||(decide (6<me)||(decide (d.kind<1)||decide (7<d.kind)))
def YJ (g:List Eg) (m:List Opn) (me:Int) (own:Tg) (d:De):Opn×Int:=
 if DI me d=Ht then(Jd,2)
 else if(Yk (Zd g) own).2≠0 then(Jd,(Yk (Zd g) own).2)
 else if ZU d.cart=Hf then(Jd,5)
 else if((d.kind==1||d.kind==2)&& !ZU d.item)=Ht then(Jd,5)
 else if 400<=(m.length:Int)then(Jd,9)
 else if 1099511627776<=clk (Yh m)then(Jd,3)
 else if(YN g (Ym g m own d) (mk0 m me own d)).2≠0 then(Jd,(YN g (Ym g m own d) (mk0 m me own d)).2)
 else if 60<((YN g (Ym g m own d) (mk0 m me own d)).1.1.drops.length:Int)then(Jd,14)else((YN g (Ym g m own d) (mk0 m me own d)).1.1,0)
theorem Zl0 (g:List Eg) (m:List Opn) (me:Int) (own:Tg) (d:De) (h:DI me d=Ht):Pp 12 [tr (Zd g),.rptr (m6 m),.int .i64 me,tg own,ded d] (opc (Jd,2)):=by
 unfold DI at h;cases v1:decide (me<1)<;>cases v2:decide (6<me)<;>cases v3:decide (d.kind<1)<;>cases v4:decide (7<d.kind)<;>rw[v1,v2,v3,v4]at h<;>first|(cases h;done)|skip
 all_goals
  refine ZB func12 rfl ntmps12 results12 (Xp _) ?_;simp only[go_sem,tr,tg,ded,Yq,v1,v2,v3,v4,opc,Za]
theorem Zjg (p:PV) (me:Int) (own:Tg) (d:De) (hp:∀m,p.givable m):Pp 12 [.nilp,p,.int .i64 me,tg own,ded d] (opc (Jd,1)):=by
 refine ZB func12 rfl ntmps12 results12 (Xp _) ?_;simp only[go_sem,tg,ded,Yq,opc,Za]
theorem Zjh (g:List Eg) (me:Int) (own:Tg) (d:De):Pp 12 [tr (Zd g),.nilp,.int .i64 me,tg own,ded d] (opc (Jd,1)):=by
 refine ZB func12 rfl ntmps12 results12 (Xp _) ?_;simp only[go_sem,tr,tg,ded,Yq,opc,Za]
def opZ:List PV:= [.int .i64 0,.int .i64 0,.int .i64 0,.int .i64 0,.int .i64 0,.str [],.int .i64 0,.str [],.int .i64 0,.str [],.str [],.int .i64 0,.bool Hf,.str [],.sl .nil []]
def Zn7 (g:List Eg) (own:Tg) (F:List Fd) (l:List Opn) (d:De):List PV:= [tr (Zd g),.int .i64 own.r,.int .i64 own.n,Zh F,.sl (.row 116) (l.map opv),
 .int .i64 d.kind,.str d.cart,.str d.item,.int .i64 d.at'.sc,.str d.at'.gr,.str d.at'.nm,.int .i64 d.n,.str d.text,.int .i64 d.tag.r,.int .i64 d.tag.n,
 .int .i64 d.ln.kind,.int .i64 d.ln.at'.sc,.str d.ln.at'.gr,.str d.ln.at'.nm,.str d.ln.nm,.str d.ln.ot,.int .i64 d.ln.fac,.int .i64 d.ln.fd.at'.sc,.str d.ln.fd.at'.gr,.str d.ln.fd.at'.nm,.int .i64 d.ln.fd.kind,.str d.ln.fd.df,.sl .no (d.ln.fd.cases'.map .str),.int .i64 d.ln.fd.worth,.sl .no (d.ln.fo.map pr),.sl .no (d.ln.ba.map pr)]
theorem Vs (d:De):Js (Yq d)= []:=rfl
theorem Zkb (g:List Eg) (own:Tg) (F:List Fd) (l:List Opn) (d:De):Js (Zn7 g own F l d)= [.r 116]:=rfl
theorem Zks (g:List Eg) (own:Tg) (F:List Fd) (l:List Opn) (x:Opn) (d:De):Zn7 g own F (l++ [x]) d=(Zn7 g own F l d).set 4 (.sl (.row 116) (l.map opv++ [opv x])):=by
 simp only[Zn7,Jg,Jr,List.map_nil,List.set]
theorem XC (l:List Opn):0<=clk l:=by
 unfold clk
 suffices h:∀(a:Int),0<=a->0<=l.foldl (λa o=>max a o.time) a from h 0 (Int.le_refl _)
 induction l with
 |nil=>exact λa h=>h
 |cons o l ih=>exact λa h=>ih _ (Int.le_trans h (Int.le_max_left _ _))
theorem Zj5 (g:List Eg) (x:Mkr) (o:Opn):(YN g x o).1.2=Hf->(YN g x o).1.1.drops=o.drops:=by
 unfold YN X7 Sw;repeat' split
 all_goals simp
theorem Zme (l:List Opn) (c:Str) {k:Nat} (h:k<l.length):(l.take (k+1)).filter (λo=>o.cart==c)=(l.take k).filter (λo=>o.cart==c)++(if((l.getD k Jd).cart==c)=Ht then [l.getD k Jd]else []):=by
 rw[Yx (d:=Jd) h,List.filter_append];congr 1;generalize l.getD k Jd=x;cases hr:x.cart==c;rw[List.filter_cons_of_neg (by simp[hr]),if_neg (by simp)];rfl;rw[List.filter_cons_of_pos (by simpa using hr),if_pos rfl];rfl
theorem Zji (g:List Eg) (m:List Opn) (me:Int) (own:Tg) (d:De) (hm:OkM g) (hr:RightM g) (hk:PoolOk m) (ho:∀o∈m,OkOp o):Pp 12 [tr (Zd g),.rptr (m6 m),.int .i64 me,tg own,ded d] (opc (YJ g m me own d)):=by
 by_cases hbad:DI me d=Ht;rw[YJ,if_pos hbad];exact Zl0 g m me own d hbad;have hb:1<=me/\me<=6/\1<=d.kind/\d.kind<=7:=by simp[DI]at hbad;omega
 have v1:decide (me<1)=false:=by simp;omega
 have v2:decide (6<me)=false:=by simp;omega
 have v3:decide (d.kind<1)=false:=by simp;omega
 have v4:decide (7<d.kind)=false:=by simp;omega
 have hS:=WH g own hm;have hN1:=Xs d.cart;have hN2:=Xs d.item;have hL:=ZdF m hk;have hC:=Zfn m hk;have hH:=G3 m;have hv:=YC m;have hO:=Zjl m hk ho;have hop:∀o∈Yh m,OkOp o:=λo h=>ho o ((YV hk).1 h)
 have hkl:=hk.l;have hol:=Vu hk;have hA:=ZhI g (Yh m) hm (by omega) hop hk.nodup;have hrow:=Z0 m (show(me-1).toNat<6 by omega);have hrl:=XG m (me-1).toNat;have hR:GK (Y2 m)=true:=Zav λj hj=>by rw[hv]at hj;rw[Z0 m hj];have:=XG m j;omega
 have hG:(Yk (Zd g) own).2=0->_:=λh0=>ZmI g (Ym g m own d) (mk0 m me own d) hm hr (by
  show(alC g m d.cart).length<=_;have h1:=Jn (λo:Opn=>o.cart==d.cart) (VY g (Yh m));have h2:=W0 g (Yh m);unfold alC;omega) (λq hq=>hop q (W4 (List.mem_filter.1 hq).1)) (by have:=(SE hm h0).n;show(Yk (Zd g) own).1.length<=_;omega) (SE hm h0).c
 generalize hy:YJ g m me own d=y;unfold YJ at hy;rw[if_neg hbad]at hy;have hll:=W0 g (Yh m);unfold Ym alC mk0 at hy hG;generalize VY g (Yh m)=A at *;generalize Yh m=OP at *;generalize Yk (Zd g) own=sy at *;obtain⟨S,c⟩:=sy;simp only at hy hG;refine ZB func12 rfl ntmps12 results12 (Xp _) ?_;simp only[go_sem,tr,tg,ded,Yq,v1,v2,v3,v4];refine vc5 hS ?_;simp only[go_sem,ZC,Zh];refine Zm (λh=> ?_) (λh=> ?_);rw[if_pos (by simpa using h)]at hy;subst hy;simp only[go_sem,opc,Za];have hc0:c=0:=by simpa using h
 subst hc0;rw[if_neg (by simp)]at hy;have hG:=hG rfl;simp only[go_sem];refine vc1 hN1 ?_;simp only[go_sem];refine Zm (λh=> ?_) (λh=> ?_);rw[if_pos (by simpa using h)]at hy;subst hy;simp only[go_sem,opc,Za];rw[if_neg (by simpa using h)]at hy;cases k1:(d.kind==1)<;>cases k2:(d.kind==2)<;>cases hn2:ZU d.item<;>rw[hn2]at hN2<;>simp only[k1,k2,hn2,Jz,JA,JB,Jy,Bool.not_false,Bool.not_true,Bool.and_true,Bool.and_false,Bool.false_and,Bool.true_and,if_true,if_false,Jb]at hy
 all_goals simp only[go_sem,k1,k2]
 all_goals try refine vc1 hN2 ?_
 all_goals try simp only[go_sem,k1,k2]
 all_goals try(subst hy;simp only[go_sem,opc,Za];done)
 all_goals
  refine vc1 hL ?_;simp only[go_sem];refine Zm (λh=> ?_) (λh=> ?_)
  ·rw[if_pos (by simpa using h)]at hy;subst hy;simp only[go_sem,opc,Za]
  have h400:¬400<=(m.length:Int):=by simpa using h
  rw[if_neg h400]at hy;simp only[go_sem];refine vc1 hC ?_;simp only[go_sem];refine Zm (λh=> ?_) (λh=> ?_)
  ·rw[if_pos (by simpa using h)]at hy;subst hy;simp only[go_sem,opc,Za]
  have hck:¬1099511627776<=clk OP:=by simpa using h
  rw[if_neg hck]at hy;have hN:=Zh6 (Y2 m) me hv hR hb.1 hb.2.1 (by rw[hrow];omega);rw[hrow]at hN;simp only[go_sem];refine vc1 hH ?_;simp only[go_sem,Gc];refine vc9 hN ?_;simp only[go_sem,tgc,tg];refine vc1 hO ?_;simp only[go_sem,Zr];refine vc7 hA ?_;simp only[go_sem,Zr];refine Wj (Gh.nilRowB (b:=15) (j:=4) (d:=116) (sz:=15) (e:=48) rfl rfl (by simp) rfl rfl) ?_;refine ZA (ι:= { k:Nat // k<=A.length }) 139 (λx=> [(1,.rptr (m6 m)),(8,.ptr 8 0),(9,.ptr 9 0),(10,.ptr 10 0),(14,.ptr 14 0),(15,.ptr 15 0),(101,Zr A),(102,.int .i64 (A.length:Int)),(103,.int .i64 (x.1:Int))]) (λx=> [(8,[.int .i64 own.r,.int .i64 own.n],Hf),(9,Yq d,Hf),(10,opZ,Hf),(14,[.int .i64 me,.int .i64 (((Yn m (me-1).toNat).length:Int)+1)],Hf),(15,Zn7 g own S ((A.take x.1).filter λo=>o.cart==d.cart) d,Hf)]) (λx=> [(116,.live ((A.take x.1).filter λo=>o.cart==d.cart).length 15 48)]) (λx=>A.length-x.1) ⟨0,Je _⟩
   ⟨rfl,(Fc9 rfl rfl rfl rfl rfl rfl rfl rfl rfl),Fc5 ⟨rfl,rfl⟩ ⟨rfl,rfl⟩ ⟨rfl,rfl⟩ ⟨rfl,rfl⟩ ⟨rfl,rfl⟩,(fcs rfl fnl)⟩ (λx=>⟨(Fc9 rfl rfl rfl rfl rfl rfl rfl rfl rfl),Fc5 rfl (by rw[Vs];rfl) rfl rfl (by rw[Zkb];rfl)⟩) (λx=> ?_)
  obtain⟨k,hka0⟩:=x;simp only
  by_cases hlt:(k:Int)<(A.length:Int)
  ·have hka:k<A.length:=by omega
   have i1:=Jc k
   have w1:=wk9 (k:=k) (by omega)
   have hgd:=ZZ hka;have hs:=Zme A d.cart hka;have hfl:=Jn (λo:Opn=>o.cart==d.cart) (A.take k);have htl:(A.take k).length<=k:=List.length_take_le _ _;generalize A.getD k Jd=x at *;generalize hW:(A.take k).filter (λo=>o.cart==d.cart)=W at *;have hrm:=YX (show W.length+1<=1000000 by omega) (show 176<=1000 by omega);have hml:(W.map opv).length=W.length:=List.length_map _;have hsz:=Xr W;have hsx:Sized 15 [opv x]:=Xr [x];have hax:Vo [opv x]:=Vq [x];simp only[opv]at hsx hax;cases hcq:(x.cart==d.cart)
   ·rw[hcq,if_neg (by simp),Jm]at hs;simp only[go_sem,hlt,Zr,hgd,opv,i1,Yq,hcq,w1];exact⟨⟨k+1,by omega⟩,nx9 (by omega),⟨rfl,(Fc9 rfl rfl rfl rfl rfl rfl rfl rfl rfl),by simp only;rw[hs];exact Fc5 ⟨rfl,rfl⟩ ⟨rfl,rfl⟩ ⟨rfl,rfl⟩ ⟨rfl,rfl⟩ ⟨rfl,rfl⟩,by simp only;rw[hs];exact(fcs rfl fnl)⟩⟩
   ·rw[hcq,if_pos rfl]at hs;simp only[go_sem,hlt,Zr,hgd,opv,i1,Yq,Zn7,hcq,hml,hrm,hsz,hsx,hax,w1];exact⟨⟨k+1,by omega⟩,nx9 (by omega),⟨rfl,(Fc9 rfl rfl rfl rfl rfl rfl rfl rfl rfl),by simp only;rw[hs];exact Fc5 ⟨rfl,rfl⟩ ⟨rfl,rfl⟩ ⟨rfl,rfl⟩ ⟨rfl,rfl⟩ ⟨by show _=some (Zn7 g own S (W++ [x]) d);rw[Zks];rfl,rfl⟩,by simp only;rw[hs,List.length_append];exact(fcs rfl fnl)⟩⟩
  ·obtain rfl:k=A.length:=by omega
   have hc0:=XC OP;have w2:IntKind.i64.wrap (clk OP+1)=clk OP+1:=w64 (by omega);have hnd:=Zj5 g ⟨own,S,A.filter λo=>o.cart==d.cart,d⟩ ⟨⟨me,((Yn m (me-1).toNat).length:Int)+1⟩,own,clk OP+1,d.cart,0,[],⟨0,[],[]⟩,0,Hf,[],[]⟩;generalize YN g ⟨own,S,A.filter λo=>o.cart==d.cart,d⟩ ⟨⟨me,((Yn m (me-1).toNat).length:Int)+1⟩,own,clk OP+1,d.cart,0,[],⟨0,[],[]⟩,0,Hf,[],[]⟩=gm at *;obtain⟨⟨go,gb⟩,gc⟩:=gm;simp only at hy hG hnd;simp only[go_sem,hlt,Jt];refine vDq ?_;simp only[go_sem,Yq,Zn7,opZ];refine vc1 hC ?_;simp only[go_sem,w2];refine ZhC 18 hG rfl (ZJ _ _) (ZJ _ _) rfl rfl (by rw[Jr,V3 _ (Zkt _ _)];simp only[go_sem,mkr,Xa,tr,Zh,Zr,PV.ren,id]) ?_;simp only[go_sem];refine Zm (λh=> ?_) (λh=> ?_)
   ·rw[if_pos (by simpa using h)]at hy;subst hy;simp only[go_sem,opc,Za,opZ]
   rw[if_neg (by simpa using h)]at hy;cases gb
   ·have hd0:=hnd rfl;simp only[go_sem,opE,opZ];rw[hd0,if_neg (by simp)]at hy;subst hy;simp only[go_sem,opc,opv,hd0]
   ·simp only[go_sem,opE,opZ];refine Zm (λh=> ?_) (λh=> ?_)
    ·rw[if_pos (by simpa using h)]at hy;subst hy;simp only[go_sem,opc,Za,opZ]
    ·rw[if_neg (by simpa using h)]at hy;subst hy;simp only[go_sem,opc,opv]
open Go.PL
structure WyS (m:List Eg) (id0:Tg) where
 k:Nat
 id:Tg
 way:List Eg
 hk:k<=m.length+1
 hl:way.length=k
 h:ZlX m (m.length+1-k) id way=Zdz m id0
def ZlG (x:Option (List Eg)):PV:= .tup [egs (x.getD []),.bool x.isSome]
theorem ZlH (x:Option (List Eg)):(ZlG x).dids= []:=by simp only[ZlG,PV.dids,PV.didsL,ZcD,Jm]
theorem ZdL (m:List Eg) (id:Tg) (hm:OkM m):Pp 144 [egs m,tg id] (ZlG (Zdz m id)):=by
 have hn:=hm.n;refine ZB func144 rfl ntmps144 results144 (ZlH _) ?_;simp only[go_sem,egs,tg];refine Zoq (ι:=WyS m id) 37 (λx=> [(0,egs m),(3,.ptr 3 0),(6,egs x.way),(7,.int .i64 (x.k:Int))]) (λx=> [(3,[.int .i64 x.id.r,.int .i64 x.id.n],Hf)]) (λx=> []) (λx=>m.length+1-x.k) ⟨0,id,[],Je _,rfl,rfl⟩
  ⟨rfl,Fc4 (.same rfl) (.same rfl) (.row 9 []) (.same rfl),fcs ⟨rfl,rfl⟩ fnl,fnl⟩ (λx=>⟨Fc4 rfl rfl rfl rfl,(fcs rfl fnl)⟩) (λx=> ?_)
 obtain⟨k,id',way,hk,hl,h⟩:=x;simp only;by_cases hlt:(k:Int)<=(m.length:Int);have hk2:m.length+1-k=(m.length-k)+1:=by omega
 rw[hk2,ZlX]at h;by_cases hd:id'=Jd;have hb:decide (id'=Jd)=true:=by simpa using hd
 rw[if_pos hd]at h;simp only[go_sem,egs,hlt,tgd,hb];simp only[go_sem,<-h,ZlG,egs,Jj,Jh];have hb:decide (id'=Jd)=false:=by simpa using hd
 rw[if_neg hd]at h;have hA:=Gf m id' (by rw[Zc];omega);rcases Gz (m:=m) (id:=id')with ⟨h1,h2⟩|⟨i,hi,h1,h2⟩;rw[h1]at hA;rw[h2]at h;simp only[go_sem,egs,hlt,tgd,hb];refine vc3 hA ?_;simp only[go_sem,<-h,ZlG,egs,Ju,Ji];rw[h1]at hA;rw[h2]at h;simp only at h;have n1:¬(i:Int)<0:=by omega
 have i0:=Jc i
 have i1:(i:Int)<(m.length:Int):=by omega
 have w1:=wk9 (k:=k) (by omega)
 have hrm:=YX (show 1+way.length<=1000000 by omega) (show 264<=1000 by omega);have hsz:Sized 20 (way.map eg):=Zde way;have hat:=ZgR way;have hs1:Sized 20 [eg (m.getD i Jd)]:=Zde [m.getD i Jd];simp only[go_sem,egs,hlt,tgd,hb];refine vc3 hA ?_;simp only[go_sem,n1,i0,i1,XK hi,eg,w1,hat,hrm,hsz];exact⟨⟨k+1,(m.getD i Jd).par,m.getD i Jd::way,by omega,by simp[hl],by rw[show m.length+1-(k+1)=m.length-k by omega];exact h⟩,by show m.length+1-(k+1)<m.length+1-k;omega,
  ⟨rfl,Fc4 (.same rfl) (.same rfl) (.row 31 _) (.same rfl),fcs ⟨rfl,rfl⟩ fnl,fnl⟩⟩
 have hk2:m.length+1-k=0:=by omega
 rw[hk2,ZlX]at h;simp only[go_sem,egs,hlt,<-h,ZlG,Ju,Ji]
def stc (x:Int×List Fd):PV:= .tup [.int .i64 x.1,Zh x.2]
theorem GT (x:Int×List Fd):(stc x).dids= []:=by simp only[stc,PV.dids,PV.didsL,VR,Jm]
theorem Zfv (m:List Eg) (id:Tg) (hm:OkM m):Pp 90 [egs m,tg id] (stc (ZaF m id)):=by
 have hn:=hm.n;have hA:=Gf m id (by rw[Zc];omega);have hW:=ZdL m id hm;unfold ZaF;by_cases h0:id≠Jd/\Xo m id=none;rw[if_pos h0];have hb:decide (id=Jd)=false:=by simpa using h0.1
 rcases Gz (m:=m) (id:=id)with ⟨h1,h2⟩|⟨i,hi,h1,h2⟩;rw[h1]at hA;refine ZB func90 rfl ntmps90 results90 (GT _) ?_;simp only[go_sem,egs,tg,tgd,hb];refine vc3 hA ?_;simp only[go_sem,stc,Zh];rw[h2]at h0;cases h0.2;rw[if_neg h0];have pre:(decide (id=Jd)=Ht)\/(decide (id=Jd)=Hf/\ ∃i:Nat,idx (λx=>decide (x.id=id)) m=(i:Int)):=by
  by_cases hd:id=Jd;exact .inl (by simpa using hd);right;refine⟨by simpa using hd,?_⟩;rcases Gz (m:=m) (id:=id)with ⟨_,h2⟩|⟨i,hi,h1,h2⟩;exact absurd ⟨hd,h2⟩ h0;exact⟨i,h1⟩
 cases hw:Zdz m id with
 |none=>
  rw[hw]at hW;rcases pre with hb|⟨hb,i,h1⟩;refine ZB func90 rfl ntmps90 results90 (GT _) ?_;simp only[go_sem,egs,tg,tgd,hb];refine vc3 hW ?_;simp only[go_sem,ZlG,Ji,stc,Zh];rw[h1]at hA;have n1:¬(i:Int)<0:=by omega
  refine ZB func90 rfl ntmps90 results90 (GT _) ?_;simp only[go_sem,egs,tg,tgd,hb];refine vc3 hA ?_;simp only[go_sem,n1];refine vc3 hW ?_;simp only[go_sem,ZlG,Ji,stc,Zh]
 |some w=>
  rw[hw]at hW;have hway:=XH.1 hw;have hwl:w.length<=maxLen:=by have:=hway.len;rw[Zc];omega
  simp only;generalize hF:XQ w Tc=F;rcases pre with hb|⟨hb,i,h1⟩;refine ZB func90 rfl ntmps90 results90 (GT _) ?_;simp only[go_sem,egs,tg,tgd,hb];refine vc3 hW ?_;simp only[go_sem,ZlG,Jh,Jj];refine vc1 ZdM ?_;simp only[go_sem,Zh];refine ZA (ι:= { x:Nat×(List Fd) // x.1<=(w).length/\(OkFs x.2/\XQ (w.drop x.1) x.2=F) }) 50 (λx=> [(6,egs w),(8,Zh x.1.2),(9,.int .i64 (x.1.1:Int))]) (λx=> []) (λx=> []) (λx=>(w).length-x.1.1) ⟨(0,Tc),Je _,⟨Zey,hF⟩⟩ ⟨rfl,(Fc3 rfl rfl rfl),fnl,fnl⟩ (λx=>⟨(Fc3 rfl rfl rfl),fnl⟩) (λx=> ?_);obtain⟨⟨k,fs⟩,hk,hI⟩:=x;simp only at hk hI ⊢;obtain⟨okf,hI⟩:=hI;by_cases h:(k:Int)<(w.length:Int)
  (have hka:k<(w).length:=by omega);(have w1:=WD hka (hwl));(have i1:=Jc k)
  have hA:=Fz fs (w.getD k Jd).ln okf (hm.l _ (hway.mem _ (Zf hka)));rw[Y5 hka (d:=Jd),ZbI]at hI;by_cases hz:(Yb fs (w.getD k Jd).ln).2=0
  ·rw[if_pos hz]at hI;simp only[go_sem,egs,h,XK hka,eg,i1];refine vc3 hA ?_;simp only[go_sem,ZC,hz,w1];exact⟨⟨(k+1,(Yb fs (w.getD k Jd).ln).1),by(try simp only);omega,⟨Zf6 okf (hm.l _ (hway.mem _ (Zf hka))),hI⟩⟩,by show(w).length-(k+1)<(w).length-k;omega,⟨rfl,(Fc3 rfl rfl rfl),fnl,fnl⟩⟩
  rw[if_neg hz]at hI;have hz':((Yb fs (w.getD k Jd).ln).2 !=0)=true:=by simpa using hz
  simp only[go_sem,egs,h,XK hka,eg,i1];refine vc3 hA ?_;simp only[go_sem,ZC,hz',<-hI,stc,Zh];obtain rfl:k=w.length:=by omega
  rw[Jl]at hI;have hI':F=some fs:=hI.symm;subst hI';simp only[go_sem,egs,h,stc,Zh];rw[h1]at hA;have n1:¬(i:Int)<0:=by omega
  refine ZB func90 rfl ntmps90 results90 (GT _) ?_;simp only[go_sem,egs,tg,tgd,hb];refine vc3 hA ?_;simp only[go_sem,n1];refine vc3 hW ?_;simp only[go_sem,ZlG,Jh,Jj];refine vc1 ZdM ?_;simp only[go_sem,Zh];refine ZA (ι:= { x:Nat×(List Fd) // x.1<=(w).length/\(OkFs x.2/\XQ (w.drop x.1) x.2=F) }) 50 (λx=> [(6,egs w),(8,Zh x.1.2),(9,.int .i64 (x.1.1:Int))]) (λx=> []) (λx=> []) (λx=>(w).length-x.1.1) ⟨(0,Tc),Je _,⟨Zey,hF⟩⟩ ⟨rfl,(Fc3 rfl rfl rfl),fnl,fnl⟩ (λx=>⟨(Fc3 rfl rfl rfl),fnl⟩) (λx=> ?_);obtain⟨⟨k,fs⟩,hk,hI⟩:=x;simp only at hk hI ⊢;obtain⟨okf,hI⟩:=hI;by_cases h:(k:Int)<(w.length:Int)
  (have hka:k<(w).length:=by omega);(have w1:=WD hka (hwl));(have i1:=Jc k)
  have hA:=Fz fs (w.getD k Jd).ln okf (hm.l _ (hway.mem _ (Zf hka)));rw[Y5 hka (d:=Jd),ZbI]at hI;by_cases hz:(Yb fs (w.getD k Jd).ln).2=0
  ·rw[if_pos hz]at hI;simp only[go_sem,egs,h,XK hka,eg,i1];refine vc3 hA ?_;simp only[go_sem,ZC,hz,w1];exact⟨⟨(k+1,(Yb fs (w.getD k Jd).ln).1),by(try simp only);omega,⟨Zf6 okf (hm.l _ (hway.mem _ (Zf hka))),hI⟩⟩,by show(w).length-(k+1)<(w).length-k;omega,⟨rfl,(Fc3 rfl rfl rfl),fnl,fnl⟩⟩
  rw[if_neg hz]at hI;have hz':((Yb fs (w.getD k Jd).ln).2 !=0)=true:=by simpa using hz
  simp only[go_sem,egs,h,XK hka,eg,i1];refine vc3 hA ?_;simp only[go_sem,ZC,hz',<-hI,stc,Zh];obtain rfl:k=w.length:=by omega
  rw[Jl]at hI;have hI':F=some fs:=hI.symm;subst hI';simp only[go_sem,egs,h,stc,Zh]
theorem YG (m:List Eg) (id:Tg) (hm:OkM m):Pp 39 [egs m,tg id] (ZC (Yk (Zd m) id)):=by
 have hS:=Zfv m id hm;rw[Zk5];generalize ZaF m id=y at *;obtain⟨c,l⟩:=y;simp only;by_cases h3:c=3;subst h3;refine ZB func39 rfl ntmps39 results39 (ZD _) ?_;simp only[go_sem,egs,tg];refine vc3 hS ?_;simp only[go_sem,stc,Zh,ZC,if_true];have e3:(c==3)=false:=by simpa using h3
 by_cases h2:c=2;subst h2;refine ZB func39 rfl ntmps39 results39 (ZD _) ?_;simp only[go_sem,egs,tg];refine vc3 hS ?_;simp only[go_sem,stc,Zh,ZC,not_true_eq_false,if_false];have e2:(c !=2)=true:=by simpa using h2
 refine ZB func39 rfl ntmps39 results39 (ZD _) ?_;simp only[go_sem,egs,tg];refine vc3 hS ?_;simp only[go_sem,stc,Zh,ZC,e3,e2,h3,h2,if_true,if_false]
theorem ZnC {w:List Eg} {s:Nat} (h:s<w.length):(w.drop (w.length-(s+1))).reverse.map (·.id)=(w.drop (w.length-s)).reverse.map (·.id)++ [(w.getD (w.length-1-s) Jd).id]:=by
 have e:w.length-(s+1)=w.length-1-s:=by omega
 rw[e,List.drop_eq_getElem_cons (by omega),List.reverse_cons,Jg,show w.length-1-s+1=w.length-s by omega];rw[getD_lt (by omega)];rfl
theorem Fc (m:List Eg) (id:Tg) (hm:OkM m):Pp 260 [egs m,tg id] (Zce (upM m id)):=by
 have hS:=YG m id hm;unfold upM;by_cases hc:upC m id=0;obtain⟨hw,_,_⟩:=YU hc;simp only[hc,ne_eq,not_true_eq_false,if_false];have hc':(Yk (Zd m) id).2=0:=hc;have hW:=ZdL m id hm;rw[XH.2 hw]at hW;generalize Vm m id=w at *;have hwl:w.length<=40:=by have:=hw.len;have:=hm.n;omega
 have w0:IntKind.i64.wrap ((w.length:Int)-1)=(w.length:Int)-1:=w64 (by omega);refine ZB func260 rfl ntmps260 results260 (GW _) ?_;simp only[go_sem,egs,tg];refine vc3 hS ?_;simp only[go_sem,ZC,hc'];refine vc3 hW ?_;simp only[go_sem,ZlG,Jh,Jj,egs,w0];refine ZR 10 27 42 0 2 25 [] rfl rfl rfl ?_;refine ZA (ι:= { s:Nat // s<=w.length }) 47 (λx=> [(8,egs w),(10,.sl (.row 42) (((w.drop (w.length-x.1)).reverse.map (·.id)).map tg)),(11,.int .i64 ((w.length:Int)-1-(x.1:Int)))]) (λx=> []) (λx=> [(42,.live x.1 2 25)]) (λx=>w.length-x.1) ⟨0,Je _⟩
  ⟨rfl,Fc3 rfl (by show Jq _ _=Jq _ _;simp) (by show JD _ _=JD _ _;simp),fnl,fcs rfl fnl⟩ (λx=>⟨Fc3 rfl (by simp[Jp,ZV]) rfl,fnl⟩) (λx=> ?_)
 obtain⟨s,hs⟩:=x;simp only;have hlen:((w.drop (w.length-s)).reverse.map (·.id)).length=s:=by simp;omega
 have hrm:=YX (show s+1<=1000000 by omega) (show 16<=1000 by omega);by_cases h:s<w.length;have hge:(0:Int)<=(w.length:Int)-1-(s:Int):=by omega
 have hlt:(w.length:Int)-1-(s:Int)<(w.length:Int):=by omega
 have hto:((w.length:Int)-1-(s:Int)).toNat=w.length-1-s:=by omega
 have hki:w.length-1-s<w.length:=by omega
 have w1:IntKind.i64.wrap ((w.length:Int)-1-(s:Int)-1)=(w.length:Int)-1-((s+1:Nat):Int):=by rw[w64 (by omega)];omega
 have e0:(w.length:Int)-1-(s:Int)=((w.length-1-s:Nat):Int):=by omega
 have hst:=ZnC h;rw[e0]at hge hlt w1 ⊢;simp only[go_sem,egs,hge,hlt,XK hki,eg,hlen,hrm,W5,w1];refine⟨⟨s+1,by omega⟩,nx9 (by omega),⟨rfl,fcs rfl (fcs ?_ (fcs rfl fnl)),fnl,fcs rfl fnl⟩⟩;show Jq (.row 42) _=Jq (.row 42) _;rw[hst];simp[tg];obtain rfl:s=w.length:=by omega
 have hge:¬(0:Int)<=(w.length:Int)-1-(w.length:Int):=by omega
 have e:(w.drop (w.length-w.length)).reverse.map (·.id)++ [Jd]=upL w:=by simp[upL]
 simp only[go_sem,hge,W5,hlen,hrm,Zce,tgs,<-e,Jg,Sr];have hc':((Yk (Zd m) id).2 !=0)=true:=by have h:(Yk (Zd m) id).2≠0:=hc;simpa using h
 simp only[ne_eq,hc,not_false_eq_true,if_true];refine ZB func260 rfl ntmps260 results260 (GW _) ?_;simp only[go_sem,egs,tg];refine vc3 hS ?_;simp only[go_sem,ZC,hc',Zce,tgs,upC]
open Go.PL
theorem ZtN (p:List Eg) {k:Nat} (hk:k<p.length):(upL p).getD k Jd=(p.getD (p.length-1-k) Jd).id:=by
 have h:=ZaL p (p.length-1-k) (by omega);rwa[show p.length-(p.length-1-k)-1=k by omega]at h
theorem Zr3 {m:List Eg} (ha:Apart m) {a b:Tg} {p q:List Eg} (hp:Way m a p) (hq:Way m b q) {k:Nat} (hk:k<p.length-lcp p q):(upL p).getD k Jd∉upL q:=by
 have ht:p.length-1-k<p.length:=by omega
 have hin:p.getD (p.length-1-k) Jd∈p.drop (lcp p q):=by
  rw[getD_lt ht,List.mem_drop_iff_getElem];exact⟨p.length-1-k-lcp p q,by omega,by congr 1;omega⟩
 have hpm:=hp.mem _ (Zf (d:=Jd) ht);rw[ZtN p (by omega)];intro hm;unfold upL at hm;rcases Jv.1 hm with hm|hm;obtain⟨e2,he2,hid⟩:=List.mem_map.1 hm;have he2:e2∈q:=List.mem_reverse.1 he2;rw[<-Jo (lcp p q) q]at he2;rcases Jv.1 he2 with h2|h2;rw[<-Zha]at h2;have e:e2=p.getD (p.length-1-k) Jd:=ha.inj (hp.mem _ (List.mem_of_mem_take h2)) hpm hid;have hn:=hp.nodup;rw[<-Jo (lcp p q) p]at hn;exact(List.nodup_append.1 hn).2.2 _ h2 _ hin e;exact Zgp ha hp hq hin h2 hid.symm;exact ha.n _ hpm (by simpa using hm)
theorem Zkr (p q:List Eg):(upL q).getD (q.length-lcp p q) Jd=Tv p q:=by
 have:=Zhx q p;rw[ZcS q p]at this;rw[this,Zkq]
theorem ZpB (p q:List Eg):Tv p q∈upL q:=by
 rw[<-Zkr];exact Zf (by rw[X9];omega)
theorem ZoZ {l:List Tg} (hn:l.Nodup) {k:Nat} (hk:k<l.length):Zn0 l (l.getD k Jd)=(k:Int):=by
 unfold Zn0 idx;have h:l.findIdx? (λx=>decide (x=l.getD k Jd))=some k:=by
  rw[List.findIdx?_eq_some_iff_getElem];refine⟨hk,by rw[getD_lt hk];simp,λj hj=> ?_⟩;rw[getD_lt hk];have:=Jk.1 hn j k (by omega) hk hj;simpa using this
 rw[h]
theorem ZmL {m:List Eg} (ha:Apart m) {b:Tg} {p q:List Eg} (hq:Way m b q):Zn0 (upL q) (Tv p q)=((q.length-lcp p q:Nat):Int):=by
 have h:=ZoZ (Ze3 ha hq.mem hq.nodup) (k:=q.length-lcp p q) (by rw[X9];omega);rwa[Zkr]at h
theorem ZhW (m:List Eg) (a b:Tg) (hm:OkM m):Pp 259 [egs m,tg a,tg b] (tgc (Zpa m a b)):=by
 have hA:=Fc m a hm;have hB:=Fc m b hm;unfold Zpa Wu;unfold upM at hA hB;by_cases ca:upC m a=0;rw[if_neg (λh=>h ca)]at hA;by_cases cb:upC m b=0;rw[if_neg (λh=>h cb)]at hB;simp only[ca,cb,ne_eq,not_true_eq_false,if_false];obtain⟨wa,_,_⟩:=YU ca;obtain⟨wb,_,_⟩:=YU cb;have hpl:(Vm m a).length<=40:=by have:=wa.len;have:=hm.n;omega
 have hql:(Vm m b).length<=40:=by have:=wb.len;have:=hm.n;omega
 generalize Vm m a=p at *;generalize Vm m b=q at *;have lc:=ZbR p q;refine ZB func259 rfl ntmps259 results259 (Zdp _) ?_;simp only[go_sem,egs,tg];refine vc3 hA ?_;simp only[go_sem,Zce];refine vc3 hB ?_;simp only[go_sem,Zce];refine ZA (ι:= { k:Nat // k<=p.length-lcp p q }) 51 (λx=> [(6,.ptr 6 0),(8,tgs (upL p)),(10,tgs (upL q)),(12,.int .i64 (x.1:Int))]) (λx=> [(6,[.int .i64 0,.int .i64 0],Hf)]) (λx=> []) (λx=>p.length-x.1) ⟨0,Je _⟩
  ⟨rfl,(Fc4 rfl rfl rfl rfl),fcs ⟨rfl,rfl⟩ fnl,fnl⟩ (λx=>⟨Fc4 rfl rfl rfl rfl,(fcs rfl fnl)⟩) (λx=> ?_)
 obtain⟨k,hk⟩:=x;simp only;have hkl:k<(upL p).length:=by rw[X9];omega
 have h1:(k:Int)<((upL p).length:Int):=by omega
 have h0:=Jc k
 have hI:=FC (upL q) ((upL p).getD k Jd) (by rw[X9,Zc];omega);by_cases he:k=p.length-lcp p q;have hv:(upL p).getD k Jd=Tv p q:=by rw[he];exact Zhx p q
 rw[hv]at hI;have h2:=ZmK (ZpB p q);simp only[go_sem,tgs,h1,h0,ZO hkl,hv,tg];refine vc3 hI ?_;simp only[go_sem,h2,h0,h1,ZO hkl,hv,tg,tgs,tgc];have hnot:=Zr3 hm.a wa wb (k:=k) (by omega);rw[Zo0 hnot]at hI;have w1:=wk9 (k:=k) (by omega)
 simp only[go_sem,tgs,h1,h0,ZO hkl,tg];refine vc3 hI ?_;simp only[go_sem,w1];exact⟨⟨k+1,by omega⟩,nx9 (by omega),⟨rfl,(Fc4 rfl rfl rfl rfl),fcs ⟨rfl,rfl⟩ fnl,fnl⟩⟩;rw[if_pos cb]at hB;have cb':(upC m b !=0)=true:=by simpa using cb
 simp only[ca,cb,ne_eq,not_true_eq_false,not_false_eq_true,if_true,if_false];refine ZB func259 rfl ntmps259 results259 (Zdp _) ?_;simp only[go_sem,egs,tg];refine vc3 hA ?_;simp only[go_sem,Zce];refine vc3 hB ?_;simp only[go_sem,Zce,cb',tgc,Sr];rw[if_pos ca]at hA;have ca':(upC m a !=0)=true:=by simpa using ca
 simp only[ca,ne_eq,not_false_eq_true,if_true];refine ZB func259 rfl ntmps259 results259 (Zdp _) ?_;simp only[go_sem,egs,tg];refine vc3 hA ?_;simp only[go_sem,Zce,ca',tgc,Sr]
theorem ZnB (p:List Eg) (c:Nat) (hc:c<=p.length):((upL p).take (p.length-c)).map upg=(p.drop c).reverse.map λe=>upg e.id:=by
 rw[ZhA p c hc,List.map_map];rfl
theorem ZhY (m:List Eg) (a b:Tg) (hm:OkM m):Pp 239 [egs m,tg a,tg b] (D7 (Zc3 m a b)):=by
 have hA:=Fc m a hm;have hB:=Fc m b hm;have hM:=ZhW m a b hm;unfold Zc3;unfold Zpa at hM;by_cases hc:Wu m a b=0;obtain⟨ca,cb⟩:=UI.1 hc;unfold upM at hA hB;rw[if_neg (λh=>h ca)]at hA;rw[if_neg (λh=>h cb)]at hB;rw[if_neg (λh=>h hc)]at hM;simp only[hc,ne_eq,not_true_eq_false,if_false];obtain⟨wa,_,_⟩:=YU ca;obtain⟨wb,_,_⟩:=YU cb;have hpl:(Vm m a).length<=40:=by have:=wa.len;have:=hm.n;omega
 have hql:(Vm m b).length<=40:=by have:=wb.len;have:=hm.n;omega
 generalize Vm m a=p at *;generalize Vm m b=q at *;have lc:=ZbR p q;have hI:=FC (upL q) (Tv p q) (by rw[X9,Zc];omega);rw[ZmL hm.a wb]at hI;have hnd:=Ze3 hm.a wa.mem wa.nodup;have w0:IntKind.i64.wrap (((q.length-lcp p q:Nat):Int)-1)=((q.length-lcp p q:Nat):Int)-1:=w64 (by omega);refine ZB func239 rfl ntmps239 results239 (Sg _) ?_;simp only[go_sem,egs,tg];refine vc3 hM ?_;simp only[go_sem,tgc,tg];refine vc3 hA ?_;simp only[go_sem,Zce];refine vc3 hB ?_;simp only[go_sem,Zce];refine ZR 14 39 55 0 3 287 [] rfl rfl rfl ?_;refine ZA (ι:= { k:Nat // k<=p.length-lcp p q }) 73 (λx=> [(8,.ptr 8 0),(10,tgs (upL p)),(12,tgs (upL q)),(14,.sl (.row 55) ((((upL p).take x.1).map upg).map lg)),(15,.int .i64 (x.1:Int))]) (λx=> [(8,[.int .i64 (Tv p q).r,.int .i64 (Tv p q).n],Hf)]) (λx=> [(55,.live x.1 3 287)]) (λx=>p.length-x.1) ⟨0,Je _⟩
  ⟨rfl,(Fc5 rfl rfl rfl rfl rfl),fcs ⟨rfl,rfl⟩ fnl,(fcs rfl fnl)⟩ (λx=>⟨Fc5 rfl rfl rfl (by simp[Jp,ZV]) rfl,(fcs rfl fnl)⟩) (λx=> ?_)
 obtain⟨k,hk⟩:=x;simp only;have hkl:k<(upL p).length:=by rw[X9];omega
 have h1:(k:Int)<((upL p).length:Int):=by omega
 have h0:=Jc k
 have hlen:(((upL p).take k).map upg).length=k:=by simp;omega
 by_cases he:k=p.length-lcp p q;have hv:(upL p).getD k Jd=Tv p q:=by rw[he];exact Zhx p q
 have dd:decide (Tv p q=Tv p q)=true:=by simp
 simp only[go_sem,tgs];refine vDq ?_;simp only[go_sem,h1,h0,ZO hkl,hv,tg,ZL,dd];refine vc3 hI ?_;simp only[go_sem,w0];refine ZR 14 55 71 k 3 287 ((((upL p).take k).map upg).map lg) rfl rfl rfl ?_;refine ZA (ι:= { s:Nat // s<=q.length-lcp p q }) 73 (λx=> [(12,tgs (upL q)),(14,.sl (.row 71) ((((upL p).take k).map upg++((q.drop (lcp p q)).take x.1).map dn).map lg)),(16,.int .i64 (((q.length-lcp p q:Nat):Int)-1-(x.1:Int)))]) (λx=> []) (λx=> [(71,.live (k+x.1) 3 287)]) (λx=>q.length-lcp p q-x.1) ⟨0,Je _⟩
  ⟨rfl,Fc3 rfl (by show Jq _ _=Jq _ _;simp) (by show JD _ _=JD _ _;simp),fnl,(fcs rfl fnl)⟩ (λx=>⟨Fc3 rfl (by simp[Jp,ZV]) rfl,fnl⟩) (λx=> ?_)
 obtain⟨s,hs⟩:=x;simp only;by_cases h:s<q.length-lcp p q;have e0:((q.length-lcp p q:Nat):Int)-1-(s:Int)=((q.length-(lcp p q+s)-1:Nat):Int):=by omega
 have g0:(0:Int)<=((q.length-(lcp p q+s)-1:Nat):Int):=by omega
 have k1:q.length-(lcp p q+s)-1<(upL q).length:=by rw[X9];omega
 have g1:((q.length-(lcp p q+s)-1:Nat):Int)<((upL q).length:Int):=by omega
 have v1:=ZaL q (lcp p q+s) (by omega);have hlen2:(((upL p).take k).map upg++((q.drop (lcp p q)).take s).map dn).length=k+s:=by simp;omega
 have hrm:=YX (show k+s+1<=1000000 by omega) (show 24<=1000 by omega);have hnx:=SA (q:=q) (c:=lcp p q) (s:=s) (by omega);have w1:IntKind.i64.wrap (((q.length-(lcp p q+s)-1:Nat):Int)-1)=((q.length-lcp p q:Nat):Int)-1-((s+1:Nat):Int):=by rw[w64 (by omega)];omega
 rw[e0];simp only[go_sem,tgs,g0,g1,ZO k1,v1,tg,hlen2,hrm,Fo,w1];refine⟨⟨s+1,by omega⟩,by show q.length-lcp p q-(s+1)<q.length-lcp p q-s;omega,⟨rfl,fcs rfl (fcs ?_ (fcs rfl fnl)),fnl,fcs ?_ fnl⟩⟩;show Jq (.row 71) _=Jq (.row 71) _;rw[hnx];simp[lg,dn];rfl;obtain rfl:s=q.length-lcp p q:=by omega
 have g0:¬(0:Int)<=((q.length-lcp p q:Nat):Int)-1-((q.length-lcp p q:Nat):Int):=by omega
 have htk:(q.drop (lcp p q)).take (q.length-lcp p q)=q.drop (lcp p q):=List.take_of_length_le (by simp);have hup:=ZnB p (lcp p q) lc.1;rw[<-he]at hup;simp only[go_sem,g0,htk,hup,D7,lgs,ZcU];have hne:¬(upL p).getD k Jd=Tv p q:=by
  intro e;have hv:(upL p).getD (p.length-lcp p q) Jd=Tv p q:=Zhx p q;have hlt:k<p.length-lcp p q:=by omega
  have hl2:p.length-lcp p q<(upL p).length:=by rw[X9];omega
  have:=Jk.1 hnd k (p.length-lcp p q) hkl hl2 hlt;rw[<-getD_lt (d:=Jd) hkl,<-getD_lt (d:=Jd) hl2,e,hv]at this;exact this rfl
 have dd:decide ((upL p).getD k Jd=Tv p q)=false:=by simpa using hne
 have hrm:=YX (show k+1<=1000000 by omega) (show 24<=1000 by omega);have w1:=wk9 (k:=k) (by omega)
 simp only[go_sem,tgs];refine vDq ?_;simp only[go_sem,h1,h0,ZO hkl,tg,ZL,dd,hlen,hrm,Fo,w1];refine⟨⟨k+1,by omega⟩,nx9 (by omega),⟨rfl,fcs rfl (fcs rfl (fcs rfl (fcs ?_ (fcs rfl fnl)))),fcs ⟨rfl,rfl⟩ fnl,fcs rfl fnl⟩⟩;show Jq (.row 55) _=Jq (.row 55) _;rw[UN hkl,Jg,Jg];rfl;have hc':(Wu m a b !=0)=true:=by simpa using hc
 rw[if_pos hc]at hM;simp only[ne_eq,hc,not_false_eq_true,if_true];refine ZB func239 rfl ntmps239 results239 (Sg _) ?_;simp only[go_sem,egs,tg];refine vc3 hM ?_;simp only[go_sem,tgc,tg,hc',D7,lgs]
open Go.PL
theorem Zjp (m:List Eg) (a b:Tg) (hm:OkM m) (hr:RightM m):Pp 192 [egs m,tg a,tg b] (Zhb (Zb6 m a b)):=by
 have hP:=ZhY m a b hm;have hll:=ZcV m a b hm;unfold Zb6;unfold Zc3 at hP hll;by_cases hc:Wu m a b=0;have hin:=Zkn hc hm.a;simp only[hc,ne_eq,not_true_eq_false,if_false]at hP hll ⊢;generalize ZcU (Vm m a) (Vm m b)=legs at *;have hlm:legs.length<=maxLen:=by rw[Zc];omega
 refine ZB func192 rfl ntmps192 results192 (GE _) ?_;simp only[go_sem,egs,tg];refine vc3 hP ?_;simp only[go_sem,D7,lgs];refine ZR 10 24 43 0 16 33 [] rfl rfl rfl ?_;refine ZA (ι:= { x:Nat // x<=(legs).length }) 45 (λx=> [(0,egs m),(8,lgs legs),(10,.sl (.row 43) ((SC m (legs.take x.1)).map lns)),(11,.int .i64 (x.1:Int))]) (λx=> []) (λx=> [(43,.live (x.1) (16) (33))]) (λx=>(legs).length-x.1) ⟨0,Je _⟩ ⟨rfl,(Fc4 rfl rfl rfl rfl),fnl,(fcs rfl fnl)⟩ (λx=>⟨(Fc4 rfl rfl (by simp[Jp,ZV]) rfl),fnl⟩) (λx=> ?_);obtain⟨k,hk⟩:=x;simp only at hk ⊢;by_cases h:(k:Int)<(legs.length:Int)
 ·(have hka:k<(legs).length:=by omega);(have w1:=WD hka (hlm));(have i1:=Jc k)
  obtain⟨e,he,hfe,_⟩:=hin _ (Zf (d:=Jd) hka);have hL:=ZhU m (legs.getD k Jd) hm hr;have hts:legs.take (k+1)=legs.take k++ [legs.getD k Jd]:=UN hka;have hkl:(SC m (legs.take k)).length=k:=by simp[SC];omega
  have hrm:=YX (show k+1<=1000000 by omega) (show 232<=1000 by omega);simp only[go_sem,h,lgs,Zj4 hka,lg,i1];refine vc3 hL ?_;simp only[go_sem,lnc,lns,Zhr,hkl,hrm,w1];exact⟨⟨k+1,by(try simp only);omega⟩,by show(legs).length-(k+1)<(legs).length-k;omega,⟨rfl,(Fc4 rfl rfl (by(show Jq _ _=Jq _ _;simp[hts,SC,lns])) rfl),fnl,(fcs rfl fnl)⟩⟩
 obtain rfl:k=legs.length:=by omega
 have htk:legs.take legs.length=legs:=Jt;simp only[go_sem,h,lgs,htk,Zhb,SZ];have hc':(Wu m a b !=0)=true:=by simpa using hc
 simp only[ne_eq,hc,not_false_eq_true,if_true]at hP ⊢;refine ZB func192 rfl ntmps192 results192 (GE _) ?_;simp only[go_sem,egs,tg];refine vc3 hP ?_;simp only[go_sem,D7,lgs,hc',Zhb,SZ]
open Go.PL
theorem ZmR {d f:Int} (h1:2<=f) (h2:f<=1000) (hd:WJ d=Ht):IntKind.i64.wrap (d*f)=d*f/\(WJ (d*f)=Ht->ZcQ 0 d f=(d*f,0))/\(WJ (d*f)=Hf->(ZcQ 0 d f).2≠0):=by
 obtain⟨d1,d2⟩:=Gw.1 hd;have b1:d*f<=4503599627370496*f:=Jf d2 (by omega);have b2:(-4503599627370496)*f<=d*f:=Jf d1 (by omega);have hw:IntKind.i64.wrap (d*f)=d*f:=ZgM (by omega);have hw2:IntKind.i64.wrap (0+IntKind.i64.wrap (f*d))=d*f:=by rw[Int.mul_comm f d,hw,Int.zero_add,hw]
 obtain⟨m1,m2,m3,m4⟩:=Zac (w:=f) (by omega);refine⟨hw,λhf=> ?_,λhf=> ?_⟩;obtain⟨p1,p2⟩:=Gw.1 hf;unfold ZcQ;rw[if_neg (λh=>h ⟨h1,h2⟩),hw2,if_neg,if_pos hf];rintro (h|h);have:d*f<=(-(VZ f+1))*f:=Jf (by omega) (by omega);rw[Int.neg_mul]at this;omega;have:(VZ f+1)*f<=d*f:=Jf (by omega) (by omega);omega;unfold ZcQ;rw[if_neg (λh=>h ⟨h1,h2⟩),hw2];split;simp;rw[if_neg (by rw[hf];simp)];simp
theorem Zk2 {x:Ln} (h:ZG x=Ht) (hk:x.kind=6\/x.kind=9):2<=x.fac/\x.fac<=1000:=by
 have h23:¬(x.kind=2\/x.kind=3):=by omega
 have h8:¬x.kind=8:=by omega
 unfold ZG at h;rw[if_neg h23,if_neg h8,if_pos hk]at h;simp only[Bool.and_eq_true,decide_eq_true_eq]at h;omega
theorem ZhX (x:Ln) (o:Opn) (hx:OkLn x):Pp 241 [lns x,opv o] (opb (Ut x o)):=by
 have hR:=Uc x hx;unfold Ut;cases hlr:ZG x
 ·rw[hlr]at hR;refine ZB func241 rfl ntmps241 results241 (Zo _) ?_;simp only[go_sem,lns,opv];refine vc3 hR ?_;simp only[go_sem,if_true,opb,Za];try rfl
 have hk:=(Wc hlr).1;have hfac:=Zk2 hlr;rw[hlr]at hR;simp only[Ja,if_false];by_cases hp:o.kind≠3/\o.kind≠4;rw[if_pos hp];have e1:(o.kind !=3)=true:=by simpa using hp.1
 have e2:(o.kind !=4)=true:=by simpa using hp.2
 refine ZB func241 rfl ntmps241 results241 (Zo _) ?_;simp only[go_sem,lns,opv];refine vc3 hR ?_;simp only[go_sem,e1,e2,opb,opv];rw[if_neg hp];have hG:=Zbk x;have hC:=FB x;have hI:=ZhR (ZE x) o.at' (by have:=F4 x;rw[Zc];omega);have pl:(o.kind !=3)=Hf/\(o.kind !=4)=Ht/\o.kind=3\/(o.kind !=3)=Ht/\(o.kind !=4)=Hf/\o.kind=4:=by
  by_cases k3:o.kind=3;left;simp[k3];right;have k4:o.kind=4:=Jw λh=>hp ⟨k3,h⟩
  simp[k4]
 by_cases hi:Xw (ZE x) o.at'<0
 ·rw[if_pos hi];rcases pl with ⟨e1,e2,_⟩|⟨e1,e2,_⟩
  all_goals
   refine ZB func241 rfl ntmps241 results241 (Zo _) ?_;simp only[go_sem,lns,opv];refine vc3 hR ?_;simp only[go_sem,e1,e2,lns];refine vc3 hG ?_;simp only[go_sem,refs,ref];refine vc3 hI ?_;simp only[go_sem,hi,opb,opv]
 rw[if_neg hi];have hV:=G5 x.fo o.text (by have:=hx.f;rw[Zc];omega);obtain⟨kind,at',nm,ot,fac,fd,fo,ba⟩:=x;simp only at hk hV hfac;rcases hk with rfl|rfl|rfl|rfl|rfl|rfl|rfl|rfl|rfl|rfl
 ·skip
  have hne:(Ze ⟨1,at',nm,ot,fac,fd,fo,ba⟩).length≠0:=by unfold Ze;simp
  have hc0:0<(Ze ⟨1,at',nm,ot,fac,fd,fo,ba⟩).length:=by omega
  have hc1:(0:Int)<((Ze ⟨1,at',nm,ot,fac,fd,fo,ba⟩).length:Int):=by omega
  have hc2:(((Ze ⟨1,at',nm,ot,fac,fd,fo,ba⟩).map ref).getD 0 .any)=ref ((Ze ⟨1,at',nm,ot,fac,fd,fo,ba⟩).getD 0 Jd):=Z9 hc0;have hb:ZQ ⟨1,at',nm,ot,fac,fd,fo,ba⟩ o=(o,Ht):=by simp[ZQ]
  rw[hb];simp only[Ja,if_false];generalize Ze ⟨1,at',nm,ot,fac,fd,fo,ba⟩=comes at *;rcases pl with ⟨e1,e2,_⟩|⟨e1,e2,_⟩
  all_goals
   refine ZB func241 rfl ntmps241 results241 (Zo _) ?_;simp only[go_sem,lns,opv];refine vc3 hR ?_;simp only[go_sem,e1,e2,lns];refine vc3 hG ?_;simp only[go_sem,refs,ref];refine vc3 hI ?_;simp only[go_sem,hi,lns];refine vc3 hC ?_;simp only[go_sem,refs,hc1,hc2,ref,opb,opv,ZS]
 exfalso;have:ZE ⟨2,at',nm,ot,fac,fd,fo,ba⟩= []:=by simp[ZE]
 rw[this]at hi;exact hi (by show(-1:Int)<0;omega)
 ·have hb:ZQ ⟨3,at',nm,ot,fac,fd,fo,ba⟩ o=(o,Hf):=by simp[ZQ]
  rw[hb];simp only[if_true];rcases pl with ⟨e1,e2,_⟩|⟨e1,e2,_⟩
  all_goals
   refine ZB func241 rfl ntmps241 results241 (Zo _) ?_;simp only[go_sem,lns,opv];refine vc3 hR ?_;simp only[go_sem,e1,e2,lns];refine vc3 hG ?_;simp only[go_sem,refs,ref];refine vc3 hI ?_;simp only[go_sem,hi,lns,opb,Za];try rfl
 ·skip
  have hne:(Ze ⟨4,at',nm,ot,fac,fd,fo,ba⟩).length≠0:=by unfold Ze;simp
  have hc0:0<(Ze ⟨4,at',nm,ot,fac,fd,fo,ba⟩).length:=by omega
  have hc1:(0:Int)<((Ze ⟨4,at',nm,ot,fac,fd,fo,ba⟩).length:Int):=by omega
  have hc2:(((Ze ⟨4,at',nm,ot,fac,fd,fo,ba⟩).map ref).getD 0 .any)=ref ((Ze ⟨4,at',nm,ot,fac,fd,fo,ba⟩).getD 0 Jd):=Z9 hc0;have hb:ZQ ⟨4,at',nm,ot,fac,fd,fo,ba⟩ o=(o,Ht):=by simp[ZQ]
  rw[hb];simp only[Ja,if_false];generalize Ze ⟨4,at',nm,ot,fac,fd,fo,ba⟩=comes at *;rcases pl with ⟨e1,e2,_⟩|⟨e1,e2,_⟩
  all_goals
   refine ZB func241 rfl ntmps241 results241 (Zo _) ?_;simp only[go_sem,lns,opv];refine vc3 hR ?_;simp only[go_sem,e1,e2,lns];refine vc3 hG ?_;simp only[go_sem,refs,ref];refine vc3 hI ?_;simp only[go_sem,hi,lns];refine vc3 hC ?_;simp only[go_sem,refs,hc1,hc2,ref,opb,opv,ZS]
 ·skip
  have hne:(Ze ⟨5,at',nm,ot,fac,fd,fo,ba⟩).length≠0:=by unfold Ze;simp
  have hc0:0<(Ze ⟨5,at',nm,ot,fac,fd,fo,ba⟩).length:=by omega
  have hc1:(0:Int)<((Ze ⟨5,at',nm,ot,fac,fd,fo,ba⟩).length:Int):=by omega
  have hc2:(((Ze ⟨5,at',nm,ot,fac,fd,fo,ba⟩).map ref).getD 0 .any)=ref ((Ze ⟨5,at',nm,ot,fac,fd,fo,ba⟩).getD 0 Jd):=Z9 hc0;have hb:ZQ ⟨5,at',nm,ot,fac,fd,fo,ba⟩ o=(o,Ht):=by simp[ZQ]
  rw[hb];simp only[Ja,if_false];generalize Ze ⟨5,at',nm,ot,fac,fd,fo,ba⟩=comes at *;rcases pl with ⟨e1,e2,_⟩|⟨e1,e2,_⟩
  all_goals
   refine ZB func241 rfl ntmps241 results241 (Zo _) ?_;simp only[go_sem,lns,opv];refine vc3 hR ?_;simp only[go_sem,e1,e2,lns];refine vc3 hG ?_;simp only[go_sem,refs,ref];refine vc3 hI ?_;simp only[go_sem,hi,lns];refine vc3 hC ?_;simp only[go_sem,refs,hc1,hc2,ref,opb,opv,ZS]
 skip
 have hne:(Ze ⟨6,at',nm,ot,fac,fd,fo,ba⟩).length≠0:=by unfold Ze;simp
 have hc0:0<(Ze ⟨6,at',nm,ot,fac,fd,fo,ba⟩).length:=by omega
 have hc1:(0:Int)<((Ze ⟨6,at',nm,ot,fac,fd,fo,ba⟩).length:Int):=by omega
 have hc2:(((Ze ⟨6,at',nm,ot,fac,fd,fo,ba⟩).map ref).getD 0 .any)=ref ((Ze ⟨6,at',nm,ot,fac,fd,fo,ba⟩).getD 0 Jd):=Z9 hc0;have hb:ZQ ⟨6,at',nm,ot,fac,fd,fo,ba⟩ o=(o,decide (o.kind=3)):=by simp[ZQ]
 rw[hb];have hg:ZE ⟨6,at',nm,ot,fac,fd,fo,ba⟩= [at']:=by simp[ZE]
 have hi1:(Xw (ZE ⟨6,at',nm,ot,fac,fd,fo,ba⟩) o.at'==1)=false:=by
  rcases DS (ZE ⟨6,at',nm,ot,fac,fd,fo,ba⟩) o.at' with h|⟨g,hg1,hg2⟩;omega;rw[hg]at hg1;simp at hg1;rw[hg2,hg1];rfl
 generalize ZE ⟨6,at',nm,ot,fac,fd,fo,ba⟩=goes at *;generalize Ze ⟨6,at',nm,ot,fac,fd,fo,ba⟩=comes at *;rcases pl with ⟨e1,e2,k3⟩|⟨e1,e2,k4⟩;rw[decide_eq_true k3];simp only[Ja,if_false];refine ZB func241 rfl ntmps241 results241 (Zo _) ?_;simp only[go_sem,lns,opv];refine vc3 hR ?_;simp only[go_sem,e1,e2,lns];refine vc3 hG ?_;simp only[go_sem,refs,ref];refine vc3 hI ?_;simp only[go_sem,hi,lns];refine vc3 hC ?_;simp only[go_sem,refs,hc1,hc2,ref,hi1,e1,opb,opv,ZS]
 ·rw[decide_eq_false (by omega)];simp only[if_true];refine ZB func241 rfl ntmps241 results241 (Zo _) ?_;simp only[go_sem,lns,opv];refine vc3 hR ?_;simp only[go_sem,e1,e2,lns];refine vc3 hG ?_;simp only[go_sem,refs,ref];refine vc3 hI ?_;simp only[go_sem,hi,lns];refine vc3 hC ?_;simp only[go_sem,refs,hc1,hc2,ref,hi1,e1,opb,Za];try rfl
 skip
 have hne:(Ze ⟨7,at',nm,ot,fac,fd,fo,ba⟩).length≠0:=by unfold Ze;simp
 have hc0:0<(Ze ⟨7,at',nm,ot,fac,fd,fo,ba⟩).length:=by omega
 have hc1:(0:Int)<((Ze ⟨7,at',nm,ot,fac,fd,fo,ba⟩).length:Int):=by omega
 have hc2:(((Ze ⟨7,at',nm,ot,fac,fd,fo,ba⟩).map ref).getD 0 .any)=ref ((Ze ⟨7,at',nm,ot,fac,fd,fo,ba⟩).getD 0 Jd):=Z9 hc0;have hb:ZQ ⟨7,at',nm,ot,fac,fd,fo,ba⟩ o=(o,decide (o.kind=4)):=by simp[ZQ]
 rw[hb];generalize Ze ⟨7,at',nm,ot,fac,fd,fo,ba⟩=comes at *;rcases pl with ⟨e1,e2,k3⟩|⟨e1,e2,k4⟩
 ·rw[decide_eq_false (by omega)];simp only[if_true];refine ZB func241 rfl ntmps241 results241 (Zo _) ?_;simp only[go_sem,lns,opv];refine vc3 hR ?_;simp only[go_sem,e1,e2,lns];refine vc3 hG ?_;simp only[go_sem,refs,ref];refine vc3 hI ?_;simp only[go_sem,hi,lns];refine vc3 hC ?_;simp only[go_sem,refs,hc1,hc2,ref,e2,opb,Za];try rfl
 rw[decide_eq_true k4];simp only[Ja,if_false];refine ZB func241 rfl ntmps241 results241 (Zo _) ?_;simp only[go_sem,lns,opv];refine vc3 hR ?_;simp only[go_sem,e1,e2,lns];refine vc3 hG ?_;simp only[go_sem,refs,ref];refine vc3 hI ?_;simp only[go_sem,hi,lns];refine vc3 hC ?_;simp only[go_sem,refs,hc1,hc2,ref,e2,opb,opv,ZS]
 skip
 have hne:(Ze ⟨8,at',nm,ot,fac,fd,fo,ba⟩).length≠0:=by unfold Ze;simp
 have hc0:0<(Ze ⟨8,at',nm,ot,fac,fd,fo,ba⟩).length:=by omega
 have hc1:(0:Int)<((Ze ⟨8,at',nm,ot,fac,fd,fo,ba⟩).length:Int):=by omega
 have hc2:(((Ze ⟨8,at',nm,ot,fac,fd,fo,ba⟩).map ref).getD 0 .any)=ref ((Ze ⟨8,at',nm,ot,fac,fd,fo,ba⟩).getD 0 Jd):=Z9 hc0;have hb:ZQ ⟨8,at',nm,ot,fac,fd,fo,ba⟩ o=(Xb o (SR o fo).1,(SR o fo).2):=by simp[ZQ]
 rw[hb];generalize Ze ⟨8,at',nm,ot,fac,fd,fo,ba⟩=comes at *;rcases pl with ⟨e1,e2,k3⟩|⟨e1,e2,k4⟩
 ·have hcv:SR o fo=([],Hf):=by unfold SR;rw[if_pos (by omega)]
  rw[hcv];simp only[if_true];refine ZB func241 rfl ntmps241 results241 (Zo _) ?_;simp only[go_sem,lns,opv];refine vc3 hR ?_;simp only[go_sem,e1,e2,lns];refine vc3 hG ?_;simp only[go_sem,refs,ref];refine vc3 hI ?_;simp only[go_sem,hi,lns];refine vc3 hC ?_;simp only[go_sem,refs,hc1,hc2,ref,e2,opb,Za];try rfl
 obtain⟨id,sch,time,cart,okind,item,oat,delta,has,text,drops⟩:=o;simp only at k4;subst k4;simp only at *;cases has;have hcv:SR ⟨id,sch,time,cart,4,item,oat,delta,Hf,text,drops⟩ fo=(text,Ht):=by simp[SR]
 rw[hcv];simp only[Ja,if_false];refine ZB func241 rfl ntmps241 results241 (Zo _) ?_;simp only[go_sem,lns,opv];refine vc3 hR ?_;simp only[go_sem,e1,e2,lns];refine vc3 hG ?_;simp only[go_sem,refs,ref];refine vc3 hI ?_;simp only[go_sem,hi,lns];refine vc3 hC ?_;simp only[go_sem,refs,hc1,hc2,ref,e2,opb,opv,ZS,Xb];have hcv:SR ⟨id,sch,time,cart,4,item,oat,delta,Ht,text,drops⟩ fo=Wf fo text:=by simp[SR]
 rw[hcv];clear hcv;generalize Wf fo text=y at *;obtain⟨s,b⟩:=y;cases b
 ·simp only[if_true];refine ZB func241 rfl ntmps241 results241 (Zo _) ?_;simp only[go_sem,lns,opv];refine vc3 hR ?_;simp only[go_sem,e1,e2,lns];refine vc3 hG ?_;simp only[go_sem,refs,ref];refine vc3 hI ?_;simp only[go_sem,hi,lns];refine vc3 hC ?_;simp only[go_sem,refs,hc1,hc2,ref,e2,prs];refine vc3 hV ?_;simp only[go_sem,ZaT,opb,Za];try rfl
 simp only[Ja,if_false];refine ZB func241 rfl ntmps241 results241 (Zo _) ?_;simp only[go_sem,lns,opv];refine vc3 hR ?_;simp only[go_sem,e1,e2,lns];refine vc3 hG ?_;simp only[go_sem,refs,ref];refine vc3 hI ?_;simp only[go_sem,hi,lns];refine vc3 hC ?_;simp only[go_sem,refs,hc1,hc2,ref,e2,prs];refine vc3 hV ?_;simp only[go_sem,ZaT,opb,opv,ZS,Xb]
 skip
 have hne:(Ze ⟨9,at',nm,ot,fac,fd,fo,ba⟩).length≠0:=by unfold Ze;simp
 have hc0:0<(Ze ⟨9,at',nm,ot,fac,fd,fo,ba⟩).length:=by omega
 have hc1:(0:Int)<((Ze ⟨9,at',nm,ot,fac,fd,fo,ba⟩).length:Int):=by omega
 have hc2:(((Ze ⟨9,at',nm,ot,fac,fd,fo,ba⟩).map ref).getD 0 .any)=ref ((Ze ⟨9,at',nm,ot,fac,fd,fo,ba⟩).getD 0 Jd):=Z9 hc0;have hb:ZQ ⟨9,at',nm,ot,fac,fd,fo,ba⟩ o=(Yg o (XT o (Xw (ZE ⟨9,at',nm,ot,fac,fd,fo,ba⟩) o.at') fac).1,(XT o (Xw (ZE ⟨9,at',nm,ot,fac,fd,fo,ba⟩) o.at') fac).2):=by simp[ZQ]
 rw[hb];have hg:(ZE ⟨9,at',nm,ot,fac,fd,fo,ba⟩).length=2:=by simp[ZE]
 have hc3:=DS (ZE ⟨9,at',nm,ot,fac,fd,fo,ba⟩) o.at';have hF:=ZgZ o.delta;have hF2:=ZgZ (o.delta*fac);obtain⟨f1,f2⟩:=hfac (.inr rfl);generalize Ze ⟨9,at',nm,ot,fac,fd,fo,ba⟩=comes at *;generalize ZE ⟨9,at',nm,ot,fac,fd,fo,ba⟩=goes at *;generalize Xw goes o.at'=pi at *;have hpi:pi=0\/pi=1:=by
  rcases hc3 with h|⟨g,h1,h2⟩;omega;omega
 have hd0:Yg o o.delta=o:=by cases o;rfl
 rcases hpi with rfl|rfl;rcases pl with ⟨e1,e2,k3⟩|⟨e1,e2,k4⟩;have hmg:XT o 0 fac=(o.delta,Ht):=by simp[XT,k3]
 rw[hmg];simp only[Ja,if_false,hd0];refine ZB func241 rfl ntmps241 results241 (Zo _) ?_;simp only[go_sem,lns,opv];refine vc3 hR ?_;simp only[go_sem,e1,e2,lns];refine vc3 hG ?_;simp only[go_sem,refs,ref];refine vc3 hI ?_;simp only[go_sem,lns];refine vc3 hC ?_;simp only[go_sem,refs,hc1,hc2,ref,e1,opb,opv,ZS]
 ·have hmg:XT o 0 fac=(0,Hf):=by simp[XT,k4]
  rw[hmg];simp only[if_true];refine ZB func241 rfl ntmps241 results241 (Zo _) ?_;simp only[go_sem,lns,opv];refine vc3 hR ?_;simp only[go_sem,e1,e2,lns];refine vc3 hG ?_;simp only[go_sem,refs,ref];refine vc3 hI ?_;simp only[go_sem,lns];refine vc3 hC ?_;simp only[go_sem,refs,hc1,hc2,ref,e1,opb,Za];try rfl
 cases hd:WJ o.delta
 ·rw[hd]at hF;have hmg:(XT o 1 fac).2=false:=by
   unfold XT;rw[hd];split;rfl;simp
  rw[if_pos hmg];rcases pl with ⟨e1,e2,k3⟩|⟨e1,e2,k4⟩
  all_goals
   refine ZB func241 rfl ntmps241 results241 (Zo _) ?_;simp only[go_sem,lns,opv];refine vc3 hR ?_;simp only[go_sem,e1,e2,lns];refine vc3 hG ?_;simp only[go_sem,refs,ref];refine vc3 hI ?_;simp only[go_sem,lns];refine vc3 hC ?_;simp only[go_sem,refs,hc1,hc2,ref];refine vc1 hF ?_;simp only[go_sem,opb,Za];try rfl
 rw[hd]at hF;obtain⟨j1,j2,j3⟩:=ZmR f1 f2 hd;cases hd2:WJ (o.delta*fac)
 ·have j3:=j3 hd2;rw[hd2]at hF2;have hmg:(XT o 1 fac).2=false:=by
   unfold XT;rw[hd];split;rfl;simpa using j3
  rw[if_pos hmg];rcases pl with ⟨e1,e2,k3⟩|⟨e1,e2,k4⟩
  all_goals
   refine ZB func241 rfl ntmps241 results241 (Zo _) ?_;simp only[go_sem,lns,opv];refine vc3 hR ?_;simp only[go_sem,e1,e2,lns];refine vc3 hG ?_;simp only[go_sem,refs,ref];refine vc3 hI ?_;simp only[go_sem,lns];refine vc3 hC ?_;simp only[go_sem,refs,hc1,hc2,ref];refine vc1 hF ?_;simp only[go_sem,j1];refine vc1 hF2 ?_;simp only[go_sem,opb,Za];try rfl
 rw[hd2]at hF2;have j2:=j2 hd2;rcases pl with ⟨e1,e2,k3⟩|⟨e1,e2,k4⟩;have hmg:XT o 1 fac=(o.delta*fac,Ht):=by simp[XT,k3,hd,j2]
 rw[hmg];simp only[Ja,if_false];refine ZB func241 rfl ntmps241 results241 (Zo _) ?_;simp only[go_sem,lns,opv];refine vc3 hR ?_;simp only[go_sem,e1,e2,lns];refine vc3 hG ?_;simp only[go_sem,refs,ref];refine vc3 hI ?_;simp only[go_sem,lns];refine vc3 hC ?_;simp only[go_sem,refs,hc1,hc2,ref];refine vc1 hF ?_;simp only[go_sem,j1];refine vc1 hF2 ?_;simp only[go_sem,j1,e1,opb,opv,ZS,Yg]
 ·have hmg:(XT o 1 fac).2=false:=by simp[XT,k4]
  rw[if_pos hmg];refine ZB func241 rfl ntmps241 results241 (Zo _) ?_;simp only[go_sem,lns,opv];refine vc3 hR ?_;simp only[go_sem,e1,e2,lns];refine vc3 hG ?_;simp only[go_sem,refs,ref];refine vc3 hI ?_;simp only[go_sem,lns];refine vc3 hC ?_;simp only[go_sem,refs,hc1,hc2,ref];refine vc1 hF ?_;simp only[go_sem,j1];refine vc1 hF2 ?_;simp only[go_sem,j1,e1,opb,Za];try rfl
 skip
 have hne:(Ze ⟨10,at',nm,ot,fac,fd,fo,ba⟩).length≠0:=by unfold Ze;simp
 have hc0:0<(Ze ⟨10,at',nm,ot,fac,fd,fo,ba⟩).length:=by omega
 have hc1:(0:Int)<((Ze ⟨10,at',nm,ot,fac,fd,fo,ba⟩).length:Int):=by omega
 have hc2:(((Ze ⟨10,at',nm,ot,fac,fd,fo,ba⟩).map ref).getD 0 .any)=ref ((Ze ⟨10,at',nm,ot,fac,fd,fo,ba⟩).getD 0 Jd):=Z9 hc0;have hb:ZQ ⟨10,at',nm,ot,fac,fd,fo,ba⟩ o=(o,decide (o.kind=4)):=by simp[ZQ]
 rw[hb];generalize Ze ⟨10,at',nm,ot,fac,fd,fo,ba⟩=comes at *;rcases pl with ⟨e1,e2,k3⟩|⟨e1,e2,k4⟩
 ·rw[decide_eq_false (by omega)];simp only[if_true];refine ZB func241 rfl ntmps241 results241 (Zo _) ?_;simp only[go_sem,lns,opv];refine vc3 hR ?_;simp only[go_sem,e1,e2,lns];refine vc3 hG ?_;simp only[go_sem,refs,ref];refine vc3 hI ?_;simp only[go_sem,hi,lns];refine vc3 hC ?_;simp only[go_sem,refs,hc1,hc2,ref,e2,opb,Za];try rfl
 rw[decide_eq_true k4];simp only[Ja,if_false];refine ZB func241 rfl ntmps241 results241 (Zo _) ?_;simp only[go_sem,lns,opv];refine vc3 hR ?_;simp only[go_sem,e1,e2,lns];refine vc3 hG ?_;simp only[go_sem,refs,ref];refine vc3 hI ?_;simp only[go_sem,hi,lns];refine vc3 hC ?_;simp only[go_sem,refs,hc1,hc2,ref,e2,opb,opv,ZS]
theorem Zfp (rws:List Ln) (o:Opn) (hl:rws.length<=1000) (hx:∀x∈rws,OkLn x):Pp 193 [SZ rws,opv o] (opb (XO rws o)):=by
 have hlm:rws.length<=maxLen:=by rw[Zc];omega
 refine ZB func193 rfl ntmps193 results193 (Zo _) ?_;simp only[go_sem,SZ,opv];refine ZA (ι:= { x:Nat×(Opn) // x.1<=(rws).length/\(XO (rws.drop x.1) x.2=XO rws o) }) 29 (λx=> [(0,SZ rws),(3,.ptr 3 0),(4,.ptr 4 0),(6,.int .i64 (x.1.1:Int))]) (λx=> [(3,Xc x.1.2,Hf),(4,D3,Hf)]) (λx=> []) (λx=>(rws).length-x.1.1) ⟨(0,o),Je _,rfl⟩ ⟨rfl,(Fc4 rfl rfl rfl rfl),(Fc2 ⟨rfl,rfl⟩ ⟨rfl,rfl⟩),fnl⟩ (λx=>⟨(Fc4 rfl rfl rfl rfl),(Fc2 rfl rfl)⟩) (λx=> ?_);obtain⟨⟨k,p⟩,hk,hI⟩:=x;simp only at hk hI ⊢;by_cases h:(k:Int)<(rws.length:Int)
 (have hka:k<(rws).length:=by omega);(have w1:=WD hka (hlm));(have i1:=Jc k)
 have i0:=Jc k
 have hT:=ZhX (rws.getD k Jd) p (hx _ (Zf (d:=Jd) hka));rw[ZjX hka,SO]at hI;cases hz:(Ut (rws.getD k Jd) p).2
 ·rw[if_pos hz]at hI;simp only[go_sem,SZ,h];refine vDq ?_;simp only[go_sem,ZcI hka,lns,i0,i1,h,Xc,opv];refine vc6 hT ?_;simp only[go_sem,opb,opv,hz,<-hI,D3];try rfl
 ·rw[if_neg (by rw[hz];simp)]at hI;simp only[go_sem,SZ,h];refine vDq ?_;simp only[go_sem,ZcI hka,lns,i0,i1,h,Xc,opv];refine vc6 hT ?_;simp only[go_sem,opb,opv,hz,w1,D3];exact⟨⟨(k+1,(Ut (rws.getD k Jd) p).1),by(try simp only);omega,hI⟩,by show(rws).length-(k+1)<(rws).length-k;omega,⟨rfl,(Fc4 rfl rfl rfl rfl),(Fc2 ⟨rfl,rfl⟩ ⟨rfl,rfl⟩),fnl⟩⟩
 obtain rfl:k=rws.length:=by omega
 have hd:XO rws o=(p,Ht):=by rw[<-hI,Jl];rfl
 simp only[go_sem,SZ,h,hd,opb,opv,Xc,D3]
theorem Zh0 (m:List Eg) (o:Opn) (a b:Tg) (hm:OkM m) (hr:RightM m):Pp 149 [egs m,opv o,tg a,tg b] (opb (Zfh m a b o)):=by
 have hR:=Zjp m a b hm hr;obtain⟨hrl,hro⟩:=Zoj (a:=a) (b:=b) hm;have hA:=Zfp (Zb6 m a b).1 o hrl hro;have hc2:(Zb6 m a b).2=Wu m a b:=by unfold Zb6;split<;>simp_all
 unfold Zfh;by_cases hc:Wu m a b=0;rw[if_neg (λh=>h hc)];rw[hc]at hc2;generalize Zb6 m a b=rw0 at *;obtain⟨rws,c0⟩:=rw0;simp only at hc2 hrl hro hA ⊢;subst hc2;cases hz:(XO rws o).2
 ·simp only[if_true];refine ZB func149 rfl ntmps149 results149 (Zo _) ?_;simp only[go_sem,egs,tg,opv];refine vc3 hR ?_;simp only[go_sem,Zhb,SZ];refine Zl hA ?_ ?_ ?_;iterate 2 simp only[go_sem,SZ,opv]
  simp only[go_sem,opb,opv,hz,Za];try rfl
 ·simp only[Ja,if_false];refine ZB func149 rfl ntmps149 results149 (Zo _) ?_;simp only[go_sem,egs,tg,opv];refine vc3 hR ?_;simp only[go_sem,Zhb,SZ];refine Zl hA ?_ ?_ ?_;iterate 2 simp only[go_sem,SZ,opv]
  simp only[go_sem,opb,opv,hz,Zsp]
 have hc':(Wu m a b !=0)=true:=by simpa using hc
 rw[if_pos hc];refine ZB func149 rfl ntmps149 results149 (Zo _) ?_;simp only[go_sem,egs,tg,opv];refine vc3 hR ?_;simp only[go_sem,Zhb,SZ,hc2,hc',opb,Za];try rfl
end Go.Proofs.YtepchngegclagaaGreat
