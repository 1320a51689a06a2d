/- Lemmas of the proof. -/
import Derived.Test.YtadgngamdofhiaaGreatPlH
import Derived.Test.YtadgngamdofhiaaGreatXAa
import Derived.Test.YtadgngamdofhiaaGreatXAe
import Derived.Test.YtadgngamdofhiaaGreatXAi
import Derived.Test.YtadgngamdofhiaaGreatXAz
import Derived.Test.YtadgngamdofhiaaGreatXBc
import Derived.Test.YtadgngamdofhiaaGreatXBd
import Derived.Test.YtadgngamdofhiaaGreatXBs
import Derived.Test.YtadgngamdofhiaaGreatXCc
import Derived.Test.YtadgngamdofhiaaGreatXCe
import Derived.Test.YtadgngamdofhiaaGreatXDa
import Derived.Test.YtadgngamdofhiaaGreatXEl
open Inhabited renaming default→Jd
open Go.Proofs.Tryz
open Go Go.PL
open Bool renaming and_self→Ji,true_and→Jj,false_and→Jo,true_eq_false→Jp,eq_iff_iff→Ju
open Int renaming natCast_nonneg→Ja,reduceEq→JB
open List renaming map_append→Jb,length_append→Jc,length_map→Je,length_take_le→Jf,take_sublist→Jh,filter_cons_of_neg→Jk,filter_cons_of_pos→Jl,take_of_length_le→Jm,length_filter_le→Jn,filter_append→Jq,not_mem_nil→Jr,append_nil→Jv,mem_cons→Jy,map_nil→Jz
open Nat renaming le_trans→Jg,zero_le→Jt
open PV renaming nomapL→Js,nomap→Jw,ids→JA,str→JD
open Pub renaming clean→JC
namespace Go.Proofs.YtadgngamdofhiaaGreat
set_option maxHeartbeats 64000000
set_option maxRecDepth 20000
set_option linter.unusedVariables false
set_option linter.unusedSimpArgs false
open Go.PL Go.PL.Srt
theorem ZkL (m:List Eg) (x0:Opn) (l0:List Opn) (cart:Str) (b:Tg) (hm:OkM m) (hr:RightM m) (hl:(x0::l0).length<=100000) (ho:∀o∈x0::l0,OkOp o) (hU:((x0::l0).map Opn.id).Nodup)
  (hv:(YA m (x0::l0) cart b).2=0) (hs:(Ys (Zd m) b).2=0) (hn:(YA m [] cart b).2=0):
  Pp 10 [tr (Zd m),Zq (x0::l0),.str cart,tg b] (ZjZ (Zbc m (Ys (Zd m) b).1 cart b [] (YA m [] cart b).1 (srt Z4 (x0::l0)) [])):=by
 have hcl:∀l:List Opn,∀p∈l.map opv,p.ids= []:=λl=>YM X2 l
 have hV:=Um m (x0::l0) cart b hm hr ho hU;have hS:=X0 m b hm;have hN:=Um m [] cart b hm hr (λo h=>by cases h) (by simp);have hC:=Zd2 x0 l0 hl;have hSS:=Sv Zmw 62 (x0::l0).length (by omega) (x0::l0) (ZhC hU) rfl _ rfl;have hF:=DR hm (a:=b) hs;have hpm:=YU (lt:=Z4) (x0::l0);have hVa:=λah (h1:∀o∈ah,OkOp o) (h2:(ah.map Opn.id).Nodup)=>Um m ah cart b hm hr h1 h2
 have hPl:=λo (h:OkOp o)=>Zi6 m o cart hm h
 have hvo:=λah=>ZdV (m:=m) (l:=ah) (cart:=cart) (b:=b) hm
 have hsU:((srt Z4 (x0::l0)).map Opn.id).Nodup:=(hpm.map Opn.id).nodup_iff.2 hU;have hso:∀o∈srt Z4 (x0::l0),OkOp o:=λo h=>ho o (hpm.mem_iff.1 h)
 have hsl:(srt Z4 (x0::l0)).length=(x0::l0).length:=hpm.length_eq;have hwd:=hvo [];have e1:((YA m (x0::l0) cart b).2 !=0)=false:=by simp[hv]
 have e2:((Ys (Zd m) b).2 !=0)=false:=by simp[hs]
 have e3:((YA m [] cart b).2 !=0)=false:=by simp[hn]
 generalize hL:x0::l0=L at *;generalize srt Z4 L=s at *;generalize YA m L cart b=V at *;generalize hW:YA m [] cart b=W at *;obtain⟨vd,vc⟩:=V;obtain⟨⟨wh,wr⟩,wc⟩:=W;generalize Ys (Zd m) b=X at *;obtain⟨F,xc⟩:=X;simp only at hv hs hn e1 e2 e3 hF hwd ⊢;subst hv hs hn;generalize hR:Zbc m F cart b [] ⟨wh,wr⟩ s []=R;have hlm:s.length<=maxLen:=by rw[Zb];omega
 simp only[Zq,Jz]at hN;refine ZA func10 rfl ntmps10 results10 (Ze9 _) ?_;simp only[go_sem,tr,Zq,tg];refine vc7 hV ?_;simp only[go_sem,D0,doc,e1];refine vc5 hS ?_;simp only[go_sem,ZM,Zi,e2];refine vc7 hN ?_;simp only[go_sem,D0,doc,e3];refine GS 54 hC (hcl _) (by simp[JA,Zq]) rfl rfl ?_;simp only[go_sem,PV.ren,id];refine YY 54 hSS (by simp[JA,PV.idsL]) (hcl _) (hcl _) rfl rfl rfl ?_;simp only[go_sem];have hsm:(s.map opv).length=L.length:=by rw[Je,hsl]
 refine ZgF 57 54 15 62 (s.map opv) (by rw[hsm];rfl) (by rw[hsm];rfl) rfl (hcl _) ?_;refine YO 16 102 3 70 rfl rfl ?_;refine YO 17 71 15 62 rfl rfl ?_;refine Zt (ι:=HisS m F cart b s R) 106 (λx=> [(0,tr (Zd m)),(2,.str cart),(7,.ptr 7 0),(12,Zi F),(14,.ptr 14 0),(16,.sl (.row 102) (x.acc.map mo)),(17,.sl (.row 71) (x.ah.map opv)),(57,Zq s),(58,.int .i64 (L.length:Int)),(59,.int .i64 (x.k:Int))]) (λx=> [(7,[.int .i64 b.r,.int .i64 b.n],false),(14,[.sl .no (x.was.head.map ent),.sl .no (x.was.rows.map row)],false)]) (λx=> [(102,.live x.acc.length 3 70),(71,.live x.ah.length 15 62)]) (λx=>s.length-x.k) ⟨0,[],⟨wh,wr⟩,[],Jt _,by simp,hwd,by simp,by rw[List.drop_zero];exact hR⟩
  ⟨rfl,(Fc10 rfl rfl rfl rfl rfl rfl rfl rfl rfl rfl),Fc2 ⟨rfl,rfl⟩ ⟨rfl,rfl⟩,(Fc2 rfl rfl)⟩ (λx=>⟨Fc10 rfl rfl rfl rfl rfl (by simp[JA,ZG]) (by simp[JA,ZG]) rfl rfl rfl,Fc2 rfl rfl⟩) (λx=> ?_)
 clear hV hS hN hC hSS hR hwd hW;obtain⟨k,ah,was,acc,hk,ha,hw,hal,hR⟩:=x;obtain⟨ws,wt⟩:=was;simp only;by_cases h:(k:Int)<(L.length:Int);have hka:k<s.length:=by omega
 have hls:(k:Int)<(s.length:Int):=by omega
 have i1:=Ja k
 have w1:=Xb hka hlm;have hox:=hso _ (Zs (d:=Jd) hka);have hdr:s.drop k=s.getD k Jd::s.drop (k+1):=by rw[List.drop_eq_getElem_cons hka,getD_lt hka]
 rw[hdr]at hR;have hP:=hPl _ hox;have htk:s.take (k+1)=s.take k++ [s.getD k Jd]:=ZW hka;have hsub:(ah++ [s.getD k Jd]).Sublist (s.take (k+1)):=by rw[htk];exact ha.append (.refl _)
 have hsub0:ah.Sublist (s.take (k+1)):=by rw[htk];exact ha.trans (List.sublist_append_left _ _)
 have hss:=hsub.trans (Jh _ _);have hVa':=hVa (ah++ [s.getD k Jd]) (λo h=>hso o (hss.mem h)) (List.Nodup.sublist (hss.map _) hsU);have hvo':=hvo (ah++ [s.getD k Jd]);have hall:ah.length<=k:=Jg ha.length_le (Jf _ _);have hrm:=Yb (show ah.length+1<=1000000 by omega) (show 176<=1000 by omega);have hrm2:=Yb (show acc.length+1<=1000000 by omega) (show 40<=1000 by omega);have hsz:=Yx ah;have hml:(ah.map opv).length=ah.length:=Je _;have hsz2:=ZiD acc;have hml2:(acc.map mo).length=acc.length:=Je _;generalize hx:s.getD k Jd=x at *;have hsx:Sized 15 [opv x]:=Yx [x];have hax:Xw [opv x]:=Wi [x];simp only[opv]at hsx hax;unfold Zbc at hR;cases hp:Zfs m x cart;rw[hp]at hP;rw[if_pos hp]at hR;simp only[go_sem,Zq,h,hls,Zl hka,hx,opv,i1];refine vc7 hP ?_;simp only[go_sem,w1];exact⟨⟨k+1,ah,⟨ws,wt⟩,acc,by omega,hsub0,hw,by omega,hR⟩,nx9 (by omega),⟨rfl,(Fc10 rfl rfl rfl rfl rfl rfl rfl rfl rfl rfl),Fc2 ⟨rfl,rfl⟩ ⟨rfl,rfl⟩,(Fc2 rfl rfl)⟩⟩;rw[hp]at hP;rw[if_neg (by rw[hp];simp)]at hR;have hD:=Zi0 F ⟨ws,wt⟩ (YA m (ah++ [x]) cart b).1 (by rw[Zb];have:=hF.n;omega) hF.c hw hvo';simp only[Zq,Jb,List.map_cons,Jz,opv]at hVa';generalize YA m (ah++ [x]) cart b=Y at *;obtain⟨⟨yh,yr⟩,yc⟩:=Y;simp only at hR hD hvo';by_cases hyc:yc=0;subst hyc;rw[if_neg (by simp)]at hR;generalize FQ F ⟨ws,wt⟩ ⟨yh,yr⟩=D at *;obtain⟨dl,dc⟩:=D;simp only at hR hD;by_cases hdc:dc=0;subst hdc;rw[if_neg (by simp)]at hR;cases dl with
 |nil=>
  rw[if_pos rfl]at hR;simp only[go_sem,Zq,h,hls,Zl hka,hx,opv,i1];refine vc7 hP ?_;simp only[go_sem,hml,hrm,hsz,hsx,hax];refine vc7 (hVa') ?_;simp only[go_sem,D0,doc];refine vc2 hD ?_;simp only[go_sem,Za9,Zc5,w1];exact⟨⟨k+1,ah++ [x],⟨yh,yr⟩,acc,by omega,hsub,hvo',by omega,hR⟩,nx9 (by omega),⟨rfl,by simp only;rw[Jb];exact(Fc10 rfl rfl rfl rfl rfl rfl rfl rfl rfl rfl),Fc2 ⟨rfl,rfl⟩ ⟨rfl,rfl⟩,by simp only;rw[Jc];exact(Fc2 rfl rfl)⟩⟩
 |cons d0 dl=>
  rw[if_neg (by simp)]at hR;have hsm:Sized 3 [mo ⟨x.id,d0::dl⟩]:=ZiD [⟨x.id,d0::dl⟩];have ham:Xw [mo ⟨x.id,d0::dl⟩]:=Zoj [⟨x.id,d0::dl⟩];have hdl:(0:Int)<((d0::dl).length:Int):=by rw[List.length_cons];omega
  generalize d0::dl=ds at *;simp only[mo]at hsm ham;simp only[go_sem,Zq,h,hls,Zl hka,hx,opv,i1];refine vc7 hP ?_;simp only[go_sem,hml,hrm,hsz,hsx,hax];refine vc7 (hVa') ?_;simp only[go_sem,D0,doc];refine vc2 hD ?_;simp only[go_sem,Za9,Zc5,hdl,hml2,hrm2,hsz2,hsm,ham,w1];exact⟨⟨k+1,ah++ [x],⟨yh,yr⟩,acc++ [⟨x.id,ds⟩],by omega,hsub,hvo',by rw[Jc];simp;omega,hR⟩,nx9 (by omega),⟨rfl,by simp only;rw[Jb,Jb];exact(Fc10 rfl rfl rfl rfl rfl rfl rfl rfl rfl rfl),Fc2 ⟨rfl,rfl⟩ ⟨rfl,rfl⟩,by simp only;rw[Jc,Jc];exact(Fc2 rfl rfl)⟩⟩
 have e5:(dc !=0)=true:=by simpa using hdc
 rw[if_pos hdc]at hR;subst hR;simp only[go_sem,Zq,h,hls,Zl hka,hx,opv,i1];refine vc7 hP ?_;simp only[go_sem,hml,hrm,hsz,hsx,hax];refine vc7 (hVa') ?_;simp only[go_sem,D0,doc];refine vc2 hD ?_;simp only[go_sem,Za9,Zc5,e5,ZjZ,mos];have e4:(yc !=0)=true:=by simpa using hyc
 rw[if_pos hyc]at hR;subst hR;simp only[go_sem,Zq,h,hls,Zl hka,hx,opv,i1];refine vc7 hP ?_;simp only[go_sem,hml,hrm,hsz,hsx,hax];refine vc7 (hVa') ?_;simp only[go_sem,D0,doc,e4,ZjZ,mos];obtain rfl:k=s.length:=by omega
 rw[List.drop_length]at hR;unfold Zbc at hR;subst hR;simp only[go_sem,Zq,h,ZjZ,mos]
theorem ZkM (m:List Eg) (x0:Opn) (l0:List Opn) (cart:Str) (b:Tg) (hm:OkM m) (hr:RightM m) (hl:(x0::l0).length<=100000) (ho:∀o∈x0::l0,OkOp o) (hU:((x0::l0).map Opn.id).Nodup):
  Pp 10 [tr (Zd m),Zq (x0::l0),.str cart,tg b] (ZjZ (ZoP m (x0::l0) cart b)):=by
 unfold ZoP;by_cases hv:(YA m (x0::l0) cart b).2=0;rw[if_neg (by simpa using hv)];by_cases hs:(Ys (Zd m) b).2=0;rw[if_neg (by simpa using hs)];by_cases hn:(YA m [] cart b).2=0;rw[if_neg (by simpa using hn)];exact ZkL m x0 l0 cart b hm hr hl ho hU hv hs hn;exfalso;apply hn;unfold YA at hv ⊢;rw[if_neg (by simp)];split at hv;simp at hv;split at hv;simp at hv;rename_i h2;rw[if_neg h2,if_neg (by simpa using hs)];exfalso;unfold YA at hv;split at hv;simp at hv;split at hv;simp at hv;exact hs hv;rw[if_pos hv];have hV:=Um m (x0::l0) cart b hm hr ho hU;have e1:((YA m (x0::l0) cart b).2 !=0)=true:=by simpa using hv
 generalize x0::l0=L at *;generalize YA m L cart b=V at *;obtain⟨vd,vc⟩:=V;simp only at e1 ⊢;refine ZA func10 rfl ntmps10 results10 (Ze9 _) ?_;simp only[go_sem,tr,Zq,tg];refine vc7 hV ?_;simp only[go_sem,D0,doc,e1,ZjZ,mos]
open Go.PL Go.PL.Srt
def ZlP (m:List Eg) (F:List Fd) (cart:Str) (b:Tg):List Opn->Dc->List Opn->List Mo->List Mo×Int
 |_,_,[],acc=>(acc,0)
 |ah,was,o::s,acc=>
  if Zfs m o cart=false then ZlP m F cart b ah was s acc
  else if(YA m (ah++ [o]) cart b).2≠0 then([],(YA m (ah++ [o]) cart b).2)
  else if(ZgO F was (YA m (ah++ [o]) cart b).1).2≠0 then([],(ZgO F was (YA m (ah++ [o]) cart b).1).2)
  else ZlP m F cart b (ah++ [o]) (YA m (ah++ [o]) cart b).1 s (if(ZgO F was (YA m (ah++ [o]) cart b).1).1= []then acc else acc++ [⟨o.id,(ZgO F was (YA m (ah++ [o]) cart b).1).1⟩])
theorem ZlQ {m:List Eg} (hm:OkM m) {F:List Fd} {cart:Str} {b:Tg}:∀(s ah:List Opn) (was:Dc) (acc:List Mo),OkDd was->Zbc m F cart b ah was s acc=ZlP m F cart b ah was s acc
 | [],ah,was,acc,h=>rfl
 |o::s,ah,was,acc,h=>by
  have hv:=ZdV (m:=m) (l:=ah++ [o]) (cart:=cart) (b:=b) hm;have hd:FQ F was (YA m (ah++ [o]) cart b).1=ZgO F was (YA m (ah++ [o]) cart b).1:=Zoz (by have:=h.r;have:=hv.r;omega);unfold Zbc ZlP;rw[hd,ZlQ hm s ah was acc h,ZlQ hm s (ah++ [o]) (YA m (ah++ [o]) cart b).1 _ hv]
def awP:Opn:=⟨⟨1,2⟩,Jd,2,[97],3,[112,101,97,114],⟨1,[],[113,116,121]⟩,3,false,[],[]⟩
def Za8:Dc:=⟨[⟨⟨0,[],[99,111,117,112,111,110]⟩,0,[[]]⟩],[⟨[112,101,97,114],[⟨⟨1,[],[110,111,116,101]⟩,0,[[]]⟩,⟨⟨1,[],[113,116,121]⟩,3,[]⟩,⟨⟨1,[],[115,105,122,101]⟩,0,[[109,101,100,105,117,109]]⟩,⟨⟨1,[],[116,97,103,115]⟩,0,[]⟩]⟩]⟩
def awC:Cg:=⟨2,[112,101,97,114],Jd,Jd,[⟨⟨1,[],[110,111,116,101]⟩,0,[[]]⟩,⟨⟨1,[],[113,116,121]⟩,0,[]⟩,⟨⟨1,[],[115,105,122,101]⟩,0,[[109,101,100,105,117,109]]⟩,⟨⟨1,[],[116,97,103,115]⟩,0,[]⟩]⟩
def awO38:Cg:=⟨1,[112,101,97,114],⟨⟨1,[],[113,116,121]⟩,0,[]⟩,⟨⟨1,[],[113,116,121]⟩,3,[]⟩,[]⟩
def awH:List Mo:= [⟨⟨1,1⟩,[awC]⟩,⟨⟨1,2⟩,[awO38]⟩]
theorem awV:YA [] [awP,svA] [97] Jd=(Za8,0):=by decide+kernel
theorem ZxH:ZoH Za8 [112,101,97,114] ⟨1,[],[113,116,121]⟩=(⟨⟨1,[],[113,116,121]⟩,3,[]⟩,0):=by decide+kernel
theorem ZxI:ZoH Za8 [112,101,97,114] ⟨1,[],[110,111,116,101]⟩=(⟨⟨1,[],[110,111,116,101]⟩,0,[[]]⟩,0):=by decide+kernel
theorem ZxJ:ZlP [] (Ys (Zd []) Jd).1 [97] Jd [] (YA [] [] [97] Jd).1 (srt Z4 [awP,svA]) []=(awH,0):=by decide+kernel
theorem ZxK:ZoP [] [awP,svA] [97] Jd=(awH,0):=by
 unfold ZoP;rw[if_neg (by rw[awV];simp),if_neg (by decide+kernel),if_neg (by decide+kernel),ZlQ SR _ _ _ _ (ZdV SR),ZxJ]
theorem Zwv:∀o∈ [awP,svA],OkOp o:=by
 intro o ho;simp only[Jy,Jr,or_false]at ho;rcases ho with rfl|rfl<;>exact⟨by decide⟩
theorem ZhX:ZnP Za8/\Zsu Za8:=by
 refine⟨⟨by rw[Zb];decide,by rw[Zb];decide,?_,?_⟩,?_,?_⟩<;>simp[Za8,Zb]
theorem ZxF:(awH.reverse.find? (ZnS [112,101,97,114] ⟨1,[],[113,116,121]⟩)).elim Jd Mo.id=⟨1,2⟩:=by decide+kernel
theorem ZxG:(awH.reverse.find? (ZnS [112,101,97,114] ⟨1,[],[110,111,116,101]⟩)).elim Jd Mo.id=⟨1,1⟩:=by decide+kernel
theorem Zmk (c:Cg):(chg c).nomap=true:=by simp only[chg,Jw,Js,Sf,Vw _ Zml,Ji]
theorem Zo5 (x:Mo):(mo x).nomap=true:=by simp only[mo,Jw,Js,Vw _ Zmk,Ji]
theorem Zj0 (x:List Mo×Int):(ZjZ x).nomap=true:=by simp only[ZjZ,mos,Jw,Js,Vw _ Zo5,Ji]
theorem Zfh (x:Tg×Int):(tgc x).nomap=true:=by simp only[tgc,tg,Jw,Js,Ji]
theorem V1:Pp 5 [] (.bool true):=by
 have hV:=Um [] [awP,svA] [97] Jd SR ZaH Zwv (by decide);have hF1:=Zd4 Za8 [112,101,97,114] ⟨1,[],[113,116,121]⟩ ZhX.1 ZhX.2;have hF2:=Zd4 Za8 [112,101,97,114] ⟨1,[],[110,111,116,101]⟩ ZhX.1 ZhX.2;have hH:=ZkM [] awP [svA] [97] Jd SR ZaH (by simp) Zwv (by decide);rw[awV]at hV;rw[ZxH]at hF1;rw[ZxI]at hF2;rw[ZxK]at hH;have hx:∀x∈awH,x.l.length<=1000000:=by
  intro x hx;simp only[awH,Jy,Jr,or_false]at hx;rcases hx with rfl|rfl<;>simp
 have hB1:=Zbo [] [awP,svA] [97] Jd _ _ Za8 _ awH hV hF1 hH (by simp[awH]) hx;have hB2:=Zbo [] [awP,svA] [97] Jd _ _ Za8 _ awH hV hF2 hH (by simp[awH]) hx;rw[ZxF]at hB1;rw[ZxG]at hB2;have hn1:=Zj0 (awH,0);have hn2:=Zfh (⟨1,2⟩,0);have hn3:=Zfh (⟨1,1⟩,0);have hm1:awH.map mo= [mo ⟨⟨1,1⟩,[awC]⟩,mo ⟨⟨1,2⟩,[awO38]⟩]:=rfl;have hk1:awC.kind=2:=rfl;have hk2:awO38.kind=1:=rfl;generalize awC=C at *;generalize awO38=O at *;refine PL.Pure.of_vs func5 (by decide) rfl ntmps5 results5 (by simp) rfl ?_;simp only[go_sem];refine ZiO Zqe ?_ ?_ (λb hb=> ?_);simp only[go_sem];simp only[go_sem];simp only[go_sem];refine Fs hH hn1 ?_ ?_ ?_;simp only[go_sem];simp only[go_sem,mc];rfl;simp only[go_sem,ZjZ,mos,hm1];refine Fs hB1 hn2 ?_ ?_ ?_;simp only[go_sem];simp only[go_sem,mc];rfl;simp only[go_sem,tgc,tg];refine Fs hB2 hn3 ?_ ?_ ?_;simp only[go_sem];simp only[go_sem,mc];rfl;simp only[go_sem,tgc,tg,mo,chg,hk1,hk2];exact⟨_,rfl,rfl⟩
open Go.PL
theorem Zgo (l:List Fd) (o:Opn) (hl:OkFs l):Pp 184 [Zi l,opv o] (.bool (Tz l o)):=by
 have hR:=DG o;have hlm:l.length<=maxLen:=by have:=hl.n;rw[Zb];omega
 have hI:Pp 175 [Zi l,ref o.at'] (.int .i64 (idx (atF o.at') l)):=Fb l o.at' hlm;unfold Tz;obtain⟨id,sch,time,cart,kind,item,at',delta,has,text,drops⟩:=o;simp only at hI ⊢;generalize hq:X9 ⟨id,sch,time,cart,kind,item,at',delta,has,text,drops⟩=q at *;cases q;refine ZH func184 rfl ntmps184 results184 ?_;simp only[go_sem,Zi,opv];refine vc6 hR ?_;simp only[go_sem,Jo];simp only[Jj,Z1];by_cases k3:kind=3;have e3:(kind==3)=true:=by simpa using k3
 have e3':(kind !=3)=false:=by simpa using k3
 simp only[e3,Bool.true_or,Jp,if_false,if_pos k3];rcases Xy (atF at') l with h2|⟨g,hg,h2⟩;rw[h2]at hI;have hf:ZJ l at'=(Jd,6):=by unfold ZJ;rw[h2];rfl
 rw[hf];refine ZH func184 rfl ntmps184 results184 ?_;simp only[go_sem,Zi,opv];refine vc6 hR ?_;simp only[go_sem,e3'];refine vc2 hI ?_;simp only[go_sem,JB,Jo];rw[h2]at hI;have n1:¬(g:Int)<0:=by omega
 have n2:=Ja g
 have n3:(g:Int)<(l.length:Int):=by omega
 have hf:ZJ l at'=(l.getD g Jd,0):=by unfold ZJ;rw[h2,if_neg (by omega)];simp
 rw[hf];have ek:((l.getD g Jd).kind==1)=decide ((l.getD g Jd).kind=1):=by rw[Ju];simp
 refine ZH func184 rfl ntmps184 results184 ?_;simp only[go_sem,Zi,opv];refine vc6 hR ?_;simp only[go_sem,e3'];refine vc2 hI ?_;simp only[go_sem,e3,n1,n2,n3,Zx hg,fld,ek,Jj];have e3:(kind==3)=false:=by simpa using k3
 have e3':(kind !=3)=true:=by simpa using k3
 by_cases k4:kind=4;have e4:(kind==4)=true:=by simpa using k4
 have e4':(kind !=4)=false:=by simpa using k4
 simp only[e3,e4,Bool.or_true,Jp,if_false,if_neg k3];rcases Xy (atF at') l with h2|⟨g,hg,h2⟩;rw[h2]at hI;have hf:ZJ l at'=(Jd,6):=by unfold ZJ;rw[h2];rfl
 rw[hf];refine ZH func184 rfl ntmps184 results184 ?_;simp only[go_sem,Zi,opv];refine vc6 hR ?_;simp only[go_sem,e3',e4'];refine vc2 hI ?_;simp only[go_sem,JB,Jo];rw[h2]at hI;have n1:¬(g:Int)<0:=by omega
 have n2:=Ja g
 have n3:(g:Int)<(l.length:Int):=by omega
 have hf:ZJ l at'=(l.getD g Jd,0):=by unfold ZJ;rw[h2,if_neg (by omega)];simp
 rw[hf];have hcs:=hl.c _ (Ze (d:=Jd) hg);have hT:=Zjc (l.getD g Jd) text (by rw[Zb];omega);have ek:((l.getD g Jd).kind==4)=decide ((l.getD g Jd).kind=4):=by rw[Ju];simp
 cases has;refine ZH func184 rfl ntmps184 results184 ?_;simp only[go_sem,Zi,opv];refine vc6 hR ?_;simp only[go_sem,e3',e4'];refine vc2 hI ?_;simp only[go_sem,e3,n1,n2,n3,Zx hg,fld,ek,Jj,if_false];refine ZH func184 rfl ntmps184 results184 ?_;simp only[go_sem,Zi,opv];refine vc6 hR ?_;simp only[go_sem,e3',e4'];refine vc2 hI ?_;simp only[go_sem,e3,n1];refine vDq ?_;simp only[go_sem,n1,n2,n3,Zx hg,fld];refine vc2 hT ?_;simp only[go_sem,Jj,if_true];have e4:(kind==4)=false:=by simpa using k4
 have e4':(kind !=4)=true:=by simpa using k4
 refine ZH func184 rfl ntmps184 results184 ?_;simp only[go_sem,Zi,opv];refine vc6 hR ?_;simp only[go_sem,e3',e4',e3,e4,if_true]
open Go.PL Go.PL.Srt
theorem DH (f:Fd) (hk:f.kind=1\/f.kind=4):Pp 140 [fld f] (.agg [.int .i64 f.at'.sc,.str f.at'.gr,.str f.at'.nm,.int .i64 0,.sl .nil []]):=by
 refine PL.Pure.of_p [] func140 (by decide) rfl ntmps140 results140 (by simp) rfl ?_;rcases hk with h1|h4;have k1:(f.kind==1)=true:=by rw[h1];rfl
 simp only[go_sem,fld,k1];exact⟨_,rfl,JC rfl⟩;have k1:(f.kind==1)=false:=by rw[h4];rfl
 have k4:(f.kind==4)=true:=by rw[h4];rfl
 simp only[go_sem,fld,k1,k4];exact⟨_,rfl,JC rfl⟩
theorem Zdv {S:List Opn} {k:Nat} (p:Opn->Bool) (h:k<S.length):(S.take (k+1)).filter p=(S.take k).filter p++(if p (S.getD k Jd)=true then [S.getD k Jd]else []):=by
 rw[ZW (d:=Jd) h,Jq];congr 1;generalize S.getD k Jd=x;cases hr:p x;rw[Jk (by rw[hr];simp),if_neg (by simp)];rfl;rw[Jl (by exact hr),if_pos rfl];rfl
theorem Zlz (l:List Opn) (o:Opn):Zga (l++ [o])=Zga l+o.delta:=by simp[Zga]
theorem ZcC (l:List Opn) (o:Opn):Z5 (l++ [o])=Z5 l++(if(o.kind==4&&o.has)=true then [o.text]else []):=by
 unfold Z5;rw[Jq,Jb];congr 1;cases hr:(o.kind==4&&o.has);rw[Jk (by rw[hr];simp),if_neg (by simp)];rfl;rw[Jl (by exact hr),if_pos rfl];rfl
def gtC (i:Nat):List Str->PV
 | []=> .sl .nil []
 |x::l=> .sl (.row i) ((x::l).map .str)
def gtR (i:Nat):List Str->List (Nat×Row)
 | []=> []
 |x::l=> [(i,.live (x::l).length 1 9)]
theorem ZlM (i:Nat):gtC i []= .sl .nil []:=rfl
theorem ZlN (i:Nat):gtR i []= []:=rfl
theorem Zid (i:Nat) (x:Str) (l:List Str):gtC i (x::l)= .sl (.row i) ((x::l).map .str):=rfl
theorem Zde (i:Nat) (x:Str) (l:List Str):gtR i (x::l)= [(i,.live (x::l).length 1 9)]:=rfl
def Zl2 (W:List Str) (d:Str):List Str:=if W.length=0 then [d]else [W.getD (W.length-1) []]
theorem ZjU (W:List Str) (d t:Str):Zl2 (W++ [t]) d= [t]:=by
 unfold Zl2;rw[if_neg (by simp)];simp
theorem Zeb (f:Fd) (S:List Opn) (c it:Str) (hl:S.length<=1000) (hf:f.kind=1) (hSm:Sm (S.filter (Ve c it f.at'))):Pp 97 [fld f,Zq S,.str c,.str it] (ent ⟨f.at',Zga (S.filter (Ve c it f.at')),[]⟩):=by
 have hV:=DH f (.inl hf);have hlm:S.length<=maxLen:=by rw[Zb];omega
 have ef1:(f.kind==1)=true:=by rw[hf];rfl
 have ef2:(f.kind==2)=false:=by rw[hf];rfl
 have ef3:(f.kind==3)=false:=by rw[hf];rfl
 have ef4:(f.kind==4)=false:=by rw[hf];rfl
 refine ZA func97 rfl ntmps97 results97 (Xe _) ?_;simp only[go_sem,fld,Zq];refine vc2 hV ?_;simp only[go_sem,ent];refine Zt (ι:= { x:Nat // x<=(S).length }) 96 (λx=> [(1,Zq S),(2,.str c),(3,.str it),(4,.ptr 4 0),(8,.ptr 8 0),(9,.ptr 9 0),(10,.int .i64 (x.1:Int))]) (λx=> [(4,[.int .i64 f.at'.sc,.str f.at'.gr,.str f.at'.nm,.int .i64 f.kind,.str f.df,.sl .no (f.cases'.map .str),.int .i64 f.worth],false),(8,[.int .i64 0,.str [],.str [],.int .i64 0,.sl .nil []],false),(9,[.int .i64 f.at'.sc,.str f.at'.gr,.str f.at'.nm,.int .i64 (Zga ((S.take x.1).filter (Ve c it f.at'))),.sl .nil []],false)]) (λx=> []) (λx=>(S).length-x.1) ⟨0,Jt _⟩ ⟨rfl,(Fc7 rfl rfl rfl rfl rfl rfl rfl),(Fc3 ⟨rfl,rfl⟩ ⟨rfl,rfl⟩ ⟨rfl,rfl⟩),fnl⟩ (λx=>⟨(Fc7 rfl rfl rfl rfl rfl rfl rfl),(Fc3 rfl rfl rfl)⟩) (λx=> ?_);obtain⟨k,hk⟩:=x;simp only at hk ⊢;by_cases h:(k:Int)<(S.length:Int)
 (have hka:k<(S).length:=by omega);(have w1:=Xb hka (hlm));(have i1:=Ja k)
 have hsn:=Zdv (Ve c it f.at') hka;have hT:∀o∈(S.take (k+1)).filter (Ve c it f.at'),o∈S.filter (Ve c it f.at'):=λo ho=>((Jh _ _).filter _).mem ho
 have hTl:((S.take k).filter (Ve c it f.at')).length<=1000:=Jg (Jn _ _) (Jg (Jf _ _) (by omega));have hlim:=Zh5 (l:=(S.take k).filter (Ve c it f.at')) (λo ho=>hSm o (((Jh _ _).filter _).mem ho));generalize (S.take k).filter (Ve c it f.at')=T at *;generalize hT2:(S.take (k+1)).filter (Ve c it f.at')=T2 at *;generalize hx:S.getD k Jd=x at *;have skip:Ve c it f.at' x=false->T2=T:=λhh=>by rw[hsn,hh];simp
 cases k1:(x.cart==c);obtain rfl:=skip (by simp[Ve,k1]);simp only[go_sem,Zq,h,Zl hka,hx,opv,i1,k1,w1];exact⟨⟨k+1,by omega⟩,nx9 (by omega),⟨rfl,(Fc7 rfl rfl rfl rfl rfl rfl rfl),Fc3 ⟨rfl,rfl⟩ ⟨rfl,rfl⟩ ⟨by simp only;rw[hT2];rfl,rfl⟩,fnl⟩⟩;cases k2:(x.item==it);obtain rfl:=skip (by simp[Ve,k1,k2]);simp only[go_sem,Zq,h,Zl hka,hx,opv,i1,k1,k2,w1];exact⟨⟨k+1,by omega⟩,nx9 (by omega),⟨rfl,(Fc7 rfl rfl rfl rfl rfl rfl rfl),Fc3 ⟨rfl,rfl⟩ ⟨rfl,rfl⟩ ⟨by simp only;rw[hT2];rfl,rfl⟩,fnl⟩⟩;by_cases k3:x.at'=f.at';have hown:Ve c it f.at' x=true:=by simp[Ve,k1,k2,k3]
 rw[hown,if_pos rfl]at hsn;obtain⟨x3,x4,x5⟩:=hSm x (hT x (by rw[hsn];simp));have e3:(x.kind==3)=true:=by rw[x3];rfl
 have hds:=Zlz T x;rw[<-hsn]at hds;have ww:IntKind.i64.wrap (Zga T+x.delta)=Zga T+x.delta:=w64 (by omega);simp only[go_sem,Zq,h,Zl hka,hx,opv,i1,k1,k2,Zr,k3,ef1,ef2,ef3,ef4,e3,ww,w1];exact⟨⟨k+1,by omega⟩,nx9 (by omega),⟨rfl,(Fc7 rfl rfl rfl rfl rfl rfl rfl),Fc3 ⟨rfl,rfl⟩ ⟨rfl,rfl⟩ ⟨by simp only;rw[hT2,hds];rfl,rfl⟩,fnl⟩⟩;obtain rfl:=skip (by simp[Ve,k3]);simp only[go_sem,Zq,h,Zl hka,hx,opv,i1,k1,k2,Zr,k3,w1];exact⟨⟨k+1,by omega⟩,nx9 (by omega),⟨rfl,(Fc7 rfl rfl rfl rfl rfl rfl rfl),Fc3 ⟨rfl,rfl⟩ ⟨rfl,rfl⟩ ⟨by simp only;rw[hT2];rfl,rfl⟩,fnl⟩⟩;have htk:S.take k=S:=Jm (by omega);simp only[go_sem,Zq,h,htk,ent]
theorem Zea (f:Fd) (S:List Opn) (c it:Str) (hl:S.length<=1000) (hf:f.kind=4):Pp 97 [fld f,Zq S,.str c,.str it] (ent ⟨f.at',0,Z5 (S.filter (Ve c it f.at'))⟩):=by
 have hV:=DH f (.inr hf);have hlm:S.length<=maxLen:=by rw[Zb];omega
 have ef1:(f.kind==1)=false:=by rw[hf];rfl
 have ef2:(f.kind==2)=false:=by rw[hf];rfl
 have ef3:(f.kind==3)=false:=by rw[hf];rfl
 have ef4:(f.kind==4)=true:=by rw[hf];rfl
 refine ZA func97 rfl ntmps97 results97 (Xe _) ?_;simp only[go_sem,fld,Zq];refine vc2 hV ?_;simp only[go_sem,ent];refine Zt (ι:= { k:Nat // k<=S.length }) 96 (λx=> [(1,Zq S),(2,.str c),(3,.str it),(4,.ptr 4 0),(8,.ptr 8 0),(9,.ptr 9 0),(10,.int .i64 (x.1:Int))]) (λx=> [(4,[.int .i64 f.at'.sc,.str f.at'.gr,.str f.at'.nm,.int .i64 f.kind,.str f.df,.sl .no (f.cases'.map .str),.int .i64 f.worth],false),(8,[.int .i64 0,.str [],.str [],.int .i64 0,.sl .nil []],false),(9,[.int .i64 f.at'.sc,.str f.at'.gr,.str f.at'.nm,.int .i64 0,gtC 72 (Z5 ((S.take x.1).filter (Ve c it f.at')))],false)]) (λx=>gtR 72 (Z5 ((S.take x.1).filter (Ve c it f.at')))) (λx=>S.length-x.1) ⟨0,Jt _⟩
  ⟨rfl,(Fc7 rfl rfl rfl rfl rfl rfl rfl),Fc3 ⟨rfl,rfl⟩ ⟨rfl,rfl⟩ ⟨rfl,rfl⟩,fnl⟩ (λx=> ?_) (λx=> ?_)
 generalize Z5 ((S.take x.1).filter (Ve c it f.at'))=W;cases W with
 |nil=>exact⟨(Fc7 rfl rfl rfl rfl rfl rfl rfl),(Fc3 rfl rfl rfl)⟩
 |cons w W=>exact⟨(Fc7 rfl rfl rfl rfl rfl rfl rfl),Fc3 rfl rfl (by simp[gtC,gtR,JA,PV.idsL,ZG])⟩
 obtain⟨k,hk⟩:=x;simp only;by_cases h:(k:Int)<(S.length:Int);have hka:k<S.length:=by omega
 have i1:=Ja k
 have w1:=Xb hka hlm;have hsn:=Zdv (Ve c it f.at') hka;have hTl:((S.take k).filter (Ve c it f.at')).length<=1000:=Jg (Jn _ _) (Jg (Jf _ _) (by omega));have hWl:=So ((S.take k).filter (Ve c it f.at'));have hts:=ZcC ((S.take k).filter (Ve c it f.at')) (S.getD k Jd);have hr0:=Yb (show 1<=1000000 by omega) (show 16<=1000 by omega);generalize hx:S.getD k Jd=x at *;by_cases ho:Ve c it f.at' x=true/\(x.kind==4&&x.has)=true;obtain⟨ho,ho2⟩:=ho;rw[ho,if_pos rfl]at hsn;rw[<-hsn,ho2,if_pos rfl]at hts;clear hsn;generalize Z5 ((S.take k).filter (Ve c it f.at'))=W at *;simp only[Ve,Bool.and_eq_true,decide_eq_true_eq]at ho ho2;obtain⟨k1,k2,k3⟩:=ho;obtain⟨q1,q2⟩:=ho2;cases W with
 |nil=>
  rw[ZlM,ZlN];simp only[go_sem,Zq,h,Zl hka,hx,opv,i1,k1,k2,Zr,k3,ef1,ef2,ef3,ef4,q1,q2,w1];refine⟨hr0,⟨k+1,by omega⟩,nx9 (by omega),?_⟩;simp only;rw[hts];exact⟨rfl,(Fc7 rfl rfl rfl rfl rfl rfl rfl),Fc3 ⟨rfl,rfl⟩ ⟨rfl,rfl⟩ ⟨rfl,rfl⟩,fcs rfl fnl⟩
 |cons w W=>
  have hrm:=Yb (show(w::W).length+1<=1000000 by omega) (show 16<=1000 by omega);have hml:((w::W).map JD).length=(w::W).length:=Je _;have hsz:=Dw (w::W);have hap:((w::W)++ [x.text]).map JD=(w::W).map JD++ [.str x.text]:=by simp
  rw[Zid,Zde];have hne3:gtC 72 (w::W++ [x.text])= .sl (.row 72) ((w::W).map .str++ [.str x.text]):=by rw[<-hap];rfl
  have hne4:gtR 72 (w::W++ [x.text])= [(72,.live ((w::W).length+1) 1 9)]:=by rw[List.cons_append,Zde];simp
  generalize w::W=V at *;simp only[go_sem,Zq,h,Zl hka,hx,opv,i1,k1,k2,Zr,k3,ef1,ef2,ef3,ef4,q1,q2,w1,hrm,hml,hsz];refine⟨⟨k+1,by omega⟩,nx9 (by omega),?_⟩;simp only;rw[hts,hne3,hne4];exact⟨rfl,(Fc7 rfl rfl rfl rfl rfl rfl rfl),Fc3 ⟨rfl,rfl⟩ ⟨rfl,rfl⟩ ⟨rfl,rfl⟩,fcs rfl fnl⟩
 have hts':Z5 ((S.take (k+1)).filter (Ve c it f.at'))=Z5 ((S.take k).filter (Ve c it f.at')):=by
  by_cases ho1:Ve c it f.at' x=true;rw[ho1,if_pos rfl]at hsn;rw[<-hsn,if_neg (λh2=>ho ⟨ho1,h2⟩),Jv]at hts;exact hts;rw[if_neg ho1,Jv]at hsn;rw[hsn]
 clear hts hsn;generalize Z5 ((S.take k).filter (Ve c it f.at'))=W at *;have key:∀b1 b2 b3 b4 b5,(x.cart==c)=b1->(x.item==it)=b2->decide (x.at'=f.at')=b3->(x.kind==4)=b4->x.has=b5-> ¬((b1&&(b2&&b3))=true/\(b4&&b5)=true):=λb1 b2 b3 b4 b5 h1 h2 h3 h4 h5=>by
  subst h1 h2 h3 h4 h5;exact ho
 cases k1:(x.cart==c);simp only[go_sem,Zq,h,Zl hka,hx,opv,i1,k1,w1];refine⟨⟨k+1,by omega⟩,nx9 (by omega),?_⟩;simp only;rw[hts'];exact⟨rfl,(Fc7 rfl rfl rfl rfl rfl rfl rfl),Fc3 ⟨rfl,rfl⟩ ⟨rfl,rfl⟩ ⟨rfl,rfl⟩,(by cases W<;>first|exact fnl|exact fcs rfl fnl)⟩;cases k2:(x.item==it);simp only[go_sem,Zq,h,Zl hka,hx,opv,i1,k1,k2,w1];refine⟨⟨k+1,by omega⟩,nx9 (by omega),?_⟩;simp only;rw[hts'];exact⟨rfl,(Fc7 rfl rfl rfl rfl rfl rfl rfl),Fc3 ⟨rfl,rfl⟩ ⟨rfl,rfl⟩ ⟨rfl,rfl⟩,(by cases W<;>first|exact fnl|exact fcs rfl fnl)⟩;by_cases k3:x.at'=f.at';cases q1:(x.kind==4);simp only[go_sem,Zq,h,Zl hka,hx,opv,i1,k1,k2,Zr,k3,ef1,ef2,ef3,ef4,q1,w1];refine⟨⟨k+1,by omega⟩,nx9 (by omega),?_⟩;simp only;rw[hts'];exact⟨rfl,(Fc7 rfl rfl rfl rfl rfl rfl rfl),Fc3 ⟨rfl,rfl⟩ ⟨rfl,rfl⟩ ⟨rfl,rfl⟩,(by cases W<;>first|exact fnl|exact fcs rfl fnl)⟩;cases q2:x.has;simp only[go_sem,Zq,h,Zl hka,hx,opv,i1,k1,k2,Zr,k3,ef1,ef2,ef3,ef4,q1,q2,w1];refine⟨⟨k+1,by omega⟩,nx9 (by omega),?_⟩;simp only;rw[hts'];exact⟨rfl,(Fc7 rfl rfl rfl rfl rfl rfl rfl),Fc3 ⟨rfl,rfl⟩ ⟨rfl,rfl⟩ ⟨rfl,rfl⟩,(by cases W<;>first|exact fnl|exact fcs rfl fnl)⟩;exact absurd ⟨rfl,rfl⟩ (key true true true true true k1 k2 (by simpa using k3) q1 q2);simp only[go_sem,Zq,h,Zl hka,hx,opv,i1,k1,k2,Zr,k3,w1];refine⟨⟨k+1,by omega⟩,nx9 (by omega),?_⟩;simp only;rw[hts'];exact⟨rfl,(Fc7 rfl rfl rfl rfl rfl rfl rfl),Fc3 ⟨rfl,rfl⟩ ⟨rfl,rfl⟩ ⟨rfl,rfl⟩,(by cases W<;>first|exact fnl|exact fcs rfl fnl)⟩;have htk:S.take k=S:=Jm (by omega);rw[htk];generalize Z5 (S.filter (Ve c it f.at'))=W;cases W with
 |nil=>
  rw[ZlM,ZlN];simp only[go_sem,Zq,h,ent]
 |cons w W=>
  rw[Zid,Zde];simp only[go_sem,Zq,h,ent]
end Go.Proofs.YtadgngamdofhiaaGreat
